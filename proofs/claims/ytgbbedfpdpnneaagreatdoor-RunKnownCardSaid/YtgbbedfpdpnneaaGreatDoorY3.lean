/-
  What the functions of the given program reckon, each by a contract, up to the law. It is no claim by itself; each contract bears its own conditions.
-/
import Derived.Test.YtgbbedfpdpnneaaGreatDoorY2
set_option linter.unusedVariables false
set_option linter.unusedSimpArgs false
set_option maxRecDepth 100000
namespace Go.Scr
open Go.Proofs
open Nat renaming le_of_ble_eq_true → Za, mul_le_mul_left → Zi, zero_le → Zk, le_of_not_lt → Zl, mod_self → Zm, mul_succ → Zo, le_trans → Zp, dvd_of_mod_eq_zero → Zq, add_sub_cancel → Zr, sub_succ_lt_self → Zt, mul_one → Zu, div_eq_of_lt → Zv, le_antisymm → Zw, mul_mod_right → Z0, le_refl → Z1, lt_irrefl → Z3, add_sub_cancel_left → Z5, div_add_mod → Z8, zero_add → Jc, sub_self → Jd, mul_zero → Je, add_zero → Jf
open IntWalk renaming i64_in → Zb
open Int renaming toNat_natCast → Zc, tmod_eq_emod_of_nonneg → Zn, ofNat_inj → Z4
open List renaming length_append → Zd, length_drop → Ze, eq_nil_of_length_eq_zero → Zf, length_take → Zg, length_replicate → Zh, replicate → Zj, take_append_drop → Zs, nil_append → Zx, drop_of_length_le → Zy, replicate_succ' → Zz, drop_append → Z6, take_of_length_le → Z7, append_nil → Z9, set_append_right → Ja, take_nil → Jb
open Option renaming isSome_iff_exists → Z2
open Go.IntKind renaming i64 → I6
theorem c_step_byte {t key s k xs rs} (h:Ciph t key s k xs rs) {mode:Int} {back:Bool} {st:MS} {m:Nat} {vb:List Value} {b:Bs} (hvb:vb=bv b) (hb:b.length=m) (hbm:m≤1000000) (hm:3≤mode) (K:MK s mode st) (hne:0<m∨st.row=[]):
  Con C N.modes_Mode_Step [.p (.k 0) 0,.z m vb] [moX (cipV t k xs) mode back st 1,gnB st.row st.gone] (.ret (.t [.z m (bv (moMany (cF t key false) mode back st b).1),i64 0])) [moX (cipV t k xs) mode back (moMany (cF t key false) mode back st b).2 2,.dead,gnB (moMany (cF t key false) mode back st b).2.row (moMany (cF t key false) mode back st b).2.gone]:=by
 subst hvb
 have hs:=h.s_le
 have hci:=h.ci
 have G:=c_grain1 h (back:=back) (st:=st) hm
 refine fd.modes_Mode_Step.w ?_
 refine⟨0,Bool×Nat×MS×Bs,msD (cipV t k xs) mode back m b,fun x=>x.2.1≤m∧(moMany (cF t key false) mode back st (b.take x.2.1))=(x.2.2.2,x.2.2.1)∧MK s mode x.2.2.1∧(x.1=false→x.2.1=0),fun x=>m-x.2.1,?_,fun x hx=> ?_⟩
 ·obtain⟨ch,row,g⟩:=st
  cases row
  all_goals
   refine⟨[.k 0,.k 1],_,_,_,_,G,rfl,rfl,?_⟩
   refine⟨by decide,?_⟩
   refine spl_d (fun h=>absurd h (by rw[Int.tmod_one];decide)) (fun _=> ?_)
   refine⟨by decide,by omega,by omega,?_⟩
   exact⟨[],(false,0,_,[]),⟨Zk _,rfl,K,fun _=>rfl⟩,[.k 0,.k 1,.d 17 0],⟨rfl,rfl,rfl,rfl,trivial⟩,⟨_,rfl,rfl⟩,⟨_,rfl,rfl⟩,⟨_,rfl,rfl⟩,trivial⟩
 ·obtain⟨f,i,⟨ch,row,g⟩,o⟩:=x
  obtain⟨h1,h2,h3,h4⟩:=hx
  dsimp only at h1 h2 h3 h4
  cases f
  ·obtain rfl:=h4 rfl
   have e:(([]:Bs),st)=(o,⟨ch,row,g⟩):=h2
   obtain⟨rfl,rfl⟩:=Prod.mk.inj e
   refine spl_eq (fun h0=> ?_) (fun h0=> ?_)
   ·obtain rfl:m=0:=by omega
    obtain rfl:=Zf hb
    obtain rfl:row=[]:=hne.resolve_left (by omega)
    exact⟨.ret (.t [.z 0 [],i64 0]),[moX (cipV t k xs) mode back ⟨ch,[],g⟩ 2,.dead],⟨_,rfl,[.k 0,.k 1],rfl,⟨_,rfl,rfl⟩,⟨_,rfl,rfl⟩,trivial⟩,.ret (.refl _),.cons (.refl _) (.cons (.refl _) (.dd .nil))⟩
   ·have HB:=c_byte h (back:=back) (p:=b.getD 0 0) hm K
    have hN:=K.one hci (by omega) hm (back:=back) (b.getD 0 0)
    have hT:moMany (cF t key false) mode back ⟨ch,row,g⟩ (b.take (0+1))=([(moOne (cF t key false) mode back ⟨ch,row,g⟩ (b.getD 0 0)).1],(moOne (cF t key false) mode back ⟨ch,row,g⟩ (b.getD 0 0)).2):=by
     rw[take_succ_getD (by omega),moMany_snoc];rfl
    generalize moOne (cF t key false) mode back ⟨ch,row,g⟩ (b.getD 0 0)=x at*
    obtain⟨o',⟨ch',row',g'⟩⟩:=x
    dsimp only at HB hN hT
    have hsl:sub (bv b) 1 (m-1)=bv (b.drop 1):=bv_dropN hb (by omega)
    cases row<;>cases row'<;>(
     refine⟨by omega,by omega,_,bv_getD (k:=b) (i:=0) (by omega),?_⟩
     refine⟨[.k 0,.k 1],_,_,_,_,HB,rfl,rfl,?_⟩
     refine⟨Z1 _,by omega,by decide,?_⟩
     refine⟨by omega,by omega,by omega,by omega,?_⟩
     exact⟨rfl,(true,0+1,⟨ch',_,g'⟩,[o']),⟨by show 0+1≤m;omega,hT,hN,fun h=>by cases h⟩,(by show m-(0+1)<m-0;omega),[.k 0,.k 1,.d 38 2,.d 40 0],⟨rfl,congrArg (V.z _) hsl,rfl,rfl,trivial⟩,⟨_,rfl,rfl⟩,⟨_,rfl,rfl⟩,⟨_,rfl,rfl⟩,⟨_,rfl,q7s (one_blk rfl)⟩,trivial⟩)
  ·have lo:o.length=i:=by
    have:=moMany_len (cF t key false) mode back (b.take i) st
    rw[h2,Zg]at this
    dsimp only at this
    omega
   refine spl_eq (fun h0=> ?_) (fun h0=> ?_)
   ·obtain rfl:i=m:=by omega
    rw[Z7 (by omega)]at h2
    rw[h2]
    rcases row with _|⟨a,r⟩
    ·exact⟨_,[moX (cipV t k xs) mode back ⟨ch,[],g⟩ 2,.dead,gnB [] g],⟨_,rfl,[.k 0,.k 1,.k 2],congrArg (fun x=>V.t [x,i64 0]) (congrArg (V.z i) (bv_all lo)),⟨_,rfl,rfl⟩,⟨_,rfl,rfl⟩,⟨_,rfl,rfl⟩,trivial⟩,.ret (.refl _),.cons (.refl _) (.cons (.refl _) (.cons (.refl _) .nil))⟩
    ·exact⟨_,[moX (cipV t k xs) mode back ⟨ch,a::r,g⟩ 2,.dead,gnB (a::r) g],⟨_,rfl,[.k 0,.k 1,.k 2],congrArg (fun x=>V.t [x,i64 0]) (congrArg (V.z i) (bv_all lo)),⟨_,rfl,rfl⟩,⟨_,rfl,rfl⟩,⟨_,rfl,rfl⟩,trivial⟩,.ret (.refl _),.cons (.refl _) (.cons (.refl _) (.cons (.refl _) .nil))⟩
   ·have lt:i<m:=by omega
    have ld:(b.drop i).length=m-i:=by rw[Ze,hb]
    have HB:=c_byte h (back:=back) (p:=(b.drop i).getD 0 0) hm h3
    have hN:=h3.one hci (by omega) hm (back:=back) ((b.drop i).getD 0 0)
    have hT:moMany (cF t key false) mode back st (b.take (i+1))=(o++[(moOne (cF t key false) mode back ⟨ch,row,g⟩ ((b.drop i).getD 0 0)).1],(moOne (cF t key false) mode back ⟨ch,row,g⟩ ((b.drop i).getD 0 0)).2):=by
     rw[take_succ_getD (by omega),moMany_snoc,h2]
    generalize moOne (cF t key false) mode back ⟨ch,row,g⟩ ((b.drop i).getD 0 0)=x at*
    obtain⟨o',⟨ch',row',g'⟩⟩:=x
    dsimp only at HB hN hT
    have hsl:sub (bv (b.drop i)) 1 (m-i-1)=bv (b.drop (i+1)):=by rw[bv_dropN ld (by omega),List.drop_drop]
    cases row<;>cases row'<;>(
     refine⟨by omega,by omega,_,bv_getD (k:=b.drop i) (i:=0) (by omega),?_⟩
     refine⟨[.k 0,.k 2],_,_,_,_,HB,rfl,rfl,?_⟩
     refine⟨Z1 _,by omega,by rw[bv_len,lo];omega,?_⟩
     refine⟨by omega,by omega,by omega,by omega,?_⟩
     exact⟨rfl,(true,i+1,⟨ch',_,g'⟩,o++[o']),⟨by show i+1≤m;omega,hT,hN,fun h=>by cases h⟩,(by show m-(i+1)<m-i;omega),[.k 0,.k 1,.d 38 2,.d 40 0],⟨rfl,congrArg (V.z _) hsl,rfl,rfl,trivial⟩,⟨_,rfl,rfl⟩,⟨_,rfl,rfl⟩,⟨_,rfl,rfl⟩,⟨_,rfl,q7s (snoc_blk lo rfl)⟩,trivial⟩)
theorem c_step_nil {t key s k xs rs} (h:Ciph t key s k xs rs) {mode:Int} {back:Bool} {st:MS} {vb:List Value} (hm:3≤mode):
  Con C N.modes_Mode_Step [.p (.k 0) 0,.z 0 vb] [moX (cipV t k xs) mode back st 1,gnB st.row st.gone] (.ret (.t [.z 0 [],i64 0])) [moX (cipV t k xs) mode back st 1,gnB st.row st.gone]:=by
 have G:=c_grain1 h (back:=back) (st:=st) hm
 refine fd.modes_Mode_Step.c ?_
 refine⟨0,Unit,fun _=>⟨[(0,.p (.k 0) 0),(1,.z 0 vb),(6,i64 1),(7,.o 1 (.k 2) 0 0)],[moX (cipV t k xs) mode back st 1,gnB st.row st.gone,.sc []]⟩,fun _=>True,fun _=>0,?_,fun x hx=> ?_⟩
 ·obtain⟨ch,row,g⟩:=st
  cases row
  all_goals
   refine⟨[.k 0,.k 1],_,_,_,_,G,rfl,rfl,?_⟩
   refine⟨by decide,?_⟩
   refine⟨by decide,by omega,by omega,?_⟩
   exact⟨[],(),trivial,[.k 0,.k 1,.d 17 0],⟨rfl,rfl,rfl,rfl,trivial⟩,⟨_,rfl,rfl⟩,⟨_,rfl,rfl⟩,⟨_,rfl,rfl⟩,trivial⟩
 ·obtain⟨ch,row,g⟩:=st
  cases row
  all_goals
   exact⟨_,rfl,[.k 0,.k 1],rfl,⟨_,rfl,rfl⟩,⟨_,rfl,rfl⟩,trivial⟩
def msB (cv:V) (mode:Int) (back:Bool) (m s c:Nat) (b:Bs):Nat×Nat×Bs×Bs→D
 |(i,q,o,c')=>⟨[(0,.p (.k 0) 0),(1,.z (m-q) (bv (b.drop q))),(6,i64 s),(7,.o 1 (.k 2) 0 q)],[.mx [cv,i64 mode,bool back,.z c (bv c'),.z 0 [],.u],.dead,.sc (bv o)]⟩
theorem c_step_blk {t key s k xs rs} (h:Ciph t key s k xs rs) {mode:Int} {back:Bool} {c m:Nat} {vb:List Value} {ch b:Bs} (hvb:vb=bv b) (hb:b.length=m) (hbm:m≤1000000) (hm:mode=1∨mode=2∧c=s) (hc:ch.length=c) (hg:m%s=0):
  Con C N.modes_Mode_Step [.p (.k 0) 0,.z m vb] [.mx [cipV t k xs,i64 mode,bool back,.z c (bv ch),.z 0 [],.u],.dead] (.ret (.t [.z m (bv (moBlks (cF t key false) (cF t key true) mode back s b ch (m/s)).1),i64 0])) [.mx [cipV t k xs,i64 mode,bool back,.z c (bv (moBlks (cF t key false) (cF t key true) mode back s b ch (m/s)).2),.z 0 [],.u],.dead,.dead]:=by
 subst hvb
 have hs:=h.s_le
 have hci:=h.ci
 have hdm:=Z8 m s
 have hm12:mode=1∨mode=2:=by omega
 have G:=c_grainS h (back:=back) (c:=c) (vc:=bv ch) hm12
 refine fd.modes_Mode_Step.w ?_
 refine⟨0,Nat×Nat×Bs×Bs,msB (cipV t k xs) mode back m s c b,fun x=>x.2.1=s*x.1∧x.2.1≤m∧moBlks (cF t key false) (cF t key true) mode back s b ch x.1=(x.2.2.1,x.2.2.2)∧x.2.2.1.length=x.2.1∧x.2.2.2.length=c,fun x=>m-x.2.1,?_,fun x hx=> ?_⟩
 ·refine⟨[.k 0],_,_,_,_,G,rfl,rfl,?_⟩
  refine⟨by omega,?_⟩
  refine spl_d (fun h=>absurd h ?_) (fun _=> ?_)
  ·have:((m:Int).tmod (s:Int))=((m%s:Nat):Int):=by rw[Zn (by omega)];rfl
   rw[this,hg];decide
  refine⟨by decide,by omega,by omega,?_⟩
  exact⟨[],(0,0,[],ch),⟨by show 0=s*0;omega,Zk _,rfl,rfl,hc⟩,[.k 0,.k 1,.d 17 0],⟨rfl,rfl,rfl,rfl,trivial⟩,⟨_,rfl,rfl⟩,⟨_,rfl,rfl⟩,⟨_,rfl,rfl⟩,trivial⟩
 ·obtain⟨i,q,o,c'⟩:=x
  obtain⟨h1,h2,h3,h4,h5⟩:=hx
  dsimp only at h1 h2 h3 h4 h5
  have ld:(b.drop q).length=m-q:=by rw[Ze,hb]
  refine spl_eq (fun h0=> ?_) (fun h0=> ?_)
  ·obtain rfl:q=m:=by omega
   have hi:q/s=i:=by rw[h1,Nat.mul_div_cancel_left _ (by omega)]
   rw[hi,h3]
   exact⟨_,[.mx [cipV t k xs,i64 mode,bool back,.z c (bv c'),.z 0 [],.u],.dead],⟨_,rfl,[.k 0,.k 1],congrArg (fun x=>V.t [x,i64 0]) (congrArg (V.z q) (bv_all h4)),⟨_,rfl,rfl⟩,⟨_,rfl,rfl⟩,trivial⟩,.ret (.refl _),.cons (.refl _) (.cons (.refl _) (.dd .nil))⟩
  ·have hq:q+s≤m:=by
    have e1:m=s*(m/s):=by omega
    have:i<m/s:=by
     refine Nat.lt_of_mul_lt_mul_left (a:=s) ?_
     omega
    have:=Zi s this
    rw[Zo]at this
    omega
   have lp:(sub b q s).length=s:=by rw[sub_length];omega
   have hvp:sub (bv (b.drop q)) 0 s=bv (sub b q s):=bv_sub _ _ _
   have hn:moBlks (cF t key false) (cF t key true) mode back s b ch (i+1)=(o++(moBlk (cF t key false) (cF t key true) mode back c' (sub b q s)).1,(moBlk (cF t key false) (cF t key true) mode back c' (sub b q s)).2):=by
    rw[moBlks_succ,h3,←h1]
   have HB:=c_block h (mode:=mode) (back:=back) hvp rfl lp h5 hm
   have hl:=moBlk_ok (back:=back) hci hm12 (c:=c') (p:=sub b q s) (by omega) lp
   have hl2:(moBlk (cF t key false) (cF t key true) mode back c' (sub b q s)).2.length=c:=by
    rcases hm with rfl|⟨rfl,rfl⟩
    ·rw[←h5];rfl
    ·exact hl.2.resolve_left (by decide)
   have hl1:=hl.1
   generalize moBlk (cF t key false) (cF t key true) mode back c' (sub b q s)=x at*
   obtain⟨o',c2⟩:=x
   dsimp only at HB hn hl1 hl2
   have hsl:sub (bv (b.drop q)) s (m-q-s)=bv (b.drop (q+s)):=by rw[bv_dropN ld (by omega),List.drop_drop]
   refine spl_eq (fun h=>absurd h (by omega)) (fun _=> ?_)
   refine⟨by omega,by omega,by omega,by omega,?_⟩
   refine⟨[.k 0],_,_,_,_,HB,rfl,rfl,?_⟩
   refine⟨by first|omega|(rw [bv_len];omega),by omega,by rw[bv_len,h4];omega,?_⟩
   refine⟨by omega,by omega,by omega,by omega,?_⟩
   refine⟨rfl,(i+1,q+s,o++o',c2),⟨by show q+s=s*(i+1);rw[Zo];omega,hq,hn,by rw[Zd,h4,hl1],hl2⟩,(by show m-(q+s)<m-q;omega),[.k 0,.k 1,.d 24 0],⟨rfl,?_,rfl,rfl,trivial⟩,⟨_,rfl,rfl⟩,⟨_,rfl,rfl⟩,⟨_,rfl,q7s ?_⟩,trivial⟩
   ·show V.z (m-q-s) (sub (bv (b.drop q)) s (m-q-s))=V.z (m-(q+s)) _
    rw[hsl,Nat.sub_sub]
   ·show sub (bv o) 0 (q*1)++bv o'=_
    rw[Zu,bv_all h4,bv_app]
theorem moBlks_ch1 (E D back n) (b c:Bs):∀i,(moBlks E D 1 back n b c i).2=c
 |0=>rfl
 |i+1=>by
  rw[moBlks_succ]
  show(moBlk E D 1 back (moBlks E D 1 back n b c i).2 (sub b (n*i) n)).2=c
  unfold moBlk
  rw[if_pos rfl]
  exact moBlks_ch1 E D back n b c i
theorem moBlks_chlen {E D:Bs→Bs} {n:Nat} {mode:Int} {back:Bool} {b c:Bs} (h:CI E D n) (hm:mode=1∨mode=2∧c.length=n) {i:Nat} (hi:n*i≤b.length):(moBlks E D mode back n b c i).2.length=c.length:=by
 rcases hm with rfl|⟨rfl,hc⟩
 ·rw[moBlks_ch1]
 ·rw[((moBlks_ok (back:=back) h (.inr rfl) (.inr hc) i hi).2).resolve_left (by decide),hc]
theorem c_step {t key s k xs rs} (h:Ciph t key s k xs rs) {mode:Int} {back:Bool} {st:MS} {m:Nat} {vb:List Value} {b:Bs} (hvb:vb=bv b) (hb:b.length=m) (hbm:m≤1000000) (K:MK s mode st) (hg:m%moGrain s mode=0) (hne:0<m∨st.row=[]):
  Con C N.modes_Mode_Step [.p (.k 0) 0,.z m vb] [moX (cipV t k xs) mode back st 1,gnB st.row st.gone] (.ret (.t [.z m (bv (moStep (cF t key false) (cF t key true) s mode back st b).1),i64 0])) [moX (cipV t k xs) mode back (moStep (cF t key false) (cF t key true) s mode back st b).2 2,.dead,gnB (moStep (cF t key false) (cF t key true) s mode back st b).2.row (moStep (cF t key false) (cF t key true) s mode back st b).2.gone]:=by
 by_cases hm:mode=1∨mode=2
 ·have hr:=K.ok.blk hm
  have hc:=K.ok.ch
  obtain⟨ch,row,g⟩:=st
  dsimp only at hr hc
  subst hr
  have e:moStep (cF t key false) (cF t key true) s mode back ⟨ch,[],g⟩ b=((moBlks (cF t key false) (cF t key true) mode back s b ch (m/s)).1,⟨(moBlks (cF t key false) (cF t key true) mode back s b ch (m/s)).2,[],g⟩):=by
   unfold moStep
   rw[if_pos hm,hb]
  have hg':m%s=0:=by unfold moGrain at hg;rwa [if_pos hm]at hg
  have hdm:=Z8 m s
  have hl:=moBlks_chlen (back:=back) h.ci (b:=b) (c:=ch) (i:=m/s) (mode:=mode) (by omega) (by omega)
  have HB:=c_step_blk h (back:=back) hvb hb hbm (ch:=ch) (c:=ch.length) (mode:=mode) (by omega) rfl hg'
  rw[e]
  show Con C N.modes_Mode_Step [.p (.k 0) 0,.z m vb] [.mx [cipV t k xs,i64 mode,bool back,.z ch.length (bv ch),.z 0 [],.u],.dead] _ [.mx [cipV t k xs,i64 mode,bool back,.z (moBlks (cF t key false) (cF t key true) mode back s b ch (m/s)).2.length (bv (moBlks (cF t key false) (cF t key true) mode back s b ch (m/s)).2),.z 0 [],.u],.dead,.dead]
  rw[hl]
  exact HB
 ·have e:moStep (cF t key false) (cF t key true) s mode back st b=moMany (cF t key false) mode back st b:=by
   unfold moStep
   rw[if_neg hm]
  rw[e]
  exact c_step_byte h hvb hb hbm (by have:=K.ok.m;omega) K hne
theorem c_step_bad {t key s k xs rs} (h:Ciph t key s k xs rs) {mode:Int} {back:Bool} {st:MS} {m:Nat} {vb:List Value} (K:MK s mode st) (hg:m%moGrain s mode≠0):
  Con C N.modes_Mode_Step [.p (.k 0) 0,.z m vb] [moX (cipV t k xs) mode back st 1,gnB st.row st.gone] (.ret (.t [nilv,i64 7])) [moX (cipV t k xs) mode back st 1,gnB st.row st.gone]:=by
 have hs:=h.s_le
 have hm:mode=1∨mode=2:=by
  refine Classical.byContradiction fun hm=>hg ?_
  unfold moGrain;rw[if_neg hm,Nat.mod_one]
 have hr:=K.ok.blk hm
 obtain⟨ch,row,g⟩:=st
 dsimp only at hr
 subst hr
 have hg':m%s≠0:=by unfold moGrain at hg;rwa [if_pos hm]at hg
 have G:=c_grainS h (back:=back) (c:=ch.length) (vc:=bv ch) hm
 refine fd.modes_Mode_Step.c ?_
 refine⟨0,Unit,fun _=>⟨[],[]⟩,fun _=>False,fun _=>0,?_,fun x hx=>hx.elim⟩
 refine⟨[.k 0],_,_,_,_,G,rfl,rfl,?_⟩
 refine⟨by omega,?_⟩
 refine spl_d (fun _=> ?_) (fun h=>absurd ?_ h)
 ·exact⟨_,rfl,[.k 0,.k 1],rfl,⟨_,rfl,rfl⟩,⟨_,rfl,rfl⟩,trivial⟩
 ·have:((m:Int).tmod (s:Int))=((m%s:Nat):Int):=by rw[Zn (by omega)];rfl
  rw[this];omega
theorem c_grainA {t key s k xs rs} (h:Ciph t key s k xs rs) {mode:Int} {back:Bool} {st:MS} (K:MK s mode st):
  Con C N.modes_Mode_Grain [.p (.k 0) 0] [moX (cipV t k xs) mode back st 1,gnB st.row st.gone] (.ret (i64 (moGrain s mode))) [moX (cipV t k xs) mode back st 1,gnB st.row st.gone]:=by
 by_cases hm:mode=1∨mode=2
 ·have hr:=K.ok.blk hm
  obtain⟨ch,row,g⟩:=st
  dsimp only at hr
  subst hr
  have e:moGrain s mode=s:=by unfold moGrain;rw[if_pos hm]
  rw[e]
  refine fd.modes_Mode_Grain.c ?_
  refine⟨_,rfl,?_⟩
  rcases hm with rfl|rfl
  all_goals
   refine⟨_,rfl,?_⟩
   refine⟨[],_,_,_,_,h.size,rfl,rfl,?_⟩
   exact⟨_,rfl,[.k 0,.k 1],rfl,⟨_,rfl,rfl⟩,⟨_,rfl,rfl⟩,trivial⟩
 ·have e:moGrain s mode=1:=by unfold moGrain;rw[if_neg hm]
  rw[e]
  exact c_grain1 h (by have:=K.ok.m;omega)
def ivL (mode:Int) (s:Nat) (b:Bs):Bs:=if mode=1 then []else bytesN s b
def ivN (mode:Int) (s:Nat):Nat:=if mode=1 then 0 else s
theorem ivL_len (mode s b):(ivL mode s b).length=ivN mode s:=by
 unfold ivL ivN
 split
 ·rfl
 ·exact bytesN_len _ _
theorem c_iv {mode:Int} {s m:Nat} {vb:List Value} {b:Bs} (hv:vb=bv b) (hb:b.length=m) (hs:s≤1000):Con C N.law12_IV [i64 mode,i64 s,.z m vb] [] (.ret (.z (ivN mode s) (bv (ivL mode s b)))) []:=by
 unfold ivL ivN
 by_cases h1:mode=1
 ·rw[if_pos h1,if_pos h1]
  refine fd.law12_IV.w ?_
  refine spl_eq (fun _=> ?_) (fun h=>absurd h1 h)
  exact⟨.ret nilv,[],⟨_,rfl,[],rfl,trivial⟩,.ret .nl,.nil⟩
 ·rw[if_neg h1,if_neg h1]
  refine fd.law12_IV.c ?_
  refine spl_eq (fun h=>absurd h h1) (fun _=> ?_)
  refine⟨[],_,_,_,_,c_bytes hv hb (by omega),rfl,rfl,?_⟩
  exact⟨_,rfl,[],congrArg (V.z s) (bv_all (bytesN_len _ _)),trivial⟩
theorem moStep_nil {E D:Bs→Bs} {n:Nat} {mode:Int} {back:Bool} {s:MS}:moStep E D n mode back s []=([],s):=by
 unfold moStep
 by_cases hm:mode=1∨mode=2
 ·rw[if_pos hm]
  show((moBlks E D mode back n [] s.ch (0/n)).1,(⟨(moBlks E D mode back n [] s.ch (0/n)).2,s.row,s.gone⟩:MS))=_
  rw[Nat.zero_div];rfl
 ·rw[if_neg hm];rfl
theorem c_tell_y {kind:Int} (hk:kind=1∨kind=2∨kind=3):Con C N.pad_tell [i64 kind] [] (.ret (bool true)) []:=by
 refine fd.pad_tell.c ?_
 rcases hk with rfl|rfl|rfl<;>exact⟨_,rfl,[],rfl,trivial⟩
theorem c_sized_y {n:Nat} (h:n=8∨n=16):Con C N.pad_sized [i64 n] [] (.ret (bool true)) []:=by
 refine fd.pad_sized.c ?_
 rcases h with rfl|rfl<;>exact⟨_,rfl,[],rfl,trivial⟩
theorem rep_set {i n:Nat} {x y:UInt8} (h:i<n):(Zj i x++Zj (n-i) y).set i x=Zj (i+1) x++Zj (n-(i+1)) y:=by
 rw[show n-i=(n-(i+1))+1 by omega,List.replicate_succ,Ja _ _ (by rw[Zh];exact Z1 _),Zh,Jd,List.set_cons_zero,Zz]
 simp
theorem rep_last {n:Nat} {x y:UInt8} (h:0<n):(Zj n y).set (n-1) x=Zj (n-1) y++[x]:=by
 obtain⟨m,rfl⟩:∃m,n=m+1:=⟨n-1,by omega⟩
 rw[Zr,Zz,Ja _ _ (by rw[Zh];exact Z1 _),Zh,Jd];rfl
theorem rep_last' {n:Nat} {x:UInt8} (h:0<n):(Zj n x).set (n-1) x=Zj n x:=by
 obtain⟨m,rfl⟩:∃m,n=m+1:=⟨n-1,by omega⟩
 rw[rep_last h,Zr,Zz]
theorem c_made {kind:Int} {n:Nat} (hk:kind=1∨kind=2∨kind=3) (h0:0<n) (h16:n≤16):Con C N.pad_made [i64 kind,i64 n] [] (.ret (.o 1 (.k 0) 0 n)) [.sc (bv (pdMade kind n))]:=by
 have e1:I6.wrap ((n:Int)-1)=((n-1:Nat):Int):=by rw[Zb _ (by omega)];omega
 refine fd.pad_made.c ?_
 refine⟨by omega,by omega,by omega,?_⟩
 rcases hk with rfl|rfl|rfl
 ·refine loopN (fun i=>⟨[(1,i64 n),(5,.o 1 (.k 0) 0 n),(17,i64 n),(18,i64 i)],[.sc (bv (Zj i (UInt8.ofNat n)++Zj (n-i) 0))]⟩) n ⟨[.d 8 0],⟨rfl,rfl,rfl,rfl,trivial⟩,⟨_,rfl,q7s ?_⟩,trivial⟩ fun i hi=> ?_
  ·rw[Zc,bv_rep];rfl
  refine spl_d (fun hlt=> ?_) (fun hge=> ?_)
  ·have hlt:i<n:=by omega
   refine⟨by omega,by omega,by rw[Zc,bv_len,Zd,Zh,Zh];omega,?_⟩
   refine⟨i+1,by omega,by omega,[.k 0],⟨rfl,rfl,rfl,q7i (by simp(disch:=omega)only[Zb];omega),trivial⟩,⟨_,rfl,q7s ?_⟩,trivial⟩
   rw[Zc,Zu,Jc,nat_u8,bv_set,rep_set hlt]
  ·obtain rfl:i=n:=by omega
   refine⟨by rw[e1];omega,by rw[e1];omega,by rw[e1,Zc,bv_len,Zd,Zh,Zh];omega,?_⟩
   refine⟨_,rfl,[.k 0],rfl,⟨_,rfl,q7s ?_⟩,trivial⟩
   rw[e1,Zc,Zu,Jc,nat_u8,bv_set,Jd,List.replicate_zero,Z9,rep_last' h0];rfl
 ·refine⟨by decide,by omega,by rw[Zc,Zh];show 0+0*1<n;omega,?_⟩
  refine⟨_,rfl,[.d 8 0],rfl,⟨_,rfl,q7s ?_⟩,trivial⟩
  rw[Zc,bv_rep]
  show(bv (Zj n 0)).set 0 (Value.int .u8 ((128:UInt8).toNat:Int))=_
  rw[bv_set]
  obtain⟨m,rfl⟩:∃m,n=m+1:=⟨n-1,by omega⟩
  rfl
 ·refine⟨by rw[e1];omega,by rw[e1];omega,by rw[e1,Zc,Zc,Zh];omega,?_⟩
  refine⟨_,rfl,[.d 8 0],rfl,⟨_,rfl,q7s ?_⟩,trivial⟩
  rw[e1,Zc,Zc,Zu,Jc,nat_u8,bv_rep,bv_set,rep_last h0];rfl
theorem c_padAdd {kind:Int} {s m:Nat} {vt:List Value} {tail:Bs} (hk:kind=1∨kind=2∨kind=3) (hs:s=8∨s=16) (hv:vt=bv tail) (hm:tail.length=m) (hms:m<s):
  Con C N.pad_Add [i64 kind,i64 s,.z m vt] [] (okBlk s) [.sc (bv (pdAdd kind s tail))]:=by
 subst hv
 have e1:I6.wrap ((s:Int)-(m:Int))=((s-m:Nat):Int):=by rw[Zb _ (by omega)];omega
 have lp:=pdAdd_len (kind:=kind) (tail:=tail) (size:=s) (by omega)
 have lm:=pdMade_len (kind:=kind) (n:=s-m) (by omega)
 refine fd.pad_Add.c ?_
 refine⟨[],_,_,_,_,c_tell_y hk,rfl,rfl,?_⟩
 refine⟨[],_,_,_,_,c_sized_y hs,rfl,rfl,?_⟩
 refine spl_d (fun h=>absurd h (by omega)) (fun _=> ?_)
 refine⟨[],_,_,_,_,c_made (n:=s-m) hk (by omega) (by omega),?_,rfl,?_⟩
 ·rw[e1];rfl
 have hpe:tail++pdMade kind (s-m)=pdAdd kind s tail:=by rw[pdAdd,hm]
 refine⟨[],_,_,_,_,c_concatB' (n:=2) (ls:=[tail,pdMade kind (s-m)]) (t:=pdAdd kind s tail) (by rw[←hpe];simp) ?_ rfl (by omega) (by omega),rfl,rfl,?_⟩
 ·show[V.z m (bv tail),V.z (s-m) (sub (bv (pdMade kind (s-m))) 0 (s-m))]=[V.z _ _,V.z _ _]
  rw[bv_all lm,hm,lm]
 rw[lp]
 exact⟨_,rfl,[.d 28 0],rfl,⟨_,rfl,rfl⟩,trivial⟩
theorem c_equal {n m:Nat} {va vb:List Value} {a b:Bs} (ha:va=bv a) (hb:vb=bv b) (la:a.length=n) (lb:b.length=m):Con C N.bytes_Equal [.z n va,.z m vb] [] (.ret (bool (decide (a=b)))) []:=by
 subst ha;subst hb
 refine fd.bytes_Equal.c ?_
 refine⟨by rw[bv_len];exact la,_,rfl,?_⟩
 refine⟨by rw[bv_len];exact lb,_,rfl,?_⟩
 refine⟨_,rfl,[],congrArg bool ?_,trivial⟩
 exact str_beq _ _
theorem c_lastIdx {n:Nat} {vb:List Value} {b:Bs} (hv:vb=bv b) (hl:b.length=n) (hn:n≤1000):Con C N.bytealg_LastIndexByte [.z n vb,.s (.int .u8 128)] [] (.ret (i64 ((lastM b n:Int)-1))) []:=by
 subst hv
 refine fd.bytealg_LastIndexByte.c ?_
 refine⟨Nat,fun j=>⟨[(0,.z n (bv b)),(1,.s (.int .u8 128)),(5,i64 ((j:Int)-1))],[]⟩,fun j=>j≤n∧lastM b n=lastM b j,fun j=>j,?_,fun j hj=> ?_⟩
 ·exact⟨[],n,⟨Z1 _,rfl⟩,[],⟨rfl,rfl,q7i (by rw[Zb _ (by omega)]),trivial⟩,trivial⟩
 ·obtain⟨h1,h2⟩:=hj
  refine spl_d (fun hp=> ?_) (fun hp=> ?_)
  ·obtain⟨i,rfl⟩:∃i,j=i+1:=⟨j-1,by omega⟩
   have e1:(((i+1:Nat):Int)-1)=(i:Int):=by omega
   refine⟨by omega,by omega,.int .u8 ((b.getD i 0).toNat:Int),by rw[e1,Zc];exact bv_getD (by omega),?_⟩
   refine spl_eq (fun hz=> ?_) (fun hz=> ?_)
   ·have hz':b.getD i 0=128:=UInt8.toNat_inj.1 (by have:(128:UInt8).toNat=128:=rfl;omega)
    have e:lastM b (i+1)=i+1:=by unfold lastM;rw[if_pos hz']
    rw[h2,e]
    exact⟨_,rfl,[],rfl,trivial⟩
   ·have hz':¬b.getD i 0=128:=fun e=>hz (by rw[e];rfl)
    have e:lastM b (i+1)=lastM b i:=by rw[lastM,if_neg hz']
    exact⟨i,⟨by omega,by rw[h2,e]⟩,(by show i<i+1;omega),[],⟨rfl,rfl,q7i (by rw[e1,Zb _ (by omega)]),trivial⟩,trivial⟩
  ·obtain rfl:j=0:=by omega
   rw[h2]
   exact⟨_,rfl,[],rfl,trivial⟩
theorem c_lastIdx' {n:Nat} {vb:List Value} {b:Bs} (hv:vb=bv b) (hl:b.length=n) (hn:n≤1000):Con C N.bytes_LastIndexByte [.z n vb,.s (.int .u8 128)] [] (.ret (i64 ((lastM b n:Int)-1))) []:=by
 refine fd.bytes_LastIndexByte.c ?_
 refine⟨[],_,_,_,_,c_lastIdx hv hl hn,rfl,rfl,?_⟩
 exact⟨_,rfl,[],rfl,trivial⟩
theorem c_long {kind:Int} {s:Nat} {vb:List Value} {b:Bs} (hv:vb=bv b) (hk:kind=1∨kind=2∨kind=3) (hs:s=8∨s=16) (hl:b.length=s):Con C N.pad_long [i64 kind,.z s vb] [] (.ret (i64 (pdLong kind b))) []:=by
 subst hv
 have w1:I6.wrap ((s:Int)-1)=((s-1:Nat):Int):=by rw[Zb _ (by omega)];omega
 obtain⟨y,hy⟩:∃y,y=b.getD (s-1) 0:=⟨_,rfl⟩
 have hv:(bv b)[(I6.wrap ((s:Int)-1)).toNat]? =some (.int .u8 (y.toNat:Int)):=by rw[w1,Zc,hy];exact bv_getD (by omega)
 obtain⟨c,hc⟩:∃c,c=y.toNat:=⟨_,rfl⟩
 have w2:I6.wrap (y.toNat:Int)=(c:Int):=by rw[u8_i64,hc]
 have hcb:c<256:=by rw[hc];exact y.toNat_lt
 have hC:∀k:Int,k≠2→pdCnt k b=c:=fun k hk=>by unfold pdCnt;rw[if_neg hk,hl,←hy,hc]
 refine fd.pad_long.c ?_
 rcases hk with rfl|rfl|rfl
 ·have hP:pdLong 1 b=if c<1∨s<c∨b.drop (s-c)≠pdMade 1 c then 0 else c:=by
   unfold pdLong
   rw[hC 1 (by decide),hl]
   by_cases h1:c<1∨s<c∨b.drop (s-c)≠pdMade 1 c
   ·rw[if_pos h1,if_pos (by rcases h1 with h|h|h;exact .inl h;exact .inr (.inl h);exact .inr (.inr ⟨by decide,h⟩))]
   ·rw[if_neg h1,if_neg (fun h=>h1 (by rcases h with h|h|h;exact .inl h;exact .inr (.inl h);exact .inr (.inr h.2)))]
  refine⟨0,Unit,fun _=>⟨[],[]⟩,fun _=>False,fun _=>0,?_,fun x hx=>hx.elim⟩
  refine⟨by rw[w1];omega,by rw[w1];omega,_,hv,?_⟩
  refine spl_d (fun h=> ?_) (fun h=> ?_)
  ·rw[w2]at h
   refine⟨_,rfl,[],q7i ?_,trivial⟩
   rw[hP,if_pos (.inl (by omega))];rfl
  rw[w2]at h
  refine spl_d (fun h2=> ?_) (fun h2=> ?_)
  ·rw[w2]at h2
   refine⟨_,rfl,[],q7i ?_,trivial⟩
   rw[hP,if_pos (.inr (.inl (by omega)))];rfl
  rw[w2]at h2
  have w3:I6.wrap ((s:Int)-I6.wrap (y.toNat:Int))=((s-c:Nat):Int):=by rw[w2,Zb _ (by omega)];omega
  have lm:=pdMade_len (kind:=1) (n:=c) (by omega)
  have ld:(b.drop (s-c)).length=c:=by rw[Ze];omega
  refine⟨by rw[w3];omega,by rw[w3];omega,by first|omega|(rw [w3];omega),by first|omega|(rw [w3];omega),?_⟩
  refine⟨[],_,_,_,_,c_made (kind:=1) (n:=c) (.inl rfl) (by omega) (by omega),?_,rfl,?_⟩
  ·rw[w2];rfl
  refine⟨[],_,_,_,_,c_equal (a:=b.drop (s-c)) (b:=pdMade 1 c) (n:=c) (m:=c) (va:=bv (b.drop (s-c))) (vb:=bv (pdMade 1 c)) rfl rfl ld lm,?_,rfl,?_⟩
  ·rw[w3]
   show[V.z (s-(s-c)) (sub (bv b) (s-c) (s-(s-c))),V.z c (sub (bv (pdMade 1 c)) 0 c)]=_
   rw[bv_dropN hl (by omega),bv_all lm,show s-(s-c)=c by omega]
  refine spl_i (fun h3=> ?_) (fun h3=> ?_)
  ·refine⟨_,rfl,[],q7i ?_,trivial⟩
   rw[hP,if_pos (.inr (.inr (by simpa using h3)))];rfl
  ·refine⟨_,rfl,[],q7i ?_,trivial⟩
   rw[w2,hP,if_neg]
   rintro (h4|h4|h4)
   ·omega
   ·omega
   ·exact h4 (by simpa using h3)
 ·obtain⟨L,hL⟩:∃L,L=lastM b s:=⟨_,rfl⟩
  have hLs:L≤s:=by rw[hL];exact lastM_le b s
  obtain⟨e,he⟩:∃e,e=s+1-L:=⟨_,rfl⟩
  have hC2:pdCnt 2 b=e:=by unfold pdCnt;rw[if_pos rfl,hl,←hL,he]
  have hP:pdLong 2 b=if s<e∨b.drop (s-e)≠pdMade 2 e then 0 else e:=by
   unfold pdLong
   rw[hC2,hl]
   by_cases h1:s<e∨b.drop (s-e)≠pdMade 2 e
   ·rw[if_pos h1,if_pos (by rcases h1 with h|h;exact .inr (.inl h);exact .inr (.inr ⟨by decide,h⟩))]
   ·rw[if_neg h1,if_neg (fun h=>by
     rcases h with h|h|h
     ·omega
     ·exact h1 (.inl h)
     ·exact h1 (.inr h.2))]
  have w3:I6.wrap ((s:Int)-((lastM b s:Int)-1))=(e:Int):=by rw[←hL,Zb _ (by omega)];omega
  refine⟨0,Unit,fun _=>⟨[(0,i64 2),(1,.z s (bv b)),(5,i64 s)],[]⟩,fun _=>True,fun _=>0,?_,fun x hx=> ?_⟩
  ·refine⟨by rw[w1];omega,by rw[w1];omega,_,hv,?_⟩
   exact⟨rfl,(),trivial,[],⟨rfl,rfl,rfl,trivial⟩,trivial⟩
  ·refine⟨[],_,_,_,_,c_lastIdx' rfl hl (by omega),rfl,rfl,?_⟩
   refine spl_d (fun h2=> ?_) (fun h2=> ?_)
   ·rw[w3]at h2
    refine⟨_,rfl,[],q7i ?_,trivial⟩
    rw[hP,if_pos (.inl (by omega))];rfl
   rw[w3]at h2
   have w4:I6.wrap ((s:Int)-I6.wrap ((s:Int)-((lastM b s:Int)-1)))=((s-e:Nat):Int):=by rw[w3,Zb _ (by omega)];omega
   have lm:=pdMade_len (kind:=2) (n:=e) (by omega)
   have ld:(b.drop (s-e)).length=e:=by rw[Ze];omega
   refine⟨by rw[w4];omega,by rw[w4];omega,by first|omega|(rw [w4];omega),by first|omega|(rw [w4];omega),?_⟩
   refine⟨[],_,_,_,_,c_made (kind:=2) (n:=e) (.inr (.inl rfl)) (by omega) (by omega),?_,rfl,?_⟩
   ·rw[w3];rfl
   refine⟨[],_,_,_,_,c_equal (a:=b.drop (s-e)) (b:=pdMade 2 e) (n:=e) (m:=e) (va:=bv (b.drop (s-e))) (vb:=bv (pdMade 2 e)) rfl rfl ld lm,?_,rfl,?_⟩
   ·rw[w4]
    show[V.z (s-(s-e)) (sub (bv b) (s-e) (s-(s-e))),V.z e (sub (bv (pdMade 2 e)) 0 e)]=_
    rw[bv_dropN hl (by omega),bv_all lm,show s-(s-e)=e by omega]
   refine spl_i (fun h3=> ?_) (fun h3=> ?_)
   ·refine⟨_,rfl,[],q7i ?_,trivial⟩
    rw[hP,if_pos (.inr (by simpa using h3))];rfl
   ·refine⟨_,rfl,[],q7i ?_,trivial⟩
    rw[w3,hP,if_neg]
    rintro (h4|h4)
    ·omega
    ·exact h4 (by simpa using h3)
 ·have hP:pdLong 3 b=if c<1∨s<c then 0 else c:=by
   unfold pdLong
   rw[hC 3 (by decide),hl]
   by_cases h1:c<1∨s<c
   ·rw[if_pos h1,if_pos (by rcases h1 with h|h;exact .inl h;exact .inr (.inl h))]
   ·rw[if_neg h1,if_neg (fun h=>by
     rcases h with h|h|h
     ·exact h1 (.inl h)
     ·exact h1 (.inr h)
     ·exact h.1 rfl)]
  refine⟨0,Unit,fun _=>⟨[],[]⟩,fun _=>False,fun _=>0,?_,fun x hx=>hx.elim⟩
  refine⟨by rw[w1];omega,by rw[w1];omega,_,hv,?_⟩
  refine spl_d (fun h=> ?_) (fun h=> ?_)
  ·rw[w2]at h
   refine⟨_,rfl,[],q7i ?_,trivial⟩
   rw[hP,if_pos (.inl (by omega))];rfl
  rw[w2]at h
  refine spl_d (fun h2=> ?_) (fun h2=> ?_)
  ·rw[w2]at h2
   refine⟨_,rfl,[],q7i ?_,trivial⟩
   rw[hP,if_pos (.inr (by omega))];rfl
  rw[w2]at h2
  refine⟨_,rfl,[],q7i ?_,trivial⟩
  rw[w2,hP,if_neg]
  omega
theorem c_strip {kind:Int} {s:Nat} {vb:List Value} {b:Bs} (hv:vb=bv b) (hk:kind=1∨kind=2∨kind=3) (hs:s=8∨s=16) (hl:b.length=s) (h0:pdLong kind b≠0):Con C N.pad_Strip [i64 kind,i64 s,.z s vb] [] (.ret (.t [.z (s-pdLong kind b) (bv (pdStrip kind b)),i64 0])) []:=by
 subst hv
 have HL:=c_long (vb:=bv b) rfl hk hs hl
 have hle:=pdLong_le kind b
 have hst:pdStrip kind b=sub b 0 (s-pdLong kind b):=by unfold pdStrip;rw[hl];rfl
 rw[hst]
 generalize pdLong kind b=c at*
 have w1:I6.wrap ((s:Int)-(c:Int))=((s-c:Nat):Int):=by rw[Zb _ (by omega)];omega
 have lp:(sub b 0 (s-c)).length=s-c:=by rw[sub_length];omega
 have hv1:sub (bv b) 0 (s-c)=bv (sub b 0 (s-c)):=bv_sub _ _ _
 refine fd.pad_Strip.c ?_
 refine⟨[],_,_,_,_,c_tell_y hk,rfl,rfl,?_⟩
 refine⟨[],_,_,_,_,c_sized_y hs,rfl,rfl,?_⟩
 refine spl_ne (fun h=>absurd rfl h) (fun _=> ?_)
 refine⟨[],_,_,_,_,HL,rfl,rfl,?_⟩
 refine spl_eq (fun h=>absurd h (by omega)) (fun _=> ?_)
 refine⟨by rw[w1];omega,by rw[w1];omega,by first|omega|(rw [w1];omega),by first|omega|(rw [w1];omega),?_⟩
 refine⟨[],_,_,_,_,c_cloneZ (n:=s-c) (va:=bv (sub b 0 (s-c))) rfl lp (by omega),?_,rfl,?_⟩
 ·rw[w1]
  show[V.z (s-c) (sub (bv b) 0 (s-c))]=_
  rw[hv1]
 exact⟨_,rfl,[],rfl,trivial⟩
theorem c_strip_no {kind:Int} {s:Nat} {vb:List Value} {b:Bs} (hv:vb=bv b) (hk:kind=1∨kind=2∨kind=3) (hs:s=8∨s=16) (hl:b.length=s) (h0:pdLong kind b=0):Con C N.pad_Strip [i64 kind,i64 s,.z s vb] [] (.ret (.t [nilv,i64 8])) []:=by
 subst hv
 have HL:=c_long (vb:=bv b) rfl hk hs hl
 rw[h0]at HL
 refine fd.pad_Strip.c ?_
 refine⟨[],_,_,_,_,c_tell_y hk,rfl,rfl,?_⟩
 refine⟨[],_,_,_,_,c_sized_y hs,rfl,rfl,?_⟩
 refine spl_ne (fun h=>absurd rfl h) (fun _=> ?_)
 refine⟨[],_,_,_,_,HL,rfl,rfl,?_⟩
 exact⟨_,rfl,[],rfl,trivial⟩
def kindOf (mode:Int):Int:=if mode=1∨mode=2 then 1 else if 3≤mode∧mode≤6 then 2 else if 7≤mode∧mode≤9 then 3 else 0
theorem c_kind (mode:Int):Con C N.shot_kind [i64 mode] [] (.ret (i64 (kindOf mode))) []:=by
 refine fd.shot_kind.c ?_
 by_cases hm:1≤mode∧mode≤9
 ·have h9:mode=1∨mode=2∨mode=3∨mode=4∨mode=5∨mode=6∨mode=7∨mode=8∨mode=9:=by omega
  rcases h9 with rfl|rfl|rfl|rfl|rfl|rfl|rfl|rfl|rfl<;>exact⟨_,rfl,[],rfl,trivial⟩
 ·have e:kindOf mode=0:=by unfold kindOf;rw[if_neg (by omega),if_neg (by omega),if_neg (by omega)]
  rw[e]
  refine spl_eq (fun h=>absurd h (by omega)) (fun _=> ?_)
  refine spl_eq (fun h=>absurd h (by omega)) (fun _=> ?_)
  refine spl_eq (fun h=>absurd h (by omega)) (fun _=> ?_)
  refine spl_eq (fun h=>absurd h (by omega)) (fun _=> ?_)
  refine spl_eq (fun h=>absurd h (by omega)) (fun _=> ?_)
  refine spl_eq (fun h=>absurd h (by omega)) (fun _=> ?_)
  refine spl_eq (fun h=>absurd h (by omega)) (fun _=> ?_)
  refine spl_eq (fun h=>absurd h (by omega)) (fun _=> ?_)
  refine spl_eq (fun h=>absurd h (by omega)) (fun _=> ?_)
  exact⟨_,rfl,[],rfl,trivial⟩
abbrev cfgV (t mode pad:Int) (back:Bool):V:= .a [i64 t,i64 mode,i64 pad,bool back]
theorem c_open_ok {t key s k xs rs} (h:Ciph t key s k xs rs) {mode pad:Int} {back:Bool} {li:Nat} {vk vi:List Value} (hvk:vk=bv key) (hm:1≤mode∧mode≤9) (hp:1≤pad∧pad≤4) (hpm:pad=4∨mode≤2) (hi:li=if mode=1 then 0 else s):
  Con C N.shot_open [cfgV t mode pad back,.z key.length vk,.z li vi] [] (.ret (.t [cipV t k xs,i64 0])) []:=by
 subst hvk
 have hs:=h.s_le
 refine fd.shot_open.c ?_
 refine⟨_,rfl,?_⟩
 refine⟨[],_,_,_,_,h.new,rfl,rfl,?_⟩
 refine⟨_,rfl,?_⟩
 refine⟨[],_,_,_,_,c_kind mode,rfl,rfl,?_⟩
 refine⟨[],_,_,_,_,h.size,rfl,rfl,?_⟩
 refine⟨_,rfl,?_⟩
 have hk0:kindOf mode≠0:=by unfold kindOf;split;decide;split;decide;rw[if_pos (by omega)];decide
 have hk1:pad≠4→kindOf mode=1:=fun hp4=>by unfold kindOf;rw[if_pos (by omega)]
 refine spl_eq (fun h1=> ?_) (fun h1=> ?_)
 all_goals
  refine spl_eq (fun h=>absurd h hk0) (fun _=> ?_)
  refine⟨_,rfl,?_⟩
  refine spl_d (fun h=>absurd h (by omega)) (fun _=> ?_)
  refine⟨_,rfl,?_⟩
  refine spl_d (fun h=>absurd h (by omega)) (fun _=> ?_)
  refine⟨_,rfl,?_⟩
  refine spl_ne (fun h4=> ?_) (fun h4=> ?_)
  ·refine spl_ne (fun h=>absurd (hk1 h4) h) (fun _=> ?_)
   refine spl_ne (fun h=>absurd (show (li:Int)=_ by first|(rw [hi,if_pos h1];rfl)|rw[hi,if_neg h1]) h) (fun _=> ?_)
   exact⟨_,rfl,[],rfl,trivial⟩
  ·refine spl_ne (fun h=>absurd (show (li:Int)=_ by first|(rw [hi,if_pos h1];rfl)|rw[hi,if_neg h1]) h) (fun _=> ?_)
   exact⟨_,rfl,[],rfl,trivial⟩
theorem c_open_iv {t key s k xs rs} (h:Ciph t key s k xs rs) {mode pad:Int} {back:Bool} {li:Nat} {vk vi:List Value} (hvk:vk=bv key) (hm:1≤mode∧mode≤9) (hp:1≤pad∧pad≤4) (hpm:pad=4∨mode≤2) (hi:li≠if mode=1 then 0 else s):
  Con C N.shot_open [cfgV t mode pad back,.z key.length vk,.z li vi] [] (.ret (.t [nilp,i64 5])) []:=by
 subst hvk
 have hs:=h.s_le
 refine fd.shot_open.c ?_
 refine⟨_,rfl,?_⟩
 refine⟨[],_,_,_,_,h.new,rfl,rfl,?_⟩
 refine⟨_,rfl,?_⟩
 refine⟨[],_,_,_,_,c_kind mode,rfl,rfl,?_⟩
 refine⟨[],_,_,_,_,h.size,rfl,rfl,?_⟩
 refine⟨_,rfl,?_⟩
 have hk0:kindOf mode≠0:=by unfold kindOf;split;decide;split;decide;rw[if_pos (by omega)];decide
 have hk1:pad≠4→kindOf mode=1:=fun hp4=>by unfold kindOf;rw[if_pos (by omega)]
 refine spl_eq (fun h1=> ?_) (fun h1=> ?_)
 all_goals
  refine spl_eq (fun h=>absurd h hk0) (fun _=> ?_)
  refine⟨_,rfl,?_⟩
  refine spl_d (fun h=>absurd h (by omega)) (fun _=> ?_)
  refine⟨_,rfl,?_⟩
  refine spl_d (fun h=>absurd h (by omega)) (fun _=> ?_)
  refine⟨_,rfl,?_⟩
  refine spl_ne (fun h4=> ?_) (fun h4=> ?_)
  ·refine spl_ne (fun h=>absurd (hk1 h4) h) (fun _=> ?_)
   refine spl_ne (fun _=> ?_) (fun h=>absurd ?_ hi)
   ·exact⟨_,rfl,[],rfl,trivial⟩
   ·simp only[h1,if_true,if_false];exact Z4.1 h
  ·refine spl_ne (fun _=> ?_) (fun h=>absurd ?_ hi)
   ·exact⟨_,rfl,[],rfl,trivial⟩
   ·simp only[h1,if_true,if_false];exact Z4.1 h
theorem c_open_new {t mode pad e:Int} {back:Bool} {lk li:Nat} {vk vi:List Value} (HN:Con C N.cipher_New [i64 t,.z lk vk] [] (.ret (.t [nilp,i64 e])) []) (he:e≠0):
  Con C N.shot_open [cfgV t mode pad back,.z lk vk,.z li vi] [] (.ret (.t [nilp,i64 e])) []:=by
 refine fd.shot_open.c ?_
 refine⟨_,rfl,?_⟩
 refine⟨[],_,_,_,_,HN,rfl,rfl,?_⟩
 refine spl_ne (fun _=> ?_) (fun h=>absurd h he)
 exact⟨_,rfl,[],rfl,trivial⟩
theorem c_rcheck_ok {t key s k xs rs} (h:Ciph t key s k xs rs) {mode pad:Int} {back:Bool} {li:Nat} {vk vi:List Value} (hvk:vk=bv key) (hm:1≤mode∧mode≤9) (hp:1≤pad∧pad≤4) (hpm:pad=4∨mode≤2) (hi:li=if mode=1 then 0 else s):
  Con C N.r15_Check [cfgV t mode pad back,.z key.length vk,.z li vi] [] (.ret (i64 0)) []:=by
 subst hvk
 refine fd.r15_Check.c ?_
 refine⟨_,rfl,?_⟩
 refine⟨[],_,_,_,_,h.rnew,rfl,rfl,?_⟩
 refine⟨_,rfl,?_⟩
 refine spl_d (fun h=>absurd h (by omega)) (fun _=> ?_)
 refine⟨_,rfl,?_⟩
 refine spl_d (fun h=>absurd h (by omega)) (fun _=> ?_)
 refine⟨_,rfl,?_⟩
 refine spl_d (fun h=>absurd h (by omega)) (fun _=> ?_)
 refine⟨_,rfl,?_⟩
 refine spl_d (fun h=>absurd h (by omega)) (fun _=> ?_)
 refine⟨_,rfl,?_⟩
 refine spl_ne (fun h4=> ?_) (fun h4=> ?_)
 ·refine⟨_,rfl,?_⟩
  refine spl_d (fun h=>absurd h (by omega)) (fun _=> ?_)
  refine⟨_,rfl,?_⟩
  refine⟨[],_,_,_,_,h.rS,rfl,rfl,?_⟩
  refine⟨_,rfl,?_⟩
  refine spl_eq (fun h1=> ?_) (fun h1=> ?_)
  all_goals
   refine spl_ne (fun h=>absurd (show (li:Int)=_ by first|(rw [hi,if_pos h1];rfl)|rw[hi,if_neg h1]) h) (fun _=> ?_)
   exact⟨_,rfl,[],rfl,trivial⟩
 ·refine⟨_,rfl,?_⟩
  refine⟨[],_,_,_,_,h.rS,rfl,rfl,?_⟩
  refine⟨_,rfl,?_⟩
  refine spl_eq (fun h1=> ?_) (fun h1=> ?_)
  all_goals
   refine spl_ne (fun h=>absurd (show (li:Int)=_ by first|(rw [hi,if_pos h1];rfl)|rw[hi,if_neg h1]) h) (fun _=> ?_)
   exact⟨_,rfl,[],rfl,trivial⟩
theorem c_rcheck_iv {t key s k xs rs} (h:Ciph t key s k xs rs) {mode pad:Int} {back:Bool} {li:Nat} {vk vi:List Value} (hvk:vk=bv key) (hm:1≤mode∧mode≤9) (hp:1≤pad∧pad≤4) (hpm:pad=4∨mode≤2) (hi:li≠if mode=1 then 0 else s):
  Con C N.r15_Check [cfgV t mode pad back,.z key.length vk,.z li vi] [] (.ret (i64 5)) []:=by
 subst hvk
 refine fd.r15_Check.c ?_
 refine⟨_,rfl,?_⟩
 refine⟨[],_,_,_,_,h.rnew,rfl,rfl,?_⟩
 refine⟨_,rfl,?_⟩
 refine spl_d (fun h=>absurd h (by omega)) (fun _=> ?_)
 refine⟨_,rfl,?_⟩
 refine spl_d (fun h=>absurd h (by omega)) (fun _=> ?_)
 refine⟨_,rfl,?_⟩
 refine spl_d (fun h=>absurd h (by omega)) (fun _=> ?_)
 refine⟨_,rfl,?_⟩
 refine spl_d (fun h=>absurd h (by omega)) (fun _=> ?_)
 refine⟨_,rfl,?_⟩
 refine spl_ne (fun h4=> ?_) (fun h4=> ?_)
 ·refine⟨_,rfl,?_⟩
  refine spl_d (fun h=>absurd h (by omega)) (fun _=> ?_)
  refine⟨_,rfl,?_⟩
  refine⟨[],_,_,_,_,h.rS,rfl,rfl,?_⟩
  refine⟨_,rfl,?_⟩
  refine spl_eq (fun h1=> ?_) (fun h1=> ?_)
  all_goals
   refine spl_ne (fun _=> ?_) (fun h=>absurd ?_ hi)
   ·exact⟨_,rfl,[],rfl,trivial⟩
   ·simp only[h1,if_true,if_false];exact Z4.1 h
 ·refine⟨_,rfl,?_⟩
  refine⟨[],_,_,_,_,h.rS,rfl,rfl,?_⟩
  refine⟨_,rfl,?_⟩
  refine spl_eq (fun h1=> ?_) (fun h1=> ?_)
  all_goals
   refine spl_ne (fun _=> ?_) (fun h=>absurd ?_ hi)
   ·exact⟨_,rfl,[],rfl,trivial⟩
   ·simp only[h1,if_true,if_false];exact Z4.1 h
theorem c_rcheck_mode {t key s k xs rs} (h:Ciph t key s k xs rs) {mode pad:Int} {back:Bool} {li:Nat} {vk vi:List Value} (hvk:vk=bv key) (hb:¬((1≤mode∧mode≤9)∧(1≤pad∧pad≤4)∧(pad=4∨mode≤2))):
  Con C N.r15_Check [cfgV t mode pad back,.z key.length vk,.z li vi] [] (.ret (i64 3)) []:=by
 subst hvk
 refine fd.r15_Check.c ?_
 refine⟨_,rfl,?_⟩
 refine⟨[],_,_,_,_,h.rnew,rfl,rfl,?_⟩
 refine⟨_,rfl,?_⟩
 refine spl_d (fun _=>⟨_,rfl,[],rfl,trivial⟩) (fun a1=> ?_)
 refine⟨_,rfl,?_⟩
 refine spl_d (fun _=>⟨_,rfl,[],rfl,trivial⟩) (fun a2=> ?_)
 refine⟨_,rfl,?_⟩
 refine spl_d (fun _=>⟨_,rfl,[],rfl,trivial⟩) (fun a3=> ?_)
 refine⟨_,rfl,?_⟩
 refine spl_d (fun _=>⟨_,rfl,[],rfl,trivial⟩) (fun a4=> ?_)
 refine⟨_,rfl,?_⟩
 refine spl_ne (fun h4=> ?_) (fun h4=> ?_)
 ·refine⟨_,rfl,?_⟩
  refine spl_d (fun _=>⟨_,rfl,[],rfl,trivial⟩) (fun a5=> ?_)
  exact absurd ⟨⟨by omega,by omega⟩,⟨by omega,by omega⟩,.inr (by omega)⟩ hb
 ·exact absurd ⟨⟨by omega,by omega⟩,⟨by omega,by omega⟩,.inl h4⟩ hb
theorem c_rcheck_new {t mode pad e:Int} {back:Bool} {lk li:Nat} {vk vi:List Value} (HN:Con C N.r11_New [i64 t,.z lk vk] [] (.ret (.t [nilp,i64 e])) []) (he:e≠0):
  Con C N.r15_Check [cfgV t mode pad back,.z lk vk,.z li vi] [] (.ret (i64 e)) []:=by
 refine fd.r15_Check.c ?_
 refine⟨_,rfl,?_⟩
 refine⟨[],_,_,_,_,HN,rfl,rfl,?_⟩
 refine spl_ne (fun _=> ?_) (fun h=>absurd h he)
 exact⟨_,rfl,[],rfl,trivial⟩
theorem c_open_mode {t key s k xs rs} (h:Ciph t key s k xs rs) {mode pad:Int} {back:Bool} {li:Nat} {vk vi:List Value} (hvk:vk=bv key) (hb:¬((1≤mode∧mode≤9)∧(1≤pad∧pad≤4)∧(pad=4∨mode≤2))):
  Con C N.shot_open [cfgV t mode pad back,.z key.length vk,.z li vi] [] (.ret (.t [nilp,i64 3])) []:=by
 subst hvk
 have hs:=h.s_le
 have hk0:(1≤mode∧mode≤9)→kindOf mode≠0:=fun hm=>by unfold kindOf;split;decide;split;decide;rw[if_pos (by omega)];decide
 have hkz:¬(1≤mode∧mode≤9)→kindOf mode=0:=fun hm=>by unfold kindOf;rw[if_neg (by omega),if_neg (by omega),if_neg (by omega)]
 have hk1:kindOf mode=1→mode≤2:=fun hh=>by
  unfold kindOf at hh
  split at hh
  ·omega
  ·split at hh
   ·exact absurd hh (by decide)
   ·split at hh<;>exact absurd hh (by decide)
 refine fd.shot_open.c ?_
 refine⟨_,rfl,?_⟩
 refine⟨[],_,_,_,_,h.new,rfl,rfl,?_⟩
 refine⟨_,rfl,?_⟩
 refine⟨[],_,_,_,_,c_kind mode,rfl,rfl,?_⟩
 refine⟨[],_,_,_,_,h.size,rfl,rfl,?_⟩
 refine⟨_,rfl,?_⟩
 refine spl_eq (fun h1=> ?_) (fun h1=> ?_)
 all_goals
  refine spl_eq (fun hz=> ?_) (fun hz=> ?_)
  ·refine spl_eq (fun _=>⟨_,rfl,[],rfl,trivial⟩) (fun h=>absurd hz h)
  refine⟨_,rfl,?_⟩
  refine spl_d (fun hz2=> ?_) (fun a3=> ?_)
  ·refine spl_d (fun _=>⟨_,rfl,[],rfl,trivial⟩) (fun h=>absurd hz2 h)
  refine⟨_,rfl,?_⟩
  refine spl_d (fun hz2=> ?_) (fun a4=> ?_)
  ·refine spl_d (fun _=>⟨_,rfl,[],rfl,trivial⟩) (fun h=>absurd hz2 h)
  refine⟨_,rfl,?_⟩
  refine spl_ne (fun h4=> ?_) (fun h4=> ?_)
  ·refine spl_ne (fun _=>⟨_,rfl,[],rfl,trivial⟩) (fun hk=> ?_)
   have:=hk1 hk
   have hm:1≤mode∧mode≤9:=Classical.byContradiction fun x=>hz (hkz x)
   exact absurd ⟨hm,⟨by omega,by omega⟩,.inr this⟩ hb
  ·have hm:1≤mode∧mode≤9:=Classical.byContradiction fun x=>hz (hkz x)
   exact absurd ⟨hm,⟨by omega,by omega⟩,.inl h4⟩ hb
theorem Ciph.s_two {t key s k xs rs} (h:Ciph t key s k xs rs):s=8∨s=16:=by
 have:=h.hs
 rcases h.ht with e|e|e|e|e|e|e|e<;>(subst e;simp[cSize]at this;omega)
theorem Con.out {f:FuncId} {args:List V} {r r':V} (hc:Con C f args [] (.ret r) []) (h:Wk r r'):Con C f args [] (.ret r') []:=
 ⟨hc.1,fun w F ι vs a b c d=>(hc.2 w F ι vs a b c d).mono fun e w' ⟨F',ι',h1,h2,h3,h4,h5,hoc⟩=>⟨F',ι',h1,h2,h3,h4,h5,WkO.oc (.ret h) hoc⟩⟩
theorem shot_cases (t:Int) {key:Bs} {lk:Nat} (hk:key.length=lk) (hlk:lk≤1000) (mode pad:Int) (back:Bool) {iv:Bs} {li:Nat} (hi:iv.length=li):
  (shErr t mode pad (cSize t).toNat lk li=0∧∃s k xs rs,Ciph t key s k xs rs∧shOk s mode pad iv)∨
  (shErr t mode pad (cSize t).toNat lk li≠0∧Con C N.shot_open [cfgV t mode pad back,.z lk (bv key),.z li (bv iv)] [] (.ret (.t [nilp,i64 (shErr t mode pad (cSize t).toNat lk li)])) []∧
   Con C N.r15_Check [cfgV t mode pad back,.z lk (bv key),.z li (bv iv)] [] (.ret (i64 (shErr t mode pad (cSize t).toNat lk li))) []):=by
 subst hk;subst hi
 by_cases ht:okTag t
 ·by_cases hv:(key.length:Int)∈cLens t
  ·obtain⟨s,k,xs,rs,h⟩:=ciph_ok (key:=key) ht hv
   have hs:(cSize t).toNat=s:=by rw[h.hs,Zc]
   rw[hs]
   by_cases hmp:(1≤mode∧mode≤9)∧(1≤pad∧pad≤4)∧(pad=4∨mode≤2)
   ·by_cases hli:iv.length=if mode=1 then 0 else s
    ·left
     refine⟨?_,s,k,xs,rs,h,hmp.1,hmp.2.1,hmp.2.2,hli⟩
     unfold shErr
     rw[if_neg (by exact fun x=>x ht),if_neg (by exact fun x=>x hv),if_neg (by exact fun x=>x hmp),if_neg (by exact fun x=>x hli)]
    ·right
     have e:shErr t mode pad s key.length iv.length=5:=by
      unfold shErr
      rw[if_neg (by exact fun x=>x ht),if_neg (by exact fun x=>x hv),if_neg (by exact fun x=>x hmp),if_pos hli]
     rw[e]
     exact⟨by decide,c_open_iv h rfl hmp.1 hmp.2.1 hmp.2.2 hli,c_rcheck_iv h rfl hmp.1 hmp.2.1 hmp.2.2 hli⟩
   ·right
    have e:shErr t mode pad s key.length iv.length=3:=by
     unfold shErr
     rw[if_neg (by exact fun x=>x ht),if_neg (by exact fun x=>x hv),if_pos hmp]
    rw[e]
    exact⟨by decide,c_open_mode h rfl hmp,c_rcheck_mode h rfl hmp⟩
  ·right
   have e:shErr t mode pad (cSize t).toNat key.length iv.length=4:=by
    unfold shErr
    rw[if_neg (by exact fun x=>x ht),if_pos hv]
   rw[e]
   exact⟨by decide,c_open_new (c_new_badkey ht (by omega) hv) (by decide),c_rcheck_new (c_r11_new_badkey ht hv) (by decide)⟩
 ·right
  have e:shErr t mode pad (cSize t).toNat key.length iv.length=2:=by
   unfold shErr
   rw[if_pos ht]
  rw[e]
  exact⟨by decide,c_open_new (c_new_badtag ht) (by decide),c_rcheck_new (c_r11_new_badtag ht) (by decide)⟩
theorem c_w15 {a n:Int} (hn:0<n) (hn2:n≤4611686018427387904) (ha: -9223372036854775808≤a∧a≤9223372036854775807):Con C N.law15_within [i64 a,i64 n] [] (.ret (i64 (a%n))) []:=by
 refine fd.law15_within.c ?_
 have h1: -n<a.tmod n:=Int.lt_tmod_of_pos a hn
 have h2:a.tmod n<n:=Int.tmod_lt_of_pos a hn
 refine⟨by omega,?_⟩
 refine spl_d (fun h=> ?_) (fun h=> ?_)
 ·refine⟨_,rfl,[],q7i ?_,trivial⟩
  rw[Zb _ (by omega)]
  rw[←rest_eq a n hn,Zn (a:=a.tmod n+n) (by omega),Int.emod_eq_of_lt (by omega) (by omega)]
 ·refine⟨_,rfl,[],q7i ?_,trivial⟩
  rw[←rest_eq a n hn,Zn (a:=a.tmod n+n) (by omega),Int.add_emod_right,Int.emod_eq_of_lt (by omega) (by omega)]
abbrev askV (tag n mode pad:Int) (back:Bool) (lk:Nat) (k:Bs) (li:Nat) (iv:Bs):V:= .a [i64 tag,i64 n,i64 mode,i64 pad,bool back,.z lk (bv k),.z li (bv iv)]
abbrev In64 (a:Int):Prop:= -9223372036854775808≤a∧a≤9223372036854775807
theorem c_few_y {tag n mode pad:Int} {back:Bool} {lk li:Nat} {k iv:Bs} (h:lk≤100∧li≤100):Con C N.law15_Ask_Few [askV tag n mode pad back lk k li iv] [] (.ret (bool true)) []:=by
 refine fd.law15_Ask_Few.c ?_
 refine⟨_,rfl,?_⟩
 refine spl_d (fun _=> ?_) (fun hh=>absurd hh (by omega))
 refine⟨_,rfl,?_⟩
 exact⟨_,rfl,[],congrArg bool (decide_eq_true (by omega)),trivial⟩
theorem c_few_n {tag n mode pad:Int} {back:Bool} {lk li:Nat} {k iv:Bs} (h:¬(lk≤100∧li≤100)):Con C N.law15_Ask_Few [askV tag n mode pad back lk k li iv] [] (.ret (bool false)) []:=by
 refine fd.law15_Ask_Few.c ?_
 refine⟨_,rfl,?_⟩
 refine spl_d (fun _=> ?_) (fun hh=> ?_)
 ·refine⟨_,rfl,?_⟩
  exact⟨_,rfl,[],congrArg bool (decide_eq_false (by omega)),trivial⟩
 ·exact⟨_,rfl,[],rfl,trivial⟩
def akMode (mode:Int):Int:=1+mode%9
def akPad (mode pad:Int):Int:=if akMode mode≤2 then 1+pad%4 else 4
theorem c_askmake {tag n mode pad:Int} {back:Bool} {lk li s:Nat} {k iv:Bs} (h0:In64 tag) (h1:In64 n) (h2:In64 mode) (h3:In64 pad) (hk:k.length=lk) (hi:iv.length=li) (hs:cSize (tagOf tag)=s) (hs2:s≤16):
  Con C N.law15_Ask_Make [askV tag n mode pad back lk k li iv] [] (.ret (.t [cfgV (tagOf tag) (akMode mode) (akPad mode pad) back,.z (kLen (tagOf tag) n) (bv (keyOf (tagOf tag) n k)),.z (ivN (akMode mode) s) (bv (ivL (akMode mode) s iv))])) []:=by
 have e1:I6.wrap (1+mode%9)=akMode mode:=by rw[Zb _ (by omega)];rfl
 have e2:I6.wrap (1+pad%4)=1+pad%4:=by rw[Zb _ (by omega)]
 have hR:Con C N.r11_Size [i64 (tagOf tag)] [] (.ret (i64 s)) []:=by rw[←hs];exact c_r11_size (tagOf_ok _)
 refine fd.law15_Ask_Make.c ?_
 refine⟨_,rfl,?_⟩
 refine⟨[],_,_,_,_,c_tag h0,rfl,rfl,?_⟩
 refine⟨_,rfl,?_⟩
 refine⟨[],_,_,_,_,c_w15 (a:=mode) (n:=9) (by omega) (by omega) h2,rfl,rfl,?_⟩
 refine⟨_,rfl,?_⟩
 refine⟨Za rfl,?_⟩
 refine⟨_,rfl,?_⟩
 have hL:∀{vk:List Value},vk=bv k→Con C N.law11_Key [i64 (tagOf tag),i64 n,.z lk vk] [] (.ret (.z (kLen (tagOf tag) n) (bv (keyOf (tagOf tag) n k)))) []:=fun e=>c_keyF (tagOf_ok _) h1 e hk
 have hI:=c_iv (mode:=akMode mode) (s:=s) (vb:=bv iv) rfl hi (by omega)
 refine spl_d (fun hm=> ?_) (fun hm=> ?_)
 ·rw[e1]at hm
  refine⟨_,rfl,?_⟩
  refine⟨[],_,_,_,_,c_w15 (a:=pad) (n:=4) (by omega) (by omega) h3,rfl,rfl,?_⟩
  refine⟨Za rfl,?_⟩
  rw[e1,e2]
  have hp:akPad mode pad=1+pad%4:=if_pos hm
  rw[hp]
  refine⟨[i64 (tagOf tag),i64 (akMode mode),i64 (1+pad%4),bool back],rfl,rfl,?_⟩
  refine⟨_,rfl,?_⟩
  refine⟨_,rfl,?_⟩
  refine⟨[],_,_,_,_,hL rfl,rfl,rfl,?_⟩
  refine⟨_,rfl,?_⟩
  refine⟨[],_,_,_,_,hR,rfl,rfl,?_⟩
  refine⟨_,rfl,?_⟩
  refine⟨[],_,_,_,_,hI,rfl,rfl,?_⟩
  refine⟨Za rfl,?_⟩
  refine⟨[i64 (tagOf tag),i64 (akMode mode),i64 (1+pad%4),bool back],rfl,rfl,?_⟩
  exact⟨_,rfl,[],rfl,trivial⟩
 ·rw[e1]at hm
  rw[e1]
  have hp:akPad mode pad=4:=if_neg hm
  rw[hp]
  refine⟨[i64 (tagOf tag),i64 (akMode mode),i64 4,bool back],rfl,rfl,?_⟩
  refine⟨_,rfl,?_⟩
  refine⟨_,rfl,?_⟩
  refine⟨[],_,_,_,_,hL rfl,rfl,rfl,?_⟩
  refine⟨_,rfl,?_⟩
  refine⟨[],_,_,_,_,hR,rfl,rfl,?_⟩
  refine⟨_,rfl,?_⟩
  refine⟨[],_,_,_,_,hI,rfl,rfl,?_⟩
  refine⟨Za rfl,?_⟩
  refine⟨[i64 (tagOf tag),i64 (akMode mode),i64 4,bool back],rfl,rfl,?_⟩
  exact⟨_,rfl,[],rfl,trivial⟩
theorem ask_ciph (tag n:Int) (k:Bs):∃s q xs rs,Ciph (tagOf tag) (keyOf (tagOf tag) n k) s q xs rs:=ciph_law tag n k
theorem check_both (t:Int) {key:Bs} {lk:Nat} (hk:key.length=lk) (hlk:lk≤1000) (mode pad:Int) (back:Bool) {iv:Bs} {li:Nat} (hi:iv.length=li):
  Con C N.shot_Check [cfgV t mode pad back,.z lk (bv key),.z li (bv iv)] [] (.ret (i64 (shErr t mode pad (cSize t).toNat lk li))) []∧
  Con C N.r15_Check [cfgV t mode pad back,.z lk (bv key),.z li (bv iv)] [] (.ret (i64 (shErr t mode pad (cSize t).toNat lk li))) []:=by
 rcases shot_cases t hk hlk mode pad back hi with ⟨e,s,k,xs,rs,h,ok⟩|⟨he,P,Q⟩
 ·obtain⟨o1,o2,o3,o4⟩:=ok
  subst hk;subst hi
  have P:=c_open_ok h (back:=back) (vi:=bv iv) rfl o1 o2 o3 o4
  have Q:=c_rcheck_ok h (back:=back) (vi:=bv iv) rfl o1 o2 o3 o4
  rw[e]
  refine⟨?_,Q⟩
  refine fd.shot_Check.c ?_
  refine⟨[i64 t,i64 mode,i64 pad,bool back],rfl,rfl,?_⟩
  refine⟨[],_,_,_,_,P,rfl,rfl,?_⟩
  exact⟨_,rfl,[],rfl,trivial⟩
 ·refine⟨?_,Q⟩
  generalize shErr t mode pad (cSize t).toNat lk li=e at*
  refine fd.shot_Check.c ?_
  refine⟨[i64 t,i64 mode,i64 pad,bool back],rfl,rfl,?_⟩
  refine⟨[],_,_,_,_,P,rfl,rfl,?_⟩
  exact⟨_,rfl,[],rfl,trivial⟩
theorem caught_idle (x y:Value) (w:World):
  CallsD PP N.ctx_caught #[x,y] .returning w fun e u' w'=>e= .returned (.tuple #[])∧u'= .returning∧w'=w:=by
 refine callsD_of_wpS fd.ctx_caught.f rfl fun c₀ cs hu=> ?_
 apply wpS_seq
 apply wpS_region
 simp[wpOpsS,go_sem,recoverD,hu,Exit.thenS]
 refine wpS_of_wp ?_
 refine wp_block ?_
 refine wp_seq ?_
 refine wp_region ?_
 simp[wpOps,go_sem,Exit.then]
 refine .inl ?_
 refine wp_cond (t:=true) ?_ ?_
 ·simp[go_sem]
 simp only[if_true]
 refine wp_region ?_
 simp[wpOps,go_sem,Exit.then,bodyPostS,results]
 cases c₀
 simp_all
theorem caught_pan (p q:Addr) (n:Int) (w:World) (h1:(w.cell? p).isSome=true) (h2:w.frozen? p=false) (h3:((w.setCell p (.slice none 0 0)).cell? q).isSome=true) (h4:(w.setCell p (.slice none 0 0)).frozen? q=false):
  CallsD PP N.ctx_caught #[.pointer (some p),.pointer (some q)] (.panicking [{v:= .iface tRef (.int .i64 n),recovered:=false}]) w fun e u' w'=>
   e= .returned (.tuple #[])∧u'= .panicking [{v:= .iface tRef (.int .i64 n),recovered:=true}]∧w'=(w.setCell p (.slice none 0 0)).setCell q (.int .i64 n):=by
 obtain⟨x1,hx1⟩:=Z2.1 h1
 obtain⟨x2,hx2⟩:=Z2.1 h3
 have hta:∀(v:Value) (w:World),(Instr.typeAssert (.iface tRef v) tAny tRef true).run PP w= .ok (.tuple #[v,.bool true]) w:=fun v w=>by kernel_rfl
 refine callsD_of_wpS fd.ctx_caught.f rfl fun c₀ cs hu=> ?_
 apply wpS_seq
 apply wpS_region
 simp[wpOpsS,go_sem,recoverD,hu,Exit.thenS]
 refine wpS_of_wp ?_
 refine wp_block ?_
 refine wp_seq ?_
 refine wp_region ?_
 simp[wpOps,go_sem,Exit.then]
 refine .inl ?_
 refine wp_cond (t:=false) ?_ ?_
 ·simp[go_sem]
 simp only[if_false,Bool.false_eq_true]
 refine wp_seq ?_
 refine wp_region ?_
 simp[wpOps,go_sem,Exit.then,hta]
 refine .inl (.inl (.inl ?_))
 refine wp_cond (t:=true) ?_ ?_
 ·simp[go_sem]
 simp only[if_true]
 refine wp_seq ?_
 refine wp_region ?_
 simp[wpOps,go_sem,Exit.then]
 refine .inl ?_
 refine wp_region ?_
 simp[wpOps,go_sem,Exit.then,hx1,h2,hx2,h4,bodyPostS,results]
theorem caughtOk:Catch PP N.ctx_caught tRef:=⟨fun z w=>callFunc_enter fd.ctx_caught.f fd.ctx_caught.name rfl z w,caught_idle,caught_pan⟩
theorem c_refuse0:Con C N.ctx_refuse [i64 0] [] (.ret (.t [])) []:=by
 refine fd.ctx_refuse.c ?_
 exact⟨_,rfl,[],rfl,trivial⟩
theorem c_refuse {e:Int} (h:e≠0):Con C N.ctx_refuse [i64 e] [] (.pan (.i tRef (i64 e))) []:=by
 refine fd.ctx_refuse.c ?_
 refine spl_ne (fun _=> ?_) (fun hh=>absurd hh h)
 exact⟨_,rfl,[],rfl,trivial⟩
abbrev cxX (bg op:Bool) (t mode pad:Int) (back:Bool) (cv iv by' held last:V):B:= .mx [bool bg,bool op,i64 t,i64 mode,i64 pad,bool back,cv,iv,by',held,last]
theorem c_cxnew:Con C N.ctx_New [] [] (.ret (.p (.k 0) 0)) [cxX false false 0 0 0 false nilp nilv nilp nilv nilv]:=by
 refine fd.ctx_New.c ?_
 exact⟨_,rfl,[.d 2 0],rfl,⟨_,rfl,rfl⟩,trivial⟩
inductive HK where
 |n
 |o (H:Bs)
 |f (H:Bs)
def HK.v:HK→V
 | .n=>nilv
 | .o H=> .o 1 (.k 3) 0 H.length
 | .f H=> .z H.length (bv H)
def HK.b:HK→B
 | .o H=> .sc (bv H)
 |_=> .dead
def HK.l:HK→Bs
 | .n=>[]
 | .o H=>H
 | .f H=>H
abbrev cxO (op:Bool) (t mode pad:Int) (back:Bool) (k:Nat) (xs:List V) (iv:Bs) (x:HK) (last:Bs):B:=cxX true op t mode pad back (cipV t k xs) (.z iv.length (bv iv)) (.p (.k 1) 0) x.v (.z last.length (bv last))
theorem c_cxheld {t mode pad md:Int} {op back:Bool} {k:Nat} {xs:List V} {iv last:Bs} {st:MS} {x:HK}:Con C N.ctx_Ctx_Held [.p (.k 0) 0] [cxO op t mode pad back k xs iv x last,moX (cipV t k xs) md back st 2,gnB st.row st.gone,x.b] (.ret (i64 x.l.length)) [cxO op t mode pad back k xs iv x last,moX (cipV t k xs) md back st 2,gnB st.row st.gone,x.b]:=by
 obtain⟨ch,row,g⟩:=st;rcases row with _|⟨a,r⟩<;>rcases x with _|H|H
 all_goals
  refine fd.ctx_Ctx_Held.c ?_
  refine⟨_,rfl,?_⟩
  exact⟨_,rfl,[.k 0,.k 1,.k 2,.k 3],rfl,⟨_,rfl,rfl⟩,⟨_,rfl,rfl⟩,⟨_,rfl,rfl⟩,⟨_,rfl,rfl⟩,trivial⟩
theorem c_cxneed {t mode pad md:Int} {back:Bool} {k:Nat} {xs:List V} {iv last:Bs} {st:MS} {x:HK}:Con C N.ctx_Ctx_need [.p (.k 0) 0] [cxO true t mode pad back k xs iv x last,moX (cipV t k xs) md back st 2,gnB st.row st.gone,x.b] (.ret (.t [])) [cxO true t mode pad back k xs iv x last,moX (cipV t k xs) md back st 2,gnB st.row st.gone,x.b]:=by
 obtain⟨ch,row,g⟩:=st;rcases row with _|⟨a,r⟩<;>rcases x with _|H|H
 all_goals
  refine fd.ctx_Ctx_need.c ?_
  refine⟨_,rfl,?_⟩
  exact⟨_,rfl,[.k 0,.k 1,.k 2,.k 3],rfl,⟨_,rfl,rfl⟩,⟨_,rfl,rfl⟩,⟨_,rfl,rfl⟩,⟨_,rfl,rfl⟩,trivial⟩
theorem c_cxstolen {t mode pad md:Int} {op back:Bool} {k:Nat} {xs:List V} {iv last:Bs} {st:MS} {x:HK} (hm:mode≤9):Con C N.ctx_Ctx_stolen [.p (.k 0) 0] [cxO op t mode pad back k xs iv x last,moX (cipV t k xs) md back st 2,gnB st.row st.gone,x.b] (.ret (bool (decide (7≤mode)))) [cxO op t mode pad back k xs iv x last,moX (cipV t k xs) md back st 2,gnB st.row st.gone,x.b]:=by
 obtain⟨ch,row,g⟩:=st;rcases row with _|⟨a,r⟩<;>rcases x with _|H|H
 all_goals
  refine fd.ctx_Ctx_stolen.c ?_
  refine⟨_,rfl,?_⟩
  refine spl_d (fun h7=> ?_) (fun h7=> ?_)
  ·refine⟨_,rfl,?_⟩
   refine⟨_,rfl,[.k 0,.k 1,.k 2,.k 3],?_,⟨_,rfl,rfl⟩,⟨_,rfl,rfl⟩,⟨_,rfl,rfl⟩,⟨_,rfl,rfl⟩,trivial⟩
   exact congrArg bool (by rw[decide_eq_true hm,decide_eq_true h7])
  ·refine⟨_,rfl,[.k 0,.k 1,.k 2,.k 3],?_,⟨_,rfl,rfl⟩,⟨_,rfl,rfl⟩,⟨_,rfl,rfl⟩,⟨_,rfl,rfl⟩,trivial⟩
   exact congrArg bool (by rw[decide_eq_false h7])
def cxMost (s:Nat) (md mode pad:Int) (back:Bool):Nat:=if 3≤md then 0 else if 7≤mode then 2*s else if pad≠4∧back=true then s else s-1
theorem c_cxmost {t key s k xs rs} (h:Ciph t key s k xs rs) {mode pad md:Int} {op back:Bool} {iv last:Bs} {st:MS} {x:HK} (K:MK s md st) (hm:mode≤9):
  Con C N.ctx_Ctx_most [.p (.k 0) 0] [cxO op t mode pad back k xs iv x last,moX (cipV t k xs) md back st 2,gnB st.row st.gone,x.b] (.ret (i64 (cxMost s md mode pad back))) [cxO op t mode pad back k xs iv x last,moX (cipV t k xs) md back st 2,gnB st.row st.gone,x.b]:=by
 have hs:=h.s_le
 have G:=c_grainA h (back:=back) K
 have S:=c_cxstolen (t:=t) (mode:=mode) (pad:=pad) (md:=md) (op:=op) (back:=back) (k:=k) (xs:=xs) (iv:=iv) (last:=last) (st:=st) (x:=x) hm
 have hg:moGrain s md=if 3≤md then 1 else s:=by
  have:=K.ok.m
  unfold moGrain
  by_cases h3:3≤md
  ·rw[if_pos h3,if_neg (by omega)]
  ·rw[if_neg h3,if_pos (by omega)]
 generalize moGrain s md=gr at*
 have e2:I6.wrap (2*(s:Int))=((2*s:Nat):Int):=by rw[Zb _ (by omega)];omega
 have e3:I6.wrap ((s:Int)-1)=((s-1:Nat):Int):=by rw[Zb _ (by omega)];omega
 obtain⟨ch,row,g⟩:=st;rcases row with _|⟨a,r⟩<;>rcases x with _|H|H
 all_goals
  refine fd.ctx_Ctx_most.c ?_
  refine⟨_,rfl,?_⟩
  refine⟨[],_,_,_,_,h.size,rfl,rfl,?_⟩
  refine⟨_,rfl,?_⟩
  refine⟨[.k 1,.k 2],_,_,_,_,G,rfl,rfl,?_⟩
  by_cases h3:3≤md
  ·rw[if_pos h3]at hg
   refine spl_eq (fun _=> ?_) (fun hh=>absurd (by omega) hh)
   refine⟨_,rfl,[.k 0,.k 1,.k 2,.k 3],?_,⟨_,rfl,rfl⟩,⟨_,rfl,rfl⟩,⟨_,rfl,rfl⟩,⟨_,rfl,rfl⟩,trivial⟩
   exact q7i (by unfold cxMost;rw[if_pos h3];rfl)
  ·rw[if_neg h3]at hg
   refine spl_eq (fun hh=>absurd hh (by omega)) (fun _=> ?_)
   refine⟨[.k 0,.k 1,.k 2,.k 3],_,_,_,_,S,rfl,rfl,?_⟩
   refine spl_d (fun h7=> ?_) (fun h7=> ?_)
   ·refine⟨_,rfl,[.k 0,.k 1,.k 2,.k 3],?_,⟨_,rfl,rfl⟩,⟨_,rfl,rfl⟩,⟨_,rfl,rfl⟩,⟨_,rfl,rfl⟩,trivial⟩
    exact q7i (by unfold cxMost;rw[if_neg h3,if_pos h7];exact e2)
   ·refine⟨_,rfl,?_⟩
    refine spl_ne (fun h4=> ?_) (fun h4=> ?_)
    ·refine⟨_,rfl,?_⟩
     cases back
     ·refine⟨_,rfl,[.k 0,.k 1,.k 2,.k 3],?_,⟨_,rfl,rfl⟩,⟨_,rfl,rfl⟩,⟨_,rfl,rfl⟩,⟨_,rfl,rfl⟩,trivial⟩
      exact q7i (by unfold cxMost;rw[if_neg h3,if_neg h7,if_neg (by simp)];exact e3)
     ·refine⟨_,rfl,[.k 0,.k 1,.k 2,.k 3],?_,⟨_,rfl,rfl⟩,⟨_,rfl,rfl⟩,⟨_,rfl,rfl⟩,⟨_,rfl,rfl⟩,trivial⟩
      exact q7i (by unfold cxMost;rw[if_neg h3,if_neg h7,if_pos ⟨h4,rfl⟩])
    ·refine⟨_,rfl,[.k 0,.k 1,.k 2,.k 3],?_,⟨_,rfl,rfl⟩,⟨_,rfl,rfl⟩,⟨_,rfl,rfl⟩,⟨_,rfl,rfl⟩,trivial⟩
     exact q7i (by unfold cxMost;rw[if_neg h3,if_neg h7,if_neg (by simp[h4])];exact e3)
def cxLast (s:Nat) (mode:Int) (back:Bool) (b o last:Bs):Bs:=if 7≤mode∧s≤b.length then (if back then b else o).drop (b.length-s)else last
theorem c_cxturn {t key s k xs rs} (h:Ciph t key s k xs rs) {mode pad md:Int} {op back:Bool} {iv last H b:Bs} {st:MS} {m:Nat} (hb:b.length=m) (hmb:m≤100000) (K:MK s md st) (hm:mode≤9) (hg:m%moGrain s md=0) (hne:0<m∨st.row=[]):
  Con C N.ctx_Ctx_turn [.p (.k 0) 0,.z m (bv b)] [cxO op t mode pad back k xs iv (.f H) last,moX (cipV t k xs) md back st 2,gnB st.row st.gone,.dead]
   (.ret (.z m (bv (moStep (cF t key false) (cF t key true) s md back st b).1)))
   [cxO op t mode pad back k xs iv (.f H) (cxLast s mode back b (moStep (cF t key false) (cF t key true) s md back st b).1 last),moX (cipV t k xs) md back (moStep (cF t key false) (cF t key true) s md back st b).2 4,.dead,.dead,gnB (moStep (cF t key false) (cF t key true) s md back st b).2.row (moStep (cF t key false) (cF t key true) s md back st b).2.gone]:=by
 have hs:=h.s_le
 have lo:(moStep (cF t key false) (cF t key true) s md back st b).1.length=m:=by rw[moStep_len h.ci K.ok (by rw[hb];exact hg),hb]
 have T0:=c_step h (back:=back) (st:=st) (b:=b) rfl hb (by omega) K hg hne
 have S:=fun(st':MS)=>c_cxstolen (t:=t) (mode:=mode) (pad:=pad) (md:=md) (op:=op) (back:=back) (k:=k) (xs:=xs) (iv:=iv) (last:=last) (st:=st') (x:= .f H) hm
 generalize moStep (cF t key false) (cF t key true) s md back st b=S0 at*
 obtain⟨o,st1⟩:=S0
 have S1:=S st1
 obtain⟨c1,row1,g1⟩:=st1
 dsimp only at T0 lo ⊢
 have eS:I6.wrap ((m:Int)-(s:Int))=(m:Int)-s:=Zb _ (by omega)
 by_cases hL:7≤mode∧s≤m
 ·have eL:cxLast s mode back b o last=(if back then b else o).drop (m-s):=by unfold cxLast;rw[hb,if_pos hL]
  rw[eL]
  cases back
  all_goals
   obtain⟨ch,row,g⟩:=st
   rcases row with _|⟨a,r⟩<;>rcases row1 with _|⟨a1,r1⟩
  all_goals
   refine fd.ctx_Ctx_turn.c ?_
   refine⟨_,rfl,?_⟩
   refine⟨[.k 1,.k 2],_,_,_,_,T0,rfl,rfl,?_⟩
   refine⟨[],_,_,_,_,c_refuse0,rfl,rfl,?_⟩
   refine⟨_,rfl,?_⟩
   refine⟨[],_,_,_,_,h.size,rfl,rfl,?_⟩
   refine⟨[.k 0,.k 1,.d 15 2,.k 3],_,_,_,_,S1,rfl,rfl,?_⟩
   refine spl_d (fun h7=> ?_) (fun h7=>absurd hL.1 h7)
   refine spl_d (fun h7=> ?_) (fun h7=>absurd hL.2 (by omega))
   refine⟨_,rfl,?_⟩
   refine⟨by rw[eS];omega,by rw[eS];omega,by omega,by omega,?_⟩
   first
    |refine⟨[],_,_,_,_,c_cloneZ (n:=s) (l:=o.drop (m-s)) (va:=bv (o.drop (m-s))) rfl (by rw[Ze,lo];omega) (by omega),?_,rfl,?_⟩
     ·show[V.z (m-(I6.wrap ((m:Int)-(s:Int))).toNat) (sub (bv o) (I6.wrap ((m:Int)-(s:Int))).toNat (m-(I6.wrap ((m:Int)-(s:Int))).toNat))]=_
      rw[eS,show((m:Int)-s).toNat=m-s by omega,bv_dropN lo (by omega),show m-(m-s)=s by omega]
     refine⟨Za rfl,?_⟩
     refine⟨_,rfl,[.k 0,.k 1,.k 2,.k 3,.d 15 2],rfl,⟨_,rfl,?_⟩,⟨_,rfl,rfl⟩,⟨_,rfl,rfl⟩,⟨_,rfl,rfl⟩,⟨_,rfl,rfl⟩,trivial⟩
     have ll:(o.drop (m-s)).length=s:=by rw[Ze,lo];omega
     show _=cxO op t mode pad false k xs iv (.f H) (o.drop (m-s))
     unfold cxO
     rw[ll];rfl
    |refine⟨[],_,_,_,_,c_cloneZ (n:=s) (l:=b.drop (m-s)) (va:=bv (b.drop (m-s))) rfl (by rw[Ze,hb];omega) (by omega),?_,rfl,?_⟩
     ·show[V.z (m-(I6.wrap ((m:Int)-(s:Int))).toNat) (sub (bv b) (I6.wrap ((m:Int)-(s:Int))).toNat (m-(I6.wrap ((m:Int)-(s:Int))).toNat))]=_
      rw[eS,show((m:Int)-s).toNat=m-s by omega,bv_dropN hb (by omega),show m-(m-s)=s by omega]
     refine⟨Za rfl,?_⟩
     refine⟨_,rfl,[.k 0,.k 1,.k 2,.k 3,.d 15 2],rfl,⟨_,rfl,?_⟩,⟨_,rfl,rfl⟩,⟨_,rfl,rfl⟩,⟨_,rfl,rfl⟩,⟨_,rfl,rfl⟩,trivial⟩
     have ll:(b.drop (m-s)).length=s:=by rw[Ze,hb];omega
     show _=cxO op t mode pad true k xs iv (.f H) (b.drop (m-s))
     unfold cxO
     rw[ll];rfl
 ·have eL:cxLast s mode back b o last=last:=by unfold cxLast;rw[hb,if_neg hL]
  rw[eL]
  obtain⟨ch,row,g⟩:=st
  rcases row with _|⟨a,r⟩<;>rcases row1 with _|⟨a1,r1⟩
  all_goals
   refine fd.ctx_Ctx_turn.c ?_
   refine⟨_,rfl,?_⟩
   refine⟨[.k 1,.k 2],_,_,_,_,T0,rfl,rfl,?_⟩
   refine⟨[],_,_,_,_,c_refuse0,rfl,rfl,?_⟩
   refine⟨_,rfl,?_⟩
   refine⟨[],_,_,_,_,h.size,rfl,rfl,?_⟩
   refine⟨[.k 0,.k 1,.d 15 2,.k 3],_,_,_,_,S1,rfl,rfl,?_⟩
   refine spl_d (fun h7=> ?_) (fun h7=> ?_)
   ·refine spl_d (fun h8=>absurd ⟨h7,by omega⟩ hL) (fun h8=> ?_)
    exact⟨_,rfl,[.k 0,.k 1,.k 2,.k 3,.d 15 2],rfl,⟨_,rfl,rfl⟩,⟨_,rfl,rfl⟩,⟨_,rfl,rfl⟩,⟨_,rfl,rfl⟩,⟨_,rfl,rfl⟩,trivial⟩
   ·exact⟨_,rfl,[.k 0,.k 1,.k 2,.k 3,.d 15 2],rfl,⟨_,rfl,rfl⟩,⟨_,rfl,rfl⟩,⟨_,rfl,rfl⟩,⟨_,rfl,rfl⟩,⟨_,rfl,rfl⟩,trivial⟩
theorem c_cxturn0 {t key s k xs rs} (h:Ciph t key s k xs rs) {mode pad md:Int} {op back:Bool} {iv last H:Bs} {st:MS} {vb:List Value} (h3:3≤md) (hm:mode≤9):
  Con C N.ctx_Ctx_turn [.p (.k 0) 0,.z 0 vb] [cxO op t mode pad back k xs iv (.f H) last,moX (cipV t k xs) md back st 2,gnB st.row st.gone,.dead]
   (.ret (.z 0 [])) [cxO op t mode pad back k xs iv (.f H) last,moX (cipV t k xs) md back st 2,gnB st.row st.gone,.dead]:=by
 have hs:=h.s_le
 have T0:=c_step_nil h (back:=back) (st:=st) (vb:=vb) h3
 have S:=c_cxstolen (t:=t) (mode:=mode) (pad:=pad) (md:=md) (op:=op) (back:=back) (k:=k) (xs:=xs) (iv:=iv) (last:=last) (st:=st) (x:= .f H) hm
 obtain⟨ch,row,g⟩:=st
 rcases row with _|⟨a,r⟩
 all_goals
  refine fd.ctx_Ctx_turn.c ?_
  refine⟨_,rfl,?_⟩
  refine⟨[.k 1,.k 2],_,_,_,_,T0,rfl,rfl,?_⟩
  refine⟨[],_,_,_,_,c_refuse0,rfl,rfl,?_⟩
  refine⟨_,rfl,?_⟩
  refine⟨[],_,_,_,_,h.size,rfl,rfl,?_⟩
  refine⟨[.k 0,.k 1,.k 2,.k 3],_,_,_,_,S,rfl,rfl,?_⟩
  refine spl_d (fun h7=> ?_) (fun h7=> ?_)
  ·refine spl_d (fun h8=>absurd h8 (by omega)) (fun h8=> ?_)
   exact⟨_,rfl,[.k 0,.k 1,.k 2,.k 3],rfl,⟨_,rfl,rfl⟩,⟨_,rfl,rfl⟩,⟨_,rfl,rfl⟩,⟨_,rfl,rfl⟩,trivial⟩
  ·exact⟨_,rfl,[.k 0,.k 1,.k 2,.k 3],rfl,⟨_,rfl,rfl⟩,⟨_,rfl,rfl⟩,⟨_,rfl,rfl⟩,⟨_,rfl,rfl⟩,trivial⟩
def cxMd (mode:Int):Int:=if 7≤mode then 2 else mode
theorem c_cxstolenB {t t0 mode pad md:Int} {op back back0:Bool} {k k0:Nat} {xs xs0:List V} {iv last:Bs} {st:MS} {x:HK} (hm:mode≤9):Con C N.ctx_Ctx_stolen [.p (.k 0) 0] [cxO op t mode pad back k xs iv x last,moX (cipV t0 k0 xs0) md back0 st 2,gnB st.row st.gone,x.b] (.ret (bool (decide (7≤mode)))) [cxO op t mode pad back k xs iv x last,moX (cipV t0 k0 xs0) md back0 st 2,gnB st.row st.gone,x.b]:=by
 obtain⟨ch,row,g⟩:=st
 rcases row with _|⟨a,r⟩<;>rcases x with _|H|H
 all_goals
  refine fd.ctx_Ctx_stolen.c ?_
  refine⟨_,rfl,?_⟩
  refine spl_d (fun h7=> ?_) (fun h7=> ?_)
  ·refine⟨_,rfl,?_⟩
   refine⟨_,rfl,[.k 0,.k 1,.k 2,.k 3],?_,⟨_,rfl,rfl⟩,⟨_,rfl,rfl⟩,⟨_,rfl,rfl⟩,⟨_,rfl,rfl⟩,trivial⟩
   exact congrArg bool (by rw[decide_eq_true hm,decide_eq_true h7])
  ·refine⟨_,rfl,[.k 0,.k 1,.k 2,.k 3],?_,⟨_,rfl,rfl⟩,⟨_,rfl,rfl⟩,⟨_,rfl,rfl⟩,⟨_,rfl,rfl⟩,trivial⟩
   exact congrArg bool (by rw[decide_eq_false h7])
theorem c_cxstolenA {t mode pad:Int} {op bg back:Bool} {k:Nat} {xs:List V} {iv:Bs} (hm:mode≤9):Con C N.ctx_Ctx_stolen [.p (.k 0) 0] [cxX bg op t mode pad back (cipV t k xs) (.z iv.length (bv iv)) nilp nilv nilv] (.ret (bool (decide (7≤mode)))) [cxX bg op t mode pad back (cipV t k xs) (.z iv.length (bv iv)) nilp nilv nilv]:=by
 refine fd.ctx_Ctx_stolen.c ?_
 refine⟨_,rfl,?_⟩
 refine spl_d (fun h7=> ?_) (fun h7=> ?_)
 ·refine⟨_,rfl,?_⟩
  exact⟨_,rfl,[.k 0],congrArg bool (by rw[decide_eq_true hm,decide_eq_true h7]),⟨_,rfl,rfl⟩,trivial⟩
 ·exact⟨_,rfl,[.k 0],congrArg bool (by rw[decide_eq_false h7]),⟨_,rfl,rfl⟩,trivial⟩
theorem cxMd_ok {s:Nat} {mode pad:Int} {iv:Bs} (ok:shOk s mode pad iv):(1≤cxMd mode∧cxMd mode≤6)∧iv.length=if cxMd mode=1 then 0 else s:=by
 obtain⟨o1,o2,o3,o4⟩:=ok
 unfold cxMd
 by_cases h7:7≤mode
 ·rw[if_pos h7];exact⟨by decide,by rw[o4,if_neg (by omega),if_neg (by decide)]⟩
 ·rw[if_neg h7];exact⟨by omega,o4⟩
theorem c_cxbeginA {t key s k xs rs} (h:Ciph t key s k xs rs) {mode pad:Int} {op back:Bool} {iv:Bs} (ok:shOk s mode pad iv):
  Con C N.ctx_Ctx_begin [.p (.k 0) 0] [cxX true op t mode pad back (cipV t k xs) (.z iv.length (bv iv)) nilp nilv nilv] (.ret (.t []))
   [cxO true t mode pad back k xs iv .n iv,moX (cipV t k xs) (cxMd mode) back ⟨iv,[],[]⟩ 2,.dead,.dead]:=by
 have hs:=h.s_le
 obtain⟨m1,hiv⟩:=cxMd_ok ok
 have T0:=c_new_m h (mode:=cxMd mode) (back:=back) (i:=1) (vi:=bv iv) (iv:=iv) rfl rfl m1 hiv
 have hl16:iv.length≤16:=by rw[hiv];split<;>omega
 have S:=c_cxstolenA (t:=t) (mode:=mode) (pad:=pad) (op:=op) (bg:=true) (back:=back) (k:=k) (xs:=xs) (iv:=iv) ok.1.2
 refine fd.ctx_Ctx_begin.c ?_
 refine⟨_,rfl,?_⟩
 refine⟨[.k 0],_,_,_,_,S,rfl,rfl,?_⟩
 refine spl_d (fun h7=> ?_) (fun h7=> ?_)
 all_goals
  first
   |rw[show cxMd mode=2 from if_pos h7]at T0 ⊢
   |rw[show cxMd mode=mode from if_neg h7]at T0 ⊢
  refine⟨_,rfl,?_⟩
  refine⟨_,rfl,?_⟩
  refine⟨_,rfl,?_⟩
  refine⟨[],_,_,_,_,T0,rfl,rfl,?_⟩
  refine⟨Za rfl,?_⟩
  refine⟨_,rfl,?_⟩
  refine⟨[],_,_,_,_,c_cloneZ (l:=iv) rfl rfl (by omega),rfl,rfl,?_⟩
  refine⟨Za rfl,?_⟩
  refine⟨Za rfl,?_⟩
  refine⟨Za rfl,?_⟩
  exact⟨_,rfl,[.k 0,.d 26 0,.d 26 1,.d 26 2],rfl,⟨_,rfl,rfl⟩,⟨_,rfl,rfl⟩,⟨_,rfl,rfl⟩,⟨_,rfl,rfl⟩,trivial⟩
theorem c_cxbeginB {t key s k xs rs} (h:Ciph t key s k xs rs) {mode pad md0 t0:Int} {k0:Nat} {xs0:List V} {op back back0:Bool} {iv last0:Bs} {st0:MS} {x0:HK} (ok:shOk s mode pad iv):
  Con C N.ctx_Ctx_begin [.p (.k 0) 0] [cxO op t mode pad back k xs iv x0 last0,moX (cipV t0 k0 xs0) md0 back0 st0 2,gnB st0.row st0.gone,x0.b] (.ret (.t []))
   [cxX true true t mode pad back (cipV t k xs) (.z iv.length (bv iv)) (.p (.k 4) 0) nilv (.z iv.length (bv iv)),moX (cipV t0 k0 xs0) md0 back0 st0 2,gnB st0.row st0.gone,x0.b,moX (cipV t k xs) (cxMd mode) back ⟨iv,[],[]⟩ 5,.dead,.dead]:=by
 have hs:=h.s_le
 obtain⟨m1,hiv⟩:=cxMd_ok ok
 have T0:=c_new_m h (mode:=cxMd mode) (back:=back) (i:=1) (vi:=bv iv) (iv:=iv) rfl rfl m1 hiv
 have hl16:iv.length≤16:=by rw[hiv];split<;>omega
 have S:=c_cxstolenB (t:=t) (mode:=mode) (pad:=pad) (md:=md0) (op:=op) (back:=back) (back0:=back0) (t0:=t0) (k:=k) (k0:=k0) (xs:=xs) (xs0:=xs0) (iv:=iv) (last:=last0) (st:=st0) (x:=x0) ok.1.2
 obtain⟨ch,row,g⟩:=st0
 rcases row with _|⟨a,r⟩<;>rcases x0 with _|H|H
 all_goals
  refine fd.ctx_Ctx_begin.c ?_
  refine⟨_,rfl,?_⟩
  refine⟨[.k 0,.k 1,.k 2,.k 3],_,_,_,_,S,rfl,rfl,?_⟩
  refine spl_d (fun h7=> ?_) (fun h7=> ?_)
  all_goals
   first
    |rw[show cxMd mode=2 from if_pos h7]at T0 ⊢
    |rw[show cxMd mode=mode from if_neg h7]at T0 ⊢
   refine⟨_,rfl,?_⟩
   refine⟨_,rfl,?_⟩
   refine⟨_,rfl,?_⟩
   refine⟨[],_,_,_,_,T0,rfl,rfl,?_⟩
   refine⟨Za rfl,?_⟩
   refine⟨_,rfl,?_⟩
   refine⟨[],_,_,_,_,c_cloneZ (l:=iv) rfl rfl (by omega),rfl,rfl,?_⟩
   refine⟨Za rfl,?_⟩
   refine⟨Za rfl,?_⟩
   refine⟨Za rfl,?_⟩
   exact⟨_,rfl,[.k 0,.k 1,.k 2,.k 3,.d 26 0,.d 26 1,.d 26 2],rfl,⟨_,rfl,rfl⟩,⟨_,rfl,rfl⟩,⟨_,rfl,rfl⟩,⟨_,rfl,rfl⟩,⟨_,rfl,rfl⟩,⟨_,rfl,rfl⟩,⟨_,rfl,rfl⟩,trivial⟩
theorem shErr_ok {t key s k xs rs} (h:Ciph t key s k xs rs) {mode pad:Int} {lk li:Nat} {iv:Bs} (hk:key.length=lk) (hi:iv.length=li) (ok:shOk s mode pad iv):shErr t mode pad (cSize t).toNat lk li=0:=by
 obtain⟨o1,o2,o3,o4⟩:=ok
 unfold shErr
 rw[if_neg (by exact fun x=>x h.ht),if_neg (by rw[←hk];exact fun x=>x h.kl),if_neg (by exact fun x=>x ⟨o1,o2,o3⟩),if_neg (by rw[h.hs,Zc,←hi];exact fun x=>x o4)]
theorem c_cxinitA {t key s k xs rs} (h:Ciph t key s k xs rs) {mode pad:Int} {back:Bool} {lk li:Nat} {iv:Bs} (hk:key.length=lk) (hlk:lk≤1000) (hi:iv.length=li) (ok:shOk s mode pad iv):
  Con C N.ctx_Ctx_Init [.p (.k 0) 0,cfgV t mode pad back,.z lk (bv key),.z li (bv iv)] [cxX false false 0 0 0 false nilp nilv nilp nilv nilv] (.ret (i64 0))
   [cxO true t mode pad back k xs iv .n iv,moX (cipV t k xs) (cxMd mode) back ⟨iv,[],[]⟩ 2,.dead,.dead]:=by
 have hs:=h.s_le
 obtain⟨m1,hiv⟩:=cxMd_ok ok
 have hl16:iv.length≤16:=by rw[hiv];split<;>omega
 have CK:=(check_both t hk hlk mode pad back hi).1
 rw[shErr_ok h hk hi ok]at CK
 subst hi
 refine fd.ctx_Ctx_Init.c ?_
 refine⟨[i64 t,i64 mode,i64 pad,bool back],rfl,rfl,?_⟩
 refine⟨[],_,_,_,_,CK,rfl,rfl,?_⟩
 refine⟨_,rfl,?_⟩
 refine⟨[],_,_,_,_,h.new' (n:=lk) hk rfl,rfl,rfl,?_⟩
 refine⟨Za rfl,?_⟩
 refine⟨[i64 t,i64 mode,i64 pad,bool back],rfl,rfl,?_⟩
 refine⟨[],_,_,_,_,c_cloneZ (l:=iv) rfl rfl (by omega),rfl,rfl,?_⟩
 refine⟨Za rfl,?_⟩
 refine⟨Za rfl,?_⟩
 refine⟨Za rfl,?_⟩
 refine⟨[.k 0],_,_,_,_,c_cxbeginA h (op:=false) ok,rfl,rfl,?_⟩
 exact⟨_,rfl,[.k 0,.d 40 1,.d 40 2,.d 40 3],rfl,⟨_,rfl,rfl⟩,⟨_,rfl,rfl⟩,⟨_,rfl,rfl⟩,⟨_,rfl,rfl⟩,trivial⟩
theorem c_cxinitB {t key s k xs rs} (h:Ciph t key s k xs rs) {mode pad:Int} {back:Bool} {lk li:Nat} {iv:Bs} {t0 mode0 pad0 md0:Int} {op back0:Bool} {k0:Nat} {xs0:List V} {iv0 last0:Bs} {st0:MS} {x0:HK} (hk:key.length=lk) (hlk:lk≤1000) (hi:iv.length=li) (ok:shOk s mode pad iv):
  Con C N.ctx_Ctx_Init [.p (.k 0) 0,cfgV t mode pad back,.z lk (bv key),.z li (bv iv)] [cxO op t0 mode0 pad0 back0 k0 xs0 iv0 x0 last0,moX (cipV t0 k0 xs0) md0 back0 st0 2,gnB st0.row st0.gone,x0.b] (.ret (i64 0))
   [cxX true true t mode pad back (cipV t k xs) (.z iv.length (bv iv)) (.p (.k 4) 0) nilv (.z iv.length (bv iv)),moX (cipV t0 k0 xs0) md0 back0 st0 2,gnB st0.row st0.gone,x0.b,moX (cipV t k xs) (cxMd mode) back ⟨iv,[],[]⟩ 5,.dead,.dead]:=by
 have hs:=h.s_le
 obtain⟨m1,hiv⟩:=cxMd_ok ok
 have hl16:iv.length≤16:=by rw[hiv];split<;>omega
 have CK:=(check_both t hk hlk mode pad back hi).1
 rw[shErr_ok h hk hi ok]at CK
 subst hi
 have BG:=c_cxbeginB h (back:=back) (md0:=md0) (t0:=t0) (k0:=k0) (xs0:=xs0) (op:=op) (back0:=back0) (last0:=last0) (st0:=st0) (x0:=x0) ok
 obtain⟨ch,row,g⟩:=st0
 rcases row with _|⟨a,r⟩<;>rcases x0 with _|H|H
 all_goals
  refine fd.ctx_Ctx_Init.c ?_
  refine⟨[i64 t,i64 mode,i64 pad,bool back],rfl,rfl,?_⟩
  refine⟨[],_,_,_,_,CK,rfl,rfl,?_⟩
  refine⟨_,rfl,?_⟩
  refine⟨[],_,_,_,_,h.new' (n:=lk) hk rfl,rfl,rfl,?_⟩
  refine⟨Za rfl,?_⟩
  refine⟨[i64 t,i64 mode,i64 pad,bool back],rfl,rfl,?_⟩
  refine⟨[],_,_,_,_,c_cloneZ (l:=iv) rfl rfl (by omega),rfl,rfl,?_⟩
  refine⟨Za rfl,?_⟩
  refine⟨Za rfl,?_⟩
  refine⟨Za rfl,?_⟩
  refine⟨[.k 0,.k 1,.k 2,.k 3],_,_,_,_,BG,rfl,rfl,?_⟩
  exact⟨_,rfl,[.k 0,.k 1,.k 2,.k 3,.d 40 4,.d 40 5,.d 40 6],rfl,⟨_,rfl,rfl⟩,⟨_,rfl,rfl⟩,⟨_,rfl,rfl⟩,⟨_,rfl,rfl⟩,⟨_,rfl,rfl⟩,⟨_,rfl,rfl⟩,⟨_,rfl,rfl⟩,trivial⟩
theorem c_cxinit_noA {t mode pad:Int} {back:Bool} {lk li:Nat} {key iv:Bs} (hk:key.length=lk) (hlk:lk≤1000) (hi:iv.length=li) (he:shErr t mode pad (cSize t).toNat lk li≠0):
  Con C N.ctx_Ctx_Init [.p (.k 0) 0,cfgV t mode pad back,.z lk (bv key),.z li (bv iv)] [cxX false false 0 0 0 false nilp nilv nilp nilv nilv] (.ret (i64 (shErr t mode pad (cSize t).toNat lk li))) [cxX false false 0 0 0 false nilp nilv nilp nilv nilv]:=by
 have CK:=(check_both t hk hlk mode pad back hi).1
 generalize shErr t mode pad (cSize t).toNat lk li=e at*
 refine fd.ctx_Ctx_Init.c ?_
 refine⟨[i64 t,i64 mode,i64 pad,bool back],rfl,rfl,?_⟩
 refine⟨[],_,_,_,_,CK,rfl,rfl,?_⟩
 refine spl_ne (fun _=> ?_) (fun hh=>absurd hh he)
 exact⟨_,rfl,[.k 0],rfl,⟨_,rfl,rfl⟩,trivial⟩
theorem c_cxinit_noB {t mode pad:Int} {back:Bool} {lk li:Nat} {key iv:Bs} {t0 mode0 pad0 md0:Int} {op back0:Bool} {k0:Nat} {xs0:List V} {iv0 last0:Bs} {st0:MS} {x0:HK} (hk:key.length=lk) (hlk:lk≤1000) (hi:iv.length=li) (he:shErr t mode pad (cSize t).toNat lk li≠0):
  Con C N.ctx_Ctx_Init [.p (.k 0) 0,cfgV t mode pad back,.z lk (bv key),.z li (bv iv)] [cxO op t0 mode0 pad0 back0 k0 xs0 iv0 x0 last0,moX (cipV t0 k0 xs0) md0 back0 st0 2,gnB st0.row st0.gone,x0.b] (.ret (i64 (shErr t mode pad (cSize t).toNat lk li))) [cxO op t0 mode0 pad0 back0 k0 xs0 iv0 x0 last0,moX (cipV t0 k0 xs0) md0 back0 st0 2,gnB st0.row st0.gone,x0.b]:=by
 have CK:=(check_both t hk hlk mode pad back hi).1
 generalize shErr t mode pad (cSize t).toNat lk li=e at*
 obtain⟨ch,row,g⟩:=st0
 rcases row with _|⟨a,r⟩<;>rcases x0 with _|H|H
 all_goals
  refine fd.ctx_Ctx_Init.c ?_
  refine⟨[i64 t,i64 mode,i64 pad,bool back],rfl,rfl,?_⟩
  refine⟨[],_,_,_,_,CK,rfl,rfl,?_⟩
  refine spl_ne (fun _=> ?_) (fun hh=>absurd hh he)
  exact⟨_,rfl,[.k 0,.k 1,.k 2,.k 3],rfl,⟨_,rfl,rfl⟩,⟨_,rfl,rfl⟩,⟨_,rfl,rfl⟩,⟨_,rfl,rfl⟩,trivial⟩
theorem c_cxresetA:Con C N.ctx_Ctx_Reset [.p (.k 0) 0] [cxX false false 0 0 0 false nilp nilv nilp nilv nilv] (.ret (i64 6)) [cxX false false 0 0 0 false nilp nilv nilp nilv nilv]:=by
 refine fd.ctx_Ctx_Reset.c ?_
 refine⟨_,rfl,?_⟩
 exact⟨_,rfl,[.k 0],rfl,⟨_,rfl,rfl⟩,trivial⟩
theorem c_cxheldA:Con C N.ctx_Ctx_Held [.p (.k 0) 0] [cxX false false 0 0 0 false nilp nilv nilp nilv nilv] (.ret (i64 0)) [cxX false false 0 0 0 false nilp nilv nilp nilv nilv]:=by
 refine fd.ctx_Ctx_Held.c ?_
 refine⟨_,rfl,?_⟩
 exact⟨_,rfl,[.k 0],rfl,⟨_,rfl,rfl⟩,trivial⟩
theorem c_cxneedA:Con C N.ctx_Ctx_need [.p (.k 0) 0] [cxX false false 0 0 0 false nilp nilv nilp nilv nilv] (.pan (.i tRef (i64 6))) [cxX false false 0 0 0 false nilp nilv nilp nilv nilv]:=by
 refine fd.ctx_Ctx_need.c ?_
 refine⟨_,rfl,?_⟩
 refine⟨[],_,_,_,_,c_refuse (e:=6) (by decide),rfl,rfl,?_⟩
 exact⟨_,rfl,[.k 0],rfl,⟨_,rfl,rfl⟩,trivial⟩
theorem c_cxresetB {t key s k xs rs} (h:Ciph t key s k xs rs) {mode pad md0:Int} {op back:Bool} {iv last0:Bs} {st0:MS} {x0:HK} (ok:shOk s mode pad iv):
  Con C N.ctx_Ctx_Reset [.p (.k 0) 0] [cxO op t mode pad back k xs iv x0 last0,moX (cipV t k xs) md0 back st0 2,gnB st0.row st0.gone,x0.b] (.ret (i64 0))
   [cxX true true t mode pad back (cipV t k xs) (.z iv.length (bv iv)) (.p (.k 4) 0) nilv (.z iv.length (bv iv)),moX (cipV t k xs) md0 back st0 2,gnB st0.row st0.gone,x0.b,moX (cipV t k xs) (cxMd mode) back ⟨iv,[],[]⟩ 5,.dead,.dead]:=by
 have BG:=c_cxbeginB h (back:=back) (md0:=md0) (t0:=t) (k0:=k) (xs0:=xs) (op:=op) (back0:=back) (last0:=last0) (st0:=st0) (x0:=x0) ok
 obtain⟨ch,row,g⟩:=st0
 rcases row with _|⟨a,r⟩<;>rcases x0 with _|H|H
 all_goals
  refine fd.ctx_Ctx_Reset.c ?_
  refine⟨_,rfl,?_⟩
  refine⟨[.k 0,.k 1,.k 2,.k 3],_,_,_,_,BG,rfl,rfl,?_⟩
  exact⟨_,rfl,[.k 0,.k 1,.k 2,.k 3,.d 9 4,.d 9 5,.d 9 6],rfl,⟨_,rfl,rfl⟩,⟨_,rfl,rfl⟩,⟨_,rfl,rfl⟩,⟨_,rfl,rfl⟩,⟨_,rfl,rfl⟩,⟨_,rfl,rfl⟩,⟨_,rfl,rfl⟩,trivial⟩
def cxN (g most L:Nat):Nat:=(L-most+(g-1))/g
theorem cxN_lt {g most L i:Nat} (hg:0<g):i<cxN g most L↔most+g*i<L:=by
 unfold cxN
 rw[Nat.lt_iff_add_one_le,Nat.le_div_iff_mul_le hg,Nat.add_mul,Nat.one_mul,Nat.mul_comm i g]
 omega
theorem cxN_le {g most L:Nat} (hg:0<g) (hm:g-1≤most):g*cxN g most L≤L:=by
 by_cases h:cxN g most L=0
 ·rw[h];omega
 ·have:=(cxN_lt (most:=most) (L:=L) (i:=cxN g most L-1) hg).1 (by omega)
  have e:g*cxN g most L=g*(cxN g most L-1)+g:=by
   obtain⟨k,hk⟩:∃k,cxN g most L=k+1:=⟨cxN g most L-1,by omega⟩
   rw[hk,Zr,Zo]
  omega
theorem cxN_add {g most L m:Nat} (hg:0<g) (hm:g-1≤most):cxN g most (L+m)=cxN g most L+cxN g most (L-g*cxN g most L+m):=by
 have hle:=cxN_le (L:=L) hg hm
 refine Zw ?_ ?_
 ·refine Zl fun h=> ?_
  have h1:=(cxN_lt hg).1 h
  rw[Nat.mul_add]at h1
  have h2:=(cxN_lt (most:=most) (L:=L-g*cxN g most L+m) (i:=cxN g most (L-g*cxN g most L+m)) hg).2 (by omega)
  exact absurd h2 (Z3 _)
 ·by_cases h0:cxN g most (L-g*cxN g most L+m)=0
  ·rw[h0,Jf]
   refine Zl fun h=> ?_
   have h1:=(cxN_lt hg).1 h
   have h2:=(cxN_lt (most:=most) (L:=L) (i:=cxN g most (L+m)) hg).1 h
   have h3:=(cxN_lt (most:=most) (L:=L+m) (i:=cxN g most (L+m)) hg).2 (by omega)
   exact absurd h3 (Z3 _)
  ·obtain⟨k,hk⟩:∃k,cxN g most (L-g*cxN g most L+m)=k+1:=⟨cxN g most (L-g*cxN g most L+m)-1,by omega⟩
   rw[hk]
   have h1:=(cxN_lt (most:=most) (L:=L-g*cxN g most L+m) (i:=k) hg).1 (by omega)
   have h2:=(cxN_lt (most:=most) (L:=L+m) (i:=cxN g most L+k) hg).2 (by rw[Nat.mul_add];omega)
   omega
theorem cxMd_is {n:Nat} {mode pad:Int} {iv:Bs} (ok:shOk n mode pad iv):(7≤mode∧cxMd mode=2)∨(mode≤6∧cxMd mode=mode):=by
 unfold cxMd
 by_cases h7:7≤mode
 ·exact .inl ⟨h7,if_pos h7⟩
 ·exact .inr ⟨by omega,if_neg h7⟩
theorem cx_grain {n:Nat} {mode pad:Int} {iv:Bs} {back:Bool} (hn:0<n) (ok:shOk n mode pad iv):
  0<moGrain n (cxMd mode)∧moGrain n (cxMd mode)-1≤cxMost n (cxMd mode) mode pad back∧(moGrain n (cxMd mode)=n∧cxMd mode≤2∨moGrain n (cxMd mode)=1∧3≤cxMd mode∧mode≤6):=by
 have hm:=ok.1
 rcases cxMd_is ok with ⟨h1,h2⟩|⟨h1,h2⟩
 ·rw[h2]
  refine⟨hn,?_,.inl ⟨rfl,by decide⟩⟩
  show n-1≤_
  unfold cxMost
  rw[if_neg (by decide),if_pos h1];omega
 ·rw[h2]
  unfold moGrain cxMost
  by_cases h3:3≤mode
  ·rw[if_neg (by omega),if_pos h3];exact⟨by omega,by omega,.inr ⟨rfl,h3,h1⟩⟩
  ·rw[if_pos (by omega),if_neg h3,if_neg (by omega)]
   refine⟨hn,?_,.inl ⟨rfl,by omega⟩⟩
   split<;>omega
def cxFr (n:Nat) (mode pad:Int) (back:Bool) (L:Nat):Nat:=moGrain n (cxMd mode)*cxN (moGrain n (cxMd mode)) (cxMost n (cxMd mode) mode pad back) L
def cxSt (E D:Bs→Bs) (n:Nat) (mode pad:Int) (back:Bool) (iv M:Bs):Bs×MS:=moStep E D n (cxMd mode) back ⟨iv,[],[]⟩ (M.take (cxFr n mode pad back M.length))
def cxH (n:Nat) (mode pad:Int) (back:Bool) (M:Bs):Bs:=M.drop (cxFr n mode pad back M.length)
def cxLa (E D:Bs→Bs) (n:Nat) (mode pad:Int) (back:Bool) (iv M:Bs):Bs:=cxLast n mode back (M.take (cxFr n mode pad back M.length)) (cxSt E D n mode pad back iv M).1 iv
theorem cxFr_ok {n:Nat} {mode pad:Int} {iv:Bs} {back:Bool} (hn:0<n) (ok:shOk n mode pad iv) (L:Nat):cxFr n mode pad back L≤L∧cxFr n mode pad back L%moGrain n (cxMd mode)=0:=by
 obtain⟨g0,g1,g2⟩:=cx_grain (back:=back) hn ok
 exact⟨cxN_le g0 g1,Z0 _ _⟩
theorem cxFr_add {n:Nat} {mode pad:Int} {iv:Bs} {back:Bool} (hn:0<n) (ok:shOk n mode pad iv) (L m:Nat):cxFr n mode pad back (L+m)=cxFr n mode pad back L+cxFr n mode pad back (L-cxFr n mode pad back L+m):=by
 obtain⟨g0,g1,g2⟩:=cx_grain (back:=back) hn ok
 unfold cxFr
 rw[cxN_add g0 g1,Nat.mul_add]
theorem cxH_len {n:Nat} {mode pad:Int} {back:Bool} (M:Bs):(cxH n mode pad back M).length=M.length-cxFr n mode pad back M.length:=by
 unfold cxH;rw[Ze]
theorem cx_told {E D:Bs→Bs} {n:Nat} {mode pad:Int} {iv M:Bs} {back:Bool} (h:CI E D n) (hn:0<n) (ok:shOk n mode pad iv):(cxSt E D n mode pad back iv M).1.length=cxFr n mode pad back M.length:=by
 obtain⟨f1,f2⟩:=cxFr_ok (back:=back) hn ok M.length
 have lt:(M.take (cxFr n mode pad back M.length)).length=cxFr n mode pad back M.length:=by rw[Zg];omega
 unfold cxSt
 rw[moStep_len h (ms_ok (cxMd_ok ok).1 (cxMd_ok ok).2) (by rw[lt];exact f2),lt]
theorem cx_take {A b:Bs} {F a:Nat} (h:F≤A.length):A.take F++(A.drop F++b).take a=(A++b).take (F+a):=by
 have e:A++b=A.take F++(A.drop F++b):=by rw[←List.append_assoc,Zs]
 rw[e]
 generalize A.drop F++b=R
 rw[List.take_append,Zg,Nat.min_eq_left h,Z5,Z7 (show (A.take F).length≤F+a by rw[Zg];omega)]
theorem cx_drop {A b:Bs} {F a:Nat} (h:F≤A.length):(A.drop F++b).drop a=(A++b).drop (F+a):=by
 have e:A++b=A.take F++(A.drop F++b):=by rw[←List.append_assoc,Zs]
 rw[e]
 generalize A.drop F++b=R
 rw[Z6,Zg,Nat.min_eq_left h,Z5,Zy (show (A.take F).length≤F+a by rw[Zg];omega),Zx]
theorem cx_upd {E D:Bs→Bs} {n:Nat} {mode pad:Int} {iv M b:Bs} {back:Bool} {a:Nat} (h:CI E D n) (hn:0<n) (ok:shOk n mode pad iv) (ha:a=cxFr n mode pad back ((cxH n mode pad back M).length+b.length)):
  cxSt E D n mode pad back iv (M++b)=((cxSt E D n mode pad back iv M).1++(moStep E D n (cxMd mode) back (cxSt E D n mode pad back iv M).2 ((cxH n mode pad back M++b).take a)).1,(moStep E D n (cxMd mode) back (cxSt E D n mode pad back iv M).2 ((cxH n mode pad back M++b).take a)).2)
  ∧cxLast n mode back ((cxH n mode pad back M++b).take a) (moStep E D n (cxMd mode) back (cxSt E D n mode pad back iv M).2 ((cxH n mode pad back M++b).take a)).1 (cxLa E D n mode pad back iv M)=cxLa E D n mode pad back iv (M++b)
  ∧(cxH n mode pad back M++b).drop a=cxH n mode pad back (M++b):=by
 obtain⟨f1,f2⟩:=cxFr_ok (back:=back) hn ok M.length
 obtain⟨g0,g1,g2⟩:=cx_grain (back:=back) hn ok
 have hF:cxFr n mode pad back (M++b).length=cxFr n mode pad back M.length+a:=by
  rw[Zd,cxFr_add hn ok,ha,cxH_len]
 have ha1:=cxFr_ok (back:=back) hn ok ((cxH n mode pad back M).length+b.length)
 rw[←ha,cxH_len]at ha1
 have lb:((cxH n mode pad back M++b).take a).length=a:=by rw[Zg,Zd,cxH_len];omega
 have lt:(M.take (cxFr n mode pad back M.length)).length=cxFr n mode pad back M.length:=by rw[Zg];omega
 have eT:(M++b).take (cxFr n mode pad back (M++b).length)=M.take (cxFr n mode pad back M.length)++(cxH n mode pad back M++b).take a:=by
  rw[hF];unfold cxH;rw[cx_take f1]
 have eS:cxSt E D n mode pad back iv (M++b)=((cxSt E D n mode pad back iv M).1++(moStep E D n (cxMd mode) back (cxSt E D n mode pad back iv M).2 ((cxH n mode pad back M++b).take a)).1,(moStep E D n (cxMd mode) back (cxSt E D n mode pad back iv M).2 ((cxH n mode pad back M++b).take a)).2):=by
  show moStep E D n (cxMd mode) back ⟨iv,[],[]⟩ ((M++b).take (cxFr n mode pad back (M++b).length))=_
  rw[eT,moStep_app hn (by rw[lt];exact f2) (by rw[lb];exact ha1.2)]
  rfl
 have lT:=cx_told (back:=back) (M:=M) h hn ok
 refine⟨eS,?_,?_⟩
 ·show _=cxLast n mode back ((M++b).take (cxFr n mode pad back (M++b).length)) (cxSt E D n mode pad back iv (M++b)).1 iv
  rw[eS,eT]
  have K:MOk n (cxMd mode) (cxSt E D n mode pad back iv M).2:=moStep_ok h hn (ms_ok (cxMd_ok ok).1 (cxMd_ok ok).2)
  have lo:(moStep E D n (cxMd mode) back (cxSt E D n mode pad back iv M).2 ((cxH n mode pad back M++b).take a)).1.length=a:=by
   rw[moStep_len h K (by rw[lb];exact ha1.2),lb]
  simp only
  generalize moStep E D n (cxMd mode) back (cxSt E D n mode pad back iv M).2 ((cxH n mode pad back M++b).take a)=o at*
  unfold cxLa
  generalize (cxH n mode pad back M++b).take a=c at*
  generalize (cxSt E D n mode pad back iv M).1=T at*
  generalize M.take (cxFr n mode pad back M.length)=A at*
  generalize cxFr n mode pad back M.length=F at*
  unfold cxLast
  rw[lb,lt,Zd,lt,lb]
  by_cases h7:7≤mode
  ·have gn:moGrain n (cxMd mode)=n:=by
    rcases cxMd_is ok with ⟨_,h2⟩|⟨h1,_⟩
    ·rw[h2];rfl
    ·omega
   rw[gn]at ha1
   by_cases ha0:n≤a
   ·rw[if_pos (show 7≤mode∧n≤a from ⟨h7,ha0⟩),if_pos (show 7≤mode∧n≤F+a from ⟨h7,by omega⟩)]
    cases back
    ·simp only[Bool.false_eq_true,if_false]
     rw[Z6,lT,Zy (show T.length≤F+a-n by omega),Zx,show F+a-n-F=a-n by omega]
    ·simp only[if_true]
     rw[Z6,lt,Zy (show A.length≤F+a-n by omega),Zx,show F+a-n-F=a-n by omega]
   ·have a0:a=0:=by
     rcases Nat.eq_zero_or_pos a with h0|h0
     ·exact h0
     ·exact absurd (Nat.le_of_dvd h0 (Zq ha1.2)) ha0
    subst a0
    obtain rfl:=Zf lb
    rw[if_neg (show ¬(7≤mode∧n≤0) by omega),Jf,Z9,Zf lo,Z9]
  ·rw[if_neg (show ¬(7≤mode∧n≤a) by omega),if_neg (show ¬(7≤mode∧n≤F) by omega),if_neg (show ¬(7≤mode∧n≤F+a) by omega)]
 ·show _=(M++b).drop (cxFr n mode pad back (M++b).length)
  rw[hF]
  exact cx_drop f1
def cxEnd (E D:Bs→Bs) (n:Nat) (mode pad:Int) (back:Bool) (st:MS) (last H:Bs):Bs×Int:=
 if 7≤mode then (if H.length<n then ([],7)else (stT E D n mode back last H,0))
 else if pad=4 then (if H.length%moGrain n (cxMd mode)=0 then ((moStep E D n (cxMd mode) back st H).1,0)else ([],7))
 else if back=false then ((moStep E D n (cxMd mode) back st (pdAdd pad n H)).1,0)
 else if H.length=n then (if pdLong pad (moStep E D n (cxMd mode) back st H).1=0 then ([],8)else (pdStrip pad (moStep E D n (cxMd mode) back st H).1,0))
 else ([],7)
theorem cx_front {n L:Nat} (hn:0<n):n*((L-2*n+(n-1))/n)=frontN n L:=by
 unfold frontN
 by_cases h:2*n≤L
 ·rw[show L-2*n+(n-1)=L-n-1 by omega]
 ·rw[show L-2*n+(n-1)=n-1 by omega,Zv (by omega),Zv (by omega)]
theorem cx_end {E D:Bs→Bs} {n:Nat} {mode pad:Int} {iv M:Bs} {back:Bool} (h:CI E D n) (hn:0<n) (ok:shOk n mode pad iv) {r:Bs×Int}
  (hr:r=cxEnd E D n mode pad back (cxSt E D n mode pad back iv M).2 (cxLa E D n mode pad back iv M) (cxH n mode pad back M)):
  shP E D n mode pad back iv M=(if r.2=0 then (cxSt E D n mode pad back iv M).1++r.1 else [],r.2)∧(r.2≠0→r.1=[]):=by
 obtain⟨f1,f2⟩:=cxFr_ok (back:=back) hn ok M.length
 have lT:=cx_told (back:=back) (M:=M) h hn ok
 have lt:(M.take (cxFr n mode pad back M.length)).length=cxFr n mode pad back M.length:=by rw[Zg];omega
 have lH:=cxH_len (n:=n) (mode:=mode) (pad:=pad) (back:=back) M
 have hd:=Z8 M.length n
 have hm:=Nat.mod_lt M.length hn
 unfold cxEnd at hr
 unfold shP
 by_cases h7:7≤mode
 ·have e2:cxMd mode=2:=if_pos h7
  have eF:cxFr n mode pad back M.length=frontN n M.length:=by
   unfold cxFr cxN cxMost
   rw[e2,if_neg (by decide),if_pos h7]
   exact cx_front hn
  have hiv:iv.length=n:=by have:=ok.2.2.2;rw[if_neg (by omega)]at this;exact this
  rw[if_pos h7]at hr
  rw[if_pos h7]
  unfold shSt
  by_cases hl:M.length<n
  ·have:frontN n M.length=0:=by rw[←eF];have:=Zq f2;rw[e2,grain_2]at this;rcases Nat.eq_zero_or_pos (cxFr n mode pad back M.length)with h0|h0;exact h0;have:=Nat.le_of_dvd h0 this;omega
   rw[if_pos (by omega)]at hr
   rw[if_pos hl,hr]
   exact⟨rfl,fun _=>rfl⟩
  ·obtain⟨a1,a2,a3,a4,a5⟩:=frontN_ok hn (by omega:n≤M.length)
   rw[if_neg (by omega)]at hr
   rw[if_neg hl,hr]
   refine⟨?_,fun hh=>absurd rfl hh⟩
   simp only[if_true]
   have e1:cxSt E D n mode pad back iv M=moStep E D n 2 back ⟨iv,[],[]⟩ (M.take (frontN n M.length)):=by unfold cxSt;rw[e2,eF]
   have eL:cxLa E D n mode pad back iv M=shLast n back iv M (moStep E D n 2 back ⟨iv,[],[]⟩ (M.take (frontN n M.length))).1:=by
    unfold cxLa cxLast shLast
    rw[e1,eF]
    rw[eF]at lt
    rw[lt]
    by_cases h0:frontN n M.length=0
    ·rw[if_pos h0,if_neg (by omega)]
    ·rw[if_neg h0,if_pos (show 7≤mode∧n≤frontN n M.length from ⟨h7,by omega⟩)]
     cases back
     ·rfl
     ·simp only[if_true]
      unfold sub
      rw[List.drop_take,show frontN n M.length-(frontN n M.length-n)=n by omega]
   have eH:cxH n mode pad back M=M.drop (frontN n M.length):=by unfold cxH;rw[eF]
   rw[eL,e1,eH]
 ·have e2:cxMd mode=mode:=if_neg h7
  rw[if_neg h7]at hr
  rw[if_neg h7]
  rw[e2]at hr f2
  have K0:MOk n mode ⟨iv,[],[]⟩:=ms_ok (by have:=ok.1;omega) ok.2.2.2
  by_cases h4:pad=4
  ·rw[if_pos h4]at hr
   rw[if_pos h4]
   have hiff:(cxH n mode pad back M).length%moGrain n mode=M.length%moGrain n mode:=by
    rw[lH]
    obtain⟨q,hq⟩:=Zq f2
    rw[hq,Nat.sub_mul_mod (by omega)]
   rw[hiff]at hr
   by_cases hz:M.length%moGrain n mode=0
   ·rw[if_pos hz]at hr
    rw[if_pos hz,hr]
    refine⟨?_,fun hh=>absurd rfl hh⟩
    simp only[if_true]
    have:=moStep_app (E:=E) (D:=D) (mode:=mode) (back:=back) (s:=⟨iv,[],[]⟩) (a:=M.take (cxFr n mode pad back M.length)) (b:=cxH n mode pad back M) hn (by rw[lt];exact f2) (by rw[hiff];exact hz)
    unfold cxH at this ⊢
    rw[Zs]at this
    unfold cxSt
    rw[this,e2]
   ·rw[if_neg hz]at hr
    rw[if_neg hz,hr]
    exact⟨rfl,fun _=>rfl⟩
  ·have hm2:mode≤2:=ok.2.2.1.resolve_left h4
   have gn:moGrain n mode=n:=if_pos (by have:=ok.1;omega)
   rw[gn]at f2
   rw[if_neg h4]at hr
   rw[if_neg h4]
   cases back
   ·rw[if_pos rfl]at hr
    rw[if_pos rfl,hr]
    refine⟨?_,fun hh=>absurd rfl hh⟩
    simp only[if_true]
    have eF:cxFr n mode pad false M.length=M.length-M.length%n:=by
     unfold cxFr cxN cxMost
     rw[e2,gn,if_neg (by omega),if_neg h7,if_neg (by simp)]
     by_cases hl:n-1≤M.length
     ·rw[Nat.sub_add_cancel hl];omega
     ·rw[show M.length-(n-1)+(n-1)=n-1 by omega,Zv (by omega),Nat.mod_eq_of_lt (by omega)];omega
    have lp:(pdAdd pad n (M.drop (M.length-M.length%n))).length=n:=pdAdd_len (by rw[Ze];omega)
    rw[eF]at lt f2
    unfold padUp cxSt cxH
    rw[e2,eF]
    rw[moStep_app hn (by rw[lt,gn];exact f2) (by rw[lp,gn,Zm])]
   ·rw[if_neg (by decide)]at hr
    rw[if_neg (by decide)]
    have eF:cxFr n mode pad true M.length=n*((M.length-n+(n-1))/n):=by
     unfold cxFr cxN cxMost
     rw[e2,gn,if_neg (by omega),if_neg h7,if_pos ⟨h4,rfl⟩]
    have hHn:(cxH n mode pad true M).length=n↔¬(M.length=0∨M.length%n≠0):=by
     rw[lH]
     rcases Nat.lt_or_ge M.length n with hl|hl
     ·rw[Nat.mod_eq_of_lt hl]
      have:cxFr n mode pad true M.length=0:=by
       rw[eF,Zv (by omega),Je]
      omega
     ·constructor
      ·intro he
       have:M.length=n+cxFr n mode pad true M.length:=by omega
       rw[this,Nat.add_mod_left,f2]
       omega
      ·intro hno
       have hz:M.length%n=0:=Classical.byContradiction fun hh=>hno (.inr hh)
       obtain⟨q,hq⟩:=Zq hz
       have hq0:q≠0:=fun h0=>by rw[h0,Je]at hq;omega
       obtain⟨p,rfl⟩:∃p,q=p+1:=⟨q-1,by omega⟩
       rw[Zo]at hq
       rw[eF,hq,Zr,Nat.mul_add_div hn,Zv (by omega:n-1<n),Jf]
       omega
    by_cases hb:M.length=0∨M.length%n≠0
    ·rw[if_neg (fun hh=>(hHn.1 hh) hb)]at hr
     rw[if_pos hb,hr]
     exact⟨rfl,fun _=>rfl⟩
    ·have hHl:=hHn.2 hb
     rw[if_pos hHl]at hr
     rw[if_neg hb]
     simp only
     have hap:=moStep_app (E:=E) (D:=D) (mode:=mode) (back:=true) (s:=⟨iv,[],[]⟩) (a:=M.take (cxFr n mode pad true M.length)) (b:=cxH n mode pad true M) hn (by rw[lt,gn];exact f2) (by rw[hHl,gn,Zm])
     have eM:M.take (cxFr n mode pad true M.length)++cxH n mode pad true M=M:=by unfold cxH;exact Zs _ _
     rw[eM]at hap
     have e1:cxSt E D n mode pad true iv M=moStep E D n mode true ⟨iv,[],[]⟩ (M.take (cxFr n mode pad true M.length)):=by unfold cxSt;rw[e2]
     rw[←e1]at hap
     have lo:(moStep E D n mode true (cxSt E D n mode pad true iv M).2 (cxH n mode pad true M)).1.length=n:=by
      rw[moStep_len h (by rw[e1];exact moStep_ok h hn K0) (by rw[hHl,gn,Zm]),hHl]
     rw[hap]
     simp only
     generalize (moStep E D n mode true (cxSt E D n mode pad true iv M).2 (cxH n mode pad true M)).1=o at*
     generalize (cxSt E D n mode pad true iv M).1=T at*
     rw[Zd,lo,Zr,List.drop_left,List.take_left]
     by_cases hp:pdLong pad o=0
     ·rw[if_pos hp]at hr
      rw[if_pos hp,hr]
      exact⟨rfl,fun _=>rfl⟩
     ·rw[if_neg hp]at hr
      rw[if_neg hp,hr]
      exact⟨rfl,fun hh=>absurd rfl hh⟩
theorem chk_t {b:Bool} {P:Prop} (h:b=true) (p:P):chk b P:=by rw[h];exact p
theorem ck_s {i:Inf} {d:Option Nat} {T:Nat→V} {H Hr:Hp} {id:Id} {b:B} {r:List (Id×B)} (h:H id=some b) (hr:(Hr id).isSome=true) (h2:i.ck d T H Hr r=true):i.ck d T H Hr ((id,b)::r)=true:=by
 unfold Inf.ck sameO
 rw[hr,h2]
 simp[h]
theorem c_cloneO {n:Nat} {va:List Value} {l:Bs} (ha:va=bv l) (hn:l.length=n) (hm:n≤1073741824):Con C N.slices_Clone_byte [.z n va] [] (.ret (.o 1 (.k 0) 0 n)) [.sc (bv l)]:=by
 by_cases h0:0<n
 ·exact c_cloneB ha hn h0 hm
 ·subst ha
  obtain rfl:n=0:=(by omega)
  obtain rfl:=Zf hn
  refine fd.slices_Clone_byte.n ?_
  refine .inr ⟨?_,?_⟩
  ·exact⟨[(2,1,.sc [])],_,rfl,[.d 900000 0],rfl,⟨_,rfl,rfl⟩,trivial⟩
  ·refine⟨rfl,by decide,by decide,?_⟩
   exact⟨[],_,rfl,[.d 7 0],rfl,⟨_,rfl,rfl⟩,trivial⟩
theorem c_cxupd {t key s k xs rs} (h:Ciph t key s k xs rs) {mode pad md:Int} {back:Bool} {iv last b:Bs} {st:MS} {x:HK} {m L n0 at':Nat} (hx:x= .n∨∃H,x= .o H) (hb:b.length=m) (hL:x.l.length+m=L) (hLb:L≤100000) (K:MK s md st) (hm:mode≤9)
  (hN:n0=cxN (moGrain s md) (cxMost s md mode pad back) L) (hat:at'=moGrain s md*n0) (hne:0<at'∨st.row=[]):
  Con C N.ctx_Ctx_Update [.p (.k 0) 0,.z m (bv b)] [cxO true t mode pad back k xs iv x last,moX (cipV t k xs) md back st 2,gnB st.row st.gone,x.b]
   (.ret (.t [.z at' (bv (moStep (cF t key false) (cF t key true) s md back st ((x.l++b).take at')).1),i64 0]))
   [cxX true true t mode pad back (cipV t k xs) (.z iv.length (bv iv)) (.p (.k 1) 0) (.o 1 (.k 5) 0 (L-at')) (.z (cxLast s mode back ((x.l++b).take at') (moStep (cF t key false) (cF t key true) s md back st ((x.l++b).take at')).1 last).length (bv (cxLast s mode back ((x.l++b).take at') (moStep (cF t key false) (cF t key true) s md back st ((x.l++b).take at')).1 last))),
    moX (cipV t k xs) md back (moStep (cF t key false) (cF t key true) s md back st ((x.l++b).take at')).2 4,.dead,.dead,gnB (moStep (cF t key false) (cF t key true) s md back st ((x.l++b).take at')).2.row (moStep (cF t key false) (cF t key true) s md back st ((x.l++b).take at')).2.gone,.sc (bv ((x.l++b).drop at'))]:=by
 have hs:=h.s_le
 have hg0:0<moGrain s md:=by unfold moGrain;split<;>omega
 have hgm:moGrain s md-1≤cxMost s md mode pad back:=by
  have:=K.ok.m
  unfold moGrain cxMost
  by_cases h3:3≤md
  ·rw[if_neg (by omega),if_pos h3];omega
  ·rw[if_pos (by omega),if_neg h3];split<;>(try split)<;>omega
 have hle:=cxN_le (L:=L) hg0 hgm
 have hlt:=fun i=>cxN_lt (most:=cxMost s md mode pad back) (L:=L) (i:=i) hg0
 rw[←hN]at hle hlt
 have G:=c_grainA h (back:=back) K
 have hz:at'%moGrain s md=0:=by rw[hat];exact Z0 _ _
 have lB:(x.l++b).length=L:=by rw[Zd,hb,hL]
 have lT:((x.l++b).take at').length=at':=by rw[Zg];omega
 have lD:((x.l++b).drop at').length=L-at':=by rw[Ze,lB]
 have NE:=c_cxneed (t:=t) (mode:=mode) (pad:=pad) (md:=md) (back:=back) (k:=k) (xs:=xs) (iv:=iv) (last:=last) (st:=st) (x:=x)
 have MO:∀(n':Nat) (vb:List Value),(∃H:Bs,n'=H.length∧vb=bv H)→Con C N.ctx_Ctx_most [.p (.k 0) 0] [cxX true true t mode pad back (cipV t k xs) (.z iv.length (bv iv)) (.p (.k 1) 0) (.o 1 (.k 3) 0 n') (.z last.length (bv last)),moX (cipV t k xs) md back st 2,gnB st.row st.gone,.sc vb] (.ret (i64 (cxMost s md mode pad back))) [cxX true true t mode pad back (cipV t k xs) (.z iv.length (bv iv)) (.p (.k 1) 0) (.o 1 (.k 3) 0 n') (.z last.length (bv last)),moX (cipV t k xs) md back st 2,gnB st.row st.gone,.sc vb]:=by
  rintro _ _ ⟨H,rfl,rfl⟩
  exact c_cxmost h (mode:=mode) (pad:=pad) (op:=true) (back:=back) (iv:=iv) (last:=last) (x:= .o H) K hm
 have TU:=c_cxturn h (op:=true) (back:=back) (pad:=pad) (iv:=iv) (last:=last) (H:=x.l++b) (b:=(x.l++b).take at') lT (by omega) K hm hz hne
 generalize moStep (cF t key false) (cF t key true) s md back st ((x.l++b).take at')=S0 at*
 obtain⟨o,c1,row1,g1⟩:=S0
 dsimp only[cxO,HK.v,HK.b]at TU ⊢
 rw[lB]at TU
 generalize cxLast s mode back ((x.l++b).take at') o last=la at*
 generalize hgr:moGrain s md=gr at*
 generalize cxMost s md mode pad back=mo at*
 obtain⟨ch,row,g⟩:=st
 rcases hx with rfl|⟨H,rfl⟩<;>dsimp only[HK.l,HK.v,HK.b,Zx]at*
 ·have hmL:m=L:=by simpa using hL
  refine fd.ctx_Ctx_Update.d caughtOk ?_
  refine⟨⟨[(0,.p (.k 0) 0),(1,.z m (bv b)),(4,.p (.k 4) 0),(5,.p (.k 5) 0)],[cxX true true t mode pad back (cipV t k xs) (.z iv.length (bv iv)) (.p (.k 1) 0) (nilv) (.z last.length (bv last)),moX (cipV t k xs) md back ⟨ch,row,g⟩ 2,gnB row g,.dead,.sc [.slice none 0 0],.sc [.int .i64 0]]⟩,4,5,by decide,⟨[.k 0,.k 1,.k 2,.k 3,.d 4 0,.d 5 0],⟨rfl,rfl,rfl,rfl,trivial⟩,⟨_,rfl,rfl⟩,⟨_,rfl,by cases row<;>rfl⟩,⟨_,rfl,by cases row<;>rfl⟩,⟨_,rfl,rfl⟩,⟨_,rfl,rfl⟩,⟨_,rfl,rfl⟩,trivial⟩,rfl,rfl,rfl,?_⟩
  refine⟨0,Nat,fun i=>⟨[(0,.p (.k 0) 0),(4,.p (.k 4) 0),(5,.p (.k 5) 0),(6,i64 (gr*i:Nat)),(7,i64 mo),(8,i64 gr)],[cxX true true t mode pad back (cipV t k xs) (.z iv.length (bv iv)) (.p (.k 1) 0) (.z L (bv b)) (.z last.length (bv last)),moX (cipV t k xs) md back ⟨ch,row,g⟩ 2,gnB row g,.dead,.sc [.slice none 0 0],.sc [.int .i64 0]]⟩,fun i=>i≤n0,fun i=>n0-i,?_,fun i hi=> ?_⟩
  ·rcases row with _|⟨a,r⟩
   all_goals
    refine⟨[.k 0,.k 1,.k 2,.k 3],_,_,_,_,NE,rfl,rfl,?_⟩
    refine⟨_,rfl,?_⟩
    refine⟨by rw[bv_len,hb],by omega,?_⟩
    refine⟨Za rfl,?_⟩
    refine⟨[.k 0,.k 1,.k 2,.d 17 0],_,_,_,_,MO (m) (bv b) ⟨b,hb.symm,rfl⟩,rfl,rfl,?_⟩
    refine chk_t rfl ?_
    refine chk_t (ck_s rfl rfl (ck_s rfl rfl (ck_s rfl rfl (ck_s rfl rfl rfl)))) ?_
    refine⟨_,rfl,?_⟩
    refine⟨[.k 1,.k 2],_,_,_,_,G,rfl,rfl,?_⟩
    refine⟨[],0,Zk _,[.k 0,.k 1,.k 2,.k 3,.k 4,.k 5],⟨rfl,rfl,rfl,rfl,rfl,rfl,trivial⟩,⟨_,rfl,?_⟩,⟨_,rfl,rfl⟩,⟨_,rfl,rfl⟩,⟨_,rfl,rfl⟩,⟨_,rfl,rfl⟩,⟨_,rfl,rfl⟩,trivial⟩
    show cxX true true t mode pad back (cipV t k xs) (.z iv.length (bv iv)) (.p (.k 1) 0) (.z (m) (sub (bv b) 0 (m))) (.z last.length (bv last))=_
    rw[bv_all hb,hmL]
  ·rcases row with _|⟨a,r⟩<;>rcases row1 with _|⟨a1,r1⟩
   all_goals
    have e1:gr*i≤L:=Zp (Zi gr hi) hle
    refine⟨_,rfl,?_⟩
    refine spl_d (fun hc=> ?_) (fun hc=> ?_)
    ·have hc':(mo:Int)<I6.wrap ((L:Int)-((gr*i:Nat):Int)):=hc
     rw[Zb _ (by omega)]at hc'
     have hli:i<n0:=(hlt i).2 (by omega)
     have hle2:gr*(i+1)≤L:=Zp (Zi gr hli) hle
     refine⟨rfl,i+1,hli,Zt _ _ hli,[.k 0,.k 1,.k 2,.k 3,.k 4,.k 5],⟨rfl,rfl,rfl,q7i ?_,rfl,rfl,trivial⟩,⟨_,rfl,rfl⟩,⟨_,rfl,rfl⟩,⟨_,rfl,rfl⟩,⟨_,rfl,rfl⟩,⟨_,rfl,rfl⟩,⟨_,rfl,rfl⟩,trivial⟩
     rw[Zo]at hle2 ⊢
     rw[Zb _ (by omega)]
     omega
    ·have hc':¬(mo:Int)<I6.wrap ((L:Int)-((gr*i:Nat):Int)):=hc
     rw[Zb _ (by omega)]at hc'
     obtain rfl:i=n0:=Zw hi (Zl fun hh=>by have:=(hlt i).1 hh;omega)
     refine⟨_,rfl,?_⟩
     refine⟨by omega,by omega,by omega,by omega,?_⟩
     refine⟨[.k 0,.k 1,.k 2,.k 3],_,_,_,_,TU,?_,rfl,?_⟩
     ·show[V.p (.k 0) 0,V.z ((gr*i:Nat):Int).toNat (sub (bv b) 0 ((gr*i:Nat):Int).toNat)]=_
      rw[Zc,←hat];exact congrArg (fun v=>[V.p (.k 0) 0,V.z at' v]) (bv_sub _ 0 at')
     refine⟨Za rfl,?_⟩
     refine⟨_,rfl,?_⟩
     refine⟨by omega,by omega,by omega,by omega,?_⟩
     refine⟨[],_,_,_,_,c_cloneO (n:=L-at') (l:=b.drop at') rfl lD (by omega),?_,rfl,?_⟩
     ·show[V.z (L-((gr*i:Nat):Int).toNat) (sub (bv b) ((gr*i:Nat):Int).toNat (L-((gr*i:Nat):Int).toNat))]=_
      rw[Zc,←hat,bv_dropN lB (by omega)]
     refine⟨Za rfl,?_⟩
     refine⟨_,rfl,?_⟩
     refine⟨Za rfl,?_⟩
     refine⟨Za rfl,?_⟩
     refine⟨_,rfl,_,rfl,?_⟩
     refine⟨_,_,?_,.ret (.refl _),WkBs.refl _⟩
     exact⟨_,rfl,[.k 0,.k 1,.k 2,.k 3,.d 46 4,.d 54 0],rfl,⟨_,rfl,rfl⟩,⟨_,rfl,rfl⟩,⟨_,rfl,rfl⟩,⟨_,rfl,rfl⟩,⟨_,rfl,rfl⟩,⟨_,rfl,rfl⟩,trivial⟩
 ·refine fd.ctx_Ctx_Update.d caughtOk ?_
  refine⟨⟨[(0,.p (.k 0) 0),(1,.z m (bv b)),(4,.p (.k 4) 0),(5,.p (.k 5) 0)],[cxX true true t mode pad back (cipV t k xs) (.z iv.length (bv iv)) (.p (.k 1) 0) (.o 1 (.k 3) 0 H.length) (.z last.length (bv last)),moX (cipV t k xs) md back ⟨ch,row,g⟩ 2,gnB row g,.sc (bv H),.sc [.slice none 0 0],.sc [.int .i64 0]]⟩,4,5,by decide,⟨[.k 0,.k 1,.k 2,.k 3,.d 4 0,.d 5 0],⟨rfl,rfl,rfl,rfl,trivial⟩,⟨_,rfl,rfl⟩,⟨_,rfl,by cases row<;>rfl⟩,⟨_,rfl,by cases row<;>rfl⟩,⟨_,rfl,rfl⟩,⟨_,rfl,rfl⟩,⟨_,rfl,rfl⟩,trivial⟩,rfl,rfl,rfl,?_⟩
  refine⟨0,Nat,fun i=>⟨[(0,.p (.k 0) 0),(4,.p (.k 4) 0),(5,.p (.k 5) 0),(6,i64 (gr*i:Nat)),(7,i64 mo),(8,i64 gr)],[cxX true true t mode pad back (cipV t k xs) (.z iv.length (bv iv)) (.p (.k 1) 0) (.z L (bv (H++b))) (.z last.length (bv last)),moX (cipV t k xs) md back ⟨ch,row,g⟩ 2,gnB row g,.dead,.sc [.slice none 0 0],.sc [.int .i64 0]]⟩,fun i=>i≤n0,fun i=>n0-i,?_,fun i hi=> ?_⟩
  ·rcases row with _|⟨a,r⟩
   all_goals
    refine⟨[.k 0,.k 1,.k 2,.k 3],_,_,_,_,NE,rfl,rfl,?_⟩
    refine⟨_,rfl,?_⟩
    refine⟨by rw[bv_len,hb],by omega,by rw[bv_len];omega,?_⟩
    refine⟨Za rfl,?_⟩
    refine⟨[.k 0,.k 1,.k 2,.d 17 0],_,_,_,_,MO (H.length+m) (sub (bv H) 0 (H.length*1)++bv b) ⟨(H++b),by rw[Zd,hb],by rw[Zu,bv_all rfl,bv_app]⟩,rfl,rfl,?_⟩
    refine chk_t rfl ?_
    refine chk_t (ck_s rfl rfl (ck_s rfl rfl (ck_s rfl rfl (ck_s rfl rfl rfl)))) ?_
    refine⟨_,rfl,?_⟩
    refine⟨[.k 1,.k 2],_,_,_,_,G,rfl,rfl,?_⟩
    refine⟨[],0,Zk _,[.k 0,.k 1,.k 2,.k 3,.k 4,.k 5],⟨rfl,rfl,rfl,rfl,rfl,rfl,trivial⟩,⟨_,rfl,?_⟩,⟨_,rfl,rfl⟩,⟨_,rfl,rfl⟩,⟨_,rfl,rfl⟩,⟨_,rfl,rfl⟩,⟨_,rfl,rfl⟩,trivial⟩
    show cxX true true t mode pad back (cipV t k xs) (.z iv.length (bv iv)) (.p (.k 1) 0) (.z (H.length+m) (sub (sub (bv H) 0 (H.length*1)++bv b) 0 (H.length+m))) (.z last.length (bv last))=_
    rw[Zu,bv_all rfl,bv_app,bv_all (by rw[Zd,hb]),hL]
  ·rcases row with _|⟨a,r⟩<;>rcases row1 with _|⟨a1,r1⟩
   all_goals
    have e1:gr*i≤L:=Zp (Zi gr hi) hle
    refine⟨_,rfl,?_⟩
    refine spl_d (fun hc=> ?_) (fun hc=> ?_)
    ·have hc':(mo:Int)<I6.wrap ((L:Int)-((gr*i:Nat):Int)):=hc
     rw[Zb _ (by omega)]at hc'
     have hli:i<n0:=(hlt i).2 (by omega)
     have hle2:gr*(i+1)≤L:=Zp (Zi gr hli) hle
     refine⟨rfl,i+1,hli,Zt _ _ hli,[.k 0,.k 1,.k 2,.k 3,.k 4,.k 5],⟨rfl,rfl,rfl,q7i ?_,rfl,rfl,trivial⟩,⟨_,rfl,rfl⟩,⟨_,rfl,rfl⟩,⟨_,rfl,rfl⟩,⟨_,rfl,rfl⟩,⟨_,rfl,rfl⟩,⟨_,rfl,rfl⟩,trivial⟩
     rw[Zo]at hle2 ⊢
     rw[Zb _ (by omega)]
     omega
    ·have hc':¬(mo:Int)<I6.wrap ((L:Int)-((gr*i:Nat):Int)):=hc
     rw[Zb _ (by omega)]at hc'
     obtain rfl:i=n0:=Zw hi (Zl fun hh=>by have:=(hlt i).1 hh;omega)
     refine⟨_,rfl,?_⟩
     refine⟨by omega,by omega,by omega,by omega,?_⟩
     refine⟨[.k 0,.k 1,.k 2,.k 3],_,_,_,_,TU,?_,rfl,?_⟩
     ·show[V.p (.k 0) 0,V.z ((gr*i:Nat):Int).toNat (sub (bv (H++b)) 0 ((gr*i:Nat):Int).toNat)]=_
      rw[Zc,←hat];exact congrArg (fun v=>[V.p (.k 0) 0,V.z at' v]) (bv_sub _ 0 at')
     refine⟨Za rfl,?_⟩
     refine⟨_,rfl,?_⟩
     refine⟨by omega,by omega,by omega,by omega,?_⟩
     refine⟨[],_,_,_,_,c_cloneO (n:=L-at') (l:=(H++b).drop at') rfl lD (by omega),?_,rfl,?_⟩
     ·show[V.z (L-((gr*i:Nat):Int).toNat) (sub (bv (H++b)) ((gr*i:Nat):Int).toNat (L-((gr*i:Nat):Int).toNat))]=_
      rw[Zc,←hat,bv_dropN lB (by omega)]
     refine⟨Za rfl,?_⟩
     refine⟨_,rfl,?_⟩
     refine⟨Za rfl,?_⟩
     refine⟨Za rfl,?_⟩
     refine⟨_,rfl,_,rfl,?_⟩
     refine⟨_,_,?_,.ret (.refl _),WkBs.refl _⟩
     exact⟨_,rfl,[.k 0,.k 1,.k 2,.k 3,.d 46 4,.d 54 0],rfl,⟨_,rfl,rfl⟩,⟨_,rfl,rfl⟩,⟨_,rfl,rfl⟩,⟨_,rfl,rfl⟩,⟨_,rfl,rfl⟩,⟨_,rfl,rfl⟩,trivial⟩
theorem c_cxupd0 {t key s k xs rs} (h:Ciph t key s k xs rs) {mode pad md:Int} {back:Bool} {iv last b:Bs} {st:MS} {x:HK} {m L n0 at':Nat} (hx:x= .n∨∃H,x= .o H) (hb:b.length=m) (hL:x.l.length+m=L) (hL0:L=0) (h3:3≤md) (K:MK s md st) (hm:mode≤9)
  (hN:n0=cxN (moGrain s md) (cxMost s md mode pad back) L) (hat:at'=moGrain s md*n0):
  Con C N.ctx_Ctx_Update [.p (.k 0) 0,.z m (bv b)] [cxO true t mode pad back k xs iv x last,moX (cipV t k xs) md back st 2,gnB st.row st.gone,x.b]
   (.ret (.t [.z 0 [],i64 0]))
   [cxX true true t mode pad back (cipV t k xs) (.z iv.length (bv iv)) (.p (.k 1) 0) (.o 1 (.k 4) 0 0) (.z last.length (bv last)),
    moX (cipV t k xs) md back st 2,gnB st.row st.gone,.dead,.sc []]:=by
 have hs:=h.s_le
 have hg0:0<moGrain s md:=by unfold moGrain;split<;>omega
 have hgm:moGrain s md-1≤cxMost s md mode pad back:=by
  have:=K.ok.m
  unfold moGrain cxMost
  by_cases h3:3≤md
  ·rw[if_neg (by omega),if_pos h3];omega
  ·rw[if_pos (by omega),if_neg h3];split<;>(try split)<;>omega
 have hLb:L≤100000:=by omega
 have hle:=cxN_le (L:=L) hg0 hgm
 have hlt:=fun i=>cxN_lt (most:=cxMost s md mode pad back) (L:=L) (i:=i) hg0
 rw[←hN]at hle hlt
 have G:=c_grainA h (back:=back) K
 have hz:at'%moGrain s md=0:=by rw[hat];exact Z0 _ _
 have lB:(x.l++b).length=L:=by rw[Zd,hb,hL]
 have lT:((x.l++b).take at').length=at':=by rw[Zg];omega
 have lD:((x.l++b).drop at').length=L-at':=by rw[Ze,lB]
 have NE:=c_cxneed (t:=t) (mode:=mode) (pad:=pad) (md:=md) (back:=back) (k:=k) (xs:=xs) (iv:=iv) (last:=last) (st:=st) (x:=x)
 have MO:∀(n':Nat) (vb:List Value),(∃H:Bs,n'=H.length∧vb=bv H)→Con C N.ctx_Ctx_most [.p (.k 0) 0] [cxX true true t mode pad back (cipV t k xs) (.z iv.length (bv iv)) (.p (.k 1) 0) (.o 1 (.k 3) 0 n') (.z last.length (bv last)),moX (cipV t k xs) md back st 2,gnB st.row st.gone,.sc vb] (.ret (i64 (cxMost s md mode pad back))) [cxX true true t mode pad back (cipV t k xs) (.z iv.length (bv iv)) (.p (.k 1) 0) (.o 1 (.k 3) 0 n') (.z last.length (bv last)),moX (cipV t k xs) md back st 2,gnB st.row st.gone,.sc vb]:=by
  rintro _ _ ⟨H,rfl,rfl⟩
  exact c_cxmost h (mode:=mode) (pad:=pad) (op:=true) (back:=back) (iv:=iv) (last:=last) (x:= .o H) K hm
 have a0:at'=0:=by omega
 have TU:=fun(vb:List Value)=>c_cxturn0 h (op:=true) (back:=back) (pad:=pad) (iv:=iv) (last:=last) (H:=x.l++b) (st:=st) (vb:=vb) h3 hm
 dsimp only[cxO,HK.v,HK.b]at TU ⊢
 rw[lB]at TU
 generalize hgr:moGrain s md=gr at*
 generalize cxMost s md mode pad back=mo at*
 obtain⟨ch,row,g⟩:=st
 rcases hx with rfl|⟨H,rfl⟩<;>dsimp only[HK.l,HK.v,HK.b,Zx]at*
 ·have hmL:m=L:=by simpa using hL
  refine fd.ctx_Ctx_Update.d caughtOk ?_
  refine⟨⟨[(0,.p (.k 0) 0),(1,.z m (bv b)),(4,.p (.k 4) 0),(5,.p (.k 5) 0)],[cxX true true t mode pad back (cipV t k xs) (.z iv.length (bv iv)) (.p (.k 1) 0) (nilv) (.z last.length (bv last)),moX (cipV t k xs) md back ⟨ch,row,g⟩ 2,gnB row g,.dead,.sc [.slice none 0 0],.sc [.int .i64 0]]⟩,4,5,by decide,⟨[.k 0,.k 1,.k 2,.k 3,.d 4 0,.d 5 0],⟨rfl,rfl,rfl,rfl,trivial⟩,⟨_,rfl,rfl⟩,⟨_,rfl,by cases row<;>rfl⟩,⟨_,rfl,by cases row<;>rfl⟩,⟨_,rfl,rfl⟩,⟨_,rfl,rfl⟩,⟨_,rfl,rfl⟩,trivial⟩,rfl,rfl,rfl,?_⟩
  refine⟨0,Nat,fun i=>⟨[(0,.p (.k 0) 0),(4,.p (.k 4) 0),(5,.p (.k 5) 0),(6,i64 (gr*i:Nat)),(7,i64 mo),(8,i64 gr)],[cxX true true t mode pad back (cipV t k xs) (.z iv.length (bv iv)) (.p (.k 1) 0) (.z L (bv b)) (.z last.length (bv last)),moX (cipV t k xs) md back ⟨ch,row,g⟩ 2,gnB row g,.dead,.sc [.slice none 0 0],.sc [.int .i64 0]]⟩,fun i=>i≤n0,fun i=>n0-i,?_,fun i hi=> ?_⟩
  ·rcases row with _|⟨a,r⟩
   all_goals
    refine⟨[.k 0,.k 1,.k 2,.k 3],_,_,_,_,NE,rfl,rfl,?_⟩
    refine⟨_,rfl,?_⟩
    refine⟨by rw[bv_len,hb],by omega,?_⟩
    refine⟨Za rfl,?_⟩
    refine⟨[.k 0,.k 1,.k 2,.d 17 0],_,_,_,_,MO (m) (bv b) ⟨b,hb.symm,rfl⟩,rfl,rfl,?_⟩
    refine chk_t rfl ?_
    refine chk_t (ck_s rfl rfl (ck_s rfl rfl (ck_s rfl rfl (ck_s rfl rfl rfl)))) ?_
    refine⟨_,rfl,?_⟩
    refine⟨[.k 1,.k 2],_,_,_,_,G,rfl,rfl,?_⟩
    refine⟨[],0,Zk _,[.k 0,.k 1,.k 2,.k 3,.k 4,.k 5],⟨rfl,rfl,rfl,rfl,rfl,rfl,trivial⟩,⟨_,rfl,?_⟩,⟨_,rfl,rfl⟩,⟨_,rfl,rfl⟩,⟨_,rfl,rfl⟩,⟨_,rfl,rfl⟩,⟨_,rfl,rfl⟩,trivial⟩
    show cxX true true t mode pad back (cipV t k xs) (.z iv.length (bv iv)) (.p (.k 1) 0) (.z (m) (sub (bv b) 0 (m))) (.z last.length (bv last))=_
    rw[bv_all hb,hmL]
  ·rcases row with _|⟨a,r⟩
   all_goals
    have e1:gr*i≤L:=Zp (Zi gr hi) hle
    refine⟨_,rfl,?_⟩
    refine spl_d (fun hc=> ?_) (fun hc=> ?_)
    ·have hc':(mo:Int)<I6.wrap ((L:Int)-((gr*i:Nat):Int)):=hc
     rw[Zb _ (by omega)]at hc'
     have hli:i<n0:=(hlt i).2 (by omega)
     have hle2:gr*(i+1)≤L:=Zp (Zi gr hli) hle
     refine⟨rfl,i+1,hli,Zt _ _ hli,[.k 0,.k 1,.k 2,.k 3,.k 4,.k 5],⟨rfl,rfl,rfl,q7i ?_,rfl,rfl,trivial⟩,⟨_,rfl,rfl⟩,⟨_,rfl,rfl⟩,⟨_,rfl,rfl⟩,⟨_,rfl,rfl⟩,⟨_,rfl,rfl⟩,⟨_,rfl,rfl⟩,trivial⟩
     rw[Zo]at hle2 ⊢
     rw[Zb _ (by omega)]
     omega
    ·have hc':¬(mo:Int)<I6.wrap ((L:Int)-((gr*i:Nat):Int)):=hc
     rw[Zb _ (by omega)]at hc'
     obtain rfl:i=n0:=Zw hi (Zl fun hh=>by have:=(hlt i).1 hh;omega)
     refine⟨_,rfl,?_⟩
     refine⟨by omega,by omega,by omega,by omega,?_⟩
     refine⟨[.k 0,.k 1,.k 2,.k 3],_,_,_,_,TU [],?_,rfl,?_⟩
     ·show[V.p (.k 0) 0,V.z ((gr*i:Nat):Int).toNat (sub (bv b) 0 ((gr*i:Nat):Int).toNat)]=_
      rw[Zc,←hat,a0];rfl
     refine⟨Za rfl,?_⟩
     refine⟨_,rfl,?_⟩
     refine⟨by omega,by omega,by omega,by omega,?_⟩
     refine⟨[],_,_,_,_,c_cloneO (n:=L-at') (l:=b.drop at') rfl lD (by omega),?_,rfl,?_⟩
     ·show[V.z (L-((gr*i:Nat):Int).toNat) (sub (bv b) ((gr*i:Nat):Int).toNat (L-((gr*i:Nat):Int).toNat))]=_
      rw[Zc,←hat,bv_dropN lB (by omega)]
     refine⟨Za rfl,?_⟩
     refine⟨_,rfl,?_⟩
     refine⟨Za rfl,?_⟩
     refine⟨Za rfl,?_⟩
     refine⟨_,rfl,_,rfl,?_⟩
     refine⟨_,_,?_,.ret (.refl _),WkBs.refl _⟩
     refine⟨_,rfl,[.k 0,.k 1,.k 2,.k 3,.d 54 0],rfl,⟨_,rfl,?_⟩,⟨_,rfl,rfl⟩,⟨_,rfl,rfl⟩,⟨_,rfl,rfl⟩,⟨_,rfl,?_⟩,trivial⟩
     ·exact congrArg (fun z=>cxX true true t mode pad back (cipV t k xs) (.z iv.length (bv iv)) (.p (.k 1) 0) (.o 1 (.k 4) 0 z) (.z last.length (bv last))) (show L-at'=0 by omega)
     ·exact congrArg (fun z=>B.sc (bv z)) (Zf (by rw[lD];omega))
 ·refine fd.ctx_Ctx_Update.d caughtOk ?_
  refine⟨⟨[(0,.p (.k 0) 0),(1,.z m (bv b)),(4,.p (.k 4) 0),(5,.p (.k 5) 0)],[cxX true true t mode pad back (cipV t k xs) (.z iv.length (bv iv)) (.p (.k 1) 0) (.o 1 (.k 3) 0 H.length) (.z last.length (bv last)),moX (cipV t k xs) md back ⟨ch,row,g⟩ 2,gnB row g,.sc (bv H),.sc [.slice none 0 0],.sc [.int .i64 0]]⟩,4,5,by decide,⟨[.k 0,.k 1,.k 2,.k 3,.d 4 0,.d 5 0],⟨rfl,rfl,rfl,rfl,trivial⟩,⟨_,rfl,rfl⟩,⟨_,rfl,by cases row<;>rfl⟩,⟨_,rfl,by cases row<;>rfl⟩,⟨_,rfl,rfl⟩,⟨_,rfl,rfl⟩,⟨_,rfl,rfl⟩,trivial⟩,rfl,rfl,rfl,?_⟩
  refine⟨0,Nat,fun i=>⟨[(0,.p (.k 0) 0),(4,.p (.k 4) 0),(5,.p (.k 5) 0),(6,i64 (gr*i:Nat)),(7,i64 mo),(8,i64 gr)],[cxX true true t mode pad back (cipV t k xs) (.z iv.length (bv iv)) (.p (.k 1) 0) (.z L (bv (H++b))) (.z last.length (bv last)),moX (cipV t k xs) md back ⟨ch,row,g⟩ 2,gnB row g,.dead,.sc [.slice none 0 0],.sc [.int .i64 0]]⟩,fun i=>i≤n0,fun i=>n0-i,?_,fun i hi=> ?_⟩
  ·rcases row with _|⟨a,r⟩
   all_goals
    refine⟨[.k 0,.k 1,.k 2,.k 3],_,_,_,_,NE,rfl,rfl,?_⟩
    refine⟨_,rfl,?_⟩
    refine⟨by rw[bv_len,hb],by omega,by rw[bv_len];omega,?_⟩
    refine⟨Za rfl,?_⟩
    refine⟨[.k 0,.k 1,.k 2,.d 17 0],_,_,_,_,MO (H.length+m) (sub (bv H) 0 (H.length*1)++bv b) ⟨(H++b),by rw[Zd,hb],by rw[Zu,bv_all rfl,bv_app]⟩,rfl,rfl,?_⟩
    refine chk_t rfl ?_
    refine chk_t (ck_s rfl rfl (ck_s rfl rfl (ck_s rfl rfl (ck_s rfl rfl rfl)))) ?_
    refine⟨_,rfl,?_⟩
    refine⟨[.k 1,.k 2],_,_,_,_,G,rfl,rfl,?_⟩
    refine⟨[],0,Zk _,[.k 0,.k 1,.k 2,.k 3,.k 4,.k 5],⟨rfl,rfl,rfl,rfl,rfl,rfl,trivial⟩,⟨_,rfl,?_⟩,⟨_,rfl,rfl⟩,⟨_,rfl,rfl⟩,⟨_,rfl,rfl⟩,⟨_,rfl,rfl⟩,⟨_,rfl,rfl⟩,trivial⟩
    show cxX true true t mode pad back (cipV t k xs) (.z iv.length (bv iv)) (.p (.k 1) 0) (.z (H.length+m) (sub (sub (bv H) 0 (H.length*1)++bv b) 0 (H.length+m))) (.z last.length (bv last))=_
    rw[Zu,bv_all rfl,bv_app,bv_all (by rw[Zd,hb]),hL]
  ·rcases row with _|⟨a,r⟩
   all_goals
    have e1:gr*i≤L:=Zp (Zi gr hi) hle
    refine⟨_,rfl,?_⟩
    refine spl_d (fun hc=> ?_) (fun hc=> ?_)
    ·have hc':(mo:Int)<I6.wrap ((L:Int)-((gr*i:Nat):Int)):=hc
     rw[Zb _ (by omega)]at hc'
     have hli:i<n0:=(hlt i).2 (by omega)
     have hle2:gr*(i+1)≤L:=Zp (Zi gr hli) hle
     refine⟨rfl,i+1,hli,Zt _ _ hli,[.k 0,.k 1,.k 2,.k 3,.k 4,.k 5],⟨rfl,rfl,rfl,q7i ?_,rfl,rfl,trivial⟩,⟨_,rfl,rfl⟩,⟨_,rfl,rfl⟩,⟨_,rfl,rfl⟩,⟨_,rfl,rfl⟩,⟨_,rfl,rfl⟩,⟨_,rfl,rfl⟩,trivial⟩
     rw[Zo]at hle2 ⊢
     rw[Zb _ (by omega)]
     omega
    ·have hc':¬(mo:Int)<I6.wrap ((L:Int)-((gr*i:Nat):Int)):=hc
     rw[Zb _ (by omega)]at hc'
     obtain rfl:i=n0:=Zw hi (Zl fun hh=>by have:=(hlt i).1 hh;omega)
     refine⟨_,rfl,?_⟩
     refine⟨by omega,by omega,by omega,by omega,?_⟩
     refine⟨[.k 0,.k 1,.k 2,.k 3],_,_,_,_,TU [],?_,rfl,?_⟩
     ·show[V.p (.k 0) 0,V.z ((gr*i:Nat):Int).toNat (sub (bv (H++b)) 0 ((gr*i:Nat):Int).toNat)]=_
      rw[Zc,←hat,a0];rfl
     refine⟨Za rfl,?_⟩
     refine⟨_,rfl,?_⟩
     refine⟨by omega,by omega,by omega,by omega,?_⟩
     refine⟨[],_,_,_,_,c_cloneO (n:=L-at') (l:=(H++b).drop at') rfl lD (by omega),?_,rfl,?_⟩
     ·show[V.z (L-((gr*i:Nat):Int).toNat) (sub (bv (H++b)) ((gr*i:Nat):Int).toNat (L-((gr*i:Nat):Int).toNat))]=_
      rw[Zc,←hat,bv_dropN lB (by omega)]
     refine⟨Za rfl,?_⟩
     refine⟨_,rfl,?_⟩
     refine⟨Za rfl,?_⟩
     refine⟨Za rfl,?_⟩
     refine⟨_,rfl,_,rfl,?_⟩
     refine⟨_,_,?_,.ret (.refl _),WkBs.refl _⟩
     refine⟨_,rfl,[.k 0,.k 1,.k 2,.k 3,.d 54 0],rfl,⟨_,rfl,?_⟩,⟨_,rfl,rfl⟩,⟨_,rfl,rfl⟩,⟨_,rfl,rfl⟩,⟨_,rfl,?_⟩,trivial⟩
     ·exact congrArg (fun z=>cxX true true t mode pad back (cipV t k xs) (.z iv.length (bv iv)) (.p (.k 1) 0) (.o 1 (.k 4) 0 z) (.z last.length (bv last))) (show L-at'=0 by omega)
     ·exact congrArg (fun z=>B.sc (bv z)) (Zf (by rw[lD];omega))
theorem c_cxupd_noA {m:Nat} {vb:List Value}:
  Con C N.ctx_Ctx_Update [.p (.k 0) 0,.z m vb] [cxX false false 0 0 0 false nilp nilv nilp nilv nilv] (.ret (.t [.z 0 [],i64 6])) [cxX false false 0 0 0 false nilp nilv nilp nilv nilv]:=by
 refine fd.ctx_Ctx_Update.d caughtOk ?_
 refine⟨⟨[(0,.p (.k 0) 0),(1,.z m vb),(4,.p (.k 1) 0),(5,.p (.k 2) 0)],[_,.sc [.slice none 0 0],.sc [.int .i64 0]]⟩,1,2,by decide,⟨[.k 0,.d 4 0,.d 5 0],⟨rfl,rfl,rfl,rfl,trivial⟩,⟨_,rfl,rfl⟩,⟨_,rfl,rfl⟩,⟨_,rfl,rfl⟩,trivial⟩,rfl,rfl,rfl,?_⟩
 refine⟨0,Unit,fun _=>⟨[],[]⟩,fun _=>False,fun _=>0,?_,fun _ h=>h.elim⟩
 refine⟨[.k 0],_,_,_,_,c_cxneedA,rfl,rfl,?_⟩
 refine⟨_,rfl,_,rfl,?_⟩
 refine⟨_,_,?_,.ret (.t (.cons .nl (.cons (.refl _) .nil))),WkBs.refl _⟩
 exact⟨_,rfl,[.k 0],rfl,⟨_,rfl,rfl⟩,trivial⟩
theorem c_cxfin_noA:Con C N.ctx_Ctx_Final [.p (.k 0) 0] [cxX false false 0 0 0 false nilp nilv nilp nilv nilv] (.ret (.t [.z 0 [],i64 6])) [cxX false false 0 0 0 false nilp nilv nilp nilv nilv]:=by
 refine fd.ctx_Ctx_Final.d caughtOk ?_
 refine⟨⟨[(0,.p (.k 0) 0),(2,.p (.k 1) 0),(3,.p (.k 2) 0)],[_,.sc [.slice none 0 0],.sc [.int .i64 0]]⟩,1,2,by decide,⟨[.k 0,.d 2 0,.d 3 0],⟨rfl,rfl,rfl,trivial⟩,⟨_,rfl,rfl⟩,⟨_,rfl,rfl⟩,⟨_,rfl,rfl⟩,trivial⟩,rfl,rfl,rfl,?_⟩
 refine⟨[.k 0],_,_,_,_,c_cxneedA,rfl,rfl,?_⟩
 refine⟨_,rfl,_,rfl,?_⟩
 refine⟨_,_,?_,.ret (.t (.cons .nl (.cons (.refl _) .nil))),WkBs.refl _⟩
 exact⟨_,rfl,[.k 0],rfl,⟨_,rfl,rfl⟩,trivial⟩
theorem c_cxstolen3 {t mode pad md:Int} {op back:Bool} {k:Nat} {xs:List V} {iv last:Bs} {st:MS} (hm:mode≤9):Con C N.ctx_Ctx_stolen [.p (.k 0) 0] [cxO op t mode pad back k xs iv .n last,moX (cipV t k xs) md back st 2,gnB st.row st.gone] (.ret (bool (decide (7≤mode)))) [cxO op t mode pad back k xs iv .n last,moX (cipV t k xs) md back st 2,gnB st.row st.gone]:=by
 obtain⟨ch,row,g⟩:=st
 rcases row with _|⟨a,r⟩
 all_goals
  refine fd.ctx_Ctx_stolen.c ?_
  refine⟨_,rfl,?_⟩
  refine spl_d (fun h7=> ?_) (fun h7=> ?_)
  ·refine⟨_,rfl,?_⟩
   refine⟨_,rfl,[.k 0,.k 1,.k 2],?_,⟨_,rfl,rfl⟩,⟨_,rfl,rfl⟩,⟨_,rfl,rfl⟩,trivial⟩
   exact congrArg bool (by rw[decide_eq_true hm,decide_eq_true h7])
  ·refine⟨_,rfl,[.k 0,.k 1,.k 2],?_,⟨_,rfl,rfl⟩,⟨_,rfl,rfl⟩,⟨_,rfl,rfl⟩,trivial⟩
   exact congrArg bool (by rw[decide_eq_false h7])
theorem c_cxturn3 {t key s k xs rs} (h:Ciph t key s k xs rs) {mode pad md:Int} {op back:Bool} {iv last b:Bs} {st:MS} {m:Nat} (hb:b.length=m) (hmb:m≤100000) (K:MK s md st) (hm:mode≤9) (hg:m%moGrain s md=0) (hne:0<m∨st.row=[]):
  Con C N.ctx_Ctx_turn [.p (.k 0) 0,.z m (bv b)] [cxO op t mode pad back k xs iv .n last,moX (cipV t k xs) md back st 2,gnB st.row st.gone]
   (.ret (.z m (bv (moStep (cF t key false) (cF t key true) s md back st b).1)))
   [cxO op t mode pad back k xs iv .n (cxLast s mode back b (moStep (cF t key false) (cF t key true) s md back st b).1 last),moX (cipV t k xs) md back (moStep (cF t key false) (cF t key true) s md back st b).2 3,.dead,gnB (moStep (cF t key false) (cF t key true) s md back st b).2.row (moStep (cF t key false) (cF t key true) s md back st b).2.gone]:=by
 have hs:=h.s_le
 have lo:(moStep (cF t key false) (cF t key true) s md back st b).1.length=m:=by rw[moStep_len h.ci K.ok (by rw[hb];exact hg),hb]
 have T0:=c_step h (back:=back) (st:=st) (b:=b) rfl hb (by omega) K hg hne
 have S:=fun(st':MS)=>c_cxstolen3 (t:=t) (mode:=mode) (pad:=pad) (md:=md) (op:=op) (back:=back) (k:=k) (xs:=xs) (iv:=iv) (last:=last) (st:=st') hm
 generalize moStep (cF t key false) (cF t key true) s md back st b=S0 at*
 obtain⟨o,st1⟩:=S0
 have S1:=S st1
 obtain⟨c1,row1,g1⟩:=st1
 dsimp only at T0 lo ⊢
 have eS:I6.wrap ((m:Int)-(s:Int))=(m:Int)-s:=Zb _ (by omega)
 by_cases hL:7≤mode∧s≤m
 ·have eL:cxLast s mode back b o last=(if back then b else o).drop (m-s):=by unfold cxLast;rw[hb,if_pos hL]
  rw[eL]
  cases back
  all_goals
   obtain⟨ch,row,g⟩:=st
   rcases row with _|⟨a,r⟩<;>rcases row1 with _|⟨a1,r1⟩
  all_goals
   refine fd.ctx_Ctx_turn.c ?_
   refine⟨_,rfl,?_⟩
   refine⟨[.k 1,.k 2],_,_,_,_,T0,rfl,rfl,?_⟩
   refine⟨[],_,_,_,_,c_refuse0,rfl,rfl,?_⟩
   refine⟨_,rfl,?_⟩
   refine⟨[],_,_,_,_,h.size,rfl,rfl,?_⟩
   refine⟨[.k 0,.k 1,.d 15 2],_,_,_,_,S1,rfl,rfl,?_⟩
   refine spl_d (fun h7=> ?_) (fun h7=>absurd hL.1 h7)
   refine spl_d (fun h7=> ?_) (fun h7=>absurd hL.2 (by omega))
   refine⟨_,rfl,?_⟩
   refine⟨by rw[eS];omega,by rw[eS];omega,by omega,by omega,?_⟩
   first
    |refine⟨[],_,_,_,_,c_cloneZ (n:=s) (l:=o.drop (m-s)) (va:=bv (o.drop (m-s))) rfl (by rw[Ze,lo];omega) (by omega),?_,rfl,?_⟩
     ·show[V.z (m-(I6.wrap ((m:Int)-(s:Int))).toNat) (sub (bv o) (I6.wrap ((m:Int)-(s:Int))).toNat (m-(I6.wrap ((m:Int)-(s:Int))).toNat))]=_
      rw[eS,show((m:Int)-s).toNat=m-s by omega,bv_dropN lo (by omega),show m-(m-s)=s by omega]
     refine⟨Za rfl,?_⟩
     refine⟨_,rfl,[.k 0,.k 1,.k 2,.d 15 2],rfl,⟨_,rfl,?_⟩,⟨_,rfl,rfl⟩,⟨_,rfl,rfl⟩,⟨_,rfl,rfl⟩,trivial⟩
     have ll:(o.drop (m-s)).length=s:=by rw[Ze,lo];omega
     show _=cxO op t mode pad false k xs iv .n (o.drop (m-s))
     unfold cxO
     rw[ll];rfl
    |refine⟨[],_,_,_,_,c_cloneZ (n:=s) (l:=b.drop (m-s)) (va:=bv (b.drop (m-s))) rfl (by rw[Ze,hb];omega) (by omega),?_,rfl,?_⟩
     ·show[V.z (m-(I6.wrap ((m:Int)-(s:Int))).toNat) (sub (bv b) (I6.wrap ((m:Int)-(s:Int))).toNat (m-(I6.wrap ((m:Int)-(s:Int))).toNat))]=_
      rw[eS,show((m:Int)-s).toNat=m-s by omega,bv_dropN hb (by omega),show m-(m-s)=s by omega]
     refine⟨Za rfl,?_⟩
     refine⟨_,rfl,[.k 0,.k 1,.k 2,.d 15 2],rfl,⟨_,rfl,?_⟩,⟨_,rfl,rfl⟩,⟨_,rfl,rfl⟩,⟨_,rfl,rfl⟩,trivial⟩
     have ll:(b.drop (m-s)).length=s:=by rw[Ze,hb];omega
     show _=cxO op t mode pad true k xs iv .n (b.drop (m-s))
     unfold cxO
     rw[ll];rfl
 ·have eL:cxLast s mode back b o last=last:=by unfold cxLast;rw[hb,if_neg hL]
  rw[eL]
  obtain⟨ch,row,g⟩:=st
  rcases row with _|⟨a,r⟩<;>rcases row1 with _|⟨a1,r1⟩
  all_goals
   refine fd.ctx_Ctx_turn.c ?_
   refine⟨_,rfl,?_⟩
   refine⟨[.k 1,.k 2],_,_,_,_,T0,rfl,rfl,?_⟩
   refine⟨[],_,_,_,_,c_refuse0,rfl,rfl,?_⟩
   refine⟨_,rfl,?_⟩
   refine⟨[],_,_,_,_,h.size,rfl,rfl,?_⟩
   refine⟨[.k 0,.k 1,.d 15 2],_,_,_,_,S1,rfl,rfl,?_⟩
   refine spl_d (fun h7=> ?_) (fun h7=> ?_)
   ·refine spl_d (fun h8=>absurd ⟨h7,by omega⟩ hL) (fun h8=> ?_)
    exact⟨_,rfl,[.k 0,.k 1,.k 2,.d 15 2],rfl,⟨_,rfl,rfl⟩,⟨_,rfl,rfl⟩,⟨_,rfl,rfl⟩,⟨_,rfl,rfl⟩,trivial⟩
   ·exact⟨_,rfl,[.k 0,.k 1,.k 2,.d 15 2],rfl,⟨_,rfl,rfl⟩,⟨_,rfl,rfl⟩,⟨_,rfl,rfl⟩,⟨_,rfl,rfl⟩,trivial⟩
theorem c_cxturn03 {t key s k xs rs} (h:Ciph t key s k xs rs) {mode pad md:Int} {op back:Bool} {iv last:Bs} {st:MS} {vb:List Value} (h3:3≤md) (hm:mode≤9):
  Con C N.ctx_Ctx_turn [.p (.k 0) 0,.z 0 vb] [cxO op t mode pad back k xs iv .n last,moX (cipV t k xs) md back st 2,gnB st.row st.gone]
   (.ret (.z 0 [])) [cxO op t mode pad back k xs iv .n last,moX (cipV t k xs) md back st 2,gnB st.row st.gone]:=by
 have hs:=h.s_le
 have T0:=c_step_nil h (back:=back) (st:=st) (vb:=vb) h3
 have S:=c_cxstolen3 (t:=t) (mode:=mode) (pad:=pad) (md:=md) (op:=op) (back:=back) (k:=k) (xs:=xs) (iv:=iv) (last:=last) (st:=st) hm
 obtain⟨ch,row,g⟩:=st
 rcases row with _|⟨a,r⟩
 all_goals
  refine fd.ctx_Ctx_turn.c ?_
  refine⟨_,rfl,?_⟩
  refine⟨[.k 1,.k 2],_,_,_,_,T0,rfl,rfl,?_⟩
  refine⟨[],_,_,_,_,c_refuse0,rfl,rfl,?_⟩
  refine⟨_,rfl,?_⟩
  refine⟨[],_,_,_,_,h.size,rfl,rfl,?_⟩
  refine⟨[.k 0,.k 1,.k 2],_,_,_,_,S,rfl,rfl,?_⟩
  refine spl_d (fun h7=> ?_) (fun h7=> ?_)
  ·refine spl_d (fun h8=>absurd h8 (by omega)) (fun h8=> ?_)
   exact⟨_,rfl,[.k 0,.k 1,.k 2],rfl,⟨_,rfl,rfl⟩,⟨_,rfl,rfl⟩,⟨_,rfl,rfl⟩,trivial⟩
  ·exact⟨_,rfl,[.k 0,.k 1,.k 2],rfl,⟨_,rfl,rfl⟩,⟨_,rfl,rfl⟩,⟨_,rfl,rfl⟩,trivial⟩
theorem c_cxturn_bad3 {t key s k xs rs} (h:Ciph t key s k xs rs) {mode pad md:Int} {op back:Bool} {iv last:Bs} {st:MS} {m:Nat} {vb:List Value} (K:MK s md st) (hg:m%moGrain s md≠0):
  Con C N.ctx_Ctx_turn [.p (.k 0) 0,.z m vb] [cxO op t mode pad back k xs iv .n last,moX (cipV t k xs) md back st 2,gnB st.row st.gone]
   (.pan (.i tRef (i64 7))) [cxO op t mode pad back k xs iv .n last,moX (cipV t k xs) md back st 2,gnB st.row st.gone]:=by
 have T0:=c_step_bad h (back:=back) (st:=st) (vb:=vb) K hg
 obtain⟨ch,row,g⟩:=st
 rcases row with _|⟨a,r⟩
 all_goals
  refine fd.ctx_Ctx_turn.c ?_
  refine⟨_,rfl,?_⟩
  refine⟨[.k 1,.k 2],_,_,_,_,T0,rfl,rfl,?_⟩
  refine⟨[],_,_,_,_,c_refuse (e:=7) (by decide),rfl,rfl,?_⟩
  exact⟨_,rfl,[.k 0,.k 1,.k 2],rfl,⟨_,rfl,rfl⟩,⟨_,rfl,rfl⟩,⟨_,rfl,rfl⟩,trivial⟩
theorem c_cxend_st {t key s k xs rs} (h:Ciph t key s k xs rs) {mode pad md:Int} {back:Bool} {iv last H:Bs} {st:MS} {m:Nat} (hl:last.length=s) (hH:H.length=m) (hm:7≤mode∧mode≤9) (h1:s≤m) (h2:m≤2*s):
  Con C N.ctx_Ctx_end [.p (.k 0) 0,.z m (bv H)] [cxO false t mode pad back k xs iv .n last,moX (cipV t k xs) md back st 2,gnB st.row st.gone] (.ret (.z m (bv (stT (cF t key false) (cF t key true) s mode back last H)))) [cxO false t mode pad back k xs iv .n last,moX (cipV t k xs) md back st 2,gnB st.row st.gone]:=by
 have T0:Con C N.steal_Tail [cipV t k xs,i64 mode,bool back,.z last.length (bv last),.z m (bv H)] [] (okBlk m) [.sc (bv (stT (cF t key false) (cF t key true) s mode back last H))]:=by
  rw[hl];exact c_tail h rfl rfl hl hH hm h1 h2
 have lo:(stT (cF t key false) (cF t key true) s mode back last H).length=m:=by rw[stT_len h.ci hl (by omega) (by omega),hH]
 have S:=c_cxstolen3 (t:=t) (mode:=mode) (pad:=pad) (md:=md) (op:=false) (back:=back) (k:=k) (xs:=xs) (iv:=iv) (last:=last) (st:=st) hm.2
 obtain⟨ch,row,g⟩:=st
 rcases row with _|⟨a,r⟩
 all_goals
  refine fd.ctx_Ctx_end.c ?_
  refine⟨_,rfl,?_⟩
  refine⟨[],_,_,_,_,h.size,rfl,rfl,?_⟩
  refine⟨[.k 0,.k 1,.k 2],_,_,_,_,S,rfl,rfl,?_⟩
  refine spl_d (fun h7=> ?_) (fun h7=>absurd hm.1 h7)
  refine⟨_,rfl,?_⟩
  refine⟨_,rfl,?_⟩
  refine⟨_,rfl,?_⟩
  refine⟨_,rfl,?_⟩
  refine⟨[],_,_,_,_,T0,rfl,rfl,?_⟩
  refine⟨[],_,_,_,_,c_refuse0,rfl,rfl,?_⟩
  refine⟨_,rfl,[.k 0,.k 1,.k 2],?_,⟨_,rfl,rfl⟩,⟨_,rfl,rfl⟩,⟨_,rfl,rfl⟩,trivial⟩
  exact congrArg (V.z m) (bv_all lo)
theorem c_cxend_st7 {t key s k xs rs} (h:Ciph t key s k xs rs) {mode pad md:Int} {back:Bool} {iv last H:Bs} {st:MS} {m:Nat} (hl:last.length=s) (hH:H.length=m) (hm:7≤mode∧mode≤9) (h1:m<s):
  Con C N.ctx_Ctx_end [.p (.k 0) 0,.z m (bv H)] [cxO false t mode pad back k xs iv .n last,moX (cipV t k xs) md back st 2,gnB st.row st.gone] (.pan (.i tRef (i64 7))) [cxO false t mode pad back k xs iv .n last,moX (cipV t k xs) md back st 2,gnB st.row st.gone]:=by
 have hs:=h.s_le
 have e7:stErr s mode last H=7:=by unfold stErr;rw[if_neg (by omega),if_neg (by omega),if_pos (by omega)]
 have T0:=c_tail_err h (l:=last.length) (m:=m) (vl:=bv last) (vb:=bv H) (mode:=mode) (back:=back) rfl hH (by omega) (by rw[e7];decide)
 rw[e7]at T0
 have S:=c_cxstolen3 (t:=t) (mode:=mode) (pad:=pad) (md:=md) (op:=false) (back:=back) (k:=k) (xs:=xs) (iv:=iv) (last:=last) (st:=st) hm.2
 obtain⟨ch,row,g⟩:=st
 rcases row with _|⟨a,r⟩
 all_goals
  refine fd.ctx_Ctx_end.c ?_
  refine⟨_,rfl,?_⟩
  refine⟨[],_,_,_,_,h.size,rfl,rfl,?_⟩
  refine⟨[.k 0,.k 1,.k 2],_,_,_,_,S,rfl,rfl,?_⟩
  refine spl_d (fun h7=> ?_) (fun h7=>absurd hm.1 h7)
  refine⟨_,rfl,?_⟩
  refine⟨_,rfl,?_⟩
  refine⟨_,rfl,?_⟩
  refine⟨_,rfl,?_⟩
  refine⟨[],_,_,_,_,T0,rfl,rfl,?_⟩
  refine⟨[],_,_,_,_,c_refuse (e:=7) (by decide),rfl,rfl,?_⟩
  exact⟨_,rfl,[.k 0,.k 1,.k 2],rfl,⟨_,rfl,rfl⟩,⟨_,rfl,rfl⟩,⟨_,rfl,rfl⟩,trivial⟩
theorem c_cxend_n {t key s k xs rs} (h:Ciph t key s k xs rs) {mode pad md:Int} {back:Bool} {iv last H:Bs} {st:MS} {m:Nat} (hH:H.length=m) (hmb:m≤100000) (K:MK s md st) (hm:mode≤6) (h4:pad=4) (hg:m%moGrain s md=0) (hne:0<m∨st.row=[]):
  Con C N.ctx_Ctx_end [.p (.k 0) 0,.z m (bv H)] [cxO false t mode pad back k xs iv .n last,moX (cipV t k xs) md back st 2,gnB st.row st.gone] (.ret (.z m (bv (moStep (cF t key false) (cF t key true) s md back st H).1)))
   [cxO false t mode pad back k xs iv .n (cxLast s mode back H (moStep (cF t key false) (cF t key true) s md back st H).1 last),moX (cipV t k xs) md back (moStep (cF t key false) (cF t key true) s md back st H).2 3,.dead,gnB (moStep (cF t key false) (cF t key true) s md back st H).2.row (moStep (cF t key false) (cF t key true) s md back st H).2.gone]:=by
 have S:=c_cxstolen3 (t:=t) (mode:=mode) (pad:=pad) (md:=md) (op:=false) (back:=back) (k:=k) (xs:=xs) (iv:=iv) (last:=last) (st:=st) (by omega)
 have TU:=c_cxturn3 h (op:=false) (back:=back) (pad:=pad) (iv:=iv) (last:=last) (b:=H) hH hmb K (mode:=mode) (by omega) hg hne
 generalize moStep (cF t key false) (cF t key true) s md back st H=S0 at*
 obtain⟨o,c1,row1,g1⟩:=S0
 obtain⟨ch,row,g⟩:=st
 rcases row with _|⟨a,r⟩<;>rcases row1 with _|⟨a1,r1⟩
 all_goals
  refine fd.ctx_Ctx_end.c ?_
  refine⟨_,rfl,?_⟩
  refine⟨[],_,_,_,_,h.size,rfl,rfl,?_⟩
  refine⟨[.k 0,.k 1,.k 2],_,_,_,_,S,rfl,rfl,?_⟩
  refine spl_d (fun h7=>absurd h7 (by omega)) (fun h7=> ?_)
  refine⟨_,rfl,?_⟩
  refine spl_eq (fun _=> ?_) (fun hh=>absurd h4 hh)
  refine⟨[.k 0,.k 1,.k 2],_,_,_,_,TU,rfl,rfl,?_⟩
  exact⟨_,rfl,[.k 0,.k 1,.k 2,.d 53 3],rfl,⟨_,rfl,rfl⟩,⟨_,rfl,rfl⟩,⟨_,rfl,rfl⟩,⟨_,rfl,rfl⟩,trivial⟩
theorem c_cxend_n0 {t key s k xs rs} (h:Ciph t key s k xs rs) {mode pad md:Int} {back:Bool} {iv last H:Bs} {st:MS} {m:Nat} (hm0:m=0) (h3:3≤md) (hm:mode≤6) (h4:pad=4):
  Con C N.ctx_Ctx_end [.p (.k 0) 0,.z m (bv H)] [cxO false t mode pad back k xs iv .n last,moX (cipV t k xs) md back st 2,gnB st.row st.gone] (.ret (.z 0 [])) [cxO false t mode pad back k xs iv .n last,moX (cipV t k xs) md back st 2,gnB st.row st.gone]:=by
 subst hm0
 have S:=c_cxstolen3 (t:=t) (mode:=mode) (pad:=pad) (md:=md) (op:=false) (back:=back) (k:=k) (xs:=xs) (iv:=iv) (last:=last) (st:=st) (by omega)
 have TU:=c_cxturn03 h (op:=false) (back:=back) (pad:=pad) (iv:=iv) (last:=last) (mode:=mode) (st:=st) (vb:=bv H) h3 (by omega)
 obtain⟨ch,row,g⟩:=st
 rcases row with _|⟨a,r⟩
 all_goals
  refine fd.ctx_Ctx_end.c ?_
  refine⟨_,rfl,?_⟩
  refine⟨[],_,_,_,_,h.size,rfl,rfl,?_⟩
  refine⟨[.k 0,.k 1,.k 2],_,_,_,_,S,rfl,rfl,?_⟩
  refine spl_d (fun h7=>absurd h7 (by omega)) (fun h7=> ?_)
  refine⟨_,rfl,?_⟩
  refine spl_eq (fun _=> ?_) (fun hh=>absurd h4 hh)
  refine⟨[.k 0,.k 1,.k 2],_,_,_,_,TU,rfl,rfl,?_⟩
  exact⟨_,rfl,[.k 0,.k 1,.k 2],rfl,⟨_,rfl,rfl⟩,⟨_,rfl,rfl⟩,⟨_,rfl,rfl⟩,trivial⟩
theorem c_cxend_n7 {t key s k xs rs} (h:Ciph t key s k xs rs) {mode pad md:Int} {back:Bool} {iv last H:Bs} {st:MS} {m:Nat} (K:MK s md st) (hm:mode≤6) (h4:pad=4) (hg:m%moGrain s md≠0):
  Con C N.ctx_Ctx_end [.p (.k 0) 0,.z m (bv H)] [cxO false t mode pad back k xs iv .n last,moX (cipV t k xs) md back st 2,gnB st.row st.gone] (.pan (.i tRef (i64 7))) [cxO false t mode pad back k xs iv .n last,moX (cipV t k xs) md back st 2,gnB st.row st.gone]:=by
 have S:=c_cxstolen3 (t:=t) (mode:=mode) (pad:=pad) (md:=md) (op:=false) (back:=back) (k:=k) (xs:=xs) (iv:=iv) (last:=last) (st:=st) (by omega)
 have TU:=c_cxturn_bad3 h (op:=false) (back:=back) (pad:=pad) (iv:=iv) (last:=last) (mode:=mode) (m:=m) (vb:=bv H) K hg
 obtain⟨ch,row,g⟩:=st
 rcases row with _|⟨a,r⟩
 all_goals
  refine fd.ctx_Ctx_end.c ?_
  refine⟨_,rfl,?_⟩
  refine⟨[],_,_,_,_,h.size,rfl,rfl,?_⟩
  refine⟨[.k 0,.k 1,.k 2],_,_,_,_,S,rfl,rfl,?_⟩
  refine spl_d (fun h7=>absurd h7 (by omega)) (fun h7=> ?_)
  refine⟨_,rfl,?_⟩
  refine spl_eq (fun _=> ?_) (fun hh=>absurd h4 hh)
  refine⟨[.k 0,.k 1,.k 2],_,_,_,_,TU,rfl,rfl,?_⟩
  exact⟨_,rfl,[.k 0,.k 1,.k 2],rfl,⟨_,rfl,rfl⟩,⟨_,rfl,rfl⟩,⟨_,rfl,rfl⟩,trivial⟩
theorem c_cxend_p {t key s k xs rs} (h:Ciph t key s k xs rs) {mode pad md:Int} {back:Bool} {iv last H:Bs} {st:MS} {m:Nat} (hb:back=false) (hH:H.length=m) (hms:m<s) (K:MK s md st) (hm:mode≤6) (hp:pad=1∨pad=2∨pad=3) (hgr:moGrain s md=s):
  Con C N.ctx_Ctx_end [.p (.k 0) 0,.z m (bv H)] [cxO false t mode pad back k xs iv .n last,moX (cipV t k xs) md back st 2,gnB st.row st.gone] (.ret (.z s (bv (moStep (cF t key false) (cF t key true) s md back st (pdAdd pad s H)).1)))
   [cxO false t mode pad back k xs iv .n (cxLast s mode back (pdAdd pad s H) (moStep (cF t key false) (cF t key true) s md back st (pdAdd pad s H)).1 last),moX (cipV t k xs) md back (moStep (cF t key false) (cF t key true) s md back st (pdAdd pad s H)).2 3,.dead,gnB (moStep (cF t key false) (cF t key true) s md back st (pdAdd pad s H)).2.row (moStep (cF t key false) (cF t key true) s md back st (pdAdd pad s H)).2.gone]:=by
 subst hb
 have hs:=h.s_le
 have lp:(pdAdd pad s H).length=s:=pdAdd_len (by omega)
 have PA:=c_padAdd (vt:=bv H) hp h.s_two rfl hH hms
 have S:=c_cxstolen3 (t:=t) (mode:=mode) (pad:=pad) (md:=md) (op:=false) (back:=false) (k:=k) (xs:=xs) (iv:=iv) (last:=last) (st:=st) (by omega)
 have TU:=c_cxturn3 h (op:=false) (back:=false) (pad:=pad) (iv:=iv) (last:=last) (b:=pdAdd pad s H) lp (by omega) K (mode:=mode) (by omega) (by rw[hgr,Zm]) (.inl (by omega))
 generalize pdAdd pad s H=P at*
 generalize moStep (cF t key false) (cF t key true) s md false st P=S0 at*
 obtain⟨o,c1,row1,g1⟩:=S0
 obtain⟨ch,row,g⟩:=st
 rcases row with _|⟨a,r⟩<;>rcases row1 with _|⟨a1,r1⟩
 all_goals
  refine fd.ctx_Ctx_end.c ?_
  refine⟨_,rfl,?_⟩
  refine⟨[],_,_,_,_,h.size,rfl,rfl,?_⟩
  refine⟨[.k 0,.k 1,.k 2],_,_,_,_,S,rfl,rfl,?_⟩
  refine spl_d (fun h7=>absurd h7 (by omega)) (fun h7=> ?_)
  refine⟨_,rfl,?_⟩
  refine spl_eq (fun hh=>absurd hh (by omega)) (fun _=> ?_)
  refine⟨_,rfl,?_⟩
  refine⟨_,rfl,?_⟩
  refine⟨[],_,_,_,_,PA,rfl,rfl,?_⟩
  refine⟨[],_,_,_,_,c_refuse0,rfl,rfl,?_⟩
  refine⟨[.k 0,.k 1,.k 2],_,_,_,_,TU,?_,rfl,?_⟩
  ·exact congrArg (fun v=>[V.p (.k 0) 0,V.z s v]) (bv_all lp)
  exact⟨_,rfl,[.k 0,.k 1,.k 2,.d 75 3],rfl,⟨_,rfl,rfl⟩,⟨_,rfl,rfl⟩,⟨_,rfl,rfl⟩,⟨_,rfl,rfl⟩,trivial⟩
theorem c_cxend_b7 {t key s k xs rs} (h:Ciph t key s k xs rs) {mode pad md:Int} {back:Bool} {iv last H:Bs} {st:MS} {m:Nat} (hb:back=true) (hH:H.length=m) (hmb:m≤100000) (hms:m≠s) (hm:mode≤6) (hp:pad=1∨pad=2∨pad=3):
  Con C N.ctx_Ctx_end [.p (.k 0) 0,.z m (bv H)] [cxO false t mode pad back k xs iv .n last,moX (cipV t k xs) md back st 2,gnB st.row st.gone] (.pan (.i tRef (i64 7))) [cxO false t mode pad back k xs iv .n last,moX (cipV t k xs) md back st 2,gnB st.row st.gone]:=by
 subst hb
 have S:=c_cxstolen3 (t:=t) (mode:=mode) (pad:=pad) (md:=md) (op:=false) (back:=true) (k:=k) (xs:=xs) (iv:=iv) (last:=last) (st:=st) (by omega)
 obtain⟨ch,row,g⟩:=st
 rcases row with _|⟨a,r⟩
 all_goals
  refine fd.ctx_Ctx_end.c ?_
  refine⟨_,rfl,?_⟩
  refine⟨[],_,_,_,_,h.size,rfl,rfl,?_⟩
  refine⟨[.k 0,.k 1,.k 2],_,_,_,_,S,rfl,rfl,?_⟩
  refine spl_d (fun h7=>absurd h7 (by omega)) (fun h7=> ?_)
  refine⟨_,rfl,?_⟩
  refine spl_eq (fun hh=>absurd hh (by omega)) (fun _=> ?_)
  refine⟨_,rfl,?_⟩
  refine spl_ne (fun _=> ?_) (fun hh=>absurd hh (by omega))
  refine⟨[],_,_,_,_,c_refuse (e:=7) (by decide),rfl,rfl,?_⟩
  exact⟨_,rfl,[.k 0,.k 1,.k 2],rfl,⟨_,rfl,rfl⟩,⟨_,rfl,rfl⟩,⟨_,rfl,rfl⟩,trivial⟩
theorem cxLast_no {s:Nat} {mode:Int} {back:Bool} {b o last:Bs} (hm:mode≤6):cxLast s mode back b o last=last:=by unfold cxLast;rw[if_neg (by omega)]
theorem c_cxend_b8 {t key s k xs rs} (h:Ciph t key s k xs rs) {mode pad md:Int} {back:Bool} {iv last H:Bs} {st:MS} {m:Nat} (hb:back=true) (hH:H.length=s) (K:MK s md st) (hm:mode≤6) (hp:pad=1∨pad=2∨pad=3) (hgr:moGrain s md=s) (h0:pdLong pad (moStep (cF t key false) (cF t key true) s md back st H).1=0):
  Con C N.ctx_Ctx_end [.p (.k 0) 0,.z s (bv H)] [cxO false t mode pad back k xs iv .n last,moX (cipV t k xs) md back st 2,gnB st.row st.gone] (.pan (.i tRef (i64 8)))
   [cxO false t mode pad back k xs iv .n last,moX (cipV t k xs) md back (moStep (cF t key false) (cF t key true) s md back st H).2 3,.dead,gnB (moStep (cF t key false) (cF t key true) s md back st H).2.row (moStep (cF t key false) (cF t key true) s md back st H).2.gone]:=by
 subst hb
 have hs:=h.s_le
 have lo:(moStep (cF t key false) (cF t key true) s md true st H).1.length=s:=by rw[moStep_len h.ci K.ok (by rw[hH,hgr,Zm]),hH]
 have PA:=c_strip_no (vb:=bv (moStep (cF t key false) (cF t key true) s md true st H).1) rfl hp h.s_two lo h0
 have S:=c_cxstolen3 (t:=t) (mode:=mode) (pad:=pad) (md:=md) (op:=false) (back:=true) (k:=k) (xs:=xs) (iv:=iv) (last:=last) (st:=st) (by omega)
 have TU:=c_cxturn3 h (op:=false) (back:=true) (pad:=pad) (iv:=iv) (last:=last) (b:=H) hH (by omega) K (mode:=mode) (by omega) (by rw[hgr,Zm]) (.inl (by omega))
 rw[cxLast_no hm]at TU
 generalize moStep (cF t key false) (cF t key true) s md true st H=S0 at*
 obtain⟨o,c1,row1,g1⟩:=S0
 obtain⟨ch,row,g⟩:=st
 rcases row with _|⟨a,r⟩<;>rcases row1 with _|⟨a1,r1⟩
 all_goals
  refine fd.ctx_Ctx_end.c ?_
  refine⟨_,rfl,?_⟩
  refine⟨[],_,_,_,_,h.size,rfl,rfl,?_⟩
  refine⟨[.k 0,.k 1,.k 2],_,_,_,_,S,rfl,rfl,?_⟩
  refine spl_d (fun h7=>absurd h7 (by omega)) (fun h7=> ?_)
  refine⟨_,rfl,?_⟩
  refine spl_eq (fun hh=>absurd hh (by omega)) (fun _=> ?_)
  refine⟨_,rfl,?_⟩
  refine spl_ne (fun hh=>absurd rfl hh) (fun _=> ?_)
  refine⟨_,rfl,?_⟩
  refine⟨[.k 0,.k 1,.k 2],_,_,_,_,TU,rfl,rfl,?_⟩
  refine chk_t rfl ?_
  refine chk_t (ck_s rfl rfl rfl) ?_
  refine⟨[],_,_,_,_,PA,rfl,rfl,?_⟩
  refine⟨[],_,_,_,_,c_refuse (e:=8) (by decide),rfl,rfl,?_⟩
  exact⟨_,rfl,[.k 0,.k 1,.k 2,.d 90 3],rfl,⟨_,rfl,rfl⟩,⟨_,rfl,rfl⟩,⟨_,rfl,rfl⟩,⟨_,rfl,rfl⟩,trivial⟩
theorem c_cxend_bk {t key s k xs rs} (h:Ciph t key s k xs rs) {mode pad md:Int} {back:Bool} {iv last H:Bs} {st:MS} {m:Nat} (hb:back=true) (hH:H.length=s) (K:MK s md st) (hm:mode≤6) (hp:pad=1∨pad=2∨pad=3) (hgr:moGrain s md=s) (h0:pdLong pad (moStep (cF t key false) (cF t key true) s md back st H).1≠0):
  Con C N.ctx_Ctx_end [.p (.k 0) 0,.z s (bv H)] [cxO false t mode pad back k xs iv .n last,moX (cipV t k xs) md back st 2,gnB st.row st.gone] (.ret (.z (s-pdLong pad (moStep (cF t key false) (cF t key true) s md back st H).1) (bv (pdStrip pad (moStep (cF t key false) (cF t key true) s md back st H).1))))
   [cxO false t mode pad back k xs iv .n last,moX (cipV t k xs) md back (moStep (cF t key false) (cF t key true) s md back st H).2 3,.dead,gnB (moStep (cF t key false) (cF t key true) s md back st H).2.row (moStep (cF t key false) (cF t key true) s md back st H).2.gone]:=by
 subst hb
 have hs:=h.s_le
 have lo:(moStep (cF t key false) (cF t key true) s md true st H).1.length=s:=by rw[moStep_len h.ci K.ok (by rw[hH,hgr,Zm]),hH]
 have PA:=c_strip (vb:=bv (moStep (cF t key false) (cF t key true) s md true st H).1) rfl hp h.s_two lo h0
 have S:=c_cxstolen3 (t:=t) (mode:=mode) (pad:=pad) (md:=md) (op:=false) (back:=true) (k:=k) (xs:=xs) (iv:=iv) (last:=last) (st:=st) (by omega)
 have TU:=c_cxturn3 h (op:=false) (back:=true) (pad:=pad) (iv:=iv) (last:=last) (b:=H) hH (by omega) K (mode:=mode) (by omega) (by rw[hgr,Zm]) (.inl (by omega))
 rw[cxLast_no hm]at TU
 generalize moStep (cF t key false) (cF t key true) s md true st H=S0 at*
 obtain⟨o,c1,row1,g1⟩:=S0
 obtain⟨ch,row,g⟩:=st
 rcases row with _|⟨a,r⟩<;>rcases row1 with _|⟨a1,r1⟩
 all_goals
  refine fd.ctx_Ctx_end.c ?_
  refine⟨_,rfl,?_⟩
  refine⟨[],_,_,_,_,h.size,rfl,rfl,?_⟩
  refine⟨[.k 0,.k 1,.k 2],_,_,_,_,S,rfl,rfl,?_⟩
  refine spl_d (fun h7=>absurd h7 (by omega)) (fun h7=> ?_)
  refine⟨_,rfl,?_⟩
  refine spl_eq (fun hh=>absurd hh (by omega)) (fun _=> ?_)
  refine⟨_,rfl,?_⟩
  refine spl_ne (fun hh=>absurd rfl hh) (fun _=> ?_)
  refine⟨_,rfl,?_⟩
  refine⟨[.k 0,.k 1,.k 2],_,_,_,_,TU,rfl,rfl,?_⟩
  refine chk_t rfl ?_
  refine chk_t (ck_s rfl rfl rfl) ?_
  refine⟨[],_,_,_,_,PA,rfl,rfl,?_⟩
  refine⟨[],_,_,_,_,c_refuse0,rfl,rfl,?_⟩
  exact⟨_,rfl,[.k 0,.k 1,.k 2,.d 90 3],rfl,⟨_,rfl,rfl⟩,⟨_,rfl,rfl⟩,⟨_,rfl,rfl⟩,⟨_,rfl,rfl⟩,trivial⟩
theorem c_cxfinTr {t mode pad md:Int} {back:Bool} {k m n:Nat} {e:Int} {xs:List V} {iv last last' H:Bs} {st st':MS} {x:HK} {vr:List Value} (hx:x= .n∧m=0∧H=[]∨x= .o H∧H.length=m)
  (E:Con C N.ctx_Ctx_end [.p (.k 0) 0,.z m (bv H)] [cxO false t mode pad back k xs iv .n last,moX (cipV t k xs) md back st 2,gnB st.row st.gone] (.ret (.z n vr)) [cxO false t mode pad back k xs iv .n last',moX (cipV t k xs) md back st' 3,.dead,gnB st'.row st'.gone]):
  Con C N.ctx_Ctx_Final [.p (.k 0) 0] [cxO true t mode pad back k xs iv x last,moX (cipV t k xs) md back st 2,gnB st.row st.gone,x.b] (.ret (.t [.z n vr,i64 0])) [cxO false t mode pad back k xs iv .n last',moX (cipV t k xs) md back st' 4,.dead,.dead,gnB st'.row st'.gone]:=by
 have NE:=c_cxneed (t:=t) (mode:=mode) (pad:=pad) (md:=md) (back:=back) (k:=k) (xs:=xs) (iv:=iv) (last:=last) (st:=st) (x:=x)
 obtain⟨ch,row,g⟩:=st
 obtain⟨ch1,row1,g1⟩:=st'
 rcases hx with ⟨rfl,rfl,rfl⟩|⟨rfl,hH⟩
 ·rcases row with _|⟨a,r⟩<;>rcases row1 with _|⟨a1,r1⟩
  all_goals
   refine fd.ctx_Ctx_Final.d caughtOk ?_
   refine⟨⟨[(0,.p (.k 0) 0),(2,.p (.k 4) 0),(3,.p (.k 5) 0)],[_,_,_,_,.sc [.slice none 0 0],.sc [.int .i64 0]]⟩,4,5,by decide,⟨[.k 0,.k 1,.k 2,.k 3,.d 2 0,.d 3 0],⟨rfl,rfl,rfl,trivial⟩,⟨_,rfl,rfl⟩,⟨_,rfl,rfl⟩,⟨_,rfl,rfl⟩,⟨_,rfl,rfl⟩,⟨_,rfl,rfl⟩,⟨_,rfl,rfl⟩,trivial⟩,rfl,rfl,rfl,?_⟩
   refine⟨[.k 0,.k 1,.k 2,.k 3],_,_,_,_,NE,rfl,rfl,?_⟩
   refine⟨_,rfl,?_⟩
   refine⟨Za rfl,?_⟩
   refine⟨Za rfl,?_⟩
   refine⟨[.k 0,.k 1,.k 2],_,_,_,_,Con.args E (ys0:=[.p (.k 0) 0,nilv]) (.cons (.refl _) (.cons .nl .nil)),rfl,rfl,?_⟩
   refine⟨Za rfl,?_⟩
   refine⟨Za rfl,?_⟩
   refine⟨_,rfl,_,rfl,?_⟩
   refine⟨_,_,?_,.ret (.refl _),WkBs.refl _⟩
   exact⟨_,rfl,[.k 0,.k 1,.k 2,.k 3,.d 19 3],rfl,⟨_,rfl,rfl⟩,⟨_,rfl,rfl⟩,⟨_,rfl,rfl⟩,⟨_,rfl,rfl⟩,⟨_,rfl,rfl⟩,trivial⟩
 ·rcases row with _|⟨a,r⟩<;>rcases row1 with _|⟨a1,r1⟩
  all_goals
   refine fd.ctx_Ctx_Final.d caughtOk ?_
   refine⟨⟨[(0,.p (.k 0) 0),(2,.p (.k 4) 0),(3,.p (.k 5) 0)],[_,_,_,_,.sc [.slice none 0 0],.sc [.int .i64 0]]⟩,4,5,by decide,⟨[.k 0,.k 1,.k 2,.k 3,.d 2 0,.d 3 0],⟨rfl,rfl,rfl,trivial⟩,⟨_,rfl,rfl⟩,⟨_,rfl,rfl⟩,⟨_,rfl,rfl⟩,⟨_,rfl,rfl⟩,⟨_,rfl,rfl⟩,⟨_,rfl,rfl⟩,trivial⟩,rfl,rfl,rfl,?_⟩
   refine⟨[.k 0,.k 1,.k 2,.k 3],_,_,_,_,NE,rfl,rfl,?_⟩
   refine⟨_,rfl,?_⟩
   refine⟨Za rfl,?_⟩
   refine⟨Za rfl,?_⟩
   refine⟨[.k 0,.k 1,.k 2],_,_,_,_,E,?_,rfl,?_⟩
   ·show[V.p (.k 0) 0,V.z H.length (sub (bv H) 0 H.length)]=_
    rw[bv_all rfl,hH]
   refine⟨Za rfl,?_⟩
   refine⟨Za rfl,?_⟩
   refine⟨_,rfl,_,rfl,?_⟩
   refine⟨_,_,?_,.ret (.refl _),WkBs.refl _⟩
   exact⟨_,rfl,[.k 0,.k 1,.k 2,.k 3,.d 19 3],rfl,⟨_,rfl,rfl⟩,⟨_,rfl,rfl⟩,⟨_,rfl,rfl⟩,⟨_,rfl,rfl⟩,⟨_,rfl,rfl⟩,trivial⟩
theorem c_cxfinTp {t mode pad md:Int} {back:Bool} {k m n:Nat} {e:Int} {xs:List V} {iv last last' H:Bs} {st st':MS} {x:HK} {vr:List Value} (hx:x= .n∧m=0∧H=[]∨x= .o H∧H.length=m)
  (E:Con C N.ctx_Ctx_end [.p (.k 0) 0,.z m (bv H)] [cxO false t mode pad back k xs iv .n last,moX (cipV t k xs) md back st 2,gnB st.row st.gone] (.pan (.i tRef (i64 e))) [cxO false t mode pad back k xs iv .n last',moX (cipV t k xs) md back st' 3,.dead,gnB st'.row st'.gone]):
  Con C N.ctx_Ctx_Final [.p (.k 0) 0] [cxO true t mode pad back k xs iv x last,moX (cipV t k xs) md back st 2,gnB st.row st.gone,x.b] (.ret (.t [.z 0 [],i64 e])) [cxO false t mode pad back k xs iv .n last',moX (cipV t k xs) md back st' 4,.dead,.dead,gnB st'.row st'.gone]:=by
 have NE:=c_cxneed (t:=t) (mode:=mode) (pad:=pad) (md:=md) (back:=back) (k:=k) (xs:=xs) (iv:=iv) (last:=last) (st:=st) (x:=x)
 obtain⟨ch,row,g⟩:=st
 obtain⟨ch1,row1,g1⟩:=st'
 rcases hx with ⟨rfl,rfl,rfl⟩|⟨rfl,hH⟩
 ·rcases row with _|⟨a,r⟩<;>rcases row1 with _|⟨a1,r1⟩
  all_goals
   refine fd.ctx_Ctx_Final.d caughtOk ?_
   refine⟨⟨[(0,.p (.k 0) 0),(2,.p (.k 4) 0),(3,.p (.k 5) 0)],[_,_,_,_,.sc [.slice none 0 0],.sc [.int .i64 0]]⟩,4,5,by decide,⟨[.k 0,.k 1,.k 2,.k 3,.d 2 0,.d 3 0],⟨rfl,rfl,rfl,trivial⟩,⟨_,rfl,rfl⟩,⟨_,rfl,rfl⟩,⟨_,rfl,rfl⟩,⟨_,rfl,rfl⟩,⟨_,rfl,rfl⟩,⟨_,rfl,rfl⟩,trivial⟩,rfl,rfl,rfl,?_⟩
   refine⟨[.k 0,.k 1,.k 2,.k 3],_,_,_,_,NE,rfl,rfl,?_⟩
   refine⟨_,rfl,?_⟩
   refine⟨Za rfl,?_⟩
   refine⟨Za rfl,?_⟩
   refine⟨[.k 0,.k 1,.k 2],_,_,_,_,Con.args E (ys0:=[.p (.k 0) 0,nilv]) (.cons (.refl _) (.cons .nl .nil)),rfl,rfl,?_⟩
   refine⟨_,rfl,_,rfl,?_⟩
   refine⟨_,_,?_,.ret (.t (.cons .nl (.cons (.refl _) .nil))),WkBs.refl _⟩
   exact⟨_,rfl,[.k 0,.k 1,.k 2,.k 3,.d 19 3],rfl,⟨_,rfl,rfl⟩,⟨_,rfl,rfl⟩,⟨_,rfl,rfl⟩,⟨_,rfl,rfl⟩,⟨_,rfl,rfl⟩,trivial⟩
 ·rcases row with _|⟨a,r⟩<;>rcases row1 with _|⟨a1,r1⟩
  all_goals
   refine fd.ctx_Ctx_Final.d caughtOk ?_
   refine⟨⟨[(0,.p (.k 0) 0),(2,.p (.k 4) 0),(3,.p (.k 5) 0)],[_,_,_,_,.sc [.slice none 0 0],.sc [.int .i64 0]]⟩,4,5,by decide,⟨[.k 0,.k 1,.k 2,.k 3,.d 2 0,.d 3 0],⟨rfl,rfl,rfl,trivial⟩,⟨_,rfl,rfl⟩,⟨_,rfl,rfl⟩,⟨_,rfl,rfl⟩,⟨_,rfl,rfl⟩,⟨_,rfl,rfl⟩,⟨_,rfl,rfl⟩,trivial⟩,rfl,rfl,rfl,?_⟩
   refine⟨[.k 0,.k 1,.k 2,.k 3],_,_,_,_,NE,rfl,rfl,?_⟩
   refine⟨_,rfl,?_⟩
   refine⟨Za rfl,?_⟩
   refine⟨Za rfl,?_⟩
   refine⟨[.k 0,.k 1,.k 2],_,_,_,_,E,?_,rfl,?_⟩
   ·show[V.p (.k 0) 0,V.z H.length (sub (bv H) 0 H.length)]=_
    rw[bv_all rfl,hH]
   refine⟨_,rfl,_,rfl,?_⟩
   refine⟨_,_,?_,.ret (.t (.cons .nl (.cons (.refl _) .nil))),WkBs.refl _⟩
   exact⟨_,rfl,[.k 0,.k 1,.k 2,.k 3,.d 19 3],rfl,⟨_,rfl,rfl⟩,⟨_,rfl,rfl⟩,⟨_,rfl,rfl⟩,⟨_,rfl,rfl⟩,⟨_,rfl,rfl⟩,trivial⟩
theorem c_cxfinNr {t mode pad md:Int} {back:Bool} {k m n:Nat} {e:Int} {xs:List V} {iv last last' H:Bs} {st st':MS} {x:HK} {vr:List Value} (hx:x= .n∧m=0∧H=[]∨x= .o H∧H.length=m)
  (E:Con C N.ctx_Ctx_end [.p (.k 0) 0,.z m (bv H)] [cxO false t mode pad back k xs iv .n last,moX (cipV t k xs) md back st 2,gnB st.row st.gone] (.ret (.z n vr)) [cxO false t mode pad back k xs iv .n last',moX (cipV t k xs) md back st' 2,gnB st'.row st'.gone]):
  Con C N.ctx_Ctx_Final [.p (.k 0) 0] [cxO true t mode pad back k xs iv x last,moX (cipV t k xs) md back st 2,gnB st.row st.gone,x.b] (.ret (.t [.z n vr,i64 0])) [cxO false t mode pad back k xs iv .n last',moX (cipV t k xs) md back st' 2,gnB st'.row st'.gone,.dead]:=by
 have NE:=c_cxneed (t:=t) (mode:=mode) (pad:=pad) (md:=md) (back:=back) (k:=k) (xs:=xs) (iv:=iv) (last:=last) (st:=st) (x:=x)
 obtain⟨ch,row,g⟩:=st
 obtain⟨ch1,row1,g1⟩:=st'
 rcases hx with ⟨rfl,rfl,rfl⟩|⟨rfl,hH⟩
 ·rcases row with _|⟨a,r⟩<;>rcases row1 with _|⟨a1,r1⟩
  all_goals
   refine fd.ctx_Ctx_Final.d caughtOk ?_
   refine⟨⟨[(0,.p (.k 0) 0),(2,.p (.k 4) 0),(3,.p (.k 5) 0)],[_,_,_,_,.sc [.slice none 0 0],.sc [.int .i64 0]]⟩,4,5,by decide,⟨[.k 0,.k 1,.k 2,.k 3,.d 2 0,.d 3 0],⟨rfl,rfl,rfl,trivial⟩,⟨_,rfl,rfl⟩,⟨_,rfl,rfl⟩,⟨_,rfl,rfl⟩,⟨_,rfl,rfl⟩,⟨_,rfl,rfl⟩,⟨_,rfl,rfl⟩,trivial⟩,rfl,rfl,rfl,?_⟩
   refine⟨[.k 0,.k 1,.k 2,.k 3],_,_,_,_,NE,rfl,rfl,?_⟩
   refine⟨_,rfl,?_⟩
   refine⟨Za rfl,?_⟩
   refine⟨Za rfl,?_⟩
   refine⟨[.k 0,.k 1,.k 2],_,_,_,_,Con.args E (ys0:=[.p (.k 0) 0,nilv]) (.cons (.refl _) (.cons .nl .nil)),rfl,rfl,?_⟩
   refine⟨Za rfl,?_⟩
   refine⟨Za rfl,?_⟩
   refine⟨_,rfl,_,rfl,?_⟩
   refine⟨_,_,?_,.ret (.refl _),WkBs.refl _⟩
   exact⟨_,rfl,[.k 0,.k 1,.k 2,.k 3],rfl,⟨_,rfl,rfl⟩,⟨_,rfl,rfl⟩,⟨_,rfl,rfl⟩,⟨_,rfl,rfl⟩,trivial⟩
 ·rcases row with _|⟨a,r⟩<;>rcases row1 with _|⟨a1,r1⟩
  all_goals
   refine fd.ctx_Ctx_Final.d caughtOk ?_
   refine⟨⟨[(0,.p (.k 0) 0),(2,.p (.k 4) 0),(3,.p (.k 5) 0)],[_,_,_,_,.sc [.slice none 0 0],.sc [.int .i64 0]]⟩,4,5,by decide,⟨[.k 0,.k 1,.k 2,.k 3,.d 2 0,.d 3 0],⟨rfl,rfl,rfl,trivial⟩,⟨_,rfl,rfl⟩,⟨_,rfl,rfl⟩,⟨_,rfl,rfl⟩,⟨_,rfl,rfl⟩,⟨_,rfl,rfl⟩,⟨_,rfl,rfl⟩,trivial⟩,rfl,rfl,rfl,?_⟩
   refine⟨[.k 0,.k 1,.k 2,.k 3],_,_,_,_,NE,rfl,rfl,?_⟩
   refine⟨_,rfl,?_⟩
   refine⟨Za rfl,?_⟩
   refine⟨Za rfl,?_⟩
   refine⟨[.k 0,.k 1,.k 2],_,_,_,_,E,?_,rfl,?_⟩
   ·show[V.p (.k 0) 0,V.z H.length (sub (bv H) 0 H.length)]=_
    rw[bv_all rfl,hH]
   refine⟨Za rfl,?_⟩
   refine⟨Za rfl,?_⟩
   refine⟨_,rfl,_,rfl,?_⟩
   refine⟨_,_,?_,.ret (.refl _),WkBs.refl _⟩
   exact⟨_,rfl,[.k 0,.k 1,.k 2,.k 3],rfl,⟨_,rfl,rfl⟩,⟨_,rfl,rfl⟩,⟨_,rfl,rfl⟩,⟨_,rfl,rfl⟩,trivial⟩
theorem c_cxfinNp {t mode pad md:Int} {back:Bool} {k m n:Nat} {e:Int} {xs:List V} {iv last last' H:Bs} {st st':MS} {x:HK} {vr:List Value} (hx:x= .n∧m=0∧H=[]∨x= .o H∧H.length=m)
  (E:Con C N.ctx_Ctx_end [.p (.k 0) 0,.z m (bv H)] [cxO false t mode pad back k xs iv .n last,moX (cipV t k xs) md back st 2,gnB st.row st.gone] (.pan (.i tRef (i64 e))) [cxO false t mode pad back k xs iv .n last',moX (cipV t k xs) md back st' 2,gnB st'.row st'.gone]):
  Con C N.ctx_Ctx_Final [.p (.k 0) 0] [cxO true t mode pad back k xs iv x last,moX (cipV t k xs) md back st 2,gnB st.row st.gone,x.b] (.ret (.t [.z 0 [],i64 e])) [cxO false t mode pad back k xs iv .n last',moX (cipV t k xs) md back st' 2,gnB st'.row st'.gone,.dead]:=by
 have NE:=c_cxneed (t:=t) (mode:=mode) (pad:=pad) (md:=md) (back:=back) (k:=k) (xs:=xs) (iv:=iv) (last:=last) (st:=st) (x:=x)
 obtain⟨ch,row,g⟩:=st
 obtain⟨ch1,row1,g1⟩:=st'
 rcases hx with ⟨rfl,rfl,rfl⟩|⟨rfl,hH⟩
 ·rcases row with _|⟨a,r⟩<;>rcases row1 with _|⟨a1,r1⟩
  all_goals
   refine fd.ctx_Ctx_Final.d caughtOk ?_
   refine⟨⟨[(0,.p (.k 0) 0),(2,.p (.k 4) 0),(3,.p (.k 5) 0)],[_,_,_,_,.sc [.slice none 0 0],.sc [.int .i64 0]]⟩,4,5,by decide,⟨[.k 0,.k 1,.k 2,.k 3,.d 2 0,.d 3 0],⟨rfl,rfl,rfl,trivial⟩,⟨_,rfl,rfl⟩,⟨_,rfl,rfl⟩,⟨_,rfl,rfl⟩,⟨_,rfl,rfl⟩,⟨_,rfl,rfl⟩,⟨_,rfl,rfl⟩,trivial⟩,rfl,rfl,rfl,?_⟩
   refine⟨[.k 0,.k 1,.k 2,.k 3],_,_,_,_,NE,rfl,rfl,?_⟩
   refine⟨_,rfl,?_⟩
   refine⟨Za rfl,?_⟩
   refine⟨Za rfl,?_⟩
   refine⟨[.k 0,.k 1,.k 2],_,_,_,_,Con.args E (ys0:=[.p (.k 0) 0,nilv]) (.cons (.refl _) (.cons .nl .nil)),rfl,rfl,?_⟩
   refine⟨_,rfl,_,rfl,?_⟩
   refine⟨_,_,?_,.ret (.t (.cons .nl (.cons (.refl _) .nil))),WkBs.refl _⟩
   exact⟨_,rfl,[.k 0,.k 1,.k 2,.k 3],rfl,⟨_,rfl,rfl⟩,⟨_,rfl,rfl⟩,⟨_,rfl,rfl⟩,⟨_,rfl,rfl⟩,trivial⟩
 ·rcases row with _|⟨a,r⟩<;>rcases row1 with _|⟨a1,r1⟩
  all_goals
   refine fd.ctx_Ctx_Final.d caughtOk ?_
   refine⟨⟨[(0,.p (.k 0) 0),(2,.p (.k 4) 0),(3,.p (.k 5) 0)],[_,_,_,_,.sc [.slice none 0 0],.sc [.int .i64 0]]⟩,4,5,by decide,⟨[.k 0,.k 1,.k 2,.k 3,.d 2 0,.d 3 0],⟨rfl,rfl,rfl,trivial⟩,⟨_,rfl,rfl⟩,⟨_,rfl,rfl⟩,⟨_,rfl,rfl⟩,⟨_,rfl,rfl⟩,⟨_,rfl,rfl⟩,⟨_,rfl,rfl⟩,trivial⟩,rfl,rfl,rfl,?_⟩
   refine⟨[.k 0,.k 1,.k 2,.k 3],_,_,_,_,NE,rfl,rfl,?_⟩
   refine⟨_,rfl,?_⟩
   refine⟨Za rfl,?_⟩
   refine⟨Za rfl,?_⟩
   refine⟨[.k 0,.k 1,.k 2],_,_,_,_,E,?_,rfl,?_⟩
   ·show[V.p (.k 0) 0,V.z H.length (sub (bv H) 0 H.length)]=_
    rw[bv_all rfl,hH]
   refine⟨_,rfl,_,rfl,?_⟩
   refine⟨_,_,?_,.ret (.t (.cons .nl (.cons (.refl _) .nil))),WkBs.refl _⟩
   exact⟨_,rfl,[.k 0,.k 1,.k 2,.k 3],rfl,⟨_,rfl,rfl⟩,⟨_,rfl,rfl⟩,⟨_,rfl,rfl⟩,⟨_,rfl,rfl⟩,trivial⟩
abbrev cS (t:Int) (key:Bs) (s:Nat) (mode pad:Int) (back:Bool) (iv M:Bs):MS:=(cxSt (cF t key false) (cF t key true) s mode pad back iv M).2
abbrev cT (t:Int) (key:Bs) (s:Nat) (mode pad:Int) (back:Bool) (iv M:Bs):Bs:=(cxSt (cF t key false) (cF t key true) s mode pad back iv M).1
abbrev cL (t:Int) (key:Bs) (s:Nat) (mode pad:Int) (back:Bool) (iv M:Bs):Bs:=cxLa (cF t key false) (cF t key true) s mode pad back iv M
theorem cS_ok {t key s k xs rs} (h:Ciph t key s k xs rs) {mode pad:Int} {back:Bool} {iv M:Bs} (ok:shOk s mode pad iv):MK s (cxMd mode) (cS t key s mode pad back iv M):=by
 have hs:=h.s_le
 have K0:MK s (cxMd mode) ⟨iv,[],[]⟩:=MK.new (cxMd_ok ok).1 (by
  have:=(cxMd_ok ok).2
  by_cases h1:cxMd mode=1
  ·exact .inl h1
  ·rw[if_neg h1]at this;exact .inr this)
 exact K0.step h.ci (by omega)
theorem cL_len {t key s k xs rs} (h:Ciph t key s k xs rs) {mode pad:Int} {back:Bool} {iv M:Bs} (ok:shOk s mode pad iv) (h7:7≤mode):(cL t key s mode pad back iv M).length=s:=by
 have hs:=h.s_le
 have hT:=cx_told (back:=back) (M:=M) h.ci (by omega) ok
 obtain⟨f1,f2⟩:=cxFr_ok (back:=back) (by omega) ok M.length
 have lt:(M.take (cxFr s mode pad back M.length)).length=cxFr s mode pad back M.length:=by rw[Zg];omega
 unfold cL cxLa cxLast
 rw[lt]
 by_cases hn:s≤cxFr s mode pad back M.length
 ·rw[if_pos ⟨h7,hn⟩,Ze]
  split
  ·rw[lt];omega
  ·rw[hT];omega
 ·rw[if_neg (fun hh=>hn hh.2)]
  have:=ok.2.2.2
  rw[if_neg (by omega)]at this
  exact this
theorem cS_0 {t key s} {mode pad:Int} {back:Bool} {iv:Bs} (hs:0<s) (ok:shOk s mode pad iv):cxSt (cF t key false) (cF t key true) s mode pad back iv []=([],⟨iv,[],[]⟩):=by
 unfold cxSt
 rw[Jb,moStep_nil]
theorem cS_0' {t key s} {mode pad:Int} {back:Bool} {iv:Bs} (hs:0<s) (ok:shOk s mode pad iv):cS t key s mode pad back iv []=⟨iv,[],[]⟩:=congrArg Prod.snd (cS_0 hs ok)
theorem cL_0 {t key s} {mode pad:Int} {back:Bool} {iv:Bs} (hs:0<s) (ok:shOk s mode pad iv):cL t key s mode pad back iv []=iv:=by
 unfold cL cxLa cxLast
 rw[Jb,if_neg (by simp;omega)]
theorem cxH_0 {s:Nat} {mode pad:Int} {back:Bool}:cxH s mode pad back []=[]:=by unfold cxH;rw[List.drop_nil]
theorem cx_up {t key s k xs rs} (h:Ciph t key s k xs rs) {mode pad:Int} {back:Bool} {iv M b:Bs} {m:Nat} {x:HK} (ok:shOk s mode pad iv) (hx:x= .n∧cxH s mode pad back M=[]∨x= .o (cxH s mode pad back M)) (hb:b.length=m) (hL:M.length+m≤100000):
  ∃(n:Nat) (o:Bs),o.length=n∧cxFr s mode pad back (M++b).length=cxFr s mode pad back M.length+n∧cT t key s mode pad back iv (M++b)=cT t key s mode pad back iv M++o∧
  (Con C N.ctx_Ctx_Update [.p (.k 0) 0,.z m (bv b)] [cxO true t mode pad back k xs iv x (cL t key s mode pad back iv M),moX (cipV t k xs) (cxMd mode) back (cS t key s mode pad back iv M) 2,gnB (cS t key s mode pad back iv M).row (cS t key s mode pad back iv M).gone,x.b]
   (.ret (.t [.z n (bv o),i64 0]))
   [cxX true true t mode pad back (cipV t k xs) (.z iv.length (bv iv)) (.p (.k 1) 0) (.o 1 (.k 5) 0 (cxH s mode pad back (M++b)).length) (.z (cL t key s mode pad back iv (M++b)).length (bv (cL t key s mode pad back iv (M++b)))),
    moX (cipV t k xs) (cxMd mode) back (cS t key s mode pad back iv (M++b)) 4,.dead,.dead,gnB (cS t key s mode pad back iv (M++b)).row (cS t key s mode pad back iv (M++b)).gone,.sc (bv (cxH s mode pad back (M++b)))]∨
   (cS t key s mode pad back iv M).row≠[]∧Con C N.ctx_Ctx_Update [.p (.k 0) 0,.z m (bv b)] [cxO true t mode pad back k xs iv x (cL t key s mode pad back iv M),moX (cipV t k xs) (cxMd mode) back (cS t key s mode pad back iv M) 2,gnB (cS t key s mode pad back iv M).row (cS t key s mode pad back iv M).gone,x.b]
   (.ret (.t [.z n (bv o),i64 0]))
   [cxX true true t mode pad back (cipV t k xs) (.z iv.length (bv iv)) (.p (.k 1) 0) (.o 1 (.k 4) 0 (cxH s mode pad back (M++b)).length) (.z (cL t key s mode pad back iv (M++b)).length (bv (cL t key s mode pad back iv (M++b)))),
    moX (cipV t k xs) (cxMd mode) back (cS t key s mode pad back iv (M++b)) 2,gnB (cS t key s mode pad back iv (M++b)).row (cS t key s mode pad back iv (M++b)).gone,.dead,.sc (bv (cxH s mode pad back (M++b)))]):=by
 have hs:=h.s_le
 have K:=cS_ok h (back:=back) (M:=M) ok
 have hm9:mode≤9:=ok.1.2
 have hxl:x.l=cxH s mode pad back M:=by
  rcases hx with ⟨rfl,e⟩|rfl
  ·exact e.symm
  ·rfl
 have hxo:x= .n∨∃H,x= .o H:=by
  rcases hx with ⟨rfl,e⟩|rfl
  ·exact .inl rfl
  ·exact .inr ⟨_,rfl⟩
 obtain⟨a,ha⟩:∃a,a=cxFr s mode pad back ((cxH s mode pad back M).length+b.length):=⟨_,rfl⟩
 obtain⟨u1,u2,u3⟩:=cx_upd (E:=cF t key false) (D:=cF t key true) (iv:=iv) (M:=M) (b:=b) h.ci (by omega) ok ha
 have hF:cxFr s mode pad back (M++b).length=cxFr s mode pad back M.length+a:=by
  rw[Zd,cxFr_add (by omega) ok,ha,cxH_len]
 obtain⟨f1,f2⟩:=cxFr_ok (back:=back) (by omega) ok ((cxH s mode pad back M).length+b.length)
 rw[←ha]at f1 f2
 have hHl:=cxH_len (n:=s) (mode:=mode) (pad:=pad) (back:=back) M
 have l0:((cxH s mode pad back M++b).take a).length=a:=by rw[Zg,Zd];omega
 have lo:(moStep (cF t key false) (cF t key true) s (cxMd mode) back (cS t key s mode pad back iv M) ((cxH s mode pad back M++b).take a)).1.length=a:=by
  rw[moStep_len h.ci K.ok (by rw[l0];exact f2),l0]
 have eH:(cxH s mode pad back M).length+m-a=(cxH s mode pad back (M++b)).length:=by rw[←u3,Ze,Zd,hb]
 refine⟨a,(moStep (cF t key false) (cF t key true) s (cxMd mode) back (cS t key s mode pad back iv M) ((cxH s mode pad back M++b).take a)).1,lo,hF,by rw[show cT t key s mode pad back iv (M++b)=(cxSt (cF t key false) (cF t key true) s mode pad back iv (M++b)).1 from rfl,u1],?_⟩
 have e1:cS t key s mode pad back iv (M++b)=(moStep (cF t key false) (cF t key true) s (cxMd mode) back (cS t key s mode pad back iv M) ((cxH s mode pad back M++b).take a)).2:=by
  rw[show cS t key s mode pad back iv (M++b)=(cxSt (cF t key false) (cF t key true) s mode pad back iv (M++b)).2 from rfl,u1]
 rw[e1,show cL t key s mode pad back iv (M++b)=cxLa (cF t key false) (cF t key true) s mode pad back iv (M++b) from rfl,←u2,←u3]
 by_cases hne:0<a∨(cS t key s mode pad back iv M).row=[]
 ·left
  have:=c_cxupd h (mode:=mode) (pad:=pad) (back:=back) (iv:=iv) (last:=cL t key s mode pad back iv M) (st:=cS t key s mode pad back iv M) (x:=x) (L:=(cxH s mode pad back M).length+m) (at':=a) hxo hb (by rw[hxl]) (by omega) K hm9 rfl (by rw[ha,hb];rfl) hne
  rw[hxl]at this
  rw[Ze,Zd,hb]
  exact this
 ·right
  have hrow:(cS t key s mode pad back iv M).row≠[]:=fun hh=>hne (.inr hh)
  have h3:3≤cxMd mode:=by
   have h1:=K.ok.m
   rcases Nat.lt_or_ge 0 1 with _|_
   ·by_cases h2:3≤cxMd mode
    ·exact h2
    ·exact absurd (K.ok.blk (by omega)) hrow
   ·omega
  have g1:moGrain s (cxMd mode)=1:=if_neg (by omega)
  have a0:a=0:=by omega
  have hL0:(cxH s mode pad back M).length+m=0:=by
   have hz:cxFr s mode pad back ((cxH s mode pad back M).length+b.length)=(cxH s mode pad back M).length+b.length:=by
    unfold cxFr cxN cxMost
    rw[g1,if_pos h3];simp
   rw[←ha,hb]at hz
   omega
  have:=c_cxupd0 h (mode:=mode) (pad:=pad) (back:=back) (iv:=iv) (last:=cL t key s mode pad back iv M) (st:=cS t key s mode pad back iv M) (x:=x) (L:=(cxH s mode pad back M).length+m) (at':=a) hxo hb (by rw[hxl]) hL0 h3 K hm9 rfl (by rw[ha,hb];rfl)
  have hHb:cxH s mode pad back M++b=[]:=Zf (by rw[Zd,hb];exact hL0)
  subst a0
  rw[hHb,Jb,moStep_nil,List.drop_nil]
  have eL:cxLast s mode back [] [] (cL t key s mode pad back iv M)=cL t key s mode pad back iv M:=by unfold cxLast;rw[if_neg (by simp;omega)]
  rw[eL]
  exact⟨hrow,this⟩
abbrev cxC (t mode pad:Int) (back:Bool) (k:Nat) (xs:List V) (iv last:Bs):B:=cxX true false t mode pad back (cipV t k xs) (.z iv.length (bv iv)) (.p (.k 1) 0) nilv (.z last.length (bv last))
theorem c_cxheldC {t mode pad:Int} {back:Bool} {k:Nat} {xs:List V} {iv last:Bs}:Con C N.ctx_Ctx_Held [.p (.k 0) 0] [cxC t mode pad back k xs iv last,.dead] (.ret (i64 0)) [cxC t mode pad back k xs iv last,.dead]:=by
 refine fd.ctx_Ctx_Held.c ?_
 refine⟨_,rfl,?_⟩
 exact⟨_,rfl,[.k 0,.k 1],rfl,⟨_,rfl,rfl⟩,⟨_,rfl,rfl⟩,trivial⟩
theorem c_cxneedC {t mode pad:Int} {back:Bool} {k:Nat} {xs:List V} {iv last:Bs}:Con C N.ctx_Ctx_need [.p (.k 0) 0] [cxC t mode pad back k xs iv last,.dead] (.pan (.i tRef (i64 6))) [cxC t mode pad back k xs iv last,.dead]:=by
 refine fd.ctx_Ctx_need.c ?_
 refine⟨_,rfl,?_⟩
 refine⟨[],_,_,_,_,c_refuse (e:=6) (by decide),rfl,rfl,?_⟩
 exact⟨_,rfl,[.k 0,.k 1],rfl,⟨_,rfl,rfl⟩,⟨_,rfl,rfl⟩,trivial⟩
theorem c_cxupdC {t mode pad:Int} {back:Bool} {k m:Nat} {xs:List V} {iv last:Bs} {vb:List Value}:Con C N.ctx_Ctx_Update [.p (.k 0) 0,.z m vb] [cxC t mode pad back k xs iv last,.dead] (.ret (.t [.z 0 [],i64 6])) [cxC t mode pad back k xs iv last,.dead]:=by
 refine fd.ctx_Ctx_Update.d caughtOk ?_
 refine⟨⟨[(0,.p (.k 0) 0),(1,.z m vb),(4,.p (.k 2) 0),(5,.p (.k 3) 0)],[_,_,.sc [.slice none 0 0],.sc [.int .i64 0]]⟩,2,3,by decide,⟨[.k 0,.k 1,.d 4 0,.d 5 0],⟨rfl,rfl,rfl,rfl,trivial⟩,⟨_,rfl,rfl⟩,⟨_,rfl,rfl⟩,⟨_,rfl,rfl⟩,⟨_,rfl,rfl⟩,trivial⟩,rfl,rfl,rfl,?_⟩
 refine⟨0,Unit,fun _=>⟨[],[]⟩,fun _=>False,fun _=>0,?_,fun _ h=>h.elim⟩
 refine⟨[.k 0,.k 1],_,_,_,_,c_cxneedC,rfl,rfl,?_⟩
 refine⟨_,rfl,_,rfl,?_⟩
 refine⟨_,_,?_,.ret (.t (.cons .nl (.cons (.refl _) .nil))),WkBs.refl _⟩
 exact⟨_,rfl,[.k 0,.k 1],rfl,⟨_,rfl,rfl⟩,⟨_,rfl,rfl⟩,trivial⟩
theorem c_cxfinC {t mode pad:Int} {back:Bool} {k:Nat} {xs:List V} {iv last:Bs}:Con C N.ctx_Ctx_Final [.p (.k 0) 0] [cxC t mode pad back k xs iv last,.dead] (.ret (.t [.z 0 [],i64 6])) [cxC t mode pad back k xs iv last,.dead]:=by
 refine fd.ctx_Ctx_Final.d caughtOk ?_
 refine⟨⟨[(0,.p (.k 0) 0),(2,.p (.k 2) 0),(3,.p (.k 3) 0)],[_,_,.sc [.slice none 0 0],.sc [.int .i64 0]]⟩,2,3,by decide,⟨[.k 0,.k 1,.d 2 0,.d 3 0],⟨rfl,rfl,rfl,trivial⟩,⟨_,rfl,rfl⟩,⟨_,rfl,rfl⟩,⟨_,rfl,rfl⟩,⟨_,rfl,rfl⟩,trivial⟩,rfl,rfl,rfl,?_⟩
 refine⟨[.k 0,.k 1],_,_,_,_,c_cxneedC,rfl,rfl,?_⟩
 refine⟨_,rfl,_,rfl,?_⟩
 refine⟨_,_,?_,.ret (.t (.cons .nl (.cons (.refl _) .nil))),WkBs.refl _⟩
 exact⟨_,rfl,[.k 0,.k 1],rfl,⟨_,rfl,rfl⟩,⟨_,rfl,rfl⟩,trivial⟩
theorem cx_fi {t key s k xs rs} (h:Ciph t key s k xs rs) {mode pad:Int} {back:Bool} {iv M:Bs} {x:HK} {r:Bs×Int} (ok:shOk s mode pad iv) (hx:x= .n∧cxH s mode pad back M=[]∨x= .o (cxH s mode pad back M)) (hL:M.length≤100000)
  (hr:r=cxEnd (cF t key false) (cF t key true) s mode pad back (cS t key s mode pad back iv M) (cL t key s mode pad back iv M) (cxH s mode pad back M)):
  r.1.length≤2*s∧∃last',Con C N.ctx_Ctx_Final [.p (.k 0) 0] [cxO true t mode pad back k xs iv x (cL t key s mode pad back iv M),moX (cipV t k xs) (cxMd mode) back (cS t key s mode pad back iv M) 2,gnB (cS t key s mode pad back iv M).row (cS t key s mode pad back iv M).gone,x.b]
   (.ret (.t [.z r.1.length (bv r.1),i64 r.2])) [cxC t mode pad back k xs iv last',.dead,.dead,.dead,.dead]:=by
 have hs:=h.s_le
 have K:=cS_ok h (back:=back) (M:=M) ok
 have hl:=cL_len h (back:=back) (M:=M) ok
 obtain⟨f1,f2⟩:=cxFr_ok (back:=back) (by omega) ok M.length
 have hHl:=cxH_len (n:=s) (mode:=mode) (pad:=pad) (back:=back) M
 obtain⟨g0,g1,g2⟩:=cx_grain (back:=back) (by omega) ok
 have hmost:(cxH s mode pad back M).length≤cxMost s (cxMd mode) mode pad back:=by
  rw[hHl]
  refine Zl fun hh=> ?_
  have:=(cxN_lt (most:=cxMost s (cxMd mode) mode pad back) (L:=M.length) (i:=cxN (moGrain s (cxMd mode)) (cxMost s (cxMd mode) mode pad back) M.length) g0).2 (by show _+cxFr s mode pad back M.length<_;omega)
  exact absurd this (Z3 _)
 have hHb:(cxH s mode pad back M).length≤100000:=by omega
 generalize hSt:cS t key s mode pad back iv M=st at*
 generalize hLa:cL t key s mode pad back iv M=last at*
 generalize cxH s mode pad back M=H at*
 have hx':x= .n∧H.length=0∧H=[]∨x= .o H∧H.length=H.length:=by
  rcases hx with ⟨e1,e2⟩|e1
  ·exact .inl ⟨e1,by rw[e2];rfl,e2⟩
  ·exact .inr ⟨e1,rfl⟩
 have fT:∀{n} {vr:List Value} {last' st'},Con C N.ctx_Ctx_end [.p (.k 0) 0,.z H.length (bv H)] [cxO false t mode pad back k xs iv .n last,moX (cipV t k xs) (cxMd mode) back st 2,gnB st.row st.gone] (.ret (.z n vr)) [cxO false t mode pad back k xs iv .n last',moX (cipV t k xs) (cxMd mode) back st' 3,.dead,gnB st'.row st'.gone]→
   ∃last',Con C N.ctx_Ctx_Final [.p (.k 0) 0] [cxO true t mode pad back k xs iv x last,moX (cipV t k xs) (cxMd mode) back st 2,gnB st.row st.gone,x.b] (.ret (.t [.z n vr,i64 0])) [cxC t mode pad back k xs iv last',.dead,.dead,.dead,.dead]:=
  fun E=>⟨_,(c_cxfinTr (e:=0) hx' E).fg (.keep (.drop (.drop (.drop (.drop .nil)))))⟩
 have fTp:∀{e last' st'},Con C N.ctx_Ctx_end [.p (.k 0) 0,.z H.length (bv H)] [cxO false t mode pad back k xs iv .n last,moX (cipV t k xs) (cxMd mode) back st 2,gnB st.row st.gone] (.pan (.i tRef (i64 e))) [cxO false t mode pad back k xs iv .n last',moX (cipV t k xs) (cxMd mode) back st' 3,.dead,gnB st'.row st'.gone]→
   ∃last',Con C N.ctx_Ctx_Final [.p (.k 0) 0] [cxO true t mode pad back k xs iv x last,moX (cipV t k xs) (cxMd mode) back st 2,gnB st.row st.gone,x.b] (.ret (.t [.z 0 [],i64 e])) [cxC t mode pad back k xs iv last',.dead,.dead,.dead,.dead]:=
  fun E=>⟨_,(c_cxfinTp (n:=0) (vr:=[]) hx' E).fg (.keep (.drop (.drop (.drop (.drop .nil)))))⟩
 have fN:∀{n} {vr:List Value} {last' st'},Con C N.ctx_Ctx_end [.p (.k 0) 0,.z H.length (bv H)] [cxO false t mode pad back k xs iv .n last,moX (cipV t k xs) (cxMd mode) back st 2,gnB st.row st.gone] (.ret (.z n vr)) [cxO false t mode pad back k xs iv .n last',moX (cipV t k xs) (cxMd mode) back st' 2,gnB st'.row st'.gone]→
   ∃last',Con C N.ctx_Ctx_Final [.p (.k 0) 0] [cxO true t mode pad back k xs iv x last,moX (cipV t k xs) (cxMd mode) back st 2,gnB st.row st.gone,x.b] (.ret (.t [.z n vr,i64 0])) [cxC t mode pad back k xs iv last',.dead,.dead,.dead,.dead]:=
  fun E=>⟨_,(c_cxfinNr (e:=0) hx' E).fg (.keep (.drop (.drop (.drop (.dd .nil)))))⟩
 have fNp:∀{e last' st'},Con C N.ctx_Ctx_end [.p (.k 0) 0,.z H.length (bv H)] [cxO false t mode pad back k xs iv .n last,moX (cipV t k xs) (cxMd mode) back st 2,gnB st.row st.gone] (.pan (.i tRef (i64 e))) [cxO false t mode pad back k xs iv .n last',moX (cipV t k xs) (cxMd mode) back st' 2,gnB st'.row st'.gone]→
   ∃last',Con C N.ctx_Ctx_Final [.p (.k 0) 0] [cxO true t mode pad back k xs iv x last,moX (cipV t k xs) (cxMd mode) back st 2,gnB st.row st.gone,x.b] (.ret (.t [.z 0 [],i64 e])) [cxC t mode pad back k xs iv last',.dead,.dead,.dead,.dead]:=
  fun E=>⟨_,(c_cxfinNp (n:=0) (vr:=[]) hx' E).fg (.keep (.drop (.drop (.drop (.dd .nil)))))⟩
 unfold cxEnd at hr
 by_cases h7:7≤mode
 ·have e2:cxMd mode=2:=if_pos h7
  have hmo:H.length≤2*s:=by unfold cxMost at hmost;rw[e2,if_neg (by decide),if_pos h7]at hmost;exact hmost
  rw[if_pos h7]at hr
  by_cases hsm:H.length<s
  ·rw[if_pos hsm]at hr
   subst hr
   exact⟨Zk _,fNp (c_cxend_st7 h (hl h7) rfl ⟨h7,ok.1.2⟩ hsm)⟩
  ·rw[if_neg hsm]at hr
   subst hr
   have ll:(stT (cF t key false) (cF t key true) s mode back last H).length=H.length:=stT_len h.ci (hl h7) (by omega) hmo
   refine⟨by show(stT (cF t key false) (cF t key true) s mode back last H).length≤_;rw[ll];exact hmo,?_⟩
   have:=fN (c_cxend_st h (pad:=pad) (md:=cxMd mode) (back:=back) (iv:=iv) (st:=st) (hl h7) rfl ⟨h7,ok.1.2⟩ (by omega) hmo)
   rw[←ll]at this
   exact this
 ·have e2:cxMd mode=mode:=if_neg h7
  rw[if_neg h7]at hr
  by_cases h4:pad=4
  ·rw[if_pos h4]at hr
   by_cases hz:H.length%moGrain s (cxMd mode)=0
   ·rw[if_pos hz]at hr
    have lo:(moStep (cF t key false) (cF t key true) s (cxMd mode) back st H).1.length=H.length:=moStep_len h.ci K.ok hz
    have hb2:H.length≤2*s:=by
     unfold cxMost at hmost
     rw[if_neg h7]at hmost
     split at hmost
     ·omega
     ·split at hmost<;>omega
    subst hr
    refine⟨by show(moStep (cF t key false) (cF t key true) s (cxMd mode) back st H).1.length≤_;rw[lo];exact hb2,?_⟩
    by_cases hne:0<H.length∨st.row=[]
    ·have:=fT (c_cxend_n h (mode:=mode) (pad:=pad) (back:=back) (iv:=iv) (last:=last) rfl hHb K (by omega) h4 hz hne)
     rw[←lo]at this
     rw[lo]at this ⊢
     exact this
    ·have hrow:st.row≠[]:=fun hh=>hne (.inr hh)
     have h3:3≤cxMd mode:=by
      have h1:=K.ok.m
      by_cases h2:3≤cxMd mode
      ·exact h2
      ·exact absurd (K.ok.blk (by omega)) hrow
     have h0:H.length=0:=by omega
     have:=fN (c_cxend_n0 h (H:=H) (mode:=mode) (pad:=pad) (back:=back) (iv:=iv) (last:=last) (st:=st) h0 h3 (by omega) h4)
     obtain rfl:=Zf h0
     rw[moStep_nil]
     exact this
   ·rw[if_neg hz]at hr
    subst hr
    exact⟨Zk _,fNp (c_cxend_n7 h K (by omega) h4 hz)⟩
  ·have hm2:mode≤2:=ok.2.2.1.resolve_left h4
   have hp:pad=1∨pad=2∨pad=3:=by have:=ok.2.1;omega
   have gn:moGrain s (cxMd mode)=s:=if_pos (by have:=ok.1;omega)
   rw[if_neg h4]at hr
   have hmo:H.length≤(if back=true then s else s-1):=by
    unfold cxMost at hmost
    rw[if_neg (by omega),if_neg h7]at hmost
    cases back
    ·rw[if_neg (by simp)]at hmost;exact hmost
    ·rw[if_pos ⟨h4,rfl⟩]at hmost;exact hmost
   cases back
   ·rw[if_pos rfl]at hr
    rw[if_neg (by decide)]at hmo
    have lp:(pdAdd pad s H).length=s:=pdAdd_len (by omega)
    have lo:(moStep (cF t key false) (cF t key true) s (cxMd mode) false st (pdAdd pad s H)).1.length=s:=by rw[moStep_len h.ci K.ok (by rw[lp,gn,Zm]),lp]
    subst hr
    refine⟨by show(moStep (cF t key false) (cF t key true) s (cxMd mode) false st (pdAdd pad s H)).1.length≤_;rw[lo];omega,?_⟩
    have:=fT (c_cxend_p h (m:=H.length) (mode:=mode) (pad:=pad) (back:=false) (iv:=iv) (last:=last) rfl rfl (by omega) K (by omega) hp gn)
    rw[←lo]at this
    rw[lo]at this ⊢
    exact this
   ·rw[if_neg (by decide)]at hr
    by_cases hsz:H.length=s
    ·rw[if_pos hsz]at hr
     have lo:(moStep (cF t key false) (cF t key true) s (cxMd mode) true st H).1.length=s:=by rw[moStep_len h.ci K.ok (by rw[hsz,gn,Zm]),hsz]
     by_cases h0:pdLong pad (moStep (cF t key false) (cF t key true) s (cxMd mode) true st H).1=0
     ·rw[if_pos h0]at hr
      subst hr
      have:=c_cxend_b8 h (m:=0) (mode:=mode) (pad:=pad) (back:=true) (iv:=iv) (last:=last) rfl hsz K (by omega) hp gn h0
      exact⟨Zk _,fTp (by rw[hsz];exact this)⟩
     ·rw[if_neg h0]at hr
      subst hr
      have ls:(pdStrip pad (moStep (cF t key false) (cF t key true) s (cxMd mode) true st H).1).length=s-pdLong pad (moStep (cF t key false) (cF t key true) s (cxMd mode) true st H).1:=by
       unfold pdStrip;rw[Zg,lo];omega
      refine⟨by show(pdStrip pad (moStep (cF t key false) (cF t key true) s (cxMd mode) true st H).1).length≤_;rw[ls];omega,?_⟩
      have:=c_cxend_bk h (m:=0) (mode:=mode) (pad:=pad) (back:=true) (iv:=iv) (last:=last) rfl hsz K (by omega) hp gn h0
      rw[←ls]at this
      exact fT (by rw[hsz];exact this)
    ·rw[if_neg hsz]at hr
     subst hr
     exact⟨Zk _,fNp (c_cxend_b7 h rfl rfl hHb hsz (by omega) hp)⟩
theorem Mt_eq {m:Nat} {s:S} {d d':D} (e:d=d') (h:Mt m s d'):Mt m s d:=e▸h
theorem c_cxstolenC {t mode pad:Int} {back:Bool} {k:Nat} {xs:List V} {iv last:Bs} (hm:mode≤9):Con C N.ctx_Ctx_stolen [.p (.k 0) 0] [cxC t mode pad back k xs iv last,.dead] (.ret (bool (decide (7≤mode)))) [cxC t mode pad back k xs iv last,.dead]:=by
 refine fd.ctx_Ctx_stolen.c ?_
 refine⟨_,rfl,?_⟩
 refine spl_d (fun h7=> ?_) (fun h7=> ?_)
 ·refine⟨_,rfl,?_⟩
  refine⟨_,rfl,[.k 0,.k 1],?_,⟨_,rfl,rfl⟩,⟨_,rfl,rfl⟩,trivial⟩
  exact congrArg bool (by rw[decide_eq_true hm,decide_eq_true h7])
 ·refine⟨_,rfl,[.k 0,.k 1],?_,⟨_,rfl,rfl⟩,⟨_,rfl,rfl⟩,trivial⟩
  exact congrArg bool (by rw[decide_eq_false h7])
theorem c_cxbeginC {t key s k xs rs} (h:Ciph t key s k xs rs) {mode pad:Int} {back:Bool} {iv last0:Bs} (ok:shOk s mode pad iv):
  Con C N.ctx_Ctx_begin [.p (.k 0) 0] [cxC t mode pad back k xs iv last0,.dead] (.ret (.t []))
   [cxX true true t mode pad back (cipV t k xs) (.z iv.length (bv iv)) (.p (.k 2) 0) nilv (.z iv.length (bv iv)),.dead,moX (cipV t k xs) (cxMd mode) back ⟨iv,[],[]⟩ 3,.dead,.dead]:=by
 have hs:=h.s_le
 obtain⟨m1,hiv⟩:=cxMd_ok ok
 have T0:=c_new_m h (mode:=cxMd mode) (back:=back) (i:=1) (vi:=bv iv) (iv:=iv) rfl rfl m1 hiv
 have hl16:iv.length≤16:=by rw[hiv];split<;>omega
 have S:=c_cxstolenC (t:=t) (mode:=mode) (pad:=pad) (back:=back) (k:=k) (xs:=xs) (iv:=iv) (last:=last0) ok.1.2
 refine fd.ctx_Ctx_begin.c ?_
 refine⟨_,rfl,?_⟩
 refine⟨[.k 0,.k 1],_,_,_,_,S,rfl,rfl,?_⟩
 refine spl_d (fun h7=> ?_) (fun h7=> ?_)
 all_goals
  first
   |rw[show cxMd mode=2 from if_pos h7]at T0 ⊢
   |rw[show cxMd mode=mode from if_neg h7]at T0 ⊢
  refine⟨_,rfl,?_⟩
  refine⟨_,rfl,?_⟩
  refine⟨_,rfl,?_⟩
  refine⟨[],_,_,_,_,T0,rfl,rfl,?_⟩
  refine⟨Za rfl,?_⟩
  refine⟨_,rfl,?_⟩
  refine⟨[],_,_,_,_,c_cloneZ (l:=iv) rfl rfl (by omega),rfl,rfl,?_⟩
  refine⟨Za rfl,?_⟩
  refine⟨Za rfl,?_⟩
  refine⟨Za rfl,?_⟩
  exact⟨_,rfl,[.k 0,.k 1,.d 26 0,.d 26 1,.d 26 2],rfl,⟨_,rfl,rfl⟩,⟨_,rfl,rfl⟩,⟨_,rfl,rfl⟩,⟨_,rfl,rfl⟩,⟨_,rfl,rfl⟩,trivial⟩
theorem c_cxresetC {t key s k xs rs} (h:Ciph t key s k xs rs) {mode pad:Int} {back:Bool} {iv last0:Bs} (ok:shOk s mode pad iv):
  Con C N.ctx_Ctx_Reset [.p (.k 0) 0] [cxC t mode pad back k xs iv last0,.dead] (.ret (i64 0))
   [cxX true true t mode pad back (cipV t k xs) (.z iv.length (bv iv)) (.p (.k 2) 0) nilv (.z iv.length (bv iv)),.dead,moX (cipV t k xs) (cxMd mode) back ⟨iv,[],[]⟩ 3,.dead,.dead]:=by
 refine fd.ctx_Ctx_Reset.c ?_
 refine⟨_,rfl,?_⟩
 refine⟨[.k 0,.k 1],_,_,_,_,c_cxbeginC h ok,rfl,rfl,?_⟩
 exact⟨_,rfl,[.k 0,.k 1,.d 9 2,.d 9 3,.d 9 4],rfl,⟨_,rfl,rfl⟩,⟨_,rfl,rfl⟩,⟨_,rfl,rfl⟩,⟨_,rfl,rfl⟩,⟨_,rfl,rfl⟩,trivial⟩
theorem cx_held {n:Nat} {mode pad:Int} {iv:Bs} {back:Bool} (hn:0<n) (ok:shOk n mode pad iv) (L:Nat):
  L-cxFr n mode pad back L≤cxMost n (cxMd mode) mode pad back∧(cxFr n mode pad back L=0∨cxMost n (cxMd mode) mode pad back+1≤L-cxFr n mode pad back L+moGrain n (cxMd mode)):=by
 obtain⟨g0,g1,g2⟩:=cx_grain (back:=back) hn ok
 obtain⟨f1,f2⟩:=cxFr_ok (back:=back) hn ok L
 unfold cxFr at*
 generalize moGrain n (cxMd mode)=g at*
 generalize cxMost n (cxMd mode) mode pad back=mo at*
 refine⟨Zl fun hh=> ?_,?_⟩
 ·have:=(cxN_lt (most:=mo) (L:=L) (i:=cxN g mo L) g0).2 (by omega)
  exact absurd this (Z3 _)
 ·by_cases h:cxN g mo L=0
  ·exact .inl (by rw[h,Je])
  ·obtain⟨k,hk⟩:∃k,cxN g mo L=k+1:=⟨cxN g mo L-1,by omega⟩
   have:=(cxN_lt (most:=mo) (L:=L) (i:=k) g0).1 (by omega)
   rw[hk,Zo]at*
   exact .inr (by omega)
theorem hx_round {s L m L' F F' n mo g:Nat} (hL:L'=L+m) (hF:F'=F+n) (f1:F≤L) (f1':F'≤L') (h1:L-F≤mo) (h2:F'=0∨mo+1≤L'-F'+g) (hg:g≤s):
  n≤m+s∧¬(((L'-F':Nat):Int)<(if (mo:Int)-s+1<(L':Int)then (mo:Int)-s+1 else (L':Int))):=by
 refine⟨by omega,?_⟩
 split<;>omega
structure Cf where
 t:Int
 mode:Int
 pad:Int
 back:Bool
 key:Bs
 iv:Bs
inductive CX where
 |nw
 |op (c:Cf) (m:Option (Bs))
 |cl (c:Cf)
structure Cl where
 kind:Int
 c:Cf
 inp:Bs
structure To where
 out:Bs
 e:Int
 held:Nat
noncomputable def Cf.s (c:Cf):Nat:=(cSize c.t).toNat
noncomputable def Cf.err (c:Cf):Int:=shErr c.t c.mode c.pad c.s c.key.length c.iv.length
noncomputable def cip (t:Int) (key:Bs):Nat×List V:=open Classical in if h:∃p:Nat×List V,∃rs,Ciph t key (cSize t).toNat p.1 p.2 rs then Classical.choose h else (0,[])
theorem cip_ok {t:Int} {key:Bs} {s k:Nat} {xs rs:List V} (h:Ciph t key s k xs rs):∃rs,Ciph t key (cSize t).toNat (cip t key).1 (cip t key).2 rs:=by
 have h0:∃p:Nat×List V,∃rs,Ciph t key (cSize t).toNat p.1 p.2 rs:=⟨(k,xs),rs,by rw[h.hs];exact h⟩
 unfold cip
 rw[dif_pos h0]
 exact Classical.choose_spec h0
noncomputable abbrev Cf.k (c:Cf):Nat:=(cip c.t c.key).1
noncomputable abbrev Cf.xs (c:Cf):List V:=(cip c.t c.key).2
noncomputable abbrev Cf.S (c:Cf) (M:Bs):MS:=cS c.t c.key c.s c.mode c.pad c.back c.iv M
noncomputable abbrev Cf.L (c:Cf) (M:Bs):Bs:=cL c.t c.key c.s c.mode c.pad c.back c.iv M
noncomputable abbrev Cf.T (c:Cf) (M:Bs):Bs:=cT c.t c.key c.s c.mode c.pad c.back c.iv M
noncomputable abbrev Cf.H (c:Cf) (M:Bs):Bs:=cxH c.s c.mode c.pad c.back M
noncomputable abbrev Cf.fin (c:Cf) (M:Bs):Bs×Int:=cxEnd (cF c.t c.key false) (cF c.t c.key true) c.s c.mode c.pad c.back (c.S M) (c.L M) (c.H M)
theorem Cf.ok {c:Cf} (h:c.err=0) (hk:c.key.length≤1000):(∃rs,Ciph c.t c.key c.s c.k c.xs rs)∧shOk c.s c.mode c.pad c.iv:=by
 rcases shot_cases c.t (key:=c.key) rfl hk c.mode c.pad c.back (iv:=c.iv) rfl with ⟨e,s,k,xs,rs,h,ok⟩|⟨he,P,Q⟩
 ·refine⟨cip_ok h,?_⟩
  have hs:c.s=s:=by unfold Cf.s;rw[h.hs];rfl
  rw[hs];exact ok
 ·exact absurd h he
noncomputable def rnHeld:CX→Nat
 | .op c (some M)=>(c.H M).length
 |_=>0
noncomputable def rnNext (σ:CX) (x:Cl):CX:=open Classical in
 if x.kind=1 then (if x.c.err=0 then .op x.c none else σ)
 else if x.kind=2 then (match σ with
  | .op c m=> .op c (some (m.getD []++x.inp))
  |σ=>σ)
 else if x.kind=3 then (match σ with
  | .op c _=> .cl c
  |σ=>σ)
 else if x.kind=4 then (match σ with
  | .nw=> .nw
  | .op c _=> .op c none
  | .cl c=> .op c none)
 else σ
noncomputable def rnOut (σ:CX) (x:Cl):Bs×Int:=
 if x.kind=1 then ([],x.c.err)
 else if x.kind=2 then (match σ with
  | .op c m=>((c.T (m.getD []++x.inp)).drop (c.T (m.getD [])).length,0)
  |_=>([],6))
 else if x.kind=3 then (match σ with
  | .op c m=>c.fin (m.getD [])
  |_=>([],6))
 else if x.kind=4 then (match σ with
  | .nw=>([],6)
  |_=>([],0))
 else ([],1)
noncomputable def rnTold (σ:CX) (x:Cl):To:=⟨(rnOut σ x).1,(rnOut σ x).2,rnHeld (rnNext σ x)⟩
noncomputable def rnAll:CX→List Cl→List To
 |_,[]=>[]
 |σ,x::l=>rnTold σ x::rnAll (rnNext σ x) l
noncomputable def rnSt (σ:CX) (l:List Cl):CX:=l.foldl rnNext σ
theorem rnAll_len:∀(l:List Cl) (σ:CX),(rnAll σ l).length=l.length
 |[],_=>rfl
 |x::l,σ=>congrArg (· +1) (rnAll_len l _)
theorem rnAll_app:∀(l m:List Cl) (σ:CX),rnAll σ (l++m)=rnAll σ l++rnAll (rnSt σ l) m
 |[],_,_=>rfl
 |x::l,m,σ=>congrArg (rnTold σ x:: ·) (rnAll_app l m _)
def CXok (n:Nat):CX→Prop
 | .nw=>True
 | .op c m=>c.err=0∧c.key.length≤1000∧(m.getD []).length≤n
 | .cl c=>c.err=0∧c.key.length≤1000
def ClOk (x:Cl):Prop:=(-9223372036854775808≤x.kind∧x.kind≤9223372036854775807)∧x.c.key.length≤1000∧x.c.iv.length≤1000∧x.inp.length≤1000
theorem CXok.next {n:Nat} {σ:CX} {x:Cl} (h:CXok n σ) (hx:ClOk x):CXok (n+x.inp.length) (rnNext σ x):=by
 have up:CXok (n+x.inp.length) σ:=by
  cases σ with
  |nw=>trivial
  |op c m=>exact⟨h.1,h.2.1,Zp h.2.2 (by omega)⟩
  |cl c=>exact h
 unfold rnNext
 by_cases h1:x.kind=1
 ·rw[if_pos h1]
  by_cases he:x.c.err=0
  ·rw[if_pos he];exact⟨he,hx.2.1,Zk _⟩
  ·rw[if_neg he];exact up
 ·rw[if_neg h1]
  by_cases h2:x.kind=2
  ·rw[if_pos h2]
   cases σ with
   |nw=>trivial
   |op c m=>exact⟨h.1,h.2.1,by show(m.getD []++x.inp).length≤_;rw[Zd];have:=h.2.2;omega⟩
   |cl c=>exact h
  ·rw[if_neg h2]
   by_cases h3:x.kind=3
   ·rw[if_pos h3]
    cases σ with
    |nw=>trivial
    |op c m=>exact⟨h.1,h.2.1⟩
    |cl c=>exact h
   ·rw[if_neg h3]
    by_cases h4:x.kind=4
    ·rw[if_pos h4]
     cases σ with
     |nw=>trivial
     |op c m=>exact⟨h.1,h.2.1,Zk _⟩
     |cl c=>exact⟨h.1,h.2,Zk _⟩
    ·rw[if_neg h4];exact up
theorem c_cxinitC {t key s k xs rs} (h:Ciph t key s k xs rs) {mode pad:Int} {back:Bool} {lk li:Nat} {iv:Bs} {t0 mode0 pad0:Int} {back0:Bool} {k0:Nat} {xs0:List V} {iv0 last0:Bs} (hk:key.length=lk) (hlk:lk≤1000) (hi:iv.length=li) (ok:shOk s mode pad iv):
  Con C N.ctx_Ctx_Init [.p (.k 0) 0,cfgV t mode pad back,.z lk (bv key),.z li (bv iv)] [cxC t0 mode0 pad0 back0 k0 xs0 iv0 last0,.dead] (.ret (i64 0))
   [cxX true true t mode pad back (cipV t k xs) (.z iv.length (bv iv)) (.p (.k 2) 0) nilv (.z iv.length (bv iv)),.dead,moX (cipV t k xs) (cxMd mode) back ⟨iv,[],[]⟩ 3,.dead,.dead]:=by
 have hs:=h.s_le
 obtain⟨m1,hiv⟩:=cxMd_ok ok
 have hl16:iv.length≤16:=by rw[hiv];split<;>omega
 have CK:=(check_both t hk hlk mode pad back hi).1
 rw[shErr_ok h hk hi ok]at CK
 subst hi
 have BG:=c_cxbeginC h (back:=back) (last0:=last0) ok
 refine fd.ctx_Ctx_Init.c ?_
 refine⟨[i64 t,i64 mode,i64 pad,bool back],rfl,rfl,?_⟩
 refine⟨[],_,_,_,_,CK,rfl,rfl,?_⟩
 refine⟨_,rfl,?_⟩
 refine⟨[],_,_,_,_,h.new' (n:=lk) hk rfl,rfl,rfl,?_⟩
 refine⟨Za rfl,?_⟩
 refine⟨[i64 t,i64 mode,i64 pad,bool back],rfl,rfl,?_⟩
 refine⟨[],_,_,_,_,c_cloneZ (l:=iv) rfl rfl (by omega),rfl,rfl,?_⟩
 refine⟨Za rfl,?_⟩
 refine⟨Za rfl,?_⟩
 refine⟨Za rfl,?_⟩
 refine⟨[.k 0,.k 1],_,_,_,_,BG,rfl,rfl,?_⟩
 exact⟨_,rfl,[.k 0,.k 1,.d 40 2,.d 40 3,.d 40 4],rfl,⟨_,rfl,rfl⟩,⟨_,rfl,rfl⟩,⟨_,rfl,rfl⟩,⟨_,rfl,rfl⟩,⟨_,rfl,rfl⟩,trivial⟩
theorem c_cxinit_noC {t mode pad:Int} {back:Bool} {lk li:Nat} {key iv:Bs} {t0 mode0 pad0:Int} {back0:Bool} {k0:Nat} {xs0:List V} {iv0 last0:Bs} (hk:key.length=lk) (hlk:lk≤1000) (hi:iv.length=li) (he:shErr t mode pad (cSize t).toNat lk li≠0):
  Con C N.ctx_Ctx_Init [.p (.k 0) 0,cfgV t mode pad back,.z lk (bv key),.z li (bv iv)] [cxC t0 mode0 pad0 back0 k0 xs0 iv0 last0,.dead] (.ret (i64 (shErr t mode pad (cSize t).toNat lk li))) [cxC t0 mode0 pad0 back0 k0 xs0 iv0 last0,.dead]:=by
 have CK:=(check_both t hk hlk mode pad back hi).1
 generalize shErr t mode pad (cSize t).toNat lk li=e at*
 refine fd.ctx_Ctx_Init.c ?_
 refine⟨[i64 t,i64 mode,i64 pad,bool back],rfl,rfl,?_⟩
 refine⟨[],_,_,_,_,CK,rfl,rfl,?_⟩
 refine spl_ne (fun _=> ?_) (fun hh=>absurd hh he)
 exact⟨_,rfl,[.k 0,.k 1],rfl,⟨_,rfl,rfl⟩,⟨_,rfl,rfl⟩,trivial⟩
abbrev cxC' (t mode pad:Int) (back:Bool) (k:Nat) (xs:List V) (iv last:Bs) (j:Nat):B:=cxX true false t mode pad back (cipV t k xs) (.z iv.length (bv iv)) (.p (.k j) 0) nilv (.z last.length (bv last))
def HK.w (x:HK) (j:Nat):V:=match x with
 | .n=>nilv
 | .o H=> .o 1 (.k j) 0 H.length
 | .f H=> .z H.length (bv H)
def tB (o:Option (Nat×List Value)) (e:Int) (h:Int):B:=match o with
 |none=> .mx [nilv,i64 e,i64 h]
 |some p=> .mx [.z p.1 p.2,i64 e,i64 h]
theorem d1A {o e h0}:ConD C N.run_one_d1 [.p (.k 0) 0,.p (.k 1) 0] [.mx [.p (.k 2) 0],tB o e h0,cxX false false 0 0 0 false nilp nilv nilp nilv nilv] (.ret (.t [])) [.mx [.p (.k 2) 0],tB o e 0,cxX false false 0 0 0 false nilp nilv nilp nilv nilv]:=by
 rcases o with _|⟨n,vs⟩
 all_goals
  refine fd.run_one_d1.e ?_
  refine⟨_,rfl,?_⟩
  refine⟨[.k 2],_,_,_,_,c_cxheldA,rfl,rfl,?_⟩
  refine⟨Za rfl,?_⟩
  exact⟨_,rfl,[.k 0,.k 1,.k 2],rfl,⟨_,rfl,rfl⟩,⟨_,rfl,rfl⟩,⟨_,rfl,rfl⟩,trivial⟩
theorem d1C {o e h0} {t mode pad:Int} {back:Bool} {k:Nat} {xs:List V} {iv last:Bs}:ConD C N.run_one_d1 [.p (.k 0) 0,.p (.k 1) 0] [.mx [.p (.k 2) 0],tB o e h0,cxC' t mode pad back k xs iv last 3,.dead] (.ret (.t [])) [.mx [.p (.k 2) 0],tB o e 0,cxC' t mode pad back k xs iv last 3,.dead]:=by
 rcases o with _|⟨n,vs⟩
 all_goals
  refine fd.run_one_d1.e ?_
  refine⟨_,rfl,?_⟩
  refine⟨[.k 2,.k 3],_,_,_,_,c_cxheldC (last:=last),rfl,rfl,?_⟩
  refine⟨Za rfl,?_⟩
  exact⟨_,rfl,[.k 0,.k 1,.k 2,.k 3],rfl,⟨_,rfl,rfl⟩,⟨_,rfl,rfl⟩,⟨_,rfl,rfl⟩,⟨_,rfl,rfl⟩,trivial⟩
theorem d1B {o e h0} {t mode pad:Int} {back:Bool} {k:Nat} {xs:List V} {iv last:Bs} {st:MS} {x:HK}:ConD C N.run_one_d1 [.p (.k 0) 0,.p (.k 1) 0]
  [.mx [.p (.k 2) 0],tB o e h0,cxX true true t mode pad back (cipV t k xs) (.z iv.length (bv iv)) (.p (.k 3) 0) (x.w 5) (.z last.length (bv last)),moX (cipV t k xs) (cxMd mode) back st 4,gnB st.row st.gone,x.b] (.ret (.t []))
  [.mx [.p (.k 2) 0],tB o e x.l.length,cxX true true t mode pad back (cipV t k xs) (.z iv.length (bv iv)) (.p (.k 3) 0) (x.w 5) (.z last.length (bv last)),moX (cipV t k xs) (cxMd mode) back st 4,gnB st.row st.gone,x.b]:=by
 have H:=fun st x=>c_cxheld (t:=t) (mode:=mode) (pad:=pad) (md:=cxMd mode) (op:=true) (back:=back) (k:=k) (xs:=xs) (iv:=iv) (last:=last) (st:=st) (x:=x)
 obtain⟨ch,row,g⟩:=st
 rcases row with _|⟨a,r⟩<;>rcases x with _|H'|H'<;>rcases o with _|⟨n,vs⟩
 all_goals
  refine fd.run_one_d1.e ?_
  refine⟨_,rfl,?_⟩
  first
   |refine⟨[.k 2,.k 3,.k 4,.k 5],_,_,_,_,H _ .n,rfl,rfl,?_⟩
   |refine⟨[.k 2,.k 3,.k 4,.k 5],_,_,_,_,H _ (.o H'),rfl,rfl,?_⟩
   |refine⟨[.k 2,.k 3,.k 4,.k 5],_,_,_,_,H _ (.f H'),rfl,rfl,?_⟩
  refine⟨Za rfl,?_⟩
  exact⟨_,rfl,[.k 0,.k 1,.k 2,.k 3,.k 4,.k 5],rfl,⟨_,rfl,rfl⟩,⟨_,rfl,rfl⟩,⟨_,rfl,rfl⟩,⟨_,rfl,rfl⟩,⟨_,rfl,rfl⟩,⟨_,rfl,rfl⟩,trivial⟩
theorem Con.wka {C:Ctx} {f:Nat} {args xs ys:List V} {bs bs':List B} (h:Con C f args bs (.ret (.a xs)) bs') (hw:WkL xs ys):Con C f args bs (.ret (.a ys)) bs':=
 ⟨h.1,fun w F ι vs st hgl hdm hl=>Calls.mono (h.2 w F ι vs st hgl hdm hl) fun e w' ⟨F',ι',h1,h2,h3,h4,h5,h6⟩=>⟨F',ι',h1,h2,h3,h4,h5,by
  obtain⟨x,he,hR⟩:=h6
  refine⟨x,he,?_⟩
  cases hR with
  |fz h=>cases h with|a hl=>exact .fz (.a (hw.rf hl))
  |a hl=>exact .a (hw.r hl)⟩⟩
theorem one_0A {kind:Int} {t' mode' pad':Int} {back':Bool} {lk' li' lb':Nat} {vk' vi' vb':List Value} (k1:kind≠1) (k2:kind≠2) (k3:kind≠3) (k4:kind≠4):
  Con C N.run_one [.p (.k 0) 0,.a [i64 kind,i64 t',i64 mode',i64 pad',bool back',.z lk' vk',.z li' vi',.z lb' vb']] [cxX false false 0 0 0 false nilp nilv nilp nilv nilv,.dead,.dead,.dead] (.ret (.a [.z 0 [],i64 1,i64 0])) [cxX false false 0 0 0 false nilp nilv nilp nilv nilv,.dead,.dead,.dead]:=by
 refine Con.wka (fd.run_one.p ?_) (.cons .nl (.cons (.refl _) (.cons (.refl _) .nil)))
 refine⟨⟨[(2,.p (.k 4) 0),(3,.p (.k 5) 0),(4,.p (.k 6) 0),(5,.f (.func N.run_one_d1) [] [.p (.k 4) 0,.p (.k 6) 0])],[_,_,_,_,_,_,_]⟩,⟨[.k 0,.k 1,.k 2,.k 3,.d 2 0,.d 3 0,.d 4 0],⟨rfl,rfl,rfl,rfl,trivial⟩,⟨_,rfl,rfl⟩,⟨_,rfl,rfl⟩,⟨_,rfl,rfl⟩,⟨_,rfl,rfl⟩,⟨_,rfl,rfl⟩,⟨_,rfl,rfl⟩,⟨_,rfl,rfl⟩,trivial⟩,_,_,rfl,rfl,?_⟩
 refine⟨_,rfl,?_⟩
 refine spl_eq (fun hh=>absurd hh k1) (fun _=> ?_)
 refine spl_eq (fun hh=>absurd hh k2) (fun _=> ?_)
 refine spl_eq (fun hh=>absurd hh k3) (fun _=> ?_)
 refine spl_eq (fun hh=>absurd hh k4) (fun _=> ?_)
 refine⟨Za rfl,?_⟩
 refine⟨[.slice none 0 0,.int .i64 1,.int .i64 0],rfl,rfl,?_⟩
 refine⟨Za rfl,?_⟩
 refine⟨[.k 4,.k 6,.k 0],_,_,_,_,d1A (o:=none),rfl,rfl,_,rfl,?_⟩
 refine⟨[nilv,i64 1,i64 0],rfl,rfl,?_⟩
 refine⟨_,_,?_,WkO.refl _,WkBs.refl _⟩
 exact⟨_,rfl,[.k 0,.k 1,.k 2,.k 3],rfl,⟨_,rfl,rfl⟩,⟨_,rfl,rfl⟩,⟨_,rfl,rfl⟩,⟨_,rfl,rfl⟩,trivial⟩
theorem one_0B {kind:Int} {t' mode' pad':Int} {back':Bool} {lk' li' lb':Nat} {vk' vi' vb':List Value} {t mode pad:Int} {back:Bool} {k:Nat} {xs:List V} {iv last:Bs} {st:MS} {x:HK} (k1:kind≠1) (k2:kind≠2) (k3:kind≠3) (k4:kind≠4):
  Con C N.run_one [.p (.k 0) 0,.a [i64 kind,i64 t',i64 mode',i64 pad',bool back',.z lk' vk',.z li' vi',.z lb' vb']] [cxO true t mode pad back k xs iv x last,moX (cipV t k xs) (cxMd mode) back st 2,gnB st.row st.gone,x.b] (.ret (.a [.z 0 [],i64 1,i64 x.l.length])) [cxO true t mode pad back k xs iv x last,moX (cipV t k xs) (cxMd mode) back st 2,gnB st.row st.gone,x.b]:=by
 obtain⟨ch,row,g⟩:=st
 rcases row with _|⟨a,r⟩<;>rcases x with _|H|H
 all_goals
  refine Con.wka (fd.run_one.p ?_) (.cons .nl (.cons (.refl _) (.cons (.refl _) .nil)))
  refine⟨⟨[(2,.p (.k 4) 0),(3,.p (.k 5) 0),(4,.p (.k 6) 0),(5,.f (.func N.run_one_d1) [] [.p (.k 4) 0,.p (.k 6) 0])],[_,_,_,_,_,_,_]⟩,⟨[.k 0,.k 1,.k 2,.k 3,.d 2 0,.d 3 0,.d 4 0],⟨rfl,rfl,rfl,rfl,trivial⟩,⟨_,rfl,rfl⟩,⟨_,rfl,rfl⟩,⟨_,rfl,rfl⟩,⟨_,rfl,rfl⟩,⟨_,rfl,rfl⟩,⟨_,rfl,rfl⟩,⟨_,rfl,rfl⟩,trivial⟩,_,_,rfl,rfl,?_⟩
  refine⟨_,rfl,?_⟩
  refine spl_eq (fun hh=>absurd hh k1) (fun _=> ?_)
  refine spl_eq (fun hh=>absurd hh k2) (fun _=> ?_)
  refine spl_eq (fun hh=>absurd hh k3) (fun _=> ?_)
  refine spl_eq (fun hh=>absurd hh k4) (fun _=> ?_)
  refine⟨Za rfl,?_⟩
  first
   |refine⟨[.slice none 0 0,.int .i64 1,.int .i64 0],rfl,rfl,?_⟩
    refine⟨Za rfl,?_⟩
    refine⟨[.k 4,.k 6,.k 0,.k 1,.k 2,.k 3],_,_,_,_,d1B (o:=none) (last:=last) (x:= .n),rfl,rfl,_,rfl,?_⟩
    refine⟨[nilv,i64 1,i64 0],rfl,rfl,?_⟩
    refine⟨_,_,?_,WkO.refl _,WkBs.refl _⟩
    exact⟨_,rfl,[.k 0,.k 1,.k 2,.k 3],rfl,⟨_,rfl,rfl⟩,⟨_,rfl,rfl⟩,⟨_,rfl,rfl⟩,⟨_,rfl,rfl⟩,trivial⟩
   |refine⟨[.slice none 0 0,.int .i64 1,.int .i64 0],rfl,rfl,?_⟩
    refine⟨Za rfl,?_⟩
    refine⟨[.k 4,.k 6,.k 0,.k 1,.k 2,.k 3],_,_,_,_,d1B (o:=none) (last:=last) (x:=(.o H)),rfl,rfl,_,rfl,?_⟩
    refine⟨[nilv,i64 1,i64 H.length],rfl,rfl,?_⟩
    refine⟨_,_,?_,WkO.refl _,WkBs.refl _⟩
    exact⟨_,rfl,[.k 0,.k 1,.k 2,.k 3],rfl,⟨_,rfl,rfl⟩,⟨_,rfl,rfl⟩,⟨_,rfl,rfl⟩,⟨_,rfl,rfl⟩,trivial⟩
   |refine⟨[.slice none 0 0,.int .i64 1,.int .i64 0],rfl,rfl,?_⟩
    refine⟨Za rfl,?_⟩
    refine⟨[.k 4,.k 6,.k 0,.k 1,.k 2,.k 3],_,_,_,_,d1B (o:=none) (last:=last) (x:=(.f H)),rfl,rfl,_,rfl,?_⟩
    refine⟨[nilv,i64 1,i64 H.length],rfl,rfl,?_⟩
    refine⟨_,_,?_,WkO.refl _,WkBs.refl _⟩
    exact⟨_,rfl,[.k 0,.k 1,.k 2,.k 3],rfl,⟨_,rfl,rfl⟩,⟨_,rfl,rfl⟩,⟨_,rfl,rfl⟩,⟨_,rfl,rfl⟩,trivial⟩
theorem one_0C {kind:Int} {t' mode' pad':Int} {back':Bool} {lk' li' lb':Nat} {vk' vi' vb':List Value} {t mode pad:Int} {back:Bool} {k:Nat} {xs:List V} {iv last:Bs} (k1:kind≠1) (k2:kind≠2) (k3:kind≠3) (k4:kind≠4):
  Con C N.run_one [.p (.k 0) 0,.a [i64 kind,i64 t',i64 mode',i64 pad',bool back',.z lk' vk',.z li' vi',.z lb' vb']] [cxC t mode pad back k xs iv last,.dead,.dead,.dead] (.ret (.a [.z 0 [],i64 1,i64 0])) [cxC t mode pad back k xs iv last,.dead,.dead,.dead]:=by
 refine Con.wka (fd.run_one.p ?_) (.cons .nl (.cons (.refl _) (.cons (.refl _) .nil)))
 refine⟨⟨[(2,.p (.k 4) 0),(3,.p (.k 5) 0),(4,.p (.k 6) 0),(5,.f (.func N.run_one_d1) [] [.p (.k 4) 0,.p (.k 6) 0])],[_,_,_,_,_,_,_]⟩,⟨[.k 0,.k 1,.k 2,.k 3,.d 2 0,.d 3 0,.d 4 0],⟨rfl,rfl,rfl,rfl,trivial⟩,⟨_,rfl,rfl⟩,⟨_,rfl,rfl⟩,⟨_,rfl,rfl⟩,⟨_,rfl,rfl⟩,⟨_,rfl,rfl⟩,⟨_,rfl,rfl⟩,⟨_,rfl,rfl⟩,trivial⟩,_,_,rfl,rfl,?_⟩
 refine⟨_,rfl,?_⟩
 refine spl_eq (fun hh=>absurd hh k1) (fun _=> ?_)
 refine spl_eq (fun hh=>absurd hh k2) (fun _=> ?_)
 refine spl_eq (fun hh=>absurd hh k3) (fun _=> ?_)
 refine spl_eq (fun hh=>absurd hh k4) (fun _=> ?_)
 refine⟨Za rfl,?_⟩
 refine⟨[.slice none 0 0,.int .i64 1,.int .i64 0],rfl,rfl,?_⟩
 refine⟨Za rfl,?_⟩
 refine⟨[.k 4,.k 6,.k 0,.k 1],_,_,_,_,d1C (o:=none) (last:=last),rfl,rfl,_,rfl,?_⟩
 refine⟨[nilv,i64 1,i64 0],rfl,rfl,?_⟩
 refine⟨_,_,?_,WkO.refl _,WkBs.refl _⟩
 exact⟨_,rfl,[.k 0,.k 1,.k 2,.k 3],rfl,⟨_,rfl,rfl⟩,⟨_,rfl,rfl⟩,⟨_,rfl,rfl⟩,⟨_,rfl,rfl⟩,trivial⟩
theorem one_2A {t' mode' pad':Int} {back':Bool} {lk' li' lb':Nat} {vk' vi' vb':List Value}:
  Con C N.run_one [.p (.k 0) 0,.a [i64 2,i64 t',i64 mode',i64 pad',bool back',.z lk' vk',.z li' vi',.z lb' vb']] [cxX false false 0 0 0 false nilp nilv nilp nilv nilv,.dead,.dead,.dead] (.ret (.a [.z 0 [],i64 6,i64 0])) [cxX false false 0 0 0 false nilp nilv nilp nilv nilv,.dead,.dead,.dead]:=by
 refine fd.run_one.p ?_
 refine⟨⟨[(2,.p (.k 4) 0),(3,.p (.k 5) 0),(4,.p (.k 6) 0),(5,.f (.func N.run_one_d1) [] [.p (.k 4) 0,.p (.k 6) 0])],[_,_,_,_,_,_,_]⟩,⟨[.k 0,.k 1,.k 2,.k 3,.d 2 0,.d 3 0,.d 4 0],⟨rfl,rfl,rfl,rfl,trivial⟩,⟨_,rfl,rfl⟩,⟨_,rfl,rfl⟩,⟨_,rfl,rfl⟩,⟨_,rfl,rfl⟩,⟨_,rfl,rfl⟩,⟨_,rfl,rfl⟩,⟨_,rfl,rfl⟩,trivial⟩,_,_,rfl,rfl,?_⟩
 refine⟨_,rfl,?_⟩
 refine⟨_,rfl,?_⟩
 refine⟨_,rfl,?_⟩
 refine⟨[.k 0],_,_,_,_,c_cxupd_noA,rfl,rfl,?_⟩
 refine⟨Za rfl,?_⟩
 refine⟨Za rfl,?_⟩
 refine⟨[.z 0 [],i64 6,i64 0],rfl,rfl,?_⟩
 refine⟨Za rfl,?_⟩
 refine⟨[.k 4,.k 6,.k 0],_,_,_,_,d1A (o:=some (0,[])),rfl,rfl,_,rfl,?_⟩
 refine⟨[.z 0 [],i64 6,i64 0],rfl,rfl,?_⟩
 refine⟨_,_,?_,WkO.refl _,WkBs.refl _⟩
 exact⟨_,rfl,[.k 0,.k 1,.k 2,.k 3],rfl,⟨_,rfl,rfl⟩,⟨_,rfl,rfl⟩,⟨_,rfl,rfl⟩,⟨_,rfl,rfl⟩,trivial⟩
theorem one_3A {t' mode' pad':Int} {back':Bool} {lk' li' lb':Nat} {vk' vi' vb':List Value}:
  Con C N.run_one [.p (.k 0) 0,.a [i64 3,i64 t',i64 mode',i64 pad',bool back',.z lk' vk',.z li' vi',.z lb' vb']] [cxX false false 0 0 0 false nilp nilv nilp nilv nilv,.dead,.dead,.dead] (.ret (.a [.z 0 [],i64 6,i64 0])) [cxX false false 0 0 0 false nilp nilv nilp nilv nilv,.dead,.dead,.dead]:=by
 refine fd.run_one.p ?_
 refine⟨⟨[(2,.p (.k 4) 0),(3,.p (.k 5) 0),(4,.p (.k 6) 0),(5,.f (.func N.run_one_d1) [] [.p (.k 4) 0,.p (.k 6) 0])],[_,_,_,_,_,_,_]⟩,⟨[.k 0,.k 1,.k 2,.k 3,.d 2 0,.d 3 0,.d 4 0],⟨rfl,rfl,rfl,rfl,trivial⟩,⟨_,rfl,rfl⟩,⟨_,rfl,rfl⟩,⟨_,rfl,rfl⟩,⟨_,rfl,rfl⟩,⟨_,rfl,rfl⟩,⟨_,rfl,rfl⟩,⟨_,rfl,rfl⟩,trivial⟩,_,_,rfl,rfl,?_⟩
 refine⟨_,rfl,?_⟩
 refine⟨_,rfl,?_⟩
 refine⟨[.k 0],_,_,_,_,c_cxfin_noA,rfl,rfl,?_⟩
 refine⟨Za rfl,?_⟩
 refine⟨Za rfl,?_⟩
 refine⟨[.z 0 [],i64 6,i64 0],rfl,rfl,?_⟩
 refine⟨Za rfl,?_⟩
 refine⟨[.k 4,.k 6,.k 0],_,_,_,_,d1A (o:=some (0,[])),rfl,rfl,_,rfl,?_⟩
 refine⟨[.z 0 [],i64 6,i64 0],rfl,rfl,?_⟩
 refine⟨_,_,?_,WkO.refl _,WkBs.refl _⟩
 exact⟨_,rfl,[.k 0,.k 1,.k 2,.k 3],rfl,⟨_,rfl,rfl⟩,⟨_,rfl,rfl⟩,⟨_,rfl,rfl⟩,⟨_,rfl,rfl⟩,trivial⟩
theorem one_2C {t' mode' pad':Int} {back':Bool} {lk' li' lb':Nat} {vk' vi' vb':List Value} {t mode pad:Int} {back:Bool} {k:Nat} {xs:List V} {iv last:Bs}:
  Con C N.run_one [.p (.k 0) 0,.a [i64 2,i64 t',i64 mode',i64 pad',bool back',.z lk' vk',.z li' vi',.z lb' vb']] [cxC t mode pad back k xs iv last,.dead,.dead,.dead] (.ret (.a [.z 0 [],i64 6,i64 0])) [cxC t mode pad back k xs iv last,.dead,.dead,.dead]:=by
 refine fd.run_one.p ?_
 refine⟨⟨[(2,.p (.k 4) 0),(3,.p (.k 5) 0),(4,.p (.k 6) 0),(5,.f (.func N.run_one_d1) [] [.p (.k 4) 0,.p (.k 6) 0])],[_,_,_,_,_,_,_]⟩,⟨[.k 0,.k 1,.k 2,.k 3,.d 2 0,.d 3 0,.d 4 0],⟨rfl,rfl,rfl,rfl,trivial⟩,⟨_,rfl,rfl⟩,⟨_,rfl,rfl⟩,⟨_,rfl,rfl⟩,⟨_,rfl,rfl⟩,⟨_,rfl,rfl⟩,⟨_,rfl,rfl⟩,⟨_,rfl,rfl⟩,trivial⟩,_,_,rfl,rfl,?_⟩
 refine⟨_,rfl,?_⟩
 refine⟨_,rfl,?_⟩
 refine⟨_,rfl,?_⟩
 refine⟨[.k 0,.k 1],_,_,_,_,c_cxupdC,rfl,rfl,?_⟩
 refine⟨Za rfl,?_⟩
 refine⟨Za rfl,?_⟩
 refine⟨[.z 0 [],i64 6,i64 0],rfl,rfl,?_⟩
 refine⟨Za rfl,?_⟩
 refine⟨[.k 4,.k 6,.k 0,.k 1],_,_,_,_,d1C (o:=some (0,[])) (last:=last),rfl,rfl,_,rfl,?_⟩
 refine⟨[.z 0 [],i64 6,i64 0],rfl,rfl,?_⟩
 refine⟨_,_,?_,WkO.refl _,WkBs.refl _⟩
 exact⟨_,rfl,[.k 0,.k 1,.k 2,.k 3],rfl,⟨_,rfl,rfl⟩,⟨_,rfl,rfl⟩,⟨_,rfl,rfl⟩,⟨_,rfl,rfl⟩,trivial⟩
theorem one_3C {t' mode' pad':Int} {back':Bool} {lk' li' lb':Nat} {vk' vi' vb':List Value} {t mode pad:Int} {back:Bool} {k:Nat} {xs:List V} {iv last:Bs}:
  Con C N.run_one [.p (.k 0) 0,.a [i64 3,i64 t',i64 mode',i64 pad',bool back',.z lk' vk',.z li' vi',.z lb' vb']] [cxC t mode pad back k xs iv last,.dead,.dead,.dead] (.ret (.a [.z 0 [],i64 6,i64 0])) [cxC t mode pad back k xs iv last,.dead,.dead,.dead]:=by
 refine fd.run_one.p ?_
 refine⟨⟨[(2,.p (.k 4) 0),(3,.p (.k 5) 0),(4,.p (.k 6) 0),(5,.f (.func N.run_one_d1) [] [.p (.k 4) 0,.p (.k 6) 0])],[_,_,_,_,_,_,_]⟩,⟨[.k 0,.k 1,.k 2,.k 3,.d 2 0,.d 3 0,.d 4 0],⟨rfl,rfl,rfl,rfl,trivial⟩,⟨_,rfl,rfl⟩,⟨_,rfl,rfl⟩,⟨_,rfl,rfl⟩,⟨_,rfl,rfl⟩,⟨_,rfl,rfl⟩,⟨_,rfl,rfl⟩,⟨_,rfl,rfl⟩,trivial⟩,_,_,rfl,rfl,?_⟩
 refine⟨_,rfl,?_⟩
 refine⟨_,rfl,?_⟩
 refine⟨[.k 0,.k 1],_,_,_,_,c_cxfinC,rfl,rfl,?_⟩
 refine⟨Za rfl,?_⟩
 refine⟨Za rfl,?_⟩
 refine⟨[.z 0 [],i64 6,i64 0],rfl,rfl,?_⟩
 refine⟨Za rfl,?_⟩
 refine⟨[.k 4,.k 6,.k 0,.k 1],_,_,_,_,d1C (o:=some (0,[])) (last:=last),rfl,rfl,_,rfl,?_⟩
 refine⟨[.z 0 [],i64 6,i64 0],rfl,rfl,?_⟩
 refine⟨_,_,?_,WkO.refl _,WkBs.refl _⟩
 exact⟨_,rfl,[.k 0,.k 1,.k 2,.k 3],rfl,⟨_,rfl,rfl⟩,⟨_,rfl,rfl⟩,⟨_,rfl,rfl⟩,⟨_,rfl,rfl⟩,trivial⟩
theorem one_4A {t' mode' pad':Int} {back':Bool} {lk' li' lb':Nat} {vk' vi' vb':List Value}:
  Con C N.run_one [.p (.k 0) 0,.a [i64 4,i64 t',i64 mode',i64 pad',bool back',.z lk' vk',.z li' vi',.z lb' vb']] [cxX false false 0 0 0 false nilp nilv nilp nilv nilv,.dead,.dead,.dead] (.ret (.a [.z 0 [],i64 6,i64 0])) [cxX false false 0 0 0 false nilp nilv nilp nilv nilv,.dead,.dead,.dead]:=by
 refine Con.wka (fd.run_one.p ?_) (.cons .nl (.cons (.refl _) (.cons (.refl _) .nil)))
 refine⟨⟨[(2,.p (.k 4) 0),(3,.p (.k 5) 0),(4,.p (.k 6) 0),(5,.f (.func N.run_one_d1) [] [.p (.k 4) 0,.p (.k 6) 0])],[_,_,_,_,_,_,_]⟩,⟨[.k 0,.k 1,.k 2,.k 3,.d 2 0,.d 3 0,.d 4 0],⟨rfl,rfl,rfl,rfl,trivial⟩,⟨_,rfl,rfl⟩,⟨_,rfl,rfl⟩,⟨_,rfl,rfl⟩,⟨_,rfl,rfl⟩,⟨_,rfl,rfl⟩,⟨_,rfl,rfl⟩,⟨_,rfl,rfl⟩,trivial⟩,_,_,rfl,rfl,?_⟩
 refine⟨_,rfl,?_⟩
 refine⟨_,rfl,?_⟩
 refine⟨[.k 0],_,_,_,_,c_cxresetA,rfl,rfl,?_⟩
 refine⟨Za rfl,?_⟩
 refine⟨[.slice none 0 0,.int .i64 6,.int .i64 0],rfl,rfl,?_⟩
 refine⟨Za rfl,?_⟩
 refine⟨[.k 4,.k 6,.k 0],_,_,_,_,d1A (o:=none),rfl,rfl,_,rfl,?_⟩
 refine⟨[nilv,i64 6,i64 0],rfl,rfl,?_⟩
 refine⟨_,_,?_,WkO.refl _,WkBs.refl _⟩
 exact⟨_,rfl,[.k 0,.k 1,.k 2,.k 3],rfl,⟨_,rfl,rfl⟩,⟨_,rfl,rfl⟩,⟨_,rfl,rfl⟩,⟨_,rfl,rfl⟩,trivial⟩
theorem one_1A {t' mode' pad':Int} {back':Bool} {k' s':Nat} {xs' rs':List V} {key' iv':Bs} {lk' li' lb':Nat} {vb':List Value} (h:Ciph t' key' s' k' xs' rs') (hk:key'.length=lk') (hlk:lk'≤1000) (hi:iv'.length=li') (ok:shOk s' mode' pad' iv'):
  Con C N.run_one [.p (.k 0) 0,.a [i64 1,i64 t',i64 mode',i64 pad',bool back',.z lk' (bv key'),.z li' (bv iv'),.z lb' vb']] [cxX false false 0 0 0 false nilp nilv nilp nilv nilv,.dead,.dead,.dead] (.ret (.a [.z 0 [],i64 0,i64 0])) [cxX true true t' mode' pad' back' (cipV t' k' xs') (.z iv'.length (bv iv')) (.p (.k 4) 0) nilv (.z iv'.length (bv iv')),.dead,.dead,.dead,moX (cipV t' k' xs') (cxMd mode') back' ⟨iv',[],[]⟩ 5,.dead,.dead]:=by
 have IN:=c_cxinitA h (back:=back') hk hlk hi ok
 refine Con.wka (fd.run_one.p ?_) (.cons .nl (.cons (.refl _) (.cons (.refl _) .nil)))
 refine⟨⟨[(2,.p (.k 4) 0),(3,.p (.k 5) 0),(4,.p (.k 6) 0),(5,.f (.func N.run_one_d1) [] [.p (.k 4) 0,.p (.k 6) 0])],[_,_,_,_,_,_,_]⟩,⟨[.k 0,.k 1,.k 2,.k 3,.d 2 0,.d 3 0,.d 4 0],⟨rfl,rfl,rfl,rfl,trivial⟩,⟨_,rfl,rfl⟩,⟨_,rfl,rfl⟩,⟨_,rfl,rfl⟩,⟨_,rfl,rfl⟩,⟨_,rfl,rfl⟩,⟨_,rfl,rfl⟩,⟨_,rfl,rfl⟩,trivial⟩,_,_,rfl,rfl,?_⟩
 refine⟨_,rfl,?_⟩
 refine⟨_,rfl,?_⟩
 refine⟨[i64 t',i64 mode',i64 pad',bool back'],rfl,rfl,?_⟩
 refine⟨_,rfl,?_⟩
 refine⟨_,rfl,?_⟩
 refine⟨[.k 0],_,_,_,_,IN,rfl,rfl,?_⟩
 refine⟨Za rfl,?_⟩
 refine⟨[.slice none 0 0,.int .i64 0,.int .i64 0],rfl,rfl,?_⟩
 refine⟨Za rfl,?_⟩
 refine⟨[.k 4,.k 6,.k 0,.d 18 1,.d 18 2,.d 18 3],_,_,_,_,d1B (o:=none) (st:=⟨iv',[],[]⟩) (last:=iv') (x:= .n),rfl,rfl,_,rfl,?_⟩
 refine⟨[nilv,i64 0,i64 0],rfl,rfl,?_⟩
 refine⟨_,_,?_,WkO.refl _,WkBs.refl _⟩
 exact⟨_,rfl,[.k 0,.k 1,.k 2,.k 3,.d 18 1,.d 18 2,.d 18 3],rfl,⟨_,rfl,rfl⟩,⟨_,rfl,rfl⟩,⟨_,rfl,rfl⟩,⟨_,rfl,rfl⟩,⟨_,rfl,rfl⟩,⟨_,rfl,rfl⟩,⟨_,rfl,rfl⟩,trivial⟩
theorem one_1B {t' mode' pad':Int} {back':Bool} {k' s':Nat} {xs' rs':List V} {key' iv':Bs} {lk' li' lb':Nat} {vb':List Value} (h:Ciph t' key' s' k' xs' rs') (hk:key'.length=lk') (hlk:lk'≤1000) (hi:iv'.length=li') (ok:shOk s' mode' pad' iv') {t mode pad:Int} {back:Bool} {k:Nat} {xs:List V} {iv last:Bs} {st:MS} {x:HK}:
  Con C N.run_one [.p (.k 0) 0,.a [i64 1,i64 t',i64 mode',i64 pad',bool back',.z lk' (bv key'),.z li' (bv iv'),.z lb' vb']] [cxO true t mode pad back k xs iv x last,moX (cipV t k xs) (cxMd mode) back st 2,gnB st.row st.gone,x.b] (.ret (.a [.z 0 [],i64 0,i64 0])) [cxX true true t' mode' pad' back' (cipV t' k' xs') (.z iv'.length (bv iv')) (.p (.k 4) 0) nilv (.z iv'.length (bv iv')),.dead,.dead,.dead,moX (cipV t' k' xs') (cxMd mode') back' ⟨iv',[],[]⟩ 5,.dead,.dead]:=by
 have IN:=(c_cxinitB h (back:=back') (t0:=t) (mode0:=mode) (pad0:=pad) (md0:=cxMd mode) (op:=true) (back0:=back) (k0:=k) (xs0:=xs) (iv0:=iv) (last0:=last) (st0:=st) (x0:=x) hk hlk hi ok).fg (.keep (.drop (.drop (.drop (.keep (.keep (.keep .nil)))))))
 obtain⟨ch,row,g⟩:=st
 rcases row with _|⟨a,r⟩<;>rcases x with _|H|H
 all_goals
  refine Con.wka (fd.run_one.p ?_) (.cons .nl (.cons (.refl _) (.cons (.refl _) .nil)))
  refine⟨⟨[(2,.p (.k 4) 0),(3,.p (.k 5) 0),(4,.p (.k 6) 0),(5,.f (.func N.run_one_d1) [] [.p (.k 4) 0,.p (.k 6) 0])],[_,_,_,_,_,_,_]⟩,⟨[.k 0,.k 1,.k 2,.k 3,.d 2 0,.d 3 0,.d 4 0],⟨rfl,rfl,rfl,rfl,trivial⟩,⟨_,rfl,rfl⟩,⟨_,rfl,rfl⟩,⟨_,rfl,rfl⟩,⟨_,rfl,rfl⟩,⟨_,rfl,rfl⟩,⟨_,rfl,rfl⟩,⟨_,rfl,rfl⟩,trivial⟩,_,_,rfl,rfl,?_⟩
  refine⟨_,rfl,?_⟩
  refine⟨_,rfl,?_⟩
  refine⟨[i64 t',i64 mode',i64 pad',bool back'],rfl,rfl,?_⟩
  refine⟨_,rfl,?_⟩
  refine⟨_,rfl,?_⟩
  refine⟨[.k 0,.k 1,.k 2,.k 3],_,_,_,_,IN,rfl,rfl,?_⟩
  refine⟨Za rfl,?_⟩
  refine⟨[.slice none 0 0,.int .i64 0,.int .i64 0],rfl,rfl,?_⟩
  refine⟨Za rfl,?_⟩
  refine⟨[.k 4,.k 6,.k 0,.d 18 4,.d 18 5,.d 18 6],_,_,_,_,d1B (o:=none) (st:=⟨iv',[],[]⟩) (last:=iv') (x:= .n),rfl,rfl,_,rfl,?_⟩
  refine⟨[nilv,i64 0,i64 0],rfl,rfl,?_⟩
  refine⟨_,_,?_,WkO.refl _,WkBs.refl _⟩
  exact⟨_,rfl,[.k 0,.k 1,.k 2,.k 3,.d 18 4,.d 18 5,.d 18 6],rfl,⟨_,rfl,rfl⟩,⟨_,rfl,rfl⟩,⟨_,rfl,rfl⟩,⟨_,rfl,rfl⟩,⟨_,rfl,rfl⟩,⟨_,rfl,rfl⟩,⟨_,rfl,rfl⟩,trivial⟩
theorem one_1C {t' mode' pad':Int} {back':Bool} {k' s':Nat} {xs' rs':List V} {key' iv':Bs} {lk' li' lb':Nat} {vb':List Value} (h:Ciph t' key' s' k' xs' rs') (hk:key'.length=lk') (hlk:lk'≤1000) (hi:iv'.length=li') (ok:shOk s' mode' pad' iv') {t mode pad:Int} {back:Bool} {k:Nat} {xs:List V} {iv last:Bs}:
  Con C N.run_one [.p (.k 0) 0,.a [i64 1,i64 t',i64 mode',i64 pad',bool back',.z lk' (bv key'),.z li' (bv iv'),.z lb' vb']] [cxC t mode pad back k xs iv last,.dead,.dead,.dead] (.ret (.a [.z 0 [],i64 0,i64 0])) [cxX true true t' mode' pad' back' (cipV t' k' xs') (.z iv'.length (bv iv')) (.p (.k 4) 0) nilv (.z iv'.length (bv iv')),.dead,.dead,.dead,moX (cipV t' k' xs') (cxMd mode') back' ⟨iv',[],[]⟩ 5,.dead,.dead]:=by
 have IN:=c_cxinitC h (back:=back') (t0:=t) (mode0:=mode) (pad0:=pad) (back0:=back) (k0:=k) (xs0:=xs) (iv0:=iv) (last0:=last) hk hlk hi ok
 refine Con.wka (fd.run_one.p ?_) (.cons .nl (.cons (.refl _) (.cons (.refl _) .nil)))
 refine⟨⟨[(2,.p (.k 4) 0),(3,.p (.k 5) 0),(4,.p (.k 6) 0),(5,.f (.func N.run_one_d1) [] [.p (.k 4) 0,.p (.k 6) 0])],[_,_,_,_,_,_,_]⟩,⟨[.k 0,.k 1,.k 2,.k 3,.d 2 0,.d 3 0,.d 4 0],⟨rfl,rfl,rfl,rfl,trivial⟩,⟨_,rfl,rfl⟩,⟨_,rfl,rfl⟩,⟨_,rfl,rfl⟩,⟨_,rfl,rfl⟩,⟨_,rfl,rfl⟩,⟨_,rfl,rfl⟩,⟨_,rfl,rfl⟩,trivial⟩,_,_,rfl,rfl,?_⟩
 refine⟨_,rfl,?_⟩
 refine⟨_,rfl,?_⟩
 refine⟨[i64 t',i64 mode',i64 pad',bool back'],rfl,rfl,?_⟩
 refine⟨_,rfl,?_⟩
 refine⟨_,rfl,?_⟩
 refine⟨[.k 0,.k 1],_,_,_,_,IN,rfl,rfl,?_⟩
 refine⟨Za rfl,?_⟩
 refine⟨[.slice none 0 0,.int .i64 0,.int .i64 0],rfl,rfl,?_⟩
 refine⟨Za rfl,?_⟩
 refine⟨[.k 4,.k 6,.k 0,.d 18 2,.d 18 3,.d 18 4],_,_,_,_,d1B (o:=none) (st:=⟨iv',[],[]⟩) (last:=iv') (x:= .n),rfl,rfl,_,rfl,?_⟩
 refine⟨[nilv,i64 0,i64 0],rfl,rfl,?_⟩
 refine⟨_,_,?_,WkO.refl _,WkBs.refl _⟩
 exact⟨_,rfl,[.k 0,.k 1,.k 2,.k 3,.d 18 2,.d 18 3,.d 18 4],rfl,⟨_,rfl,rfl⟩,⟨_,rfl,rfl⟩,⟨_,rfl,rfl⟩,⟨_,rfl,rfl⟩,⟨_,rfl,rfl⟩,⟨_,rfl,rfl⟩,⟨_,rfl,rfl⟩,trivial⟩
theorem one_nA {t' mode' pad':Int} {back':Bool} {key' iv':Bs} {lk' li' lb':Nat} {vb':List Value} (hk:key'.length=lk') (hlk:lk'≤1000) (hi:iv'.length=li') (he:shErr t' mode' pad' (cSize t').toNat lk' li'≠0):
  Con C N.run_one [.p (.k 0) 0,.a [i64 1,i64 t',i64 mode',i64 pad',bool back',.z lk' (bv key'),.z li' (bv iv'),.z lb' vb']] [cxX false false 0 0 0 false nilp nilv nilp nilv nilv,.dead,.dead,.dead] (.ret (.a [.z 0 [],i64 (shErr t' mode' pad' (cSize t').toNat lk' li'),i64 0])) [cxX false false 0 0 0 false nilp nilv nilp nilv nilv,.dead,.dead,.dead]:=by
 have IN:=c_cxinit_noA (back:=back') hk hlk hi he
 generalize shErr t' mode' pad' (cSize t').toNat lk' li'=e at*
 refine Con.wka (fd.run_one.p ?_) (.cons .nl (.cons (.refl _) (.cons (.refl _) .nil)))
 refine⟨⟨[(2,.p (.k 4) 0),(3,.p (.k 5) 0),(4,.p (.k 6) 0),(5,.f (.func N.run_one_d1) [] [.p (.k 4) 0,.p (.k 6) 0])],[_,_,_,_,_,_,_]⟩,⟨[.k 0,.k 1,.k 2,.k 3,.d 2 0,.d 3 0,.d 4 0],⟨rfl,rfl,rfl,rfl,trivial⟩,⟨_,rfl,rfl⟩,⟨_,rfl,rfl⟩,⟨_,rfl,rfl⟩,⟨_,rfl,rfl⟩,⟨_,rfl,rfl⟩,⟨_,rfl,rfl⟩,⟨_,rfl,rfl⟩,trivial⟩,_,_,rfl,rfl,?_⟩
 refine⟨_,rfl,?_⟩
 refine⟨_,rfl,?_⟩
 refine⟨[i64 t',i64 mode',i64 pad',bool back'],rfl,rfl,?_⟩
 refine⟨_,rfl,?_⟩
 refine⟨_,rfl,?_⟩
 refine⟨[.k 0],_,_,_,_,IN,rfl,rfl,?_⟩
 refine⟨Za rfl,?_⟩
 refine⟨[.slice none 0 0,.int .i64 e,.int .i64 0],rfl,rfl,?_⟩
 refine⟨Za rfl,?_⟩
 refine⟨[.k 4,.k 6,.k 0],_,_,_,_,d1A (o:=none),rfl,rfl,_,rfl,?_⟩
 refine⟨[nilv,i64 e,i64 0],rfl,rfl,?_⟩
 refine⟨_,_,?_,WkO.refl _,WkBs.refl _⟩
 exact⟨_,rfl,[.k 0,.k 1,.k 2,.k 3],rfl,⟨_,rfl,rfl⟩,⟨_,rfl,rfl⟩,⟨_,rfl,rfl⟩,⟨_,rfl,rfl⟩,trivial⟩
theorem one_nB {t' mode' pad':Int} {back':Bool} {key' iv':Bs} {lk' li' lb':Nat} {vb':List Value} (hk:key'.length=lk') (hlk:lk'≤1000) (hi:iv'.length=li') (he:shErr t' mode' pad' (cSize t').toNat lk' li'≠0) {t mode pad:Int} {back:Bool} {k:Nat} {xs:List V} {iv last:Bs} {st:MS} {x:HK}:
  Con C N.run_one [.p (.k 0) 0,.a [i64 1,i64 t',i64 mode',i64 pad',bool back',.z lk' (bv key'),.z li' (bv iv'),.z lb' vb']] [cxO true t mode pad back k xs iv x last,moX (cipV t k xs) (cxMd mode) back st 2,gnB st.row st.gone,x.b] (.ret (.a [.z 0 [],i64 (shErr t' mode' pad' (cSize t').toNat lk' li'),i64 x.l.length])) [cxO true t mode pad back k xs iv x last,moX (cipV t k xs) (cxMd mode) back st 2,gnB st.row st.gone,x.b]:=by
 have IN:=c_cxinit_noB (back:=back') (t0:=t) (mode0:=mode) (pad0:=pad) (md0:=cxMd mode) (op:=true) (back0:=back) (k0:=k) (xs0:=xs) (iv0:=iv) (last0:=last) (st0:=st) (x0:=x) hk hlk hi he
 generalize shErr t' mode' pad' (cSize t').toNat lk' li'=e at*
 obtain⟨ch,row,g⟩:=st
 rcases row with _|⟨a,r⟩<;>rcases x with _|H|H
 all_goals
  refine Con.wka (fd.run_one.p ?_) (.cons .nl (.cons (.refl _) (.cons (.refl _) .nil)))
  refine⟨⟨[(2,.p (.k 4) 0),(3,.p (.k 5) 0),(4,.p (.k 6) 0),(5,.f (.func N.run_one_d1) [] [.p (.k 4) 0,.p (.k 6) 0])],[_,_,_,_,_,_,_]⟩,⟨[.k 0,.k 1,.k 2,.k 3,.d 2 0,.d 3 0,.d 4 0],⟨rfl,rfl,rfl,rfl,trivial⟩,⟨_,rfl,rfl⟩,⟨_,rfl,rfl⟩,⟨_,rfl,rfl⟩,⟨_,rfl,rfl⟩,⟨_,rfl,rfl⟩,⟨_,rfl,rfl⟩,⟨_,rfl,rfl⟩,trivial⟩,_,_,rfl,rfl,?_⟩
  refine⟨_,rfl,?_⟩
  refine⟨_,rfl,?_⟩
  refine⟨[i64 t',i64 mode',i64 pad',bool back'],rfl,rfl,?_⟩
  refine⟨_,rfl,?_⟩
  refine⟨_,rfl,?_⟩
  refine⟨[.k 0,.k 1,.k 2,.k 3],_,_,_,_,IN,rfl,rfl,?_⟩
  refine⟨Za rfl,?_⟩
  first
   |refine⟨[.slice none 0 0,.int .i64 e,.int .i64 0],rfl,rfl,?_⟩
    refine⟨Za rfl,?_⟩
    refine⟨[.k 4,.k 6,.k 0,.k 1,.k 2,.k 3],_,_,_,_,d1B (o:=none) (last:=last) (x:= .n),rfl,rfl,_,rfl,?_⟩
    refine⟨[nilv,i64 e,i64 0],rfl,rfl,?_⟩
    refine⟨_,_,?_,WkO.refl _,WkBs.refl _⟩
    exact⟨_,rfl,[.k 0,.k 1,.k 2,.k 3],rfl,⟨_,rfl,rfl⟩,⟨_,rfl,rfl⟩,⟨_,rfl,rfl⟩,⟨_,rfl,rfl⟩,trivial⟩
   |refine⟨[.slice none 0 0,.int .i64 e,.int .i64 0],rfl,rfl,?_⟩
    refine⟨Za rfl,?_⟩
    refine⟨[.k 4,.k 6,.k 0,.k 1,.k 2,.k 3],_,_,_,_,d1B (o:=none) (last:=last) (x:=(.o H)),rfl,rfl,_,rfl,?_⟩
    refine⟨[nilv,i64 e,i64 H.length],rfl,rfl,?_⟩
    refine⟨_,_,?_,WkO.refl _,WkBs.refl _⟩
    exact⟨_,rfl,[.k 0,.k 1,.k 2,.k 3],rfl,⟨_,rfl,rfl⟩,⟨_,rfl,rfl⟩,⟨_,rfl,rfl⟩,⟨_,rfl,rfl⟩,trivial⟩
   |refine⟨[.slice none 0 0,.int .i64 e,.int .i64 0],rfl,rfl,?_⟩
    refine⟨Za rfl,?_⟩
    refine⟨[.k 4,.k 6,.k 0,.k 1,.k 2,.k 3],_,_,_,_,d1B (o:=none) (last:=last) (x:=(.f H)),rfl,rfl,_,rfl,?_⟩
    refine⟨[nilv,i64 e,i64 H.length],rfl,rfl,?_⟩
    refine⟨_,_,?_,WkO.refl _,WkBs.refl _⟩
    exact⟨_,rfl,[.k 0,.k 1,.k 2,.k 3],rfl,⟨_,rfl,rfl⟩,⟨_,rfl,rfl⟩,⟨_,rfl,rfl⟩,⟨_,rfl,rfl⟩,trivial⟩
theorem one_nC {t' mode' pad':Int} {back':Bool} {key' iv':Bs} {lk' li' lb':Nat} {vb':List Value} (hk:key'.length=lk') (hlk:lk'≤1000) (hi:iv'.length=li') (he:shErr t' mode' pad' (cSize t').toNat lk' li'≠0) {t mode pad:Int} {back:Bool} {k:Nat} {xs:List V} {iv last:Bs}:
  Con C N.run_one [.p (.k 0) 0,.a [i64 1,i64 t',i64 mode',i64 pad',bool back',.z lk' (bv key'),.z li' (bv iv'),.z lb' vb']] [cxC t mode pad back k xs iv last,.dead,.dead,.dead] (.ret (.a [.z 0 [],i64 (shErr t' mode' pad' (cSize t').toNat lk' li'),i64 0])) [cxC t mode pad back k xs iv last,.dead,.dead,.dead]:=by
 have IN:=c_cxinit_noC (back:=back') (t0:=t) (mode0:=mode) (pad0:=pad) (back0:=back) (k0:=k) (xs0:=xs) (iv0:=iv) (last0:=last) hk hlk hi he
 generalize shErr t' mode' pad' (cSize t').toNat lk' li'=e at*
 refine Con.wka (fd.run_one.p ?_) (.cons .nl (.cons (.refl _) (.cons (.refl _) .nil)))
 refine⟨⟨[(2,.p (.k 4) 0),(3,.p (.k 5) 0),(4,.p (.k 6) 0),(5,.f (.func N.run_one_d1) [] [.p (.k 4) 0,.p (.k 6) 0])],[_,_,_,_,_,_,_]⟩,⟨[.k 0,.k 1,.k 2,.k 3,.d 2 0,.d 3 0,.d 4 0],⟨rfl,rfl,rfl,rfl,trivial⟩,⟨_,rfl,rfl⟩,⟨_,rfl,rfl⟩,⟨_,rfl,rfl⟩,⟨_,rfl,rfl⟩,⟨_,rfl,rfl⟩,⟨_,rfl,rfl⟩,⟨_,rfl,rfl⟩,trivial⟩,_,_,rfl,rfl,?_⟩
 refine⟨_,rfl,?_⟩
 refine⟨_,rfl,?_⟩
 refine⟨[i64 t',i64 mode',i64 pad',bool back'],rfl,rfl,?_⟩
 refine⟨_,rfl,?_⟩
 refine⟨_,rfl,?_⟩
 refine⟨[.k 0,.k 1],_,_,_,_,IN,rfl,rfl,?_⟩
 refine⟨Za rfl,?_⟩
 refine⟨[.slice none 0 0,.int .i64 e,.int .i64 0],rfl,rfl,?_⟩
 refine⟨Za rfl,?_⟩
 refine⟨[.k 4,.k 6,.k 0,.k 1],_,_,_,_,d1C (o:=none) (last:=last),rfl,rfl,_,rfl,?_⟩
 refine⟨[nilv,i64 e,i64 0],rfl,rfl,?_⟩
 refine⟨_,_,?_,WkO.refl _,WkBs.refl _⟩
 exact⟨_,rfl,[.k 0,.k 1,.k 2,.k 3],rfl,⟨_,rfl,rfl⟩,⟨_,rfl,rfl⟩,⟨_,rfl,rfl⟩,⟨_,rfl,rfl⟩,trivial⟩
theorem one_4B {t' mode' pad':Int} {back':Bool} {lk' li' lb':Nat} {vk' vi' vb':List Value} {t mode pad:Int} {back:Bool} {k:Nat} {xs:List V} {iv last:Bs} {st:MS} {x:HK} {s:Nat} {rs:List V} {key:Bs} (h:Ciph t key s k xs rs) (ok:shOk s mode pad iv):
  Con C N.run_one [.p (.k 0) 0,.a [i64 4,i64 t',i64 mode',i64 pad',bool back',.z lk' vk',.z li' vi',.z lb' vb']] [cxO true t mode pad back k xs iv x last,moX (cipV t k xs) (cxMd mode) back st 2,gnB st.row st.gone,x.b] (.ret (.a [.z 0 [],i64 0,i64 0])) [cxX true true t mode pad back (cipV t k xs) (.z iv.length (bv iv)) (.p (.k 4) 0) nilv (.z iv.length (bv iv)),.dead,.dead,.dead,moX (cipV t k xs) (cxMd mode) back ⟨iv,[],[]⟩ 5,.dead,.dead]:=by
 have IN:=(c_cxresetB h (md0:=cxMd mode) (op:=true) (back:=back) (last0:=last) (st0:=st) (x0:=x) ok).fg (.keep (.drop (.drop (.drop (.keep (.keep (.keep .nil)))))))
 obtain⟨ch,row,g⟩:=st
 rcases row with _|⟨a,r⟩<;>rcases x with _|H|H
 all_goals
  refine Con.wka (fd.run_one.p ?_) (.cons .nl (.cons (.refl _) (.cons (.refl _) .nil)))
  refine⟨⟨[(2,.p (.k 4) 0),(3,.p (.k 5) 0),(4,.p (.k 6) 0),(5,.f (.func N.run_one_d1) [] [.p (.k 4) 0,.p (.k 6) 0])],[_,_,_,_,_,_,_]⟩,⟨[.k 0,.k 1,.k 2,.k 3,.d 2 0,.d 3 0,.d 4 0],⟨rfl,rfl,rfl,rfl,trivial⟩,⟨_,rfl,rfl⟩,⟨_,rfl,rfl⟩,⟨_,rfl,rfl⟩,⟨_,rfl,rfl⟩,⟨_,rfl,rfl⟩,⟨_,rfl,rfl⟩,⟨_,rfl,rfl⟩,trivial⟩,_,_,rfl,rfl,?_⟩
  refine⟨_,rfl,?_⟩
  refine⟨_,rfl,?_⟩
  refine⟨[.k 0,.k 1,.k 2,.k 3],_,_,_,_,IN,rfl,rfl,?_⟩
  refine⟨Za rfl,?_⟩
  refine⟨[.slice none 0 0,.int .i64 0,.int .i64 0],rfl,rfl,?_⟩
  refine⟨Za rfl,?_⟩
  refine⟨[.k 4,.k 6,.k 0,.d 43 4,.d 43 5,.d 43 6],_,_,_,_,d1B (o:=none) (st:=⟨iv,[],[]⟩) (last:=iv) (x:= .n),rfl,rfl,_,rfl,?_⟩
  refine⟨[nilv,i64 0,i64 0],rfl,rfl,?_⟩
  refine⟨_,_,?_,WkO.refl _,WkBs.refl _⟩
  exact⟨_,rfl,[.k 0,.k 1,.k 2,.k 3,.d 43 4,.d 43 5,.d 43 6],rfl,⟨_,rfl,rfl⟩,⟨_,rfl,rfl⟩,⟨_,rfl,rfl⟩,⟨_,rfl,rfl⟩,⟨_,rfl,rfl⟩,⟨_,rfl,rfl⟩,⟨_,rfl,rfl⟩,trivial⟩
theorem one_4C {t' mode' pad':Int} {back':Bool} {lk' li' lb':Nat} {vk' vi' vb':List Value} {t mode pad:Int} {back:Bool} {k:Nat} {xs:List V} {iv last:Bs} {s:Nat} {rs:List V} {key:Bs} (h:Ciph t key s k xs rs) (ok:shOk s mode pad iv):
  Con C N.run_one [.p (.k 0) 0,.a [i64 4,i64 t',i64 mode',i64 pad',bool back',.z lk' vk',.z li' vi',.z lb' vb']] [cxC t mode pad back k xs iv last,.dead,.dead,.dead] (.ret (.a [.z 0 [],i64 0,i64 0])) [cxX true true t mode pad back (cipV t k xs) (.z iv.length (bv iv)) (.p (.k 4) 0) nilv (.z iv.length (bv iv)),.dead,.dead,.dead,moX (cipV t k xs) (cxMd mode) back ⟨iv,[],[]⟩ 5,.dead,.dead]:=by
 have IN:=c_cxresetC h (back:=back) (last0:=last) ok
 refine Con.wka (fd.run_one.p ?_) (.cons .nl (.cons (.refl _) (.cons (.refl _) .nil)))
 refine⟨⟨[(2,.p (.k 4) 0),(3,.p (.k 5) 0),(4,.p (.k 6) 0),(5,.f (.func N.run_one_d1) [] [.p (.k 4) 0,.p (.k 6) 0])],[_,_,_,_,_,_,_]⟩,⟨[.k 0,.k 1,.k 2,.k 3,.d 2 0,.d 3 0,.d 4 0],⟨rfl,rfl,rfl,rfl,trivial⟩,⟨_,rfl,rfl⟩,⟨_,rfl,rfl⟩,⟨_,rfl,rfl⟩,⟨_,rfl,rfl⟩,⟨_,rfl,rfl⟩,⟨_,rfl,rfl⟩,⟨_,rfl,rfl⟩,trivial⟩,_,_,rfl,rfl,?_⟩
 refine⟨_,rfl,?_⟩
 refine⟨_,rfl,?_⟩
 refine⟨[.k 0,.k 1],_,_,_,_,IN,rfl,rfl,?_⟩
 refine⟨Za rfl,?_⟩
 refine⟨[.slice none 0 0,.int .i64 0,.int .i64 0],rfl,rfl,?_⟩
 refine⟨Za rfl,?_⟩
 refine⟨[.k 4,.k 6,.k 0,.d 43 2,.d 43 3,.d 43 4],_,_,_,_,d1B (o:=none) (st:=⟨iv,[],[]⟩) (last:=iv) (x:= .n),rfl,rfl,_,rfl,?_⟩
 refine⟨[nilv,i64 0,i64 0],rfl,rfl,?_⟩
 refine⟨_,_,?_,WkO.refl _,WkBs.refl _⟩
 exact⟨_,rfl,[.k 0,.k 1,.k 2,.k 3,.d 43 2,.d 43 3,.d 43 4],rfl,⟨_,rfl,rfl⟩,⟨_,rfl,rfl⟩,⟨_,rfl,rfl⟩,⟨_,rfl,rfl⟩,⟨_,rfl,rfl⟩,⟨_,rfl,rfl⟩,⟨_,rfl,rfl⟩,trivial⟩
theorem one_2B {t' mode' pad':Int} {back':Bool} {lk' li' lb':Nat} {vk' vi' vb':List Value} {t mode pad:Int} {back:Bool} {k:Nat} {xs:List V} {iv last:Bs} {st:MS} {x:HK} {st':MS} {last' H' o':Bs} {n':Nat} (U:Con C N.ctx_Ctx_Update [.p (.k 0) 0,.z lb' vb'] [cxO true t mode pad back k xs iv x last,moX (cipV t k xs) (cxMd mode) back st 2,gnB st.row st.gone,x.b] (.ret (.t [.z n' (bv o'),i64 0])) [cxX true true t mode pad back (cipV t k xs) (.z iv.length (bv iv)) (.p (.k 1) 0) (.o 1 (.k 5) 0 H'.length) (.z last'.length (bv last')),moX (cipV t k xs) (cxMd mode) back st' 4,.dead,.dead,gnB st'.row st'.gone,.sc (bv H')]):
  Con C N.run_one [.p (.k 0) 0,.a [i64 2,i64 t',i64 mode',i64 pad',bool back',.z lk' vk',.z li' vi',.z lb' vb']] [cxO true t mode pad back k xs iv x last,moX (cipV t k xs) (cxMd mode) back st 2,gnB st.row st.gone,x.b] (.ret (.a [(.z n' (bv o')),i64 0,i64 H'.length])) [cxX true true t mode pad back (cipV t k xs) (.z iv.length (bv iv)) (.p (.k 1) 0) (.o 1 (.k 5) 0 H'.length) (.z last'.length (bv last')),moX (cipV t k xs) (cxMd mode) back st' 4,.dead,.dead,gnB st'.row st'.gone,.sc (bv H')]:=by
 obtain⟨ch,row,g⟩:=st
 obtain⟨ch',row',g'⟩:=st'
 rcases row with _|⟨a,r⟩<;>rcases row' with _|⟨a',r'⟩<;>rcases x with _|H|H
 all_goals
  refine fd.run_one.p ?_
  refine⟨⟨[(2,.p (.k 4) 0),(3,.p (.k 5) 0),(4,.p (.k 6) 0),(5,.f (.func N.run_one_d1) [] [.p (.k 4) 0,.p (.k 6) 0])],[_,_,_,_,_,_,_]⟩,⟨[.k 0,.k 1,.k 2,.k 3,.d 2 0,.d 3 0,.d 4 0],⟨rfl,rfl,rfl,rfl,trivial⟩,⟨_,rfl,rfl⟩,⟨_,rfl,rfl⟩,⟨_,rfl,rfl⟩,⟨_,rfl,rfl⟩,⟨_,rfl,rfl⟩,⟨_,rfl,rfl⟩,⟨_,rfl,rfl⟩,trivial⟩,_,_,rfl,rfl,?_⟩
  refine⟨_,rfl,?_⟩
  refine⟨_,rfl,?_⟩
  refine⟨_,rfl,?_⟩
  refine⟨[.k 0,.k 1,.k 2,.k 3],_,_,_,_,U,rfl,rfl,?_⟩
  refine⟨Za rfl,?_⟩
  refine⟨Za rfl,?_⟩
  refine⟨[.z n' (bv o'),i64 0,i64 0],rfl,rfl,?_⟩
  refine⟨Za rfl,?_⟩
  refine⟨[.k 4,.k 6,.k 0,.k 1,.d 26 4,.d 26 5],_,_,_,_,d1B (o:=some (n',bv o')) (last:=last') (x:= .o H'),rfl,rfl,_,rfl,?_⟩
  refine⟨[.z n' (bv o'),i64 0,i64 H'.length],rfl,rfl,?_⟩
  refine⟨_,_,?_,WkO.refl _,WkBs.refl _⟩
  exact⟨_,rfl,[.k 0,.k 1,.k 2,.k 3,.d 26 4,.d 26 5],rfl,⟨_,rfl,rfl⟩,⟨_,rfl,rfl⟩,⟨_,rfl,rfl⟩,⟨_,rfl,rfl⟩,⟨_,rfl,rfl⟩,⟨_,rfl,rfl⟩,trivial⟩
theorem one_2Bk {t' mode' pad':Int} {back':Bool} {lk' li' lb':Nat} {vk' vi' vb':List Value} {t mode pad:Int} {back:Bool} {k:Nat} {xs:List V} {iv last:Bs} {st:MS} {x:HK} {st':MS} {last' H' o':Bs} {n':Nat} (U:Con C N.ctx_Ctx_Update [.p (.k 0) 0,.z lb' vb'] [cxO true t mode pad back k xs iv x last,moX (cipV t k xs) (cxMd mode) back st 2,gnB st.row st.gone,x.b] (.ret (.t [.z n' (bv o'),i64 0])) [cxX true true t mode pad back (cipV t k xs) (.z iv.length (bv iv)) (.p (.k 1) 0) (.o 1 (.k 4) 0 H'.length) (.z last'.length (bv last')),moX (cipV t k xs) (cxMd mode) back st' 2,gnB st'.row st'.gone,.dead,.sc (bv H')]):
  Con C N.run_one [.p (.k 0) 0,.a [i64 2,i64 t',i64 mode',i64 pad',bool back',.z lk' vk',.z li' vi',.z lb' vb']] [cxO true t mode pad back k xs iv x last,moX (cipV t k xs) (cxMd mode) back st 2,gnB st.row st.gone,x.b] (.ret (.a [(.z n' (bv o')),i64 0,i64 H'.length])) [cxX true true t mode pad back (cipV t k xs) (.z iv.length (bv iv)) (.p (.k 1) 0) (.o 1 (.k 4) 0 H'.length) (.z last'.length (bv last')),moX (cipV t k xs) (cxMd mode) back st' 2,gnB st'.row st'.gone,.dead,.sc (bv H')]:=by
 obtain⟨ch,row,g⟩:=st
 obtain⟨ch',row',g'⟩:=st'
 rcases row with _|⟨a,r⟩<;>rcases row' with _|⟨a',r'⟩<;>rcases x with _|H|H
 all_goals
  refine fd.run_one.p ?_
  refine⟨⟨[(2,.p (.k 4) 0),(3,.p (.k 5) 0),(4,.p (.k 6) 0),(5,.f (.func N.run_one_d1) [] [.p (.k 4) 0,.p (.k 6) 0])],[_,_,_,_,_,_,_]⟩,⟨[.k 0,.k 1,.k 2,.k 3,.d 2 0,.d 3 0,.d 4 0],⟨rfl,rfl,rfl,rfl,trivial⟩,⟨_,rfl,rfl⟩,⟨_,rfl,rfl⟩,⟨_,rfl,rfl⟩,⟨_,rfl,rfl⟩,⟨_,rfl,rfl⟩,⟨_,rfl,rfl⟩,⟨_,rfl,rfl⟩,trivial⟩,_,_,rfl,rfl,?_⟩
  refine⟨_,rfl,?_⟩
  refine⟨_,rfl,?_⟩
  refine⟨_,rfl,?_⟩
  refine⟨[.k 0,.k 1,.k 2,.k 3],_,_,_,_,U,rfl,rfl,?_⟩
  refine⟨Za rfl,?_⟩
  refine⟨Za rfl,?_⟩
  refine⟨[.z n' (bv o'),i64 0,i64 0],rfl,rfl,?_⟩
  refine⟨Za rfl,?_⟩
  refine⟨[.k 4,.k 6,.k 0,.k 1,.k 2,.d 26 4],_,_,_,_,d1B (o:=some (n',bv o')) (last:=last') (x:= .o H'),rfl,rfl,_,rfl,?_⟩
  refine⟨[.z n' (bv o'),i64 0,i64 H'.length],rfl,rfl,?_⟩
  refine⟨_,_,?_,WkO.refl _,WkBs.refl _⟩
  exact⟨_,rfl,[.k 0,.k 1,.k 2,.k 3,.d 26 4],rfl,⟨_,rfl,rfl⟩,⟨_,rfl,rfl⟩,⟨_,rfl,rfl⟩,⟨_,rfl,rfl⟩,⟨_,rfl,rfl⟩,trivial⟩
theorem one_3B {t' mode' pad':Int} {back':Bool} {lk' li' lb':Nat} {vk' vi' vb':List Value} {t mode pad:Int} {back:Bool} {k:Nat} {xs:List V} {iv last:Bs} {st:MS} {x:HK} {last' o':Bs} {n':Nat} {e':Int} (U:Con C N.ctx_Ctx_Final [.p (.k 0) 0] [cxO true t mode pad back k xs iv x last,moX (cipV t k xs) (cxMd mode) back st 2,gnB st.row st.gone,x.b] (.ret (.t [.z n' (bv o'),i64 e'])) [cxC t mode pad back k xs iv last',.dead,.dead,.dead,.dead]):
  Con C N.run_one [.p (.k 0) 0,.a [i64 3,i64 t',i64 mode',i64 pad',bool back',.z lk' vk',.z li' vi',.z lb' vb']] [cxO true t mode pad back k xs iv x last,moX (cipV t k xs) (cxMd mode) back st 2,gnB st.row st.gone,x.b] (.ret (.a [(.z n' (bv o')),i64 e',i64 0])) [cxC t mode pad back k xs iv last',.dead,.dead,.dead]:=by
 obtain⟨ch,row,g⟩:=st
 rcases row with _|⟨a,r⟩<;>rcases x with _|H|H
 all_goals
  refine fd.run_one.p ?_
  refine⟨⟨[(2,.p (.k 4) 0),(3,.p (.k 5) 0),(4,.p (.k 6) 0),(5,.f (.func N.run_one_d1) [] [.p (.k 4) 0,.p (.k 6) 0])],[_,_,_,_,_,_,_]⟩,⟨[.k 0,.k 1,.k 2,.k 3,.d 2 0,.d 3 0,.d 4 0],⟨rfl,rfl,rfl,rfl,trivial⟩,⟨_,rfl,rfl⟩,⟨_,rfl,rfl⟩,⟨_,rfl,rfl⟩,⟨_,rfl,rfl⟩,⟨_,rfl,rfl⟩,⟨_,rfl,rfl⟩,⟨_,rfl,rfl⟩,trivial⟩,_,_,rfl,rfl,?_⟩
  refine⟨_,rfl,?_⟩
  refine⟨_,rfl,?_⟩
  refine⟨[.k 0,.k 1,.k 2,.k 3],_,_,_,_,U,rfl,rfl,?_⟩
  refine⟨Za rfl,?_⟩
  refine⟨Za rfl,?_⟩
  refine⟨[.z n' (bv o'),i64 e',i64 0],rfl,rfl,?_⟩
  refine⟨Za rfl,?_⟩
  refine⟨[.k 4,.k 6,.k 0,.k 1],_,_,_,_,d1C (o:=some (n',bv o')) (last:=last'),rfl,rfl,_,rfl,?_⟩
  refine⟨[.z n' (bv o'),i64 e',i64 0],rfl,rfl,?_⟩
  refine⟨_,_,?_,WkO.refl _,WkBs.refl _⟩
  exact⟨_,rfl,[.k 0,.k 1,.k 2,.k 3],rfl,⟨_,rfl,rfl⟩,⟨_,rfl,rfl⟩,⟨_,rfl,rfl⟩,⟨_,rfl,rfl⟩,trivial⟩
abbrev clV (x:Cl):List V:=[i64 x.kind,i64 x.c.t,i64 x.c.mode,i64 x.c.pad,bool x.c.back,.z x.c.key.length (bv x.c.key),.z x.c.iv.length (bv x.c.iv),.z x.inp.length (bv x.inp)]
abbrev toV (τ:To):List V:=[.z τ.out.length (bv τ.out),i64 τ.e,i64 τ.held]
noncomputable def rBk:CX→Bs→List B
 | .nw,_=>[cxX false false 0 0 0 false nilp nilv nilp nilv nilv,.dead,.dead,.dead]
 | .op c none,_=>[cxO true c.t c.mode c.pad c.back c.k c.xs c.iv .n c.iv,moX (cipV c.t c.k c.xs) (cxMd c.mode) c.back ⟨c.iv,[],[]⟩ 2,.dead,.dead]
 | .op c (some M),_=>[cxO true c.t c.mode c.pad c.back c.k c.xs c.iv (.o (c.H M)) (c.L M),moX (cipV c.t c.k c.xs) (cxMd c.mode) c.back (c.S M) 2,gnB (c.S M).row (c.S M).gone,.sc (bv (c.H M))]
 | .cl c,last=>[cxC c.t c.mode c.pad c.back c.k c.xs c.iv last,.dead,.dead,.dead]
noncomputable abbrev rU1 (c:Cf) (M:Bs):List B:=[cxX true true c.t c.mode c.pad c.back (cipV c.t c.k c.xs) (.z c.iv.length (bv c.iv)) (.p (.k 1) 0) (.o 1 (.k 5) 0 (c.H M).length) (.z (c.L M).length (bv (c.L M))),moX (cipV c.t c.k c.xs) (cxMd c.mode) c.back (c.S M) 4,.dead,.dead,gnB (c.S M).row (c.S M).gone,.sc (bv (c.H M))]
noncomputable abbrev rU2 (c:Cf) (M:Bs):List B:=[cxX true true c.t c.mode c.pad c.back (cipV c.t c.k c.xs) (.z c.iv.length (bv c.iv)) (.p (.k 1) 0) (.o 1 (.k 4) 0 (c.H M).length) (.z (c.L M).length (bv (c.L M))),moX (cipV c.t c.k c.xs) (cxMd c.mode) c.back (c.S M) 2,gnB (c.S M).row (c.S M).gone,.dead,.sc (bv (c.H M))]
noncomputable abbrev rN (c:Cf):List B:=[cxX true true c.t c.mode c.pad c.back (cipV c.t c.k c.xs) (.z c.iv.length (bv c.iv)) (.p (.k 4) 0) nilv (.z c.iv.length (bv c.iv)),.dead,.dead,.dead,moX (cipV c.t c.k c.xs) (cxMd c.mode) c.back ⟨c.iv,[],[]⟩ 5,.dead,.dead]
theorem n21:¬((2:Int)=1):=by decide
theorem n31:¬((3:Int)=1):=by decide
theorem n32:¬((3:Int)=2):=by decide
theorem n41:¬((4:Int)=1):=by decide
theorem n42:¬((4:Int)=2):=by decide
theorem n43:¬((4:Int)=3):=by decide
def Left (σ:CX) (last:Bs) (bs:List B):Prop:=bs=rBk σ last∨(∃c M,σ= .op c (some M)∧bs=rU1 c M)∨(∃c M,σ= .op c (some M)∧bs=rU2 c M)∨(∃c,σ= .op c none∧bs=rN c)
theorem one_is {σ:CX} {x:Cl} {last:Bs} {r:V} {bs:List B} {o:Bs×Int} {σ':CX} {last':Bs} (h:Con C N.run_one [.p (.k 0) 0,.a (clV x)] (rBk σ last) (.ret r) bs) (ho:rnOut σ x=o) (hn:rnNext σ x=σ') (hr:r= .a (toV ⟨o.1,o.2,rnHeld σ'⟩)) (hl:Left σ' last' bs):
  ∃last' bs,Left (rnNext σ x) last' bs∧Con C N.run_one [.p (.k 0) 0,.a (clV x)] (rBk σ last) (.ret (.a (toV (rnTold σ x)))) bs:=by
 refine⟨last',bs,by rw[hn];exact hl,?_⟩
 have e:rnTold σ x=⟨o.1,o.2,rnHeld σ'⟩:=by unfold rnTold;rw[ho,hn]
 rw[e,←hr]
 exact h
end Go.Scr
