/-
  What the functions of the given program reckon, each by a contract, up to the law. It is no claim by itself; each contract bears its own conditions.
-/
import Derived.Test.YtdkledbmjmmliaaGreatDoorY3
set_option linter.unusedVariables false
set_option linter.unusedSimpArgs false
set_option maxRecDepth 100000
namespace Go.Scr
open Go.Proofs
open Int renaming toNat_natCast → Za, tmod_eq_emod_of_nonneg → Zb
open Nat renaming le_of_ble_eq_true → Zc, dvd_of_mod_eq_zero → Zg, div_add_mod → Zi, mul_one → Zj, div_mul_le_self → Zk, sub_zero → Zl, le_of_dvd → Zm, mul_mod_left → Zn, zero_add → Zp, mul_succ → Zq
open IntWalk renaming i64_in → Zd
open List renaming length_take → Ze, length_drop → Zf, length_append → Zh, take_append_drop → Zo
open Go.IntKind renaming i64 → I6
theorem c_rshot_pad {t key s k xs rs} (h:Ciph t key s k xs rs) {mode pad:Int} {m:Nat} {vk vi vm:List Value} {iv msg:List UInt8} (hvk:vk=bv key) (hvi:vi=bv iv) (hvm:vm=bv msg) (hi:iv.length=if mode=1 then 0 else s) (hmm:msg.length=m) (hmb:m≤100000) (hm:1≤mode∧mode≤2) (hp:pad=1∨pad=2∨pad=3):
  Con C N.r15_Shot [cfgV t mode pad false,.z key.length vk,.z iv.length vi,.z m vm] [] (.ret (.t [.z (m/s*s+s) (bv (moStep (cF t key false) (cF t key true) s mode false ⟨iv,[],[]⟩ (padUp pad s msg)).1),i64 0])) []:=by
 subst hvk;subst hvi;subst hvm
 have hs:=h.s_le
 have K0:MK s mode ⟨iv,[],[]⟩:=MK.new (by omega) (by
  by_cases h1:mode=1
  ·exact .inl h1
  ·rw[if_neg h1]at hi;exact .inr hi)
 have R0:RelD s mode (⟨iv,[],[]⟩,[],0):=RelD.new
 have hs8:s=8∨s=16:=h.s_two
 have e1:I6.wrap (I6.wrap ((m:Int).tdiv (s:Int))*(s:Int))=((m/s*s:Nat):Int):=i64_quomul (by omega)
 obtain⟨a,ha⟩:∃a,a=m-m%s:=⟨_,rfl⟩
 have hml:=Nat.mod_lt m (show 0<s by omega)
 have hmle:=Nat.mod_le m s
 have hdm:=Zi m s
 have ham:m/s*s=a:=by rw[Nat.mul_comm]at hdm;omega
 have lT:(msg.drop a).length=m%s:=by rw[Zf];omega
 have lA:(sub msg 0 a).length=a:=by rw[sub_length];omega
 have hvA:sub (bv msg) 0 a=bv (sub msg 0 a):=bv_sub _ _ _
 have hvT:sub (bv msg) a (m-a)=bv (msg.drop a):=bv_dropN hmm (by omega)
 have hma:m-a=m%s:=by omega
 have hPU:padUp pad s msg=sub msg 0 a++pdAdd pad s (msg.drop a):=by unfold padUp;rw[hmm,←ha];rfl
 have lP:=pdAdd_len (kind:=pad) (tail:=msg.drop a) (size:=s) (by omega)
 have lU:(padUp pad s msg).length=a+s:=by rw[hPU,Zh,lA,lP]
 have hg:(a+s)%moGrain s mode=0:=by
  unfold moGrain
  rw[if_pos (by omega),←ham,Nat.add_mod_right,Zn]
 have cP:=c_r14_add (kind:=pad) (s:=s) (vt:=bv (msg.drop a)) hp hs8 rfl lT hml
 have T0:=c_rstep h (back:=false) (x:=(⟨iv,[],[]⟩,[],0)) (b:=padUp pad s msg) rfl lU (by omega) K0 R0 hg (.inr rfl)
 rw[ham]at e1 ⊢
 generalize rdStep (cF t key false) (cF t key true) s mode false (⟨iv,[],[]⟩,[],0) (padUp pad s msg)=Y at*
 obtain⟨⟨c1,row1,g1⟩,R1,u1⟩:=Y
 dsimp only at T0
 generalize (moStep (cF t key false) (cF t key true) s mode false ⟨iv,[],[]⟩ (padUp pad s msg)).1=OO at*
 generalize padUp pad s msg=U at*
 generalize pdAdd pad s (msg.drop a)=PA at*
 refine con.r15_Shot ?_
 refine⟨[i64 t,i64 mode,i64 pad,bool false],rfl,rfl,?_⟩
 refine⟨[],_,_,_,_,c_rcheck_ok h rfl ⟨hm.1,by omega⟩ (by omega) (.inr hm.2) hi,rfl,rfl,?_⟩
 refine⟨_,rfl,?_⟩
 refine⟨[],_,_,_,_,h.rnew,rfl,rfl,?_⟩
 refine⟨_,rfl,?_⟩
 refine spl_d (fun hh=>absurd hh (by omega)) (fun _=> ?_)
 refine⟨[],_,_,_,_,h.rsize,rfl,rfl,?_⟩
 refine⟨_,rfl,?_⟩
 refine⟨_,rfl,?_⟩
 refine⟨[],_,_,_,_,c_r12_new h (mode:=mode) (back:=false) (i:=1) (vi:=bv iv) (iv:=iv) rfl rfl ⟨hm.1,by omega⟩ hi,rfl,rfl,?_⟩
 refine⟨_,rfl,?_⟩
 refine spl_eq (fun h4=>absurd h4 (by omega)) (fun _=> ?_)
 refine⟨_,rfl,?_⟩
 refine⟨by omega,?_⟩
 refine⟨_,rfl,?_⟩
 refine⟨by rw[e1];omega,by rw[e1];omega,by first|omega|(rw [e1];omega),by first|omega|(rw [e1];omega),?_⟩
 refine⟨[],_,_,_,_,cP,?_,rfl,?_⟩
 ·rw[e1]
  show[i64 pad,i64 s,V.z (m-((a:Nat):Int).toNat) (sub (bv msg) ((a:Nat):Int).toNat (m-((a:Nat):Int).toNat))]=_
  rw[Za,hvT,hma]
 refine⟨by rw[e1];omega,by rw[e1];omega,by first|omega|(rw [e1];omega),by first|omega|(rw [e1];omega),?_⟩
 refine⟨by rw[e1,Za,Zl,hvA,bv_len,lA],by rw[e1];omega,by decide,?_⟩
 refine⟨by first|omega|(rw [bv_len];omega),by rw[e1];omega,by rw[e1,Za,Zl,hvA];show 0+(0+a)*1≤(bv (sub msg 0 a)).length;rw[bv_len,lA];omega,?_⟩
 rcases row1 with _|⟨a1,r1⟩
 all_goals
  refine⟨[.d 56 0,.d 56 1],_,_,_,_,T0,?_,rfl,?_⟩
  ·rw[e1]
   show[V.p (.k 0) 0,V.z (0+(((a:Nat):Int).toNat-0)+s) (sub (sub (sub (bv msg) 0 (((a:Nat):Int).toNat-0)) 0 ((0+(((a:Nat):Int).toNat-0))*1)++sub (bv PA) 0 (s*1)) 0 (0+(((a:Nat):Int).toNat-0)+s))]=_
   rw[Za,Zl,Zp,Zj,Zj,hvA,bv_all lA,bv_all lP,bv_app,←hPU,bv_all lU]
  exact⟨_,rfl,[],rfl,trivial⟩
theorem c_rshot_b0 {t key s k xs rs} (h:Ciph t key s k xs rs) {mode pad:Int} {m:Nat} {vk vi vm:List Value} {iv msg:List UInt8} (hvk:vk=bv key) (hvi:vi=bv iv) (hvm:vm=bv msg) (hi:iv.length=if mode=1 then 0 else s) (hmm:msg.length=m) (hmb:m≤100000) (hm:1≤mode∧mode≤2) (hp:pad=1∨pad=2∨pad=3) (h0:m=0∨m%s≠0):
  Con C N.r15_Shot [cfgV t mode pad true,.z key.length vk,.z iv.length vi,.z m vm] [] (.ret (.t [nilv,i64 7])) []:=by
 subst hvk;subst hvi;subst hvm
 have hs:=h.s_le
 have em:((m:Int).tmod (s:Int))=((m%s:Nat):Int):=by rw[Zb (by omega)];rfl
 refine con.r15_Shot ?_
 refine⟨[i64 t,i64 mode,i64 pad,bool true],rfl,rfl,?_⟩
 refine⟨[],_,_,_,_,c_rcheck_ok h rfl ⟨hm.1,by omega⟩ (by omega) (.inr hm.2) hi,rfl,rfl,?_⟩
 refine⟨_,rfl,?_⟩
 refine⟨[],_,_,_,_,h.rnew,rfl,rfl,?_⟩
 refine⟨_,rfl,?_⟩
 refine spl_d (fun hh=>absurd hh (by omega)) (fun _=> ?_)
 refine⟨[],_,_,_,_,h.rsize,rfl,rfl,?_⟩
 refine⟨_,rfl,?_⟩
 refine⟨_,rfl,?_⟩
 refine⟨[],_,_,_,_,c_r12_new h (mode:=mode) (back:=true) (i:=1) (vi:=bv iv) (iv:=iv) rfl rfl ⟨hm.1,by omega⟩ hi,rfl,rfl,?_⟩
 refine⟨_,rfl,?_⟩
 refine spl_eq (fun h4=>absurd h4 (by omega)) (fun _=> ?_)
 refine⟨_,rfl,?_⟩
 refine spl_eq (fun hz=> ?_) (fun hz=> ?_)
 ·exact⟨_,rfl,[],rfl,trivial⟩
 ·refine⟨by omega,?_⟩
  refine spl_ne (fun _=> ?_) (fun hh=>absurd hh (by rw[em];omega))
  exact⟨_,rfl,[],rfl,trivial⟩
theorem c_rshot_b8 {t key s k xs rs} (h:Ciph t key s k xs rs) {mode pad:Int} {m:Nat} {vk vi vm:List Value} {iv msg:List UInt8} (hvk:vk=bv key) (hvi:vi=bv iv) (hvm:vm=bv msg) (hi:iv.length=if mode=1 then 0 else s) (hmm:msg.length=m) (hmb:m≤100000) (hm:1≤mode∧mode≤2) (hp:pad=1∨pad=2∨pad=3) (h0:0<m) (hz:m%s=0) (hL:pdLong pad ((moBlks (cF t key false) (cF t key true) mode true s msg iv (m/s)).1.drop (m-s))=0):
  Con C N.r15_Shot [cfgV t mode pad true,.z key.length vk,.z iv.length vi,.z m vm] [] (.ret (.t [nilv,i64 8])) []:=by
 subst hvk;subst hvi;subst hvm
 have hs:=h.s_le
 have em:((m:Int).tmod (s:Int))=((m%s:Nat):Int):=by rw[Zb (by omega)];rfl
 have hs8:s=8∨s=16:=h.s_two
 have hci:=h.ci
 have hsm:s≤m:=Zm (by omega) (Zg hz)
 have hdm:=Zi m s
 have hc:mode=1∨mode=2∧iv.length=s:=by
  by_cases h1:mode=1
  ·exact .inl h1
  ·rw[if_neg h1]at hi;exact .inr ⟨by omega,hi⟩
 have lo:(moBlks (cF t key false) (cF t key true) mode true s msg iv (m/s)).1.length=m:=by
  rw[(moBlks_ok hci (by omega) (by omega) (m/s) (by omega)).1];omega
 have T0:=c_rstep_blk_own h (mode:=mode) (back:=true) (b:=msg) (ch:=iv) (c:=iv.length) (vb:=bv msg) rfl hmm (by omega) hc rfl hz
 generalize moBlks (cF t key false) (cF t key true) mode true s msg iv (m/s)=S0 at*
 obtain⟨o,c1⟩:=S0
 dsimp only at T0 lo hL ⊢
 have lD:(o.drop (m-s)).length=s:=by rw[Zf,lo];omega
 have e1:I6.wrap ((m:Int)-(s:Int))=((m-s:Nat):Int):=by rw[Zd _ (by omega)];omega
 have hvD:sub (bv o) (m-s) s=bv (o.drop (m-s)):=by
  have:=bv_dropN lo (show m-s≤m by omega)
  rwa [show m-(m-s)=s by omega]at this
 have cS:=c_r14_strip_no (vb:=bv (o.drop (m-s))) rfl hp hs8 lD hL
 refine con.r15_Shot ?_
 refine⟨[i64 t,i64 mode,i64 pad,bool true],rfl,rfl,?_⟩
 refine⟨[],_,_,_,_,c_rcheck_ok h rfl ⟨hm.1,by omega⟩ (by omega) (.inr hm.2) hi,rfl,rfl,?_⟩
 refine⟨_,rfl,?_⟩
 refine⟨[],_,_,_,_,h.rnew,rfl,rfl,?_⟩
 refine⟨_,rfl,?_⟩
 refine spl_d (fun hh=>absurd hh (by omega)) (fun _=> ?_)
 refine⟨[],_,_,_,_,h.rsize,rfl,rfl,?_⟩
 refine⟨_,rfl,?_⟩
 refine⟨_,rfl,?_⟩
 refine⟨[],_,_,_,_,c_r12_new h (mode:=mode) (back:=true) (i:=1) (vi:=bv iv) (iv:=iv) rfl rfl ⟨hm.1,by omega⟩ hi,rfl,rfl,?_⟩
 refine⟨_,rfl,?_⟩
 refine spl_eq (fun h4=>absurd h4 (by omega)) (fun _=> ?_)
 refine⟨_,rfl,?_⟩
 refine spl_eq (fun h4=>absurd h4 (by omega)) (fun _=> ?_)
 refine⟨by omega,?_⟩
 refine spl_ne (fun hh=>absurd (by rw[em,hz];rfl) hh) (fun _=> ?_)
 refine⟨[.d 56 0,.d 56 1],_,_,_,_,T0,rfl,rfl,?_⟩
 refine⟨_,rfl,?_⟩
 refine⟨by rw[e1];omega,by rw[e1];omega,by first|omega|(rw [e1];omega),by first|omega|(rw [e1];omega),?_⟩
 refine⟨[],_,_,_,_,cS,?_,rfl,?_⟩
 ·rw[e1]
  show[i64 pad,i64 s,V.z (m-((m-s:Nat):Int).toNat) (sub (bv o) (0+((m-s:Nat):Int).toNat*1) (m-((m-s:Nat):Int).toNat))]=_
  rw[Za,Zj,Zp,show m-(m-s)=s by omega,hvD]
 exact⟨_,rfl,[],rfl,trivial⟩
theorem c_rshot_bk {t key s k xs rs} (h:Ciph t key s k xs rs) {mode pad:Int} {m:Nat} {vk vi vm:List Value} {iv msg:List UInt8} (hvk:vk=bv key) (hvi:vi=bv iv) (hvm:vm=bv msg) (hi:iv.length=if mode=1 then 0 else s) (hmm:msg.length=m) (hmb:m≤100000) (hm:1≤mode∧mode≤2) (hp:pad=1∨pad=2∨pad=3) (h0:0<m) (hz:m%s=0) (hL:pdLong pad ((moBlks (cF t key false) (cF t key true) mode true s msg iv (m/s)).1.drop (m-s))≠0):
  Con C N.r15_Shot [cfgV t mode pad true,.z key.length vk,.z iv.length vi,.z m vm] [] (.ret (.t [.z (m-pdLong pad ((moBlks (cF t key false) (cF t key true) mode true s msg iv (m/s)).1.drop (m-s))) (bv ((moBlks (cF t key false) (cF t key true) mode true s msg iv (m/s)).1.take (m-s)++pdStrip pad ((moBlks (cF t key false) (cF t key true) mode true s msg iv (m/s)).1.drop (m-s)))),i64 0])) []:=by
 subst hvk;subst hvi;subst hvm
 have hs:=h.s_le
 have em:((m:Int).tmod (s:Int))=((m%s:Nat):Int):=by rw[Zb (by omega)];rfl
 have hs8:s=8∨s=16:=h.s_two
 have hci:=h.ci
 have hsm:s≤m:=Zm (by omega) (Zg hz)
 have hdm:=Zi m s
 have hc:mode=1∨mode=2∧iv.length=s:=by
  by_cases h1:mode=1
  ·exact .inl h1
  ·rw[if_neg h1]at hi;exact .inr ⟨by omega,hi⟩
 have lo:(moBlks (cF t key false) (cF t key true) mode true s msg iv (m/s)).1.length=m:=by
  rw[(moBlks_ok hci (by omega) (by omega) (m/s) (by omega)).1];omega
 have T0:=c_rstep_blk_own h (mode:=mode) (back:=true) (b:=msg) (ch:=iv) (c:=iv.length) (vb:=bv msg) rfl hmm (by omega) hc rfl hz
 generalize moBlks (cF t key false) (cF t key true) mode true s msg iv (m/s)=S0 at*
 obtain⟨o,c1⟩:=S0
 dsimp only at T0 lo hL ⊢
 have lD:(o.drop (m-s)).length=s:=by rw[Zf,lo];omega
 have e1:I6.wrap ((m:Int)-(s:Int))=((m-s:Nat):Int):=by rw[Zd _ (by omega)];omega
 have hvD:sub (bv o) (m-s) s=bv (o.drop (m-s)):=by
  have:=bv_dropN lo (show m-s≤m by omega)
  rwa [show m-(m-s)=s by omega]at this
 have cS:=c_r14_strip_own (vb:=bv (o.drop (m-s))) rfl hp hs8 lD hL
 have hle:=pdLong_le pad (o.drop (m-s))
 rw[lD]at hle
 have lSt:(pdStrip pad (o.drop (m-s))).length=s-pdLong pad (o.drop (m-s)):=by unfold pdStrip;rw[Ze,lD];omega
 have lTk:(o.take (m-s)).length=m-s:=by rw[Ze,lo];omega
 have hvT:sub (bv o) 0 (m-s)=bv (o.take (m-s)):=bv_sub _ _ _
 generalize pdStrip pad (o.drop (m-s))=ST at*
 generalize pdLong pad (o.drop (m-s))=c at*
 generalize o.take (m-s)=TK at*
 have lc:(TK++ST).length=m-c:=by rw[Zh];omega
 refine con.r15_Shot ?_
 refine⟨[i64 t,i64 mode,i64 pad,bool true],rfl,rfl,?_⟩
 refine⟨[],_,_,_,_,c_rcheck_ok h rfl ⟨hm.1,by omega⟩ (by omega) (.inr hm.2) hi,rfl,rfl,?_⟩
 refine⟨_,rfl,?_⟩
 refine⟨[],_,_,_,_,h.rnew,rfl,rfl,?_⟩
 refine⟨_,rfl,?_⟩
 refine spl_d (fun hh=>absurd hh (by omega)) (fun _=> ?_)
 refine⟨[],_,_,_,_,h.rsize,rfl,rfl,?_⟩
 refine⟨_,rfl,?_⟩
 refine⟨_,rfl,?_⟩
 refine⟨[],_,_,_,_,c_r12_new h (mode:=mode) (back:=true) (i:=1) (vi:=bv iv) (iv:=iv) rfl rfl ⟨hm.1,by omega⟩ hi,rfl,rfl,?_⟩
 refine⟨_,rfl,?_⟩
 refine spl_eq (fun h4=>absurd h4 (by omega)) (fun _=> ?_)
 refine⟨_,rfl,?_⟩
 refine spl_eq (fun h4=>absurd h4 (by omega)) (fun _=> ?_)
 refine⟨by omega,?_⟩
 refine spl_ne (fun hh=>absurd (by rw[em,hz];rfl) hh) (fun _=> ?_)
 refine⟨[.d 56 0,.d 56 1],_,_,_,_,T0,rfl,rfl,?_⟩
 refine⟨_,rfl,?_⟩
 refine⟨by rw[e1];omega,by rw[e1];omega,by first|omega|(rw [e1];omega),by first|omega|(rw [e1];omega),?_⟩
 refine⟨[],_,_,_,_,cS,?_,rfl,?_⟩
 ·rw[e1]
  show[i64 pad,i64 s,V.z (m-((m-s:Nat):Int).toNat) (sub (bv o) (0+((m-s:Nat):Int).toNat*1) (m-((m-s:Nat):Int).toNat))]=_
  rw[Za,Zj,Zp,show m-(m-s)=s by omega,hvD]
 refine⟨by rw[e1];omega,by rw[e1];omega,by first|omega|(rw [e1];omega),by first|omega|(rw [e1];omega),?_⟩
 refine⟨by first|omega|(rw [bv_len];omega),by rw[e1,Za];omega,by rw[e1,Za,bv_len,lo];omega,?_⟩
 refine⟨_,rfl,[],congrArg (fun z=>V.t [z,i64 0]) ?_,trivial⟩
 rw[e1,Za]
 show V.z (m-s-0+(s-c)) (sub (sub (bv o) 0 ((m-s-0)*1)++sub (bv ST) 0 ((s-c)*1)) 0 (m-s-0+(s-c)))=_
 rw[Zl,Zj,Zj,hvT,bv_all lSt,bv_app,show m-s+(s-c)=m-c by omega,bv_all lc]
theorem Con.out {f:FuncId} {args:List V} {r r':V} (hc:Con C f args [] (.ret r) []) (h:Wk r r'):Con C f args [] (.ret r') []:=
 ⟨hc.1,fun w F ι vs a b c d=>(hc.2 w F ι vs a b c d).mono fun e w' ⟨F',ι',h1,h2,h3,h4,h5,hoc⟩=>⟨F',ι',h1,h2,h3,h4,h5,WkO.oc (.ret h) hoc⟩⟩
abbrev shV (r:List UInt8×Int):V:= .t [.z r.1.length (bv r.1),i64 r.2]
theorem out_ok {f args} {r:List UInt8×Int} {l:Nat} {o:List UInt8} (e:r=(o,0)) (hl:o.length=l) (P:Con C f args [] (.ret (.t [.z l (bv o),i64 0])) []):Con C f args [] (.ret (shV r)) []:=by
 subst e;subst hl;exact P
theorem out_no {f args} {r:List UInt8×Int} {e:Int} (h:r=([],e)) (P:Con C f args [] (.ret (.t [nilv,i64 e])) []):Con C f args [] (.ret (shV r)) []:=by
 subst h;exact P.out (.t (.cons .nl (.cons (.refl _) .nil)))
theorem shot_sh {t key s k xs rs} (h:Ciph t key s k xs rs) {mode pad:Int} {back:Bool} {m:Nat} {iv msg:List UInt8} (ok:shOk s mode pad iv) (hmm:msg.length=m) (hmb:m≤100000):
  Con C N.shot_Shot [cfgV t mode pad back,.z key.length (bv key),.z iv.length (bv iv),.z m (bv msg)] [] (.ret (shV (shP (cF t key false) (cF t key true) s mode pad back iv msg))) []∧
  Con C N.r15_Shot [cfgV t mode pad back,.z key.length (bv key),.z iv.length (bv iv),.z m (bv msg)] [] (.ret (shV (shP (cF t key false) (cF t key true) s mode pad back iv msg))) []:=by
 have hs:=h.s_le
 have hci:=h.ci
 obtain⟨o1,o2,o3,o4⟩:=ok
 have ok:shOk s mode pad iv:=⟨o1,o2,o3,o4⟩
 by_cases hm7:7≤mode
 ·have e0:shP (cF t key false) (cF t key true) s mode pad back iv msg=shSt (cF t key false) (cF t key true) s mode back iv msg:=by unfold shP;rw[if_pos hm7]
  by_cases hms:s≤m
  ·have hi:iv.length=s:=by rw[o4,if_neg (by omega)]
   have e1:shSt (cF t key false) (cF t key true) s mode back iv msg=((shSt (cF t key false) (cF t key true) s mode back iv msg).1,0):=by
    refine Prod.ext rfl ?_
    unfold shSt;rw[if_neg (by omega)]
   have hl:(shSt (cF t key false) (cF t key true) s mode back iv msg).1.length=m:=by rw[shSt_len hci (by omega) hi (by omega),hmm]
   exact⟨out_ok (e0.trans e1) hl (c_shot_st h rfl rfl rfl ok hmm hmb hm7 hms),out_ok (e0.trans e1) hl (c_rshot_st h rfl rfl rfl ok hmm hmb hm7 hms)⟩
  ·have e1:shSt (cF t key false) (cF t key true) s mode back iv msg=([],7):=by unfold shSt;rw[if_pos (by omega)]
   exact⟨out_no (e0.trans e1) (c_shot_st_no h rfl ok hm7 (by omega)),out_no (e0.trans e1) (c_rshot_st_no h rfl ok hm7 (by omega))⟩
 ·have hm6:1≤mode∧mode≤6:=by omega
  have K0:MK s mode ⟨iv,[],[]⟩:=MK.new hm6 (by
   by_cases h1:mode=1
   ·exact .inl h1
   ·rw[if_neg h1]at o4;exact .inr o4)
  by_cases hp4:pad=4
  ·subst hp4
   have e0:shP (cF t key false) (cF t key true) s mode 4 back iv msg=if msg.length%moGrain s mode=0 then ((moStep (cF t key false) (cF t key true) s mode back ⟨iv,[],[]⟩ msg).1,0)else ([],7):=by unfold shP;rw[if_neg hm7,if_pos rfl]
   by_cases hg:m%moGrain s mode=0
   ·rw[hmm,if_pos hg]at e0
    have hl:(moStep (cF t key false) (cF t key true) s mode back ⟨iv,[],[]⟩ msg).1.length=m:=by rw[moStep_len hci K0.ok (by rw[hmm];exact hg),hmm]
    exact⟨out_ok e0 hl (c_shot_none h rfl rfl rfl hm6 o4 hmm hmb hg),out_ok e0 hl (c_rshot_none h rfl rfl rfl o4 hmm hmb hm6 hg)⟩
   ·rw[hmm,if_neg hg]at e0
    exact⟨out_no e0 (c_shot_bad h rfl rfl rfl o4 hmm hmb hm6 hg),out_no e0 (c_rshot_bad h rfl rfl rfl o4 hmm hmb hm6 hg)⟩
  ·have hm2:1≤mode∧mode≤2:=by omega
   have hp3:pad=1∨pad=2∨pad=3:=by omega
   cases back
   ·have e0:shP (cF t key false) (cF t key true) s mode pad false iv msg=((moStep (cF t key false) (cF t key true) s mode false ⟨iv,[],[]⟩ (padUp pad s msg)).1,0):=by unfold shP;rw[if_neg hm7,if_neg hp4,if_pos rfl]
    have lU:(padUp pad s msg).length=m/s*s+s:=by rw[padUp_len (by omega),hmm]
    have hg:(padUp pad s msg).length%moGrain s mode=0:=by
     rw[lU]
     unfold moGrain
     rw[if_pos (by omega),Nat.add_mod_right,Zn]
    have hl:(moStep (cF t key false) (cF t key true) s mode false ⟨iv,[],[]⟩ (padUp pad s msg)).1.length=m/s*s+s:=by rw[moStep_len hci K0.ok hg,lU]
    exact⟨out_ok e0 hl (c_shot_pad h rfl rfl rfl o4 hmm hmb hm2 hp3),out_ok e0 hl (c_rshot_pad h rfl rfl rfl o4 hmm hmb hm2 hp3)⟩
   ·by_cases h0:m=0∨m%s≠0
    ·have e0:shP (cF t key false) (cF t key true) s mode pad true iv msg=([],7):=by unfold shP;rw[if_neg hm7,if_neg hp4,if_neg (by decide),hmm,if_pos h0]
     refine⟨?_,out_no e0 (c_rshot_b0 h rfl rfl rfl o4 hmm hmb hm2 hp3 h0)⟩
     by_cases hz:m=0
     ·exact out_no e0 (c_shot_b0 h rfl rfl rfl o4 hmm hmb hm2 hp3 hz)
     ·exact out_no e0 (c_shot_b1 h rfl rfl rfl o4 hmm hmb hm2 hp3 (h0.resolve_left hz))
    ·have hpos:0<m:=by omega
     have hz:m%s=0:=Classical.byContradiction fun x=>h0 (.inr x)
     have hsm:s≤m:=Zm hpos (Zg hz)
     have e:(moStep (cF t key false) (cF t key true) s mode true ⟨iv,[],[]⟩ msg).1=(moBlks (cF t key false) (cF t key true) mode true s msg iv (m/s)).1:=by
      unfold moStep
      rw[if_pos (by omega),hmm]
     have hg:m%moGrain s mode=0:=by unfold moGrain;rw[if_pos (by omega)];exact hz
     have lo:(moStep (cF t key false) (cF t key true) s mode true ⟨iv,[],[]⟩ msg).1.length=m:=by rw[moStep_len hci K0.ok (by rw[hmm];exact hg),hmm]
     have e0:shP (cF t key false) (cF t key true) s mode pad true iv msg=if pdLong pad ((moStep (cF t key false) (cF t key true) s mode true ⟨iv,[],[]⟩ msg).1.drop (m-s))=0 then ([],8)else ((moStep (cF t key false) (cF t key true) s mode true ⟨iv,[],[]⟩ msg).1.take (m-s)++pdStrip pad ((moStep (cF t key false) (cF t key true) s mode true ⟨iv,[],[]⟩ msg).1.drop (m-s)),0):=by
      unfold shP;rw[if_neg hm7,if_neg hp4,if_neg (by decide),hmm,if_neg h0]
      simp only[lo]
     by_cases hL:pdLong pad ((moStep (cF t key false) (cF t key true) s mode true ⟨iv,[],[]⟩ msg).1.drop (m-s))=0
     ·rw[if_pos hL]at e0
      exact⟨out_no e0 (c_shot_b8 h rfl rfl rfl o4 hmm hmb hm2 hp3 hpos hz hL),out_no e0 (c_rshot_b8 h rfl rfl rfl o4 hmm hmb hm2 hp3 hpos hz (e▸hL))⟩
     ·rw[if_neg hL]at e0
      have P:=c_shot_bk h (vk:=bv key) (vi:=bv iv) (vm:=bv msg) rfl rfl rfl o4 hmm hmb hm2 hp3 hpos hz hL
      have Q:=c_rshot_bk h (vk:=bv key) (vi:=bv iv) (vm:=bv msg) rfl rfl rfl o4 hmm hmb hm2 hp3 hpos hz (e▸hL)
      rw[←e]at Q
      have hle:=pdLong_le pad ((moStep (cF t key false) (cF t key true) s mode true ⟨iv,[],[]⟩ msg).1.drop (m-s))
      refine⟨out_ok e0 ?_ P,out_ok e0 ?_ Q⟩
      all_goals
       rw[Zh]
       unfold pdStrip
       rw[Ze,Ze,Zf,lo]
       rw[Zf,lo]at hle
       omega
theorem c_shotP {t key s k xs rs} (h:Ciph t key s k xs rs) {mode pad:Int} {back:Bool} {lk li m:Nat} {iv msg:List UInt8} {vk vi vm:List Value} (hvk:vk=bv key) (hvi:vi=bv iv) (hvm:vm=bv msg) (hk:key.length=lk) (hi:iv.length=li) (hm:msg.length=m) (hmb:m≤100000) (ok:shOk s mode pad iv):
  Con C N.shot_Shot [cfgV t mode pad back,.z lk vk,.z li vi,.z m vm] [] (.ret (shV (shP (cF t key false) (cF t key true) s mode pad back iv msg))) []:=by
 subst hvk;subst hvi;subst hvm;subst hk;subst hi
 exact(shot_sh h ok hm hmb).1
theorem c_rshotP {t key s k xs rs} (h:Ciph t key s k xs rs) {mode pad:Int} {back:Bool} {lk li m:Nat} {iv msg:List UInt8} {vk vi vm:List Value} (hvk:vk=bv key) (hvi:vi=bv iv) (hvm:vm=bv msg) (hk:key.length=lk) (hi:iv.length=li) (hm:msg.length=m) (hmb:m≤100000) (ok:shOk s mode pad iv):
  Con C N.r15_Shot [cfgV t mode pad back,.z lk vk,.z li vi,.z m vm] [] (.ret (shV (shP (cF t key false) (cF t key true) s mode pad back iv msg))) []:=by
 subst hvk;subst hvi;subst hvm;subst hk;subst hi
 exact(shot_sh h ok hm hmb).2
theorem shot_cases (t:Int) {key:List UInt8} {lk:Nat} (hk:key.length=lk) (hlk:lk≤1000) (mode pad:Int) (back:Bool) {iv:List UInt8} {li:Nat} (hi:iv.length=li):
  (shErr t mode pad (cSize t).toNat lk li=0∧∃s k xs rs,Ciph t key s k xs rs∧shOk s mode pad iv)∨
  (shErr t mode pad (cSize t).toNat lk li≠0∧Con C N.shot_open [cfgV t mode pad back,.z lk (bv key),.z li (bv iv)] [] (.ret (.t [nilp,i64 (shErr t mode pad (cSize t).toNat lk li)])) []∧
   Con C N.r15_Check [cfgV t mode pad back,.z lk (bv key),.z li (bv iv)] [] (.ret (i64 (shErr t mode pad (cSize t).toNat lk li))) []):=by
 subst hk;subst hi
 by_cases ht:okTag t
 ·by_cases hv:(key.length:Int)∈cLens t
  ·obtain⟨s,k,xs,rs,h⟩:=ciph_ok (key:=key) ht hv
   have hs:(cSize t).toNat=s:=by rw[h.hs,Za]
   rw[hs]
   by_cases hmp:(1≤mode∧mode≤9)∧(1≤pad∧pad≤4)∧(pad=4∨mode≤2)
   ·by_cases hli:iv.length=if mode=1 then 0 else s
    ·left
     refine⟨?_,s,k,xs,rs,h,hmp.1,hmp.2.1,hmp.2.2,hli⟩
     unfold shErr
     rw[if_neg (by exact fun x=>x ht),if_neg (by exact fun x=>x hv),if_neg (by exact fun x=>x hmp),if_neg (by exact fun x=>x hli)]
    ·right
     have e:shErr t mode pad s key.length iv.length=5:=by
      unfold shErr
      rw[if_neg (by exact fun x=>x ht),if_neg (by exact fun x=>x hv),if_neg (by exact fun x=>x hmp),if_pos hli]
     rw[e]
     exact⟨by decide,c_open_iv h rfl hmp.1 hmp.2.1 hmp.2.2 hli,c_rcheck_iv h rfl hmp.1 hmp.2.1 hmp.2.2 hli⟩
   ·right
    have e:shErr t mode pad s key.length iv.length=3:=by
     unfold shErr
     rw[if_neg (by exact fun x=>x ht),if_neg (by exact fun x=>x hv),if_pos hmp]
    rw[e]
    exact⟨by decide,c_open_mode h rfl hmp,c_rcheck_mode h rfl hmp⟩
  ·right
   have e:shErr t mode pad (cSize t).toNat key.length iv.length=4:=by
    unfold shErr
    rw[if_neg (by exact fun x=>x ht),if_pos hv]
   rw[e]
   exact⟨by decide,c_open_new (c_new_badkey ht (by omega) hv) (by decide),c_rcheck_new (c_r11_new_badkey ht hv) (by decide)⟩
 ·right
  have e:shErr t mode pad (cSize t).toNat key.length iv.length=2:=by
   unfold shErr
   rw[if_pos ht]
  rw[e]
  exact⟨by decide,c_open_new (c_new_badtag ht) (by decide),c_rcheck_new (c_r11_new_badtag ht) (by decide)⟩
theorem c_shot_no {t:Int} {key:List UInt8} {lk:Nat} {mode pad:Int} {back:Bool} {iv:List UInt8} {li m:Nat} {vm:List Value} {e:Int} (he:e≠0) (HO:Con C N.shot_open [cfgV t mode pad back,.z lk (bv key),.z li (bv iv)] [] (.ret (.t [nilp,i64 e])) []):
  Con C N.shot_Shot [cfgV t mode pad back,.z lk (bv key),.z li (bv iv),.z m vm] [] (.ret (shV ([],e))) []:=out_no rfl (c_shot_err HO he)
theorem c_rshot_no {t:Int} {key:List UInt8} {lk:Nat} {mode pad:Int} {back:Bool} {iv:List UInt8} {li m:Nat} {vm:List Value} {e:Int} (he:e≠0) (HO:Con C N.r15_Check [cfgV t mode pad back,.z lk (bv key),.z li (bv iv)] [] (.ret (i64 e)) []):
  Con C N.r15_Shot [cfgV t mode pad back,.z lk (bv key),.z li (bv iv),.z m vm] [] (.ret (shV ([],e))) []:=out_no rfl (c_rshot_err HO he)
theorem shot_any (t:Int) {key:List UInt8} {lk:Nat} (hk:key.length=lk) (hlk:lk≤1000) (mode pad:Int) (back:Bool) {m:Nat} {iv msg:List UInt8} {li:Nat} (hi:iv.length=li) (hmm:msg.length=m) (hmb:m≤100000):
  ∃r:List UInt8×Int,Con C N.shot_Shot [cfgV t mode pad back,.z lk (bv key),.z li (bv iv),.z m (bv msg)] [] (.ret (shV r)) []∧Con C N.r15_Shot [cfgV t mode pad back,.z lk (bv key),.z li (bv iv),.z m (bv msg)] [] (.ret (shV r)) []:=by
 rcases shot_cases t hk hlk mode pad back hi with ⟨_,s,k,xs,rs,h,ok⟩|⟨he,P,Q⟩
 ·exact⟨_,c_shotP h rfl rfl rfl hk hi hmm hmb ok,c_rshotP h rfl rfl rfl hk hi hmm hmb ok⟩
 ·exact⟨_,c_shot_no he P,c_rshot_no he Q⟩
theorem moBlks_invB {E D:List UInt8→List UInt8} {n:Nat} {mode:Int} {b c:List UInt8} (h:CI E D n) (hm:mode=1∨mode=2) (hc:mode=1∨c.length=n):∀i,n*i≤b.length→∀t:List UInt8,
  moBlks E D mode false n ((moBlks E D mode true n b c i).1++t) c i=(b.take (n*i),(moBlks E D mode true n b c i).2)
 |0,_,t=>by rw[Nat.mul_zero,List.take_zero];rfl
 |i+1,hi,t=>by
  rw[Zq]at hi
  obtain⟨a1,a2⟩:=moBlks_ok (back:=true) (b:=b) h hm hc i (by omega)
  have hp:(sub b (n*i) n).length=n:=by rw[sub_length];omega
  obtain⟨b1,b2⟩:=moBlk_ok (back:=true) h hm a2 hp
  obtain⟨i1,_⟩:=moBlk_inv h a2 hp true
  have i2:(moBlk E D mode false (moBlks E D mode true n b c i).2 (moBlk E D mode true (moBlks E D mode true n b c i).2 (sub b (n*i) n)).1).2=(moBlk E D mode true (moBlks E D mode true n b c i).2 (sub b (n*i) n)).2:=by
   unfold moBlk at i1 ⊢
   by_cases h1:mode=1
   ·simp only[if_pos h1]
   ·simp only[if_neg h1,if_true,Bool.false_eq_true,if_false,Bool.not_true]at i1 ⊢
    exact i1
  have e:(moBlks E D mode true n b c (i+1)).1=(moBlks E D mode true n b c i).1++(moBlk E D mode true (moBlks E D mode true n b c i).2 (sub b (n*i) n)).1:=rfl
  have e2:(moBlks E D mode true n b c (i+1)).2=(moBlk E D mode true (moBlks E D mode true n b c i).2 (sub b (n*i) n)).2:=rfl
  rw[e,e2,List.append_assoc]
  have ih:=moBlks_invB (b:=b) h hm hc i (by omega) ((moBlk E D mode true (moBlks E D mode true n b c i).2 (sub b (n*i) n)).1++t)
  generalize moBlks E D mode true n b c i=x at*
  generalize moBlk E D mode true x.2 (sub b (n*i) n)=y at*
  have es:sub (x.1++(y.1++t)) (n*i) n=y.1:=by
   have:=(sub_off (a:=x.1) (b:=y.1++t) (n:=n*i) (i:=0) (m:=n) a1).trans (sub_fst b1)
   exact this
  simp only[Bool.not_true]at i1
  rw[moBlks_succ,ih,es,i1,i2,Zq]
  congr 1
  simp only[sub]
  rw[List.take_add]
theorem moStep_invB {E D:List UInt8→List UInt8} {n:Nat} {mode:Int} {s:MS} {b:List UInt8} (h:CI E D n) (hn:0<n) (ok:MOk n mode s) (hm:mode=1∨mode=2) (hb:b.length%n=0):
  (moStep E D n mode false s (moStep E D n mode true s b).1).1=b:=by
 have hl:=moStep_len (back:=true) h ok (b:=b) (by unfold moGrain;rw[if_pos hm];exact hb)
 unfold moStep at hl ⊢
 simp only[if_pos hm]at hl ⊢
 have hd:=Zi b.length n
 have:=moBlks_invB h hm ok.ch (b:=b) (b.length/n) (by omega) []
 rw[List.append_nil]at this
 rw[hl,this]
 simp only[show n*(b.length/n)=b.length by omega,List.take_length]
theorem sub_mod {m n l:Nat} (hz:m%n=0) (h0:0<m) (hl:1≤l) (hln:l≤n):(m-l)%n=n-l:=by
 obtain⟨q,hq⟩:∃q,m=n*q:=⟨m/n,by have:=Zi m n;omega⟩
 obtain⟨p,rfl⟩:∃p,q=p+1:=⟨q-1,by
  rcases Nat.eq_zero_or_pos q with h|h
  ·subst h;omega
  ·omega⟩
 rw[Zq]at hq
 rw[show m-l=n-l+n*p by omega,Nat.add_mul_mod_self_left,Nat.mod_eq_of_lt (by omega)]
theorem shP_three {E D:List UInt8→List UInt8} {n:Nat} {mode pad:Int} {iv b:List UInt8} (h:CI E D n) (hn:0<n) (hm:1≤mode∧mode≤2) (hp:pad=1∨pad=2∨pad=3) (hi:iv.length=if mode=1 then 0 else n) (h0:0<b.length) (hz:b.length%n=0):
  ∃o:List UInt8,o.length=b.length∧shP E D n mode 4 true iv b=(o,0)∧n≤b.length∧
   ((pdLong pad (o.drop (b.length-n))=0∧shP E D n mode pad true iv b=([],8))∨
    ∃l:Nat,1≤l∧l≤n∧shP E D n mode pad true iv b=(o.take (b.length-l),0)∧(pad≠3→shP E D n mode pad false iv (o.take (b.length-l))=(b,0))):=by
 have ok:=ms_ok (iv:=iv) (n:=n) (mode:=mode) (by omega) hi
 have hm':mode=1∨mode=2:=by omega
 have hg:b.length%moGrain n mode=0:=by unfold moGrain;rw[if_pos hm'];exact hz
 have hl:=moStep_len (back:=true) h ok hg
 have hinv:=moStep_invB h hn ok hm' hz
 have hnb:n≤b.length:=Zm h0 (Zg hz)
 have h7:¬7≤mode:=by omega
 have e4:shP E D n mode 4 true iv b=((moStep E D n mode true ⟨iv,[],[]⟩ b).1,0):=by unfold shP;rw[if_neg h7,if_pos rfl,if_pos hg]
 have ep:shP E D n mode pad true iv b=if pdLong pad ((moStep E D n mode true ⟨iv,[],[]⟩ b).1.drop (b.length-n))=0 then ([],8)else ((moStep E D n mode true ⟨iv,[],[]⟩ b).1.take (b.length-n)++pdStrip pad ((moStep E D n mode true ⟨iv,[],[]⟩ b).1.drop (b.length-n)),0):=by
  unfold shP
  rw[if_neg h7,if_neg (by omega),if_neg (by decide),if_neg (by omega)]
  simp only[hl]
 refine⟨_,hl,e4,hnb,?_⟩
 generalize (moStep E D n mode true ⟨iv,[],[]⟩ b).1=o at*
 by_cases hL:pdLong pad (o.drop (b.length-n))=0
 ·rw[if_pos hL]at ep
  exact .inl ⟨hL,ep⟩
 ·rw[if_neg hL]at ep
  right
  have lt:(o.drop (b.length-n)).length=n:=by rw[Zf];omega
  have hle:=pdLong_le pad (o.drop (b.length-n))
  rw[lt]at hle
  have es:pdStrip pad (o.drop (b.length-n))=(o.drop (b.length-n)).take (n-pdLong pad (o.drop (b.length-n))):=by unfold pdStrip;rw[lt]
  refine⟨pdLong pad (o.drop (b.length-n)),by omega,hle,?_,fun h3=> ?_⟩
  ·rw[ep,es]
   congr 1
   have:b.length-pdLong pad (o.drop (b.length-n))=(b.length-n)+(n-pdLong pad (o.drop (b.length-n))):=by omega
   rw[this,List.take_add]
  ·have ha:=pdAdd_strip (kind:=pad) (b:=o.drop (b.length-n)) (by omega) hL
   rw[lt]at ha
   generalize hg2:pdLong pad (o.drop (b.length-n))=l at*
   have lx:(o.take (b.length-l)).length=b.length-l:=by rw[Ze];omega
   have em:(b.length-l)%n=n-l:=sub_mod hz h0 (by omega) hle
   have eu:padUp pad n (o.take (b.length-l))=o:=by
    unfold padUp
    rw[lx,em,show b.length-l-(n-l)=b.length-n by omega,List.take_take,show min (b.length-n) (b.length-l)=b.length-n by omega]
    have:(o.take (b.length-l)).drop (b.length-n)=pdStrip pad (o.drop (b.length-n)):=by
     rw[es,List.drop_take,show b.length-l-(b.length-n)=n-l by omega]
    rw[this,ha,Zo]
   unfold shP
   rw[if_neg h7,if_neg (by omega),if_pos rfl,eu,hinv]
theorem shP_back_bad {E D:List UInt8→List UInt8} {n:Nat} {mode pad:Int} {iv b:List UInt8} (hm:1≤mode∧mode≤2) (hp:pad=1∨pad=2∨pad=3) (h:b.length=0∨b.length%n≠0):shP E D n mode pad true iv b=([],7):=by
 unfold shP
 rw[if_neg (by omega),if_neg (by omega),if_neg (by decide),if_pos h]
theorem sub_two2 {b:List UInt8} {n:Nat} (hb:b.length=n):sub (b++b) (n*0) n=b∧sub (b++b) (n*1) n=b:=by
 refine⟨?_,?_⟩
 ·rw[Nat.mul_zero];exact sub_fst hb
 ·rw[Zj,←hb]
  exact(sub_appR (Nat.le_refl _)).trans (by rw[Nat.sub_self];simp[sub])
theorem two_div {b:List UInt8} {n:Nat} (hn:0<n) (hb:b.length=n):(b++b).length/n=2:=by
 rw[Zh,hb,show n+n=2*n by omega,Nat.mul_div_cancel _ hn]
theorem two_mod {b:List UInt8} {n:Nat} (hb:b.length=n):(b++b).length%n=0:=by
 rw[Zh,hb,show n+n=2*n by omega,Zn]
theorem shP_ecb2 {E D:List UInt8→List UInt8} {n:Nat} {b:List UInt8} (hn:0<n) (hb:b.length=n):shP E D n 1 4 false [] (b++b)=(E b++E b,0):=by
 obtain⟨s1,s2⟩:=sub_two2 hb
 unfold shP
 rw[if_neg (by decide),if_pos rfl,if_pos (by show(b++b).length%n=0;exact two_mod hb)]
 unfold moStep
 rw[if_pos (.inl rfl),two_div hn hb]
 show(([]++(moBlk E D 1 false [] (sub (b++b) (n*0) n)).1)++(moBlk E D 1 false (moBlk E D 1 false [] (sub (b++b) (n*0) n)).2 (sub (b++b) (n*1) n)).1,(0:Int))=_
 rw[s1,s2];rfl
theorem shP_cbc2 {E D:List UInt8→List UInt8} {n:Nat} {b p:List UInt8} (hn:0<n) (hb:b.length=n):shP E D n 2 4 false p (b++b)=(E (xorL b p)++E (xorL b (E (xorL b p))),0):=by
 obtain⟨s1,s2⟩:=sub_two2 hb
 unfold shP
 rw[if_neg (by decide),if_pos rfl,if_pos (by show(b++b).length%n=0;exact two_mod hb)]
 unfold moStep
 rw[if_pos (.inr rfl),two_div hn hb]
 show(([]++(moBlk E D 2 false p (sub (b++b) (n*0) n)).1)++(moBlk E D 2 false (moBlk E D 2 false p (sub (b++b) (n*0) n)).2 (sub (b++b) (n*1) n)).1,(0:Int))=_
 rw[s1,s2];rfl
theorem enc_x_inj {E D:List UInt8→List UInt8} {n:Nat} (h:CI E D n) {b p q:List UInt8} (hb:b.length=n) (hp:p.length=n) (hq:q.length=n):E (xorL b p)=E (xorL b q)↔p=q:=by
 refine⟨fun e=> ?_,fun e=>by rw[e]⟩
 have e2:=congrArg D e
 rw[h.de (xorL_len hb hp),h.de (xorL_len hb hq),xorL_comm b p,xorL_comm b q]at e2
 have e3:=congrArg (fun x=>xorL x b) e2
 rwa [xorL_can (by omega),xorL_can (by omega)]at e3
theorem moMany_front (E mode back) (s:MS) (l:List UInt8) {i:Nat} (hi:i≤l.length):(moMany E mode back s l).1.take i=(moMany E mode back s (l.take i)).1:=by
 have:=moMany_app E mode back (l.take i) (l.drop i) s
 rw[Zo]at this
 rw[this]
 exact take_app (by rw[moMany_len,Ze];omega)
theorem moMany_flip (E) {mode:Int} (hm:mode=5∨mode=6) (b b':Bool):∀(l:List UInt8) (s s':MS),s.ch=s'.ch→s.row=s'.row→(moMany E mode b s l).1=(moMany E mode b' s' l).1
 |[],_,_,_,_=>rfl
 |p::l,s,s',h1,h2=>by
  have n3:¬mode=3:=by omega
  have n4:¬mode=4:=by omega
  obtain⟨c,r,g⟩:=s
  obtain⟨c',r',g'⟩:=s'
  dsimp only at h1 h2
  subst h1;subst h2
  show(moOne E mode b ⟨c,r,g⟩ p).1::(moMany E mode b (moOne E mode b ⟨c,r,g⟩ p).2 l).1=(moOne E mode b' ⟨c,r,g'⟩ p).1::(moMany E mode b' (moOne E mode b' ⟨c,r,g'⟩ p).2 l).1
  have e:(moOne E mode b ⟨c,r,g⟩ p).1=(moOne E mode b' ⟨c,r,g'⟩ p).1∧(moOne E mode b ⟨c,r,g⟩ p).2.ch=(moOne E mode b' ⟨c,r,g'⟩ p).2.ch∧(moOne E mode b ⟨c,r,g⟩ p).2.row=(moOne E mode b' ⟨c,r,g'⟩ p).2.row:=by
   unfold moOne moByt
   simp only[if_neg n3,if_neg n4]
   split<;>exact⟨rfl,rfl,rfl⟩
  rw[e.1,moMany_flip E hm b b' l _ _ e.2.1 e.2.2]
theorem c_w15 {a n:Int} (hn:0<n) (hn2:n≤4611686018427387904) (ha: -9223372036854775808≤a∧a≤9223372036854775807):Con C N.law15_within [i64 a,i64 n] [] (.ret (i64 (a%n))) []:=by
 refine con.law15_within ?_
 have h1: -n<a.tmod n:=Int.lt_tmod_of_pos a hn
 have h2:a.tmod n<n:=Int.tmod_lt_of_pos a hn
 refine⟨by omega,?_⟩
 refine spl_d (fun h=> ?_) (fun h=> ?_)
 ·refine⟨_,rfl,[],congrArg (vi .i64) ?_,trivial⟩
  rw[Zd _ (by omega)]
  rw[←rest_eq a n hn,Zb (a:=a.tmod n+n) (by omega),Int.emod_eq_of_lt (by omega) (by omega)]
 ·refine⟨_,rfl,[],congrArg (vi .i64) ?_,trivial⟩
  rw[←rest_eq a n hn,Zb (a:=a.tmod n+n) (by omega),Int.add_emod_right,Int.emod_eq_of_lt (by omega) (by omega)]
abbrev askV (tag n mode pad:Int) (back:Bool) (lk:Nat) (k:List UInt8) (li:Nat) (iv:List UInt8):V:= .a [i64 tag,i64 n,i64 mode,i64 pad,bool back,.z lk (bv k),.z li (bv iv)]
abbrev In64 (a:Int):Prop:= -9223372036854775808≤a∧a≤9223372036854775807
theorem c_few_y {tag n mode pad:Int} {back:Bool} {lk li:Nat} {k iv:List UInt8} (h:lk≤100∧li≤100):Con C N.law15_Ask_Few [askV tag n mode pad back lk k li iv] [] (.ret (bool true)) []:=by
 refine con.law15_Ask_Few ?_
 refine⟨_,rfl,?_⟩
 refine spl_d (fun _=> ?_) (fun hh=>absurd hh (by omega))
 refine⟨_,rfl,?_⟩
 exact⟨_,rfl,[],congrArg bool (decide_eq_true (by omega)),trivial⟩
theorem c_few_n {tag n mode pad:Int} {back:Bool} {lk li:Nat} {k iv:List UInt8} (h:¬(lk≤100∧li≤100)):Con C N.law15_Ask_Few [askV tag n mode pad back lk k li iv] [] (.ret (bool false)) []:=by
 refine con.law15_Ask_Few ?_
 refine⟨_,rfl,?_⟩
 refine spl_d (fun _=> ?_) (fun hh=> ?_)
 ·refine⟨_,rfl,?_⟩
  exact⟨_,rfl,[],congrArg bool (decide_eq_false (by omega)),trivial⟩
 ·exact⟨_,rfl,[],rfl,trivial⟩
def akMode (mode:Int):Int:=1+mode%9
def akPad (mode pad:Int):Int:=if akMode mode≤2 then 1+pad%4 else 4
theorem c_askmake {tag n mode pad:Int} {back:Bool} {lk li s:Nat} {k iv:List UInt8} (h0:In64 tag) (h1:In64 n) (h2:In64 mode) (h3:In64 pad) (hk:k.length=lk) (hi:iv.length=li) (hs:cSize (tagOf tag)=s) (hs2:s≤16):
  Con C N.law15_Ask_Make [askV tag n mode pad back lk k li iv] [] (.ret (.t [cfgV (tagOf tag) (akMode mode) (akPad mode pad) back,.z (kLen (tagOf tag) n) (bv (keyOf (tagOf tag) n k)),.z (ivN (akMode mode) s) (bv (ivL (akMode mode) s iv))])) []:=by
 have e1:I6.wrap (1+mode%9)=akMode mode:=by rw[Zd _ (by omega)];rfl
 have e2:I6.wrap (1+pad%4)=1+pad%4:=by rw[Zd _ (by omega)]
 have hR:Con C N.r11_Size [i64 (tagOf tag)] [] (.ret (i64 s)) []:=by rw[←hs];exact c_r11_size (tagOf_ok _)
 refine con.law15_Ask_Make ?_
 refine⟨_,rfl,?_⟩
 refine⟨[],_,_,_,_,c_tag h0,rfl,rfl,?_⟩
 refine⟨_,rfl,?_⟩
 refine⟨[],_,_,_,_,c_w15 (a:=mode) (n:=9) (by omega) (by omega) h2,rfl,rfl,?_⟩
 refine⟨_,rfl,?_⟩
 refine⟨Zc rfl,?_⟩
 refine⟨_,rfl,?_⟩
 have hL:∀{vk:List Value},vk=bv k→Con C N.law11_Key [i64 (tagOf tag),i64 n,.z lk vk] [] (.ret (.z (kLen (tagOf tag) n) (bv (keyOf (tagOf tag) n k)))) []:=fun e=>c_keyF (tagOf_ok _) h1 e hk
 have hI:=c_iv (mode:=akMode mode) (s:=s) (vb:=bv iv) rfl hi (by omega)
 refine spl_d (fun hm=> ?_) (fun hm=> ?_)
 ·rw[e1]at hm
  refine⟨_,rfl,?_⟩
  refine⟨[],_,_,_,_,c_w15 (a:=pad) (n:=4) (by omega) (by omega) h3,rfl,rfl,?_⟩
  refine⟨Zc rfl,?_⟩
  rw[e1,e2]
  have hp:akPad mode pad=1+pad%4:=if_pos hm
  rw[hp]
  refine⟨[i64 (tagOf tag),i64 (akMode mode),i64 (1+pad%4),bool back],rfl,rfl,?_⟩
  refine⟨_,rfl,?_⟩
  refine⟨_,rfl,?_⟩
  refine⟨[],_,_,_,_,hL rfl,rfl,rfl,?_⟩
  refine⟨_,rfl,?_⟩
  refine⟨[],_,_,_,_,hR,rfl,rfl,?_⟩
  refine⟨_,rfl,?_⟩
  refine⟨[],_,_,_,_,hI,rfl,rfl,?_⟩
  refine⟨Zc rfl,?_⟩
  refine⟨[i64 (tagOf tag),i64 (akMode mode),i64 (1+pad%4),bool back],rfl,rfl,?_⟩
  exact⟨_,rfl,[],rfl,trivial⟩
 ·rw[e1]at hm
  rw[e1]
  have hp:akPad mode pad=4:=if_neg hm
  rw[hp]
  refine⟨[i64 (tagOf tag),i64 (akMode mode),i64 4,bool back],rfl,rfl,?_⟩
  refine⟨_,rfl,?_⟩
  refine⟨_,rfl,?_⟩
  refine⟨[],_,_,_,_,hL rfl,rfl,rfl,?_⟩
  refine⟨_,rfl,?_⟩
  refine⟨[],_,_,_,_,hR,rfl,rfl,?_⟩
  refine⟨_,rfl,?_⟩
  refine⟨[],_,_,_,_,hI,rfl,rfl,?_⟩
  refine⟨Zc rfl,?_⟩
  refine⟨[i64 (tagOf tag),i64 (akMode mode),i64 4,bool back],rfl,rfl,?_⟩
  exact⟨_,rfl,[],rfl,trivial⟩
def akLen (n:Int) (s l:Nat):Nat:=if 0<(n.tdiv 3)%3 then l/s*s else l
abbrev akMsg (n:Int) (s:Nat) (m:List UInt8):List UInt8:=m.take (akLen n s m.length)
theorem div_mul_wrap {l s:Nat} (hs:0<s) (hl:l≤1000):I6.wrap (I6.wrap ((l:Int).tdiv s)*s)=((l/s*s:Nat):Int):=by
 have h1:=Nat.div_le_self l s
 have h2:=Zk l s
 have e:(l:Int).tdiv s=((l/s:Nat):Int):=by rw[Int.tdiv_eq_ediv_of_nonneg (by omega)];rfl
 rw[e]
 clear e
 generalize l/s=q at h1 h2 ⊢
 rw[Zd (q:Int) (by omega),←Int.natCast_mul,Zd _ (by omega)]
theorem c_size15 {tag n mode pad:Int} {back:Bool} {lk li s l:Nat} {k iv b:List UInt8} (h0:In64 tag) (h1:In64 n) (hs:cSize (tagOf tag)=s) (hs2:0<s∧s≤16) (hb:b.length=l) (hl:l≤1000):
  Con C N.law15_Ask_Size [askV tag n mode pad back lk k li iv,.z l (bv b)] [] (.ret (.z (akLen n s l) (bv (akMsg n s b)))) []:=by
 have hR:Con C N.r11_Size [i64 (tagOf tag)] [] (.ret (i64 s)) []:=by rw[←hs];exact c_r11_size (tagOf_ok _)
 have h3: -9223372036854775808≤n.tdiv 3∧n.tdiv 3≤9223372036854775807:=by
  have e:Int.sign 3=1:=rfl
  rw[Int.tdiv_eq_ediv,e];split<;>omega
 refine con.law15_Ask_Size ?_
 refine⟨_,rfl,?_⟩
 refine⟨[],_,_,_,_,c_tag h0,rfl,rfl,?_⟩
 refine⟨[],_,_,_,_,hR,rfl,rfl,?_⟩
 refine⟨_,rfl,?_⟩
 have e3:I6.wrap (n.tdiv 3)=n.tdiv 3:=Zd _ (by omega)
 refine⟨by omega,?_⟩
 refine⟨[],_,_,_,_,c_w15 (a:=I6.wrap (n.tdiv 3)) (n:=3) (by omega) (by omega) (by rw[e3];exact h3),rfl,rfl,?_⟩
 rw[e3]
 refine spl_d (fun hm=> ?_) (fun hm=> ?_)
 ·have hq:l/s*s≤l:=Zk _ _
  have hv:=div_mul_wrap (l:=l) (s:=s) (by omega) hl
  refine⟨by omega,?_⟩
  refine⟨by rw[hv];omega,by rw[hv];omega,by rw[hv];omega,by rw[hv];omega,?_⟩
  refine⟨_,rfl,[],?_,trivial⟩
  have e4:akLen n s l=l/s*s:=if_pos hm
  show V.z ((I6.wrap (I6.wrap ((l:Int).tdiv s)*s)).toNat-0) (sub (bv b) 0 ((I6.wrap (I6.wrap ((l:Int).tdiv s)*s)).toNat-0))=_
  rw[hv,e4,Za,Zl,akMsg,hb,e4,bv_sub]
  rfl
 ·refine⟨_,rfl,[],?_,trivial⟩
  have e4:akLen n s l=l:=if_neg hm
  rw[akMsg,hb,e4,List.take_of_length_le (by omega)]
  rfl
theorem shot_there {t key s k xs rs} (h:Ciph t key s k xs rs) {mode pad:Int} {lk li m:Nat} {iv msg:List UInt8} (hk:key.length=lk) (hi:iv.length=li) (hm:msg.length=m) (hmb:m≤1000) (ok:shOk s mode pad iv) (hf:¬(pad=4∧mode≤2∧m%s≠0∨7≤mode∧m<s)):
  ∃(l:Nat) (x:List UInt8),x.length=l∧l=(if pad=4 then m else m/s*s+s)∧shP (cF t key false) (cF t key true) s mode pad false iv msg=(x,0)∧
   Con C N.shot_Shot [cfgV t mode pad false,.z lk (bv key),.z li (bv iv),.z m (bv msg)] [] (.ret (.t [.z l (bv x),i64 0])) []∧
   Con C N.shot_Shot [cfgV t mode pad true,.z lk (bv key),.z li (bv iv),.z l (bv x)] [] (.ret (.t [.z m (bv msg),i64 0])) []:=by
 have hs:=h.s_le
 subst hm
 obtain⟨q1,q2⟩:=shP_len h.ci (by omega) ok hf
 have q3:=shP_inv h.ci (by omega) hs.2 ok hf
 have P:=c_shotP h (back:=false) (msg:=msg) (m:=msg.length) rfl rfl rfl hk hi rfl (by omega) ok
 obtain⟨x,ex⟩:∃x,shP (cF t key false) (cF t key true) s mode pad false iv msg=(x,0):=⟨_,Prod.ext rfl q1⟩
 rw[ex]at q2 q3 P
 have hb:x.length≤100000:=by
  have h1:=Zk msg.length s
  rw[q2];split<;>omega
 have Q:=c_shotP h (back:=true) rfl rfl rfl hk hi (msg:=x) rfl hb ok
 rw[q3]at Q
 exact⟨_,x,rfl,q2,ex,P,Q⟩
theorem shot_not {t key s k xs rs} (h:Ciph t key s k xs rs) {mode pad:Int} {lk li m:Nat} {iv msg:List UInt8} (hk:key.length=lk) (hi:iv.length=li) (hm:msg.length=m) (hmb:m≤1000) (ok:shOk s mode pad iv) (hf:pad=4∧mode≤2∧m%s≠0∨7≤mode∧m<s):
  Con C N.shot_Shot [cfgV t mode pad false,.z lk (bv key),.z li (bv iv),.z m (bv msg)] [] (.ret (.t [.z 0 (bv []),i64 7])) []:=by
 have hs:=h.s_le
 subst hm
 have P:=c_shotP h (back:=false) (msg:=msg) (m:=msg.length) rfl rfl rfl hk hi rfl (by omega) ok
 rw[shP_bad (by omega) ok rfl (fun x=>x hf)]at P
 exact P
theorem c_known15:Con C N.law15_known [] [] (.ret (bool true)) []:=by
 obtain⟨z,hz⟩:∃z:List UInt8,z=List.replicate 16 0:=⟨_,rfl⟩
 have lz:z.length=16:=by rw[hz];rfl
 obtain⟨v,hv⟩:∃v:List UInt8,v=List.replicate 8 0:=⟨_,rfl⟩
 have lv:v.length=8:=by rw[hv];rfl
 obtain⟨q,xs,rs,h⟩:=ciph_xtea lz
 obtain⟨w,hw⟩:∃w:List UInt8,w=[104,101,108,108,111]:=⟨_,rfl⟩
 have lw:w.length=5:=by rw[hw];rfl
 have ok:shOk 8 2 1 v:=⟨by decide,by decide,by decide,by rw[lv];rfl⟩
 obtain⟨l,x,lx,el,_,P,Q⟩:=shot_there h (m:=5) lz lv lw (by decide) ok (by decide)
 obtain rfl:l=8:=el
 have N0:Con C N.shot_Shot [cfgV 0 0 0 false,nilv,nilv,nilv] [] (.ret (shV ([],2))) []:=by
  rcases shot_cases 0 (key:=[]) (lk:=0) rfl (by omega) 0 0 false (iv:=[]) (li:=0) rfl with ⟨he,_⟩|⟨he,HO,_⟩
  ·exact absurd he (by unfold shErr;rw[if_pos (by unfold okTag;omega)];decide)
  ·have e:shErr 0 0 0 (cSize 0).toNat 0 0=2:=by unfold shErr;rw[if_pos (by unfold okTag;omega)]
   rw[e]at HO
   exact Con.args (c_shot_no (m:=0) (vm:=[]) (by decide) HO) (ys0:=[cfgV 0 0 0 false,nilv,nilv,nilv]) (.cons (.refl _) (.cons .nl (.cons .nl (.cons .nl .nil))))
 refine con.law15_known ?_
 refine⟨[],_,_,_,_,N0,rfl,rfl,?_⟩
 refine⟨Zc rfl,?_⟩
 refine⟨[i64 4,i64 2,i64 1,bool false],rfl,rfl,?_⟩
 refine⟨by decide,by decide,by decide,?_⟩
 refine⟨by decide,by decide,by decide,?_⟩
 refine⟨[],_,_,_,_,P,?_,rfl,?_⟩
 ·show[cfgV 4 2 1 false,V.z 16 _,V.z 8 _,V.z 5 _]=_
  rw[hz,hv,hw];rfl
 refine⟨Zc rfl,?_⟩
 refine⟨[i64 4,i64 2,i64 1,bool true],rfl,rfl,?_⟩
 refine⟨by decide,by decide,by decide,?_⟩
 refine⟨by decide,by decide,by decide,?_⟩
 refine⟨[],_,_,_,_,Q,?_,rfl,?_⟩
 ·show[cfgV 4 2 1 true,V.z 16 _,V.z 8 _,V.z 8 _]=_
  rw[hz,hv];rfl
 refine⟨by rw[bv_len,lw],_,rfl,?_⟩
 exact⟨_,rfl,[],congrArg bool (by rw[hw];exact beq_self_eq_true _),trivial⟩
theorem check_both (t:Int) {key:List UInt8} {lk:Nat} (hk:key.length=lk) (hlk:lk≤1000) (mode pad:Int) (back:Bool) {iv:List UInt8} {li:Nat} (hi:iv.length=li):
  Con C N.shot_Check [cfgV t mode pad back,.z lk (bv key),.z li (bv iv)] [] (.ret (i64 (shErr t mode pad (cSize t).toNat lk li))) []∧
  Con C N.r15_Check [cfgV t mode pad back,.z lk (bv key),.z li (bv iv)] [] (.ret (i64 (shErr t mode pad (cSize t).toNat lk li))) []:=by
 rcases shot_cases t hk hlk mode pad back hi with ⟨e,s,k,xs,rs,h,ok⟩|⟨he,P,Q⟩
 ·obtain⟨o1,o2,o3,o4⟩:=ok
  subst hk;subst hi
  have P:=c_open_ok h (back:=back) (vi:=bv iv) rfl o1 o2 o3 o4
  have Q:=c_rcheck_ok h (back:=back) (vi:=bv iv) rfl o1 o2 o3 o4
  rw[e]
  refine⟨?_,Q⟩
  refine con.shot_Check ?_
  refine⟨[i64 t,i64 mode,i64 pad,bool back],rfl,rfl,?_⟩
  refine⟨[],_,_,_,_,P,rfl,rfl,?_⟩
  exact⟨_,rfl,[],rfl,trivial⟩
 ·refine⟨?_,Q⟩
  generalize shErr t mode pad (cSize t).toNat lk li=e at*
  refine con.shot_Check ?_
  refine⟨[i64 t,i64 mode,i64 pad,bool back],rfl,rfl,?_⟩
  refine⟨[],_,_,_,_,P,rfl,rfl,?_⟩
  exact⟨_,rfl,[],rfl,trivial⟩
end Go.Scr
