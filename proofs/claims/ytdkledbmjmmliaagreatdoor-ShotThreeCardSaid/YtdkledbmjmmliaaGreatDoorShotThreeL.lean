/-
  What the functions that this law alone reaches reckon, up to the law. It is no claim by itself; each contract bears its own conditions.
-/
import Derived.Test.YtdkledbmjmmliaaGreatDoorY4
set_option linter.unusedVariables false
set_option linter.unusedSimpArgs false
set_option maxRecDepth 100000
namespace Go.Scr
open Go.Proofs
open Nat renaming le_of_ble_eq_true → Za, zero_add → Zc, mul_one → Zh, sub_zero → Zl
open Int renaming toNat_natCast → Zb
open List renaming length_take → Zd, length_drop → Ze, length_append → Zg, eq_nil_of_length_eq_zero → Zi, nil_append → Zj, length_set → Zk
open IntWalk renaming i64_in → Zf
open Go.IntKind renaming i64 → I6
abbrev N.law15_ShotThree:=5
def rt.law15_ShotThree:Rt:=[(5,[i0 [],i1 [37,38,39,40,41,42] [0],i1 [38,39,40,41,42] [0,1],i0 [],i1 [35,36,37,40,41,42] [3],i2 [41,42] [0,1,2,3,4],i0 [0,1,2,3,4],i2 [42] [0,1,2,3,4,5,6],i0 [0,1,2,3,4,5,6,7],i2 [] [0,1,2,3,4,5,6,7,8]]),(23,[i0 [],i0 [0],i0 [],i0 [2],i0 [0,1,2,3],i0 [0,1,2,3,4],i0 [0,1,2,3,4,5],i0 [0,1,2,3,4,5,6],i0 [0,1,2,3,4,5],i0 [0,1,2,3,4,5,8],i0 [0,1,2,3,4,5],i0 [0,1,2,3,4,5,8,9,10],i0 [0,1,2,3,4,5,6,7,8,9,10,11],i0 [0,1,2,3,4,5,6,7,8,9,10,11,12],i0 [0,1,2,3,4,5,6,7,8,9,10,11,12,13],i0 [0,1,2,3,4,5,6,7,8,9,10,11,12,13,14],i1 [144,145,146,147,148,149,150] [0,1,2,3,4,5,6,7,8,9,10,11,12,13,14,15],i0 [0,1,2,3,4,5,6,7,8,9,10,11,12,13,14],i0 [0,1,2,3,4,5,6,7,8,9,10,11,12,13,14],i0 [0,1,2,3,4,5,6,7,8,9,10,11,12,13,14,18],i0 [0,1,2,3,4,5,6,7,8,9,10,11,12,13,14,17,18,19],i1 [142,143,149,150] [0,1,2,3,4,5,6,7,8,9,10,11,12,13,14,17,18,19,20],i0 [0,1,2,3,4,5,6,7,8,9,10,11,12,13,14,15,16,17,18,19,20,21],i0 [0,1,2,3,4,5,6,7,8,9,10,11,12,13,14,15,16,17,18,19,20,21,22]]),(28,[i0 [],i1 [177,178,179,180,181,182,183,184,174,185,186,23,24] [0],i0 [],i0 [],i0 [],i0 [4],i0 [],i0 [4,5,6],i0 [3,4,5,6,7],i2 [174,185,186,23,24] [0,1,2,3,4,5,6,7,8],i0 [0,1,2,3,4,5,6,7,8,9],i0 [0,1,2,3,4,5,6,7,8,9,10],i0 [0,1,2,3,4,5,6,7,8,9,10],i0 [0,1,2,3,4,5,6,7,8,9,10,11],i0 [0,1,2,3,4,5,6,7,8,9,10,11,12,13]])]
theorem fd.law15_ShotThree:FnD C 5 rt.law15_ShotThree Tryz.f5 198:=fk Tryz.func5 (by kernel_rfl)
abbrev con.law15_ShotThree:=@FnD.c _ _ _ _ _ fd.law15_ShotThree
theorem keyOf_len (t n k):(keyOf t n k).length=kLen t n:=bytesN_len _ _
theorem kLen_mem {t n:Int} (ht:okTag t):((kLen t n:Nat):Int)∈cLens t:=by
 have hp:=cLens_pos ht
 have h1:=Int.emod_nonneg n (b:=((cLens t).length:Int)) (by omega)
 have h2:=Int.emod_lt_of_pos n (b:=((cLens t).length:Int)) (by omega)
 have hi:(n%((cLens t).length:Int)).toNat<(cLens t).length:=by omega
 have hx:(cLens t).getD (n%((cLens t).length:Int)).toNat 0∈cLens t:=by
  rw[List.getD_eq_getElem?_getD,List.getElem?_eq_getElem hi];exact List.getElem_mem hi
 have h0:0≤(cLens t).getD (n%((cLens t).length:Int)).toNat 0:=by
  have:∀x∈cLens t,0≤x:=by
   rcases ht with rfl|rfl|rfl|rfl|rfl|rfl|rfl|rfl<;>decide
  exact this _ hx
 rw[kLen,Int.toNat_of_nonneg h0];exact hx
theorem ciph_law (tag n:Int) (k:List UInt8):∃s q xs rs,Ciph (tagOf tag) (keyOf (tagOf tag) n k) s q xs rs:=ciph_ok (tagOf_ok _) (by rw[keyOf_len];exact kLen_mem (tagOf_ok _))
theorem str_len {l:List UInt8} {n:Nat} (h:l.length=n):0+n≤(bv l).length:=Nat.le_of_eq (by rw[Zc,bv_len,h])
theorem ivL_len (mode s b):(ivL mode s b).length=ivN mode s:=by
 unfold ivL ivN
 split
 ·rfl
 ·exact bytesN_len _ _
theorem akLen_le (n:Int) (s l:Nat):akLen n s l≤l:=by
 unfold akLen
 split
 ·exact Nat.div_mul_le_self _ _
 ·exact Nat.le_refl _
theorem akMsg_len (n:Int) (s:Nat) (m:List UInt8):(akMsg n s m).length=akLen n s m.length:=by
 rw[Zd];have:=akLen_le n s m.length;omega
theorem ask_ciph (tag n:Int) (k:List UInt8):∃s q xs rs,Ciph (tagOf tag) (keyOf (tagOf tag) n k) s q xs rs:=ciph_law tag n k
theorem tmod_nat (m s:Nat):(m:Int).tmod (s:Int)=((m%s:Nat):Int):=by rw[Int.tmod_eq_emod_of_nonneg (by omega)];rfl
theorem out_as {f args} {o:List UInt8} {l:Nat} {e:Int} (hl:o.length=l) (P:Con C f args [] (.ret (shV (o,e))) []):Con C f args [] (.ret (.t [.z l (bv o),i64 e])) []:=by
 subst hl;exact P
theorem c_concat00O:Con C N.slices_Concat_byte [.zz 1 2 [.z 0 [],.z 0 []]] [] (.ret (.o 1 (.k 0) 0 0)) [.sc []]:=by
 have get:∀i:Nat,i<2→([V.z 0 [],V.z 0 []]:List V)[((i:Nat):Int).toNat*1]? =some (.z 0 []):=fun i hi=>by
  rw[Zb,Zh]
  rcases i with _|_|i
  ·rfl
  ·rfl
  ·omega
 refine con.slices_Concat_byte ?_
 refine loopN (fun i=>⟨[(0,.zz 1 2 [.z 0 [],.z 0 []]),(3,i64 0),(9,.zz 1 2 [.z 0 [],.z 0 []]),(10,i64 2),(11,i64 i)],[]⟩) 2 ⟨[],⟨rfl,rfl,rfl,rfl,rfl,trivial⟩,trivial⟩ fun i hi=> ?_
 refine spl_d (fun hlt=> ?_) (fun hge=> ?_)
 ·refine⟨by omega,by omega,?_⟩
  refine⟨_,get i (by omega),?_⟩
  exact⟨i+1,by omega,by omega,[],⟨rfl,rfl,rfl,rfl,congrArg (vi .i64) (by simp(disch:=omega)only[Zf];omega),trivial⟩,trivial⟩
 ·refine⟨[],_,_,_,_,c_grow0,rfl,rfl,?_⟩
  refine loopNn (fun i=>⟨[(6,.o 1 (.k 0) 0 0),(25,.zz 1 2 [.z 0 [],.z 0 []]),(26,i64 2),(27,i64 i)],[.sc []]⟩) 2 [(6,1,.sc [])] ⟨[.d 900000 0],⟨rfl,rfl,rfl,rfl,trivial⟩,⟨_,rfl,rfl⟩,trivial⟩ fun i hi=> ?_
  refine spl_d (fun hlt=> ?_) (fun hge=> ?_)
  ·refine⟨by omega,by omega,?_⟩
   refine⟨_,get i (by omega),?_⟩
   refine⟨rfl,by omega,Nat.le_refl _,?_⟩
   exact⟨i+1,by omega,by omega,[.d 33 0],⟨rfl,rfl,rfl,congrArg (vi .i64) (by simp(disch:=omega)only[Zf];omega),trivial⟩,⟨_,rfl,rfl⟩,trivial⟩
  ·exact⟨_,rfl,[.k 0],rfl,⟨_,rfl,rfl⟩,trivial⟩
theorem c_shot_bkO {t key s k xs rs} (h:Ciph t key s k xs rs) {mode pad:Int} {m:Nat} {vk vi vm:List Value} {iv msg:List UInt8} (hvk:vk=bv key) (hvi:vi=bv iv) (hvm:vm=bv msg) (hi:iv.length=if mode=1 then 0 else s) (hmm:msg.length=m) (hmb:m≤100000) (hm:1≤mode∧mode≤2) (hp:pad=1∨pad=2∨pad=3) (h0:0<m) (hz:m%s=0) (hL:pdLong pad ((moStep (cF t key false) (cF t key true) s mode true ⟨iv,[],[]⟩ msg).1.drop (m-s))≠0):
  Con C N.shot_Shot [cfgV t mode pad true,.z key.length vk,.z iv.length vi,.z m vm] [] (.ret (.t [.o 1 (.k 0) 0 (m-pdLong pad ((moStep (cF t key false) (cF t key true) s mode true ⟨iv,[],[]⟩ msg).1.drop (m-s))),i64 0])) [.sc (bv ((moStep (cF t key false) (cF t key true) s mode true ⟨iv,[],[]⟩ msg).1.take (m-s)++pdStrip pad ((moStep (cF t key false) (cF t key true) s mode true ⟨iv,[],[]⟩ msg).1.drop (m-s))))]:=by
 subst hvk;subst hvi;subst hvm
 have hs:=h.s_le
 have K0:MK s mode ⟨iv,[],[]⟩:=MK.new (by omega) (by
  by_cases h1:mode=1
  ·exact .inl h1
  ·rw[if_neg h1]at hi;exact .inr hi)
 have hs8:s=8∨s=16:=h.s_two
 have hsm:s≤m:=Nat.le_of_dvd (by omega) (Nat.dvd_of_mod_eq_zero hz)
 have hg:m%moGrain s mode=0:=by unfold moGrain;rw[if_pos (by omega)];exact hz
 have lo:(moStep (cF t key false) (cF t key true) s mode true ⟨iv,[],[]⟩ msg).1.length=m:=by rw[moStep_len h.ci K0.ok (by rw[hmm];exact hg),hmm]
 have T0:=c_step h (back:=true) (st:=⟨iv,[],[]⟩) (b:=msg) rfl hmm (by omega) K0 hg (.inr rfl)
 generalize moStep (cF t key false) (cF t key true) s mode true ⟨iv,[],[]⟩ msg=S0 at*
 obtain⟨o,⟨c1,row1,g1⟩⟩:=S0
 dsimp only at T0 lo hL ⊢
 have lD:(o.drop (m-s)).length=s:=by rw[Ze,lo];omega
 have e1:I6.wrap ((m:Int)-(s:Int))=((m-s:Nat):Int):=by rw[Zf _ (by omega)];omega
 have hvD:sub (bv o) (m-s) (m-(m-s))=bv (o.drop (m-s)):=bv_dropN lo (by omega)
 have cS:=c_strip (vb:=bv (o.drop (m-s))) rfl hp hs8 lD hL
 have hle:=pdLong_le pad (o.drop (m-s))
 rw[lD]at hle
 have lSt:(pdStrip pad (o.drop (m-s))).length=s-pdLong pad (o.drop (m-s)):=by unfold pdStrip;rw[Zd,lD];omega
 have lTk:(o.take (m-s)).length=m-s:=by rw[Zd,lo];omega
 have hvT:sub (bv o) 0 (m-s)=bv (o.take (m-s)):=bv_sub _ _ _
 generalize pdStrip pad (o.drop (m-s))=ST at*
 generalize pdLong pad (o.drop (m-s))=c at*
 generalize o.take (m-s)=TK at*
 have hk3:kindOf mode≠3:=by unfold kindOf;rw[if_pos (by omega)];decide
 refine con.shot_Shot ?_
 refine⟨0,Unit,fun _=>⟨[(3,.z m (bv msg)),(4,.p (.k 0) 0),(12,.p (.k 1) 0),(14,i64 s)],[.mx [i64 t,i64 mode,i64 pad,bool true],moX (cipV t k xs) mode true ⟨iv,[],[]⟩ 2,.dead]⟩,fun _=>True,fun _=>0,?_,fun x hx=> ?_⟩
 ·refine⟨[i64 t,i64 mode,i64 pad,bool true],rfl,rfl,?_⟩
  refine⟨[],_,_,_,_,c_open_ok h rfl ⟨hm.1,by omega⟩ (by omega) (.inr hm.2) hi,rfl,rfl,?_⟩
  refine⟨_,rfl,?_⟩
  refine⟨[],_,_,_,_,c_kind mode,rfl,rfl,?_⟩
  refine spl_eq (fun hh=>absurd hh hk3) (fun _=> ?_)
  refine⟨_,rfl,?_⟩
  refine⟨_,rfl,?_⟩
  refine⟨[],_,_,_,_,c_new_m h (mode:=mode) (back:=true) (i:=1) (iv:=iv) rfl rfl ⟨hm.1,by omega⟩ hi,rfl,rfl,?_⟩
  refine⟨[],_,_,_,_,h.size,rfl,rfl,?_⟩
  exact⟨[],(),trivial,[.d 4 0,.d 49 0,.d 49 1],⟨rfl,rfl,rfl,rfl,trivial⟩,⟨_,rfl,rfl⟩,⟨_,rfl,rfl⟩,⟨_,rfl,rfl⟩,trivial⟩
 ·refine⟨Unit,fun _=>⟨[(3,.z m (bv msg)),(4,.p (.k 0) 0),(12,.p (.k 1) 0),(14,i64 s)],[.mx [i64 t,i64 mode,i64 pad,bool true],moX (cipV t k xs) mode true ⟨iv,[],[]⟩ 2,.dead]⟩,fun _=>True,fun _=>0,⟨[],(),trivial,[.k 0,.k 1,.k 2],⟨rfl,rfl,rfl,rfl,trivial⟩,⟨_,rfl,rfl⟩,⟨_,rfl,rfl⟩,⟨_,rfl,rfl⟩,trivial⟩,fun _ _=> ?_⟩
  refine⟨_,rfl,?_⟩
  refine spl_ne (fun _=> ?_) (fun h4=>absurd h4 (by omega))
  refine⟨_,rfl,?_⟩
  refine spl_eq (fun h4=>absurd h4 (by omega)) (fun _=> ?_)
  rcases row1 with _|⟨a1,r1⟩
  all_goals
   refine⟨[.k 1,.k 2],_,_,_,_,T0,rfl,rfl,?_⟩
   refine⟨_,rfl,?_⟩
   refine spl_eq (fun h4=>absurd h4 (by omega)) (fun _=> ?_)
   refine⟨_,rfl,?_⟩
   refine⟨_,rfl,?_⟩
   refine⟨by rw[e1];omega,by rw[e1];omega,by first|omega|(rw [e1];omega),by first|omega|(rw [e1];omega),?_⟩
   refine⟨[],_,_,_,_,cS,?_,rfl,?_⟩
   ·rw[e1]
    show[i64 pad,i64 s,V.z (m-((m-s:Nat):Int).toNat) (sub (bv o) ((m-s:Nat):Int).toNat (m-((m-s:Nat):Int).toNat))]=_
    rw[Zb,hvD,show m-(m-s)=s by omega]
   refine⟨by rw[e1];omega,by rw[e1];omega,by first|omega|(rw [e1];omega),by first|omega|(rw [e1];omega),?_⟩
   by_cases hne:m-c=0
   ·obtain rfl:TK=[]:=Zi (by omega)
    obtain rfl:ST=[]:=Zi (by omega)
    refine⟨[],_,_,_,_,c_concat00O,?_,rfl,?_⟩
    ·rw[e1]
     show[V.zz 1 2 [V.z (((m-s:Nat):Int).toNat) (sub (bv o) 0 (((m-s:Nat):Int).toNat)),V.z (s-c) (bv [])]]=_
     rw[Zb,show m-s=0 by omega,show s-c=0 by omega];rfl
    refine⟨_,rfl,[.d 127 0],?_,⟨_,rfl,rfl⟩,trivial⟩
    rw[hne];rfl
   ·refine⟨[],_,_,_,_,c_concatB' (n:=2) (ls:=[TK,ST]) (t:=TK++ST) (by simp) ?_ rfl (by rw[Zg];omega) (by rw[Zg];omega),rfl,rfl,?_⟩
    ·rw[e1]
     show[V.z (((m-s:Nat):Int).toNat) (sub (bv o) 0 (((m-s:Nat):Int).toNat)),V.z (s-c) (bv ST)]=[V.z _ _,V.z _ _]
     rw[Zb,hvT,lTk,lSt]
    have lc:(TK++ST).length=m-c:=by rw[Zg];omega
    rw[lc]
    exact⟨_,rfl,[.d 127 0],rfl,⟨_,rfl,rfl⟩,trivial⟩
theorem c_rshot_noneO {t key s k xs rs} (h:Ciph t key s k xs rs) {mode:Int} {back:Bool} {m:Nat} {vk vi vm:List Value} {iv msg:List UInt8} (hvk:vk=bv key) (hvi:vi=bv iv) (hvm:vm=bv msg) (hi:iv.length=if mode=1 then 0 else s) (hmm:msg.length=m) (hmb:m≤100000) (hm:1≤mode∧mode≤2) (hg:m%s=0):
  Con C N.r15_Shot [cfgV t mode 4 back,.z key.length vk,.z iv.length vi,.z m vm] [] (.ret (.t [.o 1 (.k 0) 0 m,i64 0])) [.sc (bv (moBlks (cF t key false) (cF t key true) mode back s msg iv (m/s)).1)]:=by
 subst hvk;subst hvi;subst hvm
 have hs:=h.s_le
 have hci:=h.ci
 have hc:mode=1∨mode=2∧iv.length=s:=by
  by_cases h1:mode=1
  ·exact .inl h1
  ·rw[if_neg h1]at hi;exact .inr ⟨by omega,hi⟩
 have T0:=c_rstep_blk_own h (mode:=mode) (back:=back) (b:=msg) (ch:=iv) (c:=iv.length) (vb:=bv msg) rfl hmm (by omega) hc rfl hg
 generalize moBlks (cF t key false) (cF t key true) mode back s msg iv (m/s)=S0 at*
 obtain⟨o,c1⟩:=S0
 dsimp only at T0 ⊢
 refine con.r15_Shot ?_
 refine⟨[i64 t,i64 mode,i64 4,bool back],rfl,rfl,?_⟩
 refine⟨[],_,_,_,_,c_rcheck_ok h rfl ⟨hm.1,by omega⟩ (by decide) (.inl rfl) hi,rfl,rfl,?_⟩
 refine⟨_,rfl,?_⟩
 refine⟨[],_,_,_,_,h.rnew,rfl,rfl,?_⟩
 refine⟨_,rfl,?_⟩
 refine spl_d (fun hh=>absurd hh (by omega)) (fun _=> ?_)
 refine⟨[],_,_,_,_,h.rsize,rfl,rfl,?_⟩
 refine⟨_,rfl,?_⟩
 refine⟨_,rfl,?_⟩
 refine⟨[],_,_,_,_,c_r12_new h (mode:=mode) (back:=back) (i:=1) (vi:=bv iv) (iv:=iv) rfl rfl ⟨hm.1,by omega⟩ hi,rfl,rfl,?_⟩
 refine⟨_,rfl,?_⟩
 refine⟨[.d 56 0,.d 56 1],_,_,_,_,T0,rfl,rfl,?_⟩
 exact⟨_,rfl,[.d 64 2],rfl,⟨_,rfl,rfl⟩,trivial⟩
theorem shot_three {t key s k xs rs} (h:Ciph t key s k xs rs) {mode pad:Int} {lk li L:Nat} {iv b:List UInt8} (hk:key.length=lk) (hi:iv.length=li) (hb:b.length=L) (hmb:L≤1000) (hiv:iv.length=if mode=1 then 0 else s) (hm:1≤mode∧mode≤2) (hp:pad=1∨pad=2∨pad=3) (h0:0<L) (hz:L%s=0):
  ∃o:List UInt8,o.length=L∧s≤L∧Con C N.r15_Shot [cfgV t mode 4 true,.z lk (bv key),.z li (bv iv),.z L (bv b)] [] (.ret (.t [.o 1 (.k 0) 0 L,i64 0])) [.sc (bv o)]∧
   ((pdLong pad (o.drop (L-s))=0∧Con C N.shot_Shot [cfgV t mode pad true,.z lk (bv key),.z li (bv iv),.z L (bv b)] [] (.ret (.t [nilv,i64 8])) [])∨
    ∃(l:Nat) (x:List UInt8),1≤l∧l≤s∧x.length=L-l∧x=o.take (L-l)∧Con C N.shot_Shot [cfgV t mode pad true,.z lk (bv key),.z li (bv iv),.z L (bv b)] [] (.ret (.t [.o 1 (.k 0) 0 (L-l),i64 0])) [.sc (bv x)]∧
     ∃r:List UInt8×Int,Con C N.shot_Shot [cfgV t mode pad false,.z lk (bv key),.z li (bv iv),.z (L-l) (bv x)] [] (.ret (shV r)) []∧(pad≠3→r=(b,0))):=by
 have hs:=h.s_le
 have hci:=h.ci
 subst hk;subst hi;subst hb
 have ok:shOk s mode pad iv:=⟨by omega,by omega,.inr (by omega),hiv⟩
 have em:(moStep (cF t key false) (cF t key true) s mode true ⟨iv,[],[]⟩ b).1=(moBlks (cF t key false) (cF t key true) mode true s b iv (b.length/s)).1:=by
  unfold moStep
  rw[if_pos (by omega)]
 have R:=c_rshot_noneO h (back:=true) (vk:=bv key) (vi:=bv iv) (vm:=bv b) (msg:=b) rfl rfl rfl hiv rfl (by omega) hm hz
 rw[←em]at R
 obtain⟨o,lo,e4,hnb,hc⟩:=shP_three hci (by omega) hm hp hiv h0 hz
 have eo:(moStep (cF t key false) (cF t key true) s mode true ⟨iv,[],[]⟩ b).1=o:=by
  unfold shP at e4
  rw[if_neg (by omega),if_pos rfl,if_pos (by unfold moGrain;rw[if_pos (by omega)];exact hz)]at e4
  exact congrArg Prod.fst e4
 rw[eo]at R
 refine⟨o,lo,hnb,R,?_⟩
 rcases hc with ⟨c1,c2⟩|⟨l,l1,l2,c3,c4⟩
 ·exact .inl ⟨c1,c_shot_b8 h rfl rfl rfl hiv rfl (by omega) hm hp h0 hz (by rw[eo];exact c1)⟩
 ·right
  have hle:=pdLong_le pad (o.drop (b.length-s))
  rw[Ze,lo]at hle
  have ep:shP (cF t key false) (cF t key true) s mode pad true iv b=if pdLong pad (o.drop (b.length-s))=0 then ([],8)else (o.take (b.length-s)++pdStrip pad (o.drop (b.length-s)),0):=by
   unfold shP
   rw[if_neg (by omega),if_neg (by omega),if_neg (by decide),if_neg (by omega)]
   simp only[eo,lo]
  rw[c3]at ep
  have hL:pdLong pad (o.drop (b.length-s))≠0:=fun hh=>by
   rw[if_pos hh]at ep
   exact absurd (show (0:Int)=8 from congrArg Prod.snd ep) (by decide)
  rw[if_neg hL]at ep
  have ex:=congrArg Prod.fst ep
  dsimp only at ex
  have P:=c_shot_bkO h (vk:=bv key) (vi:=bv iv) (vm:=bv b) (msg:=b) rfl rfl rfl hiv rfl (by omega) hm hp h0 hz (by rw[eo];exact hL)
  rw[eo,←ex]at P
  have lx:(o.take (b.length-l)).length=b.length-l:=by rw[Zd];omega
  have el:b.length-pdLong pad (o.drop (b.length-s))=b.length-l:=by
   have h3:=congrArg List.length ex
   rw[lx,Zg,Zd,lo]at h3
   unfold pdStrip at h3
   rw[Zd,Ze,lo]at h3
   omega
  rw[el]at P
  refine⟨l,_,l1,l2,lx,rfl,P,_,c_shotP h (back:=false) (msg:=o.take (b.length-l)) (m:=b.length-l) rfl rfl rfl rfl rfl lx (by omega) ok,c4⟩
set_option maxHeartbeats 1600000 in
theorem c_sthree {tag n mode pad at' by':Int} {back good:Bool} {lk li lb:Nat} {k iv b:List UInt8} (h0:In64 tag) (h1:In64 n) (h2:In64 mode) (h3:In64 pad) (hk:k.length=lk) (hi:iv.length=li) (hb:b.length=lb) (ha:In64 at') (hy:0≤by'∧by'≤255):
  Con C N.law15_ShotThree [askV tag n mode pad back lk k li iv,.z lb (bv b),bool good,i64 at',.s (.int .u8 by')] [] (.ret (bool true)) []:=by
 obtain⟨v,rfl⟩:∃v:UInt8,by'=(v.toNat:Int):=⟨UInt8.ofNat by'.toNat,by rw[UInt8.toNat_ofNat_of_lt' (by show by'.toNat<256;omega)];omega⟩
 obtain⟨s,q,xs,rs,h⟩:=ask_ciph tag n k
 have hs:=h.s_le
 have hM:=c_askmake (mode:=mode%2) (pad:=pad%3) (back:=back) h0 h1 (by unfold In64;omega) (by unfold In64;omega) hk hi h.hs hs.2
 have hR:=h.hs▸c_r11_size h.ht
 have W1:=c_w15 (a:=mode) (n:=2) (by omega) (by omega) h2
 have W2:=c_w15 (a:=pad) (n:=3) (by omega) (by omega) h3
 have em:akMode (mode%2)=1+mode%2:=by unfold akMode;omega
 have ep:akPad (mode%2) (pad%3)=1+pad%3:=by unfold akPad;rw[em,if_pos (by omega)];omega
 rw[em,ep]at hM
 have lK:=keyOf_len (tagOf tag) n k
 have lV:=ivL_len (1+mode%2) s iv
 have hmd:1≤1+mode%2∧1+mode%2≤2:=by omega
 have hpd:1+pad%3=1∨1+pad%3=2∨1+pad%3=3:=by omega
 generalize 1+mode%2=md at*
 generalize 1+pad%3=pd at*
 generalize keyOf (tagOf tag) n k=key at*
 generalize kLen (tagOf tag) n=lkk at*
 generalize ivL md s iv=fi at*
 have ok:shOk s md pd fi:=⟨by omega,by omega,.inr (by omega),lV⟩
 have ok4:shOk s md 4 fi:=⟨by omega,by decide,.inl rfl,lV⟩
 refine con.law15_ShotThree ?_
 refine⟨[],_,_,_,_,c_known15,rfl,rfl,?_⟩
 refine spl_d (fun hl=> ?_) (fun hl=> ?_)
 ·exact⟨_,rfl,[],rfl,trivial⟩
 have hS:=c_size15 (mode:=mode%2) (pad:=pad%3) (back:=back) (lk:=lk) (li:=li) (k:=k) (iv:=iv) h0 h1 h.hs (by omega) hb (by omega)
 have hle:=akLen_le n s lb
 have lmsg:=akMsg_len n s b
 rw[hb]at lmsg
 generalize akMsg n s b=msg at*
 generalize akLen n s lb=m at*
 refine⟨[i64 tag,i64 n,i64 mode,i64 pad,bool back,.z lk (bv k),.z li (bv iv)],rfl,rfl,?_⟩
 by_cases hf:lk≤100∧li≤100
 ·refine⟨[],_,_,_,_,c_few_y hf,rfl,rfl,?_⟩
  refine⟨_,rfl,?_⟩
  refine⟨[],_,_,_,_,W1,rfl,rfl,?_⟩
  refine⟨_,rfl,?_⟩
  refine⟨[],_,_,_,_,W2,rfl,rfl,?_⟩
  refine⟨Za rfl,?_⟩
  refine⟨Za rfl,?_⟩
  refine⟨[i64 tag,i64 n,i64 (mode%2),i64 (pad%3),bool back,.z lk (bv k),.z li (bv iv)],rfl,rfl,?_⟩
  refine⟨[],_,_,_,_,hM,rfl,rfl,?_⟩
  refine⟨Za rfl,?_⟩
  refine⟨_,rfl,?_⟩
  refine⟨[],_,_,_,_,hR,rfl,rfl,?_⟩
  refine⟨[i64 tag,i64 n,i64 (mode%2),i64 (pad%3),bool back,.z lk (bv k),.z li (bv iv)],rfl,rfl,?_⟩
  refine⟨[],_,_,_,_,hS,rfl,rfl,?_⟩
  cases good
  ·skip
   by_cases hbad:m=0∨m%s≠0
   ·have P1:=c_shotP h (back:=true) (msg:=msg) (m:=m) rfl rfl rfl lK lV lmsg (by omega) ok
    rw[shP_back_bad hmd hpd (by rw[lmsg];exact hbad)]at P1
    have P2:=c_rshotP h (back:=true) (msg:=msg) (m:=m) rfl rfl rfl lK lV lmsg (by omega) ok4
    generalize shP (cF (tagOf tag) key false) (cF (tagOf tag) key true) s md 4 true fi msg=r4 at*
    refine⟨Za rfl,?_⟩
    refine⟨[i64 (tagOf tag),i64 md,i64 pd,bool true],rfl,rfl,?_⟩
    refine⟨[],_,_,_,_,P1,rfl,rfl,?_⟩
    refine⟨[i64 (tagOf tag),i64 md,i64 pd,bool true],rfl,rfl,?_⟩
    refine⟨Za rfl,?_⟩
    refine⟨Za rfl,?_⟩
    refine⟨[i64 (tagOf tag),i64 md,i64 4,bool true],rfl,rfl,?_⟩
    refine⟨[],_,_,_,_,P2,rfl,rfl,?_⟩
    refine spl_eq (fun hz=> ?_) (fun hz=> ?_)
    ·exact⟨_,rfl,[],rfl,trivial⟩
    refine⟨by omega,?_⟩
    refine spl_ne (fun hz2=> ?_) (fun hz2=>absurd (tmod_nat m s▸hz2) (by omega))
    exact⟨_,rfl,[],rfl,trivial⟩
   obtain⟨o,lo,hnb,R4,hc⟩:=shot_three h lK lV lmsg (by omega) (by rw[lV];rfl) hmd hpd (by omega) (by omega)
   have eS:I6.wrap ((m:Int)-(s:Int))=((m-s:Nat):Int):=by rw[Zf _ (by omega)];omega
   rcases hc with ⟨c1,P1⟩|⟨l,x,l1,l2,lx,ex,P1,r,P5,hr⟩
   ·refine⟨Za rfl,?_⟩
    refine⟨[i64 (tagOf tag),i64 md,i64 pd,bool true],rfl,rfl,?_⟩
    refine⟨[],_,_,_,_,P1,rfl,rfl,?_⟩
    refine⟨[i64 (tagOf tag),i64 md,i64 pd,bool true],rfl,rfl,?_⟩
    refine⟨Za rfl,?_⟩
    refine⟨Za rfl,?_⟩
    refine⟨[i64 (tagOf tag),i64 md,i64 4,bool true],rfl,rfl,?_⟩
    refine⟨[],_,_,_,_,R4,rfl,rfl,?_⟩
    refine spl_eq (fun hz=>absurd hz (by omega)) (fun hz=> ?_)
    refine⟨by omega,?_⟩
    refine spl_ne (fun hz2=>absurd (tmod_nat m s▸hz2) (by omega)) (fun hz2=> ?_)
    refine⟨_,rfl,?_⟩
    refine⟨by rw[eS];omega,by first|omega|(rw [eS];omega),by first|omega|(rw [eS];omega),by first|omega|(rw [eS];omega),?_⟩
    refine⟨[],_,_,_,_,c_r14_strip_no (vb:=bv (o.drop (m-s))) rfl hpd h.s_two (by rw[Ze,lo];omega) c1,?_,rfl,?_⟩
    ·show[i64 pd,i64 s,V.z (m-(I6.wrap ((m:Int)-(s:Int))).toNat) (sub (bv o) (0+(I6.wrap ((m:Int)-(s:Int))).toNat*1) (m-(I6.wrap ((m:Int)-(s:Int))).toNat))]=_
     rw[eS,Zb,Zh,Zc,bv_dropN lo (by omega),show m-(m-s)=s by omega]
    exact⟨_,rfl,[],rfl,trivial⟩
   ·refine⟨Za rfl,?_⟩
    refine⟨[i64 (tagOf tag),i64 md,i64 pd,bool true],rfl,rfl,?_⟩
    refine⟨[],_,_,_,_,P1,rfl,rfl,?_⟩
    refine⟨[i64 (tagOf tag),i64 md,i64 pd,bool true],rfl,rfl,?_⟩
    refine⟨Za rfl,?_⟩
    refine⟨Za rfl,?_⟩
    refine⟨[i64 (tagOf tag),i64 md,i64 4,bool true],rfl,rfl,?_⟩
    refine⟨[],_,_,_,_,R4,rfl,rfl,?_⟩
    refine spl_eq (fun hz=>absurd hz (by omega)) (fun hz=> ?_)
    refine⟨by omega,?_⟩
    refine spl_ne (fun hz2=>absurd (tmod_nat m s▸hz2) (by omega)) (fun hz2=> ?_)
    refine spl_d (fun hh=>absurd hh (by omega)) (fun _=> ?_)
    refine spl_d (fun hh=>absurd hh (by rw[eS];omega)) (fun _=> ?_)
    refine⟨str_len lx,_,bv_all lx,?_⟩
    refine⟨by omega,by omega,by omega,by omega,?_⟩
    have hv:sub (bv o) (0+0*1) (((m-l:Nat):Int).toNat-0)=bv x:=by rw[Zb,Zl,bv_sub,ex];rfl
    refine⟨by rw[Zb,bv_len,lo];omega,x,by rw[hv];rfl,?_⟩
    refine spl_f (by simp) ?_
    refine⟨Za rfl,?_⟩
    refine⟨[i64 (tagOf tag),i64 md,i64 pd,bool false],rfl,rfl,?_⟩
    by_cases h3:pd=3
    ·refine⟨[],_,_,_,_,P5,?_,rfl,?_⟩
     ·show[cfgV (tagOf tag) md pd false,V.z lkk (bv key),V.z (ivN md s) (bv fi),V.z (m-l) (sub (bv x) 0 (m-l))]=_
      rw[bv_all lx]
     refine⟨_,rfl,?_⟩
     refine spl_eq (fun _=> ?_) (fun hh=>absurd h3 hh)
     exact⟨_,rfl,[],rfl,trivial⟩
    ·rw[hr h3]at P5
     refine⟨[],_,_,_,_,P5,?_,rfl,?_⟩
     ·show[cfgV (tagOf tag) md pd false,V.z lkk (bv key),V.z (ivN md s) (bv fi),V.z (m-l) (sub (bv x) 0 (m-l))]=_
      rw[bv_all lx]
     refine⟨_,rfl,?_⟩
     refine spl_eq (fun hh=>absurd hh h3) (fun _=> ?_)
     refine⟨by rw[bv_len],_,rfl,?_⟩
     refine⟨by rw[bv_len,lmsg],_,rfl,?_⟩
     exact⟨_,rfl,[],congrArg bool (beq_self_eq_true _),trivial⟩
  ·have W3:=c_w15 (a:=at') (n:=3) (by omega) (by omega) ha
   obtain⟨q1,q2⟩:=shP_len h.ci (by omega) ok (m:=b) (by unfold shFine;omega)
   rw[if_neg (by omega),hb]at q2
   have P0:=c_rshotP h (back:=false) (msg:=b) (m:=lb) rfl rfl rfl lK lV hb (by omega) ok
   obtain⟨x0,ex0⟩:∃x,shP (cF (tagOf tag) key false) (cF (tagOf tag) key true) s md pd false fi b=(x,0):=⟨_,Prod.ext rfl q1⟩
   rw[ex0]at q2 P0
   obtain⟨L0,hL0⟩:∃L0,L0=lb/s*s+s:=⟨_,rfl⟩
   have hLe:L0≤1000:=by
    have:=Nat.div_mul_le_self lb s
    omega
   have hLz:L0%s=0:=by rw[hL0,Nat.add_mod_right,Nat.mul_mod_left]
   have hLp:0<L0:=by omega
   have hLz0:(0+L0)%s=0:=by rw[Zc];exact hLz
   have lx0:x0.length=L0:=by rw[hL0];exact q2
   have P0:=out_as lx0 P0
   clear q1 q2 ex0 hL0
   refine⟨Za rfl,?_⟩
   refine⟨[i64 (tagOf tag),i64 md,i64 pd,bool false],rfl,rfl,?_⟩
   refine⟨[],_,_,_,_,P0,rfl,rfl,?_⟩
   refine⟨[],_,_,_,_,W3,rfl,rfl,?_⟩
   refine spl_eq (fun hz3=> ?_) (fun hz3=> ?_)
   ·refine spl_d (fun hh=> ?_) (fun hh=>absurd hh (by omega))
    refine⟨by rw[bv_len,lx0],by omega,Nat.le_refl _,?_⟩
    have h3': -9223372036854775808≤at'.tdiv 3∧at'.tdiv 3≤9223372036854775807:=by
     have e:Int.sign 3=1:=rfl
     rw[Int.tdiv_eq_ediv,e];split<;>omega
    have e3:I6.wrap (at'.tdiv 3)=at'.tdiv 3:=Zf _ (by omega)
    obtain⟨i,hi1,hi2⟩:∃i:Nat,I6.wrap (at'.tdiv 3)%((0+L0:Nat):Int)=i∧i<L0:=by
     have a1:=Int.emod_nonneg (I6.wrap (at'.tdiv 3)) (show ((0+L0:Nat):Int)≠0 by omega)
     have a2:=Int.emod_lt_of_pos (I6.wrap (at'.tdiv 3)) (show 0<((0+L0:Nat):Int) by omega)
     exact⟨(I6.wrap (at'.tdiv 3)%((0+L0:Nat):Int)).toNat,by omega,by omega⟩
    refine⟨by omega,?_⟩
    refine⟨[],_,_,_,_,c_w15 (a:=I6.wrap (at'.tdiv 3)) (n:=((0+L0:Nat):Int)) (by omega) (by omega) (by rw[e3];exact h3'),rfl,rfl,?_⟩
    have hA:sub ([]:List Value) 0 (0*1)=[]:=rfl
    have hO:sub ((sub ([]:List Value) 0 (0*1)++bv x0).set (0+(I6.wrap (at'.tdiv 3)%((0+L0:Nat):Int)).toNat*1) (Value.int .u8 (IntKind.u8.wrap (((x0.getD i 0).toNat:Int)+(v.toNat:Int))))) 0 (0+L0)=bv (x0.set i (x0.getD i 0+v)):=by
     rw[hi1]
     simp only[Zb,Zh,Zc,hA,Zj]
     rw[u8_add,bv_set,bv_all (by rw[Zk,lx0])]
    refine⟨by omega,by omega,.int .u8 ((x0.getD i 0).toNat:Int),?_,?_⟩
    ·rw[hi1,Zb,hA]
     simp only[Zj,Zh,Zc]
     exact bv_getD (by omega)
    refine⟨by omega,by omega,?_,?_⟩
    ·rw[hi1,Zb,hA]
     simp only[Zj,Zh,Zc]
     rw[bv_len];omega
    have lbb:(x0.set i (x0.getD i 0+v)).length=L0:=by rw[Zk,lx0]
    generalize x0.set i (x0.getD i 0+v)=bb at*
    obtain⟨o,lo,hnb,R4,hc⟩:=shot_three h lK lV lbb (by omega) (by rw[lV];rfl) hmd hpd (by omega) (by omega)
    have eS:I6.wrap ((L0:Int)-(s:Int))=((L0-s:Nat):Int):=by rw[Zf _ (by omega)];omega
    have eS2:I6.wrap (((0+L0:Nat):Int)-(s:Int))=((L0-s:Nat):Int):=by rw[Zc];exact eS
    rcases hc with ⟨c1,P1⟩|⟨l,x,l1,l2,lx,ex,P1,r,P5,hr⟩
    ·refine⟨Za rfl,?_⟩
     refine⟨[i64 (tagOf tag),i64 md,i64 pd,bool true],rfl,rfl,?_⟩
     refine⟨[],_,_,_,_,P1,?_,rfl,?_⟩
     ·show[cfgV (tagOf tag) md pd true,V.z lkk (bv key),V.z (ivN md s) (bv fi),V.z (0+L0) (sub ((sub ([]:List Value) 0 (0*1)++bv x0).set (0+(I6.wrap (at'.tdiv 3)%((0+L0:Nat):Int)).toNat*1) (Value.int .u8 (IntKind.u8.wrap (((x0.getD i 0).toNat:Int)+(v.toNat:Int))))) 0 (0+L0))]=_
      rw[hO,Zc]
     refine⟨[i64 (tagOf tag),i64 md,i64 pd,bool true],rfl,rfl,?_⟩
     refine⟨Za rfl,?_⟩
     refine⟨Za rfl,?_⟩
     refine⟨[i64 (tagOf tag),i64 md,i64 4,bool true],rfl,rfl,?_⟩
     refine⟨[],_,_,_,_,R4,?_,rfl,?_⟩
     ·show[cfgV (tagOf tag) md 4 true,V.z lkk (bv key),V.z (ivN md s) (bv fi),V.z (0+L0) (sub ((sub ([]:List Value) 0 (0*1)++bv x0).set (0+(I6.wrap (at'.tdiv 3)%((0+L0:Nat):Int)).toNat*1) (Value.int .u8 (IntKind.u8.wrap (((x0.getD i 0).toNat:Int)+(v.toNat:Int))))) 0 (0+L0))]=_
      rw[hO,Zc]
     refine spl_eq (fun hz=>absurd hz (by omega)) (fun hz=> ?_)
     refine⟨by omega,?_⟩
     refine spl_ne (fun hz2=>absurd (tmod_nat (0+L0) s▸hz2) (by omega)) (fun hz2=> ?_)
     refine⟨_,rfl,?_⟩
     refine⟨by rw[eS];omega,by first|omega|(rw [eS];omega),by first|omega|(rw [eS];omega),by first|omega|(rw [eS];omega),?_⟩
     refine⟨[],_,_,_,_,c_r14_strip_no (vb:=bv (o.drop (L0-s))) rfl hpd h.s_two (by rw[Ze,lo];omega) c1,?_,rfl,?_⟩
     ·show[i64 pd,i64 s,V.z (L0-(I6.wrap ((L0:Int)-(s:Int))).toNat) (sub (bv o) (0+(I6.wrap ((L0:Int)-(s:Int))).toNat*1) (L0-(I6.wrap ((L0:Int)-(s:Int))).toNat))]=_
      rw[eS,Zb,Zh,Zc,bv_dropN lo (by omega),show L0-(L0-s)=s by omega]
     exact⟨_,rfl,[],rfl,trivial⟩
    ·refine⟨Za rfl,?_⟩
     refine⟨[i64 (tagOf tag),i64 md,i64 pd,bool true],rfl,rfl,?_⟩
     refine⟨[],_,_,_,_,P1,?_,rfl,?_⟩
     ·show[cfgV (tagOf tag) md pd true,V.z lkk (bv key),V.z (ivN md s) (bv fi),V.z (0+L0) (sub ((sub ([]:List Value) 0 (0*1)++bv x0).set (0+(I6.wrap (at'.tdiv 3)%((0+L0:Nat):Int)).toNat*1) (Value.int .u8 (IntKind.u8.wrap (((x0.getD i 0).toNat:Int)+(v.toNat:Int))))) 0 (0+L0))]=_
      rw[hO,Zc]
     refine⟨[i64 (tagOf tag),i64 md,i64 pd,bool true],rfl,rfl,?_⟩
     refine⟨Za rfl,?_⟩
     refine⟨Za rfl,?_⟩
     refine⟨[i64 (tagOf tag),i64 md,i64 4,bool true],rfl,rfl,?_⟩
     refine⟨[],_,_,_,_,R4,?_,rfl,?_⟩
     ·show[cfgV (tagOf tag) md 4 true,V.z lkk (bv key),V.z (ivN md s) (bv fi),V.z (0+L0) (sub ((sub ([]:List Value) 0 (0*1)++bv x0).set (0+(I6.wrap (at'.tdiv 3)%((0+L0:Nat):Int)).toNat*1) (Value.int .u8 (IntKind.u8.wrap (((x0.getD i 0).toNat:Int)+(v.toNat:Int))))) 0 (0+L0))]=_
      rw[hO,Zc]
     refine spl_eq (fun hz=>absurd hz (by omega)) (fun hz=> ?_)
     refine⟨by omega,?_⟩
     refine spl_ne (fun hz2=>absurd (tmod_nat (0+L0) s▸hz2) (by omega)) (fun hz2=> ?_)
     refine spl_d (fun hh=>absurd hh (by omega)) (fun _=> ?_)
     refine spl_d (fun hh=>absurd hh (by rw[eS2];omega)) (fun _=> ?_)
     refine⟨str_len lx,_,bv_all lx,?_⟩
     refine⟨by omega,by omega,by omega,by omega,?_⟩
     have hv:sub (bv o) (0+0*1) (((L0-l:Nat):Int).toNat-0)=bv x:=by rw[Zb,Zl,bv_sub,ex];rfl
     refine⟨by rw[Zb,bv_len,lo];omega,x,by rw[hv];rfl,?_⟩
     refine spl_f (by simp) ?_
     refine⟨Za rfl,?_⟩
     refine⟨[i64 (tagOf tag),i64 md,i64 pd,bool false],rfl,rfl,?_⟩
     by_cases h3:pd=3
     ·refine⟨[],_,_,_,_,P5,?_,rfl,?_⟩
      ·show[cfgV (tagOf tag) md pd false,V.z lkk (bv key),V.z (ivN md s) (bv fi),V.z (L0-l) (sub (bv x) 0 (L0-l))]=_
       rw[bv_all lx]
      refine⟨_,rfl,?_⟩
      refine spl_eq (fun _=> ?_) (fun hh=>absurd h3 hh)
      exact⟨_,rfl,[],rfl,trivial⟩
     ·rw[hr h3]at P5
      refine⟨[],_,_,_,_,P5,?_,rfl,?_⟩
      ·show[cfgV (tagOf tag) md pd false,V.z lkk (bv key),V.z (ivN md s) (bv fi),V.z (L0-l) (sub (bv x) 0 (L0-l))]=_
       rw[bv_all lx]
      refine⟨_,rfl,?_⟩
      refine spl_eq (fun hh=>absurd hh h3) (fun _=> ?_)
      refine⟨by rw[bv_len],_,rfl,?_⟩
      refine⟨by simp only[Zk,hA,Zj,bv_len];omega,bb,by rw[hO];rfl,?_⟩
      exact⟨_,rfl,[],congrArg bool (beq_self_eq_true _),trivial⟩
   ·skip
    by_cases hbad:L0=0∨L0%s≠0
    ·have P1:=c_shotP h (back:=true) (msg:=x0) (m:=L0) rfl rfl rfl lK lV lx0 (by omega) ok
     rw[shP_back_bad hmd hpd (by rw[lx0];exact hbad)]at P1
     have P2:=c_rshotP h (back:=true) (msg:=x0) (m:=L0) rfl rfl rfl lK lV lx0 (by omega) ok4
     generalize shP (cF (tagOf tag) key false) (cF (tagOf tag) key true) s md 4 true fi x0=r4 at*
     refine⟨Za rfl,?_⟩
     refine⟨[i64 (tagOf tag),i64 md,i64 pd,bool true],rfl,rfl,?_⟩
     refine⟨[],_,_,_,_,P1,rfl,rfl,?_⟩
     refine⟨[i64 (tagOf tag),i64 md,i64 pd,bool true],rfl,rfl,?_⟩
     refine⟨Za rfl,?_⟩
     refine⟨Za rfl,?_⟩
     refine⟨[i64 (tagOf tag),i64 md,i64 4,bool true],rfl,rfl,?_⟩
     refine⟨[],_,_,_,_,P2,rfl,rfl,?_⟩
     refine spl_eq (fun hz=> ?_) (fun hz=> ?_)
     ·exact⟨_,rfl,[],rfl,trivial⟩
     refine⟨by omega,?_⟩
     refine spl_ne (fun hz2=> ?_) (fun hz2=>absurd (tmod_nat L0 s▸hz2) (by omega))
     exact⟨_,rfl,[],rfl,trivial⟩
    obtain⟨o,lo,hnb,R4,hc⟩:=shot_three h lK lV lx0 (by omega) (by rw[lV];rfl) hmd hpd (by omega) (by omega)
    have eS:I6.wrap ((L0:Int)-(s:Int))=((L0-s:Nat):Int):=by rw[Zf _ (by omega)];omega
    rcases hc with ⟨c1,P1⟩|⟨l,x,l1,l2,lx,ex,P1,r,P5,hr⟩
    ·refine⟨Za rfl,?_⟩
     refine⟨[i64 (tagOf tag),i64 md,i64 pd,bool true],rfl,rfl,?_⟩
     refine⟨[],_,_,_,_,P1,rfl,rfl,?_⟩
     refine⟨[i64 (tagOf tag),i64 md,i64 pd,bool true],rfl,rfl,?_⟩
     refine⟨Za rfl,?_⟩
     refine⟨Za rfl,?_⟩
     refine⟨[i64 (tagOf tag),i64 md,i64 4,bool true],rfl,rfl,?_⟩
     refine⟨[],_,_,_,_,R4,rfl,rfl,?_⟩
     refine spl_eq (fun hz=>absurd hz (by omega)) (fun hz=> ?_)
     refine⟨by omega,?_⟩
     refine spl_ne (fun hz2=>absurd (tmod_nat L0 s▸hz2) (by omega)) (fun hz2=> ?_)
     refine⟨_,rfl,?_⟩
     refine⟨by rw[eS];omega,by first|omega|(rw [eS];omega),by first|omega|(rw [eS];omega),by first|omega|(rw [eS];omega),?_⟩
     refine⟨[],_,_,_,_,c_r14_strip_no (vb:=bv (o.drop (L0-s))) rfl hpd h.s_two (by rw[Ze,lo];omega) c1,?_,rfl,?_⟩
     ·show[i64 pd,i64 s,V.z (L0-(I6.wrap ((L0:Int)-(s:Int))).toNat) (sub (bv o) (0+(I6.wrap ((L0:Int)-(s:Int))).toNat*1) (L0-(I6.wrap ((L0:Int)-(s:Int))).toNat))]=_
      rw[eS,Zb,Zh,Zc,bv_dropN lo (by omega),show L0-(L0-s)=s by omega]
     exact⟨_,rfl,[],rfl,trivial⟩
    ·refine⟨Za rfl,?_⟩
     refine⟨[i64 (tagOf tag),i64 md,i64 pd,bool true],rfl,rfl,?_⟩
     refine⟨[],_,_,_,_,P1,rfl,rfl,?_⟩
     refine⟨[i64 (tagOf tag),i64 md,i64 pd,bool true],rfl,rfl,?_⟩
     refine⟨Za rfl,?_⟩
     refine⟨Za rfl,?_⟩
     refine⟨[i64 (tagOf tag),i64 md,i64 4,bool true],rfl,rfl,?_⟩
     refine⟨[],_,_,_,_,R4,rfl,rfl,?_⟩
     refine spl_eq (fun hz=>absurd hz (by omega)) (fun hz=> ?_)
     refine⟨by omega,?_⟩
     refine spl_ne (fun hz2=>absurd (tmod_nat L0 s▸hz2) (by omega)) (fun hz2=> ?_)
     refine spl_d (fun hh=>absurd hh (by omega)) (fun _=> ?_)
     refine spl_d (fun hh=>absurd hh (by rw[eS];omega)) (fun _=> ?_)
     refine⟨str_len lx,_,bv_all lx,?_⟩
     refine⟨by omega,by omega,by omega,by omega,?_⟩
     have hv:sub (bv o) (0+0*1) (((L0-l:Nat):Int).toNat-0)=bv x:=by rw[Zb,Zl,bv_sub,ex];rfl
     refine⟨by rw[Zb,bv_len,lo];omega,x,by rw[hv];rfl,?_⟩
     refine spl_f (by simp) ?_
     refine⟨Za rfl,?_⟩
     refine⟨[i64 (tagOf tag),i64 md,i64 pd,bool false],rfl,rfl,?_⟩
     by_cases h3:pd=3
     ·refine⟨[],_,_,_,_,P5,?_,rfl,?_⟩
      ·show[cfgV (tagOf tag) md pd false,V.z lkk (bv key),V.z (ivN md s) (bv fi),V.z (L0-l) (sub (bv x) 0 (L0-l))]=_
       rw[bv_all lx]
      refine⟨_,rfl,?_⟩
      refine spl_eq (fun _=> ?_) (fun hh=>absurd h3 hh)
      exact⟨_,rfl,[],rfl,trivial⟩
     ·rw[hr h3]at P5
      refine⟨[],_,_,_,_,P5,?_,rfl,?_⟩
      ·show[cfgV (tagOf tag) md pd false,V.z lkk (bv key),V.z (ivN md s) (bv fi),V.z (L0-l) (sub (bv x) 0 (L0-l))]=_
       rw[bv_all lx]
      refine⟨_,rfl,?_⟩
      refine spl_eq (fun hh=>absurd hh h3) (fun _=> ?_)
      refine⟨by rw[bv_len],_,rfl,?_⟩
      refine⟨by rw[bv_len,lx0],_,rfl,?_⟩
      exact⟨_,rfl,[],congrArg bool (beq_self_eq_true _),trivial⟩
 ·refine⟨[],_,_,_,_,c_few_n hf,rfl,rfl,?_⟩
  exact⟨_,rfl,[],rfl,trivial⟩
end Go.Scr
