/-
  What the functions of the given program reckon, each by a contract, up to the law. It is no claim by itself; each contract bears its own conditions.
-/
import Derived.Test.YtgbbedfpdpnneaaGreatDoorY3
set_option linter.unusedVariables false
set_option linter.unusedSimpArgs false
set_option maxRecDepth 100000
namespace Go.Scr
open Go.Proofs
open Nat renaming le_of_ble_eq_true → Za, le_trans → Zi, le_refl → Zl, min_eq_left → Zn, zero_le → Zp
open Int renaming toNat_natCast → Zb, tmod_eq_emod_of_nonneg → Zk
open IntWalk renaming i64_in → Zc
open List renaming getElem_mem → Zd, flatMap_cons → Ze, getElem?_eq_getElem → Zf, length_take → Zg, map_append → Zh, take_add_one → Zm, length_map → Zo, mem_cons → Zq
open Option renaming toList_some → Zj
theorem c_rnone {n:Nat} {σ:CX} {x:Cl} {last:Bs} (hσ:CXok n σ) (hx:ClOk x) (hb:n+x.inp.length≤100000):
  ∃last' bs,Left (rnNext σ x) last' bs∧Con C N.run_one [.p (.k 0) 0,.a (clV x)] (rBk σ last) (.ret (.a (toV (rnTold σ x)))) bs:=by
 obtain⟨hk,hx1,hx2,hx3⟩:=hx
 by_cases h1:x.kind=1
 ·obtain⟨kind,c,inp⟩:=x
  obtain rfl:kind=1:=h1
  by_cases he:c.err=0
  ·obtain⟨⟨rs,h⟩,ok⟩:=Cf.ok he hx1
   have ho:∀σ,rnOut σ ⟨1,c,inp⟩=([],0):=fun σ=>by unfold rnOut;rw[if_pos rfl,he]
   have hn:∀σ,rnNext σ ⟨1,c,inp⟩= .op c none:=fun σ=>by unfold rnNext;rw[if_pos rfl,if_pos he]
   have L:Left (.op c none) [] (rN c):= .inr (.inr (.inr ⟨c,rfl,rfl⟩))
   rcases σ with _|⟨d,_|M⟩|d
   ·exact one_is (one_1A h rfl hx1 rfl ok) (ho _) (hn _) rfl L
   ·exact one_is (one_1B (t:=d.t) (mode:=d.mode) (pad:=d.pad) (back:=d.back) (k:=d.k) (xs:=d.xs) (iv:=d.iv) (last:=d.iv) (st:=⟨d.iv,[],[]⟩) (x:= .n) h rfl hx1 rfl ok) (ho _) (hn _) rfl L
   ·exact one_is (one_1B (t:=d.t) (mode:=d.mode) (pad:=d.pad) (back:=d.back) (k:=d.k) (xs:=d.xs) (iv:=d.iv) (last:=d.L M) (st:=d.S M) (x:= .o (d.H M)) h rfl hx1 rfl ok) (ho _) (hn _) rfl L
   ·exact one_is (one_1C (t:=d.t) (mode:=d.mode) (pad:=d.pad) (back:=d.back) (k:=d.k) (xs:=d.xs) (iv:=d.iv) (last:=last) h rfl hx1 rfl ok) (ho _) (hn _) rfl L
  ·have ho:∀σ,rnOut σ ⟨1,c,inp⟩=([],c.err):=fun σ=>by unfold rnOut;rw[if_pos rfl]
   have hn:∀σ,rnNext σ ⟨1,c,inp⟩=σ:=fun σ=>by unfold rnNext;rw[if_pos rfl,if_neg he]
   rcases σ with _|⟨d,_|M⟩|d
   ·exact one_is (one_nA rfl hx1 rfl he) (ho _) (hn _) rfl (.inl rfl) (last':=[])
   ·exact one_is (one_nB (t:=d.t) (mode:=d.mode) (pad:=d.pad) (back:=d.back) (k:=d.k) (xs:=d.xs) (iv:=d.iv) (last:=d.iv) (st:=⟨d.iv,[],[]⟩) (x:= .n) rfl hx1 rfl he) (ho _) (hn _) rfl (.inl rfl) (last':=[])
   ·exact one_is (one_nB (t:=d.t) (mode:=d.mode) (pad:=d.pad) (back:=d.back) (k:=d.k) (xs:=d.xs) (iv:=d.iv) (last:=d.L M) (st:=d.S M) (x:= .o (d.H M)) rfl hx1 rfl he) (ho _) (hn _) rfl (.inl rfl) (last':=[])
   ·exact one_is (one_nC (t:=d.t) (mode:=d.mode) (pad:=d.pad) (back:=d.back) (k:=d.k) (xs:=d.xs) (iv:=d.iv) (last:=last) rfl hx1 rfl he) (ho _) (hn _) rfl (.inl rfl)
 by_cases h2:x.kind=2
 ·obtain⟨kind,c,inp⟩:=x
  obtain rfl:kind=2:=h2
  rcases σ with _|⟨d,m⟩|d
  ·exact one_is (one_2A) (by unfold rnOut;rw[if_neg n21,if_pos rfl]) (by unfold rnNext;rw[if_neg n21,if_pos rfl]) rfl (.inl rfl) (last':=[])
  ·obtain⟨he,hkl,hml⟩:=hσ
   obtain⟨⟨rs,h⟩,ok⟩:=Cf.ok he hkl
   have hs:=h.s_le
   have hn:rnNext (.op d m) ⟨2,c,inp⟩= .op d (some (m.getD []++inp)):=by unfold rnNext;rw[if_neg n21,if_pos rfl]
   have ho:rnOut (.op d m) ⟨2,c,inp⟩=((d.T (m.getD []++inp)).drop (d.T (m.getD [])).length,0):=by unfold rnOut;rw[if_neg n21,if_pos rfl]
   have hb':(m.getD []).length+inp.length≤100000:=Zi (Nat.add_le_add_right hml _) hb
   rcases m with _|M
   ·obtain⟨n1,o,hn1,_,hT,U⟩:=cx_up h (b:=inp) (back:=d.back) (M:=[]) (x:= .n) ok (.inl ⟨rfl,cxH_0⟩) rfl (by simpa using hb')
    have U:=U.resolve_right (fun hh=>hh.1 (by rw[cS_0' (by omega) ok]))
    rw[cL_0 (by omega) ok,cS_0' (by omega) ok]at U
    have ho':(d.T ([]++inp)).drop (d.T []).length=o:=by rw[show d.T ([]++inp)=d.T []++o from hT,List.drop_left]
    refine one_is (o:=(o,0)) (last':=[]) (one_2B (t:=d.t) (mode:=d.mode) (pad:=d.pad) (back:=d.back) (k:=d.k) (xs:=d.xs) (iv:=d.iv) (last:=d.iv) (st:=⟨d.iv,[],[]⟩) (x:= .n) U) (by rw[ho];exact congrArg (fun z=>(z,(0:Int))) ho') hn ?_ (.inr (.inl ⟨d,[]++inp,rfl,rfl⟩))
    rw[←hn1];rfl
   ·obtain⟨n1,o,hn1,_,hT,U⟩:=cx_up h (b:=inp) (back:=d.back) (M:=M) (x:= .o (d.H M)) ok (.inr rfl) rfl hb'
    have ho':(d.T (M++inp)).drop (d.T M).length=o:=by rw[show d.T (M++inp)=d.T M++o from hT,List.drop_left]
    rcases U with U|⟨_,U⟩
    ·refine one_is (o:=(o,0)) (last':=[]) (one_2B (t:=d.t) (mode:=d.mode) (pad:=d.pad) (back:=d.back) (k:=d.k) (xs:=d.xs) (iv:=d.iv) (last:=d.L M) (st:=d.S M) (x:= .o (d.H M)) U) (by rw[ho];exact congrArg (fun z=>(z,(0:Int))) ho') hn ?_ (.inr (.inl ⟨d,M++inp,rfl,rfl⟩))
     rw[←hn1];rfl
    ·refine one_is (o:=(o,0)) (last':=[]) (one_2Bk (t:=d.t) (mode:=d.mode) (pad:=d.pad) (back:=d.back) (k:=d.k) (xs:=d.xs) (iv:=d.iv) (last:=d.L M) (st:=d.S M) (x:= .o (d.H M)) U) (by rw[ho];exact congrArg (fun z=>(z,(0:Int))) ho') hn ?_ (.inr (.inr (.inl ⟨d,M++inp,rfl,rfl⟩)))
     rw[←hn1];rfl
  ·exact one_is (one_2C (last:=last)) (by unfold rnOut;rw[if_neg n21,if_pos rfl]) (by unfold rnNext;rw[if_neg n21,if_pos rfl]) rfl (.inl rfl)
 by_cases h3:x.kind=3
 ·obtain⟨kind,c,inp⟩:=x
  obtain rfl:kind=3:=h3
  rcases σ with _|⟨d,m⟩|d
  ·exact one_is (one_3A) (by unfold rnOut;rw[if_neg n31,if_neg n32,if_pos rfl]) (by unfold rnNext;rw[if_neg n31,if_neg n32,if_pos rfl]) rfl (.inl rfl) (last':=[])
  ·obtain⟨he,hkl,hml⟩:=hσ
   obtain⟨⟨rs,h⟩,ok⟩:=Cf.ok he hkl
   have hs:=h.s_le
   have hn:rnNext (.op d m) ⟨3,c,inp⟩= .cl d:=by unfold rnNext;rw[if_neg n31,if_neg n32,if_pos rfl]
   have ho:rnOut (.op d m) ⟨3,c,inp⟩=d.fin (m.getD []):=by unfold rnOut;rw[if_neg n31,if_neg n32,if_pos rfl]
   rcases m with _|M
   ·obtain⟨_,l',F⟩:=cx_fi h (back:=d.back) (M:=[]) (x:= .n) (r:=d.fin []) ok (.inl ⟨rfl,cxH_0⟩) (by simp) rfl
    rw[cL_0 (by omega) ok,cS_0' (by omega) ok]at F
    exact one_is (one_3B (t:=d.t) (mode:=d.mode) (pad:=d.pad) (back:=d.back) (k:=d.k) (xs:=d.xs) (iv:=d.iv) (last:=d.iv) (st:=⟨d.iv,[],[]⟩) (x:= .n) F) ho hn rfl (.inl rfl)
   ·obtain⟨_,l',F⟩:=cx_fi h (back:=d.back) (M:=M) (x:= .o (d.H M)) (r:=d.fin M) ok (.inr rfl) (Zi (Zi hml (Nat.le_add_right _ _)) hb) rfl
    exact one_is (one_3B (t:=d.t) (mode:=d.mode) (pad:=d.pad) (back:=d.back) (k:=d.k) (xs:=d.xs) (iv:=d.iv) (last:=d.L M) (st:=d.S M) (x:= .o (d.H M)) F) ho hn rfl (.inl rfl)
  ·exact one_is (one_3C (last:=last)) (by unfold rnOut;rw[if_neg n31,if_neg n32,if_pos rfl]) (by unfold rnNext;rw[if_neg n31,if_neg n32,if_pos rfl]) rfl (.inl rfl)
 by_cases h4:x.kind=4
 ·obtain⟨kind,c,inp⟩:=x
  obtain rfl:kind=4:=h4
  rcases σ with _|⟨d,m⟩|d
  ·exact one_is (one_4A) (by unfold rnOut;rw[if_neg n41,if_neg n42,if_neg n43,if_pos rfl]) (by unfold rnNext;rw[if_neg n41,if_neg n42,if_neg n43,if_pos rfl]) rfl (.inl rfl) (last':=[])
  ·obtain⟨⟨rs,h⟩,ok⟩:=Cf.ok hσ.1 hσ.2.1
   have hn:rnNext (.op d m) ⟨4,c,inp⟩= .op d none:=by unfold rnNext;rw[if_neg n41,if_neg n42,if_neg n43,if_pos rfl]
   have ho:rnOut (.op d m) ⟨4,c,inp⟩=([],0):=by unfold rnOut;rw[if_neg n41,if_neg n42,if_neg n43,if_pos rfl]
   rcases m with _|M
   ·exact one_is (one_4B (last:=d.iv) (st:=⟨d.iv,[],[]⟩) (x:= .n) h ok) ho hn rfl (.inr (.inr (.inr ⟨d,rfl,rfl⟩))) (last':=[])
   ·exact one_is (one_4B (last:=d.L M) (st:=d.S M) (x:= .o (d.H M)) h ok) ho hn rfl (.inr (.inr (.inr ⟨d,rfl,rfl⟩))) (last':=[])
  ·obtain⟨⟨rs,h⟩,ok⟩:=Cf.ok hσ.1 hσ.2
   exact one_is (one_4C (last:=last) h ok) (by unfold rnOut;rw[if_neg n41,if_neg n42,if_neg n43,if_pos rfl]) (by unfold rnNext;rw[if_neg n41,if_neg n42,if_neg n43,if_pos rfl]) rfl (.inr (.inr (.inr ⟨d,rfl,rfl⟩))) (last':=[])
 have ho:∀σ,rnOut σ x=([],1):=fun σ=>by unfold rnOut;rw[if_neg h1,if_neg h2,if_neg h3,if_neg h4]
 have hn:∀σ,rnNext σ x=σ:=fun σ=>by unfold rnNext;rw[if_neg h1,if_neg h2,if_neg h3,if_neg h4]
 rcases σ with _|⟨d,_|M⟩|d
 ·exact one_is (one_0A h1 h2 h3 h4) (ho _) (hn _) rfl (.inl rfl) (last':=[])
 ·exact one_is (one_0B (last:=d.iv) (st:=⟨d.iv,[],[]⟩) (x:= .n) h1 h2 h3 h4) (ho _) (hn _) rfl (.inl rfl) (last':=[])
 ·exact one_is (one_0B (last:=d.L M) (st:=d.S M) (x:= .o (d.H M)) h1 h2 h3 h4) (ho _) (hn _) rfl (.inl rfl) (last':=[])
 ·exact one_is (one_0C (last:=last) h1 h2 h3 h4) (ho _) (hn _) rfl (.inl rfl)
theorem fm_sub {α β:Type} {f:α→List β} {e:Nat} (hf:∀x,(f x).length=e):∀(l:List α) (i:Nat) (h:i<l.length),sub (l.flatMap f) (i*e) e=f l[i]
 |[],_,h=>absurd h (by simp)
 |x::r,0,_=>by
  show sub ((x::r).flatMap f) (0*e) e=f x
  rw[Ze,Nat.zero_mul]
  unfold sub
  rw[List.drop_zero,List.take_append_of_le_length (by rw[hf];exact Zl _),List.take_of_length_le (by rw[hf];exact Zl _)]
 |x::r,i+1,h=>by
  have ih:=fm_sub hf r i (by simpa using h)
  rw[Ze]
  unfold sub at ih ⊢
  rw[show (i+1)*e=(f x).length+i*e by rw[hf,Nat.succ_mul,Nat.add_comm],List.drop_append,List.drop_of_length_le (Nat.le_add_right _ _),List.nil_append,Nat.add_sub_cancel_left]
  exact ih
theorem fm_len {α β:Type} {f:α→List β} {e:Nat} (hf:∀x,(f x).length=e):∀(l:List α),(l.flatMap f).length=l.length*e
 |[]=>(Nat.zero_mul e).symm
 |x::r=>by rw[Ze,List.length_append,hf,fm_len hf r,List.length_cons,Nat.succ_mul,Nat.add_comm]
theorem scopeQ {α:Type} {C:Ctx} {rt:Rt} {m:Nat} {c:Code} {s:S} {K:X→S→Prop} (l:Nat) {p q:Code} (hs:splitL c l=some (p,q)) (I:α→D) (Q:α→Prop) (μ:α→Nat) (h0:vc C rt m p s fun e s'=>match e with
   | .normal=>∃(l:List (Nat×Nat×B)) (y:α),Q y∧nils l 0 s' fun s'=>Mt m s' (I y)
   | .goto l'=>l'=l∧∃y:α,Q y∧Mt m s' (I y)
   |e=>K e s') (h:∀x,Q x→vc C rt m q (I x).s fun e s'=>match e with
   | .goto l'=>l'=l∧∃y:α,Q y∧μ y<μ x∧Mt m s' (I y)
   |e=>K e s'):scopeVC C rt m c s K:=
 ⟨l,α,I,Q,μ,by rw[hs];exact⟨h0,h⟩⟩
noncomputable def rD (n i:Nat) (cs ts:List V) (σ:CX) (last:Bs):D:=⟨[(0,.zz 8 n cs),(3,.o 3 (.k 4) 0 i),(4,.p (.k 0) 0),(5,i64 i)],rBk σ last++[.pl ts]⟩
noncomputable def rBo (c:Cf) (H L:Bs) (st:MS):List B:=[cxO true c.t c.mode c.pad c.back c.k c.xs c.iv (.o H) L,moX (cipV c.t c.k c.xs) (cxMd c.mode) c.back st 2,gnB st.row st.gone,.sc (bv H)]
theorem rBk_o {c:Cf} {M last:Bs}:rBk (.op c (some M)) last=rBo c (c.H M) (c.L M) (c.S M):=rfl
noncomputable def rDo (n i:Nat) (cs ts:List V) (c:Cf) (H L:Bs) (st:MS):D:=⟨[(0,.zz 8 n cs),(3,.o 3 (.k 4) 0 i),(4,.p (.k 0) 0),(5,i64 i)],rBo c H L st++[.pl ts]⟩
theorem rD_o {n i:Nat} {cs ts:List V} {c:Cf} {M last:Bs}:rD n i cs ts (.op c (some M)) last=rDo n i cs ts c (c.H M) (c.L M) (c.S M):=rfl
noncomputable def rV1 (c:Cf) (H L:Bs) (st:MS):List B:=[cxX true true c.t c.mode c.pad c.back (cipV c.t c.k c.xs) (.z c.iv.length (bv c.iv)) (.p (.k 1) 0) (.o 1 (.k 5) 0 H.length) (.z L.length (bv L)),moX (cipV c.t c.k c.xs) (cxMd c.mode) c.back st 4,.dead,.dead,gnB st.row st.gone,.sc (bv H)]
noncomputable def rV2 (c:Cf) (H L:Bs) (st:MS):List B:=[cxX true true c.t c.mode c.pad c.back (cipV c.t c.k c.xs) (.z c.iv.length (bv c.iv)) (.p (.k 1) 0) (.o 1 (.k 4) 0 H.length) (.z L.length (bv L)),moX (cipV c.t c.k c.xs) (cxMd c.mode) c.back st 2,gnB st.row st.gone,.dead,.sc (bv H)]
theorem rU1_o {c:Cf} {M:Bs}:rU1 c M=rV1 c (c.H M) (c.L M) (c.S M):=rfl
theorem rU2_o {c:Cf} {M:Bs}:rU2 c M=rV2 c (c.H M) (c.L M) (c.S M):=rfl
theorem rn_ok {l:List Cl} (hl:∀x∈l,ClOk x):∀i,i≤l.length→CXok (1000*i) (rnSt .nw (l.take i))
 |0,_=>by rw[List.take_zero];exact trivial
 |i+1,h=>by
  have ih:=rn_ok hl i (by omega)
  have hx:=hl l[i] (Zd (by omega))
  rw[Zm,Zf (by omega:i<l.length)]
  unfold rnSt at ih ⊢
  rw[Zj,List.foldl_append,List.foldl_cons,List.foldl_nil]
  have:=ih.next hx
  generalize rnNext _ _=τ at this ⊢
  cases τ with
  |nw=>trivial
  |op c m=>exact⟨this.1,this.2.1,Zi this.2.2 (by have:=hx.2.2.2;omega)⟩
  |cl c=>exact this
theorem rn_succ {l:List Cl} {i:Nat} (h:i<l.length):rnSt .nw (l.take (i+1))=rnNext (rnSt .nw (l.take i)) l[i]∧rnAll .nw (l.take (i+1))=rnAll .nw (l.take i)++[rnTold (rnSt .nw (l.take i)) l[i]]:=by
 rw[Zm,Zf h,Zj,rnAll_app]
 refine⟨?_,rfl⟩
 unfold rnSt
 rw[List.foldl_append];rfl
set_option maxHeartbeats 4000000 in
theorem c_run {l:List Cl} {n:Nat} (hn:l.length=n) (hl:∀x∈l,ClOk x) (hb:n≤99):
  Con C N.run_Run [.zz 8 n (l.flatMap clV)] [] (.ret (.zz 3 n ((rnAll .nw l).flatMap toV))) []:=by
 subst hn
 refine fd.run_Run.c ?_
 refine scopeQ (α:=Nat×Bs) 0 rfl (fun p=>rD l.length p.1 (l.flatMap clV) ((rnAll .nw (l.take p.1)).flatMap toV) (rnSt .nw (l.take p.1)) p.2) (fun p=>p.1≤l.length) (fun p=>l.length-p.1) ?_ fun p hp=> ?_
 ·refine⟨Int.le_refl _,by omega,by omega,?_⟩
  refine⟨[],_,_,_,_,c_cxnew.fg (.keep (.dd (.dd (.dd .nil)))),rfl,rfl,?_⟩
  exact⟨[],(0,[]),Zp _,[.d 9 0,.d 9 1,.d 9 2,.d 9 3,.d 8 0],⟨rfl,rfl,rfl,rfl,trivial⟩,⟨_,rfl,rfl⟩,⟨_,rfl,rfl⟩,⟨_,rfl,rfl⟩,⟨_,rfl,rfl⟩,⟨_,rfl,rfl⟩,trivial⟩
 ·obtain⟨i,last⟩:=p
  show vc _ _ _ _ (rD l.length i (l.flatMap clV) ((rnAll .nw (l.take i)).flatMap toV) (rnSt .nw (l.take i)) last).s _
  have hi:i≤l.length:=hp
  have ho:=rn_ok hl i hi
  have hTl:((rnAll .nw (l.take i)).flatMap toV).length=i*3:=by rw[fm_len (e:=3) (fun _=>rfl),rnAll_len,Zg,Zn hi]
  by_cases hlt:i<l.length
  ·obtain⟨s1,s2⟩:=rn_succ hlt
   obtain⟨last',bs,hL,ONE⟩:=c_rnone (last:=last) ho (hl l[i] (Zd hlt)) (by have:=(hl l[i] (Zd hlt)).2.2.2;omega)
   have hT2:((rnAll .nw (l.take (i+1))).flatMap toV)=((rnAll .nw (l.take i)).flatMap toV)++toV (rnTold (rnSt .nw (l.take i)) l[i]):=by rw[s2,List.flatMap_append];rfl
   have hX:sub (l.flatMap clV) (((i:Nat):Int).toNat*8) 8=clV l[i]:=by rw[Zb];exact fm_sub (f:=clV) (e:=8) (fun _=>rfl) l i hlt
   have goal:rD l.length (i+1) (l.flatMap clV) ((rnAll .nw (l.take (i+1))).flatMap toV) (rnSt .nw (l.take (i+1))) last'=rD l.length (i+1) (l.flatMap clV) ((rnAll .nw (l.take i)).flatMap toV++toV (rnTold (rnSt .nw (l.take i)) l[i])) (rnNext (rnSt .nw (l.take i)) l[i]) last':=by rw[hT2,s1]
   clear hT2 s1 s2 ho
   generalize rnTold (rnSt .nw (l.take i)) l[i]=τ at*
   generalize rnNext (rnSt .nw (l.take i)) l[i]=σ' at*
   generalize (rnAll .nw (l.take i)).flatMap toV=ts at*
   generalize rnSt .nw (l.take i)=σ at*
   have hts:sub ts 0 (i*3)++sub (toV τ) 0 (1*3)=ts++toV τ:=by rw[sub_all hTl];rfl
   rcases hL with h0|⟨d',M',rfl,rfl⟩|⟨d',M',rfl,rfl⟩|⟨d',rfl,rfl⟩
   all_goals try (obtain rfl:=h0;rcases σ' with _|⟨d',_|M'⟩|d')
   all_goals rcases σ with _|⟨d,_|M⟩|d
   all_goals try simp only[rBk_o,rU1_o,rU2_o]at ONE
   all_goals try rw[rD_o]at goal
   all_goals try rw[rD_o]
   all_goals try (generalize d.S M=st at *;obtain⟨ch,row,g⟩:=st;rcases row with _|⟨a,r⟩)
   all_goals try (generalize d'.S M'=st' at *;obtain⟨ch',row',g'⟩:=st';rcases row' with _|⟨a',r'⟩)
   all_goals
    refine spl_d (fun _=> ?_) (fun hh=>absurd (by omega) hh)
    refine⟨by omega,by omega,?_⟩
    refine⟨clV l[i],hX,rfl,?_⟩
    refine⟨[.k 0,.k 1,.k 2,.k 3],_,_,_,_,ONE,rfl,rfl,?_⟩
    refine⟨Za rfl,by omega,by omega,?_⟩
    refine⟨rfl,(i+1,last'),hlt,by show l.length-(i+1)<l.length-i;omega,Mt_eq goal ?_⟩
    first
     |exact⟨[.k 0,.k 1,.k 2,.k 3,.d 22 0],⟨rfl,rfl,rfl,q7i (by simp(disch:=omega)only[Zc];omega),trivial⟩,⟨_,rfl,rfl⟩,⟨_,rfl,rfl⟩,⟨_,rfl,rfl⟩,⟨_,rfl,rfl⟩,⟨_,rfl,congrArg B.pl hts⟩,trivial⟩
     |exact⟨[.k 0,.k 1,.d 20 4,.d 20 5,.d 22 0],⟨rfl,rfl,rfl,q7i (by simp(disch:=omega)only[Zc];omega),trivial⟩,⟨_,rfl,rfl⟩,⟨_,rfl,rfl⟩,⟨_,rfl,rfl⟩,⟨_,rfl,rfl⟩,⟨_,rfl,congrArg B.pl hts⟩,trivial⟩
     |exact⟨[.k 0,.k 1,.k 2,.d 20 4,.d 22 0],⟨rfl,rfl,rfl,q7i (by simp(disch:=omega)only[Zc];omega),trivial⟩,⟨_,rfl,rfl⟩,⟨_,rfl,rfl⟩,⟨_,rfl,rfl⟩,⟨_,rfl,rfl⟩,⟨_,rfl,congrArg B.pl hts⟩,trivial⟩
     |exact⟨[.k 0,.d 20 4,.d 20 5,.d 20 6,.d 22 0],⟨rfl,rfl,rfl,q7i (by simp(disch:=omega)only[Zc];omega),trivial⟩,⟨_,rfl,rfl⟩,⟨_,rfl,rfl⟩,⟨_,rfl,rfl⟩,⟨_,rfl,rfl⟩,⟨_,rfl,congrArg B.pl hts⟩,trivial⟩
  ·have hni:i=l.length:=by omega
   subst hni
   rw[List.take_length]at*
   generalize rnSt .nw l=σ at*
   generalize (rnAll .nw l).flatMap toV=ts at*
   rcases σ with _|⟨d,_|M⟩|d
   all_goals try rw[rD_o]
   all_goals try (generalize d.S M=st at *;obtain⟨ch,row,g⟩:=st;rcases row with _|⟨a,r⟩)
   all_goals
    refine spl_d (fun hh=>absurd hh (by omega)) (fun _=> ?_)
    exact⟨_,rfl,[],congrArg (V.zz 3 l.length) (sub_all hTl),trivial⟩
theorem Con.argz {C:Ctx} {f e n:Nat} {xs ys:List V} {bs bs':List B} {r:Oc} (h:Con C f [.zz e n ys] bs r bs') (hw:WkL xs ys):Con C f [.zz e n xs] bs r bs':=
 ⟨h.1,fun w F ι vs st hgl hdm hl=>h.2 w F ι vs st hgl hdm (by
  generalize vs.toList=l at hl
  cases hl with
  |cons h1 h2=>
   refine .cons ?_ h2
   cases h1 with
   |fz h1=>
    cases h1 with
    |zz0=>cases hw;exact .fz .zz0
    |zz a b c=>exact .fz (.zz a (hw.rf b) c))⟩
theorem RFL_s {w:World} {F:Nat→Prop}:∀(vs:List Value),RFL w F (vs.map .s) vs
 |[]=> .nil
 |_::r=> .cons .s (RFL_s r)
theorem Con.lentS {C:Ctx} {f e n:Nat} {ys:List V} {r:Oc} {us:List Value} (h:Con C f [.zz e n ys] [] r []) (hx:sub (us.map .s) 0 (n*e)=ys):Con C f [.o e (.k 0) 0 n] [.sc us] r [.dead]:=by
 refine⟨h.1,fun w F ι vs st hgl hdm hl=> ?_⟩
 have hH:∀{id X},Hof [B.pl (us.map .s)] id=some X→id= .k 0∧X= .pl (us.map .s):=by
  intro id X h
  cases id with
  |d=>simp[Hof]at h
  |k k=>
   cases k with
   |zero=>simp[Hof]at h;exact⟨rfl,h.symm⟩
   |succ k=>simp[Hof]at h
 have st2:St w (Lb ι [.sc us]) w F ι (Hof [.pl (us.map .s)]):={
  os:=st.os,tape:=st.tape,output:=st.output,size:=st.size,old:=st.old,shp:=st.shp,fr:=st.fr
  own:=fun id X h hX=>by
   obtain⟨rfl,rfl⟩:=hH h
   rcases st.own (.k 0) (.sc us) rfl (by simp)with ⟨h0,hi⟩|⟨b,base,hi,hF,hL,arr,t,fr,hh,hfr,vs,hc,hb⟩
   ·exact .inl ⟨by simpa [B.len]using h0,hi⟩
   ·refine .inr ⟨b,base,hi,hF,hL,arr,t,fr,hh,hfr,vs,hc,?_⟩
    have hb:us=vs:=hb
    subst hb
    exact RFL_s us
  inj:=fun id id' X X' b base base' h _ h' _ _ _=>by
   obtain⟨rfl,_⟩:=hH h
   obtain⟨rfl,_⟩:=hH h'
   rfl}
 have sk:=St.keep st2 (Hr:=Hof [.pl (us.map .s)]) (fun _ _ h=>h) [] List.nodup_nil (bs:=[]) (by simp)
 have hRL:RL w (Fx F ι (Hof [.pl (us.map .s)]) []) (Ik ι []) [.zz e n ys] vs.toList:=by
  generalize vs.toList=l at hl
  cases hl with
  |cons h1 h2=>
   cases h2
   refine .cons (.fz ?_) .nil
   have:=snap_R (ids:=[]) st2 (Hr:=Hof [.pl (us.map .s)]) (fun _ _ h=>h) 6 h1
   rw[←hx]
   exact this
 refine Calls.mono (h.2 w _ (Ik ι []) vs (Lb_own sk) (fun g=>(hgl g).mono fun _=> .inl) (fun id x hx=>by cases id<;>simp[Ik]at hx) hRL) ?_
 rintro e' w' ⟨F1,ι1,g1,g2,g3,st1,g5,g6⟩
 have hL:∀b,Fx F ι (Hof [.pl (us.map .s)]) [] b→F b∨Lb ι [.sc us] b:=by
  rintro b (h|⟨id,X,base,h1,_,_,h4⟩)
  ·exact .inl h
  ·obtain⟨rfl,rfl⟩:=hH h1
   exact .inr ⟨0,.sc us,base,rfl,by simp,h4⟩
 refine⟨F1,ι,fun b hb=>g1 b (.inl hb),fun b hb=> ?_,fun _ _ h=>h,?_,fun id x hx=> ?_,?_⟩
 ·rcases g2 b hb with h|⟨k,X,base,h,_⟩|h
  ·exact(hL b h).imp id .inl
  ·simp at h
  ·exact .inr (.inr h)
 ·refine⟨st1.os,st1.tape,st1.output,st1.size,fun b hb hn=>st1.old b hb ?_,st1.shp,st1.fr,?_,?_⟩
  ·rintro ⟨k,X,base,h,_⟩
   simp at h
  ·intro id X h hX
   cases id with
   |d=>simp[Hof]at h
   |k k=>
    cases k with
    |zero=>simp[Hof]at h;exact absurd h.symm hX
    |succ k=>simp[Hof]at h
  ·intro id id' X X' b base base' h hX
   cases id with
   |d=>simp[Hof]at h
   |k k=>
    cases k with
    |zero=>simp[Hof]at h;exact absurd h.symm hX
    |succ k=>simp[Hof]at h
 ·obtain⟨k,hk,rfl⟩:=hdm id x hx
  exact⟨k,hk,rfl⟩
 ·have him:∀id x,ι1 id=some x→ι id=some x:=fun id x h=>by
   obtain⟨k,hk,_⟩:=g5 id x h
   simp at hk
  cases r with
  |ret v=>obtain⟨x,he,hR⟩:=g6;exact⟨x,he,R.ev (Ev.refl _ _) (fun _ h=>h) him hR⟩
  |pan v=>obtain⟨x,he,hR⟩:=g6;exact⟨x,he,R.ev (Ev.refl _ _) (fun _ h=>h) him hR⟩
theorem c_w17 {a n:Int} (hn:0<n) (hn2:n≤4611686018427387904) (ha: -9223372036854775808≤a∧a≤9223372036854775807):Con C N.law17_within [i64 a,i64 n] [] (.ret (i64 (a%n))) []:=by
 refine fd.law17_within.c ?_
 have h1: -n<a.tmod n:=Int.lt_tmod_of_pos a hn
 have h2:a.tmod n<n:=Int.tmod_lt_of_pos a hn
 refine⟨by omega,?_⟩
 refine spl_d (fun h=> ?_) (fun h=> ?_)
 ·refine⟨_,rfl,[],q7i ?_,trivial⟩
  rw[Zc _ (by omega)]
  rw[←rest_eq a n hn,Zk (a:=a.tmod n+n) (by omega),Int.emod_eq_of_lt (by omega) (by omega)]
 ·refine⟨_,rfl,[],q7i ?_,trivial⟩
  rw[←rest_eq a n hn,Zk (a:=a.tmod n+n) (by omega),Int.add_emod_right,Int.emod_eq_of_lt (by omega) (by omega)]
theorem rn3 {x:Cl} (h:x.kind=3):rnOut .nw x=([],6)∧rnNext .nw x= .nw:=by
 unfold rnOut rnNext
 rw[if_neg (by omega),if_neg (by omega),if_pos h,if_neg (by omega),if_neg (by omega),if_pos h]
 exact⟨rfl,rfl⟩
theorem rn0 {x:Cl} (σ:CX) (h1:x.kind≠1) (h2:x.kind≠2) (h3:x.kind≠3) (h4:x.kind≠4):rnOut σ x=([],1)∧rnNext σ x=σ:=by
 unfold rnOut rnNext
 rw[if_neg h1,if_neg h2,if_neg h3,if_neg h4,if_neg h1,if_neg h2,if_neg h3,if_neg h4]
 exact⟨rfl,rfl⟩
def cl0 (kind:Int):Cl:=⟨kind,⟨0,0,0,false,[],[]⟩,[]⟩
theorem c_known17:Con C N.law17_known [] [] (.ret (bool true)) []:=by
 have R0:=c_run (l:=[]) (n:=0) rfl (by simp) (by omega)
 have ok:∀k:Int,(-9223372036854775808≤k∧k≤9223372036854775807)→ClOk (cl0 k):=fun k hk=>⟨hk,Zp _,Zp _,Zp _⟩
 have R2:=c_run (l:=[cl0 3,cl0 9]) (n:=2) rfl (by
  intro x hx
  rcases Zq.1 hx with rfl|hx
  ·exact ok 3 (by omega)
  ·rcases Zq.1 hx with rfl|hx
   ·exact ok 9 (by omega)
   ·simp at hx) (by omega)
 have e:(rnAll .nw [cl0 3,cl0 9]).flatMap toV=[.z 0 (bv []),i64 6,i64 0,.z 0 (bv []),i64 1,i64 0]:=by
  obtain⟨o1,s1⟩:=rn3 (x:=cl0 3) rfl
  obtain⟨o2,s2⟩:=rn0 (x:=cl0 9) .nw (show (9:Int)≠1 by decide) (show (9:Int)≠2 by decide) (show (9:Int)≠3 by decide) (show (9:Int)≠4 by decide)
  unfold rnAll rnAll rnAll rnTold
  rw[s1,o1,o2,s2]
  rfl
 rw[e]at R2
 have R2:=R2.argz (xs:=[i64 3,i64 0,i64 0,i64 0,bool false,nilv,nilv,nilv,i64 9,i64 0,i64 0,i64 0,bool false,nilv,nilv,nilv]) (.cons (.refl _) (.cons (.refl _) (.cons (.refl _) (.cons (.refl _) (.cons (.refl _) (.cons .nl (.cons .nl (.cons .nl (.cons (.refl _) (.cons (.refl _) (.cons (.refl _) (.cons (.refl _) (.cons (.refl _) (.cons .nl (.cons .nl (.cons .nl .nil))))))))))))))))
 refine fd.law17_known.c ?_
 refine⟨[.d 4 0],_,_,_,_,Con.lentS (us:=[.int .i64 3,.int .i64 0,.int .i64 0,.int .i64 0,.bool false,.slice none 0 0,.slice none 0 0,.slice none 0 0,.int .i64 9,.int .i64 0,.int .i64 0,.int .i64 0,.bool false,.slice none 0 0,.slice none 0 0,.slice none 0 0]) R2 rfl,rfl,rfl,?_⟩
 refine⟨[],_,_,_,_,(Con.args R0 (ys0:=[nilv]) (.cons .nlz .nil)),rfl,rfl,?_⟩
 refine⟨by omega,by omega,_,rfl,?_⟩
 refine⟨by omega,by omega,_,rfl,?_⟩
 exact⟨_,rfl,[],rfl,trivial⟩
structure RawL where
 kind:Int
 tag:Int
 n:Int
 mode:Int
 pad:Int
 back:Bool
 key:Bs
 iv:Bs
 inp:Bs
 ct:Int
 cm:Int
 cp:Int
 cb:Bool
abbrev rwV (x:RawL):List V:=[i64 x.kind,i64 x.tag,i64 x.n,i64 x.mode,i64 x.pad,bool x.back,.z x.key.length (bv x.key),.z x.iv.length (bv x.iv),.z x.inp.length (bv x.inp),i64 x.ct,i64 x.cm,i64 x.cp,bool x.cb]
def RawOk (x:RawL):Prop:=In64 x.kind∧In64 x.tag∧In64 x.n∧In64 x.mode∧In64 x.pad
def RawFew (x:RawL):Prop:=(x.key.length≤100∧x.iv.length≤100)∧x.inp.length≤60
theorem fm_subk {α β:Type} {f:α→List β} {e:Nat} (hf:∀x,(f x).length=e) (l:List α) (i:Nat) (h:i<l.length) (k m:Nat) (hk:k+m≤e):sub (l.flatMap f) (i*e+k) m=sub (f l[i]) k m:=by
 have h0:=fm_sub hf l i h
 rw[←h0]
 unfold sub
 rw[List.drop_take,List.drop_drop,List.take_take,Zn (by omega)]
theorem fm_get {α β:Type} {f:α→List β} {e:Nat} (hf:∀x,(f x).length=e) (l:List α) (i:Nat) (h:i<l.length) (k:Nat) (hk:k<e):(l.flatMap f)[i*e+k]? =(f l[i])[k]? :=by
 have h0:=congrArg (fun z:List β=>z[0]?) (fm_subk hf l i h k 1 (by omega))
 unfold sub at h0
 simpa using h0
theorem first_bad {α:Type} {p:α→Prop}:∀(l:List α),¬(∀x∈l,p x)→∃(m:Nat) (h:m<l.length),¬p l[m]∧∀(j:Nat) (hj:j<m),p (l[j]'(Nat.lt_trans hj h))
 |[],h=>absurd (by simp) h
 |x::r,h=>by
  by_cases hx:p x
  ·obtain⟨m,hm,h1,h2⟩:=first_bad r (fun hr=>h (by
    intro y hy
    rcases Zq.1 hy with rfl|hy
    ·exact hx
    ·exact hr y hy))
   refine⟨m+1,by simpa using hm,by simpa using h1,fun j hj=> ?_⟩
   cases j with
   |zero=>exact hx
   |succ j=>exact h2 j (by omega)
  ·exact⟨0,by simp,hx,fun j hj=>absurd hj (by omega)⟩
theorem c_few17_y {l:List RawL} {n:Nat} (hn:l.length=n) (hb:n≤9223372036854775807) (hf:∀x∈l,RawFew x):Con C N.law17_Few [.zz 13 n (l.flatMap rwV)] [] (.ret (bool true)) []:=by
 subst hn
 refine fd.law17_Few.c ?_
 refine loopN (fun i=>⟨[(0,.zz 13 l.length (l.flatMap rwV)),(3,i64 i)],[]⟩) l.length ⟨[],⟨rfl,rfl,trivial⟩,trivial⟩ fun i hi=> ?_
 refine spl_d (fun hlt=> ?_) (fun hge=> ?_)
 ·have hl:i<l.length:=by omega
  have hF:=hf l[i] (Zd hl)
  have e1:sub (l.flatMap rwV) (((i:Nat):Int).toNat*13+1) 7=sub (rwV l[i]) 1 7:=by rw[Zb];exact fm_subk (f:=rwV) (e:=13) (fun _=>rfl) l i hl 1 7 (by decide)
  have e8:(l.flatMap rwV)[((i:Nat):Int).toNat*13+8]? =(rwV l[i])[8]? :=by rw[Zb];exact fm_get (f:=rwV) (e:=13) (fun _=>rfl) l i hl 8 (by decide)
  refine⟨by omega,by omega,?_⟩
  refine⟨_,e1,rfl,?_⟩
  refine⟨[],_,_,_,_,c_few_y (tag:=l[i].tag) (n:=l[i].n) (mode:=l[i].mode) (pad:=l[i].pad) (back:=l[i].back) (k:=l[i].key) (iv:=l[i].iv) hF.1,rfl,rfl,?_⟩
  refine⟨by omega,by omega,?_⟩
  refine⟨_,e8,?_⟩
  refine spl_d (fun hh=>absurd hh (by have:=hF.2;omega)) (fun _=> ?_)
  exact⟨i+1,by omega,by omega,[],⟨rfl,q7i (by simp(disch:=omega)only[Zc];omega),trivial⟩,trivial⟩
 ·exact⟨_,rfl,[],rfl,trivial⟩
theorem c_few17_n {l:List RawL} {n:Nat} (hn:l.length=n) (hb:n≤9223372036854775807) (hf:¬∀x∈l,RawFew x):Con C N.law17_Few [.zz 13 n (l.flatMap rwV)] [] (.ret (bool false)) []:=by
 subst hn
 obtain⟨m,hm,hm1,hm2⟩:=first_bad l hf
 refine fd.law17_Few.c ?_
 refine loopN (fun i=>⟨[(0,.zz 13 l.length (l.flatMap rwV)),(3,i64 i)],[]⟩) m ⟨[],⟨rfl,rfl,trivial⟩,trivial⟩ fun i hi=> ?_
 have hl:i<l.length:=by omega
 have e1:sub (l.flatMap rwV) (((i:Nat):Int).toNat*13+1) 7=sub (rwV l[i]) 1 7:=by rw[Zb];exact fm_subk (f:=rwV) (e:=13) (fun _=>rfl) l i hl 1 7 (by decide)
 have e8:(l.flatMap rwV)[((i:Nat):Int).toNat*13+8]? =(rwV l[i])[8]? :=by rw[Zb];exact fm_get (f:=rwV) (e:=13) (fun _=>rfl) l i hl 8 (by decide)
 refine spl_d (fun hlt=> ?_) (fun hge=>absurd (by omega) hge)
 refine⟨by omega,by omega,?_⟩
 refine⟨_,e1,rfl,?_⟩
 by_cases h1:l[i].key.length≤100∧l[i].iv.length≤100
 ·refine⟨[],_,_,_,_,c_few_y (tag:=l[i].tag) (n:=l[i].n) (mode:=l[i].mode) (pad:=l[i].pad) (back:=l[i].back) (k:=l[i].key) (iv:=l[i].iv) h1,rfl,rfl,?_⟩
  refine⟨by omega,by omega,?_⟩
  refine⟨_,e8,?_⟩
  refine spl_d (fun hh=> ?_) (fun hh=> ?_)
  ·exact⟨_,rfl,[],rfl,trivial⟩
  ·have hF:RawFew l[i]:=⟨h1,by omega⟩
   have hne:i≠m:=fun e=>by subst e;exact hm1 hF
   exact⟨i+1,by omega,by omega,[],⟨rfl,q7i (by simp(disch:=omega)only[Zc];omega),trivial⟩,trivial⟩
 ·refine⟨[],_,_,_,_,c_few_n (tag:=l[i].tag) (n:=l[i].n) (mode:=l[i].mode) (pad:=l[i].pad) (back:=l[i].back) (k:=l[i].key) (iv:=l[i].iv) h1,rfl,rfl,?_⟩
  exact⟨_,rfl,[],rfl,trivial⟩
def mkT:List Int:=[1,2,2,2,2,2,3,3,4,1,0,5]
def mkK (x:RawL):Int:=if mkT.getD (x.kind%12).toNat 0=0 then (if 1≤x.kind∧x.kind≤4 then 7 else x.kind)else mkT.getD (x.kind%12).toNat 0
noncomputable def mkF (x:RawL):Cf:=if (x.kind.tdiv 12)%9=0 then ⟨x.ct,x.cm,x.cp,x.cb,keyOf (tagOf x.tag) x.n x.key,ivL (akMode x.mode) (cSize (tagOf x.tag)).toNat x.iv⟩else ⟨tagOf x.tag,akMode x.mode,akPad x.mode x.pad,x.back,keyOf (tagOf x.tag) x.n x.key,ivL (akMode x.mode) (cSize (tagOf x.tag)).toNat x.iv⟩
noncomputable def mkC (x:RawL):Cl:=⟨mkK x,mkF x,x.inp⟩
noncomputable abbrev mkL (l:List RawL):List Cl:=(l.take 25).map mkC
theorem cs_lend {H:Hp} {ids:List Id} {n:Nat}:∀(l:List Cl),(l.flatMap clV).map (lend H ids (n+1))=l.flatMap clV
 |[]=>rfl
 |x::r=>by rw[Ze,Zh,cs_lend r];rfl
theorem cs_snap {H:Hp} {ids:List Id} {n:Nat}:∀(l:List Cl),(l.flatMap clV).map (snap H ids (n+1))=l.flatMap clV
 |[]=>rfl
 |x::r=>by rw[Ze,Zh,cs_snap r];rfl
theorem z3 (l:Bs):V.z (0+l.length) (sub (sub ([]:List Value) 0 (0*1)++bv l) 0 (0+l.length))=V.z l.length (bv l):=by
 rw[Nat.zero_add,show sub ([]:List Value) 0 (0*1)++bv l=bv l from rfl,bv_all rfl]
theorem mkT_get (j:Nat) (h:j<12):([.int .i64 1,.int .i64 2,.int .i64 2,.int .i64 2,.int .i64 2,.int .i64 2,.int .i64 3,.int .i64 3,.int .i64 4,.int .i64 1,.int .i64 0,.int .i64 5]:List Value)[j]? =some (.int .i64 (mkT.getD j 0)):=by
 rcases j with _|_|_|_|_|_|_|_|_|_|_|_|j<;>first|rfl|omega
theorem td12 {x:Int} (h:In64 x):IntKind.i64.wrap (x.tdiv 12)=x.tdiv 12∧(-9223372036854775808≤IntKind.i64.wrap (x.tdiv 12)∧IntKind.i64.wrap (x.tdiv 12)≤9223372036854775807):=by
 unfold In64 at h
 have e:IntKind.i64.wrap (x.tdiv 12)=x.tdiv 12:=Zc _ (by
  have h1:(x.tdiv 12).natAbs=x.natAbs/12:=Int.natAbs_tdiv x 12
  omega)
 exact⟨e,by rw[IntKind.wrap_i64];omega⟩
set_option maxHeartbeats 4000000 in
theorem c_make17 {l:List RawL} {n:Nat} (hn:l.length=n) (hb:n≤9223372036854775807) (hr:∀x∈l,RawOk x) (hf:∀x∈l,RawFew x):
  Con C N.law17_Make [.zz 13 n (l.flatMap rwV)] [] (.ret (.t [.zz 8 (mkL l).length ((mkL l).flatMap clV),.zz 8 (mkL l).length ((mkL l).flatMap clV)])) []:=by
 subst hn
 obtain⟨N0,hN0⟩:∃N0,N0=min l.length 25:=⟨_,rfl⟩
 have hml:(mkL l).length=N0:=by rw[Zo,Zg,hN0,Nat.min_comm]
 have hmt:(l.take N0).map mkC=mkL l:=by
  have:l.take N0=l.take 25:=by rw[hN0,Nat.min_comm,←List.take_take,List.take_length]
  rw[this]
 obtain⟨cs,hcs⟩:∃cs:Nat→List V,cs=fun i=>((l.take i).map mkC).flatMap clV:=⟨_,rfl⟩
 have hcl:∀i,i≤l.length→(cs i).length=i*8:=fun i hi=>by rw[hcs];show(((l.take i).map mkC).flatMap clV).length=_;rw[fm_len (e:=8) (fun _=>rfl),Zo,Zg,Zn hi]
 have hcn:∀i (hi:i<l.length),cs (i+1)=cs i++clV (mkC l[i]):=fun i hi=>by
  rw[hcs];show((l.take (i+1)).map mkC).flatMap clV=_
  rw[Zm,Zf hi,Zj,Zh,List.flatMap_append];rfl
 have hcd:∀i (H:Hp) (ids:List Id) (k:Nat),(cs i).map (lend H ids (k+1))=cs i:=fun i H ids k=>by rw[hcs];exact cs_lend _
 have hcp:∀i (H:Hp) (ids:List Id) (k:Nat),(cs i).map (snap H ids (k+1))=cs i:=fun i H ids k=>by rw[hcs];exact cs_snap _
 refine fd.law17_Make.c ?_
 refine loopNn (fun i=>⟨[(0,.zz 13 l.length (l.flatMap rwV)),(4,.o 8 (.k 0) 0 i),(5,.o 8 (.k 1) 0 i),(6,i64 i)],[.mx (cs i),.pl (cs i)]⟩) N0 [(4,8,.mx []),(5,8,.pl [])] ⟨[.d 900000 0,.d 900000 1],⟨rfl,rfl,rfl,rfl,trivial⟩,⟨_,rfl,by rw[hcs];rfl⟩,⟨_,rfl,by rw[hcs];rfl⟩,trivial⟩ fun i hi=> ?_
 refine spl_d (fun hlt=> ?_) (fun hge=> ?_)
 ·refine spl_d (fun h25=> ?_) (fun h25=> ?_)
  ·have hl:i<l.length:=by omega
   obtain⟨r0,r1,r2,r3,r4⟩:=hr l[i] (Zd hl)
   obtain⟨f1,f2⟩:=hf l[i] (Zd hl)
   have e0:(l.flatMap rwV)[((i:Nat):Int).toNat*13+0]? =(rwV l[i])[0]? :=by rw[Zb];exact fm_get (f:=rwV) (e:=13) (fun _=>rfl) l i hl 0 (by decide)
   have e8:(l.flatMap rwV)[((i:Nat):Int).toNat*13+8]? =(rwV l[i])[8]? :=by rw[Zb];exact fm_get (f:=rwV) (e:=13) (fun _=>rfl) l i hl 8 (by decide)
   have e1:sub (l.flatMap rwV) (((i:Nat):Int).toNat*13+1) 7=sub (rwV l[i]) 1 7:=by rw[Zb];exact fm_subk (f:=rwV) (e:=13) (fun _=>rfl) l i hl 1 7 (by decide)
   have e9:sub (l.flatMap rwV) (((i:Nat):Int).toNat*13+9) 4=sub (rwV l[i]) 9 4:=by rw[Zb];exact fm_subk (f:=rwV) (e:=13) (fun _=>rfl) l i hl 9 4 (by decide)
   have hcl0:=hcl i (by omega)
   have hcn0:=hcn i hl
   have hmC:mkC l[i]=⟨mkK l[i],mkF l[i],l[i].inp⟩:=rfl
   have hmK:mkK l[i]=if mkT.getD (l[i].kind%12).toNat 0=0 then (if 1≤l[i].kind∧l[i].kind≤4 then 7 else l[i].kind)else mkT.getD (l[i].kind%12).toNat 0:=rfl
   have hmF:mkF l[i]=if (l[i].kind.tdiv 12)%9=0 then ⟨l[i].ct,l[i].cm,l[i].cp,l[i].cb,keyOf (tagOf l[i].tag) l[i].n l[i].key,ivL (akMode l[i].mode) (cSize (tagOf l[i].tag)).toNat l[i].iv⟩else ⟨tagOf l[i].tag,akMode l[i].mode,akPad l[i].mode l[i].pad,l[i].back,keyOf (tagOf l[i].tag) l[i].n l[i].key,ivL (akMode l[i].mode) (cSize (tagOf l[i].tag)).toNat l[i].iv⟩:=rfl
   rw[hmC]at hcn0
   obtain⟨s,q,xs,rs,h⟩:=ask_ciph l[i].tag l[i].n l[i].key
   have hs:=h.s_le
   have hM:=c_askmake (back:=l[i].back) r1 r2 r3 r4 (rfl:l[i].key.length=_) (rfl:l[i].iv.length=_) h.hs hs.2
   have lK:=keyOf_len (tagOf l[i].tag) l[i].n l[i].key
   have lV:=ivL_len (akMode l[i].mode) s l[i].iv
   have hkl:=kLen_ok (tagOf_ok l[i].tag) l[i].n
   have es:(cSize (tagOf l[i].tag)).toNat=s:=by rw[h.hs];rfl
   rw[es]at hmF
   rw[←lK,←lV]at hM
   have hKb:(keyOf (tagOf l[i].tag) l[i].n l[i].key).length≤1000:=by omega
   have hVb:(ivL (akMode l[i].mode) s l[i].iv).length≤1000:=by rw[lV];unfold ivN;split<;>omega
   clear hcs hmC lK lV
   generalize hrw:l.flatMap rwV=rw0 at*
   generalize hx:l[i]=x at*
   generalize keyOf (tagOf x.tag) x.n x.key=K at*
   generalize ivL (akMode x.mode) s x.iv=W at*
   have m0:=Int.emod_nonneg x.kind (show (12:Int)≠0 by decide)
   have m12:=Int.emod_lt_of_pos x.kind (show (0:Int)<12 by decide)
   obtain⟨ew,wb⟩:=td12 r0
   have b1:(0:Int)≤(i:Int):=Int.natCast_nonneg i
   have c1:0+K.length≤1073741824:=by omega
   have c2:0+W.length≤1073741824:=by omega
   have c3:0+x.inp.length≤1073741824:=by omega
   have c4:i+1≤1073741824:=by omega
   have c5:0+i*8≤(cs i).length:=by omega
   have c6:i+1≤N0:=by omega
   have c7:N0-(i+1)<N0-i:=by omega
   have c8:IntKind.i64.wrap ((i:Int)+1)=((i+1:Nat):Int):=by rw[Zc _ (by omega)];omega
   refine⟨b1,hlt,?_⟩
   refine⟨_,e0,?_⟩
   refine⟨[],_,_,_,_,c_w17 (n:=12) (by omega) (by omega) r0,rfl,rfl,?_⟩
   refine⟨m0,m12,?_⟩
   obtain⟨tv,htv⟩:∃tv,mkT.getD (x.kind%12).toNat 0=tv:=⟨_,rfl⟩
   rw[htv]at hmK
   refine⟨.int .i64 tv,by rw[Nat.zero_add,Nat.mul_one,←htv];exact mkT_get _ (by omega),?_⟩
   refine⟨b1,hlt,?_⟩
   refine⟨_,e8,?_⟩
   refine⟨Za rfl,?_⟩
   refine⟨b1,hlt,?_⟩
   refine⟨_,e1,rfl,?_⟩
   refine⟨[],_,_,_,_,hM,rfl,rfl,?_⟩
   refine⟨Za rfl,?_⟩
   refine⟨Za rfl,?_⟩
   refine⟨Za rfl,?_⟩
   refine⟨b1,hlt,?_⟩
   refine⟨_,e0,?_⟩
   refine⟨by decide,?_⟩
   refine⟨[],_,_,_,_,c_w17 (n:=9) (by omega) (by omega) wb,rfl,rfl,?_⟩
   have F2:(x.kind.tdiv 12%9=0∧mkF x=⟨x.ct,x.cm,x.cp,x.cb,K,W⟩)∨(¬x.kind.tdiv 12%9=0∧mkF x=⟨tagOf x.tag,akMode x.mode,akPad x.mode x.pad,x.back,K,W⟩):=by
    by_cases h:x.kind.tdiv 12%9=0
    ·exact .inl ⟨h,hmF.trans (if_pos h)⟩
    ·exact .inr ⟨h,hmF.trans (if_neg h)⟩
   have K4:(tv≠0∧mkK x=tv)∨(tv=0∧1≤x.kind∧x.kind≤4∧mkK x=7)∨(tv=0∧1≤x.kind∧¬x.kind≤4∧mkK x=x.kind)∨(tv=0∧¬1≤x.kind∧mkK x=x.kind):=by
    by_cases h0:tv=0
    ·rw[if_pos h0]at hmK
     by_cases h1:1≤x.kind
     ·by_cases h2:x.kind≤4
      ·exact .inr (.inl ⟨h0,h1,h2,hmK.trans (if_pos ⟨h1,h2⟩)⟩)
      ·exact .inr (.inr (.inl ⟨h0,h1,h2,hmK.trans (if_neg (fun hh=>h2 hh.2))⟩))
     ·exact .inr (.inr (.inr ⟨h0,h1,hmK.trans (if_neg (fun hh=>h1 hh.1))⟩))
    ·exact .inl ⟨h0,hmK.trans (if_neg h0)⟩
   clear hmK hmF hkl htv r0 r1 r2 r3 r4 f1 f2 hr hf hcl hcn hcp hb hN0 hml hmt
   rw[←ew]at F2
   rcases F2 with ⟨h9,hF⟩|⟨h9,hF⟩<;>rcases K4 with ⟨h0,hK⟩|⟨h0,h1,h2,hK⟩|⟨h0,h1,h2,hK⟩|⟨h0,h1,hK⟩
   all_goals
    rw[hF,hK]at hcn0
    first
     |refine spl_eq (fun _=> ?_) (fun hh=>absurd h9 hh)
      refine⟨b1,hlt,?_⟩
      refine⟨_,e9,rfl,?_⟩
      refine⟨Za rfl,?_⟩
     |refine spl_eq (fun hh=>absurd hh h9) (fun _=> ?_)
    refine⟨_,rfl,?_⟩
    first
     |refine spl_eq (fun hh=>absurd hh h0) (fun _=> ?_)
     |refine spl_eq (fun _=> ?_) (fun hh=>absurd h0 hh)
      refine⟨b1,hlt,?_⟩
      refine⟨_,e0,?_⟩
      refine⟨Za rfl,?_⟩
      refine⟨_,rfl,?_⟩
      first
       |refine spl_d (fun _=> ?_) (fun hh=>absurd h1 hh)
        refine⟨_,rfl,?_⟩
        first
         |refine spl_d (fun _=> ?_) (fun hh=>absurd h2 hh)
          refine⟨Za rfl,?_⟩
         |refine spl_d (fun hh=>absurd hh h2) (fun _=> ?_)
       |refine spl_d (fun hh=>absurd hh h1) (fun _=> ?_)
    refine⟨_,rfl,?_⟩
    refine⟨_,rfl,rfl,?_⟩
    refine⟨_,rfl,?_⟩
    refine⟨bv_len _,c1,Zl _,?_⟩
    refine⟨_,rfl,?_⟩
    refine⟨bv_len _,c2,Zl _,?_⟩
    refine⟨_,rfl,?_⟩
    refine⟨bv_len _,c3,Zl _,?_⟩
    refine⟨Za rfl,c4,c5,?_⟩
    refine⟨_,rfl,rfl,?_⟩
    refine⟨Za rfl,c4,c5,?_⟩
    refine⟨i+1,c6,c7,[.d 97 0,.d 101 0],⟨rfl,rfl,rfl,q7i c8,trivial⟩,⟨_,rfl,congrArg B.mx ?_⟩,⟨_,rfl,congrArg B.pl ?_⟩,trivial⟩
    ·rw[Zh,sub_all hcl0,hcd,hcn0]
     refine congrArg (cs i++ ·) ?_
     show[_,_,_,_,_,V.z (0+K.length) _,V.z (0+W.length) _,V.z (0+x.inp.length) _]=_
     rw[z3,z3,z3];rfl
    ·rw[sub_all hcl0,hcn0];rfl
  ·have he:i=N0:=by omega
   subst he
   refine⟨_,rfl,[],?_,trivial⟩
   show V.t [V.zz 8 i ((sub (cs i) 0 (i*8)).map _),V.zz 8 i (sub (cs i) 0 (i*8))]=_
   rw[sub_all (hcl i (by omega)),hcp,hml,hcs]
   show V.t [V.zz 8 i (((l.take i).map mkC).flatMap clV),V.zz 8 i (((l.take i).map mkC).flatMap clV)]=_
   rw[hmt]
 ·have he:i=N0:=by omega
  subst he
  refine⟨_,rfl,[],?_,trivial⟩
  show V.t [V.zz 8 i ((sub (cs i) 0 (i*8)).map _),V.zz 8 i (sub (cs i) 0 (i*8))]=_
  rw[sub_all (hcl i (by omega)),hcp,hml,hcs]
  show V.t [V.zz 8 i (((l.take i).map mkC).flatMap clV),V.zz 8 i (((l.take i).map mkC).flatMap clV)]=_
  rw[hmt]
theorem mk_ok {l:List RawL} (hf:∀x∈l,RawFew x) (hr:∀x∈l,RawOk x):∀x∈mkL l,ClOk x:=by
 intro y hy
 obtain⟨x,hx,rfl⟩:=List.mem_map.1 hy
 have hx:=List.mem_of_mem_take hx
 obtain⟨r0,_⟩:=hr x hx
 obtain⟨_,f2⟩:=hf x hx
 have hK:(mkF x).key.length≤1000∧(mkF x).iv.length≤1000:=by
  have lK:=keyOf_len (tagOf x.tag) x.n x.key
  have hkl:=kLen_ok (tagOf_ok x.tag) x.n
  have lV:=ivL_len (akMode x.mode) (cSize (tagOf x.tag)).toNat x.iv
  obtain⟨s,q,xs,rs,h⟩:=ask_ciph x.tag x.n x.key
  have hs:=h.s_le
  have es:(cSize (tagOf x.tag)).toNat=s:=by rw[h.hs];rfl
  have hV:ivN (akMode x.mode) (cSize (tagOf x.tag)).toNat≤1000:=by rw[es];unfold ivN;split<;>omega
  unfold mkF
  split
  ·exact⟨by show(keyOf _ _ _).length≤_;omega,by show(ivL _ _ _).length≤_;omega⟩
  ·exact⟨by show(keyOf _ _ _).length≤_;omega,by show(ivL _ _ _).length≤_;omega⟩
 refine⟨?_,hK.1,hK.2,Zi f2 (by decide)⟩
 show -9223372036854775808≤mkK x∧mkK x≤9223372036854775807
 unfold In64 at r0
 unfold mkK
 have m0:=Int.emod_nonneg x.kind (show (12:Int)≠0 by decide)
 have m12:=Int.emod_lt_of_pos x.kind (show (0:Int)<12 by decide)
 have ht:∀j:Nat,j<12→0≤mkT.getD j 0∧mkT.getD j 0≤5:=by
  intro j hj
  rcases j with _|_|_|_|_|_|_|_|_|_|_|_|j<;>first|exact⟨by decide,by decide⟩|omega
 have:=ht (x.kind%12).toNat (by omega)
 split
 ·split<;>omega
 ·omega
theorem mk_len (l:List RawL):(mkL l).length≤25:=by rw[Zo,Zg];omega
theorem to_get {ts:List To} {i:Nat} (h:i<ts.length) (k:Nat) (hk:k<3) {j:Nat} (hj:j=i*3+k):(ts.flatMap toV)[j]? =(toV ts[i])[k]? :=by
 subst hj;exact fm_get (f:=toV) (e:=3) (fun _=>rfl) ts i h k hk
end Go.Scr
