/-
  A machine that reckons what loaded Go code does, and its soundness: second part. It is no claim by itself; it has no conditions.
-/
import Derived.Deep.Upon
import Derived.Laws.BytesArg
import Derived.IntWalk
import Derived.Defers
import Derived.Recover
import Derived.ProofKit
import Derived.Tactics2
import Derived.Test.YthhlfpbfdkogfaaGreatDoorXa
set_option linter.unusedVariables false
set_option linter.unusedSectionVars false
set_option linter.unusedSimpArgs false
namespace Go.Scr
section
variable {C:m6} {ev:Operand->V} {Hr:Hp} {KN KP:V->List (Id×B)->Prop} {o:Oper}
def Src.n:Src->Nat
 | .sc n _=>n
 | .pl n _=>n
 | .mx n _=>n
def Src.b:Src->B
 | .sc _ vs=> .sc vs
 | .pl _ xs=> .pl xs
 | .mx _ xs=> .mx xs
theorem gG.n {w:World} {F:Nat->Prop} {ι:Io} {src:Src} {n:Nat} {news:List Value} (h:gG w F ι src n news):src.n=n:=by
 cases src<;>exact h.1
theorem gG.b {w:World} {F:Nat->Prop} {ι:Io} {src:Src} {n:Nat} {news:List Value} (h:gG w F ι src n news):BR w F ι src.b news:=by
 cases src<;>exact h.2
theorem AE {c:Call} {b:Builtin} {s x:Operand} (ho:o.op= .call c) (hc:c.callee= .builtin b) (ha:c.args= #[s,x]) (a:Act):
  ∃k,execOp a.eval o=builtin b c.argTypes o.type k #[a.eval s,a.eval x]:=by
 unfold execOp;simp only[ho,resolve,hc,ha,invoke];exact⟨_,by simp;rfl⟩
theorem jk {c:Call} {s x:Operand} {t u:Nat} (ho:o.op= .call c) (hc:c.callee= .builtin .append) (ha:c.args= #[s,x]) (hat:c.argTypes= #[t,u]) (a:Act) {w w':World} {v:Value}
  (h:(Builtin.append_ #[t,u] o.type #[a.eval s,a.eval x]).run C.P w= .ok v w'):(execOp a.eval o).run C.P w= .ok (.value v) w':=by
 obtain⟨k,hk⟩:=AE ho hc ha a;rw[hk,hat];simp[builtin,h]
theorem append_nil (hC:q6 C) {c:Call} {s x:Operand} {t u el:Nat} {te:TI} {src:Src} (ho:o.op= .call c) (hc:c.callee= .builtin .append) (ha:c.args= #[s,x]) (hat:c.argTypes= #[t,u])
  (hu:C.P.underlying t=some (.slice el)) (hel:C.ty el=some te) (hb:te.bytes<=4096) (hs:ev s= .s (.slice none 0 0))
  (hsrc:∀(w0:World) (L:Nat->Prop) (w:World) (F:Nat->Prop) (ι:Io) (H:Hp) (y:Value),St w0 L w F ι H->(∀id b,Hr id=some b->H id=some b)->R w F ι (ev x) y->∃n news,gG w F ι src n news/\ay C.P el te.size u y n news w)
  (hbound:src.n<=1073741824) (hk:KN (.o te.size (.d (z6 o.dst) 0) 0 src.n) [(.d (z6 o.dst) 0,src.b)]):A9 C o ev Hr KN KP:=by
 refine .inl ⟨_,_,hk,?_⟩;intro w0 L w F ι H H' a st hr hR _ hd happ next Q hn
 obtain⟨hnone,rfl⟩:=yP happ;have r1:=hR s (by simp[ho,Op.operands,Call.operands,hc,ha]);have r2:=hR x (by simp[ho,Op.operands,Call.operands,hc,ha]);rw[hs]at r1;have e1:=r1.s_inv;obtain⟨n,news,hsr,hso⟩:=hsrc w0 L w F ι H _ st hr r2;have hn':=hsr.n;unfold Oper.wp;by_cases h0:n=0
 ·subst h0;have hnil:news=[]:=List.eq_nil_of_length_eq_zero (by have:=hso.newsLen;simpa using this);subst hnil;obtain⟨_,i,z,hii,hsz,_⟩:=hC.ty el te hel;have hrun:=EB (P:=C.P) w t u o.type el i hu hii none 0 0 (Nat.le_refl _) (a.eval x) (by rw[hsz];exact hso);rw[jk ho hc ha hat a (by rw[e1];exact hrun)];refine hn _ w F ι (wD st hd hnone ?_) (by rw[hn'];exact .o0);cases src with
  |sc m vs=>obtain⟨_,rfl⟩:=hsr;rfl
  |pl m xs=>obtain⟨_,h⟩:=hsr;cases h;rfl
  |mx m xs=>obtain⟨_,h⟩:=hsr;cases h;rfl
 ·obtain⟨v,w',ι',hrun,hnx,hv⟩:=vO hC st hd hnone (ty:=o.type) (m:=0) (cap:=0) (base:=none) (olds:=[]) (Y:=src.b) hu hel hb (fun w' _=>run_firstCells_none w' _ _ _ _) (by simp) (by simp) hso (by omega) (by omega) (by simpa using hsr.b);rw[jk ho hc ha hat a (by rw[e1];exact hrun)];refine hn _ w' F ι' hnx ?_;rw[hn'];simpa using hv
theorem HH {d:Nat} {H H':Hp} {id:Id} {X Y:B} (h:A6 d H [(id,.dead),(.d d 0,Y)]=some H') (l4:H id=some X):H (.d d 0)=none/\H'=x5 (x5 H id (some .dead)) (.d d 0) (some Y):=by
 have hself:O9 d (.d d 0)=true:=by simp[O9]
 simp only[A6]at h;cases hn:O9 d id
 ·simp only[hn,hself]at h;cases hh:x5 H id (some .dead) (.d d 0)with
  |none=>
   rw[hh]at h;simp at h;have hne:id≠ .d d 0:=by rintro rfl;rw[F8]at hh;cases hh
   rw[C4 _ _ hne]at hh;exact⟨hh,h.symm⟩
  |some z=>rw[hh]at h;simp at h
 ·simp[hn,l4]at h
theorem dY (hC:q6 C) {c:Call} {s x:Operand} {t u el off m:Nat} {id:Id} {te:TI} {src:Src} {X Y Z:B} (ho:o.op= .call c) (hc:c.callee= .builtin .append) (ha:c.args= #[s,x]) (hat:c.argTypes= #[t,u])
  (hu:C.P.underlying t=some (.slice el)) (hel:C.ty el=some te) (hb:te.bytes<=4096) (hs:ev s= .o te.size id off m) (hH:Hr id=some X) (hX:X≠ .dead)
  (hsrc:∀(w0:World) (L:Nat->Prop) (w:World) (F:Nat->Prop) (ι:Io) (H:Hp) (y:Value),St w0 L w F ι H->(∀id b,Hr id=some b->H id=some b)->R w F ι (ev x) y->∃n news,gG w F ι src n news/\ay C.P el te.size u y n news w)
  (hbound:m+src.n<=1073741824) (s3:off+m*te.size<=X.len)
  (hZ:∀(w:World) (F:Nat->Prop) (ι:Io) (vs:List Value),BR w F ι X vs->BR w F ι Z (vs.drop off)) (hZd:Z≠ .dead)
  (hY:∀(w:World) (F:Nat->Prop) (ι ι':Io) (vs news:List Value),(∀id x,ι id=some x->ι' id=some x)->BR w F ι X vs->BR w F ι src.b news->BR w F ι' Y ((vs.drop off).take (m*te.size)++news))
  (hY0:Y.len=m*te.size+src.b.len)
  (hk:KN (.o te.size (.d (z6 o.dst) 0) 0 (m+src.n)) [(id,.dead),(.d (z6 o.dst) 0,Y)]):A9 C o ev Hr KN KP:=by
 refine .inl ⟨_,_,hk,?_⟩;intro w0 L w F ι H H' a st hr hR _ hd happ next Q hn
 have l4:=hr _ _ hH;obtain⟨hnone,rfl⟩:=HH happ l4;have r1:=hR s (by simp[ho,Op.operands,Call.operands,hc,ha]);have r2:=hR x (by simp[ho,Op.operands,Call.operands,hc,ha]);rw[hs]at r1;obtain⟨n,news,hsr,hso⟩:=hsrc w0 L w F ι H _ st hr r2;have hn':=hsr.n;have hlenv:∀(vs:List Value),BR w F ι X vs->off+m*te.size<=vs.length:=by
  intro vs hB;cases X with
  |sc us=>obtain rfl:us=vs:=hB;exact s3
  |pl xs=>have:=n7.length hB;simp[B.len]at s3;omega
  |mx xs=>have:=RL.length hB;simp[B.len]at s3;omega
  |dead=>exact absurd rfl hX
 have ao:=Xu st hd id;have hne:id≠ .d (z6 o.dst) 0:=by rintro rfl;rw[hnone]at l4;cases l4
 have hnone1:x5 H id (some .dead) (.d (z6 o.dst) 0)=none:=by rw[C4 _ _ hne];exact hnone
 unfold Oper.wp;rcases r1.o_inv with ⟨ad,he,rfl⟩|⟨b,base,cap,he,hi,hcap,hroom⟩
 ·by_cases h0:n=0
  ·subst h0;have hnil:news=[]:=List.eq_nil_of_length_eq_zero (by have:=hso.newsLen;simpa using this);subst hnil;obtain⟨_,i,z,hii,hsz,_⟩:=hC.ty el te hel;have hrun:=EB (P:=C.P) w t u o.type el i hu hii ad 0 0 (Nat.le_refl _) (a.eval x) (by rw[hsz];exact hso);rw[jk ho hc ha hat a (by rw[he];exact hrun)];refine hn _ w F ι (ao.trans (wD ao.st ao.dm hnone1 ?_)) (by rw[hn'];exact .o0);rw[hY0];cases src with
   |sc k vs=>obtain⟨_,rfl⟩:=hsr;simp[Src.b,B.len]
   |pl k xs=>obtain⟨_,h⟩:=hsr;cases h;simp[Src.b,B.len]
   |mx k xs=>obtain⟨_,h⟩:=hsr;cases h;simp[Src.b,B.len]
  ·have hYn:BR w F ι Y ([]++news):=by
    rcases Classical.em (∃vs,BR w F ι X vs)with ⟨vs,hB⟩|hno
    ·simpa using hY w F ι ι vs news (fun _ _ h=>h) hB hsr.b
    ·exfalso;rcases st.own id X l4 hX with ⟨hx0,_⟩|⟨_,_,_,_,_,_,_,_,_,_,vs,_,hB⟩
     ·refine hno ⟨[],?_⟩;cases X with
      |sc us=>exact List.eq_nil_of_length_eq_zero hx0
      |pl xs=>obtain rfl:xs=[]:=List.eq_nil_of_length_eq_zero hx0;exact n7.nil
      |mx xs=>obtain rfl:xs=[]:=List.eq_nil_of_length_eq_zero hx0;exact RL.nil
      |dead=>exact absurd rfl hX
     ·exact hno ⟨vs,hB⟩
   have hold:∀w':World,w'.heap=w.heap->(Builtin.firstCells te.size 0 (.slice ad 0 0)).run C.P w'= .ok ([]:List Value).toArray w':=by
    intro w' _;cases ad with
    |none=>exact run_firstCells_none w' _ _ _ _
    |some ad=>exact run_firstCells_some w' te.size 0 ad 0 0 [] (by simp) (by simp)
   obtain⟨v,w',ι',hrun,hnx,hv⟩:=vO hC ao.st ao.dm hnone1 (ty:=o.type) (m:=0) (cap:=0) (base:=ad) (olds:=[]) (Y:=Y) hu hel hb hold (by simp) (by simp) hso (by omega) (by omega) hYn;rw[jk ho hc ha hat a (by rw[he];exact hrun)];refine hn _ w' F ι' (ao.trans hnx) ?_;rw[hn'];exact hv
 ·obtain⟨vs0,hB0,hc0⟩:=iD st l4 hX hi;by_cases hfit:m+n<=cap
  ·obtain⟨v,w',ι',hrun,hnx,hv⟩:=ZV hC st hd hnone l4 hX (ty:=o.type) hi hu hel hroom hso hfit (hZ w F ι) hZd (fun ι' vs him hB=>hY w F ι ι' vs news him hB hsr.b) hlenv;rw[jk ho hc ha hat a (by rw[he];exact hrun)];refine hn _ w' F ι' hnx ?_;rw[hn'];exact hv
  ·have holds:((vs0.drop off).take (m*te.size)).length=m*te.size:=by
    have:=hlenv vs0 hB0;simp;omega
   have hcell:∀(j:Nat) x,((vs0.drop off).take (m*te.size))[j]? =some x->w.cell? ⟨b,base+off+j,none⟩=some x/\x.oneCell'=true:=by
    intro j x hx;rw[Nat.add_assoc];exact hc0 _ x (db hx)
   have hold:∀w':World,w'.heap=w.heap->(Builtin.firstCells te.size m (.slice (some ⟨b,base+off,none⟩) m cap)).run C.P w'= .ok ((vs0.drop off).take (m*te.size)).toArray w':=by
    intro w' hw;refine run_firstCells_some w' te.size m _ m cap _ holds fun j x hx=> ?_;rw[add_lit,<-(hcell j x hx).1];simp[World.cell?,hw]
   obtain⟨v,w',ι',hrun,hnx,hv⟩:=vO hC ao.st ao.dm hnone1 (ty:=o.type) (m:=m) (cap:=cap) (base:=some ⟨b,base+off,none⟩) (olds:=(vs0.drop off).take (m*te.size)) (Y:=Y) hu hel hb hold holds
    (fun x hx=>by obtain⟨j,hj⟩:=List.getElem?_of_mem hx;exact(hcell j x hj).2) hso (by omega) (by omega) (hY w F ι ι vs0 news (fun _ _ h=>h) hB0 hsr.b)
   rw[jk ho hc ha hat a (by rw[he];exact hrun)];refine hn _ w' F ι' (ao.trans hnx) ?_;rw[hn'];exact hv
theorem HP (hC:q6 C) {c:Call} {s x:Operand} {t u:Nat} (ho:o.op= .call c) (hc:c.callee= .builtin .append) (ha:c.args= #[s,x]) (hat:c.argTypes= #[t,u]) (h:tU C t u Hr (z6 o.dst) (ev s) (ev x) KN):A9 C o ev Hr KN KP:=by
 unfold tU ah at h;cases ht:C.ty t with
 |none=>simp[ht]at h
 |some ti=>
  have hu:=(hC.ty t ti ht).1;simp only[ht]at h;cases hd:ti.desc<;>simp only[hd]at h
  case slice el=>
   rw[hd]at hu;cases hel:C.ty el with
   |none=>simp[hel]at h
   |some te=>
    simp only[hel]at h;cases htu:C.ty u with
    |none=>simp[htu]at h
    |some tu=>
     have huu:=(hC.ty u tu htu).1;simp only[htu]at h;cases hdu:tu.desc<;>simp only[hdu]at h
     case slice eu=>
      rw[hdu]at huu;cases heu:C.ty eu with
      |none=>simp[heu]at h
      |some teu=>
       simp only[heu]at h;obtain⟨hb,h⟩:=B0.1 h;simp only[Bool.and_eq_true]at hb;have hb2:=Nat.le_of_ble_eq_true hb.2;rw[bN]at h;obtain⟨src,h,hsrc0⟩:=a1D huu h;have hsrc:∀(w0:World) (L:Nat->Prop) (w:World) (F:Nat->Prop) (ι:Io) (H:Hp) (y:Value),St w0 L w F ι H->(∀id b,Hr id=some b->H id=some b)->R w F ι (ev x) y->∃n news,gG w F ι src n news/\ay C.P el te.size u y n news w:=by
        intro w0 L w F ι H y st hr r;obtain⟨n,news,a,b⟩:=hsrc0 w0 L w F ι H y st hr r;exact⟨n,news,a,.src b⟩
       split at h
       ·rename_i hs;cases src with
        |sc n vs=>exact append_nil hC ho hc ha hat hu hel hb2 hs hsrc h.1 h.2
        |pl n vs=>exact append_nil hC ho hc ha hat hu hel hb2 hs hsrc h.1 h.2
        |mx n vs=>exact append_nil hC ho hc ha hat hu hel hb2 hs hsrc h.1 h.2
       ·rename_i e id off m hs;obtain⟨he,h2⟩:=B0.1 h;obtain rfl:=Nat.eq_of_beq_eq_true he;clear h;split at h2
        ·rename_i us hH;cases src with
         |sc n vs=>
          obtain⟨g1,g2,hk⟩:=h2;exact dY hC (Z:= .sc (us.drop off)) (Y:= .sc (sub us off (m*te.size)++vs)) ho hc ha hat hu hel hb2 hs hH (by simp) hsrc g1 g2 (fun w F ι v hB=>by obtain rfl:us=v:=hB;rfl) (by simp)
           (fun w F ι ι' v nw him hB hN=>by obtain rfl:us=v:=hB;obtain rfl:vs=nw:=hN;rfl) (by simp[B.len,sub,Src.b];omega) hk
         |pl n vs=>
          obtain⟨g1,g2,hk⟩:=h2;exact dY hC (Z:= .sc (us.drop off)) (Y:= .pl ((sub us off (m*te.size)).map V.s++vs)) ho hc ha hat hu hel hb2 hs hH (by simp) hsrc g1 g2 (fun w F ι v hB=>by obtain rfl:us=v:=hB;rfl) (by simp)
           (fun w F ι ι' v nw him hB hN=>by obtain rfl:us=v:=hB;exact(n7.maps _).append hN) (by simp[B.len,sub,Src.b];omega) hk
         |mx n vs=>
          obtain⟨g1,g2,hk⟩:=h2;exact dY hC (Z:= .sc (us.drop off)) (Y:= .mx ((sub us off (m*te.size)).map V.s++vs)) ho hc ha hat hu hel hb2 hs hH (by simp) hsrc g1 g2 (fun w F ι v hB=>by obtain rfl:us=v:=hB;rfl) (by simp)
           (fun w F ι ι' v nw him hB hN=>by obtain rfl:us=v:=hB;exact(RL.maps _).append (RL.ev (Ev.refl w F) (fun _ h=>h) him hN)) (by simp[B.len,sub,Src.b];omega) hk
        ·rename_i ys hH;cases src with
         |sc n vs=>
          obtain⟨g1,g2,hk⟩:=h2;exact dY hC (Z:= .pl (ys.drop off)) (Y:= .pl (sub ys off (m*te.size)++vs.map V.s)) ho hc ha hat hu hel hb2 hs hH (by simp) hsrc g1 g2 (fun w F ι v hB=>n7.drop hB off) (by simp)
           (fun w F ι ι' v nw him hB hN=>by obtain rfl:vs=nw:=hN;exact(n7.sub hB off _).append (n7.maps _)) (by simp[B.len,sub,Src.b];omega) hk
         |pl n vs=>
          obtain⟨g1,g2,hk⟩:=h2;exact dY hC (Z:= .pl (ys.drop off)) (Y:= .pl (sub ys off (m*te.size)++vs)) ho hc ha hat hu hel hb2 hs hH (by simp) hsrc g1 g2 (fun w F ι v hB=>n7.drop hB off) (by simp)
           (fun w F ι ι' v nw him hB hN=>(n7.sub hB off _).append hN) (by simp[B.len,sub,Src.b];omega) hk
         |mx n vs=>
          obtain⟨g1,g2,hk⟩:=h2;exact dY hC (Z:= .pl (ys.drop off)) (Y:= .mx (sub ys off (m*te.size)++vs)) ho hc ha hat hu hel hb2 hs hH (by simp) hsrc g1 g2 (fun w F ι v hB=>n7.drop hB off) (by simp)
           (fun w F ι ι' v nw him hB hN=>(n7.sub hB off _).rl.append (RL.ev (Ev.refl w F) (fun _ h=>h) him hN)) (by simp[B.len,sub,Src.b];omega) hk
        ·rename_i ys hH;have old:∀(w:World) (F:Nat->Prop) (ι ι':Io) (v:List Value),(∀id x,ι id=some x->ι' id=some x)->BR w F ι (.mx ys) v->RL w F ι' (sub ys off (m*te.size)) ((v.drop off).take (m*te.size)):=fun w F ι ι' v him hB=>RL.ev (Ev.refl w F) (fun _ h=>h) him (RL.sub hB off _);cases src with
         |sc n vs=>
          obtain⟨g1,g2,hk⟩:=h2;exact dY hC (Z:= .mx (ys.drop off)) (Y:= .mx (sub ys off (m*te.size)++vs.map V.s)) ho hc ha hat hu hel hb2 hs hH (by simp) hsrc g1 g2 (fun w F ι v hB=>RL.drop hB off) (by simp)
           (fun w F ι ι' v nw him hB hN=>by obtain rfl:vs=nw:=hN;exact(old w F ι ι' v him hB).append (RL.maps _)) (by simp[B.len,sub,Src.b];omega) hk
         |pl n vs=>
          obtain⟨g1,g2,hk⟩:=h2;exact dY hC (Z:= .mx (ys.drop off)) (Y:= .mx (sub ys off (m*te.size)++vs)) ho hc ha hat hu hel hb2 hs hH (by simp) hsrc g1 g2 (fun w F ι v hB=>RL.drop hB off) (by simp)
           (fun w F ι ι' v nw him hB hN=>(old w F ι ι' v him hB).append (n7.rl hN)) (by simp[B.len,sub,Src.b];omega) hk
         |mx n vs=>
          obtain⟨g1,g2,hk⟩:=h2;exact dY hC (Z:= .mx (ys.drop off)) (Y:= .mx (sub ys off (m*te.size)++vs)) ho hc ha hat hu hel hb2 hs hH (by simp) hsrc g1 g2 (fun w F ι v hB=>RL.drop hB off) (by simp)
           (fun w F ι ι' v nw him hB hN=>(old w F ι ι' v him hB).append (RL.ev (Ev.refl w F) (fun _ h=>h) him hN)) (by simp[B.len,sub,Src.b];omega) hk
        ·exact h2.elim
       ·exact h.elim
end
end Go.Scr
namespace Go.Scr
section
variable {C:m6} {ev:Operand->V} {Hr:Hp} {KN KP:V->List (Id×B)->Prop} {o:Oper}
theorem a3B {H:Hp} {id:Id} {X:B} (h:H id=some X):x5 H id (some X)=H:=by
 funext i;by_cases he:id=i
 ·subst he;rw[F8,h]
 ·rw[C4 _ _ he]
theorem wZ {x:V} {K:Nat->List Value->Prop} (h:mH Hr x K):
  ∃n vs,K n vs/\vs.length=n/\∀(w0:World) (L:Nat->Prop) (w:World) (F:Nat->Prop) (ι:Io) (H:Hp) (y:Value),St w0 L w F ι H->(∀id b,Hr id=some b->H id=some b)->R w F ι x y->
   ∃a cap,y= .slice a n cap/\(0<n->∃b q,a=some ⟨b,q,none⟩/\∀(j:Nat) u,vs[j]? =some u->w.cell? ⟨b,q+j,none⟩=some u/\u.oneCell'=true):=by
 unfold mH at h;split at h
 ·rename_i n vs;obtain⟨hl,hk⟩:=h;refine⟨n,vs,hk,hl,fun w0 L w F ι H y st hr hy=> ?_⟩;rcases hy.z_inv with ⟨a,cap,rfl,rfl,rfl⟩|⟨⟨b,q,sp⟩,cap,rfl,hc,_⟩
  ·exact⟨a,cap,rfl,fun h=>absurd h (Nat.lt_irrefl _)⟩
  ·obtain⟨_,hsp,hc⟩:=hc;simp at hsp;subst hsp;exact⟨_,cap,rfl,fun _=>⟨b,q,rfl,hc⟩⟩
 ·rename_i e id off n;split at h
  ·rename_i us hH;obtain⟨hl,hk⟩:=h;refine⟨n,_,hk,sE hl,fun w0 L w F ι H y st hr hy=> ?_⟩;rcases hy.o_inv with ⟨a,rfl,rfl⟩|⟨b,base,cap,rfl,hi,_,_⟩
   ·exact⟨a,0,rfl,fun h=>absurd h (Nat.lt_irrefl _)⟩
   ·obtain⟨vs,hB,hc⟩:=iD st (hr _ _ hH) (by simp) hi;obtain rfl:us=vs:=hB;exact⟨_,cap,rfl,fun _=>⟨b,base+off,rfl,fun j u hu=>by rw[Nat.add_assoc];exact hc _ u (db hu)⟩⟩
  ·exact h.elim
 ·refine⟨0,[],h,rfl,fun w0 L w F ι H y st hr hy=> ?_⟩;cases hy.s_inv;exact⟨none,0,rfl,fun h=>absurd h (Nat.lt_irrefl _)⟩
 ·exact h.elim
theorem uQ {c:Call} {s x:Operand} {t u:Nat} (ho:o.op= .call c) (hc:c.callee= .builtin .copy) (ha:c.args= #[s,x]) (hat:c.argTypes= #[t,u]) (a:Act) {w w':World} {v:Value}
  (h:(Builtin.copy_ #[t,u] o.type #[a.eval s,a.eval x]).run C.P w= .ok v w'):(execOp a.eval o).run C.P w= .ok (.value v) w':=by
 obtain⟨k,hk⟩:=AE ho hc ha a;rw[hk,hat];simp[builtin,h]
theorem PJ (hC:q6 C) {c:Call} {s x:Operand} {t u:Nat} (ho:o.op= .call c) (hc:c.callee= .builtin .copy) (ha:c.args= #[s,x]) (hat:c.argTypes= #[t,u]) (h:uP C t Hr (ev s) (ev x) KN):A9 C o ev Hr KN KP:=by
 unfold uP ah at h;cases ht:C.ty t with
 |none=>simp[ht]at h
 |some ti=>
  have hu:=(hC.ty t ti ht).1;simp only[ht]at h;cases hd:ti.desc<;>simp only[hd]at h
  case slice el=>
   rw[hd]at hu;cases hel:C.ty el with
   |none=>simp[hel]at h
   |some te=>
    simp only[hel]at h;obtain⟨hb,h⟩:=B0.1 h;have hb':=Nat.eq_of_beq_eq_true hb;obtain⟨_,i,z,hii,hsz,_⟩:=hC.ty el te hel;have hsz1:(C.P.info? el).map (·.size)=some 1:=by simp[hii,hsz,hb']
    split at h
    ·rename_i e id off m hs;split at h
     ·rename_i us hH;obtain⟨n,vs,⟨hle,hk⟩,hl,hx⟩:=wZ h;refine .inl ⟨_,_,hk,?_⟩;intro w0 L w F ι H H' a st hr hR _ hd happ next Q hn
      have l4:=hr _ _ hH;obtain rfl:=yQ happ l4;have r1:=hR s (by simp[ho,Op.operands,Call.operands,hc,ha]);have r2:=hR x (by simp[ho,Op.operands,Call.operands,hc,ha]);rw[hs]at r1;obtain⟨xa,xcap,ex,hxc⟩:=hx w0 L w F ι H _ st hr r2;unfold Oper.wp;by_cases h0:min n m=0
      ·have key:∀(d:Option Addr) (cap:Nat),a.eval s= .slice d m cap->(execOp a.eval o).run C.P w= .ok (.value (.int .i64 ((min n m:Nat):Int))) w:=by
        intro d cap he;refine uQ ho hc ha hat a ?_;rw[he,ex,h0];exact run_copy_none (P:=C.P) w t u o.type el d xa m cap n xcap hu hsz1 h0
       have hsame:x5 H id (some (.sc (us.take off++vs.take (min n m)++us.drop (off+min n m))))=H:=by
        rw[h0];simp;exact a3B l4
       rw[hsame]at hn;rcases r1.o_inv with ⟨ad,he,rfl⟩|⟨b,base,cap,he,_⟩
       ·rw[key _ _ he];exact hn _ w F ι (Nx.same st hd) .sc
       ·rw[key _ _ he];exact hn _ w F ι (Nx.same st hd) .sc
      ·rcases r1.o_inv with ⟨ad,he,rfl⟩|⟨b,base,cap,he,hi,hcap,hroom⟩
       ·omega
       ·obtain⟨vs0,hB0,hc0⟩:=iD st l4 (by simp) hi;obtain rfl:us=vs0:=hB0;obtain⟨xb,xq,hxe,hxd⟩:=hxc (by omega);subst hxe;have hcs:(vs.take (min n m)).length=min n m:=by simp;omega
        have hone:∀v∈vs.take (min n m),v.oneCell'=true:=by
         intro v hv;obtain⟨j,hj⟩:=List.getElem?_of_mem (List.mem_of_mem_take hv);exact(hxd j v hj).2
        have hroom2:ab w b (base+off+(vs.take (min n m)).length):=by
         rw[hcs,Nat.add_assoc];exact DL st l4 (by simp) hi (by omega) (by simp[B.len];omega)
        have hth:=sq st l4 (by simp) hi hroom2;have hrun:=run_copy_cells (P:=C.P) w t u o.type el b (base+off) m cap ⟨xb,xq,none⟩ n xcap (vs.take (min n m)) hu hsz1 hcs
         (fun j v hv=>by
          rw[List.getElem?_take]at hv;split at hv
          ·rw[add_lit];exact(hxd j v hv).1
          ·cases hv)
         (fun j hj=>(hth j hj).1) (fun j hj=>(hth j hj).2) hone
        rw[uQ ho hc ha hat a (by rw[he,ex];exact hrun),hcs];refine hn _ _ F ι (rQ st hd l4 (by simp) hi hone hroom2 ⟨_,rfl,fun j y hy=> ?_⟩) .sc;rw[hcs];have hmn:min n m<=m:=Nat.min_le_right _ _;have h1:(us.take off).length=off:=by simp;omega
        by_cases hj:j<off
        ·right;rw[List.append_assoc,List.getElem?_append_left (by omega),List.getElem?_take_of_lt hj]at hy;exact⟨.inl hj,hc0 j y hy⟩
        ·by_cases hj2:j<off+min n m
         ·left;rw[List.append_assoc,List.getElem?_append_right (by omega),h1,List.getElem?_append_left (by omega)]at hy;exact⟨by omega,hj2,hy⟩
         ·right;rw[List.append_assoc,List.getElem?_append_right (by omega),h1,List.getElem?_append_right (by omega),hcs,List.getElem?_drop,show off+min n m+(j-off-min n m)=j by omega]at hy;exact⟨.inr (by omega),hc0 j y hy⟩
     ·exact h.elim
    ·rename_i hs;obtain⟨n,vs,hk,hl,hx⟩:=wZ h;refine .inl ⟨_,_,hk,F6 fun w0 L w F ι H a st hr hR=>⟨_,?_,.sc⟩⟩;have r1:=hR s (by simp[ho,Op.operands,Call.operands,hc,ha]);have r2:=hR x (by simp[ho,Op.operands,Call.operands,hc,ha]);rw[hs]at r1;obtain⟨xa,xcap,ex,hxc⟩:=hx w0 L w F ι H _ st hr r2;refine uQ ho hc ha hat a ?_;rw[r1.s_inv,ex];exact run_copy_none (P:=C.P) w t u o.type el none xa 0 0 n xcap hu hsz1 (by simp)
    ·exact h.elim
theorem Pw (hC:q6 C) {s d:Nat} {ts td:TI} {x:Operand} {k k':IntKind} {n:Int} (ho:o.op= .convert s d x) (hs:C.ty s=some ts) (hd:C.ty d=some td) (hk:td.desc= .int k) (hx:ev x= .s (.int k' n)) (h:KN (.s (.int k (k.wrap n))) []):A9 C o ev Hr KN KP:=by
 have h1:=(hC.ty s ts hs).1;have h2:=(hC.ty d td hd).1;rw[hk]at h2;refine .inl ⟨_,_,h,F6 fun w0 L w F ι H a st hr hR=>⟨_,?_,.sc⟩⟩;have r:=hR x (by simp[ho,Op.operands]);rw[hx]at r;unfold execOp;simp[ho,r.s_inv,convert,run_underlying h1,run_underlying h2,Conv.intToInt]
theorem Pz (hC:q6 C) {s d:Nat} {ts td:TI} {x:Operand} {b:ByteArray} (ho:o.op= .convert s d x) (hs:C.ty s=some ts) (hd:C.ty d=some td) (hks:ts.desc= .string) (hk:td.desc= .string) (hx:ev x= .s (.string b)) (h:KN (.s (.string b)) []):A9 C o ev Hr KN KP:=by
 have h1:=(hC.ty s ts hs).1;have h2:=(hC.ty d td hd).1;rw[hk]at h2;rw[hks]at h1;refine .inl ⟨_,_,h,F6 fun w0 L w F ι H a st hr hR=>⟨_,?_,.sc⟩⟩;have r:=hR x (by simp[ho,Op.operands]);rw[hx]at r;unfold execOp;simp[ho,r.s_inv,convert,run_underlying h1,run_underlying h2]
theorem Pv (hC:q6 C) {s d e:Nat} {ts td te:TI} {x:Operand} (ho:o.op= .convert s d x) (hs:C.ty s=some ts) (hd:C.ty d=some td) (hks:ts.desc= .slice e) (hk:td.desc= .string) (he:C.ty e=some te) (hke:te.desc= .int .u8)
  (h:mH Hr (ev x) fun _ vs=>∃l,zk vs l/\KN (.s (.string ⟨l.toArray⟩)) []):A9 C o ev Hr KN KP:=by
 have h1:=(hC.ty s ts hs).1;have h2:=(hC.ty d td hd).1;have h3:=(hC.ty e te he).1;rw[hk]at h2;rw[hks]at h1;rw[hke]at h3;obtain⟨n,vs,⟨l,hb,hkn⟩,hl,hx⟩:=wZ h;refine .inl ⟨_,_,hkn,F6 fun w0 L w F ι H a st hr hR=>⟨_,?_,.sc⟩⟩;have r:=hR x (by simp[ho,Op.operands]);obtain⟨xa,xcap,ex,hxc⟩:=hx w0 L w F ι H _ st hr r;have hb':vs=l.map fun b=>Value.int .u8 b.toNat:=hb;have hll:l.length=n:=by rw[<-hl,hb'];simp
 have hstr:strOfNums (l.map fun b=>(b.toNat:Int))=⟨l.toArray⟩:=by
  simp only[strOfNums,List.map_map];have:(l.map ((fun n:Int=>UInt8.ofNat n.toNat)∘fun b:UInt8=>(b.toNat:Int)))=l:=by
   conv=>rhs;rw[<-List.map_id l]
   exact List.map_congr_left fun b _=>by simp
  rw[this]
 have hrun:(convert s d (.slice xa n xcap)).run C.P w= .ok (.string ⟨l.toArray⟩) w:=by
  cases xa with
  |none=>
   have h0:n=0:=by
    rcases Nat.eq_zero_or_pos n with h|h
    ·exact h
    ·obtain⟨_,_,h,_⟩:=hxc h;cases h
   have:l=[]:=List.eq_nil_of_length_eq_zero (by omega);subst this;exact run_convert_bytes_nil w s e h1 h3 n xcap d h2
  |some ad=>
   by_cases h0:n=0
   ·have:l=[]:=List.eq_nil_of_length_eq_zero (by omega);subst this;subst h0;simp[convert,run_underlying h1,run_underlying h2,run_underlying h3,Conv.bytesToString,loadCells,loadCellsFrom];rfl
   ·obtain⟨b,q,hbe,hc⟩:=hxc (by omega);simp only[Option.some.injEq]at hbe;subst hbe;have:=run_convert_bytes_arg (P:=C.P) w s e h1 h3 b q n xcap (l.map fun b=>(b.toNat:Int)) (by simpa using hll) (fun i hi=>by
     refine(hc i _ ?_).1;rw[hb'];simp[List.getD,show i<l.length by omega]) d h2
    rw[hstr]at this;exact this
 unfold execOp;simp[ho,ex,hrun]
theorem Iv (w:World) (e:TypeId) (s:ByteArray):Lib.bytesWorld w e s=w.drew.alloc (.cells (Lib.bytesCells w e s) e ((Lib.bytesCells w e s).size,(Lib.bytesCells w e s).size+1)):=by
 have hh:(Lib.bytesWorld w e s).heap=(w.drew.alloc (.cells (Lib.bytesCells w e s) e ((Lib.bytesCells w e s).size,(Lib.bytesCells w e s).size+1))).heap:=by
  apply Array.ext_getElem?;intro i;by_cases h1:i<w.heap.size
  ·rw[Lib.bytesWorld_at_old w e s i h1,kp w.drew _ _ h1];rfl
  ·by_cases h2:i=w.heap.size
   ·subst h2;rw[Lib.bytesWorld_at_new];exact(pz w.drew _).symm
   ·rw[Array.getElem?_eq_none (by rw[Lib.bytesWorld_size];omega),Array.getElem?_eq_none (by rw[tN];show w.heap.size+1<=i;omega)]
 have h2:∀(u v:World),u.heap=v.heap->u.tape=v.tape->u.drawn=v.drawn->u.os=v.os->u.output=v.output->u=v:=by
  intro u v;cases u;cases v;simp;intro a b c d e;exact⟨a,b,c,d,e⟩
 refine h2 _ _ hh ?_ ?_ ?_ ?_<;>rfl
theorem Py (hC:q6 C) {s d e:Nat} {ts td te:TI} {x:Operand} {b:ByteArray} (ho:o.op= .convert s d x) (hs:C.ty s=some ts) (hd:C.ty d=some td) (hk:td.desc= .slice e) (he:C.ty e=some te) (hke:te.desc= .int .u8)
  (hx:ev x= .s (.string b)) (h:KN (.o 1 (.d (z6 o.dst) 0) 0 b.size) [(.d (z6 o.dst) 0,.sc (b.data.toList.map fun b=> .int .u8 b.toNat))]):A9 C o ev Hr KN KP:=by
 have h1:=(hC.ty s ts hs).1;have h2:=(hC.ty d td hd).1;have h3:=(hC.ty e te he).1;rw[hk]at h2;rw[hke]at h3;refine .inl ⟨_,_,h,mN fun w0 L w F ι H a st hr hR=> ?_⟩;have r:=hR x (by simp[ho,Op.operands]);rw[hx]at r;have hrun:=Lib.run_convert_string_bytes (P:=C.P) w s d e b h1 h2 h3;rw[Iv]at hrun;have hcap:b.size<=grownCap w b.size 0 e:=by simp[grownCap,Question.cut]
 have hsz:(Lib.bytesCells w e b).size=grownCap w b.size 0 e:=by
  simp[Lib.bytesCells];have:b.data.size=b.size:=rfl;omega
 refine⟨w.drew,Lib.bytesCells w e b,e,((Lib.bytesCells w e b).size,(Lib.bytesCells w e b).size+1),.slice (some ⟨w.heap.size,0,none⟩) b.size (grownCap w b.size 0 e),b.data.toList.map (fun (b:UInt8)=>Value.int .u8 (b.toNat:Int)),.inr rfl,?_,?_,?_,rfl,?_⟩
 ·unfold execOp;simp only[ho,r.s_inv,Sem.run_bind,hrun,Result.andThen_ok];rfl
 ·exact .inr (Nat.le_refl _)
 ·intro j y hy;have d8:=(List.getElem?_eq_some_iff.1 hy).1;refine⟨?_,?_⟩
  ·unfold Lib.bytesCells;rw[Array.getElem?_append_left (by simpa using d8)];rw[List.getElem?_map]at hy;rw[Array.getElem?_map,<-Array.getElem?_toList];exact hy
  ·obtain⟨z,_,rfl⟩:=List.mem_map.1 (List.mem_of_getElem? hy);rfl
 ·intro w' ι' hh hi;have:=R.o (w:=w') (F:=F) (e:=1) (off:=0) (n:=b.size) (cap:=grownCap w b.size 0 e) hi hcap ⟨_,e,_,hh,by rw[hsz];simp⟩;simpa using this
theorem Px (hC:q6 C) {d e:Nat} {td te:TI} {x:Operand} {k:Nat} {id:Id} {off n:Nat} {us:List Value} (ho:o.op= .convert d d x) (hd:C.ty d=some td) (hk:td.desc= .slice e) (he:C.ty e=some te) (hke:te.desc= .int .u8)
  (hx:ev x= .o k id off n) (hn:0<n) (l4:Hr id=some (.sc us)) (h:KN (.o k id off n) []):A9 C o ev Hr KN KP:=by
 have h2:=(hC.ty d td hd).1;have h3:=(hC.ty e te he).1;rw[hk]at h2;rw[hke]at h3;refine .inl ⟨_,_,h,?_⟩;intro w0 L w F ι H H' a st hr hR _ hdm ha next Q hnx
 simp only[A6,Option.some.injEq]at ha;subst ha;have r:=hR x (by simp[ho,Op.operands]);rw[hx]at r;rcases r.o_inv with ⟨a',h0,_⟩|⟨b,base,cap,ex,hi,_,_⟩
 ·omega
 obtain⟨m,t,hsh,nx⟩:=Xv st hdm (hr _ _ l4) (by simp) hi;have hrun:(execOp a.eval o).run C.P w= .ok (.value (a.eval x)) (w.freeze ⟨b,m,none⟩ 1):=by
  unfold execOp;simp[ho,ex,convert,run_underlying h2,run_underlying h3,markStringish,hsh]
 unfold Oper.wp;rw[hrun];exact hnx _ _ F ι nx (by
  have:=r;rw[ex]at this ⊢;exact this.ev nx.ev nx.fm nx.im)
end
end Go.Scr
namespace Go.Scr
theorem kb {w0:World} {L:Nat->Prop} {w:World} {F:Nat->Prop} {ι:Io} {bs:List B} (st:St w0 L w F ι (Hof bs)):St w (Lb ι bs) w F ι (Hof bs) where
 os:=rfl
 tape:=rfl
 output:=rfl
 size:=Nat.le_refl _
 old:=fun _ _ _=>rfl
 shp:=fun _ arr _ fr h=>⟨arr,fr,h,rfl⟩
 fr:=st.fr
 own:=by
  intro id X h hX;rcases st.own id X h hX with h0|⟨b,base,hi,hF,_,rest⟩
  ·exact .inl h0
  ·refine .inr ⟨b,base,hi,hF,.inl ?_,rest⟩;cases id with
   |d=>simp[Hof]at h
   |k k=>exact⟨k,X,base,h,hX,hi⟩
 inj:=st.inj
section
variable {w:World} {F:Nat->Prop} {ι:Io} {Hr:Hp}
theorem WV (d7:List Id) (n:Nat):∀{v x},fJ d7 v=true->R w F ι v x->R w F (Ik ι d7) (p5 Hr d7 n v) x:=by
 induction n with
 |zero=>intro v x _ _;unfold p5;exact .fz .u
 |succ n ih=>
  have ihl:∀{xs:List V} {vs:List Value},V8 d7 xs=true->RL w F ι xs vs->RL w F (Ik ι d7) (xs.map (p5 Hr d7 n)) vs:=by
   intro xs;induction xs with
   |nil=>intro vs _ h;cases h;exact .nil
   |cons x r ihr=>
    intro vs hc h;simp only[V8,Bool.and_eq_true]at hc;cases h with
    |cons h hl=>exact .cons (ih hc.1 h) (ihr hc.2 hl)
  intro v x hc h;cases v with
  |u=>unfold p5;exact .fz .u
  |s y=>cases h.s_inv;unfold p5;exact .fz .s
  |z m vs=>cases h with|fz h=>unfold p5;exact .fz h
  |zz e m xs=>cases h with|fz h=>unfold p5;exact .fz h
  |qv vs off=>cases h with|fz h=>unfold p5;exact .fz h
  |ub=>cases h with|fz h=>unfold p5;exact .fz h
  |q xs off=>cases h with|fz h=>unfold p5;exact .fz h
  |a cs=>obtain⟨vs,rfl,hl⟩:=h.a_inv;unfold p5;exact .a (ihl (by simpa [fJ]using hc) hl)
  |t cs=>obtain⟨vs,rfl,hl⟩:=h.t_inv;unfold p5;exact .t (ihl (by simpa [fJ]using hc) hl)
  |f fn a b=>
   obtain⟨vs,us,rfl,hl,hl'⟩:=h.f_inv;simp only[fJ,Bool.and_eq_true]at hc;unfold p5;exact .f (ihl hc.1 hl) (ihl hc.2 hl')
  |i t v=>obtain⟨y,rfl,hy⟩:=h.i_inv;unfold p5;exact .i (ih (by simpa [fJ]using hc) hy)
  |o e id off m=>
   obtain⟨k,hk⟩:=Option.isSome_iff_exists.1 (by simpa [fJ]using hc);dsimp only[p5];rw[hk];cases h with
   |fz h=>cases h
   |o hi hn hr=>exact .o (by simp[Ik,fW hk,hi]) hn hr
   |o0=>exact .o0
  |p id off=>
   obtain⟨k,hk⟩:=Option.isSome_iff_exists.1 (by simpa [fJ]using hc);dsimp only[p5];rw[hk];cases h with
   |fz h=>cases h
   |p hi=>exact .p (by simp[Ik,fW hk,hi])
theorem ry (d7:List Id) (n:Nat):∀{xs:List V} {vs:List Value},V8 d7 xs=true->RL w F ι xs vs->RL w F (Ik ι d7) (xs.map (p5 Hr d7 n)) vs
 |[],vs,_,h=>by cases h;exact .nil
 |x::r,_,hc,.cons h hl=>by
  simp only[V8,Bool.and_eq_true]at hc;exact .cons (WV d7 n hc.1 h) (ry d7 n hc.2 hl)
mutual
theorem wB {F':Nat->Prop}:∀{v:V} {x:Value},aG v=true->R w F ι v x->R w F' ι v x
 | .u,_,_,_=> .fz .u
 | .s y,x,_,h=>by cases h.s_inv;exact .fz .s
 | .z ..,_,h,_=>by simp[aG]at h
 | .zz ..,_,h,_=>by simp[aG]at h
 | .qv ..,_,h,_=>by simp[aG]at h
 | .q ..,_,h,_=>by simp[aG]at h
 | .o e id off n,_,_,h=>by
  cases h with
  |fz h=>cases h
  |o h1 h2 h3=>exact .o h1 h2 h3
  |o0=>exact .o0
 | .p id off,_,_,h=>by
  cases h with
  |fz h=>cases h
  |p h=>exact .p h
 | .a cs,_,hn,h=>by obtain⟨vs,rfl,hl⟩:=h.a_inv;exact .a (mv (by simpa [aG]using hn) hl)
 | .t cs,_,hn,h=>by obtain⟨vs,rfl,hl⟩:=h.t_inv;exact .t (mv (by simpa [aG]using hn) hl)
 | .f fn a b,_,hn,h=>by
  obtain⟨vs,us,rfl,hl,hl'⟩:=h.f_inv;simp only[aG,Bool.and_eq_true]at hn;exact .f (mv hn.1 hl) (mv hn.2 hl')
 | .i t v,_,hn,h=>by obtain⟨y,rfl,hy⟩:=h.i_inv;exact .i (wB (by simpa [aG]using hn) hy)
 | .ub,_,_,.fz h=>by cases h;exact .fz .ub
theorem mv {F':Nat->Prop}:∀{v:List V} {x:List Value},iA v=true->RL w F ι v x->RL w F' ι v x
 |[],_,_,h=>by cases h;exact .nil
 |_::_,_,hn,.cons h hl=>by
  simp only[iA,Bool.and_eq_true]at hn;exact .cons (wB hn.1 h) (mv hn.2 hl)
end
theorem Dt {F':Nat->Prop} {X:B} {vs:List Value} (hn:oL X=true) (h:BR w F ι X vs):BR w F' ι X vs:=by
 cases X with
 |sc us=>exact h
 |pl xs=>simp[oL]at hn
 |mx xs=>exact mv (by simpa [oL]using hn) h
 |dead=>trivial
theorem wA:∀{bs:List B},iy bs=true->∀{k:Nat} {X:B},bs[k]? =some X->oL X=true
 |b::r,h,0,X,hk=>by simp[iy]at h;simp at hk;subst hk;exact h.1
 |b::r,h,k+1,X,hk=>by simp[iy]at h;exact wA h.2 (by simpa using hk)
section
variable {ι':Io} {d7:List Id} {dst:Nat} (hdom:∀id x,ι id=some x->∃k,id= .k k/\ι' (B6 d7 dst k)=some x)
include hdom
mutual
theorem pD:∀{v:V} {x:Value},R w F ι v x->R w F ι' (back d7 dst v) x
 | .u,_,_=>by unfold back;exact .fz .u
 | .s y,x,h=>by cases h.s_inv;unfold back;exact .fz .s
 | .z ..,_,.fz h=>by unfold back;exact .fz h
 | .zz ..,_,.fz h=>by unfold back;exact .fz h
 | .qv ..,_,.fz h=>by unfold back;exact .fz h
 | .ub,_,.fz h=>by unfold back;exact .fz h
 | .q ..,_,.fz h=>by unfold back;exact .fz h
 | .o e (.k k) off n,_,h=>by
  unfold back;cases h with
  |fz h=>cases h
  |o h1 h2 h3=>
   obtain⟨k',hk,hh⟩:=hdom _ _ h1;simp only[Id.k.injEq]at hk;subst hk;exact .o hh h2 h3
  |o0=>exact .o0
 | .o e (.d a b) off n,_,h=>by
  unfold back;cases h with
  |fz h=>cases h
  |o h1 h2 h3=>obtain⟨k',hk,hh⟩:=hdom _ _ h1;cases hk
  |o0=>exact .o0
 | .p (.k k) off,_,h=>by
  unfold back;cases h with
  |fz h=>cases h
  |p h1=>
   obtain⟨k',hk,hh⟩:=hdom _ _ h1;simp only[Id.k.injEq]at hk;subst hk;exact .p hh
 | .p (.d a b) off,_,h=>by
  unfold back;cases h with
  |fz h=>cases h
  |p h1=>obtain⟨k',hk,hh⟩:=hdom _ _ h1;cases hk
 | .a cs,_,h=>by obtain⟨vs,rfl,hl⟩:=h.a_inv;unfold back;exact .a (kw hl)
 | .t cs,_,h=>by obtain⟨vs,rfl,hl⟩:=h.t_inv;unfold back;exact .t (kw hl)
 | .f fn a b,_,h=>by
  obtain⟨vs,us,rfl,hl,hl'⟩:=h.f_inv;unfold back;exact .f (kw hl) (kw hl')
 | .i t v,_,h=>by obtain⟨y,rfl,hy⟩:=h.i_inv;unfold back;exact .i (pD hy)
theorem kw:∀{v:List V} {x:List Value},RL w F ι v x->RL w F ι' (bG d7 dst v) x
 |[],_,h=>by cases h;unfold bG;exact .nil
 |_::_,_,.cons h hl=>by unfold bG;exact .cons (pD h) (kw hl)
end
theorem HW {X:B} {vs:List Value} (h:BR w F ι X vs):BR w F ι' (kv d7 dst X) vs:=by
 cases X with
 |sc us=>exact h
 |pl xs=>exact h
 |mx xs=>exact kw hdom h
 |dead=>trivial
end
end
theorem oK:∀{d7:List Id},dQ d7=true->d7.Nodup
 |[],_=>List.nodup_nil
 |x::r,h=>by
  simp only[dQ,Bool.and_eq_true,Option.isNone_iff_eq_none]at h;exact List.nodup_cons.2 ⟨jF h.1,oK h.2⟩
theorem rz {H:Hp} {all:List Id}:∀{d7:List Id} {k:Nat} {X:B},(M6 H all d7)[k]? =some X->∃id,d7[k]? =some id/\X=cK H all (match H id with|some b=>b|none=> .dead)
 |[],k,X,h=>by simp[M6]at h
 |id::r,0,X,h=>by simp[M6]at h;exact⟨id,by simp,h.symm⟩
 |id::r,k+1,X,h=>by
  obtain⟨i,h1,h2⟩:=rz (d7:=r) (k:=k) (by simpa [M6]using h);exact⟨i,by simpa using h1,h2⟩
theorem rC {H:Hp} {all:List Id}:∀{d7:List Id},(M6 H all d7).length=d7.length
 |[]=>rfl
 |id::r=>by simp[M6,rC (d7:=r)]
theorem sx {H:Hp}:∀{d7:List Id},gC H d7=true->∀id∈d7,∃b,H id=some b
 |[],_=>by simp
 |x::r,h=>by
  simp only[gC,Bool.and_eq_true]at h;intro id l4;rcases List.mem_cons.1 l4 with rfl|l4
  ·exact Option.isSome_iff_exists.1 h.1
  ·exact sx h.2 id l4
theorem uN {H:Hp} {all:List Id}:∀{d7:List Id},gN H all d7=true->∀id∈d7,∀xs,H id=some (.mx xs)->V8 all xs=true
 |[],_=>by simp
 |x::r,h=>by
  simp only[gN,Bool.and_eq_true]at h;intro id l4 xs hx;rcases List.mem_cons.1 l4 with rfl|l4
  ·have:=h.1;rw[hx]at this;exact this
  ·exact uN h.2 id l4 xs hx
theorem oJ {dst:Nat}:∀{d7:List Id},gd dst d7=true->∀id∈d7,O9 dst id=false
 |[],_=>by simp
 |x::r,h=>by
  simp only[gd,Bool.and_eq_true]at h;intro id l4;rcases List.mem_cons.1 l4 with rfl|l4
  ·simpa using h.1
  ·exact oJ h.2 id l4
theorem yY {d7:List Id} {dst:Nat} (hnd:d7.Nodup) (hno:∀id∈d7,O9 dst id=false) {i j:Nat} (h:B6 d7 dst i=B6 d7 dst j):i=j:=by
 cases hi:d7[i]? with
 |some x=>
  cases hj:d7[j]? with
  |some y=>
   simp only[B6,hi,hj]at h;subst h;exact(List.getElem?_inj (List.getElem?_eq_some_iff.1 hi).1 hnd).1 (hi.trans hj.symm)
  |none=>
   simp only[B6,hi,hj]at h;subst h;have:=hno _ (List.mem_of_getElem? hi);simp[O9]at this
 |none=>
  cases hj:d7[j]? with
  |some y=>
   simp only[B6,hi,hj]at h;subst h;have:=hno _ (List.mem_of_getElem? hj);simp[O9]at this
  |none=>
   simp only[B6,hi,hj,Id.d.injEq]at h;exact h.2
theorem yW {d7:List Id} {dst:Nat} (hnd:d7.Nodup) (hno:∀id∈d7,O9 dst id=false):∀(bs:List B) (k:Nat) (H H':Hp),A6 dst H (bH d7 dst k bs)=some H'->
  (∀id,(∀j,k<=j->j<k+bs.length->id≠B6 d7 dst j)->H' id=H id)/\(∀(j:Nat) (X:B),bs[j]? =some X->H' (B6 d7 dst (k+j))=some (kv d7 dst X))/\
  (∀j,k<=j->j<k+bs.length->d7.length<=j->H (.d dst j)=none)
 |[],k,H,H',h=>by
  simp only[bH,A6,Option.some.injEq]at h;subst h;exact⟨fun _ _=>rfl,fun j X h=>by simp at h,fun j h1 h2=>by simp at h2;omega⟩
 |b::r,k,H,H',h=>by
  simp only[bH,A6]at h;obtain⟨h',hfresh⟩:A6 dst (x5 H (B6 d7 dst k) (some (kv d7 dst b))) (bH d7 dst (k+1) r)=some H'/\(d7.length<=k->H (.d dst k)=none):=by
   cases ho:O9 dst (B6 d7 dst k)
   ·rw[ho]at h;refine⟨h,fun hle=> ?_⟩;have:d7[k]? =none:=List.getElem?_eq_none hle;simp[B6,this,O9]at ho
   ·rw[ho]at h;cases hh:H (B6 d7 dst k)with
    |none=>
     rw[hh]at h;refine⟨h,fun hle=> ?_⟩;have:d7[k]? =none:=List.getElem?_eq_none hle;simpa [B6,this]using hh
    |some x=>rw[hh]at h;simp at h
  obtain⟨g1,g2,g3⟩:=yW hnd hno r (k+1) _ H' h';refine⟨?_,?_,?_⟩
  ·intro id l4;rw[g1 id (fun j h1 h2=>l4 j (by omega) (by simp;omega)),C4];exact(l4 k (Nat.le_refl _) (by simp)).symm
  ·intro j X hj;cases j with
   |zero=>
    simp only[List.getElem?_cons_zero,Option.some.injEq]at hj;subst hj;rw[Nat.add_zero,g1 _ (fun j h1 h2 he=>by have:=yY hnd hno he;omega),F8]
   |succ j=>
    rw[show k+(j+1)=k+1+j by omega];exact g2 j X (by simpa using hj)
  ·intro j h1 h2 h3;by_cases he:j=k
   ·subst he;exact hfresh h3
   ·have:=g3 j (by omega) (by simp at h2;omega) h3;rw[C4]at this
    ·exact this
    ·intro hb;have hj:d7[j]? =none:=List.getElem?_eq_none h3;have:B6 d7 dst k=B6 d7 dst j:=by rw[hb];simp[B6,hj]
     have:=yY hnd hno this;omega
end Go.Scr
namespace Go.Scr
theorem Wx {d7:List Id} (hnd:d7.Nodup) {k:Nat} {id:Id} (h:d7[k]? =some id):I3 d7 id=some k:=by
 cases hx:I3 d7 id with
 |none=>exact absurd (List.mem_of_getElem? h) (jF hx)
 |some j=>
  have hj:=fW hx;rw[(List.getElem?_inj (List.getElem?_eq_some_iff.1 hj).1 hnd).1 (hj.trans h.symm)]
def I2 (ι ι1:Io) (d7:List Id) (dst n:Nat):Io:=fun id=>
 match I3 d7 id with
 |some k=>ι1 (.k k)
 |none=>match id with
  | .d d j=>if d=dst/\d7.length<=j/\j<n then ι1 (.k j)else ι id
  |_=>ι id
theorem dV {ι ι1:Io} {d7:List Id} {dst n:Nat} (hnd:d7.Nodup) (hno:∀id∈d7,O9 dst id=false) {j:Nat} (hj:j<n):I2 ι ι1 d7 dst n (B6 d7 dst j)=ι1 (.k j):=by
 cases h:d7[j]? with
 |some id=>simp[I2,B6,h,Wx hnd h]
 |none=>
  have hle:d7.length<=j:=by
   rcases Nat.lt_or_ge j d7.length with h1|h1
   ·simp[h1]at h
   ·exact h1
  have hn:I3 d7 (.d dst j)=none:=by
   cases hx:I3 d7 (.d dst j)with
   |none=>rfl
   |some k=>
    have:=hno _ (List.mem_of_getElem? (fW hx));simp[O9]at this
  simp[I2,B6,hn,hle,hj]
theorem jc {ι ι1:Io} {d7:List Id} {dst n:Nat} (hle:d7.length<=n) {id:Id} (h:∀j,j<n->id≠B6 d7 dst j):I2 ι ι1 d7 dst n id=ι id:=by
 unfold I2;cases hx:I3 d7 id with
 |some k=>
  have hk:=fW hx;have d8:=(List.getElem?_eq_some_iff.1 hk).1;exact absurd (by simp[B6,hk]) (h k (by omega))
 |none=>
  cases id with
  |k k=>rfl
  |d d j=>
   simp only
   split
   ·rename_i hc;obtain⟨rfl,h1,h2⟩:=hc;have:d7[j]? =none:=List.getElem?_eq_none h1;exact absurd (by simp[B6,this]) (h j h2)
   ·rfl
section
variable {w0:World} {L:Nat->Prop} {w:World} {F:Nat->Prop} {ι:Io} {H:Hp}
theorem nJ (st:St w0 L w F ι H) (hd:∀id x,ι id=some x->H id≠none) {d7:List Id} {dst:Nat} {bs bs':List B} (hnd:d7.Nodup) (hno:∀id∈d7,O9 dst id=false)
  (s3:d7.length<=bs'.length) (hbs:∀(k:Nat) (X:B),bs[k]? =some X->X≠ .dead->∃id Y,d7[k]? =some id/\H id=some Y/\Y≠ .dead) {H':Hp} (happ:A6 dst H (bH d7 dst 0 bs')=some H')
  {w1:World} {F1 F2:Nat->Prop} {ι1:Io} (st1:St w (Lb (Ik ι d7) bs) w1 F1 ι1 (Hof bs')) (him:∀id x,Ik ι d7 id=some x->ι1 id=some x) (hdm1:∀id x,ι1 id=some x->∃k,k<bs'.length/\id= .k k)
  (h2a:∀b,F b->F2 b) (h2b:∀b,F2 b->F b\/Lb (Ik ι d7) bs b\/w.heap.size<=b) (h2c:∀b,F2 b->F1 b) (hBR:∀(k:Nat) (X:B) (vs:List Value),bs'[k]? =some X->BR w1 F1 ι1 X vs->BR w1 F2 ι1 X vs):
  Nx w0 L w F ι w1 F2 (I2 ι ι1 d7 dst bs'.length) H':=by
 obtain⟨g1,g2,g3⟩:=yW hnd hno bs' 0 H H' happ;simp only[Nat.zero_add]at g1 g2 g3;have lent:∀b,Lb (Ik ι d7) bs b->∃id X base,id∈d7/\H id=some X/\X≠ .dead/\ι id=some (b,base)/\¬F b/\(L b\/w0.heap.size<=b):=by
  rintro b ⟨k,X,base,hk,hX,hi⟩;obtain⟨id,Y,l4,hY,hYd⟩:=hbs k X hk hX;simp only[Ik,l4,Option.bind_some]at hi;obtain⟨b',base',hi',hF,hL,_⟩:=(st.own id Y hY hYd).resolve_left (by simp[hi]);rw[hi]at hi';simp only[Option.some.injEq,Prod.mk.injEq]at hi';obtain⟨rfl,rfl⟩:=hi';exact⟨id,Y,base,List.mem_of_getElem? l4,hY,hYd,hi,hF,hL⟩
 have hev:Ev w w1 F:=by
  refine⟨fun b hb=>st1.old b (st.fr b hb) fun hl=> ?_,st1.shp⟩;obtain⟨_,_,_,_,_,_,_,hF,_⟩:=lent b hl;exact hF hb
 have hIm:∀id x,ι id=some x->I2 ι ι1 d7 dst bs'.length id=some x:=by
  intro id x hx;by_cases hc:∃j,j<bs'.length/\id=B6 d7 dst j
  ·obtain⟨j,hj,rfl⟩:=hc;rw[dV hnd hno hj];cases hij:d7[j]? with
   |some i=>
    apply him;simp only[B6,hij]at hx;simp[Ik,hij,hx]
   |none=>
    have hle:d7.length<=j:=by
     rcases Nat.lt_or_ge j d7.length with h1|h1
     ·simp[h1]at hij
     ·exact h1
    have:=g3 j (Nat.zero_le _) hj hle;simp only[B6,hij]at hx;exact absurd this (hd _ _ hx)
  ·rw[jc s3 (fun j hj he=>hc ⟨j,hj,he⟩)];exact hx
 -- which of the two an id is
 have which:∀id X,H' id=some X->X≠ .dead->(∃(j:Nat) (Y:B),j<bs'.length/\id=B6 d7 dst j/\bs'[j]? =some Y/\X=kv d7 dst Y/\Y≠ .dead)\/((∀j,j<bs'.length->id≠B6 d7 dst j)/\H id=some X):=by
  intro id X h hX;by_cases hc:∃j,j<bs'.length/\id=B6 d7 dst j
  ·obtain⟨j,hj,rfl⟩:=hc;have hY:bs'[j]? =some bs'[j]:=by simp[hj]
   have:=g2 j _ hY;rw[h]at this;simp only[Option.some.injEq]at this;refine .inl ⟨j,_,hj,rfl,hY,this,?_⟩;intro hdead;rw[hdead]at this;exact hX this
  ·have hc':∀j,j<bs'.length->id≠B6 d7 dst j:=fun j hj he=>hc ⟨j,hj,he⟩;exact .inr ⟨hc',by rw[<-g1 id (fun j _ hj=>hc' j (by omega))];exact h⟩
 have unlent:∀id X b base,(∀j,j<bs'.length->id≠B6 d7 dst j)->H id=some X->X≠ .dead->ι id=some (b,base)->b<w.heap.size/\¬Lb (Ik ι d7) bs b:=by
  intro id X b base hne hH hX hi;obtain⟨b',base',hi',_,_,arr,t,fr,hh,_⟩:=(st.own id X hH hX).resolve_left (by simp[hi]);rw[hi]at hi';simp only[Option.some.injEq,Prod.mk.injEq]at hi';obtain⟨rfl,rfl⟩:=hi';refine⟨(Array.getElem?_eq_some_iff.1 hh).1,fun hl=> ?_⟩;obtain⟨id2,X2,base2,hmem,hH2,hX2,hi2,_⟩:=lent b hl;have he:=st.inj id id2 X X2 b base base2 hH hX hH2 hX2 hi hi2;obtain⟨k,hk⟩:=List.getElem?_of_mem hmem;have d8:=(List.getElem?_eq_some_iff.1 hk).1;exact hne k (by omega) (by simp[B6,hk,he])
 have hback:∀id x,ι1 id=some x->∃k,id= .k k/\I2 ι ι1 d7 dst bs'.length (B6 d7 dst k)=some x:=by
  intro id x hx;obtain⟨k,hk,rfl⟩:=hdm1 id x hx;exact⟨k,rfl,by rw[dV hnd hno hk];exact hx⟩
 refine⟨?_,hev,h2a,fun b hb=>(h2b b hb).imp id fun h=>h.elim (fun h=>by obtain⟨_,_,_,_,_,_,_,_,h⟩:=lent b h;exact h) fun h=> .inr (Nat.le_trans st.size h),hIm,?_⟩
 ·exact{
   os:=st1.os.trans st.os
   tape:=st1.tape.trans st.tape
   output:=st1.output.trans st.output
   size:=Nat.le_trans st.size st1.size
   old:=fun b hb hL=>by
    rw[st1.old b (by have:=st.size;omega) (fun hl=>by
     obtain⟨_,_,_,_,_,_,_,_,h⟩:=lent b hl;rcases h with h|h
     ·exact hL h
     ·omega)]
    exact st.old b hb hL
   shp:=fun b arr t fr h=>by
    obtain⟨a1,f1,h1,h2⟩:=st.shp b arr t fr h;obtain⟨a2,f2,h3,h4⟩:=st1.shp b a1 t f1 h1;exact⟨a2,f2,h3,h4.trans h2⟩
   fr:=fun b hb=>st1.fr b (h2c b hb)
   own:=by
    intro id X h hX;rcases which id X h hX with ⟨j,Y,hj,rfl,hY,rfl,hYd⟩|⟨hne,hH⟩
    ·rcases st1.own (.k j) Y (by simpa [Hof]using hY) hYd with ⟨h0,h0'⟩|⟨b,base,hi,hF,hL,arr,t,fr,hh,hfr,vs,hc,hm⟩
     ·refine .inl ⟨?_,by rw[dV hnd hno hj];exact h0'⟩;have hbl:∀l:List V,(bG d7 dst l).length=l.length:=by
       intro l;induction l with
       |nil=>rfl
       |cons x r ih=>simp[bG,ih]
      cases Y with
      |mx xs=>simpa [kv,B.len,hbl]using h0
      |_=>exact h0
     ·refine .inr ⟨b,base,by rw[dV hnd hno hj];exact hi,fun hb=>hF (h2c b hb),?_,arr,t,fr,hh,hfr,vs,hc,HW hback (hBR j Y vs hY hm)⟩;rcases hL with hL|hL
      ·obtain⟨_,_,_,_,_,_,_,_,h⟩:=lent b hL;exact h
      ·exact .inr (Nat.le_trans st.size hL)
    ·rcases st.own id X hH hX with ⟨h0,h0'⟩|⟨b,base,hi,hF,hL,arr,t,fr,hh,hfr,vs,hc,hm⟩
     ·exact .inl ⟨h0,by rw[jc s3 hne];exact h0'⟩
     ·obtain⟨d8,hnl⟩:=unlent id X b base hne hH hX hi;refine .inr ⟨b,base,by rw[jc s3 hne];exact hi,fun hb=> ?_,hL,arr,t,fr,by rw[st1.old b d8 hnl];exact hh,hfr,vs,hc,hm.ev hev h2a hIm⟩;rcases h2b b hb with h|h|h
      ·exact hF h
      ·exact hnl h
      ·omega
   inj:=by
    intro i1 i2 X1 X2 b c1 c2 h1 k1 h2 k2 e1 e2;have cross:∀i1 i2 X2 Y j b c1 c2,j<bs'.length->i1=B6 d7 dst j->bs'[j]? =some Y->Y≠ .dead->(∀j,j<bs'.length->i2≠B6 d7 dst j)->H i2=some X2->X2≠ .dead->
      I2 ι ι1 d7 dst bs'.length i1=some (b,c1)->I2 ι ι1 d7 dst bs'.length i2=some (b,c2)->False:=by
     intro i1 i2 X2 Y j b c1 c2 hj he hY hYd hne hH hX e1 e2;subst he;rw[dV hnd hno hj]at e1;rw[jc s3 hne]at e2;obtain⟨d8,hnl⟩:=unlent i2 X2 b c2 hne hH hX e2;obtain⟨b',base',hi',_,hL,_⟩:=(st1.own (.k j) Y (by simpa [Hof]using hY) hYd).resolve_left (by simp[e1]);rw[e1]at hi';simp only[Option.some.injEq,Prod.mk.injEq]at hi';obtain⟨rfl,rfl⟩:=hi';rcases hL with hL|hL
     ·exact hnl hL
     ·omega
    rcases which i1 X1 h1 k1 with ⟨j1,Y1,hj1,he1,hY1,hX1,hYd1⟩|⟨hne1,hH1⟩<;>rcases which i2 X2 h2 k2 with ⟨j2,Y2,hj2,he2,hY2,hX2,hYd2⟩|⟨hne2,hH2⟩
    ·subst he1;subst he2;rw[dV hnd hno hj1]at e1;rw[dV hnd hno hj2]at e2;have:=st1.inj (.k j1) (.k j2) Y1 Y2 b c1 c2 (by simpa [Hof]using hY1) hYd1 (by simpa [Hof]using hY2) hYd2 e1 e2;simp only[Id.k.injEq]at this;rw[this]
    ·exact(cross i1 i2 X2 Y1 j1 b c1 c2 hj1 he1 hY1 hYd1 hne2 hH2 k2 e1 e2).elim
    ·exact(cross i2 i1 X1 Y2 j2 b c2 c1 hj2 he2 hY2 hYd2 hne1 hH1 k1 e2 e1).elim
    ·rw[jc s3 hne1]at e1;rw[jc s3 hne2]at e2;exact st.inj i1 i2 X1 X2 b c1 c2 hH1 k1 hH2 k2 e1 e2}
 ·intro id x hx;by_cases hc:∃j,j<bs'.length/\id=B6 d7 dst j
  ·obtain⟨j,hj,rfl⟩:=hc;rw[g2 j _ (by simp[hj]:bs'[j]? =some bs'[j])];simp
  ·have hc':∀j,j<bs'.length->id≠B6 d7 dst j:=fun j hj he=>hc ⟨j,hj,he⟩;rw[jc s3 hc']at hx;rw[g1 id (fun j _ hj=>hc' j (by omega))];exact hd id x hx
end
end Go.Scr
namespace Go.Scr
theorem WT {w:World} {F:Nat->Prop} {ι:Io} {Hr:Hp} (d7:List Id) {Y:B} {vs:List Value} (hc:∀xs,Y= .mx xs->V8 d7 xs=true) (h:BR w F ι Y vs):BR w F (Ik ι d7) (cK Hr d7 Y) vs:=by
 cases Y with
 |sc us=>exact h
 |pl xs=>exact h
 |mx xs=>exact ry d7 6 (hc xs rfl) h
 |dead=>trivial
theorem St.keepC {w0:World} {L:Nat->Prop} {w:World} {F:Nat->Prop} {ι:Io} {H Hr:Hp} (st:St w0 L w F ι H) (d7:List Id) (hnd:d7.Nodup)
  {bs:List B} (hbs:∀(k:Nat) (X:B),bs[k]? =some X->X≠ .dead->∃id Y,d7[k]? =some id/\H id=some Y/\X=cK Hr d7 Y/\∀xs,Y= .mx xs->V8 d7 xs=true):St w0 L w F (Ik ι d7) (Hof bs) where
 os:=st.os
 tape:=st.tape
 output:=st.output
 size:=st.size
 old:=st.old
 shp:=st.shp
 fr:=st.fr
 own:=by
  intro id X h hX;cases id with
  |d=>simp[Hof]at h
  |k k=>
   obtain⟨id,Y,l4,hY,rfl,hcl⟩:=hbs k X h hX;have hYd:Y≠ .dead:=by rintro rfl;exact hX rfl
   rcases st.own id Y hY hYd with ⟨h0,h0'⟩|⟨b,base,hi,hF,hL,arr,t,fr,hh,hfr,vs,hc,hm⟩
   ·refine .inl ⟨?_,by simp[Ik,l4,h0']⟩;cases Y<;>first|exact h0|simpa [cK,B.len]using h0
   exact .inr ⟨b,base,by simp[Ik,l4,hi],hF,hL,arr,t,fr,hh,hfr,vs,hc,WT d7 hcl hm⟩
 inj:=by
  intro id id' X X' b base base' h hX h' hX' hi hi';cases id with
  |d=>simp[Hof]at h
  |k k=>
   cases id' with
   |d=>simp[Hof]at h'
   |k k'=>
    obtain⟨i,Y,l4,hY,rfl,_⟩:=hbs k X h hX;obtain⟨i',Y',hid',hY',rfl,_⟩:=hbs k' X' h' hX';simp only[Ik,l4,hid',Option.bind_some]at hi hi';have hYd:Y≠ .dead:=by rintro rfl;exact hX rfl
    have hYd':Y'≠ .dead:=by rintro rfl;exact hX' rfl
    have he:=st.inj i i' Y Y' b base base' hY hYd hY' hYd' hi hi';subst he;rw[(List.getElem?_inj (List.getElem?_eq_some_iff.1 l4).1 hnd).1 (l4.trans hid'.symm)]
theorem RF.mono {w:World} {F F':Nat->Prop} (hf:∀b,F b->F' b) {v:V} {x:Value} (h:RF w F v x):RF w F' v x:=RF.ev (Ev.refl w F) hf h
def ni (w:World) (F:Nat->Prop) (ι:Io) (d7:List Id) (dst:Nat):Oc->Ending->Prop
 | .ret v,e=>∃x,e= .returned x/\R w F ι (back d7 dst v) x
 | .pan v,e=>∃x,e= .panicked [{v:=x,recovered:=false}]/\R w F ι (back d7 dst v) x
theorem nj {w:World} {F F':Nat->Prop} {ι ι':Io} {d7:List Id} {dst:Nat} {r:Oc} {e:Ending} (hdom:∀id x,ι id=some x->∃k,id= .k k/\ι' (B6 d7 dst k)=some x)
  (hF:∀v x,R w F ι v x->(jH r=true->aG v=true)->R w F' ι v x) (h:aT w F ι r e):ni w F' ι' d7 dst r e:=by
 cases r with
 |ret v=>obtain⟨x,he,hr⟩:=h;exact⟨x,he,pD hdom (hF v x hr id)⟩
 |pan v=>obtain⟨x,he,hr⟩:=h;exact⟨x,he,pD hdom (hF v x hr id)⟩
theorem Du {w:World} {F F':Nat->Prop} {ι:Io} {r:Oc} (hn:jH r=true) (v:V) (x:Value) (h:R w F ι v x) (hv:jH r=true->aG v=true):R w F' ι v x:=wB (hv hn) h
theorem OZ {C:m6} {f:FuncId} {args as:List V} {Hr:Hp} {dst:Nat} {d7:List Id} {bs bs':List B} {r:Oc} (hCon:b9 C f as bs r bs') (has:args.map (p5 Hr d7 6)=as) (hbs:M6 Hr d7 d7=bs)
  (hck:(dQ d7&&gd dst d7&&gC Hr d7&&Nat.ble d7.length bs'.length&&(jH r&&iy bs'||V8 d7 args&&gN Hr d7 d7))=true)
  {w0:World} {L:Nat->Prop} {w:World} {F:Nat->Prop} {ι:Io} {H H':Hp} (st:St w0 L w F ι H) (hr:∀id b,Hr id=some b->H id=some b) {vs:Array Value} (hvs:RL w F ι args vs.toList)
  (hgl:∀g,RF w F (C.gl g) (gptr g)) (hd:∀id x,ι id=some x->H id≠none) (happ:A6 dst H (bH d7 dst 0 bs')=some H'):
  Calls C.P f vs w fun e w'=>∃F2 ι2,Nx w0 L w F ι w' F2 ι2 H'/\ni w' F2 ι2 d7 dst r e:=by
 simp only[Bool.and_eq_true,Bool.or_eq_true]at hck;obtain⟨⟨⟨⟨hnd,hno⟩,hsome⟩,s3⟩,hcase⟩:=hck;have hnd:=oK hnd;have hno:=oJ hno;have hsome:=sx hsome;have s3:=Nat.le_of_ble_eq_true s3;subst hbs;subst has;have hget:∀(k:Nat) (X:B),(M6 Hr d7 d7)[k]? =some X->∃id Y,d7[k]? =some id/\Hr id=some Y/\H id=some Y/\X=cK Hr d7 Y:=by
  intro k X hk;obtain⟨id,h1,h2⟩:=rz hk;obtain⟨Y,hY⟩:=hsome id (List.mem_of_getElem? h1);rw[hY]at h2;exact⟨id,Y,h1,hY,hr _ _ hY,h2⟩
 have hdm0:∀id x,Ik ι d7 id=some x->∃k,k<(M6 Hr d7 d7).length/\id= .k k:=by
  intro id x hx;cases id with
  |d=>simp[Ik]at hx
  |k k=>
   refine⟨k,?_,rfl⟩;rw[rC];rcases Nat.lt_or_ge k d7.length with h|h
   ·exact h
   ·simp[Ik,List.getElem?_eq_none h]at hx
 have hlive:∀(k:Nat) (X:B),(M6 Hr d7 d7)[k]? =some X->X≠ .dead->∃id Y,d7[k]? =some id/\H id=some Y/\Y≠ .dead:=by
  intro k X hk hX;obtain⟨id,Y,h1,_,h2,rfl⟩:=hget k X hk;exact⟨id,Y,h1,h2,by rintro rfl;exact hX rfl⟩
 have hdomOf:∀{ι1:Io},(∀id x,ι1 id=some x->∃k,k<bs'.length/\id= .k k)->∀id x,ι1 id=some x->∃k,id= .k k/\I2 ι ι1 d7 dst bs'.length (B6 d7 dst k)=some x:=by
  intro ι1 h id x hx;obtain⟨k,hk,rfl⟩:=h id x hx;exact⟨k,rfl,by rw[dV hnd hno hk];exact hx⟩
 rcases hcase with ⟨hn1,hn2⟩|⟨hc1,hc2⟩
 ·have sk:=St.keep st hr d7 hnd (bs:=M6 Hr d7 d7) fun k X hk hX=>by
   obtain⟨id,Y,h1,_,h2,h3⟩:=hget k X hk;exact⟨id,Y,h1,h2,h3⟩
  refine Calls.mono (hCon.2 w (Fx F ι H d7) (Ik ι d7) vs (kb sk) (fun g=>(hgl g).mono fun _=> .inl) hdm0 (rx st hr d7 6 hvs)) ?_;rintro e w' ⟨F1,ι1,g1,g2,g3,st1,g5,g6⟩;refine⟨fun b=>F b\/(F1 b/\w.heap.size<=b),_,nJ st hd hnd hno s3 hlive happ st1 g3 g5 (fun b=> .inl) (fun b hb=>hb.imp id fun h=> .inr h.2) (fun b hb=> ?_) (fun k X vs hk hB=> ?_),?_⟩
  ·rcases hb with hb|hb
   ·exact g1 b (.inl hb)
   ·exact hb.1
  ·exact Dt (wA hn2 hk) hB
  ·exact nj (hdomOf g5) (Du hn1) g6
 ·have sk:=St.keepC st (Hr:=Hr) d7 hnd (bs:=M6 Hr d7 d7) fun k X hk hX=>by
   obtain⟨id,Y,h1,h0,h2,h3⟩:=hget k X hk;exact⟨id,Y,h1,h2,h3,fun xs hxs=>uN hc2 id (List.mem_of_getElem? h1) xs (hxs▸h0)⟩
  refine Calls.mono (hCon.2 w F (Ik ι d7) vs (kb sk) hgl hdm0 (ry d7 6 hc1 hvs)) ?_;rintro e w' ⟨F1,ι1,g1,g2,g3,st1,g5,g6⟩;exact⟨F1,_,nJ st hd hnd hno s3 hlive happ st1 g3 g5 g1 g2 (fun b hb=>hb) (fun k X vs hk hB=>hB),nj (hdomOf g5) (fun v x h _=>h) g6⟩
theorem Bf {d7:List Id}:∀{l:List Id},qw d7 l=true->∀x∈l,x∉d7
 |[],_,_,h=>by cases h
 |y::r,h,x,hx=>by
  simp only[qw,Bool.and_eq_true,Option.isNone_iff_eq_none]at h;rcases List.mem_cons.1 hx with rfl|hx
  ·exact jF h.1
  ·exact Bf h.2 x hx
theorem gu {H:Hp} {l:List Id} {id:Id} {X:B} (h:rs H l id=some X):H id=some X/\id∈l:=by
 unfold rs at h;split at h
 ·rename_i k hk;exact⟨h,List.mem_of_getElem? (fW hk)⟩
 ·cases h
theorem a0a {H:Hp} {l:List Id} {id:Id} (h:id∈l):rs H l id=H id:=by
 unfold rs;cases hx:I3 l id with
 |some k=>rfl
 |none=>exact absurd h (jF hx)
theorem St.rs {w0:World} {L:Nat->Prop} {w:World} {F:Nat->Prop} {ι:Io} {H:Hp} (st:St w0 L w F ι H) (l:List Id):St w0 L w F ι (Scr.rs H l) where
 os:=st.os
 tape:=st.tape
 output:=st.output
 size:=st.size
 old:=st.old
 shp:=st.shp
 fr:=st.fr
 own:=fun id X h hX=>st.own id X (gu h).1 hX
 inj:=fun id id' X X' b base base' h hX h' hX' hi hi'=>st.inj id id' X X' b base base' (gu h).1 hX (gu h').1 hX' hi hi'
def eP (H:Hp):List Id->Hp
 |[]=>H
 |x::r=>eP (x5 H x (some .dead)) r
theorem qr:∀{ks:List Id} {H:Hp} {id:Id},id∈ks->eP H ks id=some .dead:=by
 intro ks;have keep:∀(ks:List Id) (H:Hp) (id:Id),H id=some .dead->eP H ks id=some .dead:=by
  intro ks;induction ks with
  |nil=>intro H id h;exact h
  |cons x r ih=>
   intro H id h;apply ih;by_cases hx:x=id
   ·subst hx;exact F8 _ _ _
   ·rw[C4 _ _ hx];exact h
 induction ks with
 |nil=>intro H id h;cases h
 |cons x r ih=>
  intro H id h;rcases List.mem_cons.1 h with rfl|h
  ·exact keep r _ _ (F8 _ _ _)
  ·exact ih h
theorem nW:∀{ks:List Id} {H:Hp} {id:Id},id∉ks->eP H ks id=H id:=by
 intro ks;induction ks with
 |nil=>intro H id h;rfl
 |cons x r ih=>
  intro H id h;have h1:x≠id:=fun e=>h (by simp[e]);show eP (x5 H x (some .dead)) r id=H id;rw[ih (fun e=>h (by simp[e])),C4 _ _ h1]
theorem yO {dst:Nat} {l:List (Id×B)}:∀{ks:List Id} {H:Hp},(∀id∈ks,O9 dst id=false)->A6 dst H (ao ks l)=A6 dst (eP H ks) l
 |[],H,_=>rfl
 |x::r,H,h=>by
  have e:A6 dst H ((x,.dead)::ao r l)=A6 dst (x5 H x (some .dead)) (ao r l):=by
   rw[A6,h x (by simp)]
  show A6 dst H ((x,.dead)::ao r l)=A6 dst (eP (x5 H x (some .dead)) r) l;rw[e];exact yO (ks:=r) fun id l4=>h id (List.mem_cons_of_mem _ l4)
theorem St.frz {w0:World} {L:Nat->Prop} {w:World} {F:Nat->Prop} {ι:Io} {H Hr:Hp} (st:St w0 L w F ι H) (hr:∀id b,Hr id=some b->H id=some b) (d7 ks:List Id):St w0 L w (Fx F ι (Scr.rs Hr (d7++ks)) d7) ι (eP H ks) where
 os:=st.os
 tape:=st.tape
 output:=st.output
 size:=st.size
 old:=st.old
 shp:=st.shp
 fr:=by
  rintro b (hb|⟨id,X,base,h1,h2,_,h4⟩)
  ·exact st.fr b hb
  ·obtain⟨b',base',hi',_,_,arr,t,fr,hh,_⟩:=(st.own id X (hr _ _ (gu h1).1) h2).resolve_left (by simp[h4]);rw[h4]at hi';simp only[Option.some.injEq,Prod.mk.injEq]at hi';obtain⟨rfl,rfl⟩:=hi';exact(Array.getElem?_eq_some_iff.1 hh).1
 own:=by
  intro id X h hX;have hni:id∉ks:=fun hm=>by rw[qr hm]at h;simp at h;exact hX h.symm
  rw[nW hni]at h;rcases st.own id X h hX with h0|⟨b,base,hi,hF,hL,arr,t,fr,hh,hfr,vs,hc,hm⟩
  ·exact .inl h0
  ·refine .inr ⟨b,base,hi,?_,hL,arr,t,fr,hh,hfr,vs,hc,hm.ev (Ev.refl w F) (fun _=> .inl) fun _ _ h=>h⟩;rintro (hb|⟨id',X',base',h1,h2,h3,h4⟩)
   ·exact hF hb
   ·obtain⟨h1,hmem⟩:=gu h1;have he:=st.inj id id' X X' b base base' h hX (hr _ _ h1) h2 hi h4;subst he;rcases List.mem_append.1 hmem with hm|hm
    ·exact h3 hm
    ·exact hni hm
 inj:=by
  intro id id' X X' b base base' h hX h' hX' hi hi';have hni:id∉ks:=fun hm=>by rw[qr hm]at h;simp at h;exact hX h.symm
  have hni':id'∉ks:=fun hm=>by rw[qr hm]at h';simp at h';exact hX' h'.symm
  rw[nW hni]at h;rw[nW hni']at h';exact st.inj id id' X X' b base base' h hX h' hX' hi hi'
theorem OY {C:m6} {f:FuncId} {args as:List V} {Hr:Hp} {dst:Nat} {d7:List Id} {bs bs':List B} {r:Oc} (hCon:b9 C f as bs r bs') (has:args.map (p5 (hq Hr d7 args r bs') d7 6)=as) (hbs:M6 (hq Hr d7 args r bs') d7 d7=bs)
  (hck:uM Hr dst d7 args r bs'=true)
  {w0:World} {L:Nat->Prop} {w:World} {F:Nat->Prop} {ι:Io} {H H':Hp} (st:St w0 L w F ι H) (hr:∀id b,Hr id=some b->H id=some b) {vs:Array Value} (hvs:RL w F ι args vs.toList)
  (hgl:∀g,RF w F (C.gl g) (gptr g)) (hd:∀id x,ι id=some x->H id≠none) (happ:A6 dst H (kl Hr d7 args r bs' (bH d7 dst 0 bs'))=some H'):
  Calls C.P f vs w fun e w'=>∃F2 ι2,Nx w0 L w F ι w' F2 ι2 H'/\ni w' F2 ι2 d7 dst r e:=by
 unfold uM at hck;unfold hq at has hbs;unfold kl at happ;cases hdir:nX Hr d7 args r bs'
 ·rw[hdir]at has hbs happ hck;simp only[Bool.and_true]at hck has hbs happ;refine OZ hCon has hbs ?_ st hr hvs hgl hd happ;rw[hck,Bool.true_and];unfold nX at hdir;rw[Bool.or_comm];simpa only[Bool.not_eq_false']using hdir
 ·rw[hdir]at has hbs happ hck;simp only[Bool.and_eq_true]at hck has hbs happ;obtain⟨⟨⟨⟨hnd,hno⟩,hsome⟩,s3⟩,⟨hdj,hnok⟩,_⟩:=hck;generalize mb Hr d7 args=ks at*
  have hnd:=oK hnd;have hno:=oJ hno;have hsome:=sx hsome;have s3:=Nat.le_of_ble_eq_true s3;have hdj:=Bf hdj;rw[yO (oJ hnok)]at happ;subst hbs;subst has
  let H1:=rs Hr (d7++ks)
  have hget:∀(k:Nat) (X:B),(M6 H1 d7 d7)[k]? =some X->∃id Y,d7[k]? =some id/\Hr id=some Y/\H id=some Y/\H1 id=some Y/\X=cK H1 d7 Y:=by
   intro k X hk;obtain⟨id,h1,h2⟩:=rz hk;have hmem:=List.mem_of_getElem? h1;obtain⟨Y,hY⟩:=hsome id hmem;have hY1:H1 id=some Y:=by rw[<-hY];exact a0a (List.mem_append_left _ hmem)
   rw[hY1]at h2;exact⟨id,Y,h1,hY,hr _ _ hY,hY1,h2⟩
  have hdm0:∀id x,Ik ι d7 id=some x->∃k,k<(M6 H1 d7 d7).length/\id= .k k:=by
   intro id x hx;cases id with
   |d=>simp[Ik]at hx
   |k k=>
    refine⟨k,?_,rfl⟩;rw[rC];rcases Nat.lt_or_ge k d7.length with h|h
    ·exact h
    ·simp[Ik,List.getElem?_eq_none h]at hx
  have hdomOf:∀{ι1:Io},(∀id x,ι1 id=some x->∃k,k<bs'.length/\id= .k k)->∀id x,ι1 id=some x->∃k,id= .k k/\I2 ι ι1 d7 dst bs'.length (B6 d7 dst k)=some x:=by
   intro ι1 h id x hx;obtain⟨k,hk,rfl⟩:=h id x hx;exact⟨k,rfl,by rw[dV hnd hno hk];exact hx⟩
  have st2:=St.frz st hr d7 ks;have M0:St w0 L w F ι (rs H (d7++ks)):=st.rs _;have hr1:∀id b,H1 id=some b->H1 id=some b:=fun _ _ h=>h;have st3:St w0 L w F ι H1:={
   os:=st.os,tape:=st.tape,output:=st.output,size:=st.size,old:=st.old,shp:=st.shp,fr:=st.fr
   own:=fun id X h hX=>st.own id X (hr _ _ (gu h).1) hX
   inj:=fun id id' X X' b base base' h hX h' hX' hi hi'=>st.inj id id' X X' b base base' (hr _ _ (gu h).1) hX (hr _ _ (gu h').1) hX' hi hi'}
  have sk:=St.keep st3 hr1 d7 hnd (bs:=M6 H1 d7 d7) fun k X hk hX=>by
   obtain⟨id,Y,h1,_,_,h2,h3⟩:=hget k X hk;exact⟨id,Y,h1,h2,h3⟩
  have hlive:∀(k:Nat) (X:B),(M6 H1 d7 d7)[k]? =some X->X≠ .dead->∃id Y,d7[k]? =some id/\eP H ks id=some Y/\Y≠ .dead:=by
   intro k X hk hX;obtain⟨id,Y,h1,_,h2,_,rfl⟩:=hget k X hk;refine⟨id,Y,h1,?_,by rintro rfl;exact hX rfl⟩;rw[nW fun hm=>hdj id hm (List.mem_of_getElem? h1)];exact h2
  have hd2:∀id x,ι id=some x->eP H ks id≠none:=by
   intro id x hx;by_cases hm:id∈ks
   ·rw[qr hm];simp
   ·rw[nW hm];exact hd id x hx
  refine Calls.mono (hCon.2 w (Fx F ι H1 d7) (Ik ι d7) vs (kb sk) (fun g=>(hgl g).mono fun _=> .inl) hdm0 (rx st3 hr1 d7 6 hvs)) ?_;rintro e w' ⟨F1,ι1,g1,g2,g3,st1,g5,g6⟩;have nx:=nJ st2 hd2 hnd hno s3 hlive happ st1 g3 g5 g1 g2 (fun b hb=>hb) (fun k X vs hk hB=>hB);refine⟨F1,_,⟨nx.st,⟨fun b hb=>nx.ev.fz b (.inl hb),nx.ev.shp⟩,fun b hb=>nx.fm b (.inl hb),fun b hb=> ?_,nx.im,nx.dm⟩,nj (hdomOf g5) (fun v x h _=>h) g6⟩;rcases nx.fn b hb with (h|⟨id,X,base,h1,h2,h3,h4⟩)|h
  ·exact .inl h
  ·obtain⟨b',base',hi',_,hL,_⟩:=(st.own id X (hr _ _ (gu h1).1) h2).resolve_left (by simp[h4]);rw[h4]at hi';simp only[Option.some.injEq,Prod.mk.injEq]at hi';obtain⟨rfl,rfl⟩:=hi';exact .inr hL
  ·exact .inr h
theorem OX {C:m6} {o:Oper} {ev:Operand->V} {Hr:Hp} {KN:KO} {KP:V->List (Id×B)->Prop} {c:Call} {g:Operand} {f:FuncId} {a b:List V} (ho:o.op= .call c) (hc:c.callee= .value g) (hg:ev g= .f (.func f) a b)
  (h:AF C f (a++c.args.toList.map ev++b) Hr (z6 o.dst) KN KP):A9 C o ev Hr KN KP:=by
 obtain⟨d7,as,bs,r,bs',hCon,has,hbs,hk⟩:=h;obtain⟨hck,hk⟩:=B0.1 hk;have key:∀(w0:World) (L:Nat->Prop) (w:World) (F:Nat->Prop) (ι:Io) (H H':Hp) (ac:Act),St w0 L w F ι H->(∀id b,Hr id=some b->H id=some b)->
   (∀x,x∈o.op.operands->R w F ι (ev x) (ac.eval x))->(∀g,RF w F (C.gl g) (gptr g))->(∀id x,ι id=some x->H id≠none)->A6 (z6 o.dst) H (kl Hr d7 (a++c.args.toList.map ev++b) r bs' (bH d7 (z6 o.dst) 0 bs'))=some H'->
   ∃vs:Array Value,(execOp ac.eval o).run C.P w= .ok (.enter f vs) w/\Calls C.P f vs w fun e w'=>∃F2 ι2,Nx w0 L w F ι w' F2 ι2 H'/\ni w' F2 ι2 d7 (z6 o.dst) r e:=by
  intro w0 L w F ι H H' ac st hr hx hgl hd happ;have h1:=hx g (by simp[ho,Op.operands,Call.operands,hc]);rw[hg]at h1;obtain⟨us,ws,he,hl1,hl2⟩:=h1.f_inv;have hl:RL w F ι (a++c.args.toList.map ev++b) (us++c.args.map ac.eval++ws).toList:=by
   rw[Array.toList_append,Array.toList_append,Array.toList_map];refine RL.append (RL.append hl1 (tn _ fun x hm=>hx x ?_)) hl2;simp[ho,Op.operands,Call.operands];exact .inr (by simpa using hm)
  refine⟨_,?_,OY hCon has hbs hck st hr hl hgl hd happ⟩;unfold execOp;simp[ho,resolve,hc,he,Deferred.ofValue,invoke,hCon.1]
 cases r with
 |ret v=>
  simp only[X8]at hk;refine .inl ⟨_,_,hk,fun w0 L w F ι H H' ac st hr hx hgl hd happ next Q hn=> ?_⟩;obtain⟨vs,hrun,hcalls⟩:=key w0 L w F ι H H' ac st hr hx hgl hd happ;unfold Oper.wp;rw[hrun];refine Calls.mono hcalls ?_;rintro e w' ⟨F2,ι2,hnx,x,rfl,hR⟩;exact hn x w' F2 ι2 hnx hR
 |pan v=>
  simp only[X8]at hk;refine .inr ⟨_,_,hk,fun w0 L w F ι H H' ac st hr hx hgl hd happ next Q hn=> ?_⟩;obtain⟨vs,hrun,hcalls⟩:=key w0 L w F ι H H' ac st hr hx hgl hd happ;unfold Oper.wp;rw[hrun];refine Calls.mono hcalls ?_;rintro e w' ⟨F2,ι2,hnx,x,rfl,hR⟩;exact hn x w' F2 ι2 hnx hR
end Go.Scr
namespace Go.Scr
theorem a31 (z:Value) (n:Nat):Y9 [z] n=List.replicate n z:=by
 unfold Y9;induction n with
 |zero=>rfl
 |succ n ih=>rw[List.replicate_succ,List.flatten_cons,ih];rfl
theorem a30 (zs:List Value) (n:Nat):(List.replicate n (zs.map V.s)).flatten=(Y9 zs n).map V.s:=by
 unfold Y9;induction n with
 |zero=>rfl
 |succ n ih=>rw[List.replicate_succ,List.flatten_cons,ih,List.replicate_succ,List.flatten_cons,List.map_append]
section
variable {C:m6} {ev:Operand->V} {Hr:Hp} {KN KP:V->List (Id×B)->Prop} {o:Oper}
theorem PI (hC:q6 C) {s d:Nat} {x:Operand} (ho:o.op= .convert s d x) (h:uO C s d Hr (z6 o.dst) (ev x) KN):A9 C o ev Hr KN KP:=by
 unfold uO at h;cases hs:C.ty s with
 |none=>simp[hs]at h
 |some ts=>
  cases hd:C.ty d with
  |none=>simp[hs,hd]at h
  |some td=>
   simp only[hs,hd]at h;cases htd:td.desc<;>simp only[htd]at h
   case int k=>
    split at h
    ·rename_i k' n hx;exact Pw hC ho hs hd htd hx h
    ·exact h.elim
   case string=>
    cases hts:ts.desc<;>simp only[hts]at h
    case slice e=>
     cases he:C.ty e with
     |none=>simp[he]at h
     |some te=>
      simp only[he]at h;split at h
      ·rename_i hte;exact Pv hC ho hs hd hts htd he hte h
      ·exact h.elim
    case string=>
     split at h
     ·rename_i b hx;exact Pz hC ho hs hd hts htd hx h
     ·exact h.elim
   case slice e=>
    cases he:C.ty e with
    |none=>simp[he]at h
    |some te=>
     simp only[he]at h;split at h
     ·rename_i hte;split at h
      ·rename_i b hx;exact Py hC ho hs hd htd he hte hx h.2
      ·rename_i k id off n hx;obtain⟨hck,h9⟩:=B0.1 h;clear h;simp only[Bool.and_eq_true]at hck;split at h9
       ·rename_i us hus;obtain rfl:=Nat.eq_of_beq_eq_true hck.1;exact Px hC ho hd htd he hte hx (Nat.lt_of_lt_of_le (Nat.succ_pos 0) (Nat.le_of_ble_eq_true hck.2)) hus h9
       ·exact h9.elim
      ·exact h.elim
     ·exact h.elim
theorem Il {el:Nat} {x:Operand} (ho:o.op= .box el x) (h:iX (ev x) fun cs=>KN (.p (.d (z6 o.dst) 0) 0) [(.d (z6 o.dst) 0,.mx cs)]):A9 C o ev Hr KN KP:=by
 obtain⟨cs,hk,hcs⟩:=pi h;exact zf ho (cs:=cs) (X:= .mx cs) (fun w F ι y hy=>hcs w F ι y hy) hk
theorem Pa (hC:q6 C) {c:Call} {x:Operand} {t:Nat} (ho:o.op= .call c) (hc:c.callee= .builtin .cap) (ha:c.args= #[x]) (hat:c.argTypes= #[t])
  (h:ah C t fun _ _=>match ev x with| .s (.slice none 0 0)=>KN (.s (.int .i64 0)) []|_=>False):A9 C o ev Hr KN KP:=by
 unfold ah at h;cases ht:C.ty t with
 |none=>simp[ht]at h
 |some ti=>
  have hu:=(hC.ty t ti ht).1;simp only[ht]at h;cases hd:ti.desc<;>simp only[hd]at h
  case slice el=>
   rw[hd]at hu;cases hel:C.ty el with
   |none=>simp[hel]at h
   |some te=>
    simp only[hel]at h;split at h
    ·rename_i hx;refine .inl ⟨_,_,h,F6 fun w0 L w F ι H a st hr hR=>⟨.int .i64 0,?_,.sc⟩⟩;have r:=hR x (by simp[ho,Op.operands,Call.operands,hc,ha]);rw[hx]at r;have e:=r.s_inv;unfold execOp;simp[ho,resolve,hc,ha,hat,invoke,builtin,Builtin.cap_,e,run_underlying hu,goInt]
    ·exact h.elim
theorem a1o {P:Program} (w:World) (t u ty e:TypeId) (i:TypeInfo) (z:Value) {ku k:IntKind} (ht:P.underlying t=some (.slice e)) (hu:P.underlying u=some (.int ku)) (hi:P.info? e=some i) (hz:i.zero=some z) (hs:i.size=1) (hb:i.bytes<=4096) (n:Int) (h0:0<n) (hn:n<=1073741824):
  (Builtin.append_ #[t,u] ty #[.slice none 0 0,.int k n]).run P w=
   .ok (.slice (some ⟨w.heap.size,0,none⟩) n.toNat (grownCap w n.toNat 0 e)) (w.drew.alloc (.cells (Builtin.zeroCells z.cells n.toNat++Builtin.zeroCells z.cells (grownCap w n.toNat 0 e-n.toNat)) e)):=by
 have hw:IntKind.i64.wrap n=n:=IntWalk.i64_in n (by omega);have hneg:¬n<0:=by omega
 have hle:¬n<=0:=by omega
 have hbytes:¬(281474976710656<n*(i.bytes:Int)):=by
  have:n*(i.bytes:Int)<=1073741824*4096:=Int.mul_le_mul hn (by omega) (by omega) (by omega);omega
 have hcap:¬(281474976710656<Builtin.nextslicecap n.toNat 0*i.bytes):=by
  have h1:=Dr (n:=n.toNat) (c:=0) (by omega);have h2:Builtin.nextslicecap n.toNat 0*i.bytes<=(2*n.toNat+192)*4096:=Nat.mul_le_mul h1 hb;omega
 have h63:¬(9223372036854775807<max n 0):=by omega
 have hf:(Builtin.firstCells 1 0 (.slice none 0 0)).run P w.drew= .ok #[] w.drew:=run_firstCells_none w.drew _ _ _ _;simp[Builtin.append_,run_underlying ht,run_underlying hu,sizeOf,typeInfo,zeroValue,hi,hz,asInt,asIntOf,hw,hneg,hbytes,hle,hs,h63,hcap,Question.forced,hf,newRow,grownCap]
theorem HM (hC:q6 C) {c:Call} {s x:Operand} {t u:Nat} {tu:TI} {ku:IntKind} (ho:o.op= .call c) (hc:c.callee= .builtin .append) (ha:c.args= #[s,x]) (hat:c.argTypes= #[t,u]) (hu:C.ty u=some tu) (hku:tu.desc= .int ku)
  (h:ah C t fun _ te=>w6 (Nat.beq te.size 1&&Nat.ble te.bytes 4096) (match ev s,ev x with
    | .s (.slice none 0 0),.s (.int _ n)=>0<n/\n<=1073741824/\∃z,te.zero=[z]/\fN te.size fun sz=>KN (.o sz (.d (z6 o.dst) 0) 0 n.toNat) [(.d (z6 o.dst) 0,.sc (List.replicate n.toNat z))]
    | .o e id off m,.s (.int _ n)=>w6 (Nat.beq e 1) (match Hr id with
     |some (.sc us)=>0<=n/\n<=1073741824/\m+n.toNat<=1073741824/\off+m*e<=us.length/\∃z,te.zero=[z]/\KN (.o e (.d (z6 o.dst) 0) 0 (m+n.toNat)) [(id,.dead),(.d (z6 o.dst) 0,.sc (sub us off (m*e)++List.replicate n.toNat z))]
     |_=>False)
    |_,_=>False)):A9 C o ev Hr KN KP:=by
 have huu:=(hC.ty u tu hu).1;rw[hku]at huu;unfold ah at h;cases ht:C.ty t with
 |none=>simp[ht]at h
 |some ti=>
  have hut:=(hC.ty t ti ht).1;simp only[ht]at h;cases hd:ti.desc<;>simp only[hd]at h
  case slice el=>
   rw[hd]at hut;cases hel:C.ty el with
   |none=>simp[hel]at h
   |some te=>
    simp only[hel]at h;obtain⟨hb,h⟩:=B0.1 h;simp only[Bool.and_eq_true]at hb;have hs1:=Nat.eq_of_beq_eq_true hb.1;have hb2:=Nat.le_of_ble_eq_true hb.2;split at h
    ·rename_i k n hs hx;obtain⟨h0,hn,z0,hz0,hk⟩:=h;rw[bN]at hk;obtain⟨_,i,z,hi,hsz,hby,hz,hzc,hzl,hz1⟩:=hC.ty el te hel;refine .inl ⟨_,_,hk,mN fun w0 L w F ι H a st hr hR=> ?_⟩;have r1:=hR s (by simp[ho,Op.operands,Call.operands,hc,ha]);have r2:=hR x (by simp[ho,Op.operands,Call.operands,hc,ha]);rw[hs]at r1;rw[hx]at r2;have e1:=r1.s_inv;have e2:=r2.s_inv;have hzc':z.cells= #[z0]:=by
      apply Array.ext';rw[hzc,hz0]
     have hz01:z0.oneCell'=true:=by simpa [hz0]using hz1
     have hrun:=a1o (P:=C.P) (k:=k) w t u o.type el i z hut huu hi hz (by rw[hsz,hs1]) (by rw[hby];exact hb2) n h0 hn;rw[hzc']at hrun;have hcap:n.toNat<=grownCap w n.toNat 0 el:=by simp[grownCap,Question.cut]
     refine⟨w.drew,Builtin.zeroCells #[z0] n.toNat++Builtin.zeroCells #[z0] (grownCap w n.toNat 0 el-n.toNat),el,(0,0),.slice (some ⟨w.heap.size,0,none⟩) n.toNat (grownCap w n.toNat 0 el),List.replicate n.toNat z0,.inr rfl,jk ho hc ha hat a (by rw[e1,e2];exact hrun),?_,?_,rfl,?_⟩
     ·exact .inl rfl
     ·intro j y hy;have d8:=(List.getElem?_eq_some_iff.1 hy).1;rw[pm,pm,Array.getElem?_append_left (by simpa using d8)];refine⟨by rw[<-hy,List.getElem?_toArray],?_⟩;have:=List.mem_of_getElem? hy;rw[List.mem_replicate]at this;rw[this.2];exact hz01
     ·intro w' ι' hh hi';have:=R.o (w:=w') (F:=F) (e:=te.size) (off:=0) (n:=n.toNat) (cap:=grownCap w n.toNat 0 el) hi' hcap ⟨_,el,(0,0),hh,by simp[pm,hs1];omega⟩;simpa using this
    ·rename_i e id off m k n hs hx;obtain⟨he,h2⟩:=B0.1 h;have he1:=Nat.eq_of_beq_eq_true he;subst he1;split at h2
     ·rename_i us hH;obtain⟨h0,hn,hmn,s3,z0,hz0,hk⟩:=h2;obtain⟨_,i,z,hi,hsz,hby,hz,hzc,hzl,hz1⟩:=hC.ty el te hel;have hzc':z.cells= #[z0]:=by
       apply Array.ext';rw[hzc,hz0]
      have hz01:z0.oneCell'=true:=by simpa [hz0]using hz1
      have hnn:((n.toNat:Nat):Int)=n:=Int.toNat_of_nonneg h0;refine dY (src:= .sc n.toNat (List.replicate n.toNat z0)) (X:= .sc us) (Z:= .sc (us.drop off)) (Y:= .sc (sub us off (m*te.size)++List.replicate n.toNat z0)) hC ho hc ha hat hut hel hb2 (by rw[hs,hs1]) hH (by simp) ?_ (by simpa [Src.n]using hmn) (by rw[hs1];exact s3) (fun w F ι v hB=>by obtain rfl:us=v:=hB;rfl) (by simp)
       (fun w F ι ι' v nw him hB hN=>by obtain rfl:us=v:=hB;obtain rfl:List.replicate n.toNat z0=nw:=hN;rfl) ?_ (by rw[hs1];exact hk)
      ·intro w0 L w F ι H y st hr r;rw[hx]at r;have e2:=r.s_inv;subst e2;refine⟨n.toNat,List.replicate n.toNat z0,⟨rfl,rfl⟩,?_⟩;have:=ay.made (P:=C.P) (el:=el) (size:=te.size) (u:=u) (k:=k) (n:=n.toNat) (w:=w) huu hi hz hs1 (by rw[hby];exact hb2) hzc' hz01 (by omega);rw[hnn]at this;exact this
      ·rw[hs1,Nat.mul_one]at*
       simp[B.len,sub,Src.b];omega
     ·exact h2.elim
    ·exact h.elim
theorem Ir (hC:q6 C) {c:Call} {b:Builtin} (ho:o.op= .call c) (hc:c.callee= .builtin b) (h:uc C ev Hr (z6 o.dst) b c.args.toList c.argTypes.toList KN):A9 C o ev Hr KN KP:=by
 have arr:∀{α:Type} {a:Array α} {l:List α},a.toList=l->a=l.toArray:=fun h=>by rw[<-h]
 unfold uc at h;split at h
 ·rename_i x t hargs htys;have hargs:=arr hargs;have htys:=arr htys;cases ht:C.ty t with
  |none=>simp[ht]at h
  |some ti=>
   simp only[ht]at h;cases hd:ti.desc<;>simp only[hd]at h
   case string=>
    split at h
    ·rename_i b hx;exact WR hC ho hc hargs (by simp[htys]) ht hd hx h
    ·exact h.elim
   case slice el=>exact WS hC ho hc hargs (by simp[htys]) ht hd h
 ·rename_i s x t u hargs htys;have hargs:=arr hargs;have htys:=arr htys;cases hu:C.ty u with
  |none=>simp[hu]at h
  |some tu=>
   simp only[hu]at h;split at h
   ·rename_i k hk;exact HM hC ho hc hargs htys hu hk h
   ·exact HP hC ho hc hargs htys h
 ·rename_i x t hargs htys;exact Pa hC ho hc (arr hargs) (arr htys) h
 ·rename_i hargs htys;exact PJ hC ho hc (arr hargs) (arr htys) h
 ·rename_i hargs;split at h
  ·rename_i hx hy;exact Xh ho hc (arr hargs) hx hy h
  ·exact h.elim
 ·rename_i hargs;split at h
  ·rename_i hx hy hz;exact Xi ho hc (arr hargs) hx hy hz h
  ·exact h.elim
 ·exact h.elim
theorem XO (hC:q6 C) (h:oN C ev Hr (z6 o.dst) o.op KN KP):A9 C o ev Hr KN KP:=by
 unfold oN at h;split at h
 ·rename_i x ho;rw[X8]at h;exact Dp (.inl ho) h
 ·rename_i x ho;rw[X8]at h;exact Dp (.inr ho) h
 ·rename_i c a b ho;split at h
  ·rename_i t hc;simp only[X8]at h;refine Ye ho hc ?_;rcases sy.1 h with ⟨ht,h⟩|⟨ht,h⟩<;>simpa [ht]using h
  ·exact h.elim
 ·rename_i el ho;split at h
  ·rename_i ti ht;exact HD hC ho ht h
  ·exact h.elim
 ·rename_i el x ho;split at h
  ·rename_i y hx;obtain⟨h1,h⟩:=B0.1 h;refine zf (X:= .sc [y]) (cs:=[]) ho (fun w F ι z hz=> ?_) h;rw[hx]at hz;obtain rfl:=hz.s_inv;rw[wH h1];exact⟨rfl,by simpa using h1⟩
  ·exact Il ho h
 ·rename_i t ps ho;split at h
  ·rename_i ti ht;split at h
   ·rename_i fs hd;obtain⟨hall,h⟩:=B0.1 h;simp only[qD,ol]at h;exact Ip hC ho ht hd hall h
   ·rename_i n el hd;simp only[qD,ol]at h;exact Im hC ho ht hd h
   ·exact h.elim
  ·exact h.elim
 ·rename_i t len ps ho;simp only[qD,ol,If,bN]at h;exact Iq hC ho h
 ·rename_i t x ho;simp only[X8]at h;exact WZ hC ho h
 ·rename_i t x v ho;simp only[X8,bp,bN]at h;split at h
  ·rename_i ti ht;obtain⟨h1,h⟩:=B0.1 h;exact a1L hC ho h fun ti' ht'=>by
    rw[ht]at ht';simp only[Option.some.injEq]at ht';subst ht';exact Nat.le_of_ble_eq_true h1
  ·exact h.elim
 ·rename_i x ho;split at h
  ·rename_i hx;exact rO ho (.inl ⟨_,_,hx⟩) (hx▸h)
  ·rename_i hx;exact rO ho (.inr (.inl ⟨_,_,hx⟩)) (hx▸h)
  ·rename_i hx;exact rO ho (.inr (.inr (.inl ⟨_,_,hx⟩))) (hx▸h)
  ·rename_i hx;exact rO ho (.inr (.inr (.inr ⟨_,_,_,hx⟩))) (hx▸h)
  ·exact h.elim
 ·rename_i ho;exact HX hC ho h
 ·rename_i op t x ho;split at h
  ·rename_i b hx;split at h
   ·exact a3y ho hx h
   ·exact h.elim
  ·rename_i k n hx;split at h
   ·exact a3x ho hx h
   ·exact h.elim
  ·exact h.elim
 ·rename_i ho;exact PI hC ho h
 ·rename_i t x ho;split at h
  ·rename_i ti ht;split at h
   ·exact h.elim
   ·rename_i hd;rw[X8]at h;exact Xd hC ho ht hd h
  ·exact h.elim
 ·rename_i fn a b ho;simp only[vg]at h;exact Xc ho h
 ·rename_i t l c ho;unfold ah at h;cases ht:C.ty t with
  |none=>simp[ht]at h
  |some ti=>
   simp only[ht]at h;cases hd:ti.desc<;>simp only[hd]at h
   case slice el=>
    cases hel:C.ty el with
    |none=>simp[hel]at h
    |some te=>
     simp only[hel]at h;obtain⟨hb,h⟩:=B0.1 h;split at h
     ·rename_i k1 n1 k2 n2 hl hc;obtain⟨h0,h1,h2,h⟩:=h;rw[bN]at h;refine Xe hC ho ht hd hel (Nat.le_of_ble_eq_true hb) hl hc h0 h1 h2 ?_ h;intro w F ι;have one:BR w F ι (match te.zero with|[z]=> .sc (List.replicate n1.toNat z)|_=> .dead) (Y9 te.zero n1.toNat):=by
       split
       ·rename_i z hz;rw[hz,a31];exact rfl
       ·trivial
      have pl:BR w F ι (.pl ((List.replicate n1.toNat (te.zero.map .s)).flatten)) (Y9 te.zero n1.toNat):=by
       rw[a30];exact n7.maps _
      split<;>first|exact one|exact pl
     ·exact h.elim
 ·rename_i t x lo hi mx ho;simp only[X8]at h;exact a1A hC ho h
 ·rename_i ho;exact VU hC ho h
 ·rename_i t x f ho;simp only[X8]at h;exact VV hC ho h
 ·rename_i ho;exact Wu hC ho h
 ·rename_i t x i ho;split at h
  ·rename_i k n hi;cases ht:C.ty t with
   |none=>simp[ht]at h
   |some ti=>
    simp only[ht]at h;cases hd:ti.desc<;>simp only[hd]at h
    case string=>
     split at h
     ·rename_i b hx;obtain⟨h0,h1,y,hy,h⟩:=h;exact Wv hC ho hi ht hd hx h0 h1 hy h
     ·exact h.elim
    case array m el=>
     split at h
     ·rename_i cs hx;simp only[X8]at h;exact Wt hC ho hi ht hd hx h
     ·exact h.elim
  ·exact h.elim
 ·rename_i x i ho;split at h
  ·rename_i vs hx;split at h
   ·rename_i v hv;rw[X8]at h;exact Ql ho hx hv h
   ·exact h.elim
  ·exact h.elim
 ·rename_i x ho;split at h
  ·rename_i t v hx;exact XV ho hx h
  ·exact h.elim
 ·rename_i c ho;split at h
  ·rename_i b hc;exact Ir hC ho hc h
  ·rename_i g hc;split at h
   ·rename_i f a b hg;simp only[vg]at h;exact OX ho hc hg h
   ·exact h.elim
  ·exact h.elim
 ·exact h.elim
end
end Go.Scr
namespace Go.Scr
structure B1 (C:m6) (N:Nat) (ds:List Deferred) (w0:World) (L F0:Nat->Prop) (ι0:Io) (F:Nat->Prop) (ι:Io) (T:Nat->V) (H:Hp) (a:Act) (w:World):Prop where
 st:St w0 L w F ι H
 f0:∀b,F0 b->F b
 fn:∀b,F b->F0 b\/L b\/w0.heap.size<=b
 im:∀id x,ι0 id=some x->ι id=some x
 dm:∀id x,ι id=some x->H id≠none
 n:a.tmps.size=N
 df:a.defers=ds
 sl:∀j,R w F ι (T j) (a.tmps.getD j undef)
 gl:∀g,RF w F (C.gl g) (gptr g)
def bX (T:Nat->V) (d:Option Nat) (v:V):Nat->V:=
 match d with
 |some d=>up T d v
 |none=>T
theorem wO (T:Nat->V) (d:Option Nat) (v:V) (K:(Nat->V)->Prop):mB T d v K=K (bX T d v):=by cases d<;>rfl
theorem xW {α:Type} (f:Nat->α) (i:Nat) (x:α):up f i x i=x:=by simp[up]
theorem xV {α:Type} (f:Nat->α) {i j:Nat} (x:α) (h:i≠j):up f i x j=f j:=by
 unfold up;cases hb:Nat.beq i j
 ·rfl
 ·exact absurd (Nat.eq_of_beq_eq_true hb) h
theorem sM {T:Nat->V} {d:Nat} {v:V} (h:T d=v):up T d v=T:=by
 funext j;by_cases he:d=j
 ·subst he;rw[xW,h]
 ·rw[xV _ _ he]
def qn (N:Nat) (d:Option Nat):Bool:=match d with
 |some d=>Nat.blt d N
 |none=>true
section
variable {C:m6} {N:Nat} {ds:List Deferred} {w0:World} {L F0:Nat->Prop} {ι0:Io} {F:Nat->Prop} {ι:Io} {T:Nat->V} {H:Hp} {a:Act} {w:World}
theorem B1.nx (h:B1 C N ds w0 L F0 ι0 F ι T H a w) {w':World} {F':Nat->Prop} {ι':Io} {H':Hp} (k:Nx w0 L w F ι w' F' ι' H'):B1 C N ds w0 L F0 ι0 F' ι' T H' a w' where
 st:=k.st
 f0:=fun b hb=>k.fm b (h.f0 b hb)
 fn:=fun b hb=>(k.fn b hb).elim (h.fn b) .inr
 im:=fun id x hx=>k.im id x (h.im id x hx)
 dm:=k.dm
 n:=h.n
 df:=h.df
 sl:=fun j=>R.ev k.ev k.fm k.im (h.sl j)
 gl:=fun g=>RF.ev k.ev k.fm (h.gl g)
theorem B1.put (h:B1 C N ds w0 L F0 ι0 F ι T H a w) {d:Option Nat} (hd:qn N d=true) {v:V} {x:Value} (hx:R w F ι v x):B1 C N ds w0 L F0 ι0 F ι (bX T d v) H (a.put d x) w:=by
 cases d with
 |none=>exact h
 |some d=>
  have hd:d<N:=Nat.le_of_ble_eq_true hd;exact{h with
   n:=by simpa [Act.put]using h.n
   df:=h.df
   sl:=fun j=>by
    simp only[bX,Act.put];by_cases he:d=j
    ·subst he;rw[xW];have d8:d<a.tmps.size:=by rw[h.n];exact hd
     simpa [d8]using hx
    ·rw[xV _ _ he];have:=h.sl j;simpa [Array.getElem?_setIfInBounds_ne he]using this}
theorem AR (v:Value):R w F ι (cv v) v:=by
 unfold cv;split
 ·exact .a (RL.maps _)
 ·exact .t (RL.maps _)
 ·exact .sc
theorem B1.ev (h:B1 C N ds w0 L F0 ι0 F ι T H a w) (x:Operand):R w F ι (dC C T x) (a.eval x):=by
 cases x with
 |tmp t=>exact h.sl t
 |const v=>exact AR v
 |global g=>exact .fz (h.gl g)
 |func f=>exact .f .nil .nil
def ia (ops:List Oper) (T:Nat->V) (o:Oper):Option Bool:=
 match o.guard with
 |none=>some true
 |some (j,want)=>match ops[j]? with
  |none=>none
  |some g=>match g.dst with
   |none=>none
   |some d=>match T d with
    | .s (.bool b)=>some (b==want)
    | .t _=>some false
    |_=>none
theorem ra {ops:Array Oper} {o:Oper} {b:Bool} (hs:∀j,(∃w' wt,o.guard=some (w',wt)/\(ops.toList[w']?).bind (·.dst)=some j)->R w F ι (T j) (a.tmps.getD j undef)) (h:ia ops.toList T o=some b):Region.wanted o (yielded ops a.tmps)=b:=by
 unfold ia at h;unfold Region.wanted;cases hg:o.guard with
 |none=>simp only[hg,Option.some.injEq]at h;simpa using h
 |some jw=>
  obtain⟨j,want⟩:=jw;simp only[hg]at h ⊢;split at h
  ·cases h
  ·rename_i g hj;split at h
   ·cases h
   ·rename_i d hd;split at h
    ·rename_i c hT;simp only[Option.some.injEq]at h;subst h;have h1:=hs d ⟨j,want,hg,by simp[hj,hd]⟩;rw[hT]at h1;have h2:=h1.s_inv;have hj':ops[j]? =some g:=by simpa using hj
     have h3:a.tmps[d]? =some (.bool c):=by
      cases h4:a.tmps[d]? with
      |none=>simp[h4,undef]at h2
      |some x=>simp[h4]at h2;rw[h2]
     unfold yielded;simp only[hj',Option.bind_some,hd,h3];cases c<;>cases want<;>rfl
    ·rename_i l hT;simp only[Option.some.injEq]at h;subst h;have h1:=hs d ⟨j,want,hg,by simp[hj,hd]⟩;rw[hT]at h1;obtain⟨vs,h2⟩:∃vs,a.tmps.getD d undef= .tuple vs:=by
      generalize a.tmps.getD d undef=q at h1;cases h1 with
      |fz h=>cases h;exact⟨_,rfl⟩
      |t _=>exact⟨_,rfl⟩
     have hj':ops[j]? =some g:=by simpa using hj
     unfold yielded;simp only[hj',Option.bind_some,hd];cases h4:a.tmps[d]? with
     |none=>cases want<;>rfl
     |some x=>simp[h4]at h2;rw[h2];cases want<;>rfl
    ·cases h
theorem EQ {ops:List Oper} {Hr:Hp} {ck:List (Id×B)->Bool} {o:Oper} {K:(Nat->V)->Hp->Prop} {KP:V->(Nat->V)->Hp->Prop} (hC:q6 C) (h:jP C ops Hr ck o T H K KP):
  (ia ops T o=some false/\K (bX T o.dst (.t [])) H)\/
  (ia ops T o=some true/\((∃v hs H',Sm C o (dC C T) Hr v hs/\ck hs=true/\A6 (z6 o.dst) H hs=some H'/\K (bX T o.dst v) H')\/
   (∃v hs H',tw C o (dC C T) Hr v hs/\A6 (z6 o.dst) H hs=some H'/\KP v T H'))):=by
 have go:oN C (dC C T) Hr (z6 o.dst) o.op (fun v hs=>w6 (ck hs) (dv (z6 o.dst) H hs fun H=>mB T o.dst v fun T=>K T H)) (fun v hs=>dv (z6 o.dst) H hs fun H=>KP v T H)->
   ((∃v hs H',Sm C o (dC C T) Hr v hs/\ck hs=true/\A6 (z6 o.dst) H hs=some H'/\K (bX T o.dst v) H')\/
   (∃v hs H',tw C o (dC C T) Hr v hs/\A6 (z6 o.dst) H hs=some H'/\KP v T H')):=by
  intro h;rcases XO hC h with ⟨v,hs,h,hsm⟩|⟨v,hs,h,hsm⟩
  ·obtain⟨h0,h⟩:=B0.1 h;obtain⟨H',h1,h2⟩:=(pB _ _ _ _).1 h;rw[wO]at h2;exact .inl ⟨v,hs,H',hsm,h0,h1,h2⟩
  ·obtain⟨H',h1,h2⟩:=(pB _ _ _ _).1 h;exact .inr ⟨v,hs,H',hsm,h1,h2⟩
 unfold jP at h;unfold ia;cases hg:o.guard with
 |none=>simp only[hg]at h;exact .inr ⟨rfl,go h⟩
 |some jw=>
  obtain⟨j,want⟩:=jw;simp only[hg]at h ⊢;cases hj:ops[j]? with
  |none=>simp[hj]at h
  |some g=>
   simp only[hj]at h ⊢;cases hd:g.dst with
   |none=>simp[hd]at h
   |some d=>
    simp only[hd]at h ⊢;split at h
    ·rename_i b hT;rw[hT];simp only[wO]at h go;cases want
     ·rcases sy.1 h with ⟨rfl,h⟩|⟨rfl,h⟩
      ·rw[sM hT]at h;exact .inl ⟨rfl,h⟩
      ·rw[sM hT]at h;exact .inr ⟨rfl,go h⟩
     ·rcases sy.1 h with ⟨rfl,h⟩|⟨rfl,h⟩
      ·rw[sM hT]at h;exact .inr ⟨rfl,go h⟩
      ·rw[sM hT]at h;exact .inl ⟨rfl,h⟩
    ·rename_i l hT;rw[hT];simp only[wO]at h;exact .inl ⟨rfl,h⟩
    ·exact h.elim
def M3 (C:m6) (N:Nat) (ds:List Deferred) (w0:World) (L F0:Nat->Prop) (ι0:Io) (K:X->S->Prop) (e:Exit) (a:Act) (w:World):Prop:=
 ∃(x:X) (s:S) (F:Nat->Prop) (ι:Io),K x s/\B1 C N ds w0 L F0 ι0 F ι s.T s.H a w/\match x with
  | .normal=>e= .normal
  | .exit id=>e= .exit id
  | .goto l=>e= .goto l
  | .ret=>e= .ret
  | .pan v=>∃y,e= .panic [{v:=y,recovered:=false}]/\R w F ι v y
theorem ER {ops:Array Oper} {o:Oper} {K:(Nat->V)->Hp->Prop} {KP:V->(Nat->V)->Hp->Prop} {ck:List (Id×B)->Bool} {next:Act->World->Prop} {Q:Exit->Act->World->Prop} (hC:q6 C)
  (h:jP C ops.toList H ck o T H K KP) (hr:B1 C N ds w0 L F0 ι0 F ι T H a w) (hd:qn N o.dst=true)
  (hn:∀T' H' F' ι' a' w',K T' H'->B1 C N ds w0 L F0 ι0 F' ι' T' H' a' w'->next a' w')
  (hq:∀v x T' H' F' ι' a' w',KP v T' H'->B1 C N ds w0 L F0 ι0 F' ι' T' H' a' w'->R w' F' ι' v x->Q (.panic [{v:=x,recovered:=false}]) a' w'):
  if Region.wanted o (yielded ops a.tmps)then o.wp C.P a w next Q\/(o.asks C.P a w/\LetsOut Q)else next (a.put o.dst undef) w:=by
 rcases EQ hC h with ⟨hg,hk⟩|⟨hg,⟨v,hs,H',hsm,_,happ,hk⟩|⟨v,hs,H',hsm,happ,hk⟩⟩
 ·rw[ra (fun j _=>hr.sl j) hg];simp only[Bool.false_eq_true,if_false];exact hn _ _ _ _ _ _ hk (hr.put hd (.t .nil))
 ·rw[ra (fun j _=>hr.sl j) hg];simp only[if_true];refine .inl (hsm w0 L w F ι H H' a hr.st (fun _ _ h=>h) (fun x _=>hr.ev x) hr.gl hr.dm happ next Q ?_);intro x w' F' ι' hnx hR;exact hn _ _ _ _ _ _ hk ((hr.nx hnx).put hd hR)
 ·rw[ra (fun j _=>hr.sl j) hg];simp only[if_true];refine .inl (hsm w0 L w F ι H H' a hr.st (fun _ _ h=>h) (fun x _=>hr.ev x) hr.gl hr.dm happ next Q ?_);intro x w' F' ι' hnx hR;exact hq _ _ _ _ _ _ _ _ hk (hr.nx hnx) hR
def gg (N:Nat):List Oper->Bool
 |[]=>true
 |o::r=>qn N o.dst&&gg N r
theorem DJ {ops:Array Oper} {K:X->S->Prop} (hC:q6 C):∀(l:List Oper) {F:Nat->Prop} {ι:Io} {T:Nat->V} {H:Hp} {a:Act} {w:World},gg N l=true->
  gh C ops.toList l T H (fun T H=>K .normal ⟨T,H⟩) (fun v T H=>K (.pan v) ⟨T,H⟩)->B1 C N ds w0 L F0 ι0 F ι T H a w->wpList C.P ops (M3 C N ds w0 L F0 ι0 K) l a w
 |[],F,ι,T,H,a,w,_,h,hr=>⟨.normal,⟨T,H⟩,F,ι,h,hr,rfl⟩
 |o::r,F,ι,T,H,a,w,hok,h,hr=>by
  simp only[gg,Bool.and_eq_true]at hok;rw[DI]at h;unfold wpList;refine ER hC h hr hok.1 ?_ ?_
  ·intro T' H' F' ι' a' w' hk hr';exact DJ hC r hok.2 hk hr'
  ·intro v x T' H' F' ι' a' w' hk hr' hR;exact⟨.pan v,⟨T',H'⟩,F',ι',hk,hr',x,rfl,hR⟩
end
end Go.Scr
namespace Go.Scr
def oX (ops:List Oper) (o:Oper):List Nat:=
 (o.op.operands.toList.filterMap fun x=>match x with| .tmp t=>some t|_=>none)++(match o.guard with
  |some (g,_)=>match (ops[g]?).bind (·.dst)with|some d=>[d]|none=>[]
  |none=>[])
def a4d (l:List Nat) (x:Nat):Bool:=O8 l x
theorem W8:∀{l:List Nat} {x:Nat},O8 l x=true↔x∈l
 |[],x=>by simp[O8]
 |a::r,x=>by
  unfold O8;cases hb:Nat.beq a x
  ·have hne:a≠x:=Nat.ne_of_beq_eq_false hb;simp[W8 (l:=r),Ne.symm hne]
  ·simp[Nat.eq_of_beq_eq_true hb]
def aA (is:List C1) (k:Nat):List Nat:=match is[k]? with|some i=>i.anc|none=>[]
def Bl (is:List C1) (k:Nat):Bool:=match is[k]? with|some i=>i.ex|none=>false
def eR (ops:List Oper) (k:Nat):Option Nat:=match ops[k]? with|some o=>o.dst|none=>none
def jE (d:Option Nat) (t:Nat):Bool:=match d with|some e=>Nat.beq e t|none=>false
def GY (is:List C1) (k:Nat):Option (List Nat):=match is[k]? with|some i=>i.xl|none=>none
def CT (ops:List Oper) (i:Nat) (o:Oper) (f:C1) (l:List Nat):Bool:=match o.op with
 | .load _ (.tmp p)=>O8 l p&& !jE o.dst p&&(List.range ops.length).all fun w=>Nat.beq w i|| !jE (eR ops w) p||O8 f.anc w
 |_=>false
def CR (ops:List Oper) (o:Oper) (l:List Nat):Bool:=match o.op with
 | .load _ (.tmp p)=>O8 l p&&(List.range ops.length).all fun w=> !jE (eR ops w) p
 |_=>false
def Hd (is:List C1) (k:Nat):List Nat:=match is[k]? with|some i=>i.xs|none=>[]
def rT (ops:List Oper) (is:List C1) (i:Nat) (o:Oper) (f:C1):Bool:=
 (o.after.toList.all fun e=> !Region.binds .any e||Nat.blt e.on i)&&
 (f.anc.all fun j=>o.after.toList.any fun e=>Region.binds .any e&&(Nat.beq e.on j||O8 (aA is e.on) j))&&
 (f.anc.all fun j=>Nat.blt j i)&&
 ((List.range ops.length).all fun k=>Nat.beq k i||
  ((match o.dst with|some d=> !jE (eR ops k) d|none=>true)&&
   ((oX ops o).all fun t=> !jE (eR ops k) t||(O8 f.anc k||O8 (aA is k) i))&&
   (!f.look||((match eR ops k with|some d=>O8 f.anc k||O8 f.hide d|none=>true)&&(!Bl is k||(O8 f.anc k||O8 (aA is k) i))&&((Hd is k).all fun d=>O8 f.anc k||O8 (aA is k) i||O8 f.hide d)&&(match GY is k with|some l=>O8 f.anc k||O8 (aA is k) i||((Nat.blt i k&&CT ops i o f l)||(Nat.blt k i&&CR ops o l))|none=>true)))))&&
 (!f.ex||f.look)
def ji (ops:List Oper) (is:List C1):Nat->List Oper->List C1->Bool
 |_,[],[]=>true
 |i,o::r,f::fs=>rT ops is i o f&&ji ops is (i+1) r fs
 |_,_,_=>false
def si (N:Nat) (ops:List Oper) (is:List C1):Bool:=ji ops is 0 ops is&&gg N ops
theorem yM {ops:List Oper} {is:List C1}:∀{l:List Oper} {fs:List C1} {k:Nat},ji ops is k l fs=true->∀{i:Nat} {o:Oper},l[i]? =some o->∃f,fs[i]? =some f/\rT ops is (k+i) o f=true
 |[],[],k,_,i,o,h=>by simp at h
 |[],_::_,k,h,_,_,_=>by simp[ji]at h
 |_::_,[],k,h,_,_,_=>by simp[ji]at h
 |o::r,f::fs,k,h,0,o',ho=>by
  simp only[ji,Bool.and_eq_true]at h;simp at ho;subst ho;exact⟨f,by simp,by simpa using h.1⟩
 |o::r,f::fs,k,h,i+1,o',ho=>by
  simp only[ji,Bool.and_eq_true]at h;obtain⟨g,hg,hh⟩:=yM h.2 (i:=i) (o:=o') (by simpa using ho);exact⟨g,by simpa using hg,by rw[show k+(i+1)=k+1+i by omega];exact hh⟩
theorem wI {N:Nat}:∀{l:List Oper},gg N l=true->∀{i:Nat} {o:Oper},l[i]? =some o->qn N o.dst=true
 |[],_,i,o,h=>by simp at h
 |o::r,h,0,o',ho=>by simp only[gg,Bool.and_eq_true]at h;simp at ho;subst ho;exact h.1
 |o::r,h,i+1,o',ho=>by simp only[gg,Bool.and_eq_true]at h;exact wI h.2 (by simpa using ho)
structure yi (ops:List Oper) (is:List C1) (i:Nat) (o:Oper) (f:C1):Prop where
 edge:∀e∈o.after,Region.binds .any e=true->e.on<i
 anc:∀j∈f.anc,∃e∈o.after,Region.binds .any e=true/\(e.on=j\/j∈aA is e.on)
 lt:∀j∈f.anc,j<i
 ne:∀k ok d,k≠i->ops[k]? =some ok->o.dst=some d->ok.dst≠some d
 sl:∀k ok t,k≠i->ops[k]? =some ok->t∈oX ops o->ok.dst=some t->k∈f.anc\/i∈aA is k
 hide:∀k ok d,k≠i->ops[k]? =some ok->f.look=true->ok.dst=some d->k∈f.anc\/d∈f.hide
 ex:∀k fk,k≠i->k<ops.length->is[k]? =some fk->f.look=true->fk.ex=true->k∈f.anc\/i∈fk.anc
 exl:f.ex=true->f.look=true
 xs:∀k fk,k≠i->k<ops.length->is[k]? =some fk->f.look=true->∀d∈fk.xs,k∈f.anc\/i∈fk.anc\/d∈f.hide
 xl:∀k fk l,k≠i->k<ops.length->is[k]? =some fk->f.look=true->fk.xl=some l->k∈f.anc\/i∈fk.anc\/(i<k/\∃t p,o.op= .load t (.tmp p)/\p∈l/\o.dst≠some p/\∀w ow,w≠i->ops[w]? =some ow->ow.dst=some p->w∈f.anc)\/(k<i/\∃t p,o.op= .load t (.tmp p)/\p∈l/\∀(w:Nat) (ow:Oper),ops[w]? =some ow->ow.dst≠some p)
theorem XM {ops:List Oper} {is:List C1} {i:Nat} {o:Oper} {f:C1} (h:rT ops is i o f=true):yi ops is i o f:=by
 simp only[rT,Bool.and_eq_true]at h;obtain⟨⟨⟨⟨h1,h2⟩,h3⟩,h4⟩,h6⟩:=h;rw[List.all_eq_true]at h1 h2 h3 h4;have isd:∀{d:Option Nat} {t:Nat},d=some t->jE d t=true:=by
  rintro d t rfl;simp[jE]
 have O5:∀k ok,k≠i->ops[k]? =some ok->_:=fun k ok hk hok=>(Bool.or_eq_true_iff.1 (h4 k (List.mem_range.2 (List.getElem?_eq_some_iff.1 hok).1))).resolve_left (by
  intro he;exact hk (Nat.eq_of_beq_eq_true he))
 refine⟨?_,?_,?_,?_,?_,?_,?_,?_,?_,?_⟩
 ·intro e he hb;have:=h1 e (by simpa using he);simp only[hb,Bool.not_true,Bool.false_or]at this;exact Nat.le_of_ble_eq_true this
 ·intro j hj;have:=h2 j hj;obtain⟨e,he,hh⟩:=List.any_eq_true.1 this;simp only[Bool.and_eq_true,Bool.or_eq_true]at hh;refine⟨e,by simpa using he,hh.1,?_⟩;rcases hh.2 with h|h
  ·exact .inl (Nat.eq_of_beq_eq_true h)
  ·exact .inr (W8.1 h)
 ·intro j hj;exact Nat.le_of_ble_eq_true (h3 j hj)
 ·intro k ok d hk hok hd hod;have:=O5 k ok hk hok;simp only[eR,hok,hd,hod,isd rfl,Bool.not_true,Bool.false_and,Bool.false_eq_true]at this
 ·intro k ok t hk hok ht hod;have:=O5 k ok hk hok;simp only[Bool.and_eq_true]at this;have h:=(List.all_eq_true.1 this.1.2) t ht;simp only[eR,hok,hod,isd rfl,Bool.not_true,Bool.false_or,Bool.or_eq_true]at h;exact h.imp W8.1 W8.1
 ·intro k ok d hk hok hl hod;have:=O5 k ok hk hok;simp only[Bool.and_eq_true,hl,Bool.not_true,Bool.false_or,eR,hok,hod,Bool.or_eq_true]at this;exact this.2.1.1.1.imp W8.1 W8.1
 ·intro k fk hk d8 hfk hl hex;have:=(Bool.or_eq_true_iff.1 (h4 k (List.mem_range.2 d8))).resolve_left (by
   intro he;exact hk (Nat.eq_of_beq_eq_true he))
  simp only[Bool.and_eq_true,hl,Bool.not_true,Bool.false_or,Bl,aA,hfk,hex,Bool.or_eq_true]at this;exact this.2.1.1.2.imp W8.1 W8.1
 ·intro hex;simpa [hex]using h6
 ·intro k fk hk d8 hfk hl d hd;have:=(Bool.or_eq_true_iff.1 (h4 k (List.mem_range.2 d8))).resolve_left (by
   intro he;exact hk (Nat.eq_of_beq_eq_true he))
  simp only[Bool.and_eq_true,hl,Bool.not_true,Bool.false_or,Hd,hfk]at this;have h:=List.all_eq_true.1 this.2.1.2 d hd;simp only[Bool.or_eq_true,aA,hfk]at h;rcases h with (h|h)|h
  ·exact .inl (W8.1 h)
  ·exact .inr (.inl (W8.1 h))
  ·exact .inr (.inr (W8.1 h))
 ·intro k fk l hk d8 hfk hl hxl;have:=(Bool.or_eq_true_iff.1 (h4 k (List.mem_range.2 d8))).resolve_left (by
   intro he;exact hk (Nat.eq_of_beq_eq_true he))
  simp only[Bool.and_eq_true,hl,Bool.not_true,Bool.false_or,GY,hfk,hxl]at this;have h:=this.2.2;simp only[Bool.or_eq_true,aA,hfk,Bool.and_eq_true]at h;rcases h with (h|h)|⟨h1',h2'⟩|⟨h1',h2'⟩
  ·exact .inl (W8.1 h)
  ·exact .inr (.inl (W8.1 h))
  rotate_left
  ·refine .inr (.inr (.inr ⟨Nat.le_of_ble_eq_true h1',?_⟩));unfold CR at h2';split at h2'
   ·rename_i t p hop;simp only[Bool.and_eq_true]at h2';refine⟨t,p,hop,W8.1 h2'.1,fun w ow how hwd=> ?_⟩;have h5:=List.all_eq_true.1 h2'.2 w (List.mem_range.2 (List.getElem?_eq_some_iff.1 how).1);simp[eR,how,hwd,isd rfl]at h5
   ·cases h2'
  ·refine .inr (.inr (.inl ⟨Nat.le_of_ble_eq_true h1',?_⟩));unfold CT at h2';split at h2'
   ·rename_i t p hop;simp only[Bool.and_eq_true]at h2';refine⟨t,p,hop,W8.1 h2'.1.1,fun hd=>by rw[isd hd]at h2';simp at h2',fun w ow hw how hwd=> ?_⟩;have h5:=List.all_eq_true.1 h2'.2 w (List.mem_range.2 (List.getElem?_eq_some_iff.1 how).1);simp only[eR,how,hwd,isd rfl,Bool.not_true,Bool.or_false,Bool.or_eq_true]at h5;rcases h5 with h5|h5
    ·exact absurd (Nat.eq_of_beq_eq_true h5) hw
    ·exact W8.1 h5
   ·cases h2'
def d7 (hs:List (Id×B)):List Id:=hs.map (·.1)
structure jd (C:m6) (ops:List Oper) (o:Oper) (f:C1) (T T':Nat->V) (H H':Hp) (v:V) (hs:List (Id×B)):Prop where
 tt:T'=bX T o.dst v
 go:(ia ops T o=some false/\v= .t []/\hs=[]/\H'=H)\/
  (ia ops T o=some true/\Sm C o (dC C T) (dL o.op T (f.hr H)) v hs/\f.ck o.dst T H (dL o.op T (f.hr H)) hs=true/\A6 (z6 o.dst) H hs=some H')
theorem GG {C:m6} {ops:List Oper} (hC:q6 C):∀(l:List Oper) (is:List C1) (T:Nat->V) (H:Hp) (K:(Nat->V)->Hp->Prop),jJ C ops is l T H K->
  ∃(vs:Nat->V) (hss:Nat->List (Id×B)) (Ts:Nat->Nat->V) (Hs:Nat->Hp),Ts 0=T/\Hs 0=H/\
   (∀(i:Nat) (o:Oper),l[i]? =some o->∃f,is[i]? =some f/\jd C ops o f (Ts i) (Ts (i+1)) (Hs i) (Hs (i+1)) (vs i) (hss i))/\K (Ts l.length) (Hs l.length)
 |[],is,T,H,K,h=>⟨fun _=> .u,fun _=>[],fun _=>T,fun _=>H,rfl,rfl,fun i o h=>by simp at h,by
  cases is<;>exact h⟩
 |o::r,[],T,H,K,h=>h.elim
 |o::r,f::fs,T,H,K,h=>by
  rw[XP]at h;obtain⟨v,hs,H',htr,hk⟩:∃v hs H',jd C ops o f T (bX T o.dst v) H H' v hs/\jJ C ops fs r (bX T o.dst v) H' K:=by
   rcases EQ hC h with ⟨hg,hk⟩|⟨hg,⟨v,hs,H',hsm,hck,happ,hk⟩|⟨v,hs,H',hsm,happ,hk⟩⟩
   ·exact⟨.t [],[],H,⟨rfl,.inl ⟨hg,rfl,rfl,rfl⟩⟩,hk⟩
   ·exact⟨v,hs,H',⟨rfl,.inr ⟨hg,hsm,hck,happ⟩⟩,hk⟩
   ·exact hk.elim
  obtain⟨vs,hss,Ts,Hs,e1,e2,h3,h4⟩:=GG hC r fs _ _ K hk;refine⟨fun i=>match i with|0=>v|i+1=>vs i,fun i=>match i with|0=>hs|i+1=>hss i,fun i=>match i with|0=>T|i+1=>Ts i,fun i=>match i with|0=>H|i+1=>Hs i,rfl,rfl,?_,h4⟩;intro i o' ho;cases i with
  |zero=>
   simp at ho;subst ho;refine⟨f,by simp,?_⟩;show jd C ops o f T (Ts 0) H (Hs 0) v hs;rw[e1,e2];exact htr
  |succ i=>
   obtain⟨g,hg,ht⟩:=h3 i o' (by simpa using ho);exact⟨g,by simpa using hg,ht⟩
theorem rh (x:Id×B) (r:List (Id×B)):d7 (x::r)=x.1::d7 r:=rfl
theorem tT (dst:Nat):∀(hs:List (Id×B)) (H G H':Hp),(∀id∈d7 hs,G id=H id)->A6 dst H hs=some H'->
  ∃G',A6 dst G hs=some G'/\(∀id∈d7 hs,G' id=H' id)/\(∀id,id∉d7 hs->G' id=G id/\H' id=H id)
 |[],H,G,H',_,h=>by
  simp only[A6,Option.some.injEq]at h;subst h;exact⟨G,rfl,fun id h=>by simp[d7]at h,fun _ _=>⟨rfl,rfl⟩⟩
 |(id,b)::r,H,G,H',he,h=>by
  have h0:=he id (by simp[d7]);have go:A6 dst (x5 H id (some b)) r=some H'->∃G',A6 dst (x5 G id (some b)) r=some G'/\(∀j∈d7 ((id,b)::r),G' j=H' j)/\(∀j,j∉d7 ((id,b)::r)->G' j=G j/\H' j=H j):=by
   intro h;obtain⟨G',g1,g2,g3⟩:=tT dst r (x5 H id (some b)) (x5 G id (some b)) H' (by
    intro j hj;by_cases l4:id=j
    ·subst l4;rw[F8,F8]
    ·rw[C4 _ _ l4,C4 _ _ l4];exact he j (by rw[rh];exact List.mem_cons_of_mem _ hj)) h
   refine⟨G',g1,?_,?_⟩
   ·intro j hj;by_cases hm:j∈d7 r
    ·exact g2 j hm
    ·obtain⟨g4,g5⟩:=g3 j hm;rw[rh]at hj;have:j=id:=(List.mem_cons.1 hj).resolve_right hm;subst this;rw[g4,g5,F8,F8]
   ·intro j hj;rw[rh]at hj;obtain⟨g4,g5⟩:=g3 j fun hm=>hj (List.mem_cons_of_mem _ hm);have hne:id≠j:=fun he=>hj (he▸List.mem_cons_self);rw[g4,g5,C4 _ _ hne,C4 _ _ hne];exact⟨rfl,rfl⟩
  unfold A6 at h ⊢;cases ho:O9 dst id
  ·rw[ho]at h;exact go h
  ·rw[ho]at h;rw[h0];cases hh:H id with
   |none=>rw[hh]at h;exact go h
   |some x=>rw[hh]at h;simp at h
theorem tP {T:Nat->V} {id:Id}:∀{l:List Nat},pA T id l=true->∀p∈l,∃id' off,T p= .p id' off/\id'≠id
 |[],_,p,h=>by cases h
 |q::r,h,p,hp=>by
  unfold pA at h;split at h
  ·rename_i id' off hT;simp only[Bool.and_eq_true,Bool.not_eq_true']at h;rcases List.mem_cons.1 hp with rfl|hp
   ·exact⟨id',off,hT,fun he=>by rw[he,Id.eq_self]at h;cases h.1⟩
   ·exact tP h.2 p hp
  ·cases h
theorem AI {f:C1} {d:Option Nat} {T:Nat->V} {H Hr:Hp}:∀{hs:List (Id×B)},f.ck d T H Hr hs=true->∀id∈d7 hs,mw d id=true\/Hr id≠none
 |[],_=>by simp[d7]
 |(i,b)::r,h=>by
  simp only[C1.ck,Bool.and_eq_true,Bool.or_eq_true]at h;intro id l4;rw[rh]at l4;rcases List.mem_cons.1 l4 with rfl|l4
  ·rcases h.1 with h|⟨h,h'⟩
   ·exact .inl h
   ·exact .inr (by intro he;rw[he]at h';cases h')
  ·exact AI h.2 id l4
theorem qj {f:C1} {d:Option Nat} {T:Nat->V} {H0 Hr:Hp} {dst:Nat} {id:Id}:∀{hs:List (Id×B)} {H H':Hp},f.ck d T H0 Hr hs=true->H id=H0 id->A6 dst H hs=some H'->H' id≠H0 id->mw d id=true\/((f.ex=true\/vT f.xs id=true\/ve f.xl T id=true)/\Hr id≠none)
 |[],H,H',_,e,h,hne=>by
  simp only[A6,Option.some.injEq]at h;subst h;exact absurd e hne
 |(i,b)::r,H,H',hck,e,h,hne=>by
  simp only[C1.ck,Bool.and_eq_true,Bool.or_eq_true]at hck;have go:A6 dst (x5 H i (some b)) r=some H'->mw d id=true\/((f.ex=true\/vT f.xs id=true\/ve f.xl T id=true)/\Hr id≠none):=by
   intro h;by_cases hi:i=id
   ·subst hi;rcases hck.1 with h1|⟨h1,h2⟩
    ·exact .inl h1
    ·have h2:Hr i≠none:=by intro he;rw[he]at h2;cases h2
     rcases h1 with ((h1|h1)|h1)|h1
     ·exact .inr ⟨.inl h1,h2⟩
     ·exact .inr ⟨.inr (.inl h1),h2⟩
     ·exact .inr ⟨.inr (.inr h1),h2⟩
     ·have h3:H0 i=some b:=by unfold xr at h1;simpa using h1
      exact qj hck.2 (by rw[F8,h3]) h hne
   ·exact qj hck.2 (by rw[C4 _ _ hi];exact e) h hne
  unfold A6 at h;cases ho:O9 dst i
  ·rw[ho]at h;exact go h
  ·rw[ho]at h;cases hh:H i with
   |none=>rw[hh]at h;exact go h
   |some x=>rw[hh]at h;simp at h
theorem wl {o:Op} {T:Nat->V} {Hr:Hp} {id:Id} {b:B} (h:dL o T Hr id=some b):Hr id=some b/\∀t p id' off,o= .load t (.tmp p)->T p= .p id' off->id'=id:=by
 cases o with
 |load t x=>
  cases x with
  |tmp p=>
   simp only[dL]at h;cases hT:T p with
   |p id1 off1=>
    rw[hT]at h;simp only at h;cases he:Id.eq id1 id
    ·simp[he]at h
    ·simp only[he,cond_true]at h;refine⟨h,fun t' p' id' off' ho hT'=> ?_⟩;cases ho;rw[hT]at hT';cases hT';exact Id.eq_iff.1 he
   |_=>
    rw[hT]at h;exact⟨h,fun t' p' id' off' ho hT'=>by cases ho;rw[hT]at hT';cases hT'⟩
  |_=>exact⟨h,fun t' p' id' off' ho _=>by cases ho⟩
 |_=>exact⟨h,fun t' p' id' off' ho _=>by cases ho⟩
theorem vP {f:C1} {H:Hp} {id:Id} {b:B} (h:f.hr H id=some b):f.look=true/\H id=some b/\∀d j,id= .d d j->d∉f.hide:=by
 unfold C1.hr at h;cases hl:f.look
 ·rw[hl]at h;cases h
 ·rw[hl]at h;refine⟨rfl,?_⟩;cases id with
  |k k=>exact⟨h,fun d j he=>by cases he⟩
  |d d j=>
   simp only[l4]at h;cases hi:O8 f.hide d
   ·rw[hi]at h;exact⟨h,fun d' j' he hm=>by
     simp only[Id.d.injEq]at he;obtain⟨rfl,rfl⟩:=he;rw[W8.2 hm]at hi;cases hi⟩
   ·rw[hi]at h;cases h
theorem wJ {d:Option Nat} {id:Id} (h:mw d id=true):∃e j,d=some e/\id= .d e j:=by
 cases d with
 |none=>cases h
 |some e=>
  cases id with
  |k=>cases h
  |d a j=>
   have:a=e:=Nat.eq_of_beq_eq_true h;subst this;exact⟨a,j,rfl,rfl⟩
end Go.Scr
namespace Go.Scr
def C7:List Bool->Nat
 |[]=>0
 |b::r=>(bif b then 0 else 1)+C7 r
theorem AK:∀(l:List Bool) (i:Nat),l[i]? =some false->C7 (l.set i true)+1=C7 l
 |[],i,h=>by simp at h
 |b::r,0,h=>by simp at h;subst h;simp[C7];omega
 |b::r,i+1,h=>by
  have:=AK r i (by simpa using h);simp only[List.set_cons_succ,C7];omega
theorem AJ:∀(l:List Bool) (i:Nat),l[i]? =some false->0<C7 l
 |[],i,h=>by simp at h
 |b::r,0,h=>by simp at h;subst h;simp only[C7,cond_false];omega
 |b::r,i+1,h=>by
  have:=AJ r i (by simpa using h);simp only[C7];omega
def P5 (listed:Array Bool) (k:Nat):Prop:=listed.getD k false=true
theorem gw {l:Array Bool} {i j:Nat} (h:i<l.size):(l.setIfInBounds i true).getD j false=true↔j=i\/l.getD j false=true:=by
 by_cases hj:j=i
 ·subst hj;simp[h]
 ·simp[Array.getElem?_setIfInBounds_ne (Ne.symm hj),hj]
theorem xX {T T':Nat->V} {d:Option Nat} {v:V} {t:Nat} (h:T'=bX T d v):(d=some t/\T' t=v)\/(d≠some t/\T' t=T t):=by
 subst h;cases d with
 |none=>exact .inr ⟨by simp,rfl⟩
 |some d=>
  by_cases he:d=t
  ·subst he;exact .inl ⟨rfl,xW _ _ _⟩
  ·exact .inr ⟨by simpa using he,xV _ _ he⟩
section
variable {C:m6} {N:Nat} {ds:List Deferred} {w0:World} {L F0:Nat->Prop} {ι0:Io} {ops:Array Oper} {is:List C1}
 {vs:Nat->V} {hss:Nat->List (Id×B)} {Ts:Nat->Nat->V} {Hs:Nat->Hp}
theorem tz (htr:∀(i:Nat) (o:Oper),ops.toList[i]? =some o->∃f,is[i]? =some f/\jd C ops.toList o f (Ts i) (Ts (i+1)) (Hs i) (Hs (i+1)) (vs i) (hss i)) (t:Nat):
  ∀i,i<=ops.size->(∃k o,k<i/\ops.toList[k]? =some o/\o.dst=some t/\Ts i t=vs k/\∀k' o',k<k'->k'<i->ops.toList[k']? =some o'->o'.dst≠some t)\/((∀k o,k<i->ops.toList[k]? =some o->o.dst≠some t)/\Ts i t=Ts 0 t)
 |0,_=> .inr ⟨fun _ _ h=>by omega,rfl⟩
 |i+1,h=>by
  have d8:i<ops.toList.length:=by rw[Array.length_toList];omega
  obtain⟨f,_,tr⟩:=htr i ops.toList[i] (List.getElem?_eq_getElem d8);rcases xX (t:=t) tr.tt with ⟨h1,h2⟩|⟨h1,h2⟩
  ·exact .inl ⟨i,_,Nat.lt_succ_self i,List.getElem?_eq_getElem d8,h1,h2,fun k' o' a b=>by omega⟩
  ·rcases tz htr t i (by omega)with ⟨k,o,g1,g2,g3,g4,g5⟩|⟨g1,g2⟩
   ·refine .inl ⟨k,o,by omega,g2,g3,h2.trans g4,fun k' o' a b ho=> ?_⟩;by_cases he:k'=i
    ·subst he;rw[List.getElem?_eq_getElem d8]at ho;simp only[Option.some.injEq]at ho;rw[<-ho];exact h1
    ·exact g5 k' o' a (by omega) ho
   ·refine .inr ⟨fun k o a ho=> ?_,h2.trans g2⟩;by_cases he:k=i
    ·subst he;rw[List.getElem?_eq_getElem d8]at ho;simp only[Option.some.injEq]at ho;rw[<-ho];exact h1
    ·exact g1 k o (by omega) ho
def bE (Hs:Nat->Hp) (hss:Nat->List (Id×B)) (k:Nat) (id:Id):Prop:=id∈d7 (hss k)/\Hs (k+1) id≠Hs k id
theorem tA (htr:∀(i:Nat) (o:Oper),ops.toList[i]? =some o->∃f,is[i]? =some f/\jd C ops.toList o f (Ts i) (Ts (i+1)) (Hs i) (Hs (i+1)) (vs i) (hss i)) {p i:Nat}:
  ∀k,i<=k->k<=ops.size->(∀w ow,i<=w->w<k->ops.toList[w]? =some ow->ow.dst≠some p)->Ts k p=Ts i p
 |0,h,_,_=>by
  obtain rfl:i=0:=by omega
  rfl
 |k+1,h,hk,hw=>by
  by_cases he:i=k+1
  ·subst he;rfl
  ·have d8:k<ops.toList.length:=by rw[Array.length_toList];omega
   obtain⟨f,_,tr⟩:=htr k ops.toList[k] (List.getElem?_eq_getElem d8);rcases xX (t:=p) tr.tt with ⟨h1,_⟩|⟨_,h2⟩
   ·exact absurd h1 (hw k _ (by omega) (by omega) (List.getElem?_eq_getElem d8))
   ·rw[h2];exact tA htr k (by omega) (by omega) fun w ow h1 h2=>hw w ow h1 (by omega)
theorem tm (htr:∀(i:Nat) (o:Oper),ops.toList[i]? =some o->∃f,is[i]? =some f/\jd C ops.toList o f (Ts i) (Ts (i+1)) (Hs i) (Hs (i+1)) (vs i) (hss i)) (id:Id):
  ∀i,i<=ops.size->(∃k,k<i/\bE Hs hss k id/\(∀j,j<i->bE Hs hss j id->j<=k)/\Hs i id=Hs (k+1) id)\/((∀k,k<i->¬bE Hs hss k id)/\Hs i id=Hs 0 id)
 |0,_=> .inr ⟨fun _ h=>by omega,rfl⟩
 |i+1,h=>by
  have d8:i<ops.toList.length:=by rw[Array.length_toList];omega
  obtain⟨f,_,tr⟩:=htr i ops.toList[i] (List.getElem?_eq_getElem d8);by_cases hm:bE Hs hss i id
  ·exact .inl ⟨i,Nat.lt_succ_self i,hm,fun j hj _=>by omega,rfl⟩
  ·have hkeep:Hs (i+1) id=Hs i id:=by
    by_cases l4:id∈d7 (hss i)
    ·exact Classical.byContradiction fun hne=>hm ⟨l4,hne⟩
    ·rcases tr.go with ⟨_,_,_,he⟩|⟨_,_,_,happ⟩
     ·rw[he]
     ·obtain⟨_,_,_,g⟩:=tT _ _ _ (Hs i) _ (fun _ _=>rfl) happ;exact(g id l4).2
   rcases tm htr id i (by omega)with ⟨k,g1,g2,g3,g4⟩|⟨g1,g2⟩
   ·refine .inl ⟨k,by omega,g2,fun j hj hjm=> ?_,hkeep.trans g4⟩;by_cases he:j=i
    ·subst he;exact absurd hjm hm
    ·exact g3 j (by omega) hjm
   ·refine .inr ⟨fun k hk=> ?_,hkeep.trans g2⟩;by_cases he:k=i
    ·subst he;exact hm
    ·exact g1 k (by omega)
structure yc (C:m6) (N:Nat) (ds:List Deferred) (w0:World) (L F0:Nat->Prop) (ι0:Io) (ops:Array Oper) (is:List C1) (vs:Nat->V) (hss:Nat->List (Id×B)) (Ts:Nat->Nat->V) (Hs:Nat->Hp) (listed:Array Bool) (F:Nat->Prop) (ι:Io) (T:Nat->V) (H:Hp) (a:Act) (w:World):Prop where
 rel:B1 C N ds w0 L F0 ι0 F ι T H a w
 size:listed.size=ops.size
 closed:∀i,P5 listed i->∀k∈aA is i,P5 listed k
 slot:∀t,(∃k o,P5 listed k/\ops.toList[k]? =some o/\o.dst=some t/\T t=vs k)\/((∀k o,P5 listed k->ops.toList[k]? =some o->o.dst≠some t)/\T t=Ts 0 t)
 heap:∀id,(∃k,P5 listed k/\bE Hs hss k id/\(∀j,P5 listed j->bE Hs hss j id->j<=k)/\H id=Hs (k+1) id)\/((∀k,P5 listed k->¬bE Hs hss k id)/\H id=Hs 0 id)
theorem HG (hreg:si N ops.toList is=true)
  (htr:∀(i:Nat) (o:Oper),ops.toList[i]? =some o->∃f,is[i]? =some f/\jd C ops.toList o f (Ts i) (Ts (i+1)) (Hs i) (Hs (i+1)) (vs i) (hss i)) {Q:Exit->Act->World->Prop}
  (hQ:∀F ι a w,B1 C N ds w0 L F0 ι0 F ι (Ts ops.size) (Hs ops.size) a w->Q .normal a w):
  ∀(fuel:Nat) (listed:Array Bool) (F:Nat->Prop) (ι:Io) (T:Nat->V) (H:Hp) (a:Act) (w:World),C7 listed.toList<=fuel->yc C N ds w0 L F0 ι0 ops is vs hss Ts Hs listed F ι T H a w->
   wpAny C.P .any ops Q fuel listed a w:=by
 simp only[si,Bool.and_eq_true]at hreg;obtain⟨hall,hdok⟩:=hreg;have one:∀{i:Nat} {o:Oper},ops.toList[i]? =some o->∃f,is[i]? =some f/\yi ops.toList is i o f:=by
  intro i o ho;obtain⟨f,hf,h⟩:=yM hall ho;rw[Nat.zero_add]at h;exact⟨f,hf,XM h⟩
 have uniq:∀{i k:Nat} {o o':Oper} {t:Nat},ops.toList[i]? =some o->ops.toList[k]? =some o'->o.dst=some t->o'.dst=some t->k=i:=by
  intro i k o o' t hi hk hd hd';obtain⟨f,_,h⟩:=one hi;rcases Nat.decEq k i with hne|he
  ·exact absurd hd' (h.ne k o' t hne hk hd)
  ·exact he
 have inl:∀{listed:Array Bool} {k:Nat},listed.size=ops.size->P5 listed k->k<ops.size:=by
  intro listed k hs h;rcases Nat.lt_or_ge k listed.size with h'|h'
  ·omega
  ·simp[P5,Array.getElem?_eq_none h']at h
 have full:∀{listed:Array Bool},listed.size=ops.size->Region.ready .any ops listed=[]->∀k,k<ops.size->P5 listed k:=by
  intro listed hs hr k;induction k using Nat.strongRecOn with
  |_ k ih=>
   intro hk;refine Classical.byContradiction fun hn=> ?_;have hmem:k∈Region.ready .any ops listed:=by
    rw[mem_ready];have hk':k<ops.toList.length:=by simpa using hk
    obtain⟨f,_,h⟩:=one (List.getElem?_eq_getElem hk');refine⟨?_,ops.toList[k],by simp[hk],?_⟩
    ·have hls:k<listed.size:=by omega
     simp only[P5,Array.getD_eq_getD_getElem?,Array.getElem?_eq_getElem hls,Option.getD_some]at hn ⊢;simpa using hn
    ·intro e he hb;exact ih e.on (h.edge e he hb) (by have:=h.edge e he hb;omega)
   rw[hr]at hmem;cases hmem
 have a9:∀{listed:Array Bool} {F:Nat->Prop} {ι:Io} {T:Nat->V} {H:Hp} {a:Act} {w:World},Region.ready .any ops listed=[]->yc C N ds w0 L F0 ι0 ops is vs hss Ts Hs listed F ι T H a w->Q .normal a w:=by
  intro listed F ι T H a w hr h;have hf:=full h.size hr;have hT:T=Ts ops.size:=by
   funext t;rcases h.slot t with ⟨k,o,g1,g2,g3,g4⟩|⟨g1,g2⟩<;>rcases tz htr t ops.size (Nat.le_refl _)with ⟨k',o',f1,f2,f3,f4,_⟩|⟨f1,f2⟩
   ·rw[g4,f4,uniq f2 g2 f3 g3]
   ·exact absurd g3 (f1 k o (inl h.size g1) g2)
   ·exact absurd f3 (g1 k' o' (hf k' f1) f2)
   ·rw[g2,f2]
  have hH:H=Hs ops.size:=by
   funext id;rcases h.heap id with ⟨k,g1,g2,g3,g4⟩|⟨g1,g2⟩<;>rcases tm htr id ops.size (Nat.le_refl _)with ⟨k',f1,f2,f3,f4⟩|⟨f1,f2⟩
   ·have e1:=g3 k' (hf k' f1) f2;have e2:=f3 k (inl h.size g1) g2;rw[g4,f4,show k=k' by omega]
   ·exact absurd g2 (f1 k (inl h.size g1))
   ·exact absurd f2 (g1 k' (hf k' f1))
   ·rw[g2,f2]
  have:=h.rel;rw[hT,hH]at this;exact hQ _ _ _ _ this
 intro fuel;induction fuel with
 |zero=>
  intro listed F ι T H a w hc h;have hr:Region.ready .any ops listed=[]:=by
   refine List.eq_nil_iff_forall_not_mem.2 fun i hi=> ?_;obtain⟨h0,o,ho,_⟩:=mem_ready.1 hi;have d8:i<listed.size:=by
    rw[h.size];exact(Array.getElem?_eq_some_iff.1 ho).1
   have:listed.toList[i]? =some false:=by
    simp only[Array.getD_eq_getD_getElem?,Array.getElem?_eq_getElem d8,Option.getD_some]at h0;simp[d8,h0]
   have:=AJ _ _ this;omega
  exact⟨hr,a9 hr h⟩
 |succ fuel ih=>
  intro listed F ι T H a w hc h;refine⟨fun hr=>a9 hr h,fun i hi=> ?_⟩;obtain⟨h0,o,ho,hedges⟩:=mem_ready.1 hi;have ho':ops.toList[i]? =some o:=by simpa using ho
  have d8:i<listed.size:=by
   rw[h.size];exact(Array.getElem?_eq_some_iff.1 ho).1
  have hli:listed[i]? =some false:=by
   simp only[Array.getD_eq_getD_getElem?,Array.getElem?_eq_getElem d8,Option.getD_some]at h0;simp[d8,h0]
  have hnot:¬P5 listed i:=by simp[P5,hli]
  have hcnt:C7 (listed.setIfInBounds i true).toList<=fuel:=by
   have:=AK listed.toList i (by simpa using hli);rw[Array.toList_setIfInBounds];omega
  obtain⟨f,hf,h1⟩:=one ho';obtain⟨f',hf',tr⟩:=htr i o ho';rw[hf]at hf';simp only[Option.some.injEq]at hf';subst hf';have hanc:∀k∈f.anc,P5 listed k:=by
   intro k hk;obtain⟨e,he,hb,hor⟩:=h1.anc k hk;have hl:=hedges e he hb;rcases hor with rfl|hor
   ·exact hl
   ·exact h.closed _ hl k hor
  -- the others that touch what this one touches
  have vis:∀id,dL o.op (Ts i) (f.hr (Hs i)) id≠none->∀k,k≠i->k<ops.size->bE Hs hss k id->(P5 listed k↔k<i):=by
   intro id hv k hk hkn hm;cases hb:dL o.op (Ts i) (f.hr (Hs i)) id with
   |none=>exact absurd hb hv
   |some b=>
    obtain⟨hb',hload⟩:=wl hb;obtain⟨hl,_,hhide⟩:=vP hb';have hk':ops.toList[k]? =some ops.toList[k]:=List.getElem?_eq_getElem (by simpa using hkn);obtain⟨fk,hfk,trk⟩:=htr k _ hk';obtain⟨fk',hfk',hok⟩:=one hk';rw[hfk]at hfk';simp only[Option.some.injEq]at hfk';subst hfk';rcases trk.go with ⟨_,_,he,_⟩|⟨_,_,hck,happk⟩
    ·have h9:=hm.1;rw[he]at h9;simp[d7]at h9
    ·rcases qj hck rfl happk hm.2 with ho2|⟨hex,hvk⟩
     ·obtain⟨d,j,hd,rfl⟩:=wJ ho2;rcases h1.hide k _ d hk hk' hl hd with ha|ha
      ·exact⟨fun _=>h1.lt k ha,fun _=>hanc k ha⟩
      ·exact absurd ha (hhide d j rfl)
     ·have hx:k∈f.anc\/i∈fk.anc:=by
       rcases hex with hex|hex|hex
       ·exact h1.ex k fk hk (by simpa using hkn) hfk hl hex
       ·cases id with
        |k=>cases hex
        |d d j=>
         rcases h1.xs k fk hk (by simpa using hkn) hfk hl d (W8.1 hex)with ha|ha|ha
         ·exact .inl ha
         ·exact .inr ha
         ·exact absurd ha (hhide d j rfl)
       ·cases hxl:fk.xl with
        |none=>rw[hxl]at hex;cases hex
        |some l=>
         rw[hxl]at hex;rcases h1.xl k fk l hk (by simpa using hkn) hfk hl hxl with ha|ha|⟨hik,t,p,hop,hp,hdp,hw⟩|⟨hki,t,p,hop,hp,hw⟩
         ·exact .inl ha
         ·exact .inr ha
         ·obtain⟨id',off,hT,hne⟩:=tP hex p hp;have hkeep:Ts k p=Ts i p:=tA htr k (by omega) (by omega) fun w ow g1 g2 hwo hwd=>by
           by_cases hwi:w=i
           ·subst hwi;rw[ho']at hwo;cases hwo;exact hdp hwd
           ·have:=h1.lt w (hw w ow hwi hwo hwd);omega
          rw[hkeep]at hT;exact absurd (hload t p id' off hop hT) hne
         ·obtain⟨id',off,hT,hne⟩:=tP hex p hp;have hkeep:Ts i p=Ts k p:=tA htr i (by omega) (by have:=h.size;omega) fun w ow g1 g2 hwo hwd=>hw w ow hwo hwd;rw[<-hkeep]at hT;exact absurd (hload t p id' off hop hT) hne
      rcases hx with ha|ha
      ·exact⟨fun _=>h1.lt k ha,fun _=>hanc k ha⟩
      ·have hik:=hok.lt i ha;exact⟨fun hlk=>absurd (h.closed k hlk i (by simpa [aA,hfk]using ha)) hnot,fun hki=>by omega⟩
  have own:∀id,mw o.dst id=true->∀k,k≠i->k<ops.size->bE Hs hss k id->(P5 listed k↔k<i):=by
   intro id hv k hk hkn hm;obtain⟨d,j,hd,rfl⟩:=wJ hv;have hk':ops.toList[k]? =some ops.toList[k]:=List.getElem?_eq_getElem (by simpa using hkn);obtain⟨fk,hfk,trk⟩:=htr k _ hk';obtain⟨fk',hfk',hok⟩:=one hk';rw[hfk]at hfk';simp only[Option.some.injEq]at hfk';subst hfk';rcases trk.go with ⟨_,_,he,_⟩|⟨_,_,hck,happk⟩
   ·have h9:=hm.1;rw[he]at h9;simp[d7]at h9
   ·rcases qj hck rfl happk hm.2 with ho2|⟨hex,hvk⟩
    ·obtain⟨d',j',hd',he⟩:=wJ ho2;simp only[Id.d.injEq]at he;obtain⟨rfl,rfl⟩:=he;exact absurd (uniq ho' hk' hd hd') hk
    ·cases hb:dL ops.toList[k].op (Ts k) (fk.hr (Hs k)) (.d d j)with
     |none=>exact absurd hb hvk
     |some b=>
      obtain⟨hl,_,hhide⟩:=vP (wl hb).1;rcases hok.hide i o d (Ne.symm hk) ho' hl hd with ha|ha
      ·have hik:=hok.lt i ha;exact⟨fun hlk=>absurd (h.closed k hlk i (by simpa [aA,hfk]using ha)) hnot,fun hki=>by omega⟩
      ·exact absurd ha (hhide d j rfl)
  have same:∀id,(∀k,k≠i->k<ops.size->bE Hs hss k id->(P5 listed k↔k<i))->H id=Hs i id:=by
   intro id hk;have hi':i<=ops.size:=by rw[<-h.size];omega
   rcases h.heap id with ⟨k,g1,g2,g3,g4⟩|⟨g1,g2⟩<;>rcases tm htr id i hi' with ⟨k',f1,f2,f3,f4⟩|⟨f1,f2⟩
   ·have hki:k≠i:=fun he=>hnot (he▸g1);have e1:=g3 k' ((hk k' (by omega) (by omega) f2).2 f1) f2;have e2:=f3 k ((hk k hki (inl h.size g1) g2).1 g1) g2;rw[g4,f4,show k=k' by omega]
   ·have hki:k≠i:=fun he=>hnot (he▸g1);exact absurd g2 (f1 k ((hk k hki (inl h.size g1) g2).1 g1))
   ·exact absurd f2 (g1 k' ((hk k' (by omega) (by omega) f2).2 f1))
   ·rw[g2,f2]
  have slots:∀t∈oX ops.toList o,T t=Ts i t:=by
   intro t ht;have hi':i<=ops.size:=by rw[<-h.size];omega
   rcases h.slot t with ⟨k,o',g1,g2,g3,g4⟩|⟨g1,g2⟩<;>rcases tz htr t i hi' with ⟨k',o'',f1,f2,f3,f4,_⟩|⟨f1,f2⟩
   ·rw[g4,f4,uniq f2 g2 f3 g3]
   ·have hki:k≠i:=fun he=>hnot (he▸g1);rcases h1.sl k o' t hki g2 ht g3 with hs|hs
    ·exact absurd g3 (f1 k o' (h1.lt k hs) g2)
    ·exact absurd (h.closed k g1 i hs) hnot
   ·rcases h1.sl k' o'' t (by omega) f2 ht f3 with hs|hs
    ·exact absurd f3 (g1 k' o'' (hanc k' hs) f2)
    ·obtain⟨fk,hfk,hok⟩:=one f2;have:=hok.lt i (by simpa [aA,hfk]using hs);omega
   ·rw[g2,f2]
  -- what it comes to
  have next:∀(F':Nat->Prop) (ι':Io) (H':Hp) (a':Act) (w':World),B1 C N ds w0 L F0 ι0 F' ι' (bX T o.dst (vs i)) H' a' w'->(∀id∈d7 (hss i),H' id=Hs (i+1) id)->(∀id,id∉d7 (hss i)->H' id=H id)->
    (∀id∈d7 (hss i),∀k,k≠i->k<ops.size->bE Hs hss k id->(P5 listed k↔k<i))->wpAny C.P .any ops Q fuel (listed.setIfInBounds i true) a' w':=by
   intro F' ι' H' a' w' hrel hH1 hH2 hord;refine ih _ F' ι' (bX T o.dst (vs i)) H' a' w' hcnt ⟨hrel,by simpa using h.size,?_,?_,?_⟩
   ·intro j hj k hk;rw[P5,gw d8]at hj ⊢;rcases hj with rfl|hj
    ·exact .inr (hanc k (by simpa [aA,hf]using hk))
    ·exact .inr (h.closed j hj k hk)
   ·intro t;rcases xX (T:=T) (T':=bX T o.dst (vs i)) (d:=o.dst) (v:=vs i) (t:=t) rfl with ⟨e1,e2⟩|⟨e1,e2⟩
    ·exact .inl ⟨i,o,(gw d8).2 (.inl rfl),ho',e1,e2⟩
    ·rcases h.slot t with ⟨k,o',g1,g2,g3,g4⟩|⟨g1,g2⟩
     ·exact .inl ⟨k,o',(gw d8).2 (.inr g1),g2,g3,e2.trans g4⟩
     ·refine .inr ⟨fun k o' hk ho2=> ?_,e2.trans g2⟩;rcases (gw d8).1 hk with rfl|hk
      ·rw[ho']at ho2;simp only[Option.some.injEq]at ho2;rw[<-ho2];exact e1
      ·exact g1 k o' hk ho2
   ·intro id;by_cases hm:bE Hs hss i id
    ·refine .inl ⟨i,(gw d8).2 (.inl rfl),hm,fun j hj hjm=> ?_,hH1 id hm.1⟩;rcases (gw d8).1 hj with rfl|hj
     ·exact Nat.le_refl _
     ·have hji:j≠i:=fun he=>hnot (he▸hj);exact Nat.le_of_lt ((hord id hm.1 j hji (inl h.size hj) hjm).1 hj)
    ·have hkp:H' id=H id:=by
      by_cases l4:id∈d7 (hss i)
      ·rw[hH1 id l4,same id (hord id l4)];exact Classical.byContradiction fun hne=>hm ⟨l4,hne⟩
      ·exact hH2 id l4
     rw[hkp];rcases h.heap id with ⟨k,g1,g2,g3,g4⟩|⟨g1,g2⟩
     ·refine .inl ⟨k,(gw d8).2 (.inr g1),g2,fun j hj hjm=> ?_,g4⟩;rcases (gw d8).1 hj with rfl|hj
      ·exact absurd hjm hm
      ·exact g3 j hj hjm
     ·refine .inr ⟨fun k hk hkm=> ?_,g2⟩;rcases (gw d8).1 hk with rfl|hk
      ·exact hm hkm
      ·exact g1 k hk hkm
  have slotR:∀t∈oX ops.toList o,R w F ι (Ts i t) (a.tmps.getD t undef):=fun t ht=>slots t ht▸h.rel.sl t;have hguard:∀{b},ia ops.toList (Ts i) o=some b->Region.wanted o (yielded ops a.tmps)=b:=fun hg=>ra (fun j ⟨g,wt,hgd,hj⟩=>slotR j (by
   simp only[oX,hgd,hj];exact List.mem_append_right _ (by simp))) hg
  unfold wpOp;simp only[ho];rcases tr.go with ⟨hg,hv,he,hHs⟩|⟨hg,hsm,hck,happ⟩
  ·rw[hguard hg];simp only[Bool.false_eq_true,if_false];refine next F ι H _ w ?_ (by rw[he];simp[d7]) (fun _ _=>rfl) (by rw[he];simp[d7])
   rw[hv];exact h.rel.put (wI hdok ho') (.t .nil)
  ·rw[hguard hg];simp only[if_true];have hord:∀id∈d7 (hss i),∀k,k≠i->k<ops.size->bE Hs hss k id->(P5 listed k↔k<i):=by
    intro id l4;rcases AI hck id l4 with h|h
    ·exact own id h
    ·exact vis id h
   obtain⟨G',happ',g1,g2⟩:=tT _ _ _ H _ (fun id l4=>same id (hord id l4)) happ;refine .inl (hsm w0 L w F ι H G' a h.rel.st ?_ ?_ h.rel.gl h.rel.dm happ' _ Q ?_)
   ·intro id b hb;rw[same id (vis id (by rw[hb];simp))];exact(vP (wl hb).1).2.1
   ·intro x hx;cases x with
    |tmp t=>exact slotR t (by
      refine List.mem_append_left _ (List.mem_filterMap.2 ⟨.tmp t,by simpa using hx,rfl⟩))
    |const v=>exact AR v
    |global g=>exact .fz (h.rel.gl g)
    |func f=>exact .f .nil .nil
   ·intro x w' F' ι' hnx hR;exact next F' ι' G' _ w' ((h.rel.nx hnx).put (wI hdok ho') hR) g1 (fun id l4=>(g2 id l4).1) hord
theorem Qf {K:X->S->Prop} (hC:q6 C) (hreg:si N ops.toList is=true) {F:Nat->Prop} {ι:Io} {T:Nat->V} {H:Hp} {a:Act} {w:World}
  (h:jJ C ops.toList is ops.toList T H (fun T H=>K .normal ⟨T,H⟩)) (hr:B1 C N ds w0 L F0 ι0 F ι T H a w) (id:Nat):(Code.region id ops true).wp C.P (M3 C N ds w0 L F0 ι0 K) a w:=by
 obtain⟨vs,hss,Ts,Hs,e1,e2,htr,hk⟩:=GG hC _ _ _ _ _ h;refine wp_region_any hC.mixed (HG (ds:=ds) (w0:=w0) (L:=L) (F0:=F0) (ι0:=ι0) (N:=N) hreg htr ?_ ops.size _ F ι T H a _ ?_ ?_)
 ·intro F' ι' a' w' hrel;rw[show ops.toList.length=ops.size from rfl]at hk;exact⟨.normal,⟨_,_⟩,F',ι',hk,hrel,rfl⟩
 ·have:∀n,C7 (List.replicate n false)<=n:=by
   intro n;induction n with
   |zero=>simp[C7]
   |succ n ih=>simp only[List.replicate_succ,C7,cond_false];omega
  simpa using this ops.size
 ·have hno:∀k,¬P5 (Array.replicate ops.size false) k:=by
   intro k hk;rw[P5,Array.getD_eq_getD_getElem?,Array.getElem?_replicate]at hk;split at hk<;>simp at hk
  refine⟨{hr with st:=hr.st.drew,sl:=fun j=>R.ev (Ev.drew w F) (fun _ h=>h) (fun _ _ h=>h) (hr.sl j),gl:=fun g=>RF.ev (Ev.drew w F) (fun _ h=>h) (hr.gl g)},by simp,fun i hi=>absurd hi (hno i),fun t=> .inr ⟨fun k o hk=>absurd hk (hno k),by rw[e1]⟩,fun id=> .inr ⟨fun k hk=>absurd hk (hno k),by rw[e2]⟩⟩
end
end Go.Scr
namespace Go.Scr
theorem CO:∀{k m:Nat} {l:List Id},ip k m l=true->∀j,j<m->l[j]? =some (.k (k+j))
 |k,0,l,_,j,hj=>by omega
 |k,m+1,[],h,j,hj=>by simp[ip]at h
 |k,m+1,.d .. ::r,h,j,hj=>by simp[ip]at h
 |k,m+1,.k i::r,h,j,hj=>by
  simp only[ip,Bool.and_eq_true]at h;cases j with
  |zero=>simp[Nat.eq_of_beq_eq_true h.1]
  |succ j=>
   have:=CO h.2 j (by omega);rw[show k+(j+1)=k+1+j by omega];simpa using this
theorem a32 {H:Hp} {all:List Id}:∀{l:List Id} {bs:List B},fA H l all l bs->True:=fun _=>trivial
theorem yg {H:Hp} {d7 all:List Id}:∀{l:List Id} {bs:List B},fA H d7 all l bs->l.length=bs.length/\∀(k:Nat) (X:B),bs[k]? =some X->∃id Y,l[k]? =some id/\H id=some Y/\X=cK H all Y
 |[],[],_=>⟨rfl,fun k X h=>by simp at h⟩
 |[],_::_,h=>by simp[fA]at h
 |_::_,[],h=>by simp[fA]at h
 |id::r,b::bs,h=>by
  unfold fA at h;obtain⟨⟨Y,hY,hb⟩,h⟩:=h;obtain⟨h1,h2⟩:=yg h;refine⟨by simp[h1],fun k X hk=> ?_⟩;cases k with
  |zero=>simp at hk;subst hk;exact⟨id,Y,by simp,hY,hb.symm⟩
  |succ k=>
   obtain⟨i,Z,g1,g2,g3⟩:=h2 k X (by simpa using hk);exact⟨i,Z,by simpa using g1,g2,g3⟩
theorem yh {H:Hp} {d7:List Id} {T:Nat->V}:∀{sl:List (Nat×V)},pt H d7 T sl->∀j,lk sl j= .u\/p5 H d7 6 (T j)=lk sl j
 |[],_,j=> .inl rfl
 |(i,v)::r,h,j=>by
  unfold pt at h;unfold lk;cases hb:Nat.beq i j
  ·exact yh h.2 j
  ·have:=Nat.eq_of_beq_eq_true hb;subst this;exact .inr h.1
section
variable {C:m6} {N m:Nat} {ds:List Deferred} {w0:World} {L F0:Nat->Prop} {ι0:Io}
theorem jG {F:Nat->Prop} {ι:Io} {T:Nat->V} {H:Hp} {a:Act} {w:World} (hι0:∀id x,ι0 id=some x->∃k,k<m/\id= .k k) (hr:B1 C N ds w0 L F0 ι0 F ι T H a w) {d7:List Id} {bs:List B}
  (hnd:dQ d7=true) (hl:ip 0 m d7=true) (hB:fA H d7 d7 d7 bs) (T':Nat->V) (hT:∀j,T' j= .u\/p5 H d7 6 (T j)=T' j):B1 C N ds w0 L F0 ι0 (Fx F ι H d7) (Ik ι d7) T' (Hof bs) a w:=by
 obtain⟨s3,hget⟩:=yg hB;have hlent:=CO hl;refine⟨St.keep hr.st (fun _ _ h=>h) d7 (oK hnd) (fun k X hk _=>hget k X hk),fun b hb=> .inl (hr.f0 b hb),?_,?_,?_,hr.n,hr.df,?_,fun g=>(hr.gl g).mono fun _=> .inl⟩
 ·rintro b (hb|⟨id,X,base,h1,h2,_,h4⟩)
  ·exact hr.fn b hb
  ·obtain⟨b',base',hi',_,hL,_⟩:=(hr.st.own id X h1 h2).resolve_left (by simp[h4]);rw[h4]at hi';simp only[Option.some.injEq,Prod.mk.injEq]at hi';obtain⟨rfl,rfl⟩:=hi';exact .inr hL
 ·intro id x hx;obtain⟨k,hk,rfl⟩:=hι0 id x hx;have:=hlent k hk;rw[Nat.zero_add]at this;simp[Ik,this,hr.im _ _ hx]
 ·intro id x hx;cases id with
  |d=>simp[Ik]at hx
  |k k=>
   have hk:k<d7.length:=by
    rcases Nat.lt_or_ge k d7.length with h|h
    ·exact h
    ·simp[Ik,List.getElem?_eq_none h]at hx
   simp[Hof];omega
 ·intro j;rcases hT j with h|h
  ·rw[h];exact .fz .u
  ·rw[<-h];exact io hr.st (fun _ _ h=>h) d7 6 (hr.sl j)
theorem dW {F:Nat->Prop} {ι:Io} {s:S} {d:D} {a:Act} {w:World} (hι0:∀id x,ι0 id=some x->∃k,k<m/\id= .k k) (hr:B1 C N ds w0 L F0 ι0 F ι s.T s.H a w) (h:Mt m s d):
  ∃F' ι',B1 C N ds w0 L F0 ι0 F' ι' d.s.T d.s.H a w:=by
 obtain⟨d7,h⟩:=h;obtain⟨h1,h2,h3⟩:=B0.1 h;simp only[Bool.and_eq_true]at h1;exact⟨_,_,jG hι0 hr h1.1 h1.2 h3 (lk d.sl) fun j=>yh h2 j⟩
theorem Xr {v:V} (h:rM v=true):v= .s (.slice none 0 0):=by
 unfold rM at h;split at h
 ·rfl
 ·cases h
theorem Qg {b:B} (h:qz b=true):b.len=0:=by
 unfold qz at h;split at h
 ·rfl
 ·rfl
 ·rfl
 ·cases h
theorem Xs {F:Nat->Prop} {ι:Io} {s:S} {a:Act} {w:World} {j e:Nat} {id:Id} {b:B} (hr:B1 C N ds w0 L F0 ι0 F ι s.T s.H a w) (h1:rM (s.T j)=true) (h2:qz b=true) (h3:s.H id=none):
  B1 C N ds w0 L F0 ι0 F ι (up s.T j (.o e id 0 0)) (x5 s.H id (some b)) a w:=by
 have nx:=wD hr.st hr.dm h3 (Qg h2);refine⟨nx.st,hr.f0,hr.fn,hr.im,?_,hr.n,hr.df,?_,hr.gl⟩
 ·intro i x hx;unfold x5;cases Id.eq id i
  ·exact hr.dm i x hx
  ·simp
 ·intro i;unfold up;cases hb:Nat.beq j i
  ·exact hr.sl i
  ·have:=Nat.eq_of_beq_eq_true hb;subst this;have:=hr.sl j;rw[Xr h1]at this;have h0:=this.s_inv;rw[h0];exact .o0
theorem rP {F:Nat->Prop} {ι:Io} {a:Act} {w:World} {K:S->Prop}:∀{l:List (Nat×Nat×B)} {k:Nat} {s:S},B1 C N ds w0 L F0 ι0 F ι s.T s.H a w->ar l k s K->∃s',K s'/\B1 C N ds w0 L F0 ι0 F ι s'.T s'.H a w
 |[],k,s,hr,h=>⟨s,h,hr⟩
 |(j,e,b)::r,k,s,hr,h=>by
  unfold ar at h;obtain⟨h1,h2⟩:=B0.1 h;simp only[Bool.and_eq_true,Option.isNone_iff_eq_none]at h1;exact rP (s:=⟨_,_⟩) (Xs hr h1.1.1 h1.1.2 h1.2) h2
theorem M3.mono {K K':X->S->Prop} (h:∀x s,K x s->K' x s) {e:Exit} {a:Act} {w:World} (ho:M3 C N ds w0 L F0 ι0 K e a w):M3 C N ds w0 L F0 ι0 K' e a w:=by
 obtain⟨x,s,F,ι,h1,h2,h3⟩:=ho;exact⟨x,s,F,ι,h x s h1,h2,h3⟩
theorem Bm {p:Nat->Prop} (h:∃n,p n):∃n,p n/\∀k,p k->n<=k:=by
 obtain⟨n,hn⟩:=h;induction n using Nat.strongRecOn with
 |_ n ih=>
  by_cases hh:∃k,k<n/\p k
  ·obtain⟨k,hk,hp⟩:=hh;exact ih k hk hp
  ·exact⟨n,hn,fun k hk=>Nat.le_of_not_lt fun d8=>hh ⟨k,d8,hk⟩⟩
open Classical in
noncomputable def me (p:Nat->Prop):Nat:=if h:∃n,p n then Classical.choose (Bm h)else 0
theorem mf {p:Nat->Prop} (h:∃n,p n):p (me p)/\∀k,p k->me p<=k:=by
 unfold me;rw[dif_pos h];exact Classical.choose_spec (Bm h)
def G4 (rt:Rt) (N:Nat):Code->Bool
 | .region id ops d=>match d with
  |false=>gg N ops.toList
  |true=>si N ops.toList (rt.at id)
 | .seq x y=>G4 rt N x&&G4 rt N y
 | .cond _ x y=>G4 rt N x&&G4 rt N y
 | .block _ c=>G4 rt N c
 | .loop c=>G4 rt N c
 | .scope c=>G4 rt N c
 |_=>true
theorem dl {rt:Rt} (hC:q6 C) (hι0:∀id x,ι0 id=some x->∃k,k<m/\id= .k k):∀(c:Code) (s:S) (K:X->S->Prop) (F:Nat->Prop) (ι:Io) (a:Act) (w:World),G4 rt N c=true->vc C rt m c s K->B1 C N ds w0 L F0 ι0 F ι s.T s.H a w->
  c.wp C.P (M3 C N ds w0 L F0 ι0 K) a w:=by
 intro c;induction c with
 |skip=>intro s K F ι a w _ h hr;exact wp_skip ⟨.normal,s,F,ι,h,hr,rfl⟩
 |label l=>intro s K F ι a w _ h hr;exact wp_label ⟨.normal,s,F,ι,h,hr,rfl⟩
 |exit id=>intro s K F ι a w _ h hr;exact wp_exit ⟨.exit id,s,F,ι,h,hr,rfl⟩
 |goto l=>intro s K F ι a w _ h hr;exact wp_goto ⟨.goto l,s,F,ι,h,hr,rfl⟩
 |ret=>intro s K F ι a w _ h hr;exact wp_ret ⟨.ret,s,F,ι,h,hr,rfl⟩
 |region id ops d=>
  intro s K F ι a w hok h hr;rw[a3F]at h;unfold G4 at hok;cases d
  ·exact wp_region_list (DJ hC _ hok h hr)
  ·exact Qf hC hok h hr id
 |seq x y ihx ihy=>
  intro s K F ι a w hok h hr;simp only[G4,Bool.and_eq_true]at hok;rw[GO]at h;refine wp_seq (wp_mono (ihx s _ F ι a w hok.1 h hr) ?_);rintro e a' w' ⟨q,s',F',ι',hk,hr',hm⟩;cases q with
  |normal=>subst hm;exact ihy s' K F' ι' a' w' hok.2 hk hr'
  |exit id=>subst hm;exact⟨.exit id,s',F',ι',hk,hr',rfl⟩
  |goto l=>subst hm;exact⟨.goto l,s',F',ι',hk,hr',rfl⟩
  |ret=>subst hm;exact⟨.ret,s',F',ι',hk,hr',rfl⟩
  |pan v=>obtain⟨z,rfl,hR⟩:=hm;exact⟨.pan v,s',F',ι',hk,hr',z,rfl,hR⟩
 |cond c x y ihx ihy=>
  intro s K F ι a w hok h hr;simp only[G4,Bool.and_eq_true]at hok;rw[a3D]at h;split at h
  ·rename_i b hb;have h1:=hr.ev c;rw[hb]at h1;refine wp_cond h1.s_inv ?_;rcases sy.1 h with ⟨rfl,h⟩|⟨rfl,h⟩
   ·exact ihx s K F ι a w hok.1 h hr
   ·exact ihy s K F ι a w hok.2 h hr
  ·rename_i hb;have h1:=hr.ev c;rw[hb]at h1;obtain⟨b,hv⟩:=h1.ub_inv;refine wp_cond hv ?_;cases b
   ·exact ihy s K F ι a w hok.2 h.2 hr
   ·exact ihx s K F ι a w hok.1 h.1 hr
  ·exact h.elim
 |block id c ih=>
  intro s K F ι a w hok h hr;unfold G4 at hok;rw[a3C]at h;refine wp_block (wp_mono (ih s _ F ι a w hok h hr) ?_);rintro e a' w' ⟨q,s',F',ι',hk,hr',hm⟩;cases q with
  |normal=>subst hm;exact⟨.normal,s',F',ι',hk,hr',rfl⟩
  |exit id'=>
   subst hm;simp only[Exit.inBlock];simp only at hk;cases hb:Nat.beq id' id
   ·rw[hb]at hk;rw[if_neg (Nat.ne_of_beq_eq_false hb)];exact⟨.exit id',s',F',ι',hk,hr',rfl⟩
   ·rw[hb]at hk;rw[if_pos (Nat.eq_of_beq_eq_true hb)];exact⟨.normal,s',F',ι',hk,hr',rfl⟩
  |goto l=>subst hm;exact⟨.goto l,s',F',ι',hk,hr',rfl⟩
  |ret=>subst hm;exact⟨.ret,s',F',ι',hk,hr',rfl⟩
  |pan v=>obtain⟨z,rfl,hR⟩:=hm;exact⟨.pan v,s',F',ι',hk,hr',z,rfl,hR⟩
 |loop c ih=>
  intro s K F ι a w hok h hr;unfold G4 at hok;rw[a3E]at h;obtain⟨α,I,Q,μ,⟨l0,x0,hx0,hm0⟩,hround⟩:=h;obtain⟨s0,hm0,hr⟩:=rP hr hm0
  let J:α->Act->World->Prop:=fun x a w=>Q x/\∃F ι,B1 C N ds w0 L F0 ι0 F ι (I x).s.T (I x).s.H a w
  refine wp_loop (fun a w=>∃x,J x a w) (fun a w=>me fun n=>∃x,μ x=n/\J x a w) ?_ ?_
  ·obtain⟨F',ι',hr'⟩:=dW hι0 hr hm0;exact⟨x0,hx0,F',ι',hr'⟩
  ·rintro a w ⟨x1,hx1⟩;obtain⟨⟨x,hxn,hx⟩,_⟩:=mf (p:=fun n=>∃x,μ x=n/\J x a w) ⟨μ x1,x1,rfl,hx1⟩;obtain⟨hQ,F',ι',hr'⟩:=hx;refine wp_mono (ih (I x).s _ F' ι' a w hok (hround x hQ) hr') ?_;rintro e a' w' ⟨q,s',F2,ι2,hk,hr2,hm⟩;cases q with
   |normal=>
    subst hm;obtain⟨y,hy,d8,hmt⟩:=hk;obtain⟨F3,ι3,hr3⟩:=dW hι0 hr2 hmt;have hJ:J y a' w':=⟨hy,F3,ι3,hr3⟩;refine⟨⟨y,hJ⟩,?_⟩;have:=(mf (p:=fun n=>∃x,μ x=n/\J x a' w') ⟨μ y,y,rfl,hJ⟩).2 (μ y) ⟨y,rfl,hJ⟩;omega
   |exit id=>subst hm;exact⟨.exit id,s',F2,ι2,hk,hr2,rfl⟩
   |goto l=>subst hm;exact⟨.goto l,s',F2,ι2,hk,hr2,rfl⟩
   |ret=>subst hm;exact⟨.ret,s',F2,ι2,hk,hr2,rfl⟩
   |pan v=>obtain⟨z,rfl,hR⟩:=hm;exact⟨.pan v,s',F2,ι2,hk,hr2,z,rfl,hR⟩
 |_=>intro s K F ι a w _ h hr;exact h.elim
theorem EI:∀(c:Code) (l:Nat) (p q:Code),K3 c l=some (p,q)->findLabel c l=some q:=by
 intro c;induction c with
 |label l'=>
  intro l p q h;unfold K3 at h;cases hb:Nat.beq l' l
  ·rw[hb]at h;cases h
  ·rw[hb]at h;simp only[Option.some.injEq,Prod.mk.injEq]at h;obtain⟨_,rfl⟩:=h;have:=Nat.eq_of_beq_eq_true hb;simp[findLabel,this]
 |seq x y ihx ihy=>
  intro l p q h;unfold K3 at h;have none:∀(c:Code),K3 c l=none->findLabel c l=none:=by
   intro c;induction c with
   |label l'=>
    intro h;unfold K3 at h;cases hb:Nat.beq l' l
    ·have:=Nat.ne_of_beq_eq_false hb;simp[findLabel,this]
    ·rw[hb]at h;cases h
   |seq a b iha ihb=>
    intro h;unfold K3 at h;cases ha:K3 a l with
    |some pq=>rw[ha]at h;cases h
    |none=>
     rw[ha]at h;cases hb:K3 b l with
     |some pq=>rw[hb]at h;cases h
     |none=>simp[findLabel,iha ha,ihb hb]
   |_=>intro _;rfl
  cases hx:K3 x l with
  |some pq=>
   obtain⟨p',q'⟩:=pq;rw[hx]at h;simp only[Option.some.injEq,Prod.mk.injEq]at h;obtain⟨_,rfl⟩:=h;simp[findLabel,ihx l p' q' hx]
  |none=>
   rw[hx]at h;cases hy:K3 y l with
   |some pq=>
    obtain⟨p',q'⟩:=pq;rw[hy]at h;simp only[Option.some.injEq,Prod.mk.injEq]at h;obtain⟨_,rfl⟩:=h;simp[findLabel,none x hx,ihy l p' q' hy]
   |none=>rw[hy]at h;cases h
 |_=>intro l p q h;cases h
theorem EJ {rt:Rt}:∀(c:Code) (l:Nat) (p q:Code),G4 rt N c=true->K3 c l=some (p,q)->G4 rt N p=true/\G4 rt N q=true:=by
 intro c;induction c with
 |label l'=>
  intro l p q _ h;unfold K3 at h;cases hb:Nat.beq l' l
  ·rw[hb]at h;cases h
  ·rw[hb]at h;simp only[Option.some.injEq,Prod.mk.injEq]at h;obtain⟨rfl,rfl⟩:=h;exact⟨rfl,rfl⟩
 |seq x y ihx ihy=>
  intro l p q hok h;simp only[G4,Bool.and_eq_true]at hok;unfold K3 at h;cases hx:K3 x l with
  |some pq=>
   obtain⟨p',q'⟩:=pq;rw[hx]at h;simp only[Option.some.injEq,Prod.mk.injEq]at h;obtain⟨rfl,rfl⟩:=h;obtain⟨h1,h2⟩:=ihx l _ _ hok.1 hx;exact⟨h1,by simp[G4,h2,hok.2]⟩
  |none=>
   rw[hx]at h;cases hy:K3 y l with
   |some pq=>
    obtain⟨p',q'⟩:=pq;rw[hy]at h;simp only[Option.some.injEq,Prod.mk.injEq]at h;obtain⟨rfl,rfl⟩:=h;obtain⟨h1,h2⟩:=ihy l _ _ hok.2 hy;exact⟨by simp[G4,h1,hok.1],h2⟩
   |none=>rw[hy]at h;cases h
 |_=>intro l p q _ h;cases h
theorem EK {rt:Rt} (hC:q6 C) (hι0:∀id x,ι0 id=some x->∃k,k<m/\id= .k k) {l:Nat} {α:Type} (I:α->D) (Q:α->Prop):∀(c p q:Code) (s:S) (K Kp:X->S->Prop) (Kq:α->X->S->Prop) (F:Nat->Prop) (ι:Io) (a:Act) (w:World),G4 rt N c=true->K3 c l=some (p,q)->
  vc C rt m p s Kp->(∀s',Kp .normal s'->∃l y,Q y/\ar l 0 s' fun s'=>Mt m s' (I y))->(∀e s',e≠ .normal->Kp e s'->K e s')->(∀x,Q x->vc C rt m q (I x).s (Kq x))->(∀x e s',Kq x e s'->K e s')->B1 C N ds w0 L F0 ι0 F ι s.T s.H a w->c.wp C.P (M3 C N ds w0 L F0 ι0 K) a w:=by
 intro c;induction c with
 |label l'=>
  intro p q s K Kp Kq F ι a w hok hs hp hpn hpe hq hqk hr;unfold K3 at hs;cases hb:Nat.beq l' l
  ·rw[hb]at hs;cases hs
  ·rw[hb]at hs;simp only[Option.some.injEq,Prod.mk.injEq]at hs;obtain⟨rfl,rfl⟩:=hs;obtain⟨l0,y,hy,hm⟩:=hpn _ hp;obtain⟨s0,hm,hr⟩:=rP hr hm;obtain⟨F',ι',hr'⟩:=dW hι0 hr hm;exact wp_label ⟨.normal,_,F',ι',hqk y _ _ (hq y hy),hr',rfl⟩
 |seq x y ihx ihy=>
  intro p q s K Kp Kq F ι a w hok hs hp hpn hpe hq hqk hr;simp only[G4,Bool.and_eq_true]at hok;unfold K3 at hs;have fin:∀(K2:S->Prop),(∀s' F' ι' a' w',K2 s'->B1 C N ds w0 L F0 ι0 F' ι' s'.T s'.H a' w'->y.wp C.P (M3 C N ds w0 L F0 ι0 K) a' w')->∀e a' w',M3 C N ds w0 L F0 ι0 (fun e s'=>match e with| .normal=>K2 s'|e=>K e s') e a' w'->Exit.then (y.wp C.P (M3 C N ds w0 L F0 ι0 K)) (M3 C N ds w0 L F0 ι0 K) e a' w':=by
   rintro K2 h2 e a' w' ⟨q,s',F',ι',hk,hr',hm⟩;cases q with
   |normal=>subst hm;exact h2 s' F' ι' a' w' hk hr'
   |exit id=>subst hm;exact⟨.exit id,s',F',ι',hk,hr',rfl⟩
   |goto l=>subst hm;exact⟨.goto l,s',F',ι',hk,hr',rfl⟩
   |ret=>subst hm;exact⟨.ret,s',F',ι',hk,hr',rfl⟩
   |pan v=>obtain⟨z,rfl,hR⟩:=hm;exact⟨.pan v,s',F',ι',hk,hr',z,rfl,hR⟩
  cases hx:K3 x l with
  |some pq=>
   obtain⟨p',q'⟩:=pq;rw[hx]at hs;simp only[Option.some.injEq,Prod.mk.injEq]at hs;obtain⟨rfl,rfl⟩:=hs;refine wp_seq (wp_mono (ihx p' q' s (fun e s'=>match e with| .normal=>∃z,vc C rt m y s' (Kq z)|e=>K e s') Kp (fun z e s'=>match e with| .normal=>vc C rt m y s' (Kq z)|e=>Kq z e s') F ι a w hok.1 hx hp hpn (fun e s' he hk=> ?_) (fun z hz=>hq z hz) (fun z e s' hk=> ?_) hr) (fin (fun s'=>∃z,vc C rt m y s' (Kq z)) fun s' F' ι' a' w' hk hr'=> ?_))
   ·cases e with
    |normal=>exact absurd rfl he
    |_=>exact hpe _ s' he hk
   ·cases e with
    |normal=>exact⟨z,hk⟩
    |_=>exact hqk z _ s' hk
   ·obtain⟨z,hz⟩:=hk;exact wp_mono (dl hC hι0 y s' _ F' ι' a' w' hok.2 hz hr') fun e a w ho=>M3.mono (fun e s hk=>hqk z e s hk) ho
  |none=>
   rw[hx]at hs;cases hy:K3 y l with
   |some pq=>
    obtain⟨p',q'⟩:=pq;rw[hy]at hs;simp only[Option.some.injEq,Prod.mk.injEq]at hs;obtain⟨rfl,rfl⟩:=hs;rw[GO]at hp;refine wp_seq (wp_mono (dl hC hι0 x s _ F ι a w hok.1 hp hr) fun e a' w' ho=>fin (fun s'=>vc C rt m p' s' Kp) (fun s' F' ι' a' w' hk hr'=>ihy p' q' s' K Kp Kq F' ι' a' w' hok.2 hy hk hpn hpe hq hqk hr') e a' w' (M3.mono (fun e s' hk=> ?_) ho));cases e with
    |normal=>exact hk
    |_=>exact hpe _ s' (by simp) hk
   |none=>rw[hy]at hs;cases hs
 |_=>intro p q s K Kp Kq F ι a w _ h;cases h
theorem a1u {rt:Rt} (hC:q6 C) (hι0:∀id x,ι0 id=some x->∃k,k<m/\id= .k k) (c:Code) (s:S) (K:X->S->Prop) (F:Nat->Prop) (ι:Io) (a:Act) (w:World) (hok:G4 rt N c=true) (h:jN C rt m c s K)
  (hr:B1 C N ds w0 L F0 ι0 F ι s.T s.H a w):(Code.scope c).wp C.P (M3 C N ds w0 L F0 ι0 K) a w:=by
 obtain⟨l,α,I,Q,μ,h⟩:=h;cases hsp:K3 c l with
 |none=>rw[hsp]at h;exact h.elim
 |some pq=>
  obtain⟨p,rest⟩:=pq;rw[hsp]at h;obtain⟨hfirst,hround⟩:=h;have hf:=EI c l p rest hsp;have hok':=(EJ c l p rest hok hsp).2
  let J:α->Act->World->Prop:=fun x a w=>Q x/\∃F ι,B1 C N ds w0 L F0 ι0 F ι (I x).s.T (I x).s.H a w
  have jump:∀{e a' w'},M3 C N ds w0 L F0 ι0 (fun e s'=>match e with
    | .goto l'=>l'=l/\∃y,Q y/\Mt m s' (I y)
    |e=>K e s') e a' w'->Exit.jump l (fun a w=>∃x,J x a w) (M3 C N ds w0 L F0 ι0 K) e a' w':=by
   rintro e a' w' ⟨q,s',F2,ι2,hk,hr2,hm⟩;cases q with
   |normal=>subst hm;exact⟨.normal,s',F2,ι2,hk,hr2,rfl⟩
   |exit id=>subst hm;exact⟨.exit id,s',F2,ι2,hk,hr2,rfl⟩
   |goto l'=>
    subst hm;obtain⟨hl,y,hy,hmt⟩:=hk;obtain⟨F3,ι3,hr3⟩:=dW hι0 hr2 hmt;exact⟨hl,y,hy,F3,ι3,hr3⟩
   |ret=>subst hm;exact⟨.ret,s',F2,ι2,hk,hr2,rfl⟩
   |pan v=>obtain⟨z,rfl,hR⟩:=hm;exact⟨.pan v,s',F2,ι2,hk,hr2,z,rfl,hR⟩
  refine wp_scope_jumps l (fun a w=>∃x,J x a w) (fun a w=>me fun n=>∃x,μ x=n/\J x a w) hf ?_ ?_
  ·refine wp_mono (EK hC hι0 I Q c p rest s (fun e s'=>match e with
    | .goto l'=>l'=l/\∃y,Q y/\Mt m s' (I y)
    |e=>K e s') _ _ F ι a w hok hsp hfirst (fun s' h=>h) (fun e s' he hk=> ?_) hround (fun x e s' hk=> ?_) hr) (fun e a w=>jump)
   ·cases e with
    |normal=>exact absurd rfl he
    |_=>exact hk
   ·cases e with
    |goto l'=>obtain⟨h1,y,h2,_,h3⟩:=hk;exact⟨h1,y,h2,h3⟩
    |_=>exact hk
  ·rintro a w ⟨x1,hx1⟩;obtain⟨⟨x,hxn,hx⟩,_⟩:=mf (p:=fun n=>∃x,μ x=n/\J x a w) ⟨μ x1,x1,rfl,hx1⟩;obtain⟨hQ,F',ι',hr'⟩:=hx;refine wp_mono (dl hC hι0 rest (I x).s _ F' ι' a w hok' (hround x hQ) hr') ?_;rintro e a' w' ⟨q,s',F2,ι2,hk,hr2,hm⟩;cases q with
   |normal=>subst hm;exact⟨.normal,s',F2,ι2,hk,hr2,rfl⟩
   |exit id=>subst hm;exact⟨.exit id,s',F2,ι2,hk,hr2,rfl⟩
   |goto l'=>
    subst hm;obtain⟨hl,y,hy,d8,hmt⟩:=hk;obtain⟨F3,ι3,hr3⟩:=dW hι0 hr2 hmt;have hJ:J y a' w':=⟨hy,F3,ι3,hr3⟩;refine⟨hl,⟨y,hJ⟩,?_⟩;have:=(mf (p:=fun n=>∃x,μ x=n/\J x a' w') ⟨μ y,y,rfl,hJ⟩).2 (μ y) ⟨y,rfl,hJ⟩;omega
   |ret=>subst hm;exact⟨.ret,s',F2,ι2,hk,hr2,rfl⟩
   |pan v=>obtain⟨z,rfl,hR⟩:=hm;exact⟨.pan v,s',F2,ι2,hk,hr2,z,rfl,hR⟩
theorem pF {rt:Rt} (hC:q6 C) (hι0:∀id x,ι0 id=some x->∃k,k<m/\id= .k k):∀(c:Code) (s:S) (K:X->S->Prop) (F:Nat->Prop) (ι:Io) (a:Act) (w:World),G4 rt N c=true->cB C rt m c s K->
  B1 C N ds w0 L F0 ι0 F ι s.T s.H a w->c.wp C.P (M3 C N ds w0 L F0 ι0 K) a w:=by
 intro c;induction c with
 |scope c _=>
  intro s K F ι a w hok h hr;unfold G4 at hok;exact a1u hC hι0 c s K F ι a w hok h hr
 |seq x y ihx ihy=>
  intro s K F ι a w hok h hr;simp only[G4,Bool.and_eq_true]at hok;rw[Ii]at h;refine wp_seq (wp_mono (ihx s _ F ι a w hok.1 h hr) ?_);rintro e a' w' ⟨q,s',F',ι',hk,hr',hm⟩;cases q with
  |normal=>subst hm;exact ihy s' K F' ι' a' w' hok.2 hk hr'
  |exit id=>subst hm;exact⟨.exit id,s',F',ι',hk,hr',rfl⟩
  |goto l=>subst hm;exact⟨.goto l,s',F',ι',hk,hr',rfl⟩
  |ret=>subst hm;exact⟨.ret,s',F',ι',hk,hr',rfl⟩
  |pan v=>obtain⟨z,rfl,hR⟩:=hm;exact⟨.pan v,s',F',ι',hk,hr',z,rfl,hR⟩
 |rangeFunc _ _ _ _ _ _=>intro s K F ι a w hok h hr;exact h.elim
 |refuse _=>intro s K F ι a w hok h hr;exact h.elim
 |_=>
  intro s K F ι a w hok h hr;exact dl hC hι0 _ s K F ι a w hok h hr
theorem xd (hC:q6 C) {T:Nat->V} {H:Hp}:∀(l:List ResultVar) (K:List V->Prop),bZ C T H l K->∃vs,K vs/\∀(w0:World) (L:Nat->Prop) (w:World) (F:Nat->Prop) (ι:Io) (tmps:Array Value) (g:ResultVar->Sem Value),St w0 L w F ι H->(∀t,g (.tmp t)=pure (tmps.getD t undef))->(∀a t,g (.cell a t)=do loadVar t (<-asAddr (tmps.getD a undef)))->
  (∀j,R w F ι (T j) (tmps.getD j undef))->∃xs,(l.mapM g).run C.P w= .ok xs w/\RL w F ι vs xs
 |[],K,h=>⟨[],h,fun w0 L w F ι tmps g _ _ _ _=>⟨[],by simp,.nil⟩⟩
 | .tmp t::r,K,h=>by
  unfold bZ at h;rw[X8]at h;obtain⟨vs,hk,hh⟩:=xd hC r _ h;refine⟨_,hk,fun w0 L w F ι tmps g st hg hg2 hs=> ?_⟩;obtain⟨xs,h1,h2⟩:=hh w0 L w F ι tmps g st hg hg2 hs;refine⟨tmps.getD t undef::xs,?_,.cons (hs t) h2⟩;rw[List.mapM_cons];simp only[Sem.run_bind,Sem.run_pure,Result.andThen_ok,h1,hg]
 | .cell a t::r,K,h=>by
  unfold bZ at h;obtain⟨v,h,hv⟩:=CP hC h;rw[X8]at h;obtain⟨vs,hk,hh⟩:=xd hC r _ h;refine⟨_,hk,fun w0 L w F ι tmps g st hg hg2 hs=> ?_⟩;obtain⟨xs,h1,h2⟩:=hh w0 L w F ι tmps g st hg hg2 hs;obtain⟨z,h3,h4,ad,h5⟩:=hv w0 L w F ι H _ st (fun _ _ h=>h) (hs a);refine⟨z::xs,?_,.cons h4 h2⟩;rw[List.mapM_cons];have h6:(loadVar t ad).run C.P w= .ok z w:=by
   rw[h5]at h3;simpa [Instr.loadAt,Instr.sureAddr]using h3
  simp only[Sem.run_bind,Sem.run_pure,Result.andThen_ok,h1,hg2,h5,asAddr,h6]
theorem mI (hC:q6 C) {fn:Func} {T:Nat->V} {H:Hp} {K:List V->Prop} (h:bZ C T H fn.results.toList K):∃vs,K vs/\∀(w0:World) (L:Nat->Prop) (w:World) (F:Nat->Prop) (ι:Io) (tmps:Array Value),St w0 L w F ι H->(∀j,R w F ι (T j) (tmps.getD j undef))->
  ∃x,(results fn tmps).run C.P w= .ok x w/\R w F ι (dT vs) x:=by
 obtain⟨vs,hk,hh⟩:=xd hC _ K h;refine⟨vs,hk,fun w0 L w F ι tmps st hs=> ?_⟩;have key:∀g:ResultVar->Sem Value,(∀t,g (.tmp t)=pure (tmps.getD t undef))->(∀a t,g (.cell a t)=do loadVar t (<-asAddr (tmps.getD a undef)))->∃x,(do let us <-fn.results.mapM g;pure (if h:us.size=1 then us[0]else Value.tuple us):Sem Value).run C.P w= .ok x w/\R w F ι (dT vs) x:=by
  intro g hg hg2;obtain⟨xs,h1,h2⟩:=hh w0 L w F ι tmps g st hg hg2 hs;refine⟨if h:xs.toArray.size=1 then xs.toArray[0]else .tuple xs.toArray,?_,?_⟩
  ·rw[Sem.run_bind,Array.mapM_eq_mapM_toList,Sem.run_map,h1];simp only[Result.andThen_ok,Sem.run_pure]
  ·clear h1;cases h2 with
   |nil=>simp only[List.size_toArray,List.length_nil];exact .t .nil
   |cons k k'=>
    cases k' with
    |nil=>simpa [dT]using k
    |cons k1 k2=>
     simp only[List.size_toArray,List.length_cons,dT];rw[dif_neg (by omega)];exact .t (.cons k (.cons k1 k2))
 unfold results;exact key _ (fun _=>rfl) (fun _ _=>rfl)
end
def W0 (rt:Rt) (fn:Func):Bool:=match fn.body with
 |some c=>G4 rt fn.ntmps c
 |none=>false
theorem js {P : Program} {f : FuncId} {fn : Func} (hf : P.funcs[f]? = some fn) (hname : (fn.name == "runtime.NumGoroutine") = false) {c : Code} (hb : fn.body = some c) (as : Array Value) (w : World) : (callFunc f as).run P w = .ok (.enter f as) w := by
 have hn : fn.name ≠ "runtime.NumGoroutine" := by simpa using hname
 unfold callFunc;simp[hf,hn,hb]
mutual
theorem Wk.rf {w:World} {F:Nat->Prop}:∀{x y:V},Wk x y->∀{v:Value},RF w F x v->RF w F y v
 |_,_,.refl _,_,h=>h
 |_,_,.nl,_,h=>by cases h;exact .z0
 |_,_,.nlz,_,h=>by cases h;exact .zz0
 |_,_,.z0,_,h=>by cases h<;>exact .z0
 |_,_,.zz0,_,h=>by cases h<;>exact .zz0
 |_,_,.u,_,_=> .u
 |_,_,.t l,_,h=>by cases h with|t hl=>exact .t (l.rf hl)
theorem aU.rf {w:World} {F:Nat->Prop}:∀{x y:List V},aU x y->∀{v:List Value},n7 w F x v->n7 w F y v
 |_,_,.nil,_,h=>h
 |_,_,.cons a l,_,h=>by cases h with|cons h1 h2=>exact .cons (a.rf h1) (l.rf h2)
end
mutual
theorem Wk.r {w:World} {F:Nat->Prop} {ι:Io}:∀{x y:V},Wk x y->∀{v:Value},R w F ι x v->R w F ι y v
 |_,_,.refl _,_,h=>h
 |_,_,.nl,_,h=>by cases h with|fz h=>exact .fz (Wk.nl.rf h)
 |_,_,.nlz,_,h=>by cases h with|fz h=>exact .fz (Wk.nlz.rf h)
 |_,_,.z0,_,h=>by cases h with|fz h=>exact .fz (Wk.z0.rf h)
 |_,_,.zz0,_,h=>by cases h with|fz h=>exact .fz (Wk.zz0.rf h)
 |_,_,.u,_,_=> .fz .u
 |_,_,.t l,_,h=>by
  cases h with
  |fz h=>cases h with|t hl=>exact .fz (.t (l.rf hl))
  |t hl=>exact .t (l.r hl)
theorem aU.r {w:World} {F:Nat->Prop} {ι:Io}:∀{x y:List V},aU x y->∀{v:List Value},RL w F ι x v->RL w F ι y v
 |_,_,.nil,_,h=>h
 |_,_,.cons a l,_,h=>by cases h with|cons h1 h2=>exact .cons (a.r h1) (l.r h2)
end
theorem E8.oc {a b:Oc} (h:E8 a b) {w:World} {F:Nat->Prop} {ι:Io} {e:Ending} (hr:aT w F ι a e):aT w F ι b e:=by
 cases h with
 |ret h=>obtain⟨x,e,k⟩:=hr;exact⟨x,e,h.r k⟩
 |pan h=>obtain⟨x,e,k⟩:=hr;exact⟨x,e,h.r k⟩
theorem x7.len {a b:List B} (h:x7 a b):a.length<=b.length:=by
 induction h with
 |nil=>exact Nat.le_refl _
 |dd _ ih=>exact Nat.zero_le _
 |cons _ _ ih=>simpa using ih
theorem x7.at {a b:List B} (h:x7 a b):∀{k:Nat} {y:B},b[k]? =some y->y≠ .dead->∃x,a[k]? =some x/\kd x y:=by
 induction h with
 |nil=>intro k y h;simp at h
 |dd _ ih=>
  intro k y h hd;cases k with
  |zero=>simp at h;exact absurd h.symm hd
  |succ k=>
   obtain⟨x,hx,_⟩:=ih (k:=k) (by simpa using h) hd;simp at hx
 |cons hx _ ih=>
  intro k y h hd;cases k with
  |zero=>simp at h;subst h;exact⟨_,by simp,hx⟩
  |succ k=>simpa using ih (by simpa using h) hd
theorem aU.len {a b:List V}:aU a b->a.length=b.length
 | .nil=>rfl
 | .cons _ l=>by simp[l.len]
theorem St.wk {w0:World} {L:Nat->Prop} {w:World} {F:Nat->Prop} {ι:Io} {bs bs':List B} (st:St w0 L w F ι (Hof bs)) (h:x7 bs bs'):St w0 L w F ι (Hof bs'):=by
 have at':∀id Y,Hof bs' id=some Y->Y≠ .dead->∃X,Hof bs id=some X/\kd X Y:=by
  intro id Y hy hd;cases id with
  |d=>simp[Hof]at hy
  |k k=>exact h.at hy hd
 have dead:∀{X Y:B},kd X Y->Y≠ .dead->X≠ .dead:=by
  intro X Y hw hy;cases hw with
  |refl=>exact hy
  |mx=>simp
 refine⟨st.os,st.tape,st.output,st.size,st.old,st.shp,st.fr,?_,?_⟩
 ·intro id Y hy hd;obtain⟨X,hX,hw⟩:=at' id Y hy hd;rcases st.own id X hX (dead hw hd)with ⟨h0,hi⟩|⟨b,base,hi,h1,h2,arr,t,fr,hh,h3,vs,hc,hb⟩
  ·refine .inl ⟨?_,hi⟩;cases hw with
   |refl=>exact h0
   |mx l=>simpa [B.len,l.len]using h0
  ·refine .inr ⟨b,base,hi,h1,h2,arr,t,fr,hh,h3,vs,hc,?_⟩;cases hw with
   |refl=>exact hb
   |mx l=>exact l.r hb
 ·intro id id' X X' b base base' h1 h2 h3 h4;obtain⟨Y,hY,hw⟩:=at' id X h1 h2;obtain⟨Y',hY',hw'⟩:=at' id' X' h3 h4;exact st.inj id id' Y Y' b base base' hY (dead hw h2) hY' (dead hw' h4)
theorem AL {C : m6} {rt : Rt} {f : FuncId} {fn : Func} {args : List V} {bs bs' : List B} {r : Oc} (hC : q6 C) (hf : C.P.funcs[f]? = some fn) (hname : (fn.name == "runtime.NumGoroutine") = false) (hok : W0 rt fn = true) (hargs : Nat.ble args.length fn.ntmps = true)
  {K:X->S->Prop} (hK:∀e s,K e s->po C bs.length fn.results.toList r bs' e s)
  (h:match fn.body with|some c=>cB C rt bs.length c ⟨D3 args,Hof bs⟩ K|none=>False):b9 C f args bs r bs':=by
 unfold W0 at hok;cases hb:fn.body with
 |none=>rw[hb]at h;exact h.elim
 |some c=>
  rw[hb]at h hok;simp only at h hok;refine⟨js hf hname hb,fun w F ι vs st hgl hdm hl=> ?_⟩;have s3:args.length=vs.size:=by simpa using hl.length
  have hle:=Nat.le_of_ble_eq_true hargs;refine calls_of_wp hf hb (wp_mono (pF (ds:=[]) (N:=fn.ntmps) (m:=bs.length) (w0:=w) (L:=Lb ι bs) (F0:=F) (ι0:=ι) hC hdm c ⟨D3 args,Hof bs⟩ _ F ι _ w hok h ?_) ?_)
  ·refine⟨st,fun _ h=>h,fun _ h=> .inl h,fun _ _ h=>h,?_,by simp;omega,rfl,?_,hgl⟩
   ·intro id x hx;obtain⟨k,hk,rfl⟩:=hdm id x hx;simp[Hof,hk]
   ·intro j;have lk_get:∀(l:List V) (j:Nat),D3 l j=match l[j]? with|some v=>v|none=> .u:=by
     intro l;induction l with
     |nil=>intro j;rfl
     |cons x r ih=>
      intro j;cases j with
      |zero=>rfl
      |succ j=>simpa [D3]using ih j
    show R w F ι (D3 args j) ((vs++Array.replicate (fn.ntmps-vs.size) undef).getD j undef);rw[lk_get];cases hj:args[j]? with
    |none=>exact .fz .u
    |some v=>
     obtain⟨x,hx,hR⟩:=hl.get hj;have hx':vs[j]? =some x:=by simpa using hx
     have d8:=(Array.getElem?_eq_some_iff.1 hx').1;simpa [Array.getElem?_append_left d8,hx']using hR
  ·rintro e a' w' ⟨q,s',F',ι',hk0,hr,hm⟩;obtain⟨r0,bs0,hk,hwr,hwb⟩:=hK _ _ hk0;have hln:=hwb.len;have fin:∀(v v':V) (x:Value),cu bs.length v s' v' bs0->R w' F' ι' v x->∃(F2:Nat->Prop) (ι2:Io),(∀b,F b->F2 b)/\(∀b,F2 b->F b\/Lb ι bs b\/w.heap.size<=b)/\(∀id x,ι id=some x->ι2 id=some x)/\
     St w (Lb ι bs) w' F2 ι2 (Hof bs')/\(∀id x,ι2 id=some x->∃k,k<bs'.length/\id= .k k)/\R w' F2 ι2 v' x:=by
    rintro v v' x ⟨d7,he⟩ hR;obtain⟨h1,h2,h3⟩:=B0.1 he;simp only[Bool.and_eq_true]at h1;have kr:=jG hdm hr h1.1 h1.2 h3 (fun _=> .u) fun _=> .inl rfl;refine⟨_,_,kr.f0,kr.fn,kr.im,kr.st.wk hwb,fun id x hx=> ?_,?_⟩
    ·have:=kr.dm id x hx;cases id with
     |d=>simp[Hof]at this
     |k k=>
      refine⟨k,?_,rfl⟩;rcases Nat.lt_or_ge k bs0.length with h|h
      ·exact Nat.lt_of_lt_of_le h hln
      ·simp[Hof,List.getElem?_eq_none h]at this
    ·rw[<-h2];exact io hr.st (fun _ _ h=>h) d7 6 hR
   have ret:∀(h:bZ C s'.T s'.H fn.results.toList fun vs=>∃w,r0= .ret w/\cu bs.length (dT vs) s' w bs0),a'.defers=[]/\∃v,(results fn a'.tmps).run C.P w'= .ok v w'/\∃(F2:Nat->Prop) (ι2:Io),(∀b,F b->F2 b)/\(∀b,F2 b->F b\/Lb ι bs b\/w.heap.size<=b)/\(∀id x,ι id=some x->ι2 id=some x)/\
     St w (Lb ι bs) w' F2 ι2 (Hof bs')/\(∀id x,ι2 id=some x->∃k,k<bs'.length/\id= .k k)/\aT w' F2 ι2 r (.returned v):=by
    intro h;obtain⟨vs,⟨v',hr',he⟩,hh⟩:=mI hC h;obtain⟨x,hx,hR⟩:=hh _ _ w' F' ι' a'.tmps hr.st hr.sl;obtain⟨F2,ι2,g1,g2,g3,g4,g5,g6⟩:=fin _ _ _ he hR;exact⟨hr.df,x,hx,F2,ι2,g1,g2,g3,g4,g5,hwr.oc (by rw[hr'];exact⟨x,rfl,g6⟩)⟩
   cases q with
   |normal=>subst hm;exact ret hk
   |ret=>subst hm;exact ret hk
   |pan v=>
    obtain⟨y,rfl,hR⟩:=hm;obtain⟨v',hr',he⟩:=hk;obtain⟨F2,ι2,g1,g2,g3,g4,g5,g6⟩:=fin _ _ _ he hR;exact⟨hr.df,F2,ι2,g1,g2,g3,g4,g5,hwr.oc (by rw[hr'];exact⟨y,rfl,g6⟩)⟩
   |exit id=>exact hk.elim
   |goto l=>exact hk.elim
theorem Pu {C : m6} {rt : Rt} {f : FuncId} {fn : Func} {args : List V} {bs bs' : List B} {r : Oc} (hC : q6 C) (hf : C.P.funcs[f]? = some fn) (hname : (fn.name == "runtime.NumGoroutine") = false) (hok : W0 rt fn = true) (hargs : Nat.ble args.length fn.ntmps = true)
  (h:ye C rt fn args bs r bs'):b9 C f args bs r bs':=AL hC hf hname hok hargs (fun _ _ h=>h) h
theorem E8.refl:∀(r:Oc),E8 r r
 | .ret _=> .ret (.refl _)
 | .pan _=> .pan (.refl _)
theorem x7.refl:∀(l:List B),x7 l l
 |[]=> .nil
 |_::r=> .cons (.refl _) (x7.refl r)
theorem Pp {C : m6} {rt : Rt} {f : FuncId} {fn : Func} {args : List V} {bs bs' : List B} {r : Oc} (hC : q6 C) (hf : C.P.funcs[f]? = some fn) (hname : (fn.name == "runtime.NumGoroutine") = false) (hok : W0 rt fn = true) (hargs : Nat.ble args.length fn.ntmps = true)
  (h:tj C rt fn args bs r bs'):b9 C f args bs r bs':=AL hC hf hname hok hargs (fun _ _ h=>⟨_,_,h,.refl _,.refl _⟩) h
end Go.Scr
namespace Go.Scr
inductive TT where
 |l
 |n (k:Nat) (ti:TI) (a b:TT)
def TT.get:TT->Nat->Option TI
 | .l,_=>none
 | .n k ti a b,t=>match Nat.beq t k with
  |true=>some ti
  |false=>match Nat.blt t k with
   |true=>a.get t
   |false=>b.get t
def TT.all (p:Nat->TI->Prop):TT->Prop
 | .l=>True
 | .n k ti a b=>p k ti/\a.all p/\b.all p
theorem TT.get_all {p:Nat->TI->Prop}:∀{t:TT},t.all p->∀{k:Nat} {ti:TI},t.get k=some ti->p k ti
 | .l,_,k,ti,h=>by cases h
 | .n k0 t0 a b,⟨h0,ha,hb⟩,k,ti,h=>by
  unfold TT.get at h;cases hk:Nat.beq k k0
  ·rw[hk]at h;cases hl:Nat.blt k k0
   ·rw[hl]at h;exact get_all hb h
   ·rw[hl]at h;exact get_all ha h
  ·rw[hk]at h;simp only[Option.some.injEq]at h;rw[Nat.eq_of_beq_eq_true hk,<-h];exact h0
def xL (P:Program) (t:Nat):Option (Nat×Nat×List Value):=(P.info? t).bind fun i=>i.zero.map fun z=>(i.size,i.bytes,z.cells.toList)
def tC (P:Program) (t:Nat) (ti:TI):Prop:=P.underlying t=some ti.desc/\xL P t=some (ti.size,ti.bytes,ti.zero)/\(Nat.beq ti.zero.length ti.size&&ti.zero.all (·.oneCell'))=true
theorem PK {P:Program} {tree:TT} {gl:Nat->V} (h:tree.all (tC P)) (hm:P.follows .mixedOrders=true):q6 ⟨P,tree.get,gl⟩ where
 ty:=by
  intro t ti ht;obtain⟨h1,h2,h3⟩:=TT.get_all h ht;refine⟨h1,?_⟩;unfold xL at h2;simp only[Option.bind_eq_some_iff,Option.map_eq_some_iff,Prod.mk.injEq]at h2;obtain⟨i,hi,z,hz,e1,e2,e3⟩:=h2;simp only[Bool.and_eq_true]at h3;exact⟨i,z,hi,e1,e2,hz,e3,Nat.eq_of_beq_eq_true h3.1,h3.2⟩
 mixed:=hm
structure V4 (C:m6) (f:Nat) (rt:Rt) (fn:Func) (nt:Nat):Prop where
 ok:q6 C
 f:C.P.funcs[f]? =some fn
 name : (fn.name == "runtime.NumGoroutine") = false
 rt:W0 rt fn=true
 nt:fn.ntmps=nt
abbrev Fc (C:m6) (f:Nat) (rt:Rt) (fn:Func) (nt:Nat):Prop:=∀{args:List V} {bs bs':List B} {r:Oc},tj C rt fn args bs r bs'->(ha:Nat.ble args.length nt=true:=by rfl)->b9 C f args bs r bs'
theorem V4.c {C:m6} {f:Nat} {rt:Rt} {fn:Func} {nt:Nat} (d:V4 C f rt fn nt):Fc C f rt fn nt:=fun h ha=>Pp d.ok d.f d.name d.rt (by rw[d.nt];exact ha) h
theorem V4.w {C:m6} {f:Nat} {rt:Rt} {fn:Func} {nt:Nat} (d:V4 C f rt fn nt) {args:List V} {bs bs':List B} {r:Oc} (h:ye C rt fn args bs r bs') (ha:Nat.ble args.length nt=true:=by rfl):b9 C f args bs r bs':=Pu d.ok d.f d.name d.rt (by rw[d.nt];exact ha) h
end Go.Scr
namespace Go.Scr
structure tc (P:Program) (fc:FuncId) (tR:TypeId):Prop where
 enter:∀(as:Array Value) (w:World),(callFunc fc as).run P w= .ok (.enter fc as) w
 idle:∀(x y:Value) (w:World),CallsD P fc #[x,y] .returning w fun e u' w'=>e= .returned (.tuple #[])/\u'= .returning/\w'=w
 pan:∀(p q:Addr) (n:Int) (w:World),(w.cell? p).isSome=true->w.frozen? p=false->((w.setCell p (.slice none 0 0)).cell? q).isSome=true->(w.setCell p (.slice none 0 0)).frozen? q=false->
  CallsD P fc #[.pointer (some p),.pointer (some q)] (.panicking [{v:= .iface tR (.int .i64 n),recovered:=false}]) w fun e u' w'=>
   e= .returned (.tuple #[])/\u'= .panicking [{v:= .iface tR (.int .i64 n),recovered:=true}]/\w'=(w.setCell p (.slice none 0 0)).setCell q (.int .i64 n)
def qt (ops:List Oper) (K:Nat->Nat->Nat->Prop):Prop:=match ops with
 |[o]=>match o.guard with
  |some _=>False
  |none=>match o.dst with
   |some _=>False
   |none=>match o.op with
    | .defer c=>match c.callee with
     | .value (.func fc)=>match c.args.toList with
      |[.tmp p,.tmp q]=>K fc p q
      |_=>False
     |_=>False
    |_=>False
 |_=>False
def jZ (C:m6) (m:Nat) (res:List ResultVar) (r:Oc) (bs':List B) (s:S):Prop:=
 bZ C s.T s.H res fun vs=>∃r0 bs0,(∃w,r0= .ret w/\cu m (dT vs) s w bs0)/\E8 r0 r/\x7 bs0 bs'
def pn (C:m6) (m:Nat) (res:List ResultVar) (r:Oc) (bs':List B) (tR i j:Nat) (e:X) (s:S):Prop:=
 match e with
 | .normal=>jZ C m res r bs' s
 | .ret=>jZ C m res r bs' s
 | .pan v=>match v with
  | .i t (.s (.int .i64 n))=>w6 (Nat.beq t tR) (match s.H (.k i)with
   |some (.sc (_::_))=>match s.H (.k j)with
    |some (.sc (_::_))=>jZ C m res r bs' ⟨s.T,x5 (x5 s.H (.k i) (some (.sc [.slice none 0 0]))) (.k j) (some (.sc [.int .i64 n]))⟩
    |_=>False
   |_=>False)
  |_=>False
 |_=>False
def xe (C:m6) (rt:Rt) (fc:Nat) (d:D) (i j:Nat) (rest:Code) (K:X->S->Prop):Prop:=
 match rest with
 | .seq (.region _ ops false) c=>qt ops.toList fun f p q=>f=fc/\lk d.sl p= .p (.k i) 0/\lk d.sl q= .p (.k j) 0/\vc C rt d.bs.length c d.s K
 | .scope (.seq (.region _ ops false) c)=>qt ops.toList fun f p q=>f=fc/\lk d.sl p= .p (.k i) 0/\lk d.sl q= .p (.k j) 0/\jN C rt d.bs.length c d.s K
 |_=>False
def tk (C:m6) (rt:Rt) (fn:Func) (fc tR:Nat) (args:List V) (bs:List B) (r:Oc) (bs':List B):Prop:=
 match fn.body with
 |some (.seq (.region _ ops false) rest)=>gh C ops.toList ops.toList (D3 args) (Hof bs) (fun T H=>∃(d:D) (i j:Nat),i≠j/\Mt bs.length ⟨T,H⟩ d/\xe C rt fc d i j rest (pn C bs.length fn.results.toList r bs' tR i j)) (fun _ _ _=>False)
 |_=>False
section
variable {C:m6} {N m:Nat} {ds:List Deferred} {w0:World} {L F0:Nat->Prop} {ι0:Io}
theorem Be {ops:Array Oper} {K:Nat->Nat->Nat->Prop} (h:qt ops.toList K):∃(o:Oper) (c:Call) (fc p q:Nat),ops= #[o]/\o.guard=none/\o.dst=none/\o.op= .defer c/\c.callee= .value (.func fc)/\c.args= #[.tmp p,.tmp q]/\K fc p q:=by
 unfold qt at h;split at h
 ·rename_i o ho;split at h
  ·exact h.elim
  ·rename_i hg;split at h
   ·exact h.elim
   ·rename_i hd;split at h
    ·rename_i c hc;split at h
     ·rename_i fc hf;split at h
      ·rename_i p q ha;exact⟨o,c,fc,p,q,by cases ops;simp_all,hg,hd,hc,hf,by cases hh:c.args;simp_all,h⟩
      ·exact h.elim
     ·exact h.elim
    ·exact h.elim
 ·exact h.elim
theorem Bd {id:Nat} {ops:Array Oper} {o:Oper} {c:Call} {fc p q:Nat} {Q:Exit->Act->World->Prop} {a:Act} {w:World} (ho:ops= #[o]) (hg:o.guard=none) (hd:o.dst=none) (hop:o.op= .defer c) (hc:c.callee= .value (.func fc)) (ha:c.args= #[.tmp p,.tmp q])
  (h:Q .normal {a with defers:={target:= .fn (.func fc) #[],args:= #[a.tmps.getD p undef,a.tmps.getD q undef]}::a.defers} w):(Code.region id ops false).wp C.P Q a w:=by
 subst ho;refine wp_region_list ?_;unfold wpList;have hw:Region.wanted o (yielded #[o] a.tmps)=true:=by unfold Region.wanted;rw[hg]
 rw[hw];simp only[if_true];refine .inl ?_;unfold Oper.wp;have hrun:(execOp a.eval o).run C.P w= .ok (.defer {target:= .fn (.func fc) #[],args:= #[a.tmps.getD p undef,a.tmps.getD q undef]}) w:=by
  unfold execOp;simp[hop,resolve,hc,ha,Deferred.ofValue,Act.eval]
 rw[hrun,Oper.upon_defer,hd];unfold wpList;exact h
theorem a1s {rt:Rt} (hC:q6 C) (hι0:∀id x,ι0 id=some x->∃k,k<m/\id= .k k) (c:Code) (s:S) (K:X->S->Prop) (F:Nat->Prop) (ι:Io) (a:Act) (w:World) (hok:G4 rt N c=true) (h:jN C rt m c s K)
  {id:Nat} {ops:Array Oper} {o:Oper} {cc:Call} {fc pp qq:Nat} (ho:ops= #[o]) (hg:o.guard=none) (hd:o.dst=none) (hop:o.op= .defer cc) (hc:cc.callee= .value (.func fc)) (ha:cc.args= #[.tmp pp,.tmp qq])
  (hr:B1 C N ds w0 L F0 ι0 F ι s.T s.H {a with defers:={target:= .fn (.func fc) #[],args:= #[a.tmps.getD pp undef,a.tmps.getD qq undef]}::a.defers} w):(Code.scope (.seq (.region id ops false) c)).wp C.P (M3 C N ds w0 L F0 ι0 K) a w:=by
 obtain⟨l,α,I,Q,μ,h⟩:=h;cases hsp:K3 c l with
 |none=>rw[hsp]at h;exact h.elim
 |some pq=>
  obtain⟨p,rest⟩:=pq;rw[hsp]at h;obtain⟨hfirst,hround⟩:=h;have hf:=EI (.seq (.region id ops false) c) l (.seq (.region id ops false) p) rest (by simp[K3,hsp]);have hok':=(EJ c l p rest hok hsp).2
  let J:α->Act->World->Prop:=fun x a w=>Q x/\∃F ι,B1 C N ds w0 L F0 ι0 F ι (I x).s.T (I x).s.H a w
  have jump:∀{e a' w'},M3 C N ds w0 L F0 ι0 (fun e s'=>match e with
    | .goto l'=>l'=l/\∃y,Q y/\Mt m s' (I y)
    |e=>K e s') e a' w'->Exit.jump l (fun a w=>∃x,J x a w) (M3 C N ds w0 L F0 ι0 K) e a' w':=by
   rintro e a' w' ⟨q,s',F2,ι2,hk,hr2,hm⟩;cases q with
   |normal=>subst hm;exact⟨.normal,s',F2,ι2,hk,hr2,rfl⟩
   |exit id=>subst hm;exact⟨.exit id,s',F2,ι2,hk,hr2,rfl⟩
   |goto l'=>
    subst hm;obtain⟨hl,y,hy,hmt⟩:=hk;obtain⟨F3,ι3,hr3⟩:=dW hι0 hr2 hmt;exact⟨hl,y,hy,F3,ι3,hr3⟩
   |ret=>subst hm;exact⟨.ret,s',F2,ι2,hk,hr2,rfl⟩
   |pan v=>obtain⟨z,rfl,hR⟩:=hm;exact⟨.pan v,s',F2,ι2,hk,hr2,z,rfl,hR⟩
  refine wp_scope_jumps l (fun a w=>∃x,J x a w) (fun a w=>me fun n=>∃x,μ x=n/\J x a w) hf ?_ ?_
  ·refine wp_seq (Bd ho hg hd hop hc ha ?_);show c.wp C.P _ _ w;refine wp_mono (EK hC hι0 I Q c p rest s (fun e s'=>match e with
    | .goto l'=>l'=l/\∃y,Q y/\Mt m s' (I y)
    |e=>K e s') _ _ F ι _ w hok hsp hfirst (fun s' h=>h) (fun e s' he hk=> ?_) hround (fun x e s' hk=> ?_) hr) (fun e a w=>jump)
   ·cases e with
    |normal=>exact absurd rfl he
    |_=>exact hk
   ·cases e with
    |goto l'=>obtain⟨h1,y,h2,_,h3⟩:=hk;exact⟨h1,y,h2,h3⟩
    |_=>exact hk
  ·rintro a w ⟨x1,hx1⟩;obtain⟨⟨x,hxn,hx⟩,_⟩:=mf (p:=fun n=>∃x,μ x=n/\J x a w) ⟨μ x1,x1,rfl,hx1⟩;obtain⟨hQ,F',ι',hr'⟩:=hx;refine wp_mono (dl hC hι0 rest (I x).s _ F' ι' a w hok' (hround x hQ) hr') ?_;rintro e a' w' ⟨q,s',F2,ι2,hk,hr2,hm⟩;cases q with
   |normal=>subst hm;exact⟨.normal,s',F2,ι2,hk,hr2,rfl⟩
   |exit id=>subst hm;exact⟨.exit id,s',F2,ι2,hk,hr2,rfl⟩
   |goto l'=>
    subst hm;obtain⟨hl,y,hy,d8,hmt⟩:=hk;obtain⟨F3,ι3,hr3⟩:=dW hι0 hr2 hmt;have hJ:J y a' w':=⟨hy,F3,ι3,hr3⟩;refine⟨hl,⟨y,hJ⟩,?_⟩;have:=(mf (p:=fun n=>∃x,μ x=n/\J x a' w') ⟨μ y,y,rfl,hJ⟩).2 (μ y) ⟨y,rfl,hJ⟩;omega
   |ret=>subst hm;exact⟨.ret,s',F2,ι2,hk,hr2,rfl⟩
   |pan v=>obtain⟨z,rfl,hR⟩:=hm;exact⟨.pan v,s',F2,ι2,hk,hr2,z,rfl,hR⟩
theorem Dx {w:World} {F:Nat->Prop} {ι:Io} {H:Hp} (st:St w0 L w F ι H) (hd:∀id x,ι id=some x->H id≠none) {id:Id} {u:Value} {us:List Value} {b base:Nat} (l4:H id=some (.sc (u::us))) (hi:ι id=some (b,base)):
  (w.cell? ⟨b,base+0,none⟩).isSome=true/\w.frozen? ⟨b,base+0,none⟩=false/\∀v:Value,v.oneCell'=true->Nx w0 L w F ι (w.setCell ⟨b,base+0,none⟩ v) F ι (x5 H id (some (.sc [v]))):=by
 have hroom:ab w b (base+0+1):=by
  have:=DL (k:=1) st l4 (by simp) hi (by omega) (by simp[B.len]);simpa using this
 have hth:=sq (o:=0) (us:=[u]) st l4 (by simp) hi hroom 0 (by simp);refine⟨by simpa using hth.1,by simpa using hth.2,fun v hv=> ?_⟩;have:=rQ (o:=0) (us:=[v]) (Y:= .sc [v]) st hd l4 (by simp) hi (by simpa using hv) hroom ⟨[v],rfl,fun j x hj=>by
  cases j with
  |zero=>exact .inl ⟨Nat.le_refl _,by simp,by simpa using hj⟩
  |succ j=>simp at hj⟩
 exact this
theorem wK {w:World} {F:Nat->Prop} {ι:Io} {id:Id} {off:Nat} {x:Value} (h:R w F ι (.p id off) x):∃b base,x= .pointer (some ⟨b,base+off,none⟩)/\ι id=some (b,base):=by
 cases h with
 |fz h=>cases h
 |p hi=>exact⟨_,_,rfl,hi⟩
end
theorem Pq {C : m6} {rt : Rt} {f : FuncId} {fn : Func} {fc tR : Nat} {args : List V} {bs bs' : List B} {r : Oc} (hC : q6 C) (hf : C.P.funcs[f]? = some fn) (hname : (fn.name == "runtime.NumGoroutine") = false) (hok : W0 rt fn = true) (hargs : Nat.ble args.length fn.ntmps = true)
  (hcat:tc C.P fc tR) (h:tk C rt fn fc tR args bs r bs'):b9 C f args bs r bs':=by
 unfold tk at h;split at h
 ·rename_i id0 ops rest hb;unfold W0 at hok;rw[hb]at hok;simp only[G4,Bool.and_eq_true]at hok;refine⟨js hf hname hb,fun w F ι vs st hgl hdm hl=> ?_⟩;have s3:args.length=vs.size:=by simpa using hl.length
  have hle:=Nat.le_of_ble_eq_true hargs;refine calls_of_wp_defers hf hb ?_;have rel0:B1 C fn.ntmps [] w (Lb ι bs) F ι F ι (D3 args) (Hof bs) {tmps:=vs++Array.replicate (fn.ntmps-vs.size) undef,defers:=[]} w:=by
   refine⟨st,fun _ h=>h,fun _ h=> .inl h,fun _ _ h=>h,?_,by simp;omega,rfl,?_,hgl⟩
   ·intro id x hx;obtain⟨k,hk,rfl⟩:=hdm id x hx;simp[Hof,hk]
   ·intro j;have lk_get:∀(l:List V) (j:Nat),D3 l j=match l[j]? with|some v=>v|none=> .u:=by
     intro l;induction l with
     |nil=>intro j;rfl
     |cons x r ih=>
      intro j;cases j with
      |zero=>rfl
      |succ j=>simpa [D3]using ih j
    show R w F ι (D3 args j) ((vs++Array.replicate (fn.ntmps-vs.size) undef).getD j undef);rw[lk_get];cases hj:args[j]? with
    |none=>exact .fz .u
    |some v=>
     obtain⟨x,hx,hR⟩:=hl.get hj;have hx':vs[j]? =some x:=by simpa using hx
     have d8:=(Array.getElem?_eq_some_iff.1 hx').1;simpa [Array.getElem?_append_left d8,hx']using hR
  refine wp_seq (wp_mono (dl (rt:=rt) hC hdm (.region id0 ops false) ⟨D3 args,Hof bs⟩ (fun e s=>match e with
   | .normal=>∃(d:D) (i j:Nat),i≠j/\Mt bs.length s d/\xe C rt fc d i j rest (pn C bs.length fn.results.toList r bs' tR i j)
   |_=>False) F ι _ w hok.1 h rel0) ?_)
  rintro e a1 w1 ⟨q,s1,F1,ι1,hk,hr1,hm⟩;cases q with
  |normal=>
   subst hm;obtain⟨d,i,j,hij,hmt,hrest⟩:=hk;show rest.wp C.P _ a1 w1;obtain⟨F2,ι2,hr2⟩:=dW hdm hr1 hmt;have hdm2:∀id x,ι2 id=some x->∃k,k<d.bs.length/\id= .k k:=by
    intro id x hx;have:=hr2.dm id x hx;cases id with
    |d=>simp[D.s,Hof]at this
    |k k=>
     refine⟨k,?_,rfl⟩;rcases Nat.lt_or_ge k d.bs.length with h|h
     ·exact h
     ·simp[D.s,Hof,List.getElem?_eq_none h]at this
   have im1:=hr2.im;have hr3:B1 C fn.ntmps [] w (Lb ι bs) F ι2 F2 ι2 d.s.T d.s.H a1 w1:={hr2 with im:=fun _ _ h=>h}
   -- the end
   have finish:∀(p q:Nat),lk d.sl p= .p (.k i) 0->lk d.sl q= .p (.k j) 0->∀e a' w',M3 C fn.ntmps [{target:= .fn (.func fc) #[],args:= #[a1.tmps.getD p undef,a1.tmps.getD q undef]}] w (Lb ι bs) F ι2 (pn C bs.length fn.results.toList r bs' tR i j) e a' w'->
     bodyPostD C.P fn (fun e w'=>∃(F':Nat->Prop) (ι':Io),(∀b,F b->F' b)/\(∀b,F' b->F b\/Lb ι bs b\/w.heap.size<=b)/\(∀id x,ι id=some x->ι' id=some x)/\
      St w (Lb ι bs) w' F' ι' (Hof bs')/\(∀id x,ι' id=some x->∃k,k<bs'.length/\id= .k k)/\aT w' F' ι' r e) e a' w':=by
    intro p q hp hq;obtain⟨b4,base4,e4,i4⟩:=wK (x:=a1.tmps.getD p undef) (by rw[<-hp];exact hr3.sl p);obtain⟨b5,base5,e5,i5⟩:=wK (x:=a1.tmps.getD q undef) (by rw[<-hq];exact hr3.sl q);rw[e4,e5]
    -- the results,from a state
    have ret:∀(s':S) (F':Nat->Prop) (ι':Io) (a':Act) (w':World),jZ C bs.length fn.results.toList r bs' s'->B1 C fn.ntmps [{target:= .fn (.func fc) #[],args:= #[.pointer (some ⟨b4,base4+0,none⟩),.pointer (some ⟨b5,base5+0,none⟩)]}] w (Lb ι bs) F ι2 F' ι' s'.T s'.H a' w'->
      ∃v,(results fn a'.tmps).run C.P w'= .ok v w'/\∃(F2:Nat->Prop) (ι2:Io),(∀b,F b->F2 b)/\(∀b,F2 b->F b\/Lb ι bs b\/w.heap.size<=b)/\(∀id x,ι id=some x->ι2 id=some x)/\
       St w (Lb ι bs) w' F2 ι2 (Hof bs')/\(∀id x,ι2 id=some x->∃k,k<bs'.length/\id= .k k)/\aT w' F2 ι2 r (.returned v):=by
     intro s' F' ι' a' w' h hr0;have hr:B1 C fn.ntmps _ w (Lb ι bs) F ι F' ι' s'.T s'.H a' w':={hr0 with im:=fun id x hx=>hr0.im id x (im1 id x hx)};obtain⟨vs,⟨r0,bs0,⟨v',hr',he⟩,hwr,hwb⟩,hh⟩:=mI hC h;obtain⟨x,hx,hR⟩:=hh _ _ w' F' ι' a'.tmps hr.st hr.sl;have hln:=hwb.len;obtain⟨d7,he⟩:=he;obtain⟨h1,h2,h3⟩:=B0.1 he;simp only[Bool.and_eq_true]at h1;have kr:=jG hdm hr h1.1 h1.2 h3 (fun _=> .u) fun _=> .inl rfl;refine⟨x,hx,_,_,kr.f0,kr.fn,kr.im,kr.st.wk hwb,fun id x hx=> ?_,hwr.oc ?_⟩
     ·have:=kr.dm id x hx;cases id with
      |d=>simp[Hof]at this
      |k k=>
       refine⟨k,?_,rfl⟩;rcases Nat.lt_or_ge k bs0.length with h|h
       ·exact Nat.lt_of_lt_of_le h hln
       ·simp[Hof,List.getElem?_eq_none h]at this
     ·rw[hr'];refine⟨x,rfl,?_⟩;rw[<-h2];exact io hr.st (fun _ _ h=>h) d7 6 hR
    have hinv:∀(x y:Value) (w':World),(invoke (.fn (.func fc) #[]) #[x,y]).run C.P w'= .ok (.enter fc #[x,y]) w':=fun x y w'=>by
     simp only[invoke];exact hcat.enter _ _
    rintro e a' w' ⟨z,s',F',ι',hk,hr,hm⟩;cases z with
    |normal=>
     subst hm;obtain⟨x,hx,hR⟩:=ret s' F' ι' a' w' hk hr;show Leaves C.P fn a'.tmps _ a'.defers .returning w';rw[hr.df];refine leaves_cons (by simp) (hinv _ _ w') ((hcat.idle _ _ w').mono ?_);rintro e u' w'' ⟨rfl,rfl,rfl⟩;exact⟨x,hx,hR⟩
    |ret=>
     subst hm;obtain⟨x,hx,hR⟩:=ret s' F' ι' a' w' hk hr;show Leaves C.P fn a'.tmps _ a'.defers .returning w';rw[hr.df];refine leaves_cons (by simp) (hinv _ _ w') ((hcat.idle _ _ w').mono ?_);rintro e u' w'' ⟨rfl,rfl,rfl⟩;exact⟨x,hx,hR⟩
    |pan v=>
     obtain⟨y,rfl,hy⟩:=hm;show Leaves C.P fn a'.tmps _ a'.defers (.panicking [{v:=y,recovered:=false}]) w';rw[hr.df];unfold pn at hk;dsimp only at hk;split at hk
     ·rename_i t n;obtain⟨ht,hk9⟩:=B0.1 hk;clear hk;obtain rfl:=Nat.eq_of_beq_eq_true ht;obtain⟨y1,rfl,hy1⟩:=hy.i_inv;obtain rfl:=hy1.s_inv;split at hk9
      ·rename_i u us hH4;split at hk9
       ·rename_i u5 us5 hH5;obtain⟨c1,c2,c3⟩:=Dx hr.st hr.dm hH4 (hr.im _ _ i4);have nx1:=c3 (.slice none 0 0) rfl;have hr':=hr.nx nx1;have hne:(Id.k i)≠(Id.k j):=fun h=>hij (by cases h;rfl);obtain⟨d1,d2,d3⟩:=Dx (id:= .k j) hr'.st hr'.dm (by rw[C4 _ _ hne];exact hH5) (hr'.im _ _ i5);have hr'':=hr'.nx (d3 (.int .i64 n) rfl);obtain⟨x,hx,hR⟩:=ret ⟨s'.T,_⟩ F' ι' a' _ hk9 hr'';refine leaves_cons (by simp) (hinv _ _ w') ((hcat.pan _ _ n w' c1 c2 d1 d2).mono ?_);rintro e u' w'' ⟨rfl,rfl,rfl⟩;exact⟨x,hx,hR⟩
       ·exact hk9.elim
      ·exact hk9.elim
     ·exact hk.elim
    |exit id=>exact hk.elim
    |goto l=>exact hk.elim
   unfold xe at hrest;split at hrest
   ·rename_i id1 ops1 c;obtain⟨o,cc,fc',p,q,ho,hg,hd,hop,hcal,ha,rfl,hp,hq,hv⟩:=Be hrest;simp only[G4,Bool.and_eq_true]at hok;refine wp_seq (Bd ho hg hd hop hcal ha ?_);show c.wp C.P _ _ w1;exact wp_mono (dl hC hdm2 c d.s _ F2 ι2 _ w1 hok.2.2 hv {hr3 with df:=by show _::a1.defers=_;rw[hr3.df]}) (finish p q hp hq)
   ·rename_i id1 ops1 c;obtain⟨o,cc,fc',p,q,ho,hg,hd,hop,hcal,ha,rfl,hp,hq,hv⟩:=Be hrest;simp only[G4,Bool.and_eq_true]at hok;exact wp_mono (a1s hC hdm2 c d.s _ F2 ι2 a1 w1 hok.2.2 hv ho hg hd hop hcal ha {hr3 with df:=by show _::a1.defers=_;rw[hr3.df]}) (finish p q hp hq)
   ·exact hrest.elim
  |exit id=>exact hk.elim
  |goto l=>exact hk.elim
  |ret=>exact hk.elim
  |pan v=>exact hk.elim
 ·exact h.elim
theorem Pr {C : m6} {rt : Rt} {f : FuncId} {fn : Func} {args : List V} {bs bs' : List B} {r : Oc} (hC : q6 C) (hf : C.P.funcs[f]? = some fn) (hname : (fn.name == "runtime.NumGoroutine") = false) (hok : W0 rt fn = true) (hargs : Nat.ble args.length fn.ntmps = true)
  {K:X->S->Prop} (hK:∀e s,K e s->∃l,ar l 0 s fun s=>po C bs.length fn.results.toList r bs' e s)
  (h:match fn.body with|some c=>cB C rt bs.length c ⟨D3 args,Hof bs⟩ K|none=>False):b9 C f args bs r bs':=by
 unfold W0 at hok;cases hb:fn.body with
 |none=>rw[hb]at h;exact h.elim
 |some c=>
  rw[hb]at h hok;simp only at h hok;refine⟨js hf hname hb,fun w F ι vs st hgl hdm hl=> ?_⟩;have s3:args.length=vs.size:=by simpa using hl.length
  have hle:=Nat.le_of_ble_eq_true hargs;refine calls_of_wp hf hb (wp_mono (pF (ds:=[]) (N:=fn.ntmps) (m:=bs.length) (w0:=w) (L:=Lb ι bs) (F0:=F) (ι0:=ι) hC hdm c ⟨D3 args,Hof bs⟩ _ F ι _ w hok h ?_) ?_)
  ·refine⟨st,fun _ h=>h,fun _ h=> .inl h,fun _ _ h=>h,?_,by simp;omega,rfl,?_,hgl⟩
   ·intro id x hx;obtain⟨k,hk,rfl⟩:=hdm id x hx;simp[Hof,hk]
   ·intro j;have lk_get:∀(l:List V) (j:Nat),D3 l j=match l[j]? with|some v=>v|none=> .u:=by
     intro l;induction l with
     |nil=>intro j;rfl
     |cons x r ih=>
      intro j;cases j with
      |zero=>rfl
      |succ j=>simpa [D3]using ih j
    show R w F ι (D3 args j) ((vs++Array.replicate (fn.ntmps-vs.size) undef).getD j undef);rw[lk_get];cases hj:args[j]? with
    |none=>exact .fz .u
    |some v=>
     obtain⟨x,hx,hR⟩:=hl.get hj;have hx':vs[j]? =some x:=by simpa using hx
     have d8:=(Array.getElem?_eq_some_iff.1 hx').1;simpa [Array.getElem?_append_left d8,hx']using hR
  ·rintro e a' w' ⟨q,s1,F',ι',hk0,hr1,hm⟩;obtain⟨l0,hn0⟩:=hK _ _ hk0;obtain⟨s',⟨r0,bs0,hk,hwr,hwb⟩,hr⟩:=rP hr1 hn0;have hln:=hwb.len;have fin:∀(v v':V) (x:Value),cu bs.length v s' v' bs0->R w' F' ι' v x->∃(F2:Nat->Prop) (ι2:Io),(∀b,F b->F2 b)/\(∀b,F2 b->F b\/Lb ι bs b\/w.heap.size<=b)/\(∀id x,ι id=some x->ι2 id=some x)/\
     St w (Lb ι bs) w' F2 ι2 (Hof bs')/\(∀id x,ι2 id=some x->∃k,k<bs'.length/\id= .k k)/\R w' F2 ι2 v' x:=by
    rintro v v' x ⟨d7,he⟩ hR;obtain⟨h1,h2,h3⟩:=B0.1 he;simp only[Bool.and_eq_true]at h1;have kr:=jG hdm hr h1.1 h1.2 h3 (fun _=> .u) fun _=> .inl rfl;refine⟨_,_,kr.f0,kr.fn,kr.im,kr.st.wk hwb,fun id x hx=> ?_,?_⟩
    ·have:=kr.dm id x hx;cases id with
     |d=>simp[Hof]at this
     |k k=>
      refine⟨k,?_,rfl⟩;rcases Nat.lt_or_ge k bs0.length with h|h
      ·exact Nat.lt_of_lt_of_le h hln
      ·simp[Hof,List.getElem?_eq_none h]at this
    ·rw[<-h2];exact io hr.st (fun _ _ h=>h) d7 6 hR
   have ret:∀(h:bZ C s'.T s'.H fn.results.toList fun vs=>∃w,r0= .ret w/\cu bs.length (dT vs) s' w bs0),a'.defers=[]/\∃v,(results fn a'.tmps).run C.P w'= .ok v w'/\∃(F2:Nat->Prop) (ι2:Io),(∀b,F b->F2 b)/\(∀b,F2 b->F b\/Lb ι bs b\/w.heap.size<=b)/\(∀id x,ι id=some x->ι2 id=some x)/\
     St w (Lb ι bs) w' F2 ι2 (Hof bs')/\(∀id x,ι2 id=some x->∃k,k<bs'.length/\id= .k k)/\aT w' F2 ι2 r (.returned v):=by
    intro h;obtain⟨vs,⟨v',hr',he⟩,hh⟩:=mI hC h;obtain⟨x,hx,hR⟩:=hh _ _ w' F' ι' a'.tmps hr.st hr.sl;obtain⟨F2,ι2,g1,g2,g3,g4,g5,g6⟩:=fin _ _ _ he hR;exact⟨hr.df,x,hx,F2,ι2,g1,g2,g3,g4,g5,hwr.oc (by rw[hr'];exact⟨x,rfl,g6⟩)⟩
   cases q with
   |normal=>subst hm;exact ret hk
   |ret=>subst hm;exact ret hk
   |pan v=>
    obtain⟨y,rfl,hR⟩:=hm;obtain⟨v',hr',he⟩:=hk;obtain⟨F2,ι2,g1,g2,g3,g4,g5,g6⟩:=fin _ _ _ he hR;exact⟨hr.df,F2,ι2,g1,g2,g3,g4,g5,hwr.oc (by rw[hr'];exact⟨y,rfl,g6⟩)⟩
   |exit id=>exact hk.elim
   |goto l=>exact hk.elim
def Hg (C:m6) (rt:Rt) (fn:Func) (args:List V) (bs:List B) (r:Oc) (bs':List B):Prop:=
 match fn.body with
 |some c=>cB C rt bs.length c ⟨D3 args,Hof bs⟩ fun e s=>∃l,ar l 0 s fun s=>dn C bs.length fn.results.toList r bs' e s
 |none=>False
theorem Ds {K K':S->Prop} (h:∀s,K s->K' s):∀{l:List (Nat×Nat×B)} {k:Nat} {s:S},ar l k s K->ar l k s K'
 |[],_,s,hn=>h s hn
 |(_,_,_)::r,_,_,hn=>by
  unfold ar at hn ⊢;obtain⟨h1,h2⟩:=B0.1 hn;exact B0.2 ⟨h1,Ds h h2⟩
theorem V4.n {C:m6} {f:Nat} {rt:Rt} {fn:Func} {nt:Nat} (d:V4 C f rt fn nt) {args:List V} {bs bs':List B} {r:Oc} (h:Hg C rt fn args bs r bs') (ha:Nat.ble args.length nt=true:=by rfl):b9 C f args bs r bs':=
 Pr d.ok d.f d.name d.rt (by rw[d.nt];exact ha) (K:=fun e s=>∃l,ar l 0 s fun s=>dn C bs.length fn.results.toList r bs' e s) (fun _ _ ⟨l,h⟩=>⟨l,Ds (fun _ h=>⟨_,_,h,.refl _,.refl _⟩) h⟩) h
theorem V4.d {C:m6} {f:Nat} {rt:Rt} {fn:Func} {nt:Nat} (d:V4 C f rt fn nt) {fc tR:Nat} (hcat:tc C.P fc tR) {args:List V} {bs bs':List B} {r:Oc} (h:tk C rt fn fc tR args bs r bs') (ha:Nat.ble args.length nt=true:=by rfl):b9 C f args bs r bs':=Pq d.ok d.f d.name d.rt (by rw[d.nt];exact ha) hcat h
end Go.Scr
namespace Go.Scr
inductive Fg:List B->List B->Prop
 |nil:Fg [] []
 |keep {x xs ys}:Fg xs ys->Fg (x::xs) (x::ys)
 |drop {x xs ys}:Fg xs ys->Fg (x::xs) (.dead::ys)
 |dd {ys}:Fg [] ys->Fg [] (.dead::ys)
theorem Fg.len {a b:List B} (h:Fg a b):a.length<=b.length:=by
 induction h with
 |nil=>exact Nat.le_refl _
 |keep _ ih=>simpa using ih
 |drop _ ih=>simpa using ih
 |dd _ _=>exact Nat.zero_le _
theorem Fg.refl:∀(l:List B),Fg l l
 |[]=> .nil
 |_::r=> .keep (Fg.refl r)
theorem Fg.at {a b:List B} (h:Fg a b):∀{k:Nat} {y:B},b[k]? =some y->y≠ .dead->a[k]? =some y:=by
 induction h with
 |nil=>intro k y h;simp at h
 |keep _ ih=>
  intro k y h hd;cases k with
  |zero=>simpa using h
  |succ k=>simpa using ih (by simpa using h) hd
 |drop _ ih=>
  intro k y h hd;cases k with
  |zero=>simp at h;exact absurd h.symm hd
  |succ k=>simpa using ih (by simpa using h) hd
 |dd _ ih=>
  intro k y h hd;cases k with
  |zero=>simp at h;exact absurd h.symm hd
  |succ k=>have:=ih (k:=k) (by simpa using h) hd;simp at this
theorem St.fg {w0:World} {L:Nat->Prop} {w:World} {F:Nat->Prop} {ι:Io} {bs bs':List B} (st:St w0 L w F ι (Hof bs)) (h:Fg bs bs'):St w0 L w F ι (Hof bs'):=by
 have at':∀id Y,Hof bs' id=some Y->Y≠ .dead->Hof bs id=some Y:=by
  intro id Y hy hd;cases id with
  |d=>simp[Hof]at hy
  |k k=>exact h.at hy hd
 refine⟨st.os,st.tape,st.output,st.size,st.old,st.shp,st.fr,?_,?_⟩
 ·intro id Y hy hd;exact st.own id Y (at' id Y hy hd) hd
 ·intro id id' X X' b base base' h1 h2 h3 h4;exact st.inj id id' X X' b base base' (at' id X h1 h2) h2 (at' id' X' h3 h4) h4
theorem AM {C : m6} {f : FuncId} {c : Code} {fn : Func} {args : List V} {bs bs' : List B} {r : Oc} (hC : q6 C) (hf : C.P.funcs[f]? = some fn) (hname : (fn.name == "runtime.NumGoroutine") = false) (hb : fn.body = some c) (hargs : Nat.ble args.length fn.ntmps = true)
  {K:X->S->Prop} (hK:∀e s,K e s->∃r0 bs0,dn C bs.length fn.results.toList r0 bs0 e s/\E8 r0 r/\Fg bs0 bs')
  (h:∀(w:World) (F:Nat->Prop) (ι:Io) (a:Act),(∀id x,ι id=some x->∃k,k<bs.length/\id= .k k)->B1 C fn.ntmps [] w (Lb ι bs) F ι F ι (D3 args) (Hof bs) a w->c.wp C.P (M3 C fn.ntmps [] w (Lb ι bs) F ι K) a w):b9 C f args bs r bs':=by
  refine⟨js hf hname hb,fun w F ι vs st hgl hdm hl=> ?_⟩;have s3:args.length=vs.size:=by simpa using hl.length
  have hle:=Nat.le_of_ble_eq_true hargs;refine calls_of_wp hf hb (wp_mono (h w F ι _ hdm ?_) ?_)
  ·refine⟨st,fun _ h=>h,fun _ h=> .inl h,fun _ _ h=>h,?_,by simp;omega,rfl,?_,hgl⟩
   ·intro id x hx;obtain⟨k,hk,rfl⟩:=hdm id x hx;simp[Hof,hk]
   ·intro j;have lk_get:∀(l:List V) (j:Nat),D3 l j=match l[j]? with|some v=>v|none=> .u:=by
     intro l;induction l with
     |nil=>intro j;rfl
     |cons x r ih=>
      intro j;cases j with
      |zero=>rfl
      |succ j=>simpa [D3]using ih j
    show R w F ι (D3 args j) ((vs++Array.replicate (fn.ntmps-vs.size) undef).getD j undef);rw[lk_get];cases hj:args[j]? with
    |none=>exact .fz .u
    |some v=>
     obtain⟨x,hx,hR⟩:=hl.get hj;have hx':vs[j]? =some x:=by simpa using hx
     have d8:=(Array.getElem?_eq_some_iff.1 hx').1;simpa [Array.getElem?_append_left d8,hx']using hR
  ·rintro e a' w' ⟨q,s',F',ι',hk0,hr,hm⟩;obtain⟨r0,bs0,hk,hwr,hwb⟩:=hK _ _ hk0;have hln:=hwb.len;have fin:∀(v v':V) (x:Value),cu bs.length v s' v' bs0->R w' F' ι' v x->∃(F2:Nat->Prop) (ι2:Io),(∀b,F b->F2 b)/\(∀b,F2 b->F b\/Lb ι bs b\/w.heap.size<=b)/\(∀id x,ι id=some x->ι2 id=some x)/\
     St w (Lb ι bs) w' F2 ι2 (Hof bs')/\(∀id x,ι2 id=some x->∃k,k<bs'.length/\id= .k k)/\R w' F2 ι2 v' x:=by
    rintro v v' x ⟨d7,he⟩ hR;obtain⟨h1,h2,h3⟩:=B0.1 he;simp only[Bool.and_eq_true]at h1;have kr:=jG hdm hr h1.1 h1.2 h3 (fun _=> .u) fun _=> .inl rfl;refine⟨_,_,kr.f0,kr.fn,kr.im,kr.st.fg hwb,fun id x hx=> ?_,?_⟩
    ·have:=kr.dm id x hx;cases id with
     |d=>simp[Hof]at this
     |k k=>
      refine⟨k,?_,rfl⟩;rcases Nat.lt_or_ge k bs0.length with h|h
      ·exact Nat.lt_of_lt_of_le h hln
      ·simp[Hof,List.getElem?_eq_none h]at this
    ·rw[<-h2];exact io hr.st (fun _ _ h=>h) d7 6 hR
   have ret:∀(h:bZ C s'.T s'.H fn.results.toList fun vs=>∃w,r0= .ret w/\cu bs.length (dT vs) s' w bs0),a'.defers=[]/\∃v,(results fn a'.tmps).run C.P w'= .ok v w'/\∃(F2:Nat->Prop) (ι2:Io),(∀b,F b->F2 b)/\(∀b,F2 b->F b\/Lb ι bs b\/w.heap.size<=b)/\(∀id x,ι id=some x->ι2 id=some x)/\
     St w (Lb ι bs) w' F2 ι2 (Hof bs')/\(∀id x,ι2 id=some x->∃k,k<bs'.length/\id= .k k)/\aT w' F2 ι2 r (.returned v):=by
    intro h;obtain⟨vs,⟨v',hr',he⟩,hh⟩:=mI hC h;obtain⟨x,hx,hR⟩:=hh _ _ w' F' ι' a'.tmps hr.st hr.sl;obtain⟨F2,ι2,g1,g2,g3,g4,g5,g6⟩:=fin _ _ _ he hR;exact⟨hr.df,x,hx,F2,ι2,g1,g2,g3,g4,g5,hwr.oc (by rw[hr'];exact⟨x,rfl,g6⟩)⟩
   cases q with
   |normal=>subst hm;exact ret hk
   |ret=>subst hm;exact ret hk
   |pan v=>
    obtain⟨y,rfl,hR⟩:=hm;obtain⟨v',hr',he⟩:=hk;obtain⟨F2,ι2,g1,g2,g3,g4,g5,g6⟩:=fin _ _ _ he hR;exact⟨hr.df,F2,ι2,g1,g2,g3,g4,g5,hwr.oc (by rw[hr'];exact⟨y,rfl,g6⟩)⟩
   |exit id=>exact hk.elim
   |goto l=>exact hk.elim
theorem Pt {C : m6} {rt : Rt} {f : FuncId} {fn : Func} {args : List V} {bs bs' : List B} {r : Oc} (hC : q6 C) (hf : C.P.funcs[f]? = some fn) (hname : (fn.name == "runtime.NumGoroutine") = false) (hok : W0 rt fn = true) (hargs : Nat.ble args.length fn.ntmps = true)
  {K:X->S->Prop} (hK:∀e s,K e s->∃r0 bs0,dn C bs.length fn.results.toList r0 bs0 e s/\E8 r0 r/\Fg bs0 bs')
  (h:match fn.body with|some c=>cB C rt bs.length c ⟨D3 args,Hof bs⟩ K|none=>False):b9 C f args bs r bs':=by
 unfold W0 at hok;cases hb:fn.body with
 |none=>rw[hb]at h;exact h.elim
 |some c=>
  rw[hb]at h hok;exact AM hC hf hname hb hargs hK fun w F ι a hdm hr=>pF hC hdm c ⟨D3 args,Hof bs⟩ _ F ι a w hok h hr
theorem b9.fg {C:m6} {f:FuncId} {args:List V} {bs bs' bs'':List B} {r:Oc} (h:b9 C f args bs r bs') (g:Fg bs' bs''):b9 C f args bs r bs'':=
 ⟨h.1,fun w F ι vs st hgl hdm hl=>Calls.mono (h.2 w F ι vs st hgl hdm hl) fun e w' ⟨F',ι',h1,h2,h3,h4,h5,h6⟩=>⟨F',ι',h1,h2,h3,h4.fg g,fun id x hx=>by
  obtain⟨k,hk,e⟩:=h5 id x hx;exact⟨k,Nat.lt_of_lt_of_le hk g.len,e⟩,h6⟩⟩
def Hi (C:m6) (rt:Rt) (fn:Func) (args:List V) (bs:List B) (r:Oc) (bs':List B):Prop:=
 match fn.body with
 |some c=>cB C rt bs.length c ⟨D3 args,Hof bs⟩ fun e s=>∃r0 bs0,dn C bs.length fn.results.toList r0 bs0 e s/\E8 r0 r/\Fg bs0 bs'
 |none=>False
theorem V4.x {C:m6} {f:Nat} {rt:Rt} {fn:Func} {nt:Nat} (d:V4 C f rt fn nt) {args:List V} {bs bs':List B} {r:Oc} (h:Hi C rt fn args bs r bs') (ha:Nat.ble args.length nt=true:=by rfl):b9 C f args bs r bs':=
 Pt d.ok d.f d.name d.rt (by rw[d.nt];exact ha) (K:=fun e s=>∃r0 bs0,dn C bs.length fn.results.toList r0 bs0 e s/\E8 r0 r/\Fg bs0 bs') (fun _ _ h=>h) h
end Go.Scr
namespace Go.Scr
def ja (C:m6) (f:FuncId) (args:List V) (bs:List B) (r:Oc) (bs':List B):Prop:=
 (∀(as:Array Value) (w:World),(callFunc f as).run C.P w= .ok (.enter f as) w)/\
 ∀(u:FrameMode) (w:World) (F:Nat->Prop) (ι:Io) (vs:Array Value),St w (Lb ι bs) w F ι (Hof bs)->(∀g,RF w F (C.gl g) (gptr g))->
  (∀id x,ι id=some x->∃k,k<bs.length/\id= .k k)->RL w F ι args vs.toList->
  CallsD C.P f vs u w fun e u' w'=>u'=u/\∃(F':Nat->Prop) (ι':Io),(∀b,F b->F' b)/\(∀b,F' b->F b\/Lb ι bs b\/w.heap.size<=b)/\(∀id x,ι id=some x->ι' id=some x)/\
   St w (Lb ι bs) w' F' ι' (Hof bs')/\(∀id x,ι' id=some x->∃k,k<bs'.length/\id= .k k)/\aT w' F' ι' r e
theorem Po {C : m6} {rt : Rt} {f : FuncId} {fn : Func} {args : List V} {bs bs' : List B} {r : Oc} (hC : q6 C) (hf : C.P.funcs[f]? = some fn) (hname : (fn.name == "runtime.NumGoroutine") = false) (hok : W0 rt fn = true) (hargs : Nat.ble args.length fn.ntmps = true)
  {K:X->S->Prop} (hK:∀e s,K e s->po C bs.length fn.results.toList r bs' e s)
  (h:match fn.body with|some c=>cB C rt bs.length c ⟨D3 args,Hof bs⟩ K|none=>False):ja C f args bs r bs':=by
 unfold W0 at hok;cases hb:fn.body with
 |none=>rw[hb]at h;exact h.elim
 |some c=>
  rw[hb]at h hok;simp only at h hok;refine⟨js hf hname hb,fun u w F ι vs st hgl hdm hl=> ?_⟩;have s3:args.length=vs.size:=by simpa using hl.length
  have hle:=Nat.le_of_ble_eq_true hargs;refine callsD_of_wp hf hb (wp_mono (pF (ds:=[]) (N:=fn.ntmps) (m:=bs.length) (w0:=w) (L:=Lb ι bs) (F0:=F) (ι0:=ι) hC hdm c ⟨D3 args,Hof bs⟩ _ F ι _ w hok h ?_) ?_)
  ·refine⟨st,fun _ h=>h,fun _ h=> .inl h,fun _ _ h=>h,?_,by simp;omega,rfl,?_,hgl⟩
   ·intro id x hx;obtain⟨k,hk,rfl⟩:=hdm id x hx;simp[Hof,hk]
   ·intro j;have lk_get:∀(l:List V) (j:Nat),D3 l j=match l[j]? with|some v=>v|none=> .u:=by
     intro l;induction l with
     |nil=>intro j;rfl
     |cons x r ih=>
      intro j;cases j with
      |zero=>rfl
      |succ j=>simpa [D3]using ih j
    show R w F ι (D3 args j) ((vs++Array.replicate (fn.ntmps-vs.size) undef).getD j undef);rw[lk_get];cases hj:args[j]? with
    |none=>exact .fz .u
    |some v=>
     obtain⟨x,hx,hR⟩:=hl.get hj;have hx':vs[j]? =some x:=by simpa using hx
     have d8:=(Array.getElem?_eq_some_iff.1 hx').1;simpa [Array.getElem?_append_left d8,hx']using hR
  ·rintro e a' w' ⟨q,s',F',ι',hk0,hr,hm⟩;obtain⟨r0,bs0,hk,hwr,hwb⟩:=hK _ _ hk0;have hln:=hwb.len;have fin:∀(v v':V) (x:Value),cu bs.length v s' v' bs0->R w' F' ι' v x->∃(F2:Nat->Prop) (ι2:Io),(∀b,F b->F2 b)/\(∀b,F2 b->F b\/Lb ι bs b\/w.heap.size<=b)/\(∀id x,ι id=some x->ι2 id=some x)/\
     St w (Lb ι bs) w' F2 ι2 (Hof bs')/\(∀id x,ι2 id=some x->∃k,k<bs'.length/\id= .k k)/\R w' F2 ι2 v' x:=by
    rintro v v' x ⟨d7,he⟩ hR;obtain⟨h1,h2,h3⟩:=B0.1 he;simp only[Bool.and_eq_true]at h1;have kr:=jG hdm hr h1.1 h1.2 h3 (fun _=> .u) fun _=> .inl rfl;refine⟨_,_,kr.f0,kr.fn,kr.im,kr.st.wk hwb,fun id x hx=> ?_,?_⟩
    ·have:=kr.dm id x hx;cases id with
     |d=>simp[Hof]at this
     |k k=>
      refine⟨k,?_,rfl⟩;rcases Nat.lt_or_ge k bs0.length with h|h
      ·exact Nat.lt_of_lt_of_le h hln
      ·simp[Hof,List.getElem?_eq_none h]at this
    ·rw[<-h2];exact io hr.st (fun _ _ h=>h) d7 6 hR
   have ret:∀(h:bZ C s'.T s'.H fn.results.toList fun vs=>∃w,r0= .ret w/\cu bs.length (dT vs) s' w bs0),a'.defers=[]/\∃v,(results fn a'.tmps).run C.P w'= .ok v w'/\∃(F2:Nat->Prop) (ι2:Io),(∀b,F b->F2 b)/\(∀b,F2 b->F b\/Lb ι bs b\/w.heap.size<=b)/\(∀id x,ι id=some x->ι2 id=some x)/\
     St w (Lb ι bs) w' F2 ι2 (Hof bs')/\(∀id x,ι2 id=some x->∃k,k<bs'.length/\id= .k k)/\aT w' F2 ι2 r (.returned v):=by
    intro h;obtain⟨vs,⟨v',hr',he⟩,hh⟩:=mI hC h;obtain⟨x,hx,hR⟩:=hh _ _ w' F' ι' a'.tmps hr.st hr.sl;obtain⟨F2,ι2,g1,g2,g3,g4,g5,g6⟩:=fin _ _ _ he hR;exact⟨hr.df,x,hx,F2,ι2,g1,g2,g3,g4,g5,hwr.oc (by rw[hr'];exact⟨x,rfl,g6⟩)⟩
   cases q with
   |normal=>subst hm;exact ret hk
   |ret=>subst hm;exact ret hk
   |pan v=>
    obtain⟨y,rfl,hR⟩:=hm;obtain⟨v',hr',he⟩:=hk;obtain⟨F2,ι2,g1,g2,g3,g4,g5,g6⟩:=fin _ _ _ he hR;exact⟨hr.df,F2,ι2,g1,g2,g3,g4,g5,hwr.oc (by rw[hr'];exact⟨y,rfl,g6⟩)⟩
   |exit id=>exact hk.elim
   |goto l=>exact hk.elim
theorem OW {C:m6} {f:FuncId} {args as:List V} {Hr:Hp} {dst:Nat} {d7:List Id} {bs bs':List B} {r:Oc} {u:FrameMode} (hCon:ja C f as bs r bs') (has:args.map (p5 Hr d7 6)=as) (hbs:M6 Hr d7 d7=bs)
  (hck:(dQ d7&&gd dst d7&&gC Hr d7&&Nat.ble d7.length bs'.length&&(jH r&&iy bs'||V8 d7 args&&gN Hr d7 d7))=true)
  {w0:World} {L:Nat->Prop} {w:World} {F:Nat->Prop} {ι:Io} {H H':Hp} (st:St w0 L w F ι H) (hr:∀id b,Hr id=some b->H id=some b) {vs:Array Value} (hvs:RL w F ι args vs.toList)
  (hgl:∀g,RF w F (C.gl g) (gptr g)) (hd:∀id x,ι id=some x->H id≠none) (happ:A6 dst H (bH d7 dst 0 bs')=some H'):
  CallsD C.P f vs u w fun e u' w'=>u'=u/\∃F2 ι2,Nx w0 L w F ι w' F2 ι2 H'/\ni w' F2 ι2 d7 dst r e:=by
 simp only[Bool.and_eq_true,Bool.or_eq_true]at hck;obtain⟨⟨⟨⟨hnd,hno⟩,hsome⟩,s3⟩,hcase⟩:=hck;have hnd:=oK hnd;have hno:=oJ hno;have hsome:=sx hsome;have s3:=Nat.le_of_ble_eq_true s3;subst hbs;subst has;have hget:∀(k:Nat) (X:B),(M6 Hr d7 d7)[k]? =some X->∃id Y,d7[k]? =some id/\Hr id=some Y/\H id=some Y/\X=cK Hr d7 Y:=by
  intro k X hk;obtain⟨id,h1,h2⟩:=rz hk;obtain⟨Y,hY⟩:=hsome id (List.mem_of_getElem? h1);rw[hY]at h2;exact⟨id,Y,h1,hY,hr _ _ hY,h2⟩
 have hdm0:∀id x,Ik ι d7 id=some x->∃k,k<(M6 Hr d7 d7).length/\id= .k k:=by
  intro id x hx;cases id with
  |d=>simp[Ik]at hx
  |k k=>
   refine⟨k,?_,rfl⟩;rw[rC];rcases Nat.lt_or_ge k d7.length with h|h
   ·exact h
   ·simp[Ik,List.getElem?_eq_none h]at hx
 have hlive:∀(k:Nat) (X:B),(M6 Hr d7 d7)[k]? =some X->X≠ .dead->∃id Y,d7[k]? =some id/\H id=some Y/\Y≠ .dead:=by
  intro k X hk hX;obtain⟨id,Y,h1,_,h2,rfl⟩:=hget k X hk;exact⟨id,Y,h1,h2,by rintro rfl;exact hX rfl⟩
 have hdomOf:∀{ι1:Io},(∀id x,ι1 id=some x->∃k,k<bs'.length/\id= .k k)->∀id x,ι1 id=some x->∃k,id= .k k/\I2 ι ι1 d7 dst bs'.length (B6 d7 dst k)=some x:=by
  intro ι1 h id x hx;obtain⟨k,hk,rfl⟩:=h id x hx;exact⟨k,rfl,by rw[dV hnd hno hk];exact hx⟩
 rcases hcase with ⟨hn1,hn2⟩|⟨hc1,hc2⟩
 ·have sk:=St.keep st hr d7 hnd (bs:=M6 Hr d7 d7) fun k X hk hX=>by
   obtain⟨id,Y,h1,_,h2,h3⟩:=hget k X hk;exact⟨id,Y,h1,h2,h3⟩
  refine CallsD.mono (hCon.2 u w (Fx F ι H d7) (Ik ι d7) vs (kb sk) (fun g=>(hgl g).mono fun _=> .inl) hdm0 (rx st hr d7 6 hvs)) ?_;rintro e u' w' ⟨rfl,F1,ι1,g1,g2,g3,st1,g5,g6⟩;refine⟨rfl,fun b=>F b\/(F1 b/\w.heap.size<=b),_,nJ st hd hnd hno s3 hlive happ st1 g3 g5 (fun b=> .inl) (fun b hb=>hb.imp id fun h=> .inr h.2) (fun b hb=> ?_) (fun k X vs hk hB=> ?_),?_⟩
  ·rcases hb with hb|hb
   ·exact g1 b (.inl hb)
   ·exact hb.1
  ·exact Dt (wA hn2 hk) hB
  ·exact nj (hdomOf g5) (Du hn1) g6
 ·have sk:=St.keepC st (Hr:=Hr) d7 hnd (bs:=M6 Hr d7 d7) fun k X hk hX=>by
   obtain⟨id,Y,h1,h0,h2,h3⟩:=hget k X hk;exact⟨id,Y,h1,h2,h3,fun xs hxs=>uN hc2 id (List.mem_of_getElem? h1) xs (hxs▸h0)⟩
  refine CallsD.mono (hCon.2 u w F (Ik ι d7) vs (kb sk) hgl hdm0 (ry d7 6 hc1 hvs)) ?_;rintro e u' w' ⟨rfl,F1,ι1,g1,g2,g3,st1,g5,g6⟩;exact⟨rfl,F1,_,nJ st hd hnd hno s3 hlive happ st1 g3 g5 g1 g2 (fun b hb=>hb) (fun k X vs hk hB=>hB),nj (hdomOf g5) (fun v x h _=>h) g6⟩
theorem V4.e {C:m6} {f:Nat} {rt:Rt} {fn:Func} {nt:Nat} (d:V4 C f rt fn nt) {args:List V} {bs bs':List B} {r:Oc} (h:tj C rt fn args bs r bs') (ha:Nat.ble args.length nt=true:=by rfl):ja C f args bs r bs':=
 Po d.ok d.f d.name d.rt (by rw[d.nt];exact ha) (K:=dn C bs.length fn.results.toList r bs') (fun _ _ h=>⟨_,_,h,.refl _,.refl _⟩) h
def qu (ops:List Oper) (K:Nat->Prop):Prop:=match ops with
 |[o]=>match o.guard with
  |some _=>False
  |none=>match o.dst with
   |some _=>False
   |none=>match o.op with
    | .defer c=>match c.callee with
     | .value (.tmp cl)=>match c.args.toList with
      |[]=>K cl
      |_=>False
     |_=>False
    |_=>False
 |_=>False
def tg (C:m6) (m:Nat) (res:List ResultVar) (r:Oc) (bs':List B) (fc:Nat) (args:List V) (s:S):Prop:=
 ∃(d7:List Id) (as:List V) (bs0 bs1:List B) (v:V),ja C fc as bs0 (.ret v) bs1/\args.map (p5 s.H d7 6)=as/\M6 s.H d7 d7=bs0/\
  w6 (dQ d7&&gd 900009 d7&&gC s.H d7&&Nat.ble d7.length bs1.length&&(V8 d7 args&&gN s.H d7 d7)) (∃H',A6 900009 s.H (bH d7 900009 0 bs1)=some H'/\jZ C m res r bs' ⟨s.T,H'⟩)
def th (C:m6) (m:Nat) (res:List ResultVar) (r:Oc) (bs':List B) (fc:Nat) (args:List V) (e:X) (s:S):Prop:=
 match e with
 | .normal=>tg C m res r bs' fc args s
 | .ret=>tg C m res r bs' fc args s
 |_=>False
def mz:List V->Bool
 |[]=>true
 | .p _ _::r=>mz r
 |_=>false
def tl (C:m6) (rt:Rt) (fn:Func) (args:List V) (bs:List B) (r:Oc) (bs':List B):Prop:=
 match fn.body with
 |some (.seq (.region _ ops false) (.seq (.region _ ops1 false) c))=>gh C ops.toList ops.toList (D3 args) (Hof bs) (fun T H=>match ops1.toList with
  |[om,od]=>gh C ops1.toList [om] T H (fun T H=>∃d:D,Mt bs.length ⟨T,H⟩ d/\qu [od] fun cl=>∃fc caps,lk d.sl cl= .f (.func fc) [] caps/\mz caps=true/\vc C rt d.bs.length c d.s (th C bs.length fn.results.toList r bs' fc caps)) (fun _ _ _=>False)
  |_=>False) (fun _ _ _=>False)
 |_=>False
theorem Qc {o:Oper} {K:Nat->Prop} (h:qu [o] K):∃(c:Call) (cl:Nat),o.guard=none/\o.dst=none/\o.op= .defer c/\c.callee= .value (.tmp cl)/\c.args= #[]/\K cl:=by
 unfold qu at h;simp only at h;split at h
 ·exact h.elim
 ·rename_i hg;split at h
  ·exact h.elim
  ·rename_i hd;split at h
   ·rename_i c hc;split at h
    ·rename_i cl hf;split at h
     ·rename_i ha;exact⟨c,cl,hg,hd,hc,hf,by cases hh:c.args;simp_all,h⟩
     ·exact h.elim
    ·exact h.elim
   ·exact h.elim
theorem Qb {C:m6} {ops:Array Oper} {o:Oper} {c:Call} {fc cl:Nat} {caps:Array Value} {Q:Exit->Act->World->Prop} {a:Act} {w:World} (hg:o.guard=none) (hd:o.dst=none) (hop:o.op= .defer c) (hc:c.callee= .value (.tmp cl)) (ha:c.args= #[])
  (hcl:a.tmps.getD cl undef= .func (.func fc) #[] caps) (h:Q .normal {a with defers:={target:= .fn (.func fc) caps,args:= #[]}::a.defers} w):wpList C.P ops Q [o] a w:=by
 unfold wpList;have hw:Region.wanted o (yielded ops a.tmps)=true:=by unfold Region.wanted;rw[hg]
 rw[hw];simp only[if_true];refine .inl ?_;unfold Oper.wp;have hrun:(execOp a.eval o).run C.P w= .ok (.defer {target:= .fn (.func fc) caps,args:= #[]}) w:=by
  unfold execOp;simp[hop,resolve,hc,ha,Deferred.ofValue,Act.eval,hcl]
 rw[hrun,Oper.upon_defer,hd];unfold wpList;exact h
theorem DW {w w':World} {F F':Nat->Prop} {ι ι':Io} (him:∀id x,ι id=some x->ι' id=some x):∀{l:List V} {vs:List Value},mz l=true->RL w F ι l vs->RL w' F' ι' l vs
 |[],_,_,h=>by cases h;exact .nil
 |x::r,_,hp,h=>by
  cases h with
  |cons h1 h2=>
   cases x<;>simp only[mz]at hp<;>try exact absurd hp (by decide)
   refine .cons ?_ (DW him hp h2);obtain⟨b,base,rfl,hi⟩:=wK h1;exact .p (him _ _ hi)
theorem Ps {C : m6} {rt : Rt} {f : FuncId} {fn : Func} {args : List V} {bs bs' : List B} {r : Oc} (hC : q6 C) (hf : C.P.funcs[f]? = some fn) (hname : (fn.name == "runtime.NumGoroutine") = false) (hok : W0 rt fn = true) (hargs : Nat.ble args.length fn.ntmps = true)
  (h:tl C rt fn args bs r bs'):b9 C f args bs r bs':=by
 unfold tl at h;split at h
 ·rename_i id0 ops id1 ops1 c hb;unfold W0 at hok;rw[hb]at hok;simp only[G4,Bool.and_eq_true]at hok;refine⟨js hf hname hb,fun w F ι vs st hgl hdm hl=> ?_⟩;have s3:args.length=vs.size:=by simpa using hl.length
  have hle:=Nat.le_of_ble_eq_true hargs;refine calls_of_wp_defers hf hb ?_;have rel0:B1 C fn.ntmps [] w (Lb ι bs) F ι F ι (D3 args) (Hof bs) {tmps:=vs++Array.replicate (fn.ntmps-vs.size) undef,defers:=[]} w:=by
   refine⟨st,fun _ h=>h,fun _ h=> .inl h,fun _ _ h=>h,?_,by simp;omega,rfl,?_,hgl⟩
   ·intro id x hx;obtain⟨k,hk,rfl⟩:=hdm id x hx;simp[Hof,hk]
   ·intro j;have lk_get:∀(l:List V) (j:Nat),D3 l j=match l[j]? with|some v=>v|none=> .u:=by
     intro l;induction l with
     |nil=>intro j;rfl
     |cons x r ih=>
      intro j;cases j with
      |zero=>rfl
      |succ j=>simpa [D3]using ih j
    show R w F ι (D3 args j) ((vs++Array.replicate (fn.ntmps-vs.size) undef).getD j undef);rw[lk_get];cases hj:args[j]? with
    |none=>exact .fz .u
    |some v=>
     obtain⟨x,hx,hR⟩:=hl.get hj;have hx':vs[j]? =some x:=by simpa using hx
     have d8:=(Array.getElem?_eq_some_iff.1 hx').1;simpa [Array.getElem?_append_left d8,hx']using hR
  refine wp_seq (wp_mono (dl (rt:=rt) hC hdm (.region id0 ops false) ⟨D3 args,Hof bs⟩ (fun e s=>match e with
   | .normal=>(match ops1.toList with
    |[om,od]=>gh C ops1.toList [om] s.T s.H (fun T H=>∃d:D,Mt bs.length ⟨T,H⟩ d/\qu [od] fun cl=>∃fc caps,lk d.sl cl= .f (.func fc) [] caps/\mz caps=true/\vc C rt d.bs.length c d.s (th C bs.length fn.results.toList r bs' fc caps)) (fun _ _ _=>False)
    |_=>False)
   |_=>False) F ι _ w hok.1 h rel0) ?_)
  rintro e a1 w1 ⟨q,s1,F1,ι1,hk,hr1,hm⟩;cases q with
  |normal=>
   subst hm;show(Code.seq (.region id1 ops1 false) c).wp C.P _ a1 w1;refine wp_seq ?_;dsimp only at hk;split at hk
   ·rename_i om od hops;have hok1:=hok.2.1;rw[hops]at hok1;simp only[gg,Bool.and_eq_true]at hok1;refine wp_region_list ?_;rw[hops];rw[DI]at hk;unfold wpList;refine ER (ops:=ops1) (KP:=fun _ _ _=>False) hC hk hr1 hok1.1 ?_ (fun v x T' H' F' ι' a' w' hk _ _=>hk.elim);intro T' H' F1 ι1 a1 w1 hk hr1;obtain⟨d,hmt,hrest⟩:=hk;obtain⟨F2,ι2,hr2⟩:=dW hdm hr1 hmt;have hdm2:∀id x,ι2 id=some x->∃k,k<d.bs.length/\id= .k k:=by
     intro id x hx;have:=hr2.dm id x hx;cases id with
     |d=>simp[D.s,Hof]at this
     |k k=>
      refine⟨k,?_,rfl⟩;rcases Nat.lt_or_ge k d.bs.length with h|h
      ·exact h
      ·simp[D.s,Hof,List.getElem?_eq_none h]at this
    have im1:=hr2.im;have hr3:B1 C fn.ntmps [] w (Lb ι bs) F ι2 F2 ι2 d.s.T d.s.H a1 w1:={hr2 with im:=fun _ _ h=>h}
    -- the end
    have finish:∀(fc:Nat) (caps:List V) (cs:Array Value),mz caps=true->RL w1 F2 ι2 caps cs.toList->∀e a' w',M3 C fn.ntmps [{target:= .fn (.func fc) cs,args:= #[]}] w (Lb ι bs) F ι2 (th C bs.length fn.results.toList r bs' fc caps) e a' w'->
      bodyPostD C.P fn (fun e w'=>∃(F':Nat->Prop) (ι':Io),(∀b,F b->F' b)/\(∀b,F' b->F b\/Lb ι bs b\/w.heap.size<=b)/\(∀id x,ι id=some x->ι' id=some x)/\
       St w (Lb ι bs) w' F' ι' (Hof bs')/\(∀id x,ι' id=some x->∃k,k<bs'.length/\id= .k k)/\aT w' F' ι' r e) e a' w':=by
     intro fc caps cs hpt hcs
     -- the results,from a state
     have ret:∀(s':S) (F':Nat->Prop) (ι':Io) (a':Act) (w':World),jZ C bs.length fn.results.toList r bs' s'->B1 C fn.ntmps [{target:= .fn (.func fc) cs,args:= #[]}] w (Lb ι bs) F ι2 F' ι' s'.T s'.H a' w'->
       ∃v,(results fn a'.tmps).run C.P w'= .ok v w'/\∃(F2:Nat->Prop) (ι2:Io),(∀b,F b->F2 b)/\(∀b,F2 b->F b\/Lb ι bs b\/w.heap.size<=b)/\(∀id x,ι id=some x->ι2 id=some x)/\
        St w (Lb ι bs) w' F2 ι2 (Hof bs')/\(∀id x,ι2 id=some x->∃k,k<bs'.length/\id= .k k)/\aT w' F2 ι2 r (.returned v):=by
      intro s' F' ι' a' w' h hr0;have hr:B1 C fn.ntmps _ w (Lb ι bs) F ι F' ι' s'.T s'.H a' w':={hr0 with im:=fun id x hx=>hr0.im id x (im1 id x hx)};obtain⟨vs,⟨r0,bs0,⟨v',hr',he⟩,hwr,hwb⟩,hh⟩:=mI hC h;obtain⟨x,hx,hR⟩:=hh _ _ w' F' ι' a'.tmps hr.st hr.sl;have hln:=hwb.len;obtain⟨d7,he⟩:=he;obtain⟨h1,h2,h3⟩:=B0.1 he;simp only[Bool.and_eq_true]at h1;have kr:=jG hdm hr h1.1 h1.2 h3 (fun _=> .u) fun _=> .inl rfl;refine⟨x,hx,_,_,kr.f0,kr.fn,kr.im,kr.st.wk hwb,fun id x hx=> ?_,hwr.oc ?_⟩
      ·have:=kr.dm id x hx;cases id with
       |d=>simp[Hof]at this
       |k k=>
        refine⟨k,?_,rfl⟩;rcases Nat.lt_or_ge k bs0.length with h|h
        ·exact Nat.lt_of_lt_of_le h hln
        ·simp[Hof,List.getElem?_eq_none h]at this
      ·rw[hr'];refine⟨x,rfl,?_⟩;rw[<-h2];exact io hr.st (fun _ _ h=>h) d7 6 hR
     have go:∀(s':S) (F':Nat->Prop) (ι':Io) (a':Act) (w':World),tg C bs.length fn.results.toList r bs' fc caps s'->B1 C fn.ntmps [{target:= .fn (.func fc) cs,args:= #[]}] w (Lb ι bs) F ι2 F' ι' s'.T s'.H a' w'->
       Leaves C.P fn a'.tmps (fun e w'=>∃(F':Nat->Prop) (ι':Io),(∀b,F b->F' b)/\(∀b,F' b->F b\/Lb ι bs b\/w.heap.size<=b)/\(∀id x,ι id=some x->ι' id=some x)/\
        St w (Lb ι bs) w' F' ι' (Hof bs')/\(∀id x,ι' id=some x->∃k,k<bs'.length/\id= .k k)/\aT w' F' ι' r e) a'.defers .returning w':=by
      intro s' F' ι' a' w' hk hr;rw[hr.df];obtain⟨d7,as,bs0,bs1,v,hCon,has,hbs,hk⟩:=hk;obtain⟨hck,H',happ,hfin⟩:=B0.1 hk;have hcs':RL w' F' ι' caps cs.toList:=DW hr.im hpt hcs;have hck':(dQ d7&&gd 900009 d7&&gC s'.H d7&&Nat.ble d7.length bs1.length&&(jH (.ret v)&&iy bs1||V8 d7 caps&&gN s'.H d7 d7))=true:=by
       simp only[Bool.and_eq_true,Bool.or_eq_true]at hck ⊢;exact⟨hck.1,.inr hck.2⟩
      refine leaves_cons (f:=fc) (args:=cs) (by simp) (by simp[invoke,hCon.1]) ((OW hCon has hbs hck' hr.st (fun _ _ h=>h) hcs' hr.gl hr.dm happ).mono ?_);rintro e u' w'' ⟨rfl,F3,ι3,hnx,x,rfl,hR⟩;obtain⟨x,hx,hR⟩:=ret ⟨s'.T,H'⟩ F3 ι3 a' w'' hfin (hr.nx hnx);exact⟨x,hx,hR⟩
     rintro e a' w' ⟨z,s',F',ι',hk,hr,hm⟩;cases z with
     |normal=>subst hm;exact go s' F' ι' a' w' hk hr
     |ret=>subst hm;exact go s' F' ι' a' w' hk hr
     |pan v=>exact hk.elim
     |exit id=>exact hk.elim
     |goto l=>exact hk.elim
    obtain⟨cc,cl,hg,hd,hop,hcal,ha,fc,caps,hcl,hpt,hv⟩:=Qc hrest;have hRc:R w1 F2 ι2 (.f (.func fc) [] caps) (a1.tmps.getD cl undef):=by rw[<-hcl];exact hr3.sl cl
    obtain⟨us,ws,he,hl1,hl2⟩:=hRc.f_inv;have hus:us= #[]:=by
     cases us with
     |mk l=>cases l with
      |nil=>rfl
      |cons=>cases hl1
    subst hus;refine Qb hg hd hop hcal ha he ?_;show c.wp C.P _ _ w1;exact wp_mono (dl hC hdm2 c d.s _ F2 ι2 _ w1 hok.2.2 hv {hr3 with df:=by show _::a1.defers=_;rw[hr3.df]}) (finish fc caps ws hpt hl2)
   ·exact hk.elim
  |exit id=>exact hk.elim
  |goto l=>exact hk.elim
  |ret=>exact hk.elim
  |pan v=>exact hk.elim
 ·exact h.elim
theorem V4.p {C:m6} {f:Nat} {rt:Rt} {fn:Func} {nt:Nat} (d:V4 C f rt fn nt) {args:List V} {bs bs':List B} {r:Oc} (h:tl C rt fn args bs r bs') (ha:Nat.ble args.length nt=true:=by rfl):b9 C f args bs r bs':=Ps d.ok d.f d.name d.rt (by rw[d.nt];exact ha) h
end Go.Scr
namespace Go.Scr
noncomputable def zb (C:m6) (rt:Rt) (m z:Nat) (c:Code):S->(X->S->Prop)->Prop:=
 Code.rec (motive:=fun _=>S->(X->S->Prop)->Prop)
  (skip:=fun s K=>vc C rt m .skip s K)
  (region:=fun id ops d s K=>match Nat.beq id z with
   |true=>vc C rt m (.region id ops d) s fun e s'=>match e with
    | .normal=>∃D,Mt m s' D/\K .normal D.s
    |e=>K e s'
   |false=>vc C rt m (.region id ops d) s K)
  (seq:=fun _ _ ihx ihy s K=>ihx s fun e s'=>match e with
   | .normal=>ihy s' K
   |e=>K e s')
  (cond:=fun c x y _ _ s K=>vc C rt m (.cond c x y) s K)
  (block:=fun id c _ s K=>vc C rt m (.block id c) s K)
  (loop:=fun c _ s K=>vc C rt m (.loop c) s K)
  (rangeFunc:=fun _ _ _ _ _ _ _ _=>False)
  (exit:=fun id s K=>vc C rt m (.exit id) s K)
  (scope:=fun _ _ _ _=>False)
  (label:=fun l s K=>vc C rt m (.label l) s K)
  (goto:=fun l s K=>vc C rt m (.goto l) s K)
  (ret:=fun s K=>vc C rt m .ret s K)
  (refuse:=fun _ _ _=>False) c
theorem Ij {C:m6} {N m z:Nat} {ds:List Deferred} {w0:World} {L F0:Nat->Prop} {ι0:Io} {rt:Rt} (hC:q6 C) (hι0:∀id x,ι0 id=some x->∃k,k<m/\id= .k k):∀(c:Code) (s:S) (K:X->S->Prop) (F:Nat->Prop) (ι:Io) (a:Act) (w:World),G4 rt N c=true->zb C rt m z c s K->
  B1 C N ds w0 L F0 ι0 F ι s.T s.H a w->c.wp C.P (M3 C N ds w0 L F0 ι0 K) a w:=by
 intro c;induction c with
 |scope c _=>intro s K F ι a w hok h hr;exact h.elim
 |seq x y ihx ihy=>
  intro s K F ι a w hok h hr;simp only[G4,Bool.and_eq_true]at hok;refine wp_seq (wp_mono (ihx s _ F ι a w hok.1 h hr) ?_);rintro e a' w' ⟨q,s',F',ι',hk,hr',hm⟩;cases q with
  |normal=>subst hm;exact ihy s' K F' ι' a' w' hok.2 hk hr'
  |exit id=>subst hm;exact⟨.exit id,s',F',ι',hk,hr',rfl⟩
  |goto l=>subst hm;exact⟨.goto l,s',F',ι',hk,hr',rfl⟩
  |ret=>subst hm;exact⟨.ret,s',F',ι',hk,hr',rfl⟩
  |pan v=>obtain⟨z,rfl,hR⟩:=hm;exact⟨.pan v,s',F',ι',hk,hr',z,rfl,hR⟩
 |region id ops d=>
  intro s K F ι a w hok h hr;have h:match Nat.beq id z with
   |true=>vc C rt m (.region id ops d) s fun e s'=>match e with
    | .normal=>∃D,Mt m s' D/\K .normal D.s
    |e=>K e s'
   |false=>vc C rt m (.region id ops d) s K:=h
  cases hb:Nat.beq id z
  ·rw[hb]at h;exact dl hC hι0 _ s K F ι a w hok h hr
  ·rw[hb]at h;refine wp_mono (dl hC hι0 _ s _ F ι a w hok h hr) ?_;rintro e a' w' ⟨q,s',F',ι',hk,hr',hm⟩;cases q with
   |normal=>
    obtain⟨D,hM,hK⟩:=hk;obtain⟨F2,ι2,hr2⟩:=dW hι0 hr' hM;exact⟨.normal,D.s,F2,ι2,hK,hr2,hm⟩
   |exit id=>exact⟨.exit id,s',F',ι',hk,hr',hm⟩
   |goto l=>exact⟨.goto l,s',F',ι',hk,hr',hm⟩
   |ret=>exact⟨.ret,s',F',ι',hk,hr',hm⟩
   |pan v=>exact⟨.pan v,s',F',ι',hk,hr',hm⟩
 |rangeFunc _ _ _ _ _ _=>intro s K F ι a w hok h hr;exact h.elim
 |refuse _=>intro s K F ι a w hok h hr;exact h.elim
 |_=>
  intro s K F ι a w hok h hr;exact dl hC hι0 _ s K F ι a w hok h hr
def yf (z:Nat) (C:m6) (rt:Rt) (fn:Func) (args:List V) (bs:List B) (r:Oc) (bs':List B):Prop:=
 match fn.body with
 |some c=>zb C rt bs.length z c ⟨D3 args,Hof bs⟩ fun e s=>dn C bs.length fn.results.toList r bs' e s
 |none=>False
theorem V4.z (z:Nat) {C:m6} {f:Nat} {rt:Rt} {fn:Func} {nt:Nat} (d:V4 C f rt fn nt) {args:List V} {bs bs':List B} {r:Oc} (h:yf z C rt fn args bs r bs') (ha:Nat.ble args.length nt=true:=by rfl):b9 C f args bs r bs':=by
 have hok:=d.rt;unfold yf at h;unfold W0 at hok;cases hb:fn.body with
 |none=>rw[hb]at h;exact h.elim
 |some c=>
  rw[hb]at h hok;exact AM d.ok d.f d.name hb (by rw[d.nt];exact ha) (K:=fun e s=>dn C bs.length fn.results.toList r bs' e s) (fun e s h=>⟨_,_,h,.refl _,Fg.refl _⟩) fun w F ι a hdm hr=>Ij d.ok hdm c ⟨D3 args,Hof bs⟩ _ F ι a w hok h hr
end Go.Scr
