/-
  'scrim/scrimlaw16.CtxPieces' is proved: for every input it returns true and leaves its arguments as they were (the tied card Rows.CtxPiecesCardSaid), with no further condition.
-/
import Derived.Test.YthhlfpbfdkogfaaGreatDoorRows
import Derived.Test.YthhlfpbfdkogfaaGreatDoorTie
import Derived.Test.YthhlfpbfdkogfaaGreatDoorCards
import Derived.ProofKit
import Derived.OpenShut
import Derived.LaidMore
import Derived.Lay
import Derived.SevenTiedAt
import Derived.Stop.Joined
import Derived.ChangeOld
import Derived.Below
import Derived.Carry
import Derived.Test.YthhlfpbfdkogfaaGreatDoorCtxPiecesL
namespace Go.Proofs.YthhlfpbfdkogfaaGreatDoor
open Go.ChangeShapes Go.WideShapes Go.ChangeAt Go.RowKit
open Go.Scr (V RL R RF n7 b9 C)
set_option linter.unusedVariables false

theorem own:ownKnob Tryz.prog.godebug=none:=by kernel_rfl
theorem laidOut:laidOutB Tryz.prog=true:=by kernel_rfl

abbrev onesL : List (String × DataW Unit) := [("scrim/box.ones", Rows.laid_scrim_box_ones)]
def onesZ:List Int:=[1,2,4,8,16,32,64,128]
theorem ones_cell {W:World} (h:laidMetH Tryz.prog onesL W) (r:Nat) (hr:r<8):W.cell? ⟨1,r,none⟩=some (.int .u8 (onesZ.getD r 0)):=by
  rw[MakeChecks.laidMetH_plain _ _ _ (by kernel_rfl)]at h
  obtain⟨ps,⟨g,t,cs,fuel,p,q,hg,ht,hv,hd,_,_⟩,_,_⟩:=h
  obtain rfl := Option.some.inj ((show Tryz.prog.globalNamed "scrim/box.ones" = some 1 by kernel_rfl).symm.trans hg)
  obtain rfl:=Option.some.inj ((show (Tryz.prog.globals[1]?).map (·.type)=some 235 by kernel_rfl).symm.trans ht)
  obtain⟨xs,m,_,ex,_,hl,hel⟩:=DataW.trod_array Tryz.underlying235 hd
  have c5:Tryz.prog.cellsOf 5=1:=by kernel_rfl
  have hE:=hel r hr
  rw[c5,Nat.mul_one,List.getElem?_eq_getElem (by omega)]at hE
  obtain⟨z,e1,e2,_⟩:=DataW.trod_int Tryz.underlying5 hE
  have hlen:onesZ.length=8:=rfl
  have e3:(xs.map (·.1))=onesZ.map fun n=> .lit (.int .u8 n):=(DataW.agg.inj (Prod.mk.inj ex).1).symm
  have e4:(xs.map (·.1))[r]? =(onesZ.map fun n=>(DataW.lit (.int .u8 n):DataW Unit))[r]? :=by rw[e3]
  rw[List.getElem?_map,List.getElem?_map,List.getElem?_eq_getElem (by omega:r<xs.length),List.getElem?_eq_getElem (by omega:r<onesZ.length),e2]at e4
  have hz:z=onesZ.getD r 0:=by
    simp only[Option.map_some,Option.some.injEq,DataW.lit.injEq,Lit.int.injEq,true_and]at e4
    rw[e4,List.getD,List.getElem?_eq_getElem (by omega:r<onesZ.length)];rfl
  rw[World.var?_cell hg hv r,←hz]
  have:cs.toList[r]? =some (.int .u8 z):=by
    have h0:((cs.toList.drop r).take 1)[0]? =some (.int .u8 z):=by rw[e1];rfl
    simpa using h0
  simpa using this

theorem cell_lt {W:World} {a:Addr} {x:Value} (h:W.cell? a=some x):a.block<W.heap.size∧a.spot=none:=by
  unfold World.cell? at h
  split at h
  · rename_i hb
    refine⟨(Array.getElem?_eq_some_iff.1 hb).1,?_⟩
    cases hs:a.spot with
    |none=>rfl
    |some s=>rw[hs]at h;simp at h
  · cases h

abbrev noIo:Scr.Io:=fun _=>none
theorem walk {f:Nat} {args:List V} (hc:b9 C f args [] (.ret (.s (.bool true))) []) {W:World} (hL:laidMetH Tryz.prog onesL W) {vs:Array Value} (ha:RL W (fun b=>b<W.heap.size) noIo args vs.toList):
    Calls Tryz.prog f vs W fun e W'=>e= .returned (.bool true)∧Below W.heap.size W W':=by
  have ones:RF W (fun b=>b<W.heap.size) (.qv Scr.ones8 0) (Scr.gptr 1):=by
    refine RF.qv (a:=⟨1,0,none⟩) ⟨(cell_lt (ones_cell hL 0 (by decide))).1,rfl,fun j x hj=> ?_⟩
    have hj8:j<8:=by
      rcases Nat.lt_or_ge j 8 with h|h
      · exact h
      · rw[List.getElem?_eq_none (by simpa [Scr.ones8]using h)]at hj;cases hj
    rw[show (0+j)=j by omega,ones_cell hL j hj8]
    have:∀j,j<8→Scr.ones8[j]? =some (.int .u8 (onesZ.getD j 0)):=by
      intro j hj
      have hl:onesZ.length=8:=rfl
      simp[Scr.ones8,onesZ,hj]
      rcases j with _|_|_|_|_|_|_|_|j<;>first|rfl|omega
    rw[this j hj8]at hj
    exact⟨hj,by cases Option.some.inj hj;rfl⟩
  have none:∀b,¬Scr.Lb noIo [] b:=by
    rintro b ⟨k,X,base,h,_⟩
    simp at h
  refine(hc.2 W (fun b=>b<W.heap.size) noIo vs ⟨rfl,rfl,rfl,Nat.le_refl _,fun _ _ _=>rfl,fun b arr t fr h=>⟨arr,fr,h,rfl⟩,fun b h=>h,?_,?_⟩ ?_ ?_ ha).mono ?_
  · intro id X h
    cases id<;>simp[Scr.Hof]at h
  · intro id id' X X' b base base' h
    cases id<;>simp[Scr.Hof]at h
  · intro g
    show RF W _ (Scr.glob g) (Scr.gptr g)
    unfold Scr.glob
    split
    · rename_i h
      rw[Nat.eq_of_beq_eq_true h]
      exact ones
    · exact .u
  · intro id x h
    cases h
  · rintro e w' ⟨F',ι',_,_,_,st,_,x,rfl,hR⟩
    exact⟨by rw[hR.s_inv],st.os,st.tape,st.output,st.size,fun k hk=>st.old k hk (none k)⟩

/-- What a slice of bytes is to a contract. -/
theorem bytes_arg {W:World} {a:Option Addr} {len cap:Nat} {zs:List Int} (h:(a=none∧len=0∧cap=0∧zs=[])∨
    ∃x,a=some x∧len≤cap∧zs.length=cap∧(∀i,i<zs.length→W.cell? (x.add i)=some (.int .u8 (zs.getD i 0)))∧∀n∈zs,(Lit.int .u8 n).wf=true):
    ∃b:List UInt8,b.length=len∧R W (fun b=>b<W.heap.size) noIo (.z len (Scr.bv b)) (.slice a len cap):=by
  rcases h with ⟨rfl,rfl,rfl,rfl⟩|⟨x,rfl,hl,hz,hc,hw⟩
  · exact⟨[],rfl,.fz .z0⟩
  · cases len with
    |zero=>exact⟨[],rfl,.fz .z0⟩
    |succ n=>
      have hx:W.cell? x=some (.int .u8 (zs.getD 0 0)):=by
        have:=hc 0 (by omega)
        simpa [Addr.add]using this
      obtain⟨hb,hs⟩:=cell_lt hx
      have hw':∀i,i<zs.length→0≤zs.getD i 0∧zs.getD i 0<256:=by
        intro i hi
        have hm:zs.getD i 0∈zs:=by
          rw[List.getD_eq_getElem?_getD,List.getElem?_eq_getElem hi]
          exact List.getElem_mem hi
        have h1:(decide ((0:Int)≤zs.getD i 0)&&decide (zs.getD i 0≤255))=true:=hw _ hm
        simp only[Bool.and_eq_true,decide_eq_true_eq]at h1
        omega
      refine⟨(zs.take (n+1)).map fun z=>UInt8.ofNat z.toNat,by simp;omega,.fz (.z hl ⟨hb,hs,fun j y hj=> ?_⟩)⟩
      have hjl:j<n+1:=by
        rcases Nat.lt_or_ge j (n+1)with h|h
        · exact h
        · rw[List.getElem?_eq_none (by simp[Scr.bv];omega)]at hj;cases hj
      have hjz:j<zs.length:=by omega
      have h1:=hc j hjz
      have h2:=hw' j hjz
      have e:W.cell? ⟨x.block,x.off+j,none⟩=some (.int .u8 (zs.getD j 0)):=by
        rw[←h1]
        unfold Addr.add
        split
        · rename_i h;subst h
          cases x with|mk b o s=>simp at hs;subst hs;rfl
        · rfl
      rw[e]
      simp[Scr.bv,hjl,hjz]at hj
      subst hj
      have e2:zs.getD j 0=zs[j]:=by rw[List.getD_eq_getElem?_getD,List.getElem?_eq_getElem hjz];rfl
      rw[e2]at h2 ⊢
      refine⟨?_,rfl⟩
      congr 2
      omega


/-- What a slice of ints is to a contract. -/
theorem ints_arg {W:World} {a:Option Addr} {len cap:Nat} {zs:List Int} (h:(a=none∧len=0∧cap=0∧zs=[])∨
    ∃x,a=some x∧len≤cap∧zs.length=cap∧(∀i,i<zs.length→W.cell? (x.add i)=some (.int .i64 (zs.getD i 0)))∧∀n∈zs,(Lit.int .i64 n).wf=true):
    ∃b:List Int,b.length=len∧(∀n∈b, -9223372036854775808≤n∧n≤9223372036854775807)∧R W (fun b=>b<W.heap.size) noIo (.z len (Scr.iv b)) (.slice a len cap):=by
  rcases h with ⟨rfl,rfl,rfl,rfl⟩|⟨x,rfl,hl,hz,hc,hw⟩
  · exact⟨[],rfl,by simp,.fz .z0⟩
  · cases len with
    |zero=>exact⟨[],rfl,by simp,.fz .z0⟩
    |succ n=>
      have hx:W.cell? x=some (.int .i64 (zs.getD 0 0)):=by
        have:=hc 0 (by omega)
        simpa [Addr.add]using this
      obtain⟨hb,hs⟩:=cell_lt hx
      refine⟨zs.take (n+1),by simp;omega,fun m hm=> ?_,.fz (.z hl ⟨hb,hs,fun j y hj=> ?_⟩)⟩
      · have h1:(decide ((-9223372036854775808:Int)≤m)&&decide (m≤9223372036854775807))=true:=hw m (List.mem_of_mem_take hm)
        simpa only[Bool.and_eq_true,decide_eq_true_eq]using h1
      · have hjl:j<n+1:=by
          rcases Nat.lt_or_ge j (n+1)with h|h
          · exact h
          · rw[List.getElem?_eq_none (by simp[Scr.iv];omega)]at hj;cases hj
        have hjz:j<zs.length:=by omega
        have e:W.cell? ⟨x.block,x.off+j,none⟩=some (.int .i64 (zs.getD j 0)):=by
          rw[←hc j hjz]
          unfold Addr.add
          split
          · rename_i h;subst h
            cases x with|mk b o s=>simp at hs;subst hs;rfl
          · rfl
        rw[e]
        have e2:zs.getD j 0=zs[j]:=by rw[List.getD_eq_getElem?_getD,List.getElem?_eq_getElem hjz];rfl
        simp[Scr.iv,hjl,hjz]at hj
        subst hj
        rw[e2]
        exact⟨rfl,rfl⟩


section
variable {H:Type} {enc:TypeId×Value→H} {P:Program} {w:World} {base:Nat} {spare:Nat→Bool} {held:Bool}
/-- A field of one cell. -/
theorem fld {fs:Array Field} {cs:List Value} {xs:List (DataW H×List MemPlace)} {n:Nat} (hfl:∀(i:Nat) (f:Field),fs[i]? =some f→DataW.trod enc P w base spare held n f.type ((cs.drop f.offset).take (P.cellsOf f.type))=xs[i]?) (hlen:xs.length=fs.size) (j:Nat) (f:Field) (hj:fs[j]? =some f) (ho:f.offset=j) (hc:P.cellsOf f.type=1) {c:Value} (hcj:cs[j]? =some c):
    ∃y,DataW.trod enc P w base spare held n f.type [c]=some y:=by
  have h:=hfl j f hj
  rw[ho,hc]at h
  obtain⟨h1,h2⟩:=List.getElem?_eq_some_iff.1 hcj
  have e:(cs.drop j).take 1=[c]:=by rw[List.drop_eq_getElem_cons h1,h2];rfl
  have hx:j<xs.length:=by rw[hlen];exact(Array.getElem?_eq_some_iff.1 hj).1
  rw[e,List.getElem?_eq_getElem hx]at h
  exact⟨_,h⟩
end
theorem array_7 {cs:Array Value} (h:cs.size=7):∃c0 c1 c2 c3 c4 c5 c6,cs= #[c0,c1,c2,c3,c4,c5,c6]:=by
  obtain⟨l⟩:=cs
  match l,h with
  |[c0,c1,c2,c3,c4,c5,c6],_=>exact⟨c0,c1,c2,c3,c4,c5,c6,rfl⟩

set_option maxRecDepth 100000 in
theorem lifted (os:Os) (started:os.Started) (H:Type) (enc:TypeId×Value→H):
    ReturnsInHanded {} Tryz.checked os 6 .any (fun w args=>(Rows.ctxPiecesSpec.pre enc Tryz.prog Tryz.f6 Rows.ctxPiecesRow.domain false w args∧laidMetH Tryz.prog onesL w)∧sizedMet enc Tryz.prog Tryz.f6 (OpenSpec.ofChange Rows.ctxPiecesSpec) false w args)
      (Rows.ctxPiecesSpec.post enc Tryz.prog Tryz.f6 false true false false):=by
  refine returnsInHanded_of_change_and (C:=Tryz.checked) (X:=fun w _=>laidMetH Tryz.prog onesL w) (fun _ _ _ hh h=>h.of_heap hh) own started (by kernel_rfl) Tryz.func6
    (ChangeSpec.witness_shaped (enc:=enc) (C:=Tryz.checked) (os:=os) (X:=fun w _=>laidMetH Tryz.prog onesL w) false (World.laidAll Tryz.prog os onesL) #[.agg #[.int .i64 0,.int .i64 0,.int .i64 0,.int .i64 0,.bool false,.slice none 0 0,.slice none 0 0],.slice none 0 0,.slice none 0 0] 8 (World.laidAll_os _ _ _)
      (World.shaped_of_ZipB (by kernel_rfl) (by kernel_rfl)) (by kernel_rfl) (by kernel_rfl) (by kernel_rfl)
      (by rw[MakeChecks.laidMetH_plain _ _ _ (by kernel_rfl)];exact laidMet_laidAll _ (by kernel_rfl) (by kernel_rfl))) ?_
  intro W base args ds gs before hval0 hW hcnd _ hL _
  have hval:∀(j:Nat) t v,Tryz.f6.params[j]? =some t→args[j]? =some v→Value.okWide Tryz.prog W .any base t v:=hval0
  have hW':=hW
  obtain⟨p,q,hA0,hV,rfl,hfz,hnd⟩:=hW
  have hA:DataW.TrodAll enc Tryz.prog W 0 (fun _=>true) true Tryz.f6.params.toList args.toList ds p:=hA0
  rw[Tryz.params6]at hA hval
  obtain⟨v0,vs0,d0,ds0,p0,q0,hargs,rfl,rfl,h0,r0⟩:=trodAll_cons hA
  obtain⟨v1,vs1,d1,ds1,p1,q1,rfl,rfl,rfl,h1,r1⟩:=trodAll_cons r0
  obtain⟨v2,vs2,d2,ds2,p2,q2,rfl,rfl,rfl,h2,r2⟩:=trodAll_cons r1
  obtain⟨rfl,rfl,rfl⟩:=trodAll_nil r2
  obtain rfl:args= #[v0,v1,v2]:=by cases args;simp_all
  obtain⟨rfl,rfl⟩:=trodVars_none hV
  obtain⟨c0,rfl,sz0⟩:=okWide_struct Tryz.underlying24 (hval 0 24 v0 rfl rfl)
  have k0:=h0
  have lt0:∀x∈p0,x.block<W.heap.size:=by obtain⟨m,hm⟩:=k0;exact DataW.trod_lt m _ _ _ hm
  obtain⟨z0_0,z0_1,z0_2,z0_3,z0_4,l0_5,b0_5,l0_6,b0_6,hz0_0,hz0_1,hz0_2,hz0_3,hb0_5,hb0_6,hR0⟩:∃(z0_0:Int) (z0_1:Int) (z0_2:Int) (z0_3:Int) (z0_4:Bool) (l0_5:Nat) (b0_5:List UInt8) (l0_6:Nat) (b0_6:List UInt8),(-9223372036854775808≤z0_0∧z0_0≤9223372036854775807)∧(-9223372036854775808≤z0_1∧z0_1≤9223372036854775807)∧(-9223372036854775808≤z0_2∧z0_2≤9223372036854775807)∧(-9223372036854775808≤z0_3∧z0_3≤9223372036854775807)∧b0_5.length=l0_5∧b0_6.length=l0_6∧R W (fun b=>b<W.heap.size) noIo (.a [.s (.int .i64 z0_0),.s (.int .i64 z0_1),.s (.int .i64 z0_2),.s (.int .i64 z0_3),.s (.bool z0_4),.z l0_5 (Scr.bv b0_5),.z l0_6 (Scr.bv b0_6)]) (.agg c0):=by
    obtain⟨c0_0,c0_1,c0_2,c0_3,c0_4,c0_5,c0_6,rfl⟩:=array_7 (sz0.trans (show Tryz.prog.cellsOf 24=7 by kernel_rfl))
    obtain⟨fuel,hf⟩:=h0
    obtain⟨xs,n,_,_,_,hlen,hfl⟩:=DataW.trod_struct Tryz.underlying24 hf
    obtain⟨y0_0,t0_0⟩:=fld hfl hlen 0 _ rfl rfl (by kernel_rfl) (c:=c0_0) rfl
    obtain⟨z0_0,e0_0,_,w0_0⟩:=DataW.trod_int Tryz.underlying3 t0_0
    obtain rfl:c0_0= .int .i64 z0_0:=by simpa using e0_0
    have hz0_0: -9223372036854775808≤z0_0∧z0_0≤9223372036854775807:=by
      have h1:(decide ((-9223372036854775808:Int)≤z0_0)&&decide (z0_0≤9223372036854775807))=true:=w0_0
      simpa only[Bool.and_eq_true,decide_eq_true_eq]using h1
    obtain⟨y0_1,t0_1⟩:=fld hfl hlen 1 _ rfl rfl (by kernel_rfl) (c:=c0_1) rfl
    obtain⟨z0_1,e0_1,_,w0_1⟩:=DataW.trod_int Tryz.underlying3 t0_1
    obtain rfl:c0_1= .int .i64 z0_1:=by simpa using e0_1
    have hz0_1: -9223372036854775808≤z0_1∧z0_1≤9223372036854775807:=by
      have h1:(decide ((-9223372036854775808:Int)≤z0_1)&&decide (z0_1≤9223372036854775807))=true:=w0_1
      simpa only[Bool.and_eq_true,decide_eq_true_eq]using h1
    obtain⟨y0_2,t0_2⟩:=fld hfl hlen 2 _ rfl rfl (by kernel_rfl) (c:=c0_2) rfl
    obtain⟨z0_2,e0_2,_,w0_2⟩:=DataW.trod_int Tryz.underlying3 t0_2
    obtain rfl:c0_2= .int .i64 z0_2:=by simpa using e0_2
    have hz0_2: -9223372036854775808≤z0_2∧z0_2≤9223372036854775807:=by
      have h1:(decide ((-9223372036854775808:Int)≤z0_2)&&decide (z0_2≤9223372036854775807))=true:=w0_2
      simpa only[Bool.and_eq_true,decide_eq_true_eq]using h1
    obtain⟨y0_3,t0_3⟩:=fld hfl hlen 3 _ rfl rfl (by kernel_rfl) (c:=c0_3) rfl
    obtain⟨z0_3,e0_3,_,w0_3⟩:=DataW.trod_int Tryz.underlying3 t0_3
    obtain rfl:c0_3= .int .i64 z0_3:=by simpa using e0_3
    have hz0_3: -9223372036854775808≤z0_3∧z0_3≤9223372036854775807:=by
      have h1:(decide ((-9223372036854775808:Int)≤z0_3)&&decide (z0_3≤9223372036854775807))=true:=w0_3
      simpa only[Bool.and_eq_true,decide_eq_true_eq]using h1
    obtain⟨y0_4,t0_4⟩:=fld hfl hlen 4 _ rfl rfl (by kernel_rfl) (c:=c0_4) rfl
    obtain⟨z0_4,e0_4,_⟩:=DataW.trod_bool Tryz.underlying4 t0_4
    obtain rfl:c0_4= .bool z0_4:=by simpa using e0_4
    obtain⟨y0_5,t0_5⟩:=fld hfl hlen 5 _ rfl rfl (by kernel_rfl) (c:=c0_5) rfl
    obtain⟨a0_5,l0_5,k0_5,b0_5,e0_5,hb0_5,R0_5⟩:∃a l k,∃b:List UInt8,c0_5= .slice a l k∧b.length=l∧R W (fun b=>b<W.heap.size) noIo (.z l (Scr.bv b)) (.slice a l k):=by
      rcases open_ints Tryz.underlying22 Tryz.underlying5 (by kernel_rfl) t0_5 with ⟨hcs,_⟩|⟨x,l,c,zs,hcs,_,hl,hm,hz,_,hcell,hwz⟩
      · obtain⟨b,hb,hR⟩:=bytes_arg (W:=W) (zs:=[]) (.inl ⟨rfl,rfl,rfl,rfl⟩)
        exact⟨none,0,0,b,by simpa using hcs,hb,hR⟩
      · obtain⟨b,hb,hR⟩:=bytes_arg (W:=W) (.inr ⟨x,rfl,hl,by simpa using hz,hcell,hwz⟩)
        exact⟨some x,l,c,b,by simpa using hcs,hb,hR⟩
    subst e0_5
    obtain⟨y0_6,t0_6⟩:=fld hfl hlen 6 _ rfl rfl (by kernel_rfl) (c:=c0_6) rfl
    obtain⟨a0_6,l0_6,k0_6,b0_6,e0_6,hb0_6,R0_6⟩:∃a l k,∃b:List UInt8,c0_6= .slice a l k∧b.length=l∧R W (fun b=>b<W.heap.size) noIo (.z l (Scr.bv b)) (.slice a l k):=by
      rcases open_ints Tryz.underlying22 Tryz.underlying5 (by kernel_rfl) t0_6 with ⟨hcs,_⟩|⟨x,l,c,zs,hcs,_,hl,hm,hz,_,hcell,hwz⟩
      · obtain⟨b,hb,hR⟩:=bytes_arg (W:=W) (zs:=[]) (.inl ⟨rfl,rfl,rfl,rfl⟩)
        exact⟨none,0,0,b,by simpa using hcs,hb,hR⟩
      · obtain⟨b,hb,hR⟩:=bytes_arg (W:=W) (.inr ⟨x,rfl,hl,by simpa using hz,hcell,hwz⟩)
        exact⟨some x,l,c,b,by simpa using hcs,hb,hR⟩
    subst e0_6
    exact⟨z0_0,z0_1,z0_2,z0_3,z0_4,l0_5,b0_5,l0_6,b0_6,hz0_0,hz0_1,hz0_2,hz0_3,hb0_5,hb0_6,.a (.cons (.fz .s) (.cons (.fz .s) (.cons (.fz .s) (.cons (.fz .s) (.cons (.fz .s) (.cons R0_5 (.cons R0_6 .nil)))))))⟩
  obtain⟨a1,len1,cap1,rfl⟩:=okWide_slice Tryz.underlying22 (hval 1 22 v1 rfl rfl)
  have k1:=h1
  have lt1:∀x∈p1,x.block<W.heap.size:=by obtain⟨m,hm⟩:=k1;exact DataW.trod_lt m _ _ _ hm
  obtain⟨b1,hb1,hR1⟩:∃b:List UInt8,b.length=len1∧R W (fun b=>b<W.heap.size) noIo (.z len1 (Scr.bv b)) (.slice a1 len1 cap1):=by
    obtain⟨fuel,hf⟩:=h1
    rcases open_ints Tryz.underlying22 Tryz.underlying5 (by kernel_rfl) hf with ⟨hcs,_⟩|⟨x,l,c,zs,hcs,_,hl,hm,hz,_,hcell,hwz⟩
    · simp[Value.cells]at hcs
      obtain⟨rfl,rfl,rfl⟩:=hcs
      exact bytes_arg (.inl ⟨rfl,rfl,rfl,rfl⟩)
    · simp[Value.cells]at hcs
      obtain⟨rfl,rfl,rfl⟩:=hcs
      exact bytes_arg (.inr ⟨_,rfl,hl,by simpa using hz,hcell,hwz⟩)
  obtain⟨a2,len2,cap2,rfl⟩:=okWide_slice Tryz.underlying48 (hval 2 48 v2 rfl rfl)
  have k2:=h2
  have lt2:∀x∈p2,x.block<W.heap.size:=by obtain⟨m,hm⟩:=k2;exact DataW.trod_lt m _ _ _ hm
  obtain⟨b2,hb2,hn2,hR2⟩:∃b:List Int,b.length=len2∧(∀n∈b, -9223372036854775808≤n∧n≤9223372036854775807)∧R W (fun b=>b<W.heap.size) noIo (.z len2 (Scr.iv b)) (.slice a2 len2 cap2):=by
    obtain⟨fuel,hf⟩:=h2
    rcases open_ints Tryz.underlying48 Tryz.underlying3 (by kernel_rfl) hf with ⟨hcs,_⟩|⟨x,l,c,zs,hcs,_,hl,hm,hz,_,hcell,hwz⟩
    · simp[Value.cells]at hcs
      obtain⟨rfl,rfl,rfl⟩:=hcs
      exact ints_arg (.inl ⟨rfl,rfl,rfl,rfl⟩)
    · simp[Value.cells]at hcs
      obtain⟨rfl,rfl,rfl⟩:=hcs
      exact ints_arg (.inr ⟨_,rfl,hl,by simpa using hz,hcell,hwz⟩)
  clear hA0 hval0
  have hcon:=Scr.c_cxpieces hz0_0 hz0_1 hz0_2 hz0_3 (back:=z0_4) hb0_5 hb0_6 hb1 hb2 hn2
  refine(walk hcon hL (.cons hR0 (.cons hR1 (.cons hR2 .nil)))).mono fun e W' ⟨he,bel⟩=> ?_
  subst he
  exact⟨_,rfl,_,_,_,[],_,[],hW',trodAll_mk1 (shut_bool Tryz.underlying4 _),(trodAll_cons_mk (Below.trod laidOut (by kernel_rfl) (of_decide_eq_true (by kernel_rfl)) k0 bel lt0) (trodAll_cons_mk (Below.trod laidOut (by kernel_rfl) (of_decide_eq_true (by kernel_rfl)) k1 bel lt1) (trodAll_cons_mk (Below.trod laidOut (by kernel_rfl) (of_decide_eq_true (by kernel_rfl)) k2 bel lt2) trodAll_mk0))),rfl,bel.frame _,fun h=>by cases h⟩

theorem row_holds:Rows.CtxPiecesSaid:=
  OpenClaim.holds_of_wide 6 Tryz.f6 rfl rfl rfl rfl rfl rfl rfl ⟨rfl,rfl,rfl,rfl,rfl⟩ rfl rfl rfl rfl rfl (by kernel_rfl) Tryz.func6 (by kernel_rfl)
    (of_decide_eq_true (by kernel_rfl)) (by unfold Func.isWrapper;first|(rw [if_pos (by decide +kernel)];kernel_rfl)|(rw [if_neg (by decide +kernel)];exact⟨rfl,rfl⟩))
    (fun os started H enc _=>lifted os started H enc)

theorem ctxPieces_holds:Rows.CtxPiecesCardSaid:=
  Claim7.holds_tied_plain_at .later [] [.data] true (true, "1c4a19251602e91eec53c590b0225df4c292c023232cf489b0a47162c0d7aefe") true row_holds (fun _ h => by cases h) (by kernel_rfl) (fun _ h => by cases h) ctxPieces_row_tie rfl ⟨rfl, rfl⟩ (by kernel_rfl) rfl
    (fun f fn hf hfn=>by
      obtain rfl : f = 6 := Option.some.inj ((show Tryz.prog.funcNamed "scrim/scrimlaw16.CtxPieces" = some 6 by kernel_rfl).symm.trans hf) |>.symm
      obtain rfl:fn=Tryz.f6:=(Option.some.inj (Tryz.func6.symm.trans hfn)).symm
      exact⟨by kernel_rfl,fun j t ht=>by
        rw[Tryz.params6]at ht
        have hm:t∈[24,22,48]:=by simpa using Array.mem_of_getElem? ht
        have hall:([24,22,48].all fun u=> !Tryz.prog.wantsStandIn u)=true:=by kernel_rfl
        exact(show Tryz.prog.wantsStandIn t=false by simpa using List.all_eq_true.1 hall t hm)⟩)
    (by kernel_rfl)
#print axioms ctxPieces_holds
end Go.Proofs.YthhlfpbfdkogfaaGreatDoor
