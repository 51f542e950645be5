/-
  'scrim/scrimlaw17.RunPlays' is proved: for every input it returns true and leaves its arguments as they were (the tied card Rows.RunPlaysCardSaid), with no further condition.
-/
import Derived.Test.YthhlfpbfdkogfaaGreatDoorRows
import Derived.Test.YthhlfpbfdkogfaaGreatDoorTie
import Derived.Test.YthhlfpbfdkogfaaGreatDoorCards
import Derived.ProofKit
import Derived.OpenShut
import Derived.LaidMore
import Derived.Lay
import Derived.SevenTiedAt
import Derived.Stop.Joined
import Derived.ChangeOld
import Derived.Below
import Derived.Carry
import Derived.Test.YthhlfpbfdkogfaaGreatDoorRunPlaysL
namespace Go.Proofs.YthhlfpbfdkogfaaGreatDoor
open Go.ChangeShapes Go.WideShapes Go.ChangeAt Go.RowKit
open Go.Scr (V RL R RF n7 b9 C)
set_option linter.unusedVariables false

theorem own:ownKnob Tryz.prog.godebug=none:=by kernel_rfl
theorem laidOut:laidOutB Tryz.prog=true:=by kernel_rfl

abbrev onesL : List (String × DataW Unit) := [("scrim/box.ones", Rows.laid_scrim_box_ones)]
def onesZ:List Int:=[1,2,4,8,16,32,64,128]
theorem ones_cell {W:World} (h:laidMetH Tryz.prog onesL W) (r:Nat) (hr:r<8):W.cell? ⟨1,r,none⟩=some (.int .u8 (onesZ.getD r 0)):=by
  rw[MakeChecks.laidMetH_plain _ _ _ (by kernel_rfl)]at h
  obtain⟨ps,⟨g,t,cs,fuel,p,q,hg,ht,hv,hd,_,_⟩,_,_⟩:=h
  obtain rfl := Option.some.inj ((show Tryz.prog.globalNamed "scrim/box.ones" = some 1 by kernel_rfl).symm.trans hg)
  obtain rfl:=Option.some.inj ((show (Tryz.prog.globals[1]?).map (·.type)=some 235 by kernel_rfl).symm.trans ht)
  obtain⟨xs,m,_,ex,_,hl,hel⟩:=DataW.trod_array Tryz.underlying235 hd
  have c5:Tryz.prog.cellsOf 5=1:=by kernel_rfl
  have hE:=hel r hr
  rw[c5,Nat.mul_one,List.getElem?_eq_getElem (by omega)]at hE
  obtain⟨z,e1,e2,_⟩:=DataW.trod_int Tryz.underlying5 hE
  have hlen:onesZ.length=8:=rfl
  have e3:(xs.map (·.1))=onesZ.map fun n=> .lit (.int .u8 n):=(DataW.agg.inj (Prod.mk.inj ex).1).symm
  have e4:(xs.map (·.1))[r]? =(onesZ.map fun n=>(DataW.lit (.int .u8 n):DataW Unit))[r]? :=by rw[e3]
  rw[List.getElem?_map,List.getElem?_map,List.getElem?_eq_getElem (by omega:r<xs.length),List.getElem?_eq_getElem (by omega:r<onesZ.length),e2]at e4
  have hz:z=onesZ.getD r 0:=by
    simp only[Option.map_some,Option.some.injEq,DataW.lit.injEq,Lit.int.injEq,true_and]at e4
    rw[e4,List.getD,List.getElem?_eq_getElem (by omega:r<onesZ.length)];rfl
  rw[World.var?_cell hg hv r,←hz]
  have:cs.toList[r]? =some (.int .u8 z):=by
    have h0:((cs.toList.drop r).take 1)[0]? =some (.int .u8 z):=by rw[e1];rfl
    simpa using h0
  simpa using this

theorem cell_lt {W:World} {a:Addr} {x:Value} (h:W.cell? a=some x):a.block<W.heap.size∧a.spot=none:=by
  unfold World.cell? at h
  split at h
  · rename_i hb
    refine⟨(Array.getElem?_eq_some_iff.1 hb).1,?_⟩
    cases hs:a.spot with
    |none=>rfl
    |some s=>rw[hs]at h;simp at h
  · cases h

abbrev noIo:Scr.Io:=fun _=>none
theorem walk {f:Nat} {args:List V} (hc:b9 C f args [] (.ret (.s (.bool true))) []) {W:World} (hL:laidMetH Tryz.prog onesL W) {vs:Array Value} (ha:RL W (fun b=>b<W.heap.size) noIo args vs.toList):
    Calls Tryz.prog f vs W fun e W'=>e= .returned (.bool true)∧Below W.heap.size W W':=by
  have ones:RF W (fun b=>b<W.heap.size) (.qv Scr.ones8 0) (Scr.gptr 1):=by
    refine RF.qv (a:=⟨1,0,none⟩) ⟨(cell_lt (ones_cell hL 0 (by decide))).1,rfl,fun j x hj=> ?_⟩
    have hj8:j<8:=by
      rcases Nat.lt_or_ge j 8 with h|h
      · exact h
      · rw[List.getElem?_eq_none (by simpa [Scr.ones8]using h)]at hj;cases hj
    rw[show (0+j)=j by omega,ones_cell hL j hj8]
    have:∀j,j<8→Scr.ones8[j]? =some (.int .u8 (onesZ.getD j 0)):=by
      intro j hj
      have hl:onesZ.length=8:=rfl
      simp[Scr.ones8,onesZ,hj]
      rcases j with _|_|_|_|_|_|_|_|j<;>first|rfl|omega
    rw[this j hj8]at hj
    exact⟨hj,by cases Option.some.inj hj;rfl⟩
  have none:∀b,¬Scr.Lb noIo [] b:=by
    rintro b ⟨k,X,base,h,_⟩
    simp at h
  refine(hc.2 W (fun b=>b<W.heap.size) noIo vs ⟨rfl,rfl,rfl,Nat.le_refl _,fun _ _ _=>rfl,fun b arr t fr h=>⟨arr,fr,h,rfl⟩,fun b h=>h,?_,?_⟩ ?_ ?_ ha).mono ?_
  · intro id X h
    cases id<;>simp[Scr.Hof]at h
  · intro id id' X X' b base base' h
    cases id<;>simp[Scr.Hof]at h
  · intro g
    show RF W _ (Scr.glob g) (Scr.gptr g)
    unfold Scr.glob
    split
    · rename_i h
      rw[Nat.eq_of_beq_eq_true h]
      exact ones
    · exact .u
  · intro id x h
    cases h
  · rintro e w' ⟨F',ι',_,_,_,st,_,x,rfl,hR⟩
    exact⟨by rw[hR.s_inv],st.os,st.tape,st.output,st.size,fun k hk=>st.old k hk (none k)⟩

/-- What a slice of bytes is to a contract. -/
theorem bytes_arg {W:World} {a:Option Addr} {len cap:Nat} {zs:List Int} (h:(a=none∧len=0∧cap=0∧zs=[])∨
    ∃x,a=some x∧len≤cap∧zs.length=cap∧(∀i,i<zs.length→W.cell? (x.add i)=some (.int .u8 (zs.getD i 0)))∧∀n∈zs,(Lit.int .u8 n).wf=true):
    ∃b:List UInt8,b.length=len∧R W (fun b=>b<W.heap.size) noIo (.z len (Scr.bv b)) (.slice a len cap):=by
  rcases h with ⟨rfl,rfl,rfl,rfl⟩|⟨x,rfl,hl,hz,hc,hw⟩
  · exact⟨[],rfl,.fz .z0⟩
  · cases len with
    |zero=>exact⟨[],rfl,.fz .z0⟩
    |succ n=>
      have hx:W.cell? x=some (.int .u8 (zs.getD 0 0)):=by
        have:=hc 0 (by omega)
        simpa [Addr.add]using this
      obtain⟨hb,hs⟩:=cell_lt hx
      have hw':∀i,i<zs.length→0≤zs.getD i 0∧zs.getD i 0<256:=by
        intro i hi
        have hm:zs.getD i 0∈zs:=by
          rw[List.getD_eq_getElem?_getD,List.getElem?_eq_getElem hi]
          exact List.getElem_mem hi
        have h1:(decide ((0:Int)≤zs.getD i 0)&&decide (zs.getD i 0≤255))=true:=hw _ hm
        simp only[Bool.and_eq_true,decide_eq_true_eq]at h1
        omega
      refine⟨(zs.take (n+1)).map fun z=>UInt8.ofNat z.toNat,by simp;omega,.fz (.z hl ⟨hb,hs,fun j y hj=> ?_⟩)⟩
      have hjl:j<n+1:=by
        rcases Nat.lt_or_ge j (n+1)with h|h
        · exact h
        · rw[List.getElem?_eq_none (by simp[Scr.bv];omega)]at hj;cases hj
      have hjz:j<zs.length:=by omega
      have h1:=hc j hjz
      have h2:=hw' j hjz
      have e:W.cell? ⟨x.block,x.off+j,none⟩=some (.int .u8 (zs.getD j 0)):=by
        rw[←h1]
        unfold Addr.add
        split
        · rename_i h;subst h
          cases x with|mk b o s=>simp at hs;subst hs;rfl
        · rfl
      rw[e]
      simp[Scr.bv,hjl,hjz]at hj
      subst hj
      have e2:zs.getD j 0=zs[j]:=by rw[List.getD_eq_getElem?_getD,List.getElem?_eq_getElem hjz];rfl
      rw[e2]at h2 ⊢
      refine⟨?_,rfl⟩
      congr 2
      omega


section
variable {H:Type} {enc:TypeId×Value→H} {P:Program} {w:World} {base:Nat} {spare:Nat→Bool} {held:Bool}
/-- A field of one cell. -/
theorem fld {fs:Array Field} {cs:List Value} {xs:List (DataW H×List MemPlace)} {n:Nat} (hfl:∀(i:Nat) (f:Field),fs[i]? =some f→DataW.trod enc P w base spare held n f.type ((cs.drop f.offset).take (P.cellsOf f.type))=xs[i]?) (hlen:xs.length=fs.size) (j:Nat) (f:Field) (hj:fs[j]? =some f) (ho:f.offset=j) (hc:P.cellsOf f.type=1) {c:Value} (hcj:cs[j]? =some c):
    ∃y,DataW.trod enc P w base spare held n f.type [c]=some y:=by
  have h:=hfl j f hj
  rw[ho,hc]at h
  obtain⟨h1,h2⟩:=List.getElem?_eq_some_iff.1 hcj
  have e:(cs.drop j).take 1=[c]:=by rw[List.drop_eq_getElem_cons h1,h2];rfl
  have hx:j<xs.length:=by rw[hlen];exact(Array.getElem?_eq_some_iff.1 hj).1
  rw[e,List.getElem?_eq_getElem hx]at h
  exact⟨_,h⟩
end
section
variable {H:Type} {enc:TypeId×Value→H} {P:Program} {w:World} {base:Nat} {spare:Nat→Bool} {held:Bool}
theorem fldo {fs:Array Field} {cs:List Value} {xs:List (DataW H×List MemPlace)} {n:Nat} (hfl:∀(i:Nat) (f:Field),fs[i]? =some f→DataW.trod enc P w base spare held n f.type ((cs.drop f.offset).take (P.cellsOf f.type))=xs[i]?) (hlen:xs.length=fs.size) (j:Nat) (f:Field) (hj:fs[j]? =some f) {m:Nat} (hm:P.cellsOf f.type=m) {ds:List Value} (hd:(cs.drop f.offset).take m=ds):
    ∃y,DataW.trod enc P w base spare held n f.type ds=some y:=by
  have h:=hfl j f hj
  rw[hm]at h
  have hx:j<xs.length:=by rw[hlen];exact(Array.getElem?_eq_some_iff.1 hj).1
  rw[hd,List.getElem?_eq_getElem hx]at h
  exact⟨_,h⟩
end
theorem list_13 {cs:List Value} (h:cs.length=13):∃c0 c1 c2 c3 c4 c5 c6 c7 c8 c9 c10 c11 c12,cs=[c0,c1,c2,c3,c4,c5,c6,c7,c8,c9,c10,c11,c12]:=by
  match cs,h with
  |[c0,c1,c2,c3,c4,c5,c6,c7,c8,c9,c10,c11,c12],_=>exact⟨c0,c1,c2,c3,c4,c5,c6,c7,c8,c9,c10,c11,c12,rfl⟩
theorem R_z {W:World} {n:Nat} {vs:List Value} {x:Value} (h:R W (fun b=>b<W.heap.size) noIo (.z n vs) x):RF W (fun b=>b<W.heap.size) (.z n vs) x:=by
  cases h with
  |fz h=>exact h
theorem raw1 {H:Type} {enc:TypeId×Value→H} {W:World} {held:Bool} {n:Nat} {cs:List Value} {y:DataW H×List MemPlace} (hf:DataW.trod enc Tryz.prog W 0 (fun _=>true) held n 147 cs=some y):
    ∃x:Scr.RawL,Scr.RawOk x∧cs.length=13∧(∀c∈cs,c.oneCell'=true)∧n7 W (fun b=>b<W.heap.size) (Scr.rwV x) cs:=by
  obtain⟨xs,n,_,_,hcl,hlen,hfl⟩:=DataW.trod_struct Tryz.underlying147 hf
  obtain⟨c0,c1,c2,c3,c4,c5,c6,c7,c8,c9,c10,c11,c12,rfl⟩:=list_13 (hcl.trans (show Tryz.prog.cellsOf 147=13 by kernel_rfl))
  obtain⟨v0,u0⟩:=fldo hfl hlen 0 _ rfl (m:=1) (by kernel_rfl) (ds:=[c0]) rfl
  obtain⟨z0,e0,_,w0⟩:=DataW.trod_int Tryz.underlying3 u0
  obtain rfl:c0= .int .i64 z0:=by simpa using e0
  have hz0: -9223372036854775808≤z0∧z0≤9223372036854775807:=by
    have h1:(decide ((-9223372036854775808:Int)≤z0)&&decide (z0≤9223372036854775807))=true:=w0
    simpa only[Bool.and_eq_true,decide_eq_true_eq]using h1
  obtain⟨y1,t1⟩:=fldo hfl hlen 1 _ rfl (m:=7) (by kernel_rfl) (ds:=[c1,c2,c3,c4,c5,c6,c7]) rfl
  obtain⟨xs1,n1,_,_,_,hlen1,hfl1⟩:=DataW.trod_struct Tryz.underlying24 t1
  obtain⟨v1,u1⟩:=fld hfl1 hlen1 0 _ rfl rfl (by kernel_rfl) (c:=c1) rfl
  obtain⟨z1,e1,_,w1⟩:=DataW.trod_int Tryz.underlying3 u1
  obtain rfl:c1= .int .i64 z1:=by simpa using e1
  have hz1: -9223372036854775808≤z1∧z1≤9223372036854775807:=by
    have h1:(decide ((-9223372036854775808:Int)≤z1)&&decide (z1≤9223372036854775807))=true:=w1
    simpa only[Bool.and_eq_true,decide_eq_true_eq]using h1
  obtain⟨v2,u2⟩:=fld hfl1 hlen1 1 _ rfl rfl (by kernel_rfl) (c:=c2) rfl
  obtain⟨z2,e2,_,w2⟩:=DataW.trod_int Tryz.underlying3 u2
  obtain rfl:c2= .int .i64 z2:=by simpa using e2
  have hz2: -9223372036854775808≤z2∧z2≤9223372036854775807:=by
    have h1:(decide ((-9223372036854775808:Int)≤z2)&&decide (z2≤9223372036854775807))=true:=w2
    simpa only[Bool.and_eq_true,decide_eq_true_eq]using h1
  obtain⟨v3,u3⟩:=fld hfl1 hlen1 2 _ rfl rfl (by kernel_rfl) (c:=c3) rfl
  obtain⟨z3,e3,_,w3⟩:=DataW.trod_int Tryz.underlying3 u3
  obtain rfl:c3= .int .i64 z3:=by simpa using e3
  have hz3: -9223372036854775808≤z3∧z3≤9223372036854775807:=by
    have h1:(decide ((-9223372036854775808:Int)≤z3)&&decide (z3≤9223372036854775807))=true:=w3
    simpa only[Bool.and_eq_true,decide_eq_true_eq]using h1
  obtain⟨v4,u4⟩:=fld hfl1 hlen1 3 _ rfl rfl (by kernel_rfl) (c:=c4) rfl
  obtain⟨z4,e4,_,w4⟩:=DataW.trod_int Tryz.underlying3 u4
  obtain rfl:c4= .int .i64 z4:=by simpa using e4
  have hz4: -9223372036854775808≤z4∧z4≤9223372036854775807:=by
    have h1:(decide ((-9223372036854775808:Int)≤z4)&&decide (z4≤9223372036854775807))=true:=w4
    simpa only[Bool.and_eq_true,decide_eq_true_eq]using h1
  obtain⟨v5,u5⟩:=fld hfl1 hlen1 4 _ rfl rfl (by kernel_rfl) (c:=c5) rfl
  obtain⟨z5,e5,_⟩:=DataW.trod_bool Tryz.underlying4 u5
  obtain rfl:c5= .bool z5:=by simpa using e5
  obtain⟨v6,u6⟩:=fld hfl1 hlen1 5 _ rfl rfl (by kernel_rfl) (c:=c6) rfl
  obtain⟨a6,l6,k6,b6,e6,hb6,R6⟩:∃a l k,∃b:List UInt8,c6= .slice a l k∧b.length=l∧R W (fun b=>b<W.heap.size) noIo (.z l (Scr.bv b)) (.slice a l k):=by
    rcases open_ints Tryz.underlying22 Tryz.underlying5 (by kernel_rfl) u6 with ⟨hcs,_⟩|⟨x,l,c,zs,hcs,_,hl,hm,hz,_,hcell,hwz⟩
    · obtain⟨b,hb,hR⟩:=bytes_arg (W:=W) (zs:=[]) (.inl ⟨rfl,rfl,rfl,rfl⟩)
      exact⟨none,0,0,b,by simpa using hcs,hb,hR⟩
    · obtain⟨b,hb,hR⟩:=bytes_arg (W:=W) (.inr ⟨x,rfl,hl,by simpa using hz,hcell,hwz⟩)
      exact⟨some x,l,c,b,by simpa using hcs,hb,hR⟩
  subst e6
  subst hb6
  obtain⟨v7,u7⟩:=fld hfl1 hlen1 6 _ rfl rfl (by kernel_rfl) (c:=c7) rfl
  obtain⟨a7,l7,k7,b7,e7,hb7,R7⟩:∃a l k,∃b:List UInt8,c7= .slice a l k∧b.length=l∧R W (fun b=>b<W.heap.size) noIo (.z l (Scr.bv b)) (.slice a l k):=by
    rcases open_ints Tryz.underlying22 Tryz.underlying5 (by kernel_rfl) u7 with ⟨hcs,_⟩|⟨x,l,c,zs,hcs,_,hl,hm,hz,_,hcell,hwz⟩
    · obtain⟨b,hb,hR⟩:=bytes_arg (W:=W) (zs:=[]) (.inl ⟨rfl,rfl,rfl,rfl⟩)
      exact⟨none,0,0,b,by simpa using hcs,hb,hR⟩
    · obtain⟨b,hb,hR⟩:=bytes_arg (W:=W) (.inr ⟨x,rfl,hl,by simpa using hz,hcell,hwz⟩)
      exact⟨some x,l,c,b,by simpa using hcs,hb,hR⟩
  subst e7
  subst hb7
  obtain⟨v8,u8⟩:=fldo hfl hlen 2 _ rfl (m:=1) (by kernel_rfl) (ds:=[c8]) rfl
  obtain⟨a8,l8,k8,b8,e8,hb8,R8⟩:∃a l k,∃b:List UInt8,c8= .slice a l k∧b.length=l∧R W (fun b=>b<W.heap.size) noIo (.z l (Scr.bv b)) (.slice a l k):=by
    rcases open_ints Tryz.underlying22 Tryz.underlying5 (by kernel_rfl) u8 with ⟨hcs,_⟩|⟨x,l,c,zs,hcs,_,hl,hm,hz,_,hcell,hwz⟩
    · obtain⟨b,hb,hR⟩:=bytes_arg (W:=W) (zs:=[]) (.inl ⟨rfl,rfl,rfl,rfl⟩)
      exact⟨none,0,0,b,by simpa using hcs,hb,hR⟩
    · obtain⟨b,hb,hR⟩:=bytes_arg (W:=W) (.inr ⟨x,rfl,hl,by simpa using hz,hcell,hwz⟩)
      exact⟨some x,l,c,b,by simpa using hcs,hb,hR⟩
  subst e8
  subst hb8
  obtain⟨y9,t9⟩:=fldo hfl hlen 3 _ rfl (m:=4) (by kernel_rfl) (ds:=[c9,c10,c11,c12]) rfl
  obtain⟨xs9,n9,_,_,_,hlen9,hfl9⟩:=DataW.trod_struct Tryz.underlying28 t9
  obtain⟨v9,u9⟩:=fld hfl9 hlen9 0 _ rfl rfl (by kernel_rfl) (c:=c9) rfl
  obtain⟨z9,e9,_,w9⟩:=DataW.trod_int Tryz.underlying3 u9
  obtain rfl:c9= .int .i64 z9:=by simpa using e9
  have hz9: -9223372036854775808≤z9∧z9≤9223372036854775807:=by
    have h1:(decide ((-9223372036854775808:Int)≤z9)&&decide (z9≤9223372036854775807))=true:=w9
    simpa only[Bool.and_eq_true,decide_eq_true_eq]using h1
  obtain⟨v10,u10⟩:=fld hfl9 hlen9 1 _ rfl rfl (by kernel_rfl) (c:=c10) rfl
  obtain⟨z10,e10,_,w10⟩:=DataW.trod_int Tryz.underlying3 u10
  obtain rfl:c10= .int .i64 z10:=by simpa using e10
  have hz10: -9223372036854775808≤z10∧z10≤9223372036854775807:=by
    have h1:(decide ((-9223372036854775808:Int)≤z10)&&decide (z10≤9223372036854775807))=true:=w10
    simpa only[Bool.and_eq_true,decide_eq_true_eq]using h1
  obtain⟨v11,u11⟩:=fld hfl9 hlen9 2 _ rfl rfl (by kernel_rfl) (c:=c11) rfl
  obtain⟨z11,e11,_,w11⟩:=DataW.trod_int Tryz.underlying3 u11
  obtain rfl:c11= .int .i64 z11:=by simpa using e11
  have hz11: -9223372036854775808≤z11∧z11≤9223372036854775807:=by
    have h1:(decide ((-9223372036854775808:Int)≤z11)&&decide (z11≤9223372036854775807))=true:=w11
    simpa only[Bool.and_eq_true,decide_eq_true_eq]using h1
  obtain⟨v12,u12⟩:=fld hfl9 hlen9 3 _ rfl rfl (by kernel_rfl) (c:=c12) rfl
  obtain⟨z12,e12,_⟩:=DataW.trod_bool Tryz.underlying4 u12
  obtain rfl:c12= .bool z12:=by simpa using e12
  refine⟨⟨z0,z1,z2,z3,z4,z5,b6,b7,b8,z9,z10,z11,z12⟩,⟨hz0,hz1,hz2,hz3,hz4⟩,rfl,?_,(.cons .s (.cons .s (.cons .s (.cons .s (.cons .s (.cons .s (.cons (R_z R6) (.cons (R_z R7) (.cons (R_z R8) (.cons .s (.cons .s (.cons .s (.cons .s .nil)))))))))))))⟩
  intro c hc
  simp only[List.mem_cons,List.not_mem_nil,or_false]at hc
  rcases hc with rfl|rfl|rfl|rfl|rfl|rfl|rfl|rfl|rfl|rfl|rfl|rfl|rfl<;>rfl
theorem RFL_app {W:World} {F:Nat→Prop}:∀{xs ys:List V} {us vs:List Value},n7 W F xs us→n7 W F ys vs→n7 W F (xs++ys) (us++vs)
  |_,_,_,_,.nil,h=>h
  |_,_,_,_,.cons a b,h=> .cons a (RFL_app b h)
theorem raws_arg {H:Type} {enc:TypeId×Value→H} {W:World} {held:Bool} {fuel:Nat} {a:Option Addr} {len cap:Nat} {t:TypeId} {y:DataW H×List MemPlace} (ht:Tryz.prog.underlying t=some (.slice 147)) (hf:DataW.trod enc Tryz.prog W 0 (fun _=>true) held fuel t [.slice a len cap]=some y):
    ∃l:List Scr.RawL,l.length=len∧len≤9223372036854775807∧(∀x∈l,Scr.RawOk x)∧R W (fun b=>b<W.heap.size) noIo (.zz 13 len (l.flatMap Scr.rwV)) (.slice a len cap):=by
  rcases DataW.trod_slice ht hf with ⟨hcs,_⟩|⟨x,l,c,elems,rest,n,_,hcs,_,hb,hl,hm,hlen,hel,_,_⟩
  · simp at hcs
    obtain⟨rfl,rfl,rfl⟩:=hcs
    exact⟨[],rfl,by decide,by simp,.fz .zz0⟩
  · simp at hcs
    obtain⟨rfl,rfl,rfl⟩:=hcs
    have hlb:len≤9223372036854775807:=Nat.le_trans hl hm
    have c13:Tryz.prog.cellsOf 147=13:=by kernel_rfl
    rw[c13]at hel
    have one:∀i,i<len→∃(r:Scr.RawL) (cs:List Value),Scr.RawOk r∧cs.length=13∧(∀c∈cs,c.oneCell'=true)∧n7 W (fun b=>b<W.heap.size) (Scr.rwV r) cs∧∀k,k<13→W.cell? ((x.add (i*13)).add k)=cs[k]? :=by
      intro i hi
      have h:=hel i hi
      rw[List.getElem?_eq_getElem (by omega),Option.bind_eq_some_iff]at h
      obtain⟨cs,h1,h2⟩:=h
      obtain⟨r,r1,r2,r3,r4⟩:=raw1 h2
      exact⟨r,cs,r1,r2,r3,r4,(World.cells?_some h1).2.2⟩
    cases hz:len with
    |zero=>exact⟨[],rfl,by decide,by simp,.fz .zz0⟩
    |succ k0=>
      have hx0:∃v,W.cell? x=some v:=by
        obtain⟨r,cs,_,h2,_,_,h5⟩:=one 0 (by omega)
        have:=h5 0 (by omega)
        rw[List.getElem?_eq_getElem (by omega)]at this
        exact⟨_,by simpa [Addr.add]using this⟩
      obtain⟨v0,hv0⟩:=hx0
      obtain⟨hbl,hs⟩:=cell_lt hv0
      have addr:∀i k,(x.add (i*13)).add k=⟨x.block,x.off+(i*13+k),none⟩:=by
        intro i k
        cases x with
        |mk b o s=>
          simp only at hs
          subst hs
          unfold Addr.add
          simp only
          split<;>split<;>simp_all<;>omega
      have all:∀m,m≤len→∃(l:List Scr.RawL) (vs:List Value),l.length=m∧(∀x∈l,Scr.RawOk x)∧vs.length=m*13∧n7 W (fun b=>b<W.heap.size) (l.flatMap Scr.rwV) vs∧∀j y,vs[j]? =some y→W.cell? ⟨x.block,x.off+j,none⟩=some y∧y.oneCell'=true:=by
        intro m
        induction m with
        |zero=>intro _;exact⟨[],[],rfl,by simp,by simp,.nil,by simp⟩
        |succ m ih=>
          intro hm1
          obtain⟨l,vs,q1,q2,q3,q4,q5⟩:=ih (by omega)
          obtain⟨r,cs,r1,r2,r3,r4,r5⟩:=one m (by omega)
          refine⟨l++[r],vs++cs,by simp[q1],?_,by rw[List.length_append,q3,r2,Nat.succ_mul],?_,?_⟩
          · intro z hz
            rcases List.mem_append.1 hz with h|h
            · exact q2 z h
            · simp at h;subst h;exact r1
          · rw[List.flatMap_append]
            refine RFL_app q4 ?_
            simpa using r4
          · intro j y hj
            by_cases hjl:j<vs.length
            · rw[List.getElem?_append_left hjl]at hj
              exact q5 j y hj
            · rw[List.getElem?_append_right (by omega)]at hj
              have hk:j-vs.length<13:=by
                have:=(List.getElem?_eq_some_iff.1 hj).1
                omega
              have h1:=r5 (j-vs.length) hk
              rw[addr,show m*13+(j-vs.length)=j by omega,hj]at h1
              exact⟨h1,r3 y (List.mem_of_getElem? hj)⟩
      obtain⟨l,vs,q1,q2,q3,q4,q5⟩:=all len (Nat.le_refl _)
      exact⟨l,by rw[←hz];exact q1,by rw[←hz];exact hlb,q2,by rw[←hz];exact .fz (.zz hl q4 ⟨hbl,hs,q5⟩)⟩


set_option maxRecDepth 100000 in
theorem lifted (os:Os) (started:os.Started) (H:Type) (enc:TypeId×Value→H):
    ReturnsInHanded {} Tryz.checked os 7 .any (fun w args=>(Rows.runPlaysSpec.pre enc Tryz.prog Tryz.f7 Rows.runPlaysRow.domain false w args∧laidMetH Tryz.prog onesL w)∧sizedMet enc Tryz.prog Tryz.f7 (OpenSpec.ofChange Rows.runPlaysSpec) false w args)
      (Rows.runPlaysSpec.post enc Tryz.prog Tryz.f7 false true false false):=by
  refine returnsInHanded_of_change_and (C:=Tryz.checked) (X:=fun w _=>laidMetH Tryz.prog onesL w) (fun _ _ _ hh h=>h.of_heap hh) own started (by kernel_rfl) Tryz.func7
    (ChangeSpec.witness_shaped (enc:=enc) (C:=Tryz.checked) (os:=os) (X:=fun w _=>laidMetH Tryz.prog onesL w) false (World.laidAll Tryz.prog os onesL) #[.slice none 0 0] 8 (World.laidAll_os _ _ _)
      (World.shaped_of_ZipB (by kernel_rfl) (by kernel_rfl)) (by kernel_rfl) (by kernel_rfl) (by kernel_rfl)
      (by rw[MakeChecks.laidMetH_plain _ _ _ (by kernel_rfl)];exact laidMet_laidAll _ (by kernel_rfl) (by kernel_rfl))) ?_
  intro W base args ds gs before hval0 hW hcnd _ hL _
  have hval:∀(j:Nat) t v,Tryz.f7.params[j]? =some t→args[j]? =some v→Value.okWide Tryz.prog W .any base t v:=hval0
  have hW':=hW
  obtain⟨p,q,hA0,hV,rfl,hfz,hnd⟩:=hW
  have hA:DataW.TrodAll enc Tryz.prog W 0 (fun _=>true) true Tryz.f7.params.toList args.toList ds p:=hA0
  rw[Tryz.params7]at hA hval
  obtain⟨v0,vs0,d0,ds0,p0,q0,hargs,rfl,rfl,h0,r0⟩:=trodAll_cons hA
  obtain⟨rfl,rfl,rfl⟩:=trodAll_nil r0
  obtain rfl:args= #[v0]:=by cases args;simp_all
  obtain⟨rfl,rfl⟩:=trodVars_none hV
  obtain⟨a0,len0,cap0,rfl⟩:=okWide_slice Tryz.underlying73 (hval 0 73 v0 rfl rfl)
  have k0:=h0
  have lt0:∀x∈p0,x.block<W.heap.size:=by obtain⟨m,hm⟩:=k0;exact DataW.trod_lt m _ _ _ hm
  obtain⟨b0,hb0,hn0,ho0,hR0⟩:∃b:List Scr.RawL,b.length=len0∧len0≤9223372036854775807∧(∀x∈b,Scr.RawOk x)∧R W (fun b=>b<W.heap.size) noIo (.zz 13 len0 (b.flatMap Scr.rwV)) (.slice a0 len0 cap0):=by
    obtain⟨fuel,hf⟩:=h0
    exact raws_arg Tryz.underlying73 (by simpa [Value.cells]using hf)
  clear hA0 hval0
  have hcon:=Scr.c_law_plays hb0 hn0 ho0
  refine(walk hcon hL (.cons hR0 .nil)).mono fun e W' ⟨he,bel⟩=> ?_
  subst he
  exact⟨_,rfl,_,_,_,[],_,[],hW',trodAll_mk1 (shut_bool Tryz.underlying4 _),(trodAll_cons_mk (Below.trod laidOut (by kernel_rfl) (of_decide_eq_true (by kernel_rfl)) k0 bel lt0) trodAll_mk0),rfl,bel.frame _,fun h=>by cases h⟩

theorem row_holds:Rows.RunPlaysSaid:=
  OpenClaim.holds_of_wide 7 Tryz.f7 rfl rfl rfl rfl rfl rfl rfl ⟨rfl,rfl,rfl,rfl,rfl⟩ rfl rfl rfl rfl rfl (by kernel_rfl) Tryz.func7 (by kernel_rfl)
    (of_decide_eq_true (by kernel_rfl)) (by unfold Func.isWrapper;first|(rw [if_pos (by decide +kernel)];kernel_rfl)|(rw [if_neg (by decide +kernel)];exact⟨rfl,rfl⟩))
    (fun os started H enc _=>lifted os started H enc)

theorem runPlays_holds:Rows.RunPlaysCardSaid:=
  Claim7.holds_tied_plain_at .later [] [.data] true (true, "1c4a19251602e91eec53c590b0225df4c292c023232cf489b0a47162c0d7aefe") true row_holds (fun _ h => by cases h) (by kernel_rfl) (fun _ h => by cases h) runPlays_row_tie rfl ⟨rfl, rfl⟩ (by kernel_rfl) rfl
    (fun f fn hf hfn=>by
      obtain rfl : f = 7 := Option.some.inj ((show Tryz.prog.funcNamed "scrim/scrimlaw17.RunPlays" = some 7 by kernel_rfl).symm.trans hf) |>.symm
      obtain rfl:fn=Tryz.f7:=(Option.some.inj (Tryz.func7.symm.trans hfn)).symm
      exact⟨by kernel_rfl,fun j t ht=>by
        rw[Tryz.params7]at ht
        have hm:t∈[73]:=by simpa using Array.mem_of_getElem? ht
        have hall:([73].all fun u=> !Tryz.prog.wantsStandIn u)=true:=by kernel_rfl
        exact(show Tryz.prog.wantsStandIn t=false by simpa using List.all_eq_true.1 hall t hm)⟩)
    (by kernel_rfl)
#print axioms runPlays_holds
end Go.Proofs.YthhlfpbfdkogfaaGreatDoor
