/-
  What the functions that this law alone reaches reckon, up to the law. It is no claim by itself; each contract bears its own conditions.
-/
import Derived.Test.YtgbbedfpdpnneaaGreatDoorY4
set_option linter.unusedVariables false
set_option linter.unusedSimpArgs false
set_option maxRecDepth 100000
namespace Go.Scr
open Go.Proofs
open List renaming nil_append → Za, length_drop → Zb, length_append → Zd, getElem?_eq_getElem → Ze
open Nat renaming zero_le → Zc
abbrev N.law17_RunKnown:=10
def rt.law17_RunKnown:Rt:=[(5,[i0 [],i1 [21,22,23,24,25,26,27,28,29,30,31,32,33,34,35,36,37,38,39,40,41,42,43,44,45,46,47,48,49,7] [0],i0 [0,1],i0 [],i0 [],i1 [19,20,21,22,23,25,26,27,28,29,30,31,32,33,34,35,36,37,38,39,40,41,42,43,44,45,46,47,48,49,7] [],i0 [],i0 [6],i0 [5,6,7],i1 [19,20,21,22,23,24,25,26,27,29,30,31,32,33,34,35,36,37,38,39,40,41,42,43,44,45,46,47,48,49,7] [],i0 [],i0 [9,10],i0 [],i1 [19,20,21,22,23,24,25,26,27,28,29,30,33,34,35,36,37,38,39,40,41,42,43,44,45,46,47,48,49,7] [12],i0 [12,13],i0 [],i1 [19,20,21,22,23,24,25,26,27,28,29,30,31,32,33,36,37,38,39,40,41,42,43,44,45,46,47,48,49,7] [15],i0 [15,16],i0 [],i0 [],i0 [],i0 [],i0 [],i1 [19,20,21,22,23,24,25,26,27,28,29,30,31,32,33,34,35,36,37,38,39,40,43,44,45,46,47,48,49,7] [22],i0 [22,23],i1 [19,20,21,22,23,24,25,26,27,28,29,30,31,32,33,34,35,36,37,38,39,40,41,42,43,45,46,47,48,49,7] [],i0 [],i0 [25,26],i0 [],i0 [0,1,2,3,4,5,6,7,8,9,10,11,12,13,14,15,16,17,18,19,20,21,22,23,24,25,26,27,28],i2 [7] [0,1,2,3,4,5,6,7,8,9,10,11,12,13,14,15,16,17,18,19,20,21,22,23,24,25,26,27,28,29],i0 [0,1,2,3,4,5,6,7,8,9,10,11,12,13,14,15,16,17,18,19,20,21,22,23,24,25,26,27,28,29,30]]),(12,[i0 [],i0 [],i0 [0,1],i0 [0,1,2],i1 [63,64,65,66,67,68,69,70,71,72,73,74,75,76,77,78,79,80,81,82,83,84,85,86,87,88,89,90,91,92,93,94,95,96,97,98,99,100,101,102,103,104,105,4] [0,1,2,3],i0 [],i0 [],i0 [5,6],i1 [58,59,60,61,62,67,68,69,70,71,72,73,74,75,76,77,78,79,80,81,82,83,84,85,86,87,88,89,90,91,92,93,94,95,96,97,98,99,100,101,102,103,104,105,4] [5,6,7],i0 [0,1,2,3,4,5,6,7,8],i0 [0,1,2,3,4,5,6,7,8,9],i0 [0,1,2,3,4,5,6,7,8,9,10],i0 [0,1,2,3,4,5,6,7,8,9,10],i0 [0,1,2,3,4,5,6,7,8,9,10,11,12],i0 [0,1,2,3,4,5,6,7,8,9,10,11,12,13],i1 [74,75,76,77,78,79,80,81,82,83,84,85,86,87,88,89,90,91,92,93,94,95,96,97,98,99,100,101,102,103,104,105,4] [0,1,2,3,4,5,6,7,8,9,10,11,12,13,14],i0 [0,1,2,3,4,5,6,7,8,9,10],i0 [0,1,2,3,4,5,6,7,8,9,10],i0 [0,1,2,3,4,5,6,7,8,9,10,16,17],i1 [69,70,71,72,73,78,79,80,81,82,83,84,85,86,87,88,89,90,91,92,93,94,95,96,97,98,99,100,101,102,103,104,105,4] [0,1,2,3,4,5,6,7,8,9,10,16,17,18],i0 [0,1,2,3,4,5,6,7,8,9,10,11,12,13,14,15,16,17,18,19],i0 [0,1,2,3,4,5,6,7,8,9,10,11,12,13,14,15,16,17,18,19,20],i0 [0,1,2,3,4,5,6,7,8,9,10,11,12,13,14,15,16,17,18,19,20,21],i0 [0,1,2,3,4,5,6,7,8,9,10,11,12,13,14,15,16,17,18,19,20,21,22],i0 [0,1,2,3,4,5,6,7,8,9,10,11,12,13,14,15,16,17,18,19,20,21,22],i0 [0,1,2,3,4,5,6,7,8,9,10,11,12,13,14,15,16,17,18,19,20,21,22,23,24],i0 [0,1,2,3,4,5,6,7,8,9,10,11,12,13,14,15,16,17,18,19,20,21,22,23,24,25],i1 [86,87,88,89,90,91,92,93,94,95,96,97,98,99,100,101,102,103,104,105,4] [0,1,2,3,4,5,6,7,8,9,10,11,12,13,14,15,16,17,18,19,20,21,22,23,24,25,26],i0 [0,1,2,3,4,5,6,7,8,9,10,11,12,13,14,15,16,17,18,19,20,21,22,23,24,25,26,27],i0 [0,1,2,3,4,5,6,7,8,9,10,11,12,13,14,15,16,17,18,19,20,21,22],i0 [0,1,2,3,4,5,6,7,8,9,10,11,12,13,14,15,16,17,18,19,20,21,22],i0 [0,1,2,3,4,5,6,7,8,9,10,11,12,13,14,15,16,17,18,19,20,21,22,29,30],i1 [81,82,83,84,85,86,91,92,93,94,95,96,97,98,99,100,101,102,103,104,105,4] [0,1,2,3,4,5,6,7,8,9,10,11,12,13,14,15,16,17,18,19,20,21,22,29,30,31],i0 [0,1,2,3,4,5,6,7,8,9,10,11,12,13,14,15,16,17,18,19,20,21,22,23,24,25,26,27,28,29,30,31,32],i0 [0,1,2,3,4,5,6,7,8,9,10,11,12,13,14,15,16,17,18,19,20,21,22,23,24,25,26,27,28,29,30,31,32,33],i0 [0,1,2,3,4,5,6,7,8,9,10,11,12,13,14,15,16,17,18,19,20,21,22,23,24,25,26,27,28,29,30,31,32,33,34],i0 [0,1,2,3,4,5,6,7,8,9,10,11,12,13,14,15,16,17,18,19,20,21,22,23,24,25,26,27,28,29,30,31,32,33,34,35],i0 [0,1,2,3,4,5,6,7,8,9,10,11,12,13,14,15,16,17,18,19,20,21,22,23,24,25,26,27,28,29,30,31,32,33,34,35,36],i0 [0,1,2,3,4,5,6,7,8,9,10,11,12,13,14,15,16,17,18,19,20,21,22,23,24,25,26,27,28,29,30,31,32,33,34,35,36,37],i1 [98,99,100,101,102,103,104,105,4] [0,1,2,3,4,5,6,7,8,9,10,11,12,13,14,15,16,17,18,19,20,21,22,23,24,25,26,27,28,29,30,31,32,33,34,35,36,37,38],i1 [99,100,101,102,103,104,105,4] [0,1,2,3,4,5,6,7,8,9,10,11,12,13,14,15,16,17,18,19,20,21,22,23,24,25,26,27,28,29,30,31,32,33,34,35,36,37,38,39],i0 [0,1,2,3,4,5,6,7,8,9,10,11,12,13,14,15,16,17,18,19,20,21,22,23,24,25,26,27,28,29,30,31,32,33,34,35],i0 [0,1,2,3,4,5,6,7,8,9,10,11,12,13,14,15,16,17,18,19,20,21,22,23,24,25,26,27,28,29,30,31,32,33,34,35,41],i0 [0,1,2,3,4,5,6,7,8,9,10,11,12,13,14,15,16,17,18,19,20,21,22,23,24,25,26,27,28,29,30,31,32,33,34,35,41,42],i1 [94,95,96,97,98,103,104,105,4] [0,1,2,3,4,5,6,7,8,9,10,11,12,13,14,15,16,17,18,19,20,21,22,23,24,25,26,27,28,29,30,31,32,33,34,35,41,42,43],i1 [94,95,96,97,98,104,105,4] [0,1,2,3,4,5,6,7,8,9,10,11,12,13,14,15,16,17,18,19,20,21,22,23,24,25,26,27,28,29,30,31,32,33,34,35,41,42,43,44],i0 [0,1,2,3,4,5,6,7,8,9,10,11,12,13,14,15,16,17,18,19,20,21,22,23,24,25,26,27,28,29,30,31,32,33,34,35,36,37,38,39,40,41,42,43,44,45],i0 [0,1,2,3,4,5,6,7,8,9,10,11,12,13,14,15,16,17,18,19,20,21,22,23,24,25,26,27,28,29,30,31,32,33,34,35,36,37,38,39,40,41,42,43,44,45,46],i0 [0,1,2,3,4,5,6,7,8,9,10,11,12,13,14,15,16,17,18,19,20,21,22,23,24,25,26,27,28,29,30,31,32,33,34,35,36,37,38,39,40,41,42,43,44,45,46,47]])]
theorem fd.law17_RunKnown:FnD C 10 rt.law17_RunKnown Tryz.f10 106:=fk Tryz.func10 (by kernel_rfl)
theorem shSt_front {E D:Bs→Bs} {n:Nat} {back:Bool} {iv m:Bs} (h:CI E D n) (hn:0<n) (hi:iv.length=n) (hm:n≤m.length):
  (moStep E D n 2 back ⟨iv,[],[]⟩ (m.take (frontN n m.length))).1.length=frontN n m.length:=by
 obtain⟨f1,f2,f3,f4,f5⟩:=frontN_ok hn hm
 have lt:(m.take (frontN n m.length)).length=frontN n m.length:=by rw[List.length_take];omega
 rw[moStep_len h (ms_ok (by decide) (by rw[if_neg (by decide),hi])) (by rw[lt,grain_2,f4]),lt]
theorem shLast_len {n:Nat} {back:Bool} {iv m o:Bs} (hn:0<n) (hi:iv.length=n) (hm:n≤m.length) (ho:o.length=frontN n m.length):(shLast n back iv m o).length=n:=by
 obtain⟨f1,f2,f3,f4,f5⟩:=frontN_ok hn hm
 unfold shLast
 split
 ·exact hi
 ·split
  ·rw[sub_length];omega
  ·rw[Zb];omega
theorem shSt_len {E D:Bs→Bs} {n:Nat} {mode:Int} {back:Bool} {iv m:Bs} (h:CI E D n) (hn:0<n) (hi:iv.length=n) (hm:n≤m.length):(shSt E D n mode back iv m).1.length=m.length:=by
 obtain⟨f1,f2,f3,f4,f5⟩:=frontN_ok hn hm
 have lo:=shSt_front (back:=back) h hn hi hm
 unfold shSt
 rw[if_neg (by omega)]
 simp only
 rw[Zd,stT_len h (shLast_len hn hi hm lo) (by rw[Zb];omega) (by rw[Zb];omega),lo,Zb]
 omega
def shFine (n:Nat) (mode pad:Int) (m:Bs):Prop:=¬(pad=4∧mode≤2∧m.length%n≠0∨7≤mode∧m.length<n)
theorem padUp_len {pad:Int} {n:Nat} {m:Bs} (hn:0<n):(padUp pad n m).length=m.length/n*n+n:=by
 have hd:=Nat.div_add_mod m.length n
 have hm:=Nat.mod_lt m.length hn
 have hc:m.length/n*n=n*(m.length/n):=Nat.mul_comm _ _
 unfold padUp
 rw[Zd,pdAdd_len (by rw[Zb];omega),List.length_take]
 omega
theorem grain_mod {n:Nat} {mode:Int} {l:Nat} (h:mode≤2→l%n=0):l%moGrain n mode=0:=by
 unfold moGrain
 split
 ·exact h (by omega)
 ·exact Nat.mod_one _
theorem shP_len {E D:Bs→Bs} {n:Nat} {mode pad:Int} {iv m:Bs} (h:CI E D n) (hn:0<n) (ok:shOk n mode pad iv) (hf:shFine n mode pad m):
  (shP E D n mode pad false iv m).2=0∧(shP E D n mode pad false iv m).1.length=if pad=4 then m.length else m.length/n*n+n:=by
 obtain⟨o1,o2,o3,o4⟩:=ok
 unfold shFine at hf
 unfold shP
 by_cases h7:7≤mode
 ·rw[if_pos h7,if_pos (by omega)]
  have hi:iv.length=n:=by rw[o4,if_neg (by omega)]
  refine⟨?_,shSt_len h hn hi (by omega)⟩
  unfold shSt;rw[if_neg (by omega)]
 ·rw[if_neg h7]
  by_cases h4:pad=4
  ·rw[if_pos h4,if_pos h4]
   have hg:m.length%moGrain n mode=0:=grain_mod fun hm=>by omega
   rw[if_pos hg]
   exact⟨rfl,moStep_len h (ms_ok (by omega) o4) hg⟩
  ·rw[if_neg h4,if_neg h4,if_pos rfl]
   refine⟨rfl,?_⟩
   have hl:=padUp_len (pad:=pad) (m:=m) hn
   have hg:(padUp pad n m).length%moGrain n mode=0:=grain_mod fun hm=>by rw[hl,Nat.add_mod_right,Nat.mul_mod_left]
   rw[moStep_len h (ms_ok (by omega) o4) hg,hl]
theorem rn_one {x:Cl} (σ:CX) (h:x.kind=1) (he:x.c.err=0):rnOut σ x=([],0)∧rnNext σ x= .op x.c none:=by
 unfold rnOut rnNext
 rw[if_pos h,if_pos h,if_pos he,he]
 exact⟨rfl,rfl⟩
theorem rn_four {c:Cf} {σ:CX} {x:Cl} (h:x.kind=4) (hσ:(∃m,σ= .op c m)∨σ= .cl c):rnOut σ x=([],0)∧rnNext σ x= .op c none:=by
 unfold rnOut rnNext
 rw[if_neg (by omega),if_neg (by omega),if_neg (by omega),if_pos h,if_neg (by omega),if_neg (by omega),if_neg (by omega),if_pos h]
 rcases hσ with ⟨m,rfl⟩|rfl<;>exact⟨rfl,rfl⟩
abbrev clI (c:Cf):Cl:=⟨1,c,[]⟩
abbrev clU (b:Bs):Cl:=⟨2,⟨0,0,0,false,[],[]⟩,b⟩
theorem rn_u {c:Cf} {m:Option (Bs)} {b:Bs}:rnOut (.op c m) (clU b)=((c.T (m.getD []++b)).drop (c.T (m.getD [])).length,0)∧rnNext (.op c m) (clU b)= .op c (some (m.getD []++b)):=by
 unfold rnOut rnNext
 rw[if_neg (show ¬((2:Int)=1) by decide),if_pos (show (2:Int)=2 from rfl),if_neg (show ¬((2:Int)=1) by decide),if_pos (show (2:Int)=2 from rfl)]
 exact⟨rfl,rfl⟩
theorem rn_un {b:Bs}:rnOut .nw (clU b)=([],6)∧rnNext .nw (clU b)= .nw:=by
 unfold rnOut rnNext
 rw[if_neg (show ¬((2:Int)=1) by decide),if_pos (show (2:Int)=2 from rfl),if_neg (show ¬((2:Int)=1) by decide),if_pos (show (2:Int)=2 from rfl)]
 exact⟨rfl,rfl⟩
theorem rn_r {x:Cl} (h:x.kind=4):rnOut .nw x=([],6)∧rnNext .nw x= .nw:=by
 unfold rnOut rnNext
 rw[if_neg (by omega),if_neg (by omega),if_neg (by omega),if_pos h,if_neg (by omega),if_neg (by omega),if_neg (by omega),if_pos h]
 exact⟨rfl,rfl⟩
theorem rn_f {c:Cf} {m:Option (Bs)} {x:Cl} (h:x.kind=3):rnOut (.op c m) x=c.fin (m.getD [])∧rnNext (.op c m) x= .cl c:=by
 unfold rnOut rnNext
 rw[if_neg (by omega),if_neg (by omega),if_pos h,if_neg (by omega),if_neg (by omega),if_pos h]
 exact⟨rfl,rfl⟩
theorem rn_fc {c:Cf} {x:Cl} (h:x.kind=3):rnOut (.cl c) x=([],6)∧rnNext (.cl c) x= .cl c:=by
 unfold rnOut rnNext
 rw[if_neg (by omega),if_neg (by omega),if_pos h,if_neg (by omega),if_neg (by omega),if_pos h]
 exact⟨rfl,rfl⟩
theorem rn_bad {c:Cf} (σ:CX) (h:c.err=4):rnOut σ (clI c)=([],4)∧rnNext σ (clI c)=σ:=by
 unfold rnOut rnNext
 rw[if_pos (show (1:Int)=1 from rfl),if_pos (show (1:Int)=1 from rfl),if_neg (by rw[h];decide),h]
 exact⟨rfl,rfl⟩
theorem rn_cons {σ:CX} {x:Cl} {l:List Cl} {o:Bs×Int} {σ':CX} (h:rnOut σ x=o∧rnNext σ x=σ'):rnAll σ (x::l)=⟨o.1,o.2,rnHeld σ'⟩::rnAll σ' l:=by
 obtain⟨h1,h2⟩:=h
 show rnTold σ x::rnAll (rnNext σ x) l=_
 unfold rnTold
 rw[h1,h2]
theorem kn_fr (p:Int) (hp:1≤p∧p≤3) (L:Nat):cxFr 8 1 p false L=8*((L-7+7)/8):=by
 unfold cxFr cxN cxMost
 rw[if_neg (show ¬3≤cxMd 1 by decide),if_neg (show ¬(7:Int)≤1 by decide),if_neg (show ¬(p≠4∧false=true) by simp)]
 rfl
theorem tab14 {l:List Int} {j:Nat} (h:j<l.length):(l.map (Value.int .i64))[0+((j:Nat):Int).toNat*1]? =some (.int .i64 (l.getD j 0)):=by
 rw[Nat.zero_add,Nat.mul_one,Int.toNat_natCast,List.getElem?_map,Ze h,List.getD_eq_getElem?_getD,Ze h];rfl
set_option maxHeartbeats 4000000 in
theorem c_law_known {which pad:Int} (h0:In64 which) (h1:In64 pad):Con C N.law17_RunKnown [i64 which,i64 pad] [] (.ret (bool true)) []:=by
 obtain⟨z,hz⟩:∃z:Bs,z=List.replicate 16 0:=⟨_,rfl⟩
 have lz:z.length=16:=by rw[hz];rfl
 obtain⟨z9,hz9⟩:∃z9:Bs,z9=List.replicate 9 0:=⟨_,rfl⟩
 have lz9:z9.length=9:=by rw[hz9];rfl
 obtain⟨k,xs,rs,h⟩:=ciph_xtea lz
 obtain⟨p,hp⟩:∃p,p=1+pad%3:=⟨_,rfl⟩
 have hp3:1≤p∧p≤3:=by omega
 have ok:shOk 8 1 p []:=⟨by decide,by omega,.inr (by decide),rfl⟩
 have wp:IntKind.i64.wrap (1+pad%3)=p:=by rw[hp,IntWalk.i64_in _ (by omega)]
 obtain⟨c,hc⟩:∃c,c=Cf.mk 4 1 p false z []:=⟨_,rfl⟩
 obtain⟨c9,hc9⟩:∃c,c=Cf.mk 4 1 p false z9 []:=⟨_,rfl⟩
 have he:c.err=0:=by rw[hc];unfold Cf.err Cf.s;exact shErr_ok h rfl rfl ok
 have he9:c9.err=4:=by
  rw[hc9]
  unfold Cf.err shErr
  rw[if_neg (show ¬¬okTag (4:Int) by unfold okTag;omega),if_pos (by show ¬((z9.length:Int)∈cLens 4);rw[lz9];decide)]
 obtain⟨b1,hb1⟩:∃b:Bs,b=[97]:=⟨_,rfl⟩
 obtain⟨b5,hb5⟩:∃b:Bs,b=[97,98,99,100,101]:=⟨_,rfl⟩
 obtain⟨b6,hb6⟩:∃b:Bs,b=[102,103,104,105,106]:=⟨_,rfl⟩
 obtain⟨b8,hb8⟩:∃b:Bs,b=[97,98,99,100,101,102,103,104]:=⟨_,rfl⟩
 have l5:b5.length=5:=by rw[hb5];rfl
 have l6:b6.length=5:=by rw[hb6];rfl
 have l8:b8.length=8:=by rw[hb8];rfl
 have l56:(b5++b6).length=10:=by rw[Zd,l5,l6]
 have hs:c.s=8:=by rw[hc];rfl
 have cc:c.t=4∧c.mode=1∧c.pad=p∧c.back=false∧c.key=z∧c.iv=[]:=by rw[hc];exact⟨rfl,rfl,rfl,rfl,rfl,rfl⟩
 have cTe:∀M,c.T M=(cxSt (cF 4 z false) (cF 4 z true) 8 1 p false [] M).1:=fun M=>by rw[hc];rfl
 have cHe:∀M,(c.H M).length=M.length-8*((M.length-7+7)/8):=fun M=>by
  show(cxH c.s c.mode c.pad c.back M).length=_
  rw[hs,cc.2.1,cc.2.2.1,cc.2.2.2.1,cxH_len,kn_fr p hp3]
 have cTl:∀M,(c.T M).length=8*((M.length-7+7)/8):=fun M=>by rw[cTe,cx_told h.ci (by omega) ok,kn_fr p hp3]
 have fin:∀M:Bs,(c.fin M).2=0∧(c.fin M).1.length+(c.T M).length=M.length/8*8+8:=fun M=>by
  have e:c.fin M=cxEnd (cF 4 z false) (cF 4 z true) 8 1 p false (cS 4 z 8 1 p false [] M) (cL 4 z 8 1 p false [] M) (cxH 8 1 p false M):=by rw[hc];rfl
  obtain⟨e1,e2⟩:=cx_end (M:=M) h.ci (by omega) ok e
  obtain⟨p1,p2⟩:=shP_len (m:=M) h.ci (by omega) ok (by unfold shFine;omega)
  rw[e1]at p1 p2
  have r2:(c.fin M).2=0:=p1
  refine⟨r2,?_⟩
  have p2:=p2
  rw[if_pos r2,Zd,if_neg (by omega)]at p2
  rw[cTe]
  omega
 have o5:(c.T ([]++b5)).drop (c.T []).length=[]:=List.eq_nil_of_length_eq_zero (by rw[Zb,cTl,cTl,Za,l5];rfl)
 obtain⟨o6,ho6⟩:∃o,(c.T ([]++b5++b6)).drop (c.T ([]++b5)).length=o:=⟨_,rfl⟩
 have lo6:o6.length=8:=by rw[←ho6,Zb,cTl,cTl,Za,l56,l5]
 have o11:(c.T ([]++b8)).drop (c.T []).length=o6:=by
  rw[←ho6]
  have t0:(c.T []).length=0:=by rw[cTl];rfl
  have t5:(c.T ([]++b5)).length=0:=by rw[cTl,Za,l5]
  rw[t0,t5,List.drop_zero,List.drop_zero,cTe,cTe]
  unfold cxSt
  rw[kn_fr p hp3,kn_fr p hp3,Za,Za,l56,l8,hb8,hb5,hb6]
  rfl
 obtain⟨f8,hf8⟩:∃f,c.fin ([]++b5++b6)=f:=⟨_,rfl⟩
 obtain⟨f13,hf13⟩:∃f,c.fin []=f:=⟨_,rfl⟩
 have g8:=fin ([]++b5++b6)
 have g13:=fin []
 rw[hf8,cTl,Za,l56]at g8
 rw[hf13,cTl]at g13
 have lf8:f8.1.length=8:=by omega
 have lf13:f13.1.length=8:=by have:=g13.2;simp at this;exact this
 have E:rnAll .nw [clU b1,cl0 3,cl0 4,clI c9,clI c,clU b5,clU b6,cl0 0,cl0 3,cl0 3,cl0 4,clU b8,clI c,cl0 3]=[⟨[],6,0⟩,⟨[],6,0⟩,⟨[],6,0⟩,⟨[],4,0⟩,⟨[],0,0⟩,⟨[],0,5⟩,⟨o6,0,2⟩,⟨[],1,2⟩,⟨f8.1,0,0⟩,⟨[],6,0⟩,⟨[],0,0⟩,⟨o6,0,0⟩,⟨[],0,0⟩,⟨f13.1,0,0⟩]:=by
  rw[rn_cons rn_un,rn_cons (rn3 (x:=cl0 3) rfl),rn_cons (rn_r (x:=cl0 4) rfl),rn_cons (rn_bad _ he9),rn_cons (rn_one (x:=clI c) _ rfl he),rn_cons rn_u,rn_cons rn_u,rn_cons (rn0 (x:=cl0 0) _ (show (0:Int)≠1 by decide) (show (0:Int)≠2 by decide) (show (0:Int)≠3 by decide) (show (0:Int)≠4 by decide)),rn_cons (rn_f (x:=cl0 3) rfl),rn_cons (rn_fc (x:=cl0 3) rfl),rn_cons (rn_four (c:=c) (x:=cl0 4) rfl (.inr rfl)),rn_cons rn_u,rn_cons (rn_one (x:=clI c) _ rfl he),rn_cons (rn_f (x:=cl0 3) rfl)]
  have hh5:rnHeld (.op c (some ([]++b5)))=5:=by show(c.H ([]++b5)).length=5;rw[cHe,Za,l5]
  have hh6:rnHeld (.op c (some ([]++b5++b6)))=2:=by show(c.H ([]++b5++b6)).length=2;rw[cHe,Za,l56]
  have hh8:rnHeld (.op c (some ([]++b8)))=0:=by show(c.H ([]++b8)).length=0;rw[cHe,Za,l8]
  show[_,_,_,_,_,(⟨(c.T ([]++b5)).drop (c.T []).length,0,rnHeld (.op c (some ([]++b5)))⟩:To),⟨(c.T ([]++b5++b6)).drop (c.T ([]++b5)).length,0,rnHeld (.op c (some ([]++b5++b6)))⟩,⟨[],1,rnHeld (.op c (some ([]++b5++b6)))⟩,⟨(c.fin ([]++b5++b6)).1,(c.fin ([]++b5++b6)).2,0⟩,_,_,⟨(c.T ([]++b8)).drop (c.T []).length,0,rnHeld (.op c (some ([]++b8)))⟩,_,⟨(c.fin []).1,(c.fin []).2,0⟩]=_
  rw[o5,ho6,o11,hh5,hh6,hh8,hf8,hf13,g8.1,g13.1]
  rfl
 have ok0:∀k:Int,(-9223372036854775808≤k∧k≤9223372036854775807)→ClOk (cl0 k):=fun k hk=>⟨hk,Zc _,Zc _,Zc _⟩
 have okU:∀b:Bs,b.length≤1000→ClOk (clU b):=fun b hb=>⟨⟨show (-9223372036854775808:Int)≤2 by decide,show(2:Int)≤9223372036854775807 by decide⟩,Zc _,Zc _,hb⟩
 have okI:∀d:Cf,d.key.length≤1000→d.iv.length≤1000→ClOk (clI d):=fun d h1 h2=>⟨⟨show (-9223372036854775808:Int)≤1 by decide,show(1:Int)≤9223372036854775807 by decide⟩,h1,h2,Zc _⟩
 have ic:ClOk (clI c):=okI c (by rw[cc.2.2.2.2.1,lz];decide) (by rw[cc.2.2.2.2.2];exact Zc _)
 have ic9:ClOk (clI c9):=okI c9 (by rw[hc9];show z9.length≤_;rw[lz9];decide) (by rw[hc9];exact Zc _)
 have R:=c_run (l:=[clU b1,cl0 3,cl0 4,clI c9,clI c,clU b5,clU b6,cl0 0,cl0 3,cl0 3,cl0 4,clU b8,clI c,cl0 3]) (n:=14) rfl (by
  intro x hx
  simp only[List.mem_cons,List.not_mem_nil,or_false]at hx
  rcases hx with rfl|rfl|rfl|rfl|rfl|rfl|rfl|rfl|rfl|rfl|rfl|rfl|rfl|rfl
  ·exact okU _ (by rw[hb1];decide)
  ·exact ok0 3 (by omega)
  ·exact ok0 4 (by omega)
  ·exact ic9
  ·exact ic
  ·exact okU _ (by omega)
  ·exact okU _ (by omega)
  ·exact ok0 0 (by omega)
  ·exact ok0 3 (by omega)
  ·exact ok0 3 (by omega)
  ·exact ok0 4 (by omega)
  ·exact okU _ (by omega)
  ·exact ic
  ·exact ok0 3 (by omega)) (by omega)
 rw[E]at R
 have R:=R.argz (xs:=[i64 2,i64 0,i64 0,i64 0,bool false,nilv,nilv,.z b1.length (bv b1),i64 3,i64 0,i64 0,i64 0,bool false,nilv,nilv,nilv,i64 4,i64 0,i64 0,i64 0,bool false,nilv,nilv,nilv,i64 1,i64 4,i64 1,i64 p,bool false,.z z9.length (bv z9),nilv,nilv,i64 1,i64 4,i64 1,i64 p,bool false,.z z.length (bv z),nilv,nilv,i64 2,i64 0,i64 0,i64 0,bool false,nilv,nilv,.z b5.length (bv b5),i64 2,i64 0,i64 0,i64 0,bool false,nilv,nilv,.z b6.length (bv b6),i64 0,i64 0,i64 0,i64 0,bool false,nilv,nilv,nilv,i64 3,i64 0,i64 0,i64 0,bool false,nilv,nilv,nilv,i64 3,i64 0,i64 0,i64 0,bool false,nilv,nilv,nilv,i64 4,i64 0,i64 0,i64 0,bool false,nilv,nilv,nilv,i64 2,i64 0,i64 0,i64 0,bool false,nilv,nilv,.z b8.length (bv b8),i64 1,i64 4,i64 1,i64 p,bool false,.z z.length (bv z),nilv,nilv,i64 3,i64 0,i64 0,i64 0,bool false,nilv,nilv,nilv]) (by
  rw[hc,hc9]
  repeat (first|exact .nil|refine .cons (.refl _) ?_|refine .cons .nl ?_))
 obtain⟨ts,hts⟩:∃ts:List To,ts=[⟨[],6,0⟩,⟨[],6,0⟩,⟨[],6,0⟩,⟨[],4,0⟩,⟨[],0,0⟩,⟨[],0,5⟩,⟨o6,0,2⟩,⟨[],1,2⟩,⟨f8.1,0,0⟩,⟨[],6,0⟩,⟨[],0,0⟩,⟨o6,0,0⟩,⟨[],0,0⟩,⟨f13.1,0,0⟩]:=⟨_,rfl⟩
 rw[←hts]at R
 have tl:ts.length=14:=by rw[hts];rfl
 have t6:(ts[6]'(by omega)).out=o6:=by simp only[hts];rfl
 have t11:(ts[11]'(by omega)).out=o6:=by simp only[hts];rfl
 have tj:∀j (h:j<14),(ts[j]'(by omega)).e=[6,6,6,4,0,0,0,1,0,6,0,0,0,0].getD j 0∧(((ts[j]'(by omega)).held:Nat):Int)=[0,0,0,0,0,5,2,2,0,0,0,0,0,0].getD j 0∧(((ts[j]'(by omega)).out.length:Nat):Int)=[0,0,0,0,0,0,8,0,8,0,0,8,0,8].getD j 0:=by
  intro j h
  simp only[hts]
  rcases j with _|_|_|_|_|_|_|_|_|_|_|_|_|_|j
  all_goals first|exact⟨rfl,rfl,rfl⟩|exact⟨rfl,rfl,congrArg Nat.cast lo6⟩|exact⟨rfl,rfl,congrArg Nat.cast lf8⟩|exact⟨rfl,rfl,congrArg Nat.cast lf13⟩|omega
 obtain⟨j,hj,hj14⟩:∃j:Nat,which%14=(j:Int)∧j<14:=⟨(which%14).toNat,by omega,by omega⟩
 have W:=c_w17 (a:=which) (n:=14) (by omega) (by omega) h0
 rw[hj]at W
 refine fd.law17_RunKnown.c ?_
 refine⟨[],_,_,_,_,c_known17,rfl,rfl,?_⟩
 refine⟨[],_,_,_,_,c_w17 (a:=pad) (n:=3) (by omega) (by omega) h1,rfl,rfl,?_⟩
 refine⟨Nat.le_of_ble_eq_true rfl,?_⟩
 refine⟨by decide,by decide,by decide,?_⟩
 refine⟨_,rfl,rfl,?_⟩
 refine⟨by decide,by decide,by decide,by decide,?_⟩
 refine⟨_,rfl,rfl,?_⟩
 refine⟨_,rfl,rfl,?_⟩
 refine⟨[],_,_,_,_,R,?_,rfl,?_⟩
 ·rw[wp,hz,hz9,hb1,hb5,hb6,hb8];rfl
 refine⟨[],_,_,_,_,W,rfl,rfl,?_⟩
 clear R W E ok0 okU okI ic ic9 hts
 obtain⟨q1,q2,q3⟩:=tj j hj14
 have c0:(0:Int)≤(j:Int):=Int.natCast_nonneg j
 have c1:(j:Int)<((14:Nat):Int):=by omega
 have gx:=fun k hk=>to_get (ts:=ts) (i:=j) (by omega) k hk (j:=((j:Nat):Int).toNat*3+k) (by rw[Int.toNat_natCast])
 have g6:=to_get (ts:=ts) (i:=6) (by omega) 0 (by decide) (j:=(6:Int).toNat*3+0) rfl
 have g11:=to_get (ts:=ts) (i:=11) (by omega) 0 (by decide) (j:=(11:Int).toNat*3+0) rfl
 have v6:(toV ts[6])[0]? =some (.z 8 (bv o6)):=by show some (V.z _ _)=_;rw[t6,lo6]
 have v11:(toV ts[11])[0]? =some (.z 8 (bv o6)):=by show some (V.z _ _)=_;rw[t11,lo6]
 rw[v6]at g6
 rw[v11]at g11
 refine⟨c0,c1,?_⟩
 refine⟨_,gx 1 (by decide),?_⟩
 refine⟨c0,c1,?_⟩
 refine⟨_,tab14 (l:=[6,6,6,4,0,0,0,1,0,6,0,0,0,0]) hj14,?_⟩
 refine spl_eq (fun _=> ?_) (fun hh=>absurd q1 hh)
 refine⟨c0,c1,?_⟩
 refine⟨_,gx 2 (by decide),?_⟩
 refine⟨c0,c1,?_⟩
 refine⟨_,tab14 (l:=[0,0,0,0,0,5,2,2,0,0,0,0,0,0]) hj14,?_⟩
 refine spl_eq (fun _=> ?_) (fun hh=>absurd q2 hh)
 refine⟨c0,c1,?_⟩
 refine⟨_,gx 0 (by decide),?_⟩
 refine⟨c0,c1,?_⟩
 refine⟨_,tab14 (l:=[0,0,0,0,0,0,8,0,8,0,0,8,0,8]) hj14,?_⟩
 refine spl_eq (fun _=> ?_) (fun hh=>absurd q3 hh)
 refine⟨by decide,by decide,?_⟩
 refine⟨_,g6,?_⟩
 refine⟨by rw[bv_len,lo6],_,rfl,?_⟩
 refine⟨by decide,by decide,?_⟩
 refine⟨_,g11,?_⟩
 refine⟨by rw[bv_len,lo6],_,rfl,?_⟩
 exact⟨_,rfl,[],congrArg bool (beq_self_eq_true _),trivial⟩
end Go.Scr
