/-
  Part 6 of what the statement rests on: LpRd, LpMA1, LpTie, LpRdA, LpRdY, LpC11, LpC12, LpC13, LpH22, LpTG0, LpX2, LpD13, LpMf, LpX3, LpTG1, LpTG2, LpTG3, LpTG4, LpTG5, LpQA0, LpQB1, LpIns0, LpInsT, LpTF1, LpQB2, LpQB3, LpQB4, LpS0, LpQB5, LpQB6, LpQB7, LpQB8, LpQB9, LpRdR, LpC14, LpQC1, LpMapR, LpQC2, LpQS1, LpQC3, LpQC4, LpQC5, LpQC6, LpQS2, LpTG6, LpQC8, LpRdX, LpJn. No condition.
-/
import Derived.Test.YtgfdogdnlgfcpaaGreatDoorLp5
import Derived.Lib.LaidIn
import Derived.Lib.LaidU8T
import Derived.Deep.DeepHandedRow
import Derived.Deep.DeepWitnessRowRef
import Derived.ProofKit
import Derived.SizedLaws
import Derived.JoinedCond
import Derived.OpenShut
import Derived.Laws.CopyRow
import Derived.Shelf.Spec.SlicesInsertGrow
import Derived.Lib.Overlaps
import Derived.Lib.JoinLaws
import Derived.Lib.AppendZeros
import Derived.Laws.LoneSync
import Derived.ChangeKeysEq
import Derived.JoinedOf

set_option linter.all false
set_option maxHeartbeats 8000000
set_option maxRecDepth 100000
namespace Lp
open Go Go.Proofs
instance :Inhabited Nd:=⟨⟨0,0,[],[],false,0⟩⟩
structure Z6 (n:Nd):Prop where
 kind:KM .i64 n.kind
 many:KM .i64 n.many
 name:n.name.length≤reachBytes
 s:n.s.length≤reachBytes
 e:KM .i64 n.e
theorem one_cell{t:TypeId}(hc:Tryz.prog.cellsOf t=1){cs:List Value}{off:Nat}{v:Value}(h:cs[off]?=some v):(cs.drop off).take (Tryz.prog.cellsOf t)=[v]:=by
 rw[hc]
 have hl:=(List.getElem?_eq_some_iff.1 h).1
 rw[show (cs.drop off)=cs[off]::cs.drop (off+1) from List.drop_eq_getElem_cons hl]
 rw[List.getElem?_eq_getElem hl]at h
 cases h
 rw[List.take_succ_cons,List.take_zero]
theorem GH:Tryz.prog.underlying 3=some (.int .i64):=by kernel_rfl
theorem yS:Tryz.prog.underlying 9=some .string:=by kernel_rfl
theorem acs:Tryz.prog.underlying 4=some .bool:=by kernel_rfl
theorem ahf:Tryz.prog.underlying 41=some (.slice 27):=by kernel_rfl
theorem GI:Tryz.prog.cellsOf 3=1:=by kernel_rfl
theorem yT:Tryz.prog.cellsOf 9=1:=by kernel_rfl
theorem acu:Tryz.prog.cellsOf 4=1:=by kernel_rfl
theorem afM:∃fs:Array Field,Tryz.prog.underlying 27=some (.struct fs)∧fs.toList.map (λf=>(f.offset,f.type))=[(0,3),(1,3),(2,9),(3,9),(4,4),(5,3)]:=
 ⟨Tryz.prog.fieldsOf 27,by kernel_rfl,by kernel_rfl⟩
theorem PZ:Rd Tryz.prog 27 aB Z6:=by
 intro H eh w fuel cs x h hw
 obtain⟨fs,ht,hfs⟩:=afM
 obtain⟨hl,hp⟩:=nO ht h hw
 rw[hfs]at hp
 have hc:Tryz.prog.cellsOf 27=6:=by kernel_rfl
 rw[hc]at hl
 match cs,hl with
 | [v0,v1,v2,v3,v4,v5],_=>
  obtain⟨n0,y0,a0,b0⟩:=hp 0 0 3 rfl
  obtain⟨n1,y1,a1,b1⟩:=hp 1 1 3 rfl
  obtain⟨n2,y2,a2,b2⟩:=hp 2 2 9 rfl
  obtain⟨n3,y3,a3,b3⟩:=hp 3 3 9 rfl
  obtain⟨n4,y4,a4,b4⟩:=hp 4 4 4 rfl
  obtain⟨n5,y5,a5,b5⟩:=hp 5 5 3 rfl
  rw[one_cell GI (v:=v0) rfl]at a0
  rw[one_cell GI (v:=v1) rfl]at a1
  rw[one_cell yT (v:=v2) rfl]at a2
  rw[one_cell yT (v:=v3) rfl]at a3
  rw[one_cell acu (v:=v4) rfl]at a4
  rw[one_cell GI (v:=v5) rfl]at a5
  obtain⟨k,g0,r0⟩:=Rd.int GH eh w n0 _ _ a0 b0
  obtain⟨m,g1,r1⟩:=Rd.int GH eh w n1 _ _ a1 b1
  obtain⟨nm,g2,r2⟩:=Rd.str yS eh w n2 _ _ a2 b2
  obtain⟨s,g3,r3⟩:=Rd.str yS eh w n3 _ _ a3 b3
  obtain⟨g,_,r4⟩:=Rd.bool acs eh w n4 _ _ a4 b4
  obtain⟨e,g5,r5⟩:=Rd.int GH eh w n5 _ _ a5 b5
  refine⟨⟨k,m,nm,s,g,e⟩,⟨g0,g1,g2,g3,g5⟩,rfl,λi p v h1 h2=>?_⟩
  match i with
  | 0=>simp[aB,PV.cells]at h1 h2;subst h1;subst h2;exact r0.2 0 _ _ rfl rfl
  | 1=>simp[aB,PV.cells]at h1 h2;subst h1;subst h2;exact r1.2 0 _ _ rfl rfl
  | 2=>simp[aB,PV.cells]at h1 h2;subst h1;subst h2;exact r2.2 0 _ _ rfl rfl
  | 3=>simp[aB,PV.cells]at h1 h2;subst h1;subst h2;exact r3.2 0 _ _ rfl rfl
  | 4=>simp[aB,PV.cells]at h1 h2;subst h1;subst h2;exact r4.2 0 _ _ rfl rfl
  | 5=>simp[aB,PV.cells]at h1 h2;subst h1;subst h2;exact r5.2 0 _ _ rfl rfl
  | i+6=>simp[aB,PV.cells]at h1
structure Big (v:Vl):Prop where
 len:v.length≤1152921504606846976
 txt:∀n∈v,n.s.length≤4611686018427387904∧n.name.length≤4611686018427387904
 nd:∀n∈v,Z6 n
theorem rd_val:Rd Tryz.prog 41 aJ Big:=by
 intro H eh w fuel cs x h hw
 obtain⟨v,⟨h1,h2⟩,h3⟩:=Rd.slice (sz:=6) ahf PZ (by kernel_rfl) (by decide) (λ_=>rfl) eh w fuel cs x h hw
 have hb:Tryz.prog.bytesOf 27=64:=by kernel_rfl
 rw[hb,reachBytes]at h1
 refine⟨v,⟨by omega,λn hn=>?_,h2⟩,h3⟩
 have g:=h2 n hn
 have g1:=g.name
 have g2:=g.s
 rw[reachBytes]at g1 g2
 exact⟨by omega,by omega⟩
structure ahg (l:List Vl):Prop where
 len:l.length≤1152921504606846976
 all:∀v∈l,Big v
theorem bH{R:PV→Value→Prop}{p:PV}{ps:List PV}{v:Value}{vs:List Value}(h:R p v)(hs:dB R ps vs):dB R (p::ps) (v::vs):=
 ⟨by simp[hs.1],λi q u h1 h2=>by
  cases i with
  | zero=>simp at h1 h2;subst h1;subst h2;exact h
  | succ i=>exact hs.2 i q u (by simpa using h1) (by simpa using h2)⟩
theorem En{R:PV→Value→Prop}:dB R [] []:=⟨rfl,λi q u h1=>by simp at h1⟩
end Lp
namespace Lp
open Go Go.Proofs Go.RowKit
structure aii (l:List gG):Prop where
 len:l.length≤1152921504606846976
 all:∀a∈l,qE a.c
end Lp
namespace Lp
open Go Go.Proofs Go.Shelf Go.RowKit Go.Lib Go.ChangeAt
def acv:List (String×DataW Unit):=[("unicode/utf8.acceptRanges",Lib.acceptData),("unicode/utf8.first",Lib.firstData)]
noncomputable def Z7 (os:Os):World:=
 let w0:=World.holding Tryz.prog os ⟨#[],#[],[]⟩
 let put (h:Array Go.Obj) (g:Nat) (cs:Array Value):Array Go.Obj:=h.modify g λ
  | .cells _ t frozen=>.cells cs t frozen
  | o=>o
 let h1:=put w0.heap 0 (Lib.firstTab.map λz=>Value.int .u8 z).toArray
 let h2:=put h1 1 ((List.range 16).flatMap λi=>[Value.int .u8 (Lib.accLo i),Value.int .u8 (Lib.accHi i)]).toArray
 { w0 with heap:=h2 }
theorem ahh(os:Os)(args:Array Value):laidMet Tryz.prog acv ((Z7 os).forCall (λ_ _=>0) ⟨#[],args,[]⟩).memory:=
 (LaidIn.of_run (l:=acv) [1,0] 8 (by kernel_rfl) (by kernel_rfl) (by kernel_rfl) (by kernel_rfl)).met
theorem Z8{w W:World}(h:w.heap=W.heap)(hT:Lib.Utf8Tabs 0 1 W):Lib.Utf8Tabs 0 1 w:=by
 have e:∀b:Nat,w.heap[b]?=W.heap[b]?:=λb=>by rw[h]
 refine⟨λc hc=>?_,λi hi=>⟨?_,?_⟩⟩
 ·rw[qK (e 0)];exact hT.1 c hc
 ·rw[qK (e 1)];exact (hT.2 i hi).1
 ·rw[qK (e 1)];exact (hT.2 i hi).2
theorem agf{W:World}(h:laidMetH Tryz.prog acv W):tO.holds W.heap:=by
 have hT:Lib.Utf8Tabs 0 1 W:=
  utf8Tabs_of_readsT (U8Types.of196 Tryz.OA) ⟨by kernel_rfl,by kernel_rfl,by kernel_rfl,by kernel_rfl,by kernel_rfl,by kernel_rfl,by kernel_rfl⟩ (Lib.laidMet.reads h (.tail _ (.head _))) (Lib.laidMet.reads h (.head _))
 intro w hw
 exact Z8 hw hT
structure aip (l:List (List UInt8)):Prop where
 len:l.length≤1152921504606846976
 all:∀s∈l,s.length≤4611686018427387904
end Lp
namespace Lp
open Go Go.Proofs
theorem afN:∃fs:Array Field,Tryz.prog.underlying 29=some (.struct fs)∧fs.toList.map (λf=>(f.offset,f.type))=[(0,3),(1,27)]:=
 ⟨Tryz.prog.fieldsOf 29,by kernel_rfl,by kernel_rfl⟩
instance :Inhabited gG:=⟨⟨0,⟨0,0,[],[],false,0⟩⟩⟩
structure ah7 (a:gG):Prop where
 n:KM .i64 a.n
 c:Z6 a.c
theorem adU:Rd Tryz.prog 29 b_ ah7:=by
 intro H eh w fuel cs x h hw
 obtain⟨fs,ht,hfs⟩:=afN
 obtain⟨hl,hp⟩:=nO ht h hw
 rw[hfs]at hp
 have hc:Tryz.prog.cellsOf 29=7:=by kernel_rfl
 rw[hc]at hl
 match cs,hl with
 | [v0,v1,v2,v3,v4,v5,v6],_=>
  obtain⟨n0,y0,a0,b0⟩:=hp 0 0 3 rfl
  obtain⟨n1,y1,a1,b1⟩:=hp 1 1 27 rfl
  have hcd:Tryz.prog.cellsOf 27=6:=by kernel_rfl
  rw[hcd]at a1
  rw[one_cell GI (v:=v0) rfl]at a0
  obtain⟨k,g0,r0⟩:=Rd.int GH eh w n0 _ _ a0 b0
  obtain⟨c,g1,r1⟩:=PZ eh w n1 _ _ a1 b1
  refine⟨⟨k,c⟩,⟨g0,g1⟩,?_⟩
  exact bH (r0.2 0 _ _ rfl rfl) (bH (r1.2 0 _ v1 rfl rfl) (bH (r1.2 1 _ v2 rfl rfl) (bH (r1.2 2 _ v3 rfl rfl) (bH (r1.2 3 _ v4 rfl rfl) (bH (r1.2 4 _ v5 rfl rfl) (bH (r1.2 5 _ v6 rfl rfl) En))))))
theorem Z6.sm {n:Nd}(h:Z6 n):qE n:=by
 have h1:=h.name
 have h2:=h.s
 rw[reachBytes]at h1 h2
 exact⟨by omega,by omega⟩
section
variable {H:Type}{eh:TypeId×Value→H}{w:World}{base:Nat}{v:Value}{d:DataW H}{p:List MemPlace}
theorem Z9{t:TypeId}{α:Type}{enc:α→PV}{good:α→Prop}(hu:∃fs,Tryz.prog.underlying t=some (.struct fs))(hr:Rd Tryz.prog t enc good)(h1:∀a,enc a=.agg (enc a).cells)
  (hv:Value.okWide Tryz.prog w .any base t v) (h:DataW.Trod eh Tryz.prog w 0 (λ_=>true) true t v d p) (hw:∀n∈DataW.weights Tryz.prog t d,n≤reachBytes):∃a:α,good a∧dM w (λ_=>True) (enc a) v:=by
 obtain⟨fs,hu⟩:=hu
 obtain⟨⟨cs⟩,rfl,_⟩:=Go.WideShapes.okWide_struct hu hv
 obtain⟨fuel,h⟩:=h
 obtain⟨a,g,r⟩:=hr eh w fuel _ _ h hw
 refine⟨a,g,?_⟩
 rw[h1 a]
 exact .agg _ _ r.1 r.2
end
end Lp
namespace Lp
open Go Go.Proofs
theorem ah8:∃fs:Array Field,Tryz.prog.underlying 51=some (.struct fs)∧fs.toList.map (λf=>(f.offset,f.type))=[(0,3),(1,3),(2,9),(3,9),(4,3),(5,27)]:=
 ⟨Tryz.prog.fieldsOf 51,by kernel_rfl,by kernel_rfl⟩
instance :Inhabited dR:=⟨⟨0,0,[],[],0,⟨0,0,[],[],false,0⟩⟩⟩
structure ah9 (a:dR):Prop where
 name:a.name.length≤reachBytes
 s:a.s.length≤reachBytes
 c:Z6 a.c
theorem ahi:Rd Tryz.prog 51 aP ah9:=by
 intro H eh w fuel cs x h hw
 obtain⟨fs,ht,hfs⟩:=ah8
 obtain⟨hl,hp⟩:=nO ht h hw
 rw[hfs]at hp
 have hc:Tryz.prog.cellsOf 51=11:=by kernel_rfl
 rw[hc]at hl
 match cs,hl with
 | [v0,v1,v2,v3,v4,v5,v6,v7,v8,v9,v10],_=>
  obtain⟨n0,y0,a0,b0⟩:=hp 0 0 3 rfl
  obtain⟨n1,y1,a1,b1⟩:=hp 1 1 3 rfl
  obtain⟨n2,y2,a2,b2⟩:=hp 2 2 9 rfl
  obtain⟨n3,y3,a3,b3⟩:=hp 3 3 9 rfl
  obtain⟨n4,y4,a4,b4⟩:=hp 4 4 3 rfl
  obtain⟨n5,y5,a5,b5⟩:=hp 5 5 27 rfl
  have hcd:Tryz.prog.cellsOf 27=6:=by kernel_rfl
  rw[hcd]at a5
  rw[one_cell GI (v:=v0) rfl]at a0
  rw[one_cell GI (v:=v1) rfl]at a1
  rw[one_cell yT (v:=v2) rfl]at a2
  rw[one_cell yT (v:=v3) rfl]at a3
  rw[one_cell GI (v:=v4) rfl]at a4
  obtain⟨k,g0,r0⟩:=Rd.int GH eh w n0 _ _ a0 b0
  obtain⟨m,g1,r1⟩:=Rd.int GH eh w n1 _ _ a1 b1
  obtain⟨nm,g2,r2⟩:=Rd.str yS eh w n2 _ _ a2 b2
  obtain⟨s,g3,r3⟩:=Rd.str yS eh w n3 _ _ a3 b3
  obtain⟨n,g4,r4⟩:=Rd.int GH eh w n4 _ _ a4 b4
  obtain⟨c,g5,r5⟩:=PZ eh w n5 _ _ a5 b5
  refine⟨⟨k,m,nm,s,n,c⟩,⟨g2,g3,g5⟩,?_⟩
  exact bH (r0.2 0 _ _ rfl rfl) (bH (r1.2 0 _ _ rfl rfl) (bH (r2.2 0 _ _ rfl rfl) (bH (r3.2 0 _ _ rfl rfl) (bH (r4.2 0 _ _ rfl rfl)
   (bH (r5.2 0 _ v5 rfl rfl) (bH (r5.2 1 _ v6 rfl rfl) (bH (r5.2 2 _ v7 rfl rfl) (bH (r5.2 3 _ v8 rfl rfl) (bH (r5.2 4 _ v9 rfl rfl) (bH (r5.2 5 _ v10 rfl rfl) En))))))))))
theorem afO:Tryz.prog.underlying 23=some (.slice 51):=by kernel_rfl
theorem adV:Rd Tryz.prog 23 ay XZ:=by
 intro H eh w fuel cs x h hw
 obtain⟨v,⟨h1,h2⟩,h3⟩:=Rd.slice (sz:=11) afO ahi (by kernel_rfl) (by decide) (λ_=>rfl) eh w fuel cs x h hw
 have hb:Tryz.prog.bytesOf 51=120:=by kernel_rfl
 rw[hb,reachBytes]at h1
 refine⟨v,⟨by omega,λn hn=>?_,λn hn=>?_⟩,h3⟩
 ·have g:=h2 n hn
  have g1:=g.name
  have g2:=g.s
  have g3:=g.c.s
  rw[reachBytes]at g1 g2 g3
  exact⟨by omega,by omega,by omega⟩
 ·have g:=(h2 n hn).c.name
  rw[reachBytes]at g
  omega
end Lp
namespace Lp
open Go Go.Proofs
end Lp
namespace Lp
open Go Go.Proofs
theorem Eo:aO Tryz.prog 39 54 [.tmp 4,.tmp 5] (gen [] [] [1] Tryz.f39):=a_ Tryz.func39 rfl (by kernel_rfl)
theorem FR:aO Tryz.prog 17 29 [.tmp 4,.tmp 5] (gen [] [(67,none)] [] Tryz.f17):=a_ Tryz.func17 rfl (by kernel_rfl)
theorem FT:aO Tryz.prog 77 17 [.tmp 4] (gen [] [] [] Tryz.f77):=a_ Tryz.func77 rfl (by kernel_rfl)
theorem Ep:aO Tryz.prog 49 24 [.tmp 4] (gen [7] [(99,none)] [] Tryz.f49):=a_ Tryz.func49 rfl (by kernel_rfl)
theorem FU:aO Tryz.prog 45 19 [.tmp 4] (gen [] [(35,none)] [] Tryz.f45):=a_ Tryz.func45 rfl (by kernel_rfl)
theorem Au:aO Tryz.prog 44 54 [.tmp 4] (gen [] [(227,none)] [] Tryz.f44):=a_ Tryz.func44 rfl (by kernel_rfl)
theorem yU:aO Tryz.prog 46 78 [.tmp 4] (gen [] [(99,none)] [] Tryz.f46):=a_ Tryz.func46 rfl (by kernel_rfl)
theorem Av:aO Tryz.prog 47 85 [.tmp 6] (gen [] [(135,none),(903,none)] [] Tryz.f47):=a_ Tryz.func47 rfl (by kernel_rfl)
theorem Hy:aO Tryz.prog 18 141 [.tmp 4] (gen [] [(448,none)] [2] Tryz.f18):=a_ Tryz.func18 rfl (by kernel_rfl)
end Lp
namespace Lp
open Go Go.Proofs
theorem Cj:aO Tryz.prog 8 67 [.tmp 2] (gen [] [(9,none)] [] Tryz.f8):=a_ Tryz.func8 rfl (by kernel_rfl)
theorem Nu:aO Tryz.prog 27 58 [.cell 4 3,.cell 5 4] (gen [] [(0,none)] [] Tryz.f27):=a_ Tryz.func27 rfl (by kernel_rfl)
theorem LV:aO Tryz.prog 11 44 [.tmp 6,.tmp 7] (gen [42] [] [] Tryz.f11):=a_ Tryz.func11 rfl (by kernel_rfl)
theorem LW:aO Tryz.prog 57 46 [.tmp 4] (gen [] [(4134,some (1,2))] [11] Tryz.f57):=a_ Tryz.func57 rfl (by kernel_rfl)
theorem Hz:aO Tryz.prog 87 28 [.tmp 4] (gen [] [] [1,2] Tryz.f87):=a_ Tryz.func87 rfl (by kernel_rfl)
theorem iF:aO Tryz.prog 88 8 [.tmp 2] (gen [5] [] [] Tryz.f88):=a_ Tryz.func88 rfl (by kernel_rfl)
theorem Kg:aO Tryz.prog 20 118 [.tmp 4] (gen [] [] [2,4] Tryz.f20):=a_ Tryz.func20 rfl (by kernel_rfl)
theorem P5:aO Tryz.prog 56 11 [.tmp 5] (gen [] [] [] Tryz.f56):=a_ Tryz.func56 rfl (by kernel_rfl)
theorem Ck:aO Tryz.prog 10 55 [.tmp 0] (gen [] [] [] Tryz.f10):=a_ Tryz.func10 rfl (by kernel_rfl)
end Lp
namespace Lp
open Go Go.Proofs
def qf(c:Vl→Vl→Int):List Vl→Bool
 | a::b::l=>decide (0≤c b a) && qf c (b::l)
 | _=>true
theorem Cm(c:Vl→Vl→Int):∀l:List Vl,qf c l=true↔∀j a b,l[j]?=some a→l[j+1]?=some b→0≤c b a
 | []=>by simp[qf]
 | [a]=>by simp[qf]
 | a::b::l=>by
  rw[qf,Bool.and_eq_true,decide_eq_true_eq,Cm c (b::l)]
  constructor
  ·rintro⟨h1,h2⟩ j x y hx hy
   cases j with
   | zero=>
    simp only[List.getElem?_cons_zero,List.getElem?_cons_succ,Option.some.injEq]at hx hy
    subst hx hy;exact h1
   | succ j=>exact h2 j x y (by simpa using hx) (by simpa using hy)
  ·intro h
   exact⟨h 0 a b rfl rfl,λj x y hx hy=>h (j+1) x y (by simpa using hx) (by simpa using hy)⟩
def afP(f:Nat)(l:List Vl):Prop:=l.length≤1000000∧∀v∈l,v.length≤f∧Ok2 v
theorem LX(f:Nat)(keys:List Vl)(hk:afP f keys):ai Tryz.prog 48 [iq keys] [] (.bool (qf (iH jM f) keys)) []:=by
 obtain⟨hl,hk⟩:=hk
 refine Br.aX (T:=aR Tryz.prog [(51,(o7 f))]) 0 hD (aj (af (BR f) ah)) aV (by decide) λQ hQ=>?_
 (conv=>arg 4;cbv);simp (maxSteps:=400000) only[↓aS,aT,BEq.rfl,seval,hQ]
 refine aF (λm S=>∃i:Nat,i+m=keys.length+1∧(∀j a b,j<i→keys[j]?=some a→keys[j+1]?=some b→0≤iH jM f b a)∧
  S=⟨dG 21 [(0,iq keys),(3,.int .i64 (i+1:Nat))],[]⟩) (keys.length+1) ⟨0,by omega,λj a b h=>absurd h (by omega),?_⟩ ?_
 ·simp only[bN,keepR,Nat.reduceAdd,lJ,Nat.reduceBEq,List.map_nil]
  rfl
 rintro m S ⟨i,him,hj,rfl⟩
 rcases Nat.lt_or_ge (i+1) keys.length with h | h
 rotate_left 1
 ·have hlt:(((i+1:Nat):Int)<(keys.length:Int))=False:=eq_false (by omega)
  simp (maxSteps:=400000) only[↓aS,aT,BEq.rfl,seval,hQ,hlt]
  rw[Cm]
  intro j a b ha hb
  exact hj j a b (by have:=(List.getElem?_eq_some_iff.1 hb).1;omega) ha hb
 have hlt:(((i+1:Nat):Int)<(keys.length:Int))=True:=eq_true (by omega)
 have g1:keys[i+1]?=some keys[i+1]:=List.getElem?_eq_getElem h
 have g0:keys[i]?=some (keys[i]'(by omega)):=List.getElem?_eq_getElem (by omega)
 have o1:=hk keys[i+1] (List.getElem_mem _)
 have o0:=hk (keys[i]'(by omega)) (List.getElem_mem _)
 generalize keys[i+1]=y at g1 o1
 generalize keys[i]'(by omega)=x at g0 o0
 have t1:(((i+1:Nat):Int)-1).toNat=i:=by omega
 have z1:(0≤((i+1:Nat):Int))=True:=eq_true (by omega)
 have z2:(0≤((i+1:Nat):Int)-1)=True:=eq_true (by omega)
 have r1:(-9223372036854775808≤((i+1:Nat):Int)-1∧((i+1:Nat):Int)-1≤9223372036854775807)=True:=eq_true ⟨by omega,by omega⟩
 by_cases hc:iH jM f y x<0
 ·have hc':(iH jM f y x<0)=True:=eq_true hc
  have hr:qf (iH jM f) keys=false:=by
   cases hr:qf (iH jM f) keys with
   | false=>rfl
   | true=>have:=(Cm _ _).1 hr i x y g0 g1;omega
  simp (maxSteps:=400000) only[↓aS,aT,BEq.rfl,seval,hQ,hlt,↓o7,g1,g0,t1,z1,z2,r1,hc',hr]
  exact⟨o1.1,o1.2,o0.2⟩
 ·have hc':(iH jM f y x<0)=False:=eq_false hc
  simp (maxSteps:=400000) only[↓aS,aT,BEq.rfl,seval,hQ,hlt,↓o7,g1,g0,t1,z1,z2,r1,hc']
  refine⟨o1.1,o1.2,o0.2,⟨by omega,by omega⟩,m-1,by omega,i+1,by omega,?_,by simp⟩
  intro j a b hji ha hb
  by_cases hjj:j=i
  ·subst hjj
   rw[g0]at ha;rw[g1]at hb
   cases ha;cases hb
   omega
  ·exact hj j a b (by omega) ha hb
def tH(f:Nat):dD:=λargs objs K=>match args with
 | [a0]=>dZ iq a0 (HK.mk:HK λkeys=>(afP f keys)∧K (.bool (qf (iH jM f) keys)) objs 0)
 | _=>False
theorem Kh(f:Nat):aC Tryz.prog 48 (tH f):=by
 intro args objs K h
 unfold tH at h
 split at h
 ·rename_i a0
  obtain⟨keys,rfl,h1,hk⟩:=h
  exact⟨_,_,_,.pure _ rfl (LX f keys h1),hk⟩
 ·exact h.elim
end Lp
namespace Lp
open Go Go.Proofs
open List (all_eq_true of_mem_zip)
def jD(v:Vl)(x:Stp):Vl×Int:=
 if x.part then (if lC v=5 then (match (aG v)[x.n.toNat]? with | some w=>(w,0) | none=>([],6)) else ([],5))
 else if lC v=6 then (match rQ v x.name with | some w=>(w,0) | none=>([],6)) else ([],5)
def jR:List Stp→Vl→Vl×Int
 | [],v=>(v,0)
 | x::p,v=>if (jD v x).2=0 then jR p (jD v x).1 else ([],(jD v x).2)
def h_(s:List UInt8)(v:Vl):Vl:=(jR (cO s) v).1
def Ba:Vl→Int
 | []=>0
 | n::_=>n.many
def Ki:Vl→List UInt8
 | []=>[]
 | n::_=>n.s
def lG(g:aD→Vl→Bool)(v:Vl)(names:List (List UInt8))(ts:List aD):Bool:=(names.zip ts).all λx=>match rQ v x.1 with | some w=>g x.2 w | none=>false
def Er(g:aD→Vl→Bool)(ts:List aD)(l:List Vl):Bool:=(ts.zip l).all λx=>g x.1 x.2
def Es:List UInt8:=[107,101,121]
def Cn:List UInt8:=[118,97,108,117,101]
def P6(g:Vl→Bool)(x:Vl):Bool:=match rQ x Es,rQ x Cn with
 | some k,some w=>Ba x==2 && lC k==4 && g w
 | _,_=>false
def pX(g:Vl→Bool):Option (List UInt8)→List Vl→Bool
 | _,[]=>true
 | last,x::l=>P6 g x && (match last with | none=>true | some a=>!(Op.bytesLess (Ki (kM x Es)) a || decide (Ki (kM x Es)=a))) && pX g (some (Ki (kM x Es))) l
def LY:Vl→Vl→Int:=iH jM 1000000
def WB(g:Vl→Bool)(s:List UInt8)(x:Vl):Bool:=lC x==5 && Ba x !=0 && (aG x).all g && (aG x).all λy=>h_ s y==h_ s ((aG x).headD [])
def qm(g:Vl→Bool)(s:List UInt8):Option Vl→List Vl→Bool
 | _,[]=>true
 | last,x::l=>WB g s x && (match last with | none=>true | some a=>decide (LY a (h_ s ((aG x).headD []))<0)) && qm g s (some (h_ s ((aG x).headD []))) l
def Bb:Nat→aD→Vl→Bool
 | f+1,n::r,v=>
  if n.kind=0 then true
  else if n.kind=1 then v.length==1 && bV n.n (bI (n::r)) (v.headD aQ)
  else if n.kind=2 then lC v==6 && lG (Bb f) v (bE (n::r)) (ax (n::r)) && (n.n==1 || Ba v==(bE (n::r)).length)
  else if n.kind=3 then lC v==6 && (aG v).all (Bb f ((ax (n::r)).headD []))
  else lC v==5 && (
   if n.kind=4 then Er (Bb f) (ax (n::r)) (aG v) && (aG v).length==(ax (n::r)).length
   else if n.kind=6 then pX (Bb f ((ax (n::r)).headD [])) none (aG v)
   else if n.kind=8 then qm (Bb f ((ax (n::r)).headD [])) n.s none (aG v)
   else if n.kind=7 then (aG v).all (Bb f ((ax (n::r)).headD [])) && qf LY ((aG v).map (h_ n.s))
   else (aG v).all (Bb f ((ax (n::r)).headD [])))
 | _,_,_=>false
def inT(t:aD)(v:Vl):Bool:=Bb t.length t v
theorem oC.head {n:dR}{r:aD}(h:oC bA cO (n::r))(hk:n.kind=3∨n.kind=5∨n.kind=6∨n.kind=7∨n.kind=8):∃p,ax (n::r)=[p]∧oC bA cO p∧p.length≤r.length:=by
 obtain⟨h1,h2,ps,h3,h4,_⟩:=h.parts
 have hm:n.many=1:=by
  rcases hk with k | k | k | k | k<;>simp[bQ,k]at h1<;>omega
 have hl:=Y.bD _ _ _ h3
 have e:ax (n::r)=ps.map Y.ic:=by
  have:n.kind≠1:=by omega
  simp only[ax,this,if_false,dN h3]
 rw[hm]at hl
 match ps,hl with
 | [p],_=>
  have:=h.part (Y.ic p) (by rw[e];exact List.mem_cons_self ..)
  exact⟨Y.ic p,by rw[e];rfl,this⟩
theorem TB:∀(f g:Nat) (t:aD) (v:Vl),t.length≤f→t.length≤g→oC bA cO t→Bb f t v=Bb g t v
 | 0,_,t,_,h,_,hr=>by have:=hr.one.ne;cases t<;>simp at h this
 | f+1,0,t,_,_,h,hr=>by have:=hr.one.ne;cases t<;>simp at h this
 | f+1,g+1,[],_,_,_,_=>rfl
 | f+1,g+1,n::r,v,h1,h2,hr=>by
  simp only[List.length_cons]at h1 h2
  have hp:=hr.part
  have e:∀p∈ax (n::r),Bb f p=Bb g p:=λp hx=>funext λw=>TB f g p w (by have:=(hp p hx).2;omega) (by have:=(hp p hx).2;omega) (hp p hx).1
  have eo:lG (Bb f) v (bE (n::r)) (ax (n::r))=lG (Bb g) v (bE (n::r)) (ax (n::r)):=by
   unfold lG
   rw[Bool.eq_iff_iff,all_eq_true,all_eq_true]
   refine forall_congr' λx=>forall_congr' λhx=>?_
   rw[e x.2 (of_mem_zip hx).2]
  have et:Er (Bb f) (ax (n::r)) (aG v)=Er (Bb g) (ax (n::r)) (aG v):=by
   unfold Er
   rw[Bool.eq_iff_iff,all_eq_true,all_eq_true]
   refine forall_congr' λx=>forall_congr' λhx=>?_
   rw[e x.1 (of_mem_zip hx).1]
  by_cases hk:n.kind=3∨n.kind=5∨n.kind=6∨n.kind=7∨n.kind=8
  ·obtain⟨p,q1,q2,q3⟩:=hr.head hk
   have e1:Bb f ((ax (n::r)).headD [])=Bb g ((ax (n::r)).headD []):=by
    rw[q1];exact e p (by rw[q1];exact List.mem_cons_self ..)
   simp only[Bb,e1,eo,et]
  ·have hpl:=(hr.parts).1
   have hk':n.kind=0∨n.kind=1∨n.kind=2∨n.kind=4∨n.kind=9:=by
    by_cases h0:n.kind=0∨n.kind=1∨n.kind=2∨n.kind=4∨n.kind=9
    ·exact h0
    ·exfalso
     simp only[not_or]at h0 hk
     simp[bQ,h0,hk]at hpl
   rcases hk' with k | k | k | k | k
   ·simp[Bb,k]
   ·simp[Bb,k]
   ·simp[Bb,k,eo]
   ·simp[Bb,k,et]
   ·exact absurd k hr.kind
theorem yV{n:dR}{r:aD}(h:oC bA cO (n::r))(v:Vl):inT (n::r) v=
  if n.kind=0 then true
  else if n.kind=1 then v.length==1 && bV n.n (bI (n::r)) (v.headD aQ)
  else if n.kind=2 then lC v==6 && lG inT v (bE (n::r)) (ax (n::r)) && (n.n==1 || Ba v==(bE (n::r)).length)
  else if n.kind=3 then lC v==6 && (aG v).all (inT ((ax (n::r)).headD []))
  else lC v==5 && (
   if n.kind=4 then Er inT (ax (n::r)) (aG v) && (aG v).length==(ax (n::r)).length
   else if n.kind=6 then pX (inT ((ax (n::r)).headD [])) none (aG v)
   else if n.kind=8 then qm (inT ((ax (n::r)).headD [])) n.s none (aG v)
   else if n.kind=7 then (aG v).all (inT ((ax (n::r)).headD [])) && qf LY ((aG v).map (h_ n.s))
   else (aG v).all (inT ((ax (n::r)).headD []))):=by
 have hp:=h.part
 have e:∀p∈ax (n::r),Bb r.length p=inT p:=λp hx=>funext λw=>TB _ _ p w (hp p hx).2 (Nat.le_refl _) (hp p hx).1
 have eo:lG (Bb r.length) v (bE (n::r)) (ax (n::r))=lG inT v (bE (n::r)) (ax (n::r)):=by
  unfold lG
  rw[Bool.eq_iff_iff,all_eq_true,all_eq_true]
  refine forall_congr' λx=>forall_congr' λhx=>?_
  rw[e x.2 (of_mem_zip hx).2]
 have et:Er (Bb r.length) (ax (n::r)) (aG v)=Er inT (ax (n::r)) (aG v):=by
  unfold Er
  rw[Bool.eq_iff_iff,all_eq_true,all_eq_true]
  refine forall_congr' λx=>forall_congr' λhx=>?_
  rw[e x.1 (of_mem_zip hx).1]
 unfold inT
 rw[List.length_cons]
 by_cases hk:n.kind=3∨n.kind=5∨n.kind=6∨n.kind=7∨n.kind=8
 ·obtain⟨p,q1,q2,q3⟩:=h.head hk
  have e1:Bb r.length ((ax (n::r)).headD [])=inT ((ax (n::r)).headD []):=by
   rw[q1];exact e p (by rw[q1];exact List.mem_cons_self ..)
  simp only[Bb,e1,eo,et]
  rfl
 ·have hpl:=(h.parts).1
  have hk':n.kind=0∨n.kind=1∨n.kind=2∨n.kind=4∨n.kind=9:=by
   by_cases h0:n.kind=0∨n.kind=1∨n.kind=2∨n.kind=4∨n.kind=9
   ·exact h0
   ·exfalso
    simp only[not_or]at h0 hk
    simp[bQ,h0,hk]at hpl
  rcases hk' with k | k | k | k | k
  ·simp[Bb,k]
  ·simp[Bb,k]
  ·simp only[Bb,k,eo];rfl
  ·simp only[Bb,k,et];rfl
  ·exact absurd k h.kind
end Lp
namespace Lp
open Go Go.Proofs
structure HKT (K:KT):Type where
end Lp
namespace Lp
open Go Go.Proofs
end Lp
namespace Lp
open Go Go.Proofs
theorem Big.small {v:Vl}(h:Big v)(hl:v.length≤1000000):Small v:=⟨hl,h.txt⟩
theorem qF{v:Vl}(hr:Rt v):(aG v).length≤v.length∧(cu v).length≤v.length∧(aG v).flatten.length≤v.length∧∀p∈aG v,p.length≤v.length:=by
 obtain⟨n,r,rfl,_⟩:=iL hr.name hr.one.ne
 obtain⟨h1,h2,ps,h3,h4,h5,h6,h7⟩:=hr.parts
 obtain⟨q1,q2⟩:=fq h3
 have h8:=bD _ _ _ h3
 have h9:=fu _ _ _ h3
 have hfl:(ps.map ic).flatten.length=r.length:=by
  rw[←h4,List.length_flatten,List.length_flatten,List.map_map]
  congr 1
  exact List.map_congr_left λp _=>fH p
 refine⟨?_,?_,?_,λp hp=>Nat.le_of_lt (zb hr hp).2⟩
 ·simp only[aG,q1,List.length_map,List.length_cons];omega
 ·simp only[cu,q2]
  split
  ·simp only[List.length_map,List.length_cons];omega
  ·simp
 ·simp only[aG,q1,hfl,List.length_cons];omega
theorem WC{v:Vl}{k:Nat}(h:Cu v k=true):Rt v∧v.length≤k:=by
 simp only[Cu,Bool.and_eq_true,decide_eq_true_eq]at h
 exact⟨uF h.2,h.1.1⟩
theorem ahg.txt {l:List Vl}(h:ahg l):∀v∈l,v.length≤1152921504606846976∧∀n∈v,n.s.length≤4611686018427387904∧n.name.length≤4611686018427387904:=λv hv=>⟨(h.all v hv).len,(h.all v hv).txt⟩
theorem WE{v:Vl}(hr:Rt v){q:Nd→Prop}(hq:∀n,q n→q { n with name:=[] })(hv:∀n∈v,q n):∀p∈aG v,∀n∈p,q n:=by
 obtain⟨n,r,rfl,_⟩:=iL hr.name hr.one.ne
 obtain⟨h1,h2,ps,h3,h4,_,_,_⟩:=hr.parts
 simp only[aG,(fq h3).1]
 intro p hp m hm
 obtain⟨p',hp',rfl⟩:=List.mem_map.1 hp
 have hin:∀x∈p',q x:=λx hx=>hv x (List.mem_cons_of_mem _ (by rw[←h4];exact List.mem_flatten.2 ⟨p',hp',hx⟩))
 cases p' with
 | nil=>cases hm
 | cons a t=>
  rcases List.mem_cons.1 hm with rfl | hm
  ·exact hq a (hin a (by simp))
  ·exact hin m (List.mem_cons_of_mem _ hm)
end Lp
namespace Lp
open Go Go.Proofs
theorem IB{v:Vl}(hr:Rt v)(hk:lC v=6):Xf (Xe v)∧mkO (Xe v)=v∧cu v=(Xe v).map (·.1)∧aG v=(Xe v).map (·.2):=by
 obtain⟨n,r,rfl,_⟩:=iL hr.name hr.one.ne
 exact ae4 hr hk
theorem LZ(v:Vl)(nm:List UInt8)(hr:Rt v)(hl:v.length≤1000000):ai Tryz.prog 72 [aJ v,.str nm] [] (wH v nm) []:=by
 refine BI.wo (T:=aR Tryz.prog [(82,kI),(42,bB)]) 0 hD (aj (af uZ (af lq ah))) aV (by decide) (by decide) λQ hQ=>?_
 obtain⟨n,r,hv,_⟩:=iL hr.name hr.one.ne
 obtain⟨p1,p2,p3,p4⟩:=qF hr
 have hnp:lC v=6∨cu v=[]:=by
  by_cases hk:n.kind=6
  ·left;rw[hv];exact hk
  ·right;rw[hv];simp[cu,hk]
 have hpn:lC v=6→(cu v).length=(aG v).length:=λhk=>by
  obtain⟨_,_,h3,h4⟩:=IB hr hk
  rw[h3,h4];simp
 have ho:=hr.one
 (conv=>arg 4;cbv);simp (maxSteps:=400000) only[↓aS,aT,BEq.rfl,seval,hQ,↓kI]
 refine⟨ho,hl,?_⟩
 refine aF (λm S=>∃i:Nat,i+m=(cu v).length∧(∀(j:Nat) s,j<i→(cu v)[j]?=some s→s≠nm)∧S=⟨dG 27 [(0,aJ v),(1,.str nm),(6,jQ (cu v)),(7,.int .i64 i)],[]⟩) (cu v).length ⟨0,by omega,λj s h=>absurd h (Nat.not_lt_zero j),?_⟩ ?_
 ·simp only[bN,keepR,Nat.reduceAdd,lJ,Nat.reduceBEq,List.map_nil]
  rfl
 rintro m S ⟨i,him,hb,rfl⟩
 have ahj:Xe v=(cu v).zip (aG v):=rfl
 rcases Nat.lt_or_ge i (cu v).length with h | h
 ·have hlt:((i:Int)<((cu v).length:Int))=True:=eq_true (by omega)
  have zi:(0≤(i:Int))=True:=eq_true (by omega)
  have hk:lC v=6:=hnp.resolve_right λh0=>by rw[h0]at h;simp at h
  have hpl:=hpn hk
  have hgi:=List.getElem?_eq_getElem h
  have MF:(aG v)[i]?=some ((aG v)[i]'(by omega)):=List.getElem?_eq_getElem _
  generalize (cu v)[i]=s at hgi
  generalize (aG v)[i]'(by omega)=p at MF
  by_cases he:s=nm
  ·have he':(s=nm)=True:=eq_true he
   have hres:wH v nm=.bY [aJ p,.bool true]:=by
    have hm:(nm,p)∈Xe v:=by
     rw[ahj]
     refine List.mem_iff_getElem?.2 ⟨i,?_⟩
     rw[List.getElem?_zip_eq_some]
     exact⟨by rw[←he];exact hgi,MF⟩
    have:=aaB (Bd (IB hr hk).1.rise) hm
    simp[wH,rQ,hk,this]
   simp (maxSteps:=400000) only[↓aS,aT,BEq.rfl,seval,hQ,hlt,zi,hgi,he',↓bB,MF]
   exact⟨ho,hl,hres⟩
  ·have he':(s=nm)=False:=eq_false he
   simp (maxSteps:=400000) only[↓aS,aT,BEq.rfl,seval,hQ,hlt,zi,hgi,he']
   refine⟨⟨by omega,by omega⟩,m-1,by omega,i+1,by omega,λj s' hj hs=>?_,rfl⟩
   rcases Nat.lt_or_ge j i with g | g
   ·exact hb j s' g hs
   ·have:j=i:=by omega
    subst this
    rw[hgi]at hs;cases hs;exact he
 ·have hlt:((i:Int)<((cu v).length:Int))=False:=eq_false (by omega)
  have hres:wH v nm=.bY [.sl 0 [] (some true),.bool false]:=by
   have:QB (Xe v) nm=none:=by
    rw[Mt,ahj]
    intro hm
    obtain⟨x,hx,rfl⟩:=List.mem_map.1 hm
    obtain⟨j,hj,e⟩:=List.mem_iff_getElem.1 (List.of_mem_zip hx).1
    exact hb j x.1 (by omega) (by rw[List.getElem?_eq_getElem hj,e]) rfl
   simp[wH,rQ,this]
  simp (maxSteps:=400000) only[↓aS,aT,BEq.rfl,seval,hQ,hlt]
  exact hres
theorem Kj(v:Vl)(nm:List UInt8)(hr:Rt v)(hl:v.length≤1000000):ai Tryz.prog 72 [aJ v,.str nm] [] (.bY [aJ (kM v nm),.bool (vg v nm)]) []:=(LZ v nm hr hl).res (Ls v nm)
def dz:dD:=λargs objs K=>match args with
 | [a0,.str nm]=>dZ aJ a0 (HK.mk:HK λv=>(Rt v)∧(v.length≤1000000)∧K (.bY [aJ (kM v nm),.bool (vg v nm)]) objs 0)
 | _=>False
theorem r_:aC Tryz.prog 72 (dz):=by
 intro args objs K h
 unfold dz at h
 split at h
 ·rename_i a0 nm
  obtain⟨v,rfl,h1,h2,hk⟩:=h
  exact⟨_,_,_,.pure _ rfl (Kj v nm h1 h2),hk⟩
 ·exact h.elim
end Lp
namespace Lp
open Go Go.Proofs
theorem Nv(x:Stp):eZ 1 0 [⟨61,3,[encS x],true,1⟩] (.bP 0 1 0 0)=.addr (encS x):=rfl
def si(v:Vl)(x:Stp):PV:=if (jD v x).2=0 then .bY [aJ (jD v x).1,.int .i64 0] else .bY [.sl 0 [] (some true),.int .i64 (jD v x).2]
theorem TD(v:Vl)(x:Stp)(hr:Rt v)(hl:v.length≤1000000)(hn:0≤x.n):ai Tryz.prog 39 [aJ v,encS x] [] (si v x) []:=by
 refine Eo.wo (T:=aR Tryz.prog [(42,bB),(72,dz)]) 0 hD (aj (af lq (af r_ ah))) aV (by decide) (by decide) λQ hQ=>?_
 have ho:=hr.one
 obtain⟨p1,_,_,_⟩:=qF hr
 obtain⟨n,r,hv,_⟩:=iL hr.name hr.one.ne
 have hv0:v[0]?=some n:=by rw[hv];rfl
 have hkd:lC v=n.kind:=by rw[hv];rfl
 have zn:(0≤x.n)=True:=eq_true hn
 (conv=>arg 4;cbv);simp (maxSteps:=400000) only[↓ak,au,BEq.rfl,seval,hQ]
 refine aN _ (Weak.freeze 1 0 (Nat.zero_le _) _) ?_
 cases hx:x.part with
 | true=>
  by_cases hk:n.kind=5
  ·rcases Nat.lt_or_ge x.n.toNat (aG v).length with h | h
   ·have hgi:=List.getElem?_eq_getElem h
    generalize (aG v)[x.n.toNat]=w at hgi
    have hlt:(((aG v).length:Int)≤x.n)=False:=eq_false (by omega)
    have hres:si v x=.bY [aJ w,.int .i64 0]:=by simp[si,jD,hx,hkd,hk,hgi]
    simp (maxSteps:=400000) only[↓ak,au,BEq.rfl,seval,hQ,Nv,hx,hv0,hk,↓bB,hlt,zn,hgi,hres]
    exact⟨ho,hl⟩
   ·have hlt:(((aG v).length:Int)≤x.n)=True:=eq_true (by omega)
    have hres:si v x=.bY [.sl 0 [] (some true),.int .i64 6]:=by simp[si,jD,hx,hkd,hk,List.getElem?_eq_none h]
    simp (maxSteps:=400000) only[↓ak,au,BEq.rfl,seval,hQ,Nv,hx,hv0,hk,↓bB,hlt,hres]
    exact⟨ho,hl⟩
  ·have hk':=eq_false hk
   have hres:si v x=.bY [.sl 0 [] (some true),.int .i64 5]:=by simp[si,jD,hx,hkd,hk]
   simp (maxSteps:=400000) only[↓ak,au,BEq.rfl,seval,hQ,Nv,hx,hv0,hk',hres]
 | false=>
  by_cases hk:n.kind=6
  ·cases hf:rQ v x.name with
   | some w=>
    have h1:kM v x.name=w:=by simp[kM,hf]
    have h2:vg v x.name=true:=by simp[vg,hf]
    have hres:si v x=.bY [aJ w,.int .i64 0]:=by simp[si,jD,hx,hkd,hk,hf]
    simp (maxSteps:=400000) only[↓ak,au,BEq.rfl,seval,hQ,Nv,hx,hv0,hk,↓dz,eY,h1,h2,hres]
    exact⟨hr,hl⟩
   | none=>
    have h2:vg v x.name=false:=by simp[vg,hf]
    have hres:si v x=.bY [.sl 0 [] (some true),.int .i64 6]:=by simp[si,jD,hx,hkd,hk,hf]
    simp (maxSteps:=400000) only[↓ak,au,BEq.rfl,seval,hQ,Nv,hx,hv0,hk,↓dz,eY,h2,hres]
    exact⟨hr,hl⟩
  ·have hk':=eq_false hk
   have hres:si v x=.bY [.sl 0 [] (some true),.int .i64 5]:=by simp[si,jD,hx,hkd,hk]
   simp (maxSteps:=400000) only[↓ak,au,BEq.rfl,seval,hQ,Nv,hx,hv0,hk',hres]
theorem Z_{v:Vl}{x:Stp}(h:¬ (jD v x).2=0):(jD v x).1=[]:=by
 revert h
 unfold jD
 split
 ·split
  ·split<;>simp
  ·simp
 ·split
  ·split<;>simp
  ·simp
theorem TF(v:Vl)(x:Stp):lX (si v x) (.bY [aJ (jD v x).1,.int .i64 (jD v x).2]):=by
 unfold si
 split
 ·rename_i h;rw[h];exact .refl _
 ·rename_i h;rw[Z_ h];exact Ot (.inr rfl) (lT 0 6) (.refl _)
theorem TG{v:Vl}{x:Stp}(hr:Rt v)(h:(jD v x).2=0):(jD v x).1∈aG v:=by
 revert h
 unfold jD
 split
 ·split
  ·split
   ·rename_i w hw;intro _;exact List.mem_of_getElem? hw
   ·intro h;cases h
  ·intro h;cases h
 ·split
  ·split
   ·rename_i hk _ w hw
    intro _
    rw[rQ,if_pos hk]at hw
    have:=EQ hw
    rw[(IB hr hk).2.2.2]
    exact List.mem_map.2 ⟨_,this,rfl⟩
   ·intro h;cases h
  ·intro h;cases h
def vF:dD:=λargs objs K=>match args with
 | [a0,a1]=>dZ aJ a0 (HK.mk:HK λv=>dZ encS a1 (HK.mk:HK λx=>(Rt v)∧(v.length≤1000000)∧(0≤x.n)∧K (.bY [aJ (jD v x).1,.int .i64 (jD v x).2]) objs 0))
 | _=>False
theorem P7:aC Tryz.prog 39 (vF):=by
 intro args objs K h
 unfold vF at h
 split at h
 ·rename_i a0 a1
  obtain⟨v,rfl,x,rfl,h1,h2,h3,hk⟩:=h
  exact⟨_,_,_,.pure _ rfl ((TD v x h1 h2 h3).res (TF v x)),hk⟩
 ·exact h.elim
def Co(p:List Stp)(v:Vl):PV:=if (jR p v).2=0 then .bY [aJ (jR p v).1,.int .i64 0] else .bY [.sl 0 [] (some true),.int .i64 (jR p v).2]
theorem Et:∀(p:List Stp) (v:Vl),¬ (jR p v).2=0→(jR p v).1=[]
 | [],_,h=>absurd rfl h
 | x::p,v,h=>by
  rw[jR]at h ⊢
  split
  ·rename_i h0;rw[if_pos h0]at h;exact Et p _ h
  ·rfl
theorem P8(p:List Stp)(v:Vl):lX (Co p v) (.bY [aJ (jR p v).1,.int .i64 (jR p v).2]):=by
 unfold Co
 split
 ·rename_i h;rw[h];exact .refl _
 ·rename_i h;rw[Et p v h];exact Ot (.inr rfl) (lT 0 6) (.refl _)
theorem WG(p:List Stp)(v:Vl)(hr:Rt v)(hl:v.length≤1000000)(hpl:p.length≤1000000)(hn:∀x∈p,0≤x.n):ai Tryz.prog 17 [dO p,aJ v] [] (Co p v) []:=by
 refine FR.wo (T:=aR Tryz.prog [(39,vF)]) 0 hD (aj (af P7 ah)) aV (by decide) (by decide) λQ hQ=>?_
 (conv=>arg 4;cbv);simp (maxSteps:=400000) only[↓ak,au,BEq.rfl,seval,hQ]
 refine aF (λm S=>∃(i:Nat) (w:Vl),i+m=p.length∧Rt w∧w.length≤1000000∧jR p v=jR (p.drop i) w∧S=⟨dG 29 [(0,dO p),(1,aJ w),(6,.int .i64 i)],[]⟩) p.length ⟨0,v,by omega,hr,hl,by rw[List.drop_zero],?_⟩ ?_
 ·simp only[bN,keepR,Nat.reduceAdd,lJ,Nat.reduceBEq,List.map_nil]
  rfl
 rintro m S ⟨i,w,him,hw,hwl,hg,rfl⟩
 have zi:(0≤(i:Int))=True:=eq_true (by omega)
 rcases Nat.lt_or_ge i p.length with h | h
 ·have hlt:((i:Int)<(p.length:Int))=True:=eq_true (by omega)
  have hgi:=List.getElem?_eq_getElem h
  have hx:=hn p[i] (List.getElem_mem h)
  rw[List.drop_eq_getElem_cons h]at hg
  generalize p[i]=x at hgi hx hg
  rw[jR]at hg
  by_cases he:(jD w x).2=0
  ·have he':=eq_true he
   rw[if_pos he]at hg
   have hm:=zb hw (TG hw he)
   simp (maxSteps:=400000) only[↓ak,au,BEq.rfl,seval,hQ,hlt,zi,hgi,↓vF,eY,he']
   exact⟨hw,hwl,hx,⟨by omega,by omega⟩,m-1,by omega,i+1,_,by omega,hm.1,by omega,hg,rfl⟩
  ·have he':=eq_false he
   rw[if_neg he]at hg
   have hres:Co p v=.bY [.sl 0 [] (some true),.int .i64 (jD w x).2]:=by unfold Co;rw[hg,if_neg he]
   simp (maxSteps:=400000) only[↓ak,au,BEq.rfl,seval,hQ,hlt,zi,hgi,↓vF,eY,he',hres]
   exact⟨hw,hwl,hx⟩
 ·have hlt:((i:Int)<(p.length:Int))=False:=eq_false (by omega)
  rw[List.drop_eq_nil_of_le h,jR]at hg
  have hres:Co p v=.bY [aJ w,.int .i64 0]:=by unfold Co;rw[hg,if_pos rfl]
  simp (maxSteps:=400000) only[↓ak,au,BEq.rfl,seval,hQ,hlt,hres]
def pY:dD:=λargs objs K=>match args with
 | [a0,a1]=>dZ dO a0 (HK.mk:HK λp=>dZ aJ a1 (HK.mk:HK λv=>(Rt v)∧(v.length≤1000000)∧(p.length≤1000000)∧(∀x∈p,0≤x.n)∧K (.bY [aJ (jR p v).1,.int .i64 (jR p v).2]) objs 0))
 | _=>False
theorem GJ:aC Tryz.prog 17 (pY):=by
 intro args objs K h
 unfold pY at h
 split at h
 ·rename_i a0 a1
  obtain⟨p,rfl,v,rfl,h1,h2,h3,h4,hk⟩:=h
  exact⟨_,_,_,.pure _ rfl ((WG p v h1 h2 h3 h4).res (P8 p v)),hk⟩
 ·exact h.elim
theorem adW(s:List UInt8)(i:Nat)(b:Bool):0≤(ig s i b).1.n:=by
 have hp:∀a,0≤(mU s a i).1.n:=λa=>by
  unfold mU
  split
  ·simp
  ·split
   ·simp
   ·rename_i h;simp only[not_or]at h;exact Int.not_lt.1 h.1
 have hp1:∀a j,0≤(mU s a j).1.n:=λa j=>by
  unfold mU
  split
  ·simp
  ·split
   ·simp
   ·rename_i h;simp only[not_or]at h;exact Int.not_lt.1 h.1
 unfold ig
 split
 ·split
  ·simp
  ·split
   ·simp
   ·split
    ·exact hp1 _ _
    ·simp
 ·split
  ·simp
  ·exact hp1 _ _
theorem acw(s:List UInt8):∀(f i:Nat) (out:List Stp),(∀x∈out,0≤x.n)→∀x∈(Bf s f i out).1,0≤x.n
 | 0,_,_,h=>h
 | f+1,i,out,h=>by
  rw[Bf]
  split
  ·exact h
  ·refine acw s f _ _ λx hx=>?_
   rcases List.mem_append.1 hx with hx | hx
   ·exact h x hx
   ·rw[List.mem_singleton.1 hx];exact adW s i _
theorem X0(s:List UInt8):∀x∈cO s,0≤x.n:=by
 have hb:∀x∈(fe s).1,0≤x.n:=by
  unfold fe
  split
  ·intro x hx;cases hx
  ·exact acw s 20 0 [] λx hx=>by cases hx
 intro x hx
 unfold cO jA at hx
 split at hx
 ·exact hb x hx
 ·split at hx
  ·cases hx
  ·split at hx
   ·cases hx
   ·exact hb x hx
def WH(s:List UInt8)(v:Vl):PV:=if (jR (cO s) v).2=0 then aJ (h_ s v) else .sl 0 [] (some true)
theorem WI(s:List UInt8)(v:Vl)(hs:s.length≤1000000000)(hr:Rt v)(hl:v.length≤1000000):ai Tryz.prog 77 [.str s,aJ v] [] (WH s v) []:=by
 refine FT.aX (T:=aR Tryz.prog [(99,u7),(17,pY)]) 0 hD (aj (af OQ (af GJ ah))) aV (by decide) λQ hQ=>?_
 have h1:=FJ s
 by_cases he:(jR (cO s) v).2=0
 ·have he':=eq_true he
  have hres:WH s v=aJ (jR (cO s) v).1:=by simp[WH,he,h_]
  (conv=>arg 4;cbv);simp (maxSteps:=400000) only[↓ak,au,BEq.rfl,seval,hQ,↓u7,↓pY,eY,he',hres]
  exact⟨hs,hr,hl,by omega,X0 s⟩
 ·have he':=eq_false he
  have hres:WH s v=.sl 0 [] (some true):=by simp[WH,he]
  (conv=>arg 4;cbv);simp (maxSteps:=400000) only[↓ak,au,BEq.rfl,seval,hQ,↓u7,↓pY,eY,he',hres]
  exact⟨hs,hr,hl,by omega,X0 s⟩
theorem WJ(s:List UInt8)(v:Vl):lX (WH s v) (aJ (h_ s v)):=by
 unfold WH
 split
 ·exact .refl _
 ·rename_i h
  have:h_ s v=[]:=Et _ _ h
  rw[this];exact lT 0 6
def sj:dD:=λargs objs K=>match args with
 | [.str s,a1]=>dZ aJ a1 (HK.mk:HK λv=>(s.length≤1000000000)∧(Rt v)∧(v.length≤1000000)∧K (aJ (h_ s v)) objs 0)
 | _=>False
theorem GK:aC Tryz.prog 77 (sj):=by
 intro args objs K h
 unfold sj at h
 split at h
 ·rename_i s a1
  obtain⟨v,rfl,h1,h2,h3,hk⟩:=h
  exact⟨_,_,_,.pure _ rfl ((WI s v h1 h2 h3).res (WJ s v)),hk⟩
 ·exact h.elim
theorem TH(s:List UInt8)(l:List Vl)(hs:s.length≤1000000000)(hl:l.length≤1000000)(hr:∀v∈l,Rt v∧v.length≤1000000):ai Tryz.prog 49 [.str s,iq l] [] (iq (l.map (h_ s))) []:=by
 refine Ep.aX (T:=aR Tryz.prog [(77,sj)]) 1 hD (aj (af GK ah)) aV (by decide) λQ hQ=>?_
 (conv=>arg 4;cbv);simp (maxSteps:=400000) only[↓ak,au,BEq.rfl,seval,hQ]
 refine aF (λm S=>∃i ver:Nat,i+m=l.length∧S=⟨dG 24 [(0,.str s),(1,iq l),(5,.bO 0 ver),(6,.int .i64 i)],[⟨41,1,((l.take i).map (h_ s)).map aJ,true,ver⟩]⟩) l.length ⟨0,1,by omega,?_⟩ ?_
 ·simp only[bN,keepR,Nat.reduceAdd,lJ,Nat.reduceBEq,List.map_nil]
  rfl
 rintro m S ⟨i,ver,him,rfl⟩
 have zi:(0≤(i:Int))=True:=eq_true (by omega)
 rcases Nat.lt_or_ge i l.length with h | h
 ·have hlt:((i:Int)<(l.length:Int))=True:=eq_true (by omega)
  have hgi:=List.getElem?_eq_getElem h
  have hp:=hr _ (List.getElem_mem h)
  generalize l[i]=p at hgi hp
  have htk:(l.take (i+1)).map (h_ s)=(l.take i).map (h_ s)++[h_ s p]:=by rw[List.take_add_one,hgi];simp
  have ht3:(l.take i).length=i:=by rw[List.length_take];omega
  simp (maxSteps:=400000) only[↓ak,au,BEq.rfl,seval,hQ,hlt,zi,hgi,↓sj]
  exact⟨hs,hp.1,hp.2,by rw[ht3];omega,by rw[ht3];omega,⟨by omega,by omega⟩,m-1,by omega,i+1,ver+1,by omega,by rw[htk,List.map_append,Int.natCast_add,Int.natCast_one];rfl⟩
 ·have hlt:((i:Int)<(l.length:Int))=False:=eq_false (by omega)
  have htk:l.take i=l:=List.take_of_length_le h
  simp (maxSteps:=400000) only[↓ak,au,BEq.rfl,seval,hQ,hlt,htk,ack]
def qU:dD:=λargs objs K=>match args with
 | [.str s,a1]=>dZ iq a1 (HK.mk:HK λl=>(s.length≤1000000000)∧(l.length≤1000000)∧(∀v∈l,Rt v∧v.length≤1000000)∧K (iq (l.map (h_ s))) objs 0)
 | _=>False
theorem Eu:aC Tryz.prog 49 (qU):=by
 intro args objs K h
 unfold qU at h
 split at h
 ·rename_i s a1
  obtain⟨l,rfl,h1,h2,h3,hk⟩:=h
  exact⟨_,_,_,.pure _ rfl (TH s l h1 h2 h3),hk⟩
 ·exact h.elim
end Lp
namespace Lp
open Go Go.Proofs
open List (all_eq_false all_eq_true getElem_mem map_nil)
open Nat (lt_or_ge reduceAdd)
structure jW (v:Vl):Prop where
 rt:Rt v
 len:v.length≤1000000
 nd:∀n∈v,n.s.length≤1000000∧n.name.length≤4611686018427387904
structure yX (t:aD):Prop where
 GL:yQ t
 ss:∀n∈t,n.s.length≤1000000000
theorem yX.part {n:dR}{r:aD}(h:yX (n::r)):∀p∈ax (n::r),yX p∧p.length≤r.length:=by
 intro p hp
 have h1:=h.GL.part p hp
 refine⟨⟨h1.1,?_⟩,h1.2⟩
 by_cases hk:n.kind=1
 ·simp only[ax,hk,if_true]at hp;cases hp
 simp only[ax,hk,if_false]at hp
 obtain⟨_,_,ps,h3,h4,_⟩:=h.GL.rt.parts
 rw[dN h3]at hp
 obtain⟨q,hq,rfl⟩:=List.mem_map.1 hp
 have hr:∀x∈q,x∈r:=λx hx=>by rw[←h4];exact List.mem_flatten.2 ⟨q,hq,hx⟩
 intro x hx
 cases q with
 | nil=>cases hx
 | cons y z=>
  rcases List.mem_cons.1 hx with rfl | hx
  ·exact h.ss y (List.mem_cons_of_mem _ (hr y (List.mem_cons_self ..)))
  ·exact h.ss x (List.mem_cons_of_mem _ (hr x (List.mem_cons_of_mem _ hx)))
theorem jW.part {v:Vl}(h:jW v):∀p∈aG v,jW p∧p.length<v.length:=by
 intro p hp
 have h1:=zb h.rt hp
 have hl:=h.len
 exact⟨⟨h1.1,by omega,WE h.rt (q:=λn=>n.s.length≤1000000∧n.name.length≤4611686018427387904) (λn h=>⟨h.1,by simp⟩) h.nd p hp⟩,h1.2⟩
theorem Ev{v w:Vl}{nm:List UInt8}(hr:Rt v)(h:rQ v nm=some w):w∈aG v:=by
 unfold rQ at h
 split at h
 ·rename_i hk
  rw[(IB hr hk).2.2.2]
  exact List.mem_map.2 ⟨_,EQ h,rfl⟩
 ·cases h
theorem jW.ok2 {v:Vl}(h:jW v):Ok2 v:=by
 refine⟨h.rt.one,h.len,λn hn hk=>?_⟩
 obtain⟨i,hi,rfl⟩:=List.mem_iff_getElem.1 hn
 have hp:=(h.rt.good i v[i] (v.drop (i+1)) (List.drop_eq_getElem_cons hi)).1
 simp only[bR,hk,Int.reduceEq,or_self,if_false,if_true,tN,Bool.and_eq_true,decide_eq_true_eq]at hp
 obtain⟨⟨⟨⟨⟨⟨_,h2⟩,h3⟩,h4⟩,h5⟩,_⟩,_⟩:=hp
 exact⟨by omega,h2,h4,h5⟩
def eO(f:Nat):dD:=λargs objs K=>match args with
 | [a0,a1]=>dZ ay a0 (HK.mk:HK λt=>dZ aJ a1 (HK.mk:HK λv=>(t.length≤f)∧(yX t)∧(jW v)∧K (.bool (inT t v)) objs 0))
 | _=>False
def lH(f:Nat):dD:=λargs objs K=>match args with
 | [a0,a1]=>dZ ay a0 (HK.mk:HK λt=>dZ iq a1 (HK.mk:HK λl=>(t.length≤f)∧(yX t)∧(l.length≤1000000)∧(∀v∈l,jW v)∧K (.bool (l.all (inT t))) objs 0))
 | _=>False
theorem WK(g:Vl→Bool)(o:Option (List UInt8))(x:Vl)(l:List Vl):pX g o (x::l)=(P6 g x && (match o with | none=>true | some a=>!(Op.bytesLess (Ki (kM x Es)) a || decide (Ki (kM x Es)=a))) && pX g (some (Ki (kM x Es))) l):=by cases o<;>rfl
theorem WL(g:Vl→Bool)(s:List UInt8)(o:Option Vl)(x:Vl)(l:List Vl):qm g s o (x::l)=(WB g s x && (match o with | none=>true | some a=>decide (LY a (h_ s ((aG x).headD []))<0)) && qm g s (some (h_ s ((aG x).headD []))) l):=by cases o<;>rfl
theorem zX:∀(p:List Stp) (v:Vl),jW v→(jR p v).2=0→jW (jR p v).1
 | [],_,h,_=>h
 | x::p,v,h,he=>by
  rw[jR]at he ⊢
  split
  ·rename_i h0
   rw[if_pos h0]at he
   exact zX p _ (h.part _ (TG h.rt h0)).1 he
  ·rename_i h0;rw[if_neg h0]at he;exact absurd he h0
theorem acy{s:List UInt8}{v:Vl}(h:jW v):(h_ s v).length≤1000000:=by
 by_cases he:(jR (cO s) v).2=0
 ·exact (zX _ _ h he).len
 ·have:h_ s v=[]:=Et _ _ he
  rw[this];exact Nat.zero_le _
theorem WM{v:Vl}{n:Nd}{r:Vl}(hr:Rt v)(hv:v=n::r):((aG v).length:Int)=n.many:=by
 subst hv
 obtain⟨h1,h2,ps,h3,h4,h5,h6,h7⟩:=hr.parts
 obtain⟨q1,q2⟩:=fq h3
 have h8:=bD _ _ _ h3
 simp only[aG,q1,List.length_map]
 omega
theorem Nw(p:List Stp)(t:aD):fD p (Y.ic t)=fD p t:=by
 cases t with
 | nil=>rfl
 | cons n r=>cases p<;>rfl
theorem Kk(nm:List UInt8):∀(o:Nat) (qs:List aD) (o':Nat) (q:aD),kS nm o qs=some (o',q)→∃j:Nat,qs[j]?=some q∧Y.nameOf q=nm
 | _,[],_,_,h=>by cases h
 | o,a::qs,o',q,h=>by
  rw[kS]at h
  split at h
  ·rename_i hn;cases h;exact⟨0,rfl,hn⟩
  ·obtain⟨j,h1,h2⟩:=Kk nm _ qs o' q h
   exact⟨j+1,by simpa using h1,h2⟩
theorem TI:∀(p:List Stp) (t:aD) (v:Vl),oC bA cO t→Rt v→inT t v=true→(fD p t).isSome=true→(jR p v).2=0
 | [],_,_,_,_,_,_=>rfl
 | s::p,[],_,ht,_,_,_=>absurd rfl ht.one.ne
 | s::p,x::r,v,ht,hv,hi,hl=>by
  rw[fD]at hl
  split at hl
  ·rename_i hk
   split at hl
   ·rename_i o q hf
    obtain⟨_,_,ps,h3,_⟩:=ht.parts
    rw[dN h3]at hf
    obtain⟨j,h1,h2⟩:=Kk _ _ _ _ _ hf
    have hN:bE (x::r)=ps.map Y.nameOf:=by simp only[bE,hk.1,if_true,dN h3]
    have hP:ax (x::r)=ps.map Y.ic:=by simp only[ax,hk.1,dN h3];rfl
    rw[yV ht]at hi
    simp only[hk.1,Int.reduceEq,if_false,if_true,Bool.and_eq_true]at hi
    have hz:=all_eq_true.1 hi.1.2 (s.name,Y.ic q) (List.mem_iff_getElem?.2 ⟨j,by rw[hN,hP,List.getElem?_zip_eq_some];simp[h1,h2]⟩)
    simp only at hz
    cases hf':rQ v s.name with
    | none=>rw[hf']at hz;cases hz
    | some w=>
     rw[hf']at hz
     have hk6:lC v=6:=by simpa using hi.1.1
     have hpr:jD v s=(w,0):=by simp[jD,hk.2,hk6,hf']
     rw[jR,hpr,if_pos rfl]
     have hm:=Ev hv hf'
     refine TI p (Y.ic q) w (ht.part _ (by rw[hP];exact List.mem_map.2 ⟨q,List.mem_of_getElem? h1,rfl⟩)).1 (zb hv hm).1 hz ?_
     rw[Nw]
     cases hq:fD p q with
     | none=>rw[hq]at hl;cases hl
     | some j=>rfl
   ·cases hl
  ·cases hl
section
variable {f:Nat}(hin:aC Tryz.prog 18 (eO f))
include hin
theorem WN(t:aD)(l:List Vl)(ht:t.length≤f)(hw:yX t)(hl:l.length≤1000000)(hv:∀v∈l,jW v):ai Tryz.prog 45 [ay t,iq l] [] (.bool (l.all (inT t))) []:=by
 refine FU.aX (T:=aR Tryz.prog [(18,eO f)]) 0 hD (aj (af hin ah)) aV (by decide) λQ hQ=>?_
 (conv=>arg 4;cbv);simp (maxSteps:=400000) only[↓ak,au,BEq.rfl,seval,hQ]
 refine aF (λm S=>∃i:Nat,i+m=l.length∧(∀(j:Nat) w,j<i→l[j]?=some w→inT t w=true)∧S=⟨dG 19 [(0,ay t),(1,iq l),(5,.int .i64 i)],[]⟩) l.length ⟨0,by omega,λj x h=>absurd h (Nat.not_lt_zero j),?_⟩ ?_
 ·simp only[bN,keepR,reduceAdd,lJ,Nat.reduceBEq,map_nil]
  rfl
 rintro m S ⟨i,him,hb,rfl⟩
 have zi:(0≤(i:Int))=True:=eq_true (by omega)
 rcases lt_or_ge i l.length with h | h
 ·have hlt:((i:Int)<(l.length:Int))=True:=eq_true (by omega)
  have hgi:=List.getElem?_eq_getElem h
  have hp:=hv _ (getElem_mem h)
  generalize l[i]=p at hgi hp
  cases hx:inT t p with
  | false=>
   have hr:l.all (inT t)=false:=by rw[all_eq_false];exact⟨p,List.mem_of_getElem? hgi,by simp[hx]⟩
   simp (maxSteps:=400000) only[↓ak,au,BEq.rfl,seval,hQ,hlt,zi,hgi,↓eO,hx,hr]
   exact⟨ht,hw,hp⟩
  | true=>
   simp (maxSteps:=400000) only[↓ak,au,BEq.rfl,seval,hQ,hlt,zi,hgi,↓eO,hx]
   refine⟨ht,hw,hp,⟨by omega,by omega⟩,m-1,by omega,i+1,by omega,λj y hj hy=>?_,rfl⟩
   rcases lt_or_ge j i with g | g
   ·exact hb j y g hy
   ·have:j=i:=by omega
    subst this
    rw[hgi]at hy;cases hy;exact hx
 ·have hlt:((i:Int)<(l.length:Int))=False:=eq_false (by omega)
  have hr:l.all (inT t)=true:=by
   rw[all_eq_true];intro x hx
   obtain⟨j,hj⟩:=List.mem_iff_getElem?.1 hx
   have:=(List.getElem?_eq_some_iff.1 hj).1
   exact hb j x (by omega) hj
  simp (maxSteps:=400000) only[↓ak,au,BEq.rfl,seval,hQ,hlt,hr]
theorem TJ:aC Tryz.prog 45 (lH f):=by
 have adX:aC Tryz.prog 45 (lH f):=by
  intro args objs K h
  unfold lH at h
  split at h
  ·rename_i a0 a1
   obtain⟨t,rfl,l,rfl,h1,h2,h3,h4,hk⟩:=h
   exact⟨_,_,_,.pure _ rfl (WN hin t l h1 h2 h3 h4),hk⟩
  ·exact h.elim
 exact adX
theorem L6(n:dR)(r:aD)(v:Vl)(ht:r.length≤f)(hw:yX (n::r))(hk:n.kind=2)(hv:jW v) :
  ai Tryz.prog 44 [ay (n::r),aJ v] [] (.bool (lG inT v (bE (n::r)) (ax (n::r)) && (n.n==1 || Ba v==(bE (n::r)).length))) []:=by
 refine Au.aX (T:=aR Tryz.prog [(75,wR),(43,d_),(72,dz),(18,eO f)]) 0 hD (aj (af LK (af A_ (af r_ (af hin ah))))) aV (by decide) λQ hQ=>?_
 have hN:=hw.GL.rt.names hk
 have hnl:=(mP.1 hN.1).1
 have hwl:=Tw hw.GL
 have hpt:=hw.part
 have ho:=hw.GL.rt.one
 have hl:=hw.GL.len
 have Io:=hv.rt
 have hvl:=hv.len
 have hvp:=hv.part
 have hg0:(n::r)[0]?=some n:=rfl
 obtain⟨n0,r0,hv0,_⟩:=iL Io.name Io.one.ne
 have hm0:v[0]?=some n0:=by rw[hv0];rfl
 have hmv:Ba v=n0.many:=by rw[hv0];rfl
 generalize hne:bE (n::r)=names at *
 generalize hte:ax (n::r)=ts at *
 generalize hT:n::r=T at *
 (conv=>arg 4;cbv);simp (maxSteps:=400000) only[↓ak,au,BEq.rfl,seval,hQ,↓wR,↓d_,hne,hte]
 refine⟨ho,by omega,ho,by omega,?_⟩
 refine aF (λm S=>∃i:Nat,i+m=names.length∧(∀(j:Nat) nm t,j<i→names[j]?=some nm→ts[j]?=some t→∃w,rQ v nm=some w∧inT t w=true)∧S=⟨dG 54 [(0,ay T),(1,aJ v),(5,jQ names),(6,dh ts),(7,.int .i64 i)],[]⟩) names.length ⟨0,by omega,λj _ _ h=>absurd h (Nat.not_lt_zero j),?_⟩ ?_
 ·simp only[bN,keepR,reduceAdd,lJ,Nat.reduceBEq,map_nil]
  rfl
 rintro m S ⟨i,him,hb,rfl⟩
 have zi:(0≤(i:Int))=True:=eq_true (by omega)
 rcases lt_or_ge i names.length with h | h
 ·have hlt:((i:Int)<(names.length:Int))=True:=eq_true (by omega)
  have hgi:=List.getElem?_eq_getElem h
  have h':i<ts.length:=by omega
  have hgt:=List.getElem?_eq_getElem h'
  have hpi:=hpt _ (getElem_mem h')
  generalize names[i]=nm at hgi
  generalize ts[i]=t at hgt hpi
  have hz:(nm,t)∈names.zip ts:=List.mem_iff_getElem?.2 ⟨i,by rw[List.getElem?_zip_eq_some];exact⟨hgi,hgt⟩⟩
  cases hf:rQ v nm with
  | none=>
   have h2:vg v nm=false:=by simp[vg,hf]
   have hr:lG inT v names ts=false:=by
    unfold lG;rw[all_eq_false];exact⟨_,hz,by simp[hf]⟩
   simp (maxSteps:=400000) only[↓ak,au,BEq.rfl,seval,hQ,hlt,zi,hgi,↓dz,eY,h2,hr]
   repeat' (first | omega | exact Io | exact rfl | refine⟨?_,?_⟩)
  | some w=>
   have h2:vg v nm=true:=by simp[vg,hf]
   have h3:kM v nm=w:=by simp[kM,hf]
   have hwv:=hvp w (Ev Io hf)
   cases hx:inT t w with
   | false=>
    have hr:lG inT v names ts=false:=by
     unfold lG;rw[all_eq_false];exact⟨_,hz,by simp[hf,hx]⟩
    simp (maxSteps:=400000) only[↓ak,au,BEq.rfl,seval,hQ,hlt,zi,hgi,hgt,↓dz,eY,h2,h3,↓eO,hx,hr]
    repeat' (first | omega | exact Io | exact hpi.1 | exact hwv.1 | exact rfl | refine⟨?_,?_⟩)
   | true=>
    simp (maxSteps:=400000) only[↓ak,au,BEq.rfl,seval,hQ,hlt,zi,hgi,hgt,↓dz,eY,h2,h3,↓eO,hx]
    refine⟨Io,hvl,by omega,hpi.1,hwv.1,⟨by omega,by omega⟩,m-1,by omega,i+1,by omega,λj a b hj ha hb'=>?_,rfl⟩
    rcases lt_or_ge j i with g | g
    ·exact hb j a b g ha hb'
    ·have:j=i:=by omega
     subst this
     rw[hgi]at ha;cases ha
     rw[hgt]at hb';cases hb'
     exact⟨w,hf,hx⟩
 ·have hlt:((i:Int)<(names.length:Int))=False:=eq_false (by omega)
  have hr:lG inT v names ts=true:=by
   unfold lG;rw[all_eq_true];intro x hx
   obtain⟨j,hj⟩:=List.mem_iff_getElem?.1 hx
   rw[List.getElem?_zip_eq_some]at hj
   have:=(List.getElem?_eq_some_iff.1 hj.1).1
   obtain⟨w,h1,h2⟩:=hb j x.1 x.2 (by omega) hj.1 hj.2
   rw[h1];exact h2
  rw[hr,hmv]at hQ
  by_cases e1:n.n=1
  ·have KR:=eq_true e1
   simp (maxSteps:=400000) only[↓ak,au,BEq.rfl,seval,hQ,hlt,hg0,KR]
   simp[e1]
  ·have KR:=eq_false e1
   simp (maxSteps:=400000) only[↓ak,au,BEq.rfl,seval,hQ,hlt,hg0,hm0,KR]
   show (decide (n.n=1) || decide (n0.many=names.length))=_
   rw[decide_eq_false e1];rfl
theorem Kl(t:aD)(l:List Vl)(ht:t.length≤f)(hw:yX t)(hl:l.length≤1000000)(hv:∀v∈l,jW v):ai Tryz.prog 46 [ay t,iq l] [] (.bool (pX (inT t) none l)) []:=by
 refine yU.aX (T:=aR Tryz.prog [(72,dz),(18,eO f)]) 0 hD (aj (af r_ (af hin ah))) aV (by decide) λQ hQ=>?_
 (conv=>arg 4;cbv);simp (maxSteps:=400000) only[↓ak,au,BEq.rfl,seval,hQ]
 refine aF (λm S=>∃(i:Nat) (last:List UInt8) (o:Option (List UInt8)),i+m=l.length∧(i=0→o=none)∧(0<i→o=some last)∧pX (inT t) none l=pX (inT t) o (l.drop i)∧S=⟨dG 78 [(0,ay t),(1,iq l),(5,.str last),(6,.int .i64 i)],[]⟩) l.length ⟨0,[],none,by omega,λ_=>rfl,λh=>absurd h (Nat.lt_irrefl 0),by rw[List.drop_zero],?_⟩ ?_
 ·simp only[bN,keepR,reduceAdd,lJ,Nat.reduceBEq,map_nil]
  rfl
 rintro m S ⟨i,last,o,him,ho0,ho1,hb,rfl⟩
 have zi:(0≤(i:Int))=True:=eq_true (by omega)
 rcases lt_or_ge i l.length with h | h
 rotate_left 1
 ·have hlt:((i:Int)<(l.length:Int))=False:=eq_false (by omega)
  rw[List.drop_eq_nil_of_le h]at hb
  have hr:pX (inT t) none l=true:=by rw[hb];cases o<;>rfl
  simp (maxSteps:=400000) only[↓ak,au,BEq.rfl,seval,hQ,hlt,hr]
 have hlt:((i:Int)<(l.length:Int))=True:=eq_true (by omega)
 have hgi:=List.getElem?_eq_getElem h
 have hp:=hv _ (getElem_mem h)
 rw[List.drop_eq_getElem_cons h]at hb
 generalize l[i]=x at hgi hp hb
 have Ny:=hp.rt
 have hxl:=hp.len
 have hxp:=hp.part
 obtain⟨n0,r0,hv0,_⟩:=iL Ny.name Ny.one.ne
 have hm0:x[0]?=some n0:=by rw[hv0];rfl
 have hmv:Ba x=n0.many:=by rw[hv0];rfl
 rw[WK]at hb
 cases hf:rQ x Es with
 | none=>
  have h2:vg x Es=false:=by simp[vg,hf]
  have hr:pX (inT t) none l=false:=by rw[hb];simp[P6,hf]
  unfold Es at h2
  simp (maxSteps:=400000) only[↓ak,au,BEq.rfl,seval,hQ,hlt,zi,hgi,↓dz,eY,h2,hr]
  repeat' (first | omega | exact Ny | refine⟨?_,?_⟩)
 | some k=>
  have h2:vg x Es=true:=by simp[vg,hf]
  have h3:kM x Es=k:=by simp[kM,hf]
  have hkv:=hxp k (Ev Ny hf)
  obtain⟨k0,kr,hk0,_⟩:=iL hkv.1.rt.name hkv.1.rt.one.ne
  have hk1:k[0]?=some k0:=by rw[hk0];rfl
  have hkk:lC k=k0.kind:=by rw[hk0];rfl
  have hkt:Ki k=k0.s:=by rw[hk0];rfl
  rw[h3,hkt]at hb
  cases hg:rQ x Cn with
  | none=>
   have g2:vg x Cn=false:=by simp[vg,hg]
   have hr:pX (inT t) none l=false:=by rw[hb];simp[P6,hf,hg]
   unfold Es at h2 h3
   unfold Cn at g2
   simp (maxSteps:=400000) only[↓ak,au,BEq.rfl,seval,hQ,hlt,zi,hgi,↓dz,eY,h2,h3,g2,hr]
   repeat' (first | omega | exact Ny | refine⟨?_,?_⟩)
  | some w=>
   have g2:vg x Cn=true:=by simp[vg,hg]
   have g3:kM x Cn=w:=by simp[kM,hg]
   have hwv:=hxp w (Ev Ny hg)
   unfold Es at h2 h3
   unfold Cn at g2 g3
   by_cases e1:n0.many=2
   rotate_left 1
   ·have KR:=eq_false e1
    have hr:pX (inT t) none l=false:=by rw[hb];simp[P6,hf,hg,hmv,e1]
    simp (maxSteps:=400000) only[↓ak,au,BEq.rfl,seval,hQ,hlt,zi,hgi,↓dz,eY,h2,h3,g2,g3,hm0,KR,hr]
    repeat' (first | omega | exact Ny | refine⟨?_,?_⟩)
   have KR:=eq_true e1
   by_cases e2:k0.kind=4
   rotate_left 1
   ·have e2':=eq_false e2
    have hr:pX (inT t) none l=false:=by rw[hb];simp[P6,hf,hg,hmv,e1,hkk,e2]
    simp (maxSteps:=400000) only[↓ak,au,BEq.rfl,seval,hQ,hlt,zi,hgi,↓dz,eY,h2,h3,g2,g3,hm0,hk1,KR,e2',hr]
    repeat' (first | omega | exact Ny | refine⟨?_,?_⟩)
   have e2':=eq_true e2
   cases e3:inT t w with
   | false=>
    have hr:pX (inT t) none l=false:=by rw[hb];simp[P6,hf,hg,e3]
    simp (maxSteps:=400000) only[↓ak,au,BEq.rfl,seval,hQ,hlt,zi,hgi,↓dz,eY,h2,h3,g2,g3,hm0,hk1,KR,e2',↓eO,e3,hr]
    repeat' (first | omega | exact Ny | exact hw | exact hwv.1 | refine⟨?_,?_⟩)
   | true=>
    have he:P6 (inT t) x=true:=by simp[P6,hf,hg,hmv,e1,hkk,e2,e3]
    rw[he]at hb
    rcases Nat.eq_zero_or_pos i with h0 | h0
    ·have hi0:((0:Int)<(i:Int))=False:=eq_false (by omega)
     rw[ho0 h0]at hb
     simp (maxSteps:=400000) only[↓ak,au,BEq.rfl,seval,hQ,hlt,zi,hgi,↓dz,eY,h2,h3,g2,g3,hm0,hk1,KR,e2',↓eO,e3,hi0]
     refine⟨Ny,hxl,Ny,hxl,ht,hw,hwv.1,⟨by omega,by omega⟩,m-1,by omega,i+1,k0.s,some k0.s,by omega,λh=>by omega,λ_=>rfl,hb,rfl⟩
    ·have hi0:((0:Int)<(i:Int))=True:=eq_true (by omega)
     rw[ho1 h0]at hb
     simp only at hb
     cases e4:(Op.bytesLess k0.s last || decide (k0.s=last)) with
     | true=>
      have hr:pX (inT t) none l=false:=by rw[hb,e4];rfl
      simp (maxSteps:=400000) only[↓ak,au,BEq.rfl,seval,hQ,hlt,zi,hgi,↓dz,eY,h2,h3,g2,g3,hm0,hk1,KR,e2',↓eO,e3,hi0,e4,hr]
      repeat' (first | omega | exact Ny | exact hw | exact hwv.1 | refine⟨?_,?_⟩)
     | false=>
      rw[e4]at hb
      simp (maxSteps:=400000) only[↓ak,au,BEq.rfl,seval,hQ,hlt,zi,hgi,↓dz,eY,h2,h3,g2,g3,hm0,hk1,KR,e2',↓eO,e3,hi0,e4]
      refine⟨Ny,hxl,Ny,hxl,ht,hw,hwv.1,⟨by omega,by omega⟩,m-1,by omega,i+1,k0.s,some k0.s,by omega,λh=>by omega,λ_=>rfl,hb,rfl⟩
theorem L8(t:aD)(s:List UInt8)(l:List Vl)(ht:t.length≤f)(hw:yX t)(hs:s.length≤1000000000)(hl:l.length≤1000000)(hv:∀v∈l,jW v)(hkey:∀w,jW w→inT t w=true→(jR (cO s) w).2=0) :
  ai Tryz.prog 47 [ay t,.str s,iq l] [] (.bool (qm (inT t) s none l)) []:=by
 refine Av.aX (T:=aR Tryz.prog [(42,bB),(45,lH f),(49,qU),(76,Dv),(77,sj),(51,o7 1000000)]) 0 hD (aj (af lq (af (TJ hin) (af Eu (af Vb (af GK (af (BR 1000000) ah))))))) aV (by decide) λQ hQ=>?_
 (conv=>arg 4;cbv);simp (maxSteps:=400000) only[↓ak,au,BEq.rfl,seval,hQ]
 refine aF (λm S=>∃(i:Nat) (o:Option Vl),i+m=l.length∧(i=0→o=none)∧(0<i→∃x y,l[i-1]?=some x∧(aG x)[0]?=some y∧o=some (h_ s y)∧inT t y=true)∧qm (inT t) s none l=qm (inT t) s o (l.drop i)∧S=⟨dG 85 [(0,ay t),(1,.str s),(2,iq l),(7,.int .i64 i)],[]⟩) l.length ⟨0,none,by omega,λ_=>rfl,λh=>absurd h (Nat.lt_irrefl 0),by rw[List.drop_zero],?_⟩ ?_
 ·simp only[bN,keepR,reduceAdd,lJ,Nat.reduceBEq,map_nil]
  rfl
 rintro m S ⟨i,o,him,ho0,ho1,hb,rfl⟩
 have zi:(0≤(i:Int))=True:=eq_true (by omega)
 rcases lt_or_ge i l.length with h | h
 rotate_left 1
 ·have hlt:((i:Int)<(l.length:Int))=False:=eq_false (by omega)
  rw[List.drop_eq_nil_of_le h]at hb
  have hr:qm (inT t) s none l=true:=by rw[hb];cases o<;>rfl
  simp (maxSteps:=400000) only[↓ak,au,BEq.rfl,seval,hQ,hlt,hr]
 have hlt:((i:Int)<(l.length:Int))=True:=eq_true (by omega)
 have hgi:=List.getElem?_eq_getElem h
 have hp:=hv _ (getElem_mem h)
 rw[List.drop_eq_getElem_cons h,WL]at hb
 generalize l[i]=x at hgi hp hb
 have Ny:=hp.rt
 have hxl:=hp.len
 have hxp:=hp.part
 have hxo:=Ny.one
 obtain⟨n0,r0,hv0,_⟩:=iL Ny.name Ny.one.ne
 have hm0:x[0]?=some n0:=by rw[hv0];rfl
 have hmv:Ba x=n0.many:=by rw[hv0];rfl
 have hkd:lC x=n0.kind:=by rw[hv0];rfl
 have hmp:=WM Ny hv0
 have hpl:=(qF Ny).1
 by_cases e1:n0.kind=5
 rotate_left 1
 ·have KR:=eq_false e1
  have hr:qm (inT t) s none l=false:=by rw[hb];simp[WB,hkd,e1]
  simp (maxSteps:=400000) only[↓ak,au,BEq.rfl,seval,hQ,hlt,zi,hgi,hm0,KR,hr]
  repeat' (first | omega | exact rfl | refine⟨?_,?_⟩)
 have KR:=eq_true e1
 by_cases e2:n0.many=0
 ·have e2':=eq_true e2
  have hr:qm (inT t) s none l=false:=by rw[hb];simp[WB,hmv,e2]
  simp (maxSteps:=400000) only[↓ak,au,BEq.rfl,seval,hQ,hlt,zi,hgi,hm0,KR,e2',hr]
  repeat' (first | omega | exact rfl | refine⟨?_,?_⟩)
 have e2':=eq_false e2
 cases e3:(aG x).all (inT t) with
 | false=>
  have hr:qm (inT t) s none l=false:=by rw[hb];simp[WB,e3]
  simp (maxSteps:=400000) only[↓ak,au,BEq.rfl,seval,hQ,hlt,zi,hgi,hm0,KR,e2',↓bB,↓lH,e3,hr]
  repeat' (first | omega | exact hxo | exact hw | exact (λv hv=>(hxp v hv).1) | exact rfl | refine⟨?_,?_⟩)
 | true=>
 have hin':=all_eq_true.1 e3
 obtain⟨y,hy⟩:∃y,(aG x)[0]?=some y:=⟨(aG x)[0]'(by omega),List.getElem?_eq_getElem _⟩
 have hym:=List.mem_of_getElem? hy
 have hyv:=(hxp y hym).1
 have hyi:=hin' y hym
 have hyk:=zX _ _ hyv (hkey y hyv hyi)
 have hhd:(aG x).headD []=y:=by
  cases hq:aG x with
  | nil=>rw[hq]at hy;cases hy
  | cons a b=>rw[hq]at hy;cases hy;rfl
 have hgb:WB (inT t) s x=(aG x).all λz=>h_ s z==h_ s y:=by
  unfold WB
  rw[hhd,hkd,hmv,e1,e3]
  simp[e2]
 rw[hhd,hgb]at hb
 have hkl:∀z∈aG x,(h_ s z).length≤1000000:=λz hz=>acy (hxp z hz).1
 have hpv:∀v∈aG x,Rt v∧v.length≤1000000:=λv hv=>⟨(hxp v hv).1.rt,(hxp v hv).1.len⟩
 have hpv2:∀v∈aG x,jW v:=λv hv=>(hxp v hv).1
 generalize hP:aG x=P at *
 have hk0:(P.map (h_ s))[0]?=some (h_ s y):=by rw[List.getElem?_map,hy];rfl
 have hK:P.map (h_ s)=P.map (h_ s):=rfl
 generalize hKe:P.map (h_ s)=K at *
 have hKl:K.length=P.length:=by rw[←hKe,List.length_map]
 simp (maxSteps:=400000) only[↓ak,au,BEq.rfl,seval,hQ,hlt,zi,hgi,hm0,KR,e2',↓bB,hP,↓lH,e3,↓qU,hKe]
 refine⟨hxo,by omega,ht,hw,by omega,hpv2,hxo,by omega,hs,by omega,hpv,?_⟩
 refine aF (λm' S=>∃k:Nat,k+m'=K.length∧(∀(j:Nat) a,j<k→K[j]?=some a→a=h_ s y)∧S=⟨dG 85 [(0,ay t),(1,.str s),(2,iq l),(7,.int .i64 i),(8,iq K),(9,.int .i64 k)],[]⟩) K.length ⟨0,by omega,λj x h=>absurd h (Nat.not_lt_zero j),?_⟩ ?_
 ·simp only[bN,keepR,reduceAdd,lJ,Nat.reduceBEq,map_nil]
  rfl
 rintro m' S ⟨k,hkm,hkb,rfl⟩
 have zk:(0≤(k:Int))=True:=eq_true (by omega)
 rcases lt_or_ge k K.length with g | g
 ·have hlk:((k:Int)<(K.length:Int))=True:=eq_true (by omega)
  have OE:=List.getElem?_eq_getElem g
  have hml:(K[k]).length≤1000000:=by
   have:K[k]∈P.map (h_ s):=by rw[hKe];exact getElem_mem g
   obtain⟨z,hz,he⟩:=List.mem_map.1 this
   rw[←he];exact hkl z hz
  generalize K[k]=a at OE hml
  by_cases e4:a=h_ s y
  ·have e4':decide (a=h_ s y)=true:=decide_eq_true e4
   simp (maxSteps:=400000) only[↓ak,au,BEq.rfl,seval,hQ,hlk,zk,OE,hk0,↓Dv,e4']
   refine⟨hml,hyk.len,⟨by omega,by omega⟩,m'-1,by omega,k+1,by omega,λj b hj hb'=>?_,rfl⟩
   rcases lt_or_ge j k with g' | g'
   ·exact hkb j b g' hb'
   ·have:j=k:=by omega
    subst this
    rw[OE]at hb';cases hb';exact e4
  ·have e4':decide (a=h_ s y)=false:=decide_eq_false e4
   have hr:qm (inT t) s none l=false:=by
    have:(P.all λz=>h_ s z==h_ s y)=false:=by
     rw[all_eq_false]
     have:a∈P.map (h_ s):=by rw[hKe];exact List.mem_of_getElem? OE
     obtain⟨z,hz,he⟩:=List.mem_map.1 this
     exact⟨z,hz,by rw[he];simpa using e4⟩
    rw[hb,this];rfl
   simp (maxSteps:=400000) only[↓ak,au,BEq.rfl,seval,hQ,hlk,zk,OE,hk0,↓Dv,e4',hr]
   repeat' (first | omega | exact hml | exact hyk.len | exact rfl | refine⟨?_,?_⟩)
 ·have hlk:((k:Int)<(K.length:Int))=False:=eq_false (by omega)
  have hall:(P.all λz=>h_ s z==h_ s y)=true:=by
   rw[all_eq_true]
   intro z hz
   have:h_ s z∈K:=by rw[←hKe];exact List.mem_map.2 ⟨z,hz,rfl⟩
   obtain⟨j,hj⟩:=List.mem_iff_getElem?.1 this
   have hjl:=(List.getElem?_eq_some_iff.1 hj).1
   rw[hkb j _ (by omega) hj];simp
  rw[hall,Bool.true_and]at hb
  rcases Nat.eq_zero_or_pos i with h0 | h0
  ·have hi0:((0:Int)<(i:Int))=False:=eq_false (by omega)
   rw[ho0 h0]at hb
   simp (maxSteps:=400000) only[↓ak,au,BEq.rfl,seval,hQ,hlk,hi0]
   exact⟨⟨by omega,by omega⟩,m-1,by omega,i+1,some (h_ s y),by omega,λh=>by omega,λ_=>⟨x,y,by rw[Nat.add_sub_cancel];exact hgi,by rw[hP];exact hy,rfl,hyi⟩,hb,rfl⟩
  ·have hi0:((0:Int)<(i:Int))=True:=eq_true (by omega)
   obtain⟨xp,yp,q1,q2,q3,q4⟩:=ho1 h0
   rw[q3]at hb
   simp only at hb
   have t1:((i:Int)-1).toNat=i-1:=by omega
   have z1:(0≤(i:Int)-1)=True:=eq_true (by omega)
   have r1:(-9223372036854775808≤(i:Int)-1∧(i:Int)-1≤9223372036854775807)=True:=eq_true ⟨by omega,by omega⟩
   have xv:=hv xp (List.mem_of_getElem? q1)
   have yv:=(xv.part yp (List.mem_of_getElem? q2)).1
   have yk:=zX _ _ yv (hkey yp yv q4)
   have xvo:=xv.rt.one
   have xvl:=xv.len
   have yvr:=yv.rt
   have yvl:=yv.len
   by_cases e5:0≤iH jM 1000000 (h_ s yp) (h_ s y)
   ·have e5':=eq_true e5
    have hr:qm (inT t) s none l=false:=by
     have:decide (LY (h_ s yp) (h_ s y)<0)=false:=decide_eq_false (by unfold LY;omega)
     rw[hb,this];rfl
    simp (maxSteps:=400000) only[↓ak,au,BEq.rfl,seval,hQ,hlk,hi0,t1,z1,r1,q1,q2,↓bB,↓sj,hk0,↓o7,e5',hr]
    repeat' (first | omega | exact xvo | exact yvr | exact yk.ok2 | exact hyk.ok2 | exact yk.len | exact rfl | refine⟨?_,?_⟩)
   ·have e5':=eq_false e5
    have:decide (LY (h_ s yp) (h_ s y)<0)=true:=decide_eq_true (by unfold LY;omega)
    rw[this,Bool.true_and]at hb
    simp (maxSteps:=400000) only[↓ak,au,BEq.rfl,seval,hQ,hlk,hi0,t1,z1,r1,q1,q2,↓bB,↓sj,hk0,↓o7,e5']
    exact⟨xvo,xvl,hs,yvr,yvl,yk.len,yk.ok2,hyk.ok2,⟨by omega,by omega⟩,m-1,by omega,i+1,some (h_ s y),by omega,λh=>by omega,λ_=>⟨x,y,by rw[Nat.add_sub_cancel];exact hgi,by rw[hP];exact hy,rfl,hyi⟩,hb,rfl⟩
end
end Lp
namespace Lp
open Go Go.Proofs
open Int (reduceEq)
def adY(t:aD)(v:Vl):Bool:=match t with
 | n::r=>lG inT v (bE (n::r)) (ax (n::r)) && (n.n==1 || Ba v==(bE (n::r)).length)
 | []=>false
def yY(f:Nat):dD:=λargs objs K=>match args with
 | [a0,a1]=>dZ ay a0 (HK.mk:HK λt=>dZ aJ a1 (HK.mk:HK λv=>(t.length≤f+1)∧(yX t)∧(Y.kindOf t=2)∧(jW v)∧K (.bool (adY t v)) objs 0))
 | _=>False
def vG(f:Nat):dD:=λargs objs K=>match args with
 | [a0,a1]=>dZ ay a0 (HK.mk:HK λt=>dZ iq a1 (HK.mk:HK λl=>(t.length≤f)∧(yX t)∧(l.length≤1000000)∧(∀v∈l,jW v)∧K (.bool (pX (inT t) none l)) objs 0))
 | _=>False
def vH(f:Nat):dD:=λargs objs K=>match args with
 | [a0,.str s,a2]=>dZ ay a0 (HK.mk:HK λt=>dZ iq a2 (HK.mk:HK λl=>(t.length≤f)∧(yX t)∧(s.length≤1000000000)∧(l.length≤1000000)∧(∀v∈l,jW v)∧(∀w,jW w→inT t w=true→(jR (cO s) w).2=0)∧K (.bool (qm (inT t) s none l)) objs 0))
 | _=>False
theorem oC.key {n:dR}{r p:aD}(h:oC bA cO (n::r))(hk:n.kind=7∨n.kind=8)(hp:ax (n::r)=[p]):(fD (cO n.s) p).isSome=true:=by
 obtain⟨_,_,ps,h3,_,_,h6,_⟩:=h.parts
 have e:ax (n::r)=ps.map Y.ic:=by
  have:n.kind≠1:=by omega
  simp only[ax,this,if_false,dN h3]
 rw[e]at hp
 match ps,hp with
 | [q],hp=>
  simp only[List.map_cons,List.map_nil,List.cons.injEq,and_true]at hp
  subst hp
  rw[Nw]
  simp only[xg,hk,if_true]at h6
  unfold fo at h6
  cases hl:fD (cO n.s) q with
  | none=>rw[hl]at h6;cases h6
  | some j=>rfl
theorem ahk{f:Nat}(hin:aC Tryz.prog 18 (eO f)):∀(t:aD) (v:Vl),t.length≤f+1→yX t→Y.kindOf t=2→jW v→ai Tryz.prog 44 [ay t,aJ v] [] (.bool (adY t v)) []
 | [],_,_,h2,_,_=>absurd rfl h2.GL.rt.one.ne
 | n::r,v,h1,h2,h3,h4=>L6 hin n r v (by simp only[List.length_cons]at h1;omega) h2 h3 h4
theorem aac{f:Nat}(hin:aC Tryz.prog 18 (eO f))(n:dR)(r:aD)(v:Vl)(ht:r.length≤f)(hw:yX (n::r))(hv:jW v):ai Tryz.prog 18 [ay (n::r),aJ v] [] (.bool (inT (n::r) v)) []:=by
 have oG:aC Tryz.prog 44 (yY f):=by
  have adZ:aC Tryz.prog 44 (yY f):=by
   intro args objs K h
   unfold yY at h
   split at h
   ·rename_i a0 a1
    obtain⟨t,rfl,v,rfl,h1,h2,h3,h4,hk⟩:=h
    exact⟨_,_,_,.pure _ rfl (ahk hin t v h1 h2 h3 h4),hk⟩
   ·exact h.elim
  exact adZ
 have ahl:aC Tryz.prog 46 (vG f):=by
  have acz:aC Tryz.prog 46 (vG f):=by
   intro args objs K h
   unfold vG at h
   split at h
   ·rename_i a0 a1
    obtain⟨t,rfl,l,rfl,h1,h2,h3,h4,hk⟩:=h
    exact⟨_,_,_,.pure _ rfl (Kl hin t l h1 h2 h3 h4),hk⟩
   ·exact h.elim
  exact acz
 have ahm:aC Tryz.prog 47 (vH f):=by
  have acA:aC Tryz.prog 47 (vH f):=by
   intro args objs K h
   unfold vH at h
   split at h
   ·rename_i a0 s a2
    obtain⟨t,rfl,l,rfl,h1,h2,h3,h4,h5,h6,hk⟩:=h
    exact⟨_,_,_,.pure _ rfl (L8 hin t s l h1 h2 h3 h4 h5 h6),hk⟩
   ·exact h.elim
  exact acA
 refine Hy.aX (T:=aR Tryz.prog [(41,wK),(40,rY),(42,bB),(43,d_),(44,yY f),(45,lH f),(46,vG f),(47,vH f),(49,qU),(48,tH 1000000),(18,eO f)]) 0 hD (aj (af LF (af Gz (af lq (af A_ (af oG (af (TJ hin) (af ahl (af ahm (af Eu (af (Kh 1000000) (af hin ah)))))))))))) aV (by decide) λQ hQ=>?_
 have hE:=yV hw.GL.rt v
 have hA:=hw.GL.atoms
 have hpt:=hw.part
 have hhd:=hw.GL.rt.head
 have hkey:∀p,n.kind=7∨n.kind=8→ax (n::r)=[p]→(fD (cO n.s) p).isSome=true:=λp a b=>hw.GL.rt.key a b
 have hwl:=Tw hw.GL
 have ho:=hw.GL.rt.one
 have hl:=hw.GL.len
 have hss:=hw.ss n (List.mem_cons_self ..)
 have hg0:(n::r)[0]?=some n:=rfl
 have hOb:adY (n::r) v=(lG inT v (bE (n::r)) (ax (n::r)) && (n.n==1 || Ba v==(bE (n::r)).length)):=rfl
 have hkd:Y.kindOf (n::r)=n.kind:=rfl
 have hpl:=(hw.GL.rt.parts).1
 have hTl:(n::r).length=r.length+1:=rfl
 generalize hts:ax (n::r)=ts at *
 generalize hT:n::r=T at *
 have Io:=hv.rt
 have hvl:=hv.len
 have P9:=Io.one
 have hvp:∀w∈aG v,jW w:=λw hx=>(hv.part w hx).1
 have aiq:=(qF Io).1
 obtain⟨n0,r0,hv0,_⟩:=iL Io.name Io.one.ne
 have hm0:v[0]?=some n0:=by rw[hv0];rfl
 have hmh:v.headD aQ=n0:=by rw[hv0];rfl
 have hmn:=hv.nd n0 (by rw[hv0];exact List.mem_cons_self ..)
 have hkv:lC v=n0.kind:=by rw[hv0];rfl
 have fz:eZ 1 0 [⟨51,11,[aP n],true,1⟩] (.bP 0 1 0 0)=.addr (aP n):=rfl
 (conv=>arg 4;cbv);simp (maxSteps:=400000) only[↓ak,au,BEq.rfl,seval,hQ,hg0,tC,iy,iJ,vw,dm,eG]
 refine aN _ (Weak.freeze 1 0 (Nat.zero_le _) _) ?_
 by_cases k0:n.kind=0
 ·have hr:inT T v=true:=by rw[hE];simp[k0]
  simp (maxSteps:=400000) only[↓ak,au,BEq.rfl,seval,hQ,fz,k0,hr]
 have OL:=eq_false k0
 by_cases k1:n.kind=1
 ·have hr:inT T v=(v.length==1 && bV n.n (bI T) n0):=by rw[hE,hmh];simp[k1]
  by_cases hl1:v.length=1
  ·have e1:((v.length:Int)=1)=True:=eq_true (by omega)
   have hr':inT T v=bV n.n (bI T) n0:=by rw[hr,hl1];rfl
   simp (maxSteps:=400000) only[↓ak,au,BEq.rfl,seval,hQ,fz,OL,k1,reduceEq,e1,hm0,↓wK,↓rY,hr']
   obtain⟨a1,a2,a3,a4⟩:=hA k1
   repeat' (first | omega | exact a3 | exact ho | exact rfl | exact hmn.2 | exact (show qE n0 from ⟨by omega,hmn.2⟩) | refine⟨?_,?_⟩)
  ·have e1:((v.length:Int)=1)=False:=eq_false (by omega)
   have hr':inT T v=false:=by rw[hr];simp[hl1]
   simp (maxSteps:=400000) only[↓ak,au,BEq.rfl,seval,hQ,fz,OL,k1,reduceEq,e1,hr']
 have n1':=eq_false k1
 by_cases k2:n.kind=2
 ·by_cases j:n0.kind=6
  ·have hr:inT T v=adY T v:=by rw[hE,hOb,hkv];simp[k2,j]
   simp (maxSteps:=400000) only[↓ak,au,BEq.rfl,seval,hQ,fz,OL,n1',k2,reduceEq,hm0,j,↓bB,↓d_,↓yY,hr]
   repeat' (first | omega | exact ho | exact P9 | exact hw | exact hv | exact rfl | exact (hkd.trans k2) | exact (λh=>h) | refine⟨?_,?_⟩)
  ·have j':=eq_false j
   have hr:inT T v=false:=by rw[hE,hkv];simp[k2,j]
   simp (maxSteps:=400000) only[↓ak,au,BEq.rfl,seval,hQ,fz,OL,n1',k2,reduceEq,hm0,j',↓bB,↓d_,hr]
   repeat' (first | omega | exact ho | exact P9 | exact rfl | refine⟨?_,?_⟩)
 have n2':=eq_false k2
 by_cases k3:n.kind=3
 ·obtain⟨p,q1,q2,q3⟩:=hhd (by omega)
  have qp:=(hpt p (by rw[q1];exact List.mem_cons_self ..)).1
  have g0:([p]:List aD)[0]?=some p:=rfl
  by_cases j:n0.kind=6
  ·have hr:inT T v=(aG v).all (inT p):=by rw[hE,hkv,q1];simp[k3,j]
   rw[q1]at hts hwl
   simp (maxSteps:=400000) only[↓ak,au,BEq.rfl,seval,hQ,fz,OL,n1',n2',k3,reduceEq,hm0,j,↓bB,↓d_,hts,q1,g0,↓lH,hr]
   repeat' (first | omega | exact ho | exact P9 | exact qp | exact rfl | exact hvp | refine⟨?_,?_⟩)
  ·have j':=eq_false j
   have hr:inT T v=false:=by rw[hE,hkv];simp[k3,j]
   simp (maxSteps:=400000) only[↓ak,au,BEq.rfl,seval,hQ,fz,OL,n1',n2',k3,reduceEq,hm0,j',↓bB,↓d_,hr]
   repeat' (first | omega | exact ho | exact P9 | exact rfl | refine⟨?_,?_⟩)
 have n3':=eq_false k3
 by_cases j:n0.kind=5
 rotate_left 1
 ·have j':=eq_false j
  have hr:inT T v=false:=by rw[hE,hkv];simp[k0,k1,k2,k3,j]
  simp (maxSteps:=400000) only[↓ak,au,BEq.rfl,seval,hQ,fz,OL,n1',n2',n3',reduceEq,hm0,j',↓bB,↓d_,hr]
  repeat' (first | omega | exact ho | exact P9 | exact rfl | refine⟨?_,?_⟩)
 by_cases k4:n.kind=4
 ·have hr:inT T v=(Er inT ts (aG v) && (aG v).length==ts.length):=by rw[hE,hkv];simp[k4,j]
  simp (maxSteps:=400000) only[↓ak,au,BEq.rfl,seval,hQ,fz,OL,n1',n2',n3',k4,reduceEq,hm0,j,↓bB,↓d_,hts]
  refine⟨P9,by omega,ho,by omega,?_⟩
  generalize hPe:aG v=P at *
  refine aF (λm S=>∃i:Nat,i+m=P.length∧(∀(j:Nat) t w,j<i→ts[j]?=some t→P[j]?=some w→inT t w=true)∧S=⟨dG 141 [(6,iq P),(7,dh ts),(8,.int .i64 i)],[]⟩) P.length ⟨0,by omega,λj _ _ h=>absurd h (Nat.not_lt_zero j),?_⟩ ?_
  ·simp only[bN,keepR,Nat.reduceAdd,lJ,Nat.reduceBEq,List.map_nil]
   rfl
  rintro m S ⟨i,him,hb,rfl⟩
  have zi:(0≤(i:Int))=True:=eq_true (by omega)
  have X3:inT T v=(Er inT ts P && decide ((P.length:Int)=(ts.length:Int))):=by
   rw[hr];congr 1
   show decide (P.length=ts.length)=_
   rw[Bool.eq_iff_iff];simp only[decide_eq_true_eq];omega
  have done:¬ (i<P.length∧i<ts.length)→Er inT ts P=true:=λhx=>by
   unfold Er;rw[List.all_eq_true];intro x hx'
   obtain⟨k,hk⟩:=List.mem_iff_getElem?.1 hx'
   rw[List.getElem?_zip_eq_some]at hk
   have a1:=(List.getElem?_eq_some_iff.1 hk.1).1
   have a2:=(List.getElem?_eq_some_iff.1 hk.2).1
   exact hb k x.1 x.2 (by omega) hk.1 hk.2
  rcases Nat.lt_or_ge i P.length with h | h
  rotate_left 1
  ·have hlt:((i:Int)<(P.length:Int))=False:=eq_false (by omega)
   rw[done (by omega),Bool.true_and]at X3
   simp (maxSteps:=400000) only[↓ak,au,BEq.rfl,seval,hQ,hlt,X3]
  have hlt:((i:Int)<(P.length:Int))=True:=eq_true (by omega)
  rcases Nat.lt_or_ge i ts.length with h' | h'
  rotate_left 1
  ·have hlt2:((i:Int)<(ts.length:Int))=False:=eq_false (by omega)
   rw[done (by omega),Bool.true_and]at X3
   simp (maxSteps:=400000) only[↓ak,au,BEq.rfl,seval,hQ,hlt,hlt2,X3]
  have hlt2:((i:Int)<(ts.length:Int))=True:=eq_true (by omega)
  have hgi:=List.getElem?_eq_getElem h
  have hgt:=List.getElem?_eq_getElem h'
  have hwi:=hvp _ (List.getElem_mem h)
  have hpi:=hpt _ (List.getElem_mem h')
  generalize P[i]=w at hgi hwi
  generalize ts[i]=t at hgt hpi
  cases hx:inT t w with
  | false=>
   have hr':inT T v=false:=by
    have:Er inT ts P=false:=by
     unfold Er;rw[List.all_eq_false]
     exact⟨(t,w),List.mem_iff_getElem?.2 ⟨i,by rw[List.getElem?_zip_eq_some];exact⟨hgt,hgi⟩⟩,by simp[hx]⟩
    rw[hr,this];rfl
   simp (maxSteps:=400000) only[↓ak,au,BEq.rfl,seval,hQ,hlt,hlt2,zi,hgi,hgt,↓eO,hx,hr']
   repeat' (first | omega | exact hpi.1 | exact hwi | exact rfl | refine⟨?_,?_⟩)
  | true=>
   simp (maxSteps:=400000) only[↓ak,au,BEq.rfl,seval,hQ,hlt,hlt2,zi,hgi,hgt,↓eO,hx]
   refine⟨by omega,hpi.1,hwi,⟨by omega,by omega⟩,m-1,by omega,i+1,by omega,λj a b hj ha hb'=>?_,rfl⟩
   rcases Nat.lt_or_ge j i with g | g
   ·exact hb j a b g ha hb'
   ·have:j=i:=by omega
    subst this
    rw[hgt]at ha;cases ha
    rw[hgi]at hb';cases hb';exact hx
 have n4':=eq_false k4
 have hk5:n.kind=5∨n.kind=6∨n.kind=7∨n.kind=8:=by
  have h9:=hw.GL.rt.kind
  rw[hkd]at h9
  by_cases h0:n.kind=5∨n.kind=6∨n.kind=7∨n.kind=8
  ·exact h0
  ·exfalso
   simp only[not_or]at h0
   simp[bQ,h0,k0,k1,k2,k3,k4,h9]at hpl
 obtain⟨p,q1,q2,q3⟩:=hhd (by omega)
 have qp:=(hpt p (by rw[q1];exact List.mem_cons_self ..)).1
 have g0:([p]:List aD)[0]?=some p:=rfl
 have hlead:n.kind=7∨n.kind=8→∀w,jW w→inT p w=true→(jR (cO n.s) w).2=0:=λa w hw' hi=>TI _ _ _ q2 hw'.rt hi (hkey p a q1)
 rw[q1]at hts hwl
 by_cases k6:n.kind=6
 ·have hr:inT T v=pX (inT p) none (aG v):=by rw[hE,hkv,q1];simp[k6,j]
  simp (maxSteps:=400000) only[↓ak,au,BEq.rfl,seval,hQ,fz,OL,n1',n2',n3',n4',k6,reduceEq,hm0,j,↓bB,↓d_,hts,q1,g0,↓vG,hr]
  repeat' (first | omega | exact ho | exact P9 | exact qp | exact rfl | exact hvp | refine⟨?_,?_⟩)
 have n6':=eq_false k6
 by_cases k8:n.kind=8
 ·have hr:inT T v=qm (inT p) n.s none (aG v):=by rw[hE,hkv,q1];simp[k8,j]
  simp (maxSteps:=400000) only[↓ak,au,BEq.rfl,seval,hQ,fz,OL,n1',n2',n3',n4',n6',k8,reduceEq,hm0,j,↓bB,↓d_,hts,q1,g0,↓vH,hr]
  repeat' (first | omega | exact ho | exact P9 | exact qp | exact rfl | exact hvp | exact hlead (.inr k8) | refine⟨?_,?_⟩)
 have n8':=eq_false k8
 by_cases k7:n.kind=7
 ·have hr:inT T v=((aG v).all (inT p) && qf LY ((aG v).map (h_ n.s))):=by rw[hE,hkv,q1];simp[k7,j]
  cases ha:(aG v).all (inT p) with
  | false=>
   rw[ha,Bool.false_and]at hr
   simp (maxSteps:=400000) only[↓ak,au,BEq.rfl,seval,hQ,fz,OL,n1',n2',n3',n4',n6',n8',k7,reduceEq,hm0,j,↓bB,↓d_,hts,q1,g0,↓lH,ha,hr]
   repeat' (first | omega | exact ho | exact P9 | exact qp | exact rfl | exact hvp | refine⟨?_,?_⟩)
  | true=>
   rw[ha,Bool.true_and]at hr
   unfold LY at hr
   have hK:afP 1000000 ((aG v).map (h_ n.s)):=by
    refine⟨by rw[List.length_map];omega,λw hx=>?_⟩
    obtain⟨y,hy,rfl⟩:=List.mem_map.1 hx
    have:=zX _ _ (hvp y hy) (hlead (.inl k7) y (hvp y hy) (List.all_eq_true.1 ha y hy))
    exact⟨this.len,this.ok2⟩
   simp (maxSteps:=400000) only[↓ak,au,BEq.rfl,seval,hQ,fz,OL,n1',n2',n3',n4',n6',n8',k7,reduceEq,hm0,j,↓bB,↓d_,hts,q1,g0,↓lH,ha,↓qU,↓tH,hr]
   repeat' (first | omega | exact ho | exact P9 | exact qp | exact rfl | exact hvp | exact hK | exact (λw hx=>⟨(hvp w hx).rt,(hvp w hx).len⟩) | refine⟨?_,?_⟩)
 have n7':=eq_false k7
 have k5:n.kind=5:=by omega
 have hr:inT T v=(aG v).all (inT p):=by rw[hE,hkv,q1];simp[k5,j]
 simp (maxSteps:=400000) only[↓ak,au,BEq.rfl,seval,hQ,fz,OL,n1',n2',n3',n4',n6',n8',n7',k5,reduceEq,hm0,j,↓bB,↓d_,hts,q1,g0,↓lH,hr]
 repeat' (first | omega | exact ho | exact P9 | exact qp | exact rfl | exact hvp | refine⟨?_,?_⟩)
theorem X4:∀f:Nat,aC Tryz.prog 18 (eO f)
 | 0=>by
  have WO:aC Tryz.prog 18 (eO 0):=by
   intro args objs K h
   unfold eO at h
   split at h
   ·rename_i a0 a1
    obtain⟨t,rfl,v,rfl,h1,h2,h3,hk⟩:=h
    exact⟨_,_,_,.pure _ rfl ((absurd (List.length_eq_zero_iff.1 (by omega)) h2.GL.rt.one.ne)),hk⟩
   ·exact h.elim
  exact WO
 | f+1=>by
  have hs:∀(t:aD) (v:Vl),t.length≤f+1→yX t→jW v→ai Tryz.prog 18 [ay t,aJ v] [] (.bool (inT t v)) []:=by
   intro t v h1 h2 h3
   cases t with
   | nil=>exact absurd rfl h2.GL.rt.one.ne
   | cons n r=>exact aac (X4 f) n r v (by simp only[List.length_cons]at h1;omega) h2 h3
  have WO:aC Tryz.prog 18 (eO (f+1)):=by
   intro args objs K h
   unfold eO at h
   split at h
   ·rename_i a0 a1
    obtain⟨t,rfl,v,rfl,h1,h2,h3,hk⟩:=h
    exact⟨_,_,_,.pure _ rfl (hs t v h1 h2 h3),hk⟩
   ·exact h.elim
  exact WO
end Lp
namespace Lp
open Go Go.Proofs
def Nds(v:Vl):Prop:=∀n∈v,n.s.length≤1000000∧n.name.length≤4611686018427387904
end Lp
namespace Lp
open Go Go.Proofs
end Lp
namespace Lp
open Go Go.Proofs
open List (append_assoc drop_zero length_append length_cons length_drop)
def j6(a:gG):dR:=⟨9,0,[],[],a.n,a.c⟩
def gD(t:aD)(i:Nat)(a:gG):aD:=match t[i]? with
 | some x=>t.take i++({ x with many:=x.many+1 }::((t.drop (i+1)).take x.many.toNat++j6 a::t.drop (i+1+x.many.toNat)))
 | none=>t
theorem TL(A q B:aD)(j:Nat)(a:gG){y:dR}(hy:q[j]?=some y)(hm:j+1+y.many.toNat≤q.length):gD (A++q++B) (A.length+j) a=A++gD q j a++B:=by
 have hj:=(List.getElem?_eq_some_iff.1 hy).1
 have h1:(A++q++B)[A.length+j]?=some y:=by
  rw[append_assoc,List.getElem?_append_right (by omega),Nat.add_sub_cancel_left,List.getElem?_append_left hj,hy]
 have d1:(A++q++B).take (A.length+j)=A++q.take j:=by
  rw[append_assoc,List.take_append,List.take_of_length_le (by omega),Nat.add_sub_cancel_left,List.take_append_of_le_length (by omega)]
 have dr:∀k,k≤q.length→(A++q++B).drop (A.length+k)=q.drop k++B:=λk hk=>by
  rw[append_assoc,List.drop_append,List.drop_eq_nil_of_le (by omega),Nat.add_sub_cancel_left,List.nil_append,List.drop_append_of_le_length hk]
 have d2:=dr (j+1) (by omega)
 have d3:=dr (j+1+y.many.toNat) hm
 unfold gD
 rw[h1,hy]
 simp only
 rw[d1,show A.length+j+1=A.length+(j+1) by omega,d2,show A.length+(j+1)+y.many.toNat=A.length+(j+1+y.many.toNat) by omega,d3,List.take_append_of_le_length (by rw[length_drop];omega)]
 simp
theorem TM{t:aD}{i:Nat}{a:gG}{x:dR}(h:t[i]?=some x)(hm:i+1+x.many.toNat≤t.length):(gD t i a).length=t.length+1:=by
 unfold gD
 rw[h]
 simp only[length_append,length_cons,List.length_take,length_drop]
 omega
theorem Y.tJ (nm:List UInt8):∀(o:Nat) (ps:List aD) (o':Nat) (q:aD),kS nm o ps=some (o',q)→∃A B,ps=A++q::B∧o'=o+A.flatten.length∧Y.nameOf q=nm
 | _,[],_,_,h=>by cases h
 | o,b::ps,o',q,h=>by
  rw[kS]at h
  split at h
  ·rename_i hn;cases h;exact⟨[],ps,rfl,rfl,hn⟩
  ·obtain⟨A,B,rfl,h2,h3⟩:=Y.tJ nm _ ps o' q h
   exact⟨b::A,B,rfl,by rw[h2];simp only[List.flatten_cons,length_append];omega,h3⟩
section
variable {pk:List UInt8→Bool}{pth:List UInt8→List Stp}
theorem acB{a:gG}(ha:fO a=true):Y.One [j6 a]∧Y.Good (jo pk pth) [j6 a]:=by
 refine⟨rfl,?_⟩
 intro i n r h
 cases i with
 | succ i=>simp at h
 | zero=>
  simp only[drop_zero,List.cons.injEq]at h
  obtain⟨rfl,rfl⟩:=h
  refine⟨[],rfl,?_⟩
  have:fO ⟨(j6 a).n,(j6 a).c⟩=true:=ha
  simp[jo,bQ,j6,sJ,xg,xQ]
  exact ha
theorem FV{x:dR}{ps:List aD}(hn:x.many=ps.length)(ho:∀p∈ps,Y.One p)(hg:∀p∈ps,Y.Good (jo pk pth) p)(hx:jo pk pth x ps=true):Y.One (x::ps.flatten)∧Y.Good (jo pk pth) (x::ps.flatten):=by
 refine⟨Y.One.made hn ho,?_⟩
 intro i m s hd
 cases i with
 | succ i=>exact Y.Good.made ps ho hg i m s (by simpa using hd)
 | zero=>
  simp only[drop_zero,List.cons.injEq]at hd
  obtain⟨rfl,rfl⟩:=hd
  exact⟨ps,by rw[hn,Int.toNat_natCast];exact Y.iE ps ho,hx⟩
theorem n_{p:List Stp}{t:aD}{i:Nat}(h:fo p t=some i):∃x,t[i]?=some x∧x.kind=1∧fD p t=some i:=by
 unfold fo at h
 cases hl:fD p t with
 | none=>rw[hl]at h;cases h
 | some j=>
  rw[hl]at h
  simp only at h
  split at h
  ·rename_i hk
   cases h
   cases hx:t[i]? with
   | none=>rw[hx]at hk;cases hk
   | some x=>rw[hx]at hk;exact⟨x,rfl,by simpa using hk,rfl⟩
  ·cases h
theorem X5{p:List Stp}{t:aD}{i:Nat}{x:dR}(h:fD p t=some i)(hx:t[i]?=some x)(hk:x.kind=1):fo p t=some i:=by
 unfold fo;rw[h];simp only;rw[hx];simp[hk]
theorem zY{t:aD}{i:Nat}{x:dR}(hg:Y.Good (jo pk pth) t)(hx:t[i]?=some x):i+1+x.many.toNat≤t.length:=by
 obtain⟨hi,rfl⟩:=List.getElem?_eq_some_iff.1 hx
 obtain⟨ps,h1,_⟩:=hg i t[i] (t.drop (i+1)) (List.drop_eq_getElem_cons hi)
 have:=Y.fu _ _ _ h1
 rw[length_drop]at this
 omega
theorem WQ{a:gG}(ha:fO a=true):∀(p:List Stp) (t:aD) (i:Nat),Y.One t→Y.Good (jo pk pth) t→fo p t=some i→
  Y.One (gD t i a)∧Y.Good (jo pk pth) (gD t i a)∧Y.nameOf (gD t i a)=Y.nameOf t∧Y.kindOf (gD t i a)=Y.kindOf t
 | p,[],_,ho,_,_=>absurd rfl ho.ne
 | [],x::r,i,ho,hg,hl=>by
  obtain⟨x',hx,hk,hl'⟩:=n_ hl
  rw[fD]at hl';cases hl'
  cases hx
  obtain⟨hm,ps,h1,h2,h3⟩:=ho.parts
  obtain⟨qs,q1,q2⟩:=hg 0 x r rfl
  rw[h1]at q1;cases q1
  have hgs:Y.Good (jo pk pth) ps.flatten:=by rw[h2];exact (show Y.Good _ ([x]++r) from hg).suf
  have MF:=Y.Good.jm ps h3 hgs
  have hpl:=Y.bD _ _ _ h1
  have hrl:r.length=x.many.toNat:=by
   have q3:=q2
   simp only[jo,Bool.and_eq_true]at q3
   have:=(Nk hk q3.1.2 h3 MF).1
   rw[h2]at this;omega
  have e:gD (x::r) 0 a={ x with many:=x.many+1 }::(ps++[[j6 a]]).flatten:=by
   unfold gD
   simp only[List.getElem?_cons_zero,List.take_zero,List.nil_append,Nat.zero_add,List.drop_succ_cons,drop_zero,List.flatten_append,h2,List.flatten_cons,List.flatten_nil,List.append_nil]
   rw[show 1+x.many.toNat=x.many.toNat+1 by omega,List.drop_succ_cons,←hrl,List.take_length,List.drop_length]
  rw[e]
  obtain⟨a1,a2⟩:=acB (pk:=pk) (pth:=pth) ha
  have hrow:jo pk pth { x with many:=x.many+1 } (ps++[[j6 a]])=true:=by
   simp only[jo,Bool.and_eq_true,bQ,hk,Int.reduceEq,if_false,if_true,decide_eq_true_eq,sJ,List.all_eq_true]at q2 ⊢
   refine⟨⟨⟨⟨⟨⟨by omega,q2.1.1.1.1.1.2⟩,q2.1.1.1.1.2⟩,q2.1.1.1.2⟩,q2.1.1.2⟩,λp hp=>?_,by simp⟩,by simp[xg,hk]⟩
   rcases List.mem_append.1 hp with hp | hp
   ·have:=q2.1.2.1 p hp
    simp only[xE,hk]at this ⊢
    exact this
   ·rw[List.mem_singleton.1 hp]
    simp[xE,hk,j6,Y.kindOf,Y.nameOf]
  obtain⟨m1,m2⟩:=FV (x:={ x with many:=x.many+1 }) (ps:=ps++[[j6 a]]) (by rw[length_append];simp;omega) (λp hp=>by
   rcases List.mem_append.1 hp with hp | hp
   ·exact h3 p hp
   ·rw[List.mem_singleton.1 hp];exact a1) (λp hp=>by
   rcases List.mem_append.1 hp with hp | hp
   ·exact MF p hp
   ·rw[List.mem_singleton.1 hp];exact a2) hrow
  exact⟨m1,m2,rfl,rfl⟩
 | s::p,x::r,i,ho,hg,hl=>by
  obtain⟨x',hx,hk,hl'⟩:=n_ hl
  obtain⟨hm,ps,h1,h2,h3⟩:=ho.parts
  obtain⟨qs,q1,q2⟩:=hg 0 x r rfl
  rw[h1]at q1;cases q1
  have hgs:Y.Good (jo pk pth) ps.flatten:=by rw[h2];exact (show Y.Good _ ([x]++r) from hg).suf
  have MF:=Y.Good.jm ps h3 hgs
  have hpl:=Y.bD _ _ _ h1
  have hpo:Y.partsOf x r=ps:=by simp[Y.partsOf,h1]
  rw[fD]at hl'
  split at hl'
  ·rename_i hk2
   rw[hpo]at hl'
   cases hf:kS s.name 1 ps with
   | none=>rw[hf]at hl';cases hl'
   | some oq=>
    obtain⟨o,q⟩:=oq
    rw[hf]at hl'
    simp only[Option.map_eq_some_iff]at hl'
    obtain⟨j,hj,rfl⟩:=hl'
    obtain⟨A,B,rfl,rfl,hnm⟩:=Y.tJ _ _ _ _ _ hf
    have hqm:q∈A++q::B:=by simp
    have hjl:=yO p q j (h3 q hqm) hj
    have hr:x::r=(x::A.flatten)++q++B.flatten:=by rw[←h2];simp
    have hy:q[j]?=some x':=by
     rw[hr,show 1+A.flatten.length+j=(x::A.flatten).length+j by simp only[length_cons];omega,append_assoc,List.getElem?_append_right (by omega),Nat.add_sub_cancel_left,List.getElem?_append_left hjl]at hx
     exact hx
    have hlq:=X5 hj hy hk
    obtain⟨i1,i2,i3,i4⟩:=WQ ha p q j (h3 q hqm) (MF q hqm) hlq
    have e:gD (x::r) (1+A.flatten.length+j) a=x::(A++gD q j a::B).flatten:=by
     rw[hr,show 1+A.flatten.length+j=(x::A.flatten).length+j by simp only[length_cons];omega,TL _ _ _ _ _ hy (zY (MF q hqm) hy)]
     simp
    rw[e]
    have hrow:jo pk pth x (A++gD q j a::B)=true:=by
     simp only[jo,Bool.and_eq_true]at q2 ⊢
     refine⟨⟨q2.1.1,?_⟩,by simp[xg,hk2.1]⟩
     have q3:=q2.1.2
     simp only[sJ,Bool.and_eq_true,List.all_eq_true]at q3 ⊢
     refine⟨λp' hp=>?_,?_⟩
     ·rcases List.mem_append.1 hp with hp | hp
      ·exact q3.1 p' (List.mem_append_left _ hp)
      ·rcases List.mem_cons.1 hp with rfl | hp
       ·have:=q3.1 q hqm
        simp only[xE,i3,i4]at this ⊢
        exact this
       ·exact q3.1 p' (List.mem_append_right _ (List.mem_cons_of_mem _ hp))
     ·have:(A++gD q j a::B).map Y.nameOf=(A++q::B).map Y.nameOf:=by simp[i3]
      rw[this];exact q3.2
    obtain⟨m1,m2⟩:=FV (x:=x) (ps:=A++gD q j a::B) (by rw[length_append,length_cons]at hpl ⊢;omega) (λp' hp=>by
     rcases List.mem_append.1 hp with hp | hp
     ·exact h3 p' (List.mem_append_left _ hp)
     ·rcases List.mem_cons.1 hp with rfl | hp
      ·exact i1
      ·exact h3 p' (List.mem_append_right _ (List.mem_cons_of_mem _ hp))) (λp' hp=>by
     rcases List.mem_append.1 hp with hp | hp
     ·exact MF p' (List.mem_append_left _ hp)
     ·rcases List.mem_cons.1 hp with rfl | hp
      ·exact i2
      ·exact MF p' (List.mem_append_right _ (List.mem_cons_of_mem _ hp))) hrow
    exact⟨m1,m2,rfl,rfl⟩
  ·cases hl'
theorem WR{a:gG}(ha:fO a=true){p:List Stp}{t:aD}{i:Nat}(h:oC pk pth t)(hl:fo p t=some i):oC pk pth (gD t i a):=by
 obtain⟨h1,h2,h3,h4⟩:=WQ ha p t i h.one h.good hl
 exact⟨h1,by rw[h3];exact h.name,by rw[h4];exact h.kind,h2⟩
end
end Lp
namespace Lp
open Go Go.Proofs
open List (flatten_cons length_cons mem_singleton)
theorem Nz(nm:List UInt8):∀(o:Nat) (ps:List aD) (i:Nat) (q:aD),ps[i]?=some q→Y.nameOf q=nm→(∀(j:Nat) q',j<i→ps[j]?=some q'→Y.nameOf q'≠nm)→kS nm o ps=some (o+(ps.take i).flatten.length,q)
 | _,[],_,_,h,_,_=>by simp at h
 | o,b::ps,0,q,h,hn,_=>by
  simp only[List.getElem?_cons_zero,Option.some.injEq]at h
  subst h
  simp[kS,hn]
 | o,b::ps,i+1,q,h,hn,hb=>by
  have hbn:Y.nameOf b≠nm:=hb 0 b (by omega) rfl
  rw[kS,if_neg hbn,Nz nm _ ps i q (by simpa using h) hn λj q' hj hq=>hb (j+1) q' (by omega) (by simpa using hq)]
  simp only[List.take_succ_cons,flatten_cons,List.length_append,Option.some.injEq,Prod.mk.injEq,and_true]
  omega
theorem TN(nm:List UInt8):∀(o:Nat) (ps:List aD),(∀(j:Nat) q',ps[j]?=some q'→Y.nameOf q'≠nm)→kS nm o ps=none
 | _,[],_=>rfl
 | o,b::ps,hb=>by
  rw[kS,if_neg (hb 0 b rfl)]
  exact TN nm _ ps λj q' hq=>hb (j+1) q' (by simpa using hq)
theorem TP:∀(ps:List aD) (i0 k:Nat) (p:aD),ps[k]?=some p→(jV i0 ps)[k]?=some [.int .i64 ((i0+(ps.take k).flatten.length:Nat):Int),.int .i64 ((i0+(ps.take k).flatten.length+p.length:Nat):Int)]
 | [],_,_,_,h=>by simp at h
 | b::ps,i0,0,p,h=>by
  simp only[List.getElem?_cons_zero,Option.some.injEq]at h
  subst h
  simp[jV]
 | b::ps,i0,k+1,p,h=>by
  simp only[jV,List.getElem?_cons_succ]
  rw[TP ps (i0+b.length) k p (by simpa using h)]
  simp only[List.take_succ_cons,flatten_cons,List.length_append,Nat.add_assoc]
theorem acC{s:Stp}{p:List Stp}{x:dR}{r:aD}{ps:List aD}{o:Nat}{q:aD}(hpo:Y.partsOf x r=ps)(hfl:ps.flatten=r)(hone:∀p∈ps,Y.One p)(hk:x.kind=2)(hs:s.part=false)(hf:kS s.name 1 ps=some (o,q)):fo (s::p) (x::r)=(fo p q).map (o+·):=by
 obtain⟨A,B,hAB,ho,_⟩:=Y.tJ _ _ _ _ _ hf
 have hl:fD (s::p) (x::r)=(fD p q).map (o+·):=by
  rw[fD,if_pos ⟨hk,hs⟩,hpo,hf]
 unfold fo
 rw[hl]
 cases hq:fD p q with
 | none=>rfl
 | some j=>
  simp only[Option.map_some]
  have hqm:q∈ps:=by rw[hAB];simp
  have hjl:j<q.length:=by
   have h0:0<q.length:=List.length_pos_iff.2 (hone q hqm).ne
   have:=SV (p:=p) (hone q hqm) h0
   simp only[kF,Y.VQ (hone q hqm),hq,Nat.zero_add]at this
   omega
  have e:(x::r)[o+j]?=q[j]?:=by
   rw[←hfl,hAB,ho,show 1+A.flatten.length+j=(A.flatten.length+j)+1 by omega,List.getElem?_cons_succ,List.flatten_append,List.getElem?_append_right (by omega),Nat.add_sub_cancel_left,flatten_cons,List.getElem?_append_left hjl]
  rw[e]
  split<;>simp
def lfO(t:aD)(p:List Stp)(n:Int)(b:Bool):List Obj:=[Ar t,⟨25,1,[dO p],true,1⟩,⟨3,1,[.int .i64 n],true,1⟩,⟨4,1,[.bool b],true,1⟩]
theorem TQ(t:aD)(p:List Stp)(n:Int)(b:Bool):fI (lfO t p n b++[xN,hole]):=by
 intro o ho y hy c hc
 simp only[lfO,Ar,List.cons_append,List.nil_append,List.mem_cons,List.not_mem_nil,or_false]at ho
 rcases ho with rfl | rfl | rfl | rfl | rfl | rfl
 ·simp only[mem_singleton]at hy;subst hy
  simp only[ay,PV.cells,mem_singleton]at hc;subst hc;rfl
 ·simp only[mem_singleton]at hy;subst hy
  simp only[dO,PV.cells,mem_singleton]at hc;subst hc;rfl
 ·simp only[mem_singleton]at hy;subst hy
  simp only[PV.cells,mem_singleton]at hc;subst hc;rfl
 ·simp only[mem_singleton]at hy;subst hy
  simp only[PV.cells,mem_singleton]at hc;subst hc;rfl
 ·cases hy
 ·cases hy
theorem acD(t:aD)(p:List Stp)(n:Int)(b:Bool):Gh 4 (lfO t p n b++[xN,hole]):=⟨Nat.le_refl _,(TQ t p n b).lt,rfl,rfl⟩
def Km(t:aD)(p:List Stp):Int:=match fo p t with | some i=>(i:Int) | none=>0
def Ew(p:List Stp):dD:=λargs objs K=>match args with
 | [a,b]=>dZ ay a (HK.mk:HK λq=>b=dO p∧q.length≤1000000∧Y.One q∧K (pW q p) objs 0)
 | _=>False
theorem Kn:∀(p:List Stp) (t:aD),t.length≤1000000→Y.One t→p.length≤1000000→ai Tryz.prog 27 [ay t,dO p] [] (pW t p) []
 | [],t,hl,ho,_=>by
  refine Nu.VJ (T:=aR Tryz.prog []) 1 hD (aj ah) aV (by decide) (by decide) λQ hQ=>?_
  obtain⟨n,r,ps,hv,hm,hp,hfl,hps,hpo,hmn,Fy⟩:=mO t ho
  have hg0:t[0]?=some n:=by rw[hv];rfl
  have hres:pW t []=.bY [.int .i64 0,.bool (decide (n.kind=1))]:=by
   simp only[pW,fo,fD,hg0,Option.map_some,Option.some.injEq]
   by_cases hk:n.kind=1<;>simp[hk]
  have c00:((0:Nat):Int)=0:=rfl
  (conv=>arg 4;cbv);simp (maxSteps:=400000) only[↓ak,au,BEq.rfl,seval,hQ,hg0,c00]
  and_intros<;>first | rfl | decide | exact Nat.le_refl _ | (rw[hres];rfl)
 | s::p,t,hl,ho,hpl=>by
  have hok:aC Tryz.prog 27 (Ew p):=by
   intro args objs K h
   unfold Ew at h
   split at h
   ·obtain⟨q,rfl,rfl,h1,h2,hk⟩:=h
    exact⟨_,_,_,.pure _ rfl (Kn p q h1 h2 (by simp only[length_cons]at hpl;omega)),hk⟩
   ·exact h.elim
  refine Nu.VJ (T:=aR Tryz.prog [(63,vE),(27,_)]) 1 hD (aj (af GA (af hok ah))) aV (by decide) (by decide) λQ hQ=>?_
  obtain⟨n,r,ps,hv,hm,hp,hfl,hps,hpo,hmn,Fy⟩:=mO t ho
  have hg0:t[0]?=some n:=by rw[hv];rfl
  have hgs:(s::p)[0]?=some s:=rfl
  have hdr:(s::p).drop 1=p:=rfl
  have hpn:(((s::p).length:Int)=0)=False:=eq_false (by simp only[length_cons];omega)
  have hwl:1≤(s::p).length:=by simp
  have hno:¬ (n.kind=2∧s.part=false)→pW t (s::p)=.bY [.int .i64 0,.bool false]:=λh=>by
   have:fo (s::p) t=none:=by rw[hv];simp only[fo,fD];rw[if_neg h]
   simp[pW,this]
  generalize hsp:s::p=w at *
  by_cases hk:n.kind=2
  rotate_left 1
  ·have hk':=eq_false hk
   have hres:=hno λh=>hk h.1
   (conv=>arg 4;cbv);simp (maxSteps:=400000) only[↓ak,au,BEq.rfl,seval,hQ,hg0,hpn,hk']
   and_intros<;>first | rfl | decide | exact Nat.le_refl _ | (rw[hres];rfl)
  cases hpt:s.part with
  | true=>
   have hres:=hno λh=>by rw[hpt]at h;cases h.2
   (conv=>arg 4;cbv);simp (maxSteps:=400000) only[↓ak,au,BEq.rfl,seval,hQ,hg0,hpn,hk,hgs,hpt,Int.reduceEq]
   and_intros<;>first | rfl | decide | exact Nat.le_refl _ | (rw[hres];rfl)
  | false=>
  have hd1:t.drop 1=r:=by rw[hv];rfl
  have hgv:=GD t n ps ho hl hg0 (by rw[hd1];exact hp) hm
  rw[if_neg (by omega)]at hgv
  (conv=>arg 4;cbv);simp (maxSteps:=400000) only[↓ak,au,BEq.rfl,seval,hQ,hg0,hpn,hk,hgs,hpt,Int.reduceEq,↓vE]
  refine XC 93 [.addr (ay t)] (jV 1 ps)
   (λi O=>(∀(j:Nat) q,j<i→ps[j]?=some q→Y.nameOf q≠s.name)∧i≤ps.length∧O=lfO t w 0 false++[xN,hole])
   (λi O=>O=lfO t w (Km t w) (fo w t).isSome++[xN,hole]) .ret rfl rfl rfl rfl trivial hgv (FP ps 1) ⟨λj q h=>absurd h (Nat.not_lt_zero j),Nat.zero_le _,rfl⟩ ?_ ?_ ?_ ?_ ?_
  ·rintro i O ⟨_,_,rfl⟩
   exact acD t w 0 false
  ·rintro i O rfl
   exact⟨acD t w _ _,TQ t w _ _⟩
  ·rintro i args O ⟨hb,hi,rfl⟩ ha
   obtain⟨q,o,hqi,rfl,h3⟩:=FQ t ps 1 i args (by rw[hd1,hfl];simp) ha
   have hil:=(List.getElem?_eq_some_iff.1 hqi).1
   have hqo:=hps q (List.mem_of_getElem? hqi)
   have hat:=TP ps 1 i q hqi
   rw[ha]at hat
   simp only[Option.some.injEq,List.cons.injEq,PV.int.injEq,true_and,and_true]at hat
   have hoo:o=1+(ps.take i).flatten.length:=by omega
   have hql:o+q.length≤t.length:=by
    have:=congrArg List.length h3
    rw[List.length_take,List.length_drop]at this
    have:=List.length_pos_iff.2 hqo.ne
    omega
   obtain⟨y,q',hqy⟩:∃y q',q=y::q':=by
    cases q with
    | nil=>exact absurd rfl hqo.ne
    | cons y q'=>exact⟨y,q',rfl⟩
   have hgo:t[o]?=some y:=by
    have:=congrArg (λl=>l[0]?) h3
    simp only[hqy,List.getElem?_cons_zero,length_cons]at this
    rw[List.getElem?_take_of_lt (by omega),List.getElem?_drop,Nat.add_zero]at this
    exact this
   have hny:Y.nameOf q=y.name:=by rw[hqy];rfl
   have zo:(0≤(o:Int))=True:=eq_true (by omega)
   have c1:((o:Int)≤((o+q.length:Nat):Int))=True:=eq_true (by omega)
   have c2:(((o+q.length:Nat):Int)≤(t.length:Int))=True:=eq_true (by omega)
   have hsl:List.drop o (List.take (o+q.length) t)=q:=by rw[List.drop_take,show o+q.length-o=q.length by omega,h3]
   unfold lfO Ar
   by_cases he:y.name=s.name
   ·have he':(y.name=s.name)=True:=eq_true he
    have hin:=acC (s:=s) (p:=p) (hpo) hfl hps hk hpt (Nz s.name 1 ps i q hqi (by rw[hny,he]) hb)
    rw[←hv,hsp,←hoo]at hin
    cases hlf:fo p q with
    | none=>
     have hr:pW q p=.bY [.int .i64 0,.bool false]:=by simp[pW,hlf]
     rw[hlf]at hin
     simp (maxSteps:=400000) only[↓ak,au,BEq.rfl,seval,hQ,rG,knI,he',zo,c1,c2,hsl,hgo,hgs,hdr,hr,↓Ew,bq,Int.toNat_natCast,List.take_length]
     have hN:Km t w=0:=by simp[Km,hin]
     have hS:(fo w t).isSome=false:=by rw[hin];rfl
     have e:lfO t w 0 false++[xN,hole]=lfO t w (Km t w) (fo w t).isSome++[xN,hole]:=by rw[hN,hS]
     exact⟨by omega,Int.le_refl _,by omega,hqo,rfl,e⟩
    | some j=>
     have hr:pW q p=.bY [.int .i64 j,.bool true]:=by simp[pW,hlf]
     rw[hlf]at hin
     have hjl:j<q.length:=by
      obtain⟨x,hx,_⟩:=n_ hlf
      exact (List.getElem?_eq_some_iff.1 hx).1
     simp (maxSteps:=400000) only[↓ak,au,BEq.rfl,seval,hQ,rG,knI,he',zo,c1,c2,hsl,hgo,hgs,hdr,hr,↓Ew,bq,Int.toNat_natCast,List.take_length]
     have hN:Km t w=(o:Int)+j:=by simp[Km,hin]
     have hS:(fo w t).isSome=true:=by rw[hin];rfl
     have e:lfO t w ((o:Int)+j) true++[xN,hole]=lfO t w (Km t w) (fo w t).isSome++[xN,hole]:=by rw[hN,hS]
     exact⟨by omega,Int.le_refl _,by omega,hqo,⟨by omega,by omega⟩,rfl,e⟩
   ·have he':(y.name=s.name)=False:=eq_false he
    simp (maxSteps:=400000) only[↓ak,au,BEq.rfl,seval,hQ,rG,knI,he',zo,hgo,hgs,Int.toNat_natCast]
    refine⟨λj q2 hj hq=>?_,by omega,rfl⟩
    rcases Nat.lt_or_ge j i with g | g
    ·exact hb j q2 g hq
    ·have:j=i:=by omega
     subst this
     rw[hqi]at hq;cases hq;rw[hny];exact he
  ·rintro O ⟨hb,hi,rfl⟩
   unfold lfO Ar
   simp (maxSteps:=400000) only[↓ak,au,BEq.rfl,seval,hQ]
   have hres:pW t w=.bY [.int .i64 0,.bool false]:=by
    have:fo w t=none:=by
     rw[hv,←hsp]
     have hf:=TN s.name 1 ps λj q hq=>hb j q (by rw[vD];exact (List.getElem?_eq_some_iff.1 hq).1) hq
     simp only[fo,fD];rw[hpo,hf];simp
    simp[pW,this]
   and_intros<;>first | rfl | decide | exact Nat.le_refl _ | (rw[hres];rfl)
  ·rintro i O hi rfl
   unfold lfO Ar
   simp (maxSteps:=400000) only[↓ak,au,BEq.rfl,seval,hQ]
   exact⟨_,_,rfl,rfl,rfl,rfl,Nat.le_refl _,rfl,_,_,rfl,rfl,rfl,rfl,Nat.le_refl _,rfl,rfl⟩
def yZ:dD:=λargs objs K=>match args with
 | [a0,a1]=>dZ ay a0 (HK.mk:HK λt=>dZ dO a1 (HK.mk:HK λp=>(t.length≤1000000)∧(Y.One t)∧(p.length≤1000000)∧K (pW t p) objs 0))
 | _=>False
theorem TR:aC Tryz.prog 27 (yZ):=by
 intro args objs K h
 unfold yZ at h
 split at h
 ·rename_i a0 a1
  obtain⟨t,rfl,p,rfl,h1,h2,h3,hk⟩:=h
  exact⟨_,_,_,.pure _ rfl (Kn p t h1 h2 h3),hk⟩
 ·exact h.elim
def lI(s:Stp):Bool:=if s.part then decide (s.name=[]) && decide (0≤s.n) && decide (s.n≤1000000) else decide (s.n=0) && utf s.name
def wT(p:List Stp):Bool:=p.all lI && decide (p.length≤20)
structure Ko (p:List Stp):Prop where
 len:p.length≤4611686018427387904
 txt:∀s∈p,s.name.length≤4611686018427387904
theorem P_(p:List Stp)(hs:Ko p):ai Tryz.prog 8 [dO p] [] (.bool (wT p)) []:=by
 obtain⟨hl,htx⟩:=hs
 refine Cj.aX (T:=aR Tryz.prog [(25,gq)]) 0 hD (aj (af zG ah)) aV (by decide) λQ hQ=>?_
 (conv=>arg 4;cbv);simp (maxSteps:=400000) only[↓ak,au,BEq.rfl,seval,hQ]
 refine aF (λm S=>∃i:Nat,i+m=p.length∧(p.take i).all lI=true∧S=⟨dG 67 [(0,dO p),(3,.int .i64 i)],[]⟩) p.length ⟨0,by omega,by simp,?_⟩ ?_
 ·simp only[bN,keepR,Nat.reduceAdd,lJ,Nat.reduceBEq,List.map_nil]
  rfl
 rintro m S ⟨i,him,hall,rfl⟩
 rcases Nat.lt_or_ge i p.length with h | h
 ·have hlt:((i:Int)<(p.length:Int))=True:=eq_true (by omega)
  have zi:(0≤(i:Int))=True:=eq_true (by omega)
  have hgi:=List.getElem?_eq_getElem h
  have Hf:=htx _ (List.getElem_mem h)
  generalize p[i]=s at hgi Hf
  have htk:(p.take (i+1)).all lI=lI s:=by rw[List.take_add_one,hgi];simp[hall]
  have hbad:lI s=false→wT p=false:=λh=>by
   unfold wT
   have:p.all lI=false:=by
    cases hp:p.all lI with
    | false=>rfl
    | true=>rw[List.all_eq_true]at hp;rw[hp s (List.mem_of_getElem? hgi)]at h;cases h
   rw[this];rfl
  have hgo:lI s=true→∃m',m'<m∧∃j:Nat,j+m'=p.length∧(p.take j).all lI=true∧(⟨dG 67 [(0,dO p),(3,.int .i64 (i+1:Nat))],[]⟩:St)=⟨dG 67 [(0,dO p),(3,.int .i64 j)],[]⟩:=λh=>⟨m-1,by omega,i+1,by omega,by rw[htk,h],rfl⟩
  cases hpt:s.part with
  | true=>
   by_cases hn:s.name=[]
   ·by_cases h0:s.n<0
    ·have hr:=hbad (by simp[lI,hpt,hn];omega)
     have hn':=eq_true hn
     have h0':=eq_true h0
     simp (maxSteps:=400000) only[↓ak,au,BEq.rfl,seval,hQ,hlt,zi,hgi,hpt,hn',h0',hr]
    ·by_cases h1:1000000<s.n
     ·have hr:=hbad (by simp[lI,hpt,hn];omega)
      have hn':=eq_true hn
      have h0':=eq_false h0
      have h1':=eq_true h1
      simp (maxSteps:=400000) only[↓ak,au,BEq.rfl,seval,hQ,hlt,zi,hgi,hpt,hn',h0',h1',hr]
     ·have hr:=hgo (by simp[lI,hpt,hn];omega)
      have hn':=eq_true hn
      have h0':=eq_false h0
      have h1':=eq_false h1
      simp (maxSteps:=400000) only[↓ak,au,BEq.rfl,seval,hQ,hlt,zi,hgi,hpt,hn',h0',h1']
      exact⟨by omega,hr⟩
   ·have hr:=hbad (by simp[lI,hpt,hn])
    have hn':=eq_false hn
    simp (maxSteps:=400000) only[↓ak,au,BEq.rfl,seval,hQ,hlt,zi,hgi,hpt,hn',hr]
  | false=>
   by_cases h0:s.n=0
   ·have h0':=eq_true h0
    cases hu:utf s.name with
    | true=>
     have hr:=hgo (by simp[lI,hpt,h0,hu])
     simp (maxSteps:=400000) only[↓ak,au,BEq.rfl,seval,hQ,hlt,zi,hgi,hpt,h0',hu,↓gq]
     exact⟨by omega,by omega,hr⟩
    | false=>
     have hr:=hbad (by simp[lI,hpt,hu])
     simp (maxSteps:=400000) only[↓ak,au,BEq.rfl,seval,hQ,hlt,zi,hgi,hpt,h0',hu,↓gq,hr]
     omega
   ·have h0':=eq_false h0
    have hr:=hbad (by simp[lI,hpt,h0])
    simp (maxSteps:=400000) only[↓ak,au,BEq.rfl,seval,hQ,hlt,zi,hgi,hpt,h0',hr]
 ·have hlt:((i:Int)<(p.length:Int))=False:=eq_false (by omega)
  have hr:wT p=decide (p.length≤20):=by
   have:p.take i=p:=List.take_of_length_le h
   rw[this]at hall
   simp[wT,hall]
  have hr2:decide ((p.length:Int)≤20)=wT p:=by
   rw[hr];congr 1;apply propext;constructor<;>omega
  simp (maxSteps:=400000) only[↓ak,au,BEq.rfl,seval,hQ,hlt,hr2]
def iN:dD:=λargs objs K=>match args with
 | [a0]=>dZ dO a0 (HK.mk:HK λp=>(Ko p)∧K (.bool (wT p)) objs 0)
 | _=>False
theorem L9:aC Tryz.prog 8 (iN):=by
 intro args objs K h
 unfold iN at h
 split at h
 ·rename_i a0
  obtain⟨p,rfl,h1,hk⟩:=h
  exact⟨_,_,_,.pure _ rfl (P_ p h1),hk⟩
 ·exact h.elim
end Lp
namespace Lp
open Go Go.Proofs Go.Lib Go.RowKit
open Nat (mul_le_mul_right one_mul succ_mul)
section
variable {P:Program}
def spl(cur:Array Value)(o:Nat)(vs:List Value):Array Value:=(cur.toList.take o++vs++cur.toList.drop (o+vs.length)).toArray
def mid(cur:Array Value)(i n z:Nat):List Value:=(cur.toList.take (n*z)).drop (i*z)
theorem IC{cur:Array Value}{o:Nat}{vs:List Value}(hl:o+vs.length≤cur.size)(q:Nat) :
  (spl cur o vs)[q]?=if q<o then cur[q]? else if q<o+vs.length then vs[q-o]? else cur[q]?:=by
 have hlen:(cur.toList.take o).length=o:=by simp;omega
 simp only[spl,List.getElem?_toArray,List.append_assoc]
 rw[List.getElem?_append,hlen]
 split
 ·rename_i h;rw[List.getElem?_take,if_pos h];simp
 ·rename_i h
  rw[List.getElem?_append]
  split
  ·rename_i h2;rw[if_pos (by omega)]
  ·rename_i h2
   rw[if_neg (by omega),List.getElem?_drop,show o+vs.length+(q-o-vs.length)=q by omega];simp
theorem vI{cur:Array Value}{o:Nat}{vs:List Value}(hl:o+vs.length≤cur.size):(spl cur o vs).size=cur.size:=by
 simp[spl];omega
theorem o8(w:World)(dT sT ty elem:TypeId)(inf:TypeInfo)(g o dLen dCap:Nat)(a:Addr)(sLen sCap n:Nat)(cur:Array Value)(t:TypeId)(cs:List Value)
  (hu:P.underlying dT=some (.slice elem)) (hi:P.info? elem=some inf) (hg:w.heap[g]?=some (.cells cur t (0,0))) (hn:n=Nat.min sLen dLen) (hl:cs.length=n*inf.size)
  (hsrc:∀j v,cs[j]?=some v→w.cell? (a.add j)=some v) (hfit:o+cs.length≤cur.size) (h1:∀v∈cs,v.oneCell'=true) :
  (Builtin.copy_ #[dT,sT] ty #[.slice (some ⟨g,o,none⟩) dLen dCap,.slice (some a) sLen sCap]).run P w=
   .ok (goInt n) (w.setRow g (spl cur o cs)):=by
 have h2:=run_loadCells_list (P:=P) w a cs hsrc
 have hst:=run_storeCells_at P g o t cs 0 cur w hg (by simpa using hfit) h1
 rw[hl]at h2
 rw[hn]at h2
 simp only[Nat.min_def]at h2
 simp[Builtin.copy_,run_underlying hu,Builtin.lenOf,Builtin.firstCells,Go.sizeOf,typeInfo,hi,hn,Nat.min_def,h2,hst,spl]
theorem GN{w:World}{g:Nat}{cur:Array Value}{t:TypeId}(hg:w.heap[g]?=some (.cells cur t (0,0)))(o:Nat):w.frozen? ⟨g,o,none⟩=false:=by
 simp[World.frozen?,hg]
theorem acE{α:Type}(xs:List α)(x:α)(i m:Nat)(hi:i≤xs.length):(xs.take i++[x]++xs.drop i)[m]?=if m<i then xs[m]? else if m=i then some x else xs[m-1]?:=by
 have ht:(xs.take i).length=i:=by simp;omega
 rw[List.append_assoc,List.getElem?_append,ht]
 split
 ·rename_i h;rw[List.getElem?_take,if_pos h]
 ·rename_i h
  rw[List.getElem?_append]
  split
  ·rename_i h2
   have:m=i:=by simp at h2;omega
   rw[if_pos this,this];simp
  ·rename_i h2
   simp at h2
   rw[if_neg (by omega),List.getElem?_drop]
   congr 1;simp;omega
theorem bF.ahn {R:PV→Value→Prop}{z:Nat}{xs:List PV}{c c':Array Value}{x:PV}{s:List Value}{i:Nat}(h:bF R z c xs)(hs:bF R z ⟨s⟩ [x])(hi:i≤xs.length)
  (h1:∀q,q<i*z→c'[q]?=c[q]?) (h2:∀q,q<z→c'[i*z+q]?=s[q]?) (h3:∀q,i*z≤q→q<xs.length*z→c'[q+z]?=c[q]?) :
  bF R z c' (xs.take i++[x]++xs.drop i):=by
 intro m y hy
 rw[acE xs x i m hi]at hy
 have hlt:∀{u:PV}{j:Nat}{p:PV},u.cells.length=z→u.cells[j]?=some p→j<z:=λh1 h2=>by rw[←h1];exact (List.getElem?_eq_some_iff.1 h2).1
 split at hy
 ·rename_i hm
  obtain⟨z1,z2⟩:=h m y hy
  refine⟨z1,λj p hp=>?_⟩
  have hj:=hlt z1 hp
  have hmz:(m+1)*z≤i*z:=mul_le_mul_right _ hm
  rw[succ_mul]at hmz
  obtain⟨v,u1,u2⟩:=z2 j p hp
  exact⟨v,by rw[h1 _ (by omega)];exact u1,u2⟩
 ·split at hy
  ·rename_i hm
   cases hy
   obtain⟨z1,z2⟩:=hs 0 x rfl
   refine⟨z1,λj p hp=>?_⟩
   have hj:=hlt z1 hp
   obtain⟨v,u1,u2⟩:=z2 j p hp
   rw[Nat.zero_mul,Nat.zero_add]at u1
   exact⟨v,by rw[hm,h2 _ hj];simpa using u1,u2⟩
  ·rename_i hm1 hm2
   obtain⟨z1,z2⟩:=h (m-1) y hy
   have hml:m-1<xs.length:=(List.getElem?_eq_some_iff.1 hy).1
   refine⟨z1,λj p hp=>?_⟩
   have hj:=hlt z1 hp
   obtain⟨v,u1,u2⟩:=z2 j p hp
   have e0:m=(m-1)+1:=by omega
   have e:m*z+j=((m-1)*z+j)+z:=by rw[e0,succ_mul,Nat.add_sub_cancel];omega
   have g1:i*z≤(m-1)*z:=mul_le_mul_right _ (by omega)
   have g2:(m-1+1)*z≤xs.length*z:=mul_le_mul_right _ hml
   rw[succ_mul]at g2
   exact⟨v,by rw[e,h3 _ (by omega) (by omega)];exact u1,u2⟩
structure afQ (P:Program) (f:FuncId) (sT uT ty:TypeId) (z by':Nat):Prop where
 ent:Enters P f
 shift:∀(g n c i vb voff vc:Nat) (cur Kq:Array Value) (tv:TypeId) (ss:List Value) (w:World),i<n→n+1≤c→c≤9223372036854775807→
  w.heap[g]?=some (.cells cur ty (0,0))→cur.size=c*z→w.heap[vb]?=some (.cells Kq tv (0,0))→vb≠g→ss.length=z→
  (∀j v,ss[j]?=some v→w.cell? ⟨vb,voff+j,none⟩=some v)→(∀v∈ss,v.oneCell'=true)→(∀v∈mid cur i n z,v.oneCell'=true)→
  Calls P f #[.slice (some ⟨g,0,none⟩) n c,.int .i64 i,.slice (some ⟨vb,voff,none⟩) 1 vc] w λe w'=>
   e=.returned (.slice (some ⟨g,0,none⟩) (n+1) c)∧w'=(w.drew.setRow g (spl cur ((i+1)*z) (mid cur i n z))).setRow g (spl (spl cur ((i+1)*z) (mid cur i n z)) (i*z) ss)
 fin:∀(base:Option Addr) (n c vb voff vc:Nat) (w w':World) (v':Value),(base=none→n=0∧c=0)→n≤c→c≤9223372036854775807→
  (∀ty',(Builtin.append_ #[sT,uT] ty' #[.slice base n c,.slice (some ⟨vb,voff,none⟩) 1 vc]).run P w=.ok v' w')→
  Calls P f #[.slice base n c,.int .i64 n,.slice (some ⟨vb,voff,none⟩) 1 vc] w λe w1=>e=.returned v'∧w1=w'
 grow:∀(g n c i vb voff vc:Nat) (cur:Array Value) (ss:List Value) (w:World),i<n→n≤c→c<n+1→(n+1)*by'≤140737488355328→
  w.heap[g]?=some (.cells cur ty (0,0))→cur.size=c*z→vb<w.heap.size→ss.length=z→
  (∀j v,ss[j]?=some v→w.cell? ⟨vb,voff+j,none⟩=some v)→(∀v∈ss,v.oneCell'=true)→(∀v∈mid cur i n z,v.oneCell'=true)→
  ∃row:Array Value,row.size=grownCap w (n+1) c ty*z∧(∀q,q<i*z→row[q]?=cur[q]?)∧
   Calls P f #[.slice (some ⟨g,0,none⟩) n c,.int .i64 i,.slice (some ⟨vb,voff,none⟩) 1 vc] w λe w'=>
    e=.returned (.slice (some ⟨w.heap.size,0,none⟩) (n+1) (grownCap w (n+1) c ty))∧
    w'=((((w.drew.alloc (.cells row ty)).setRow w.heap.size (spl row (i*z) ss)).drew).setRow w.heap.size (spl (spl row (i*z) ss) ((i+1)*z) (mid cur i n z)))
variable {base av:Nat→Prop}{w0:Wz}{blk:Nat→Option Nat}{a:Act}{w:World}
structure TS (ty:TypeId) (z:Nat) (R:PV→Value→Prop) (old:Option Nat) (w:World) (ys:List PV) (v':Value) (w':World) (gb:Nat):Prop where
 size:w.heap.size≤w'.heap.size
 sm:Sm w w'
 kept:∀b y,old≠some b→w.heap[b]?=some y→w'.heap[b]?=some y
 at':old=some gb∨w.heap.size≤gb
 cells:∃cap c,v'=.slice (some ⟨gb,0,none⟩) ys.length cap∧w'.heap[gb]?=some (.cells c ty (0,0))∧ys.length≤cap∧cap≤maxLen∧c.size=cap*z∧bF R z c ys
theorem TS.rel {tmps:List PV}{objs:List Obj}{k ver:Nat}{ob:Obj}{ys:List PV}{v':Value}{w':World}{gb:Nat}(R:Rel base av w0 ⟨tmps,objs⟩ blk a w)(h1:objs[k]?=some ob)(h2:ob.live=true)(h3:ob.ver=ver)
  (hM:ob.ty≠MT) (L:TS ob.ty ob.sz (bJ w (bZ base objs blk) objs blk) (blk k) w ys v' w' gb) :
  Rel base av w0 ⟨tmps,objs.set k { ob with xs:=ys,ver:=ver+1 }⟩ (aI blk k (some gb)) a w'∧
  aY w' (bZ base (objs.set k { ob with xs:=ys,ver:=ver+1 }) (aI blk k (some gb))) (objs.set k { ob with xs:=ys,ver:=ver+1 }) (aI blk k (some gb)) (.bO k (ver+1)) v':=by
 obtain⟨cap,c,hv,z1,z2,z3,z4,z5⟩:=L.cells
 have hb:aI blk k (some gb) k=some gb:=by unfold aI;rw[if_pos rfl]
 constructor
 ·refine R.setObj L.sm (o':={ ob with xs:=ys,ver:=ver+1 }) h1 h2 h2 L.size L.kept (λg hg=>by cases hg;exact L.at') (by simp;omega) (λhv=>by simp at hv;omega) (λhr=>?_)
  refine MO (gb:=some gb) (R:=bJ w (bZ base objs blk) objs blk) hb ?_ hM hr
  exact⟨cap,c,z1,z2,z4,z5⟩
 ·refine⟨by rw[hv];rfl,{ ob with xs:=ys,ver:=ver+1 },?_,Nat.le_refl _,λ_ _=>⟨hM,?_⟩⟩
  ·rw[List.getElem?_set];simp[(List.getElem?_eq_some_iff.1 h1).1]
  ·unfold Ab
   rw[hb]
   exact⟨cap,c,hv,z1,z2,z3,z4⟩
theorem afR{R:PV→Value→Prop}{p q r:PV}{vs:List Value}(h:dB R [p,q,r] vs):∃u v x,vs=[u,v,x]∧R p u∧R q v∧R r x:=by
 obtain⟨hl,h⟩:=h
 match vs,hl with
 | [u,v,x],_=>exact⟨u,v,x,rfl,h 0 _ _ rfl rfl,h 1 _ _ rfl rfl,h 2 _ _ rfl rfl⟩
theorem IE{α:Type}(x:Option α):x=none∨∃g,x=some g:=by cases x with
 | none=>exact .inl rfl
 | some g=>exact .inr ⟨g,rfl⟩
def acF(z:Nat)(x:PV):Prop:=x.cells.length=z∧x.cells.all PV.storable=true
theorem aad{f:FuncId}{sT uT:TypeId}{ti:aH}{by':Nat}{objs:List Obj}{k ver:Nat}{ob:Obj}{x:PV}{k2 TT:Nat}{X6:Obj}{i:Nat}{tmps:List PV}(W:afQ P f sT uT ob.ty ob.sz by')(hu:P.underlying sT=some (.slice ob.ty))(hu2:P.underlying uT=some (.slice ob.ty))(hD:je P ob.ty ti)(hk:ti.kind≠.none)
  (hzl:(aL ti).cells.length=ti.size) (hzs:(aL ti).cells.all PV.storable=true) (hsz:ti.size=ob.sz) (hby:ti.bytes=by')
  (R:Rel base av w0 ⟨tmps,objs⟩ blk a w) (h1:objs[k]?=some ob) (h2:ob.live=true) (h3:ob.ver=ver)
  (g1:objs[k2]?=some X6) (g2:X6.live=true) (g3:X6.ver=TT) (g4:X6.sz=ob.sz) (g5:X6.xs=[x]) (hkk:k2≠k)
  (hall:∀y∈ob.xs,acF ob.sz y) (hx:acF ob.sz x) (hi:i≤ob.xs.length) (hb:(ob.xs.length+1)*by'≤140737488355328) (hbm:ob.xs.length+1≤1000000000){v0 v2:Value}
  (r0:aY w (bZ base objs blk) objs blk (.bO k ver) v0) (r2:aY w (bZ base objs blk) objs blk (.bO k2 TT) v2) :
  Calls P f #[v0,.int .i64 i,v2] w λe w'=>∃v' gb,e=.returned v'∧TS ob.ty ob.sz (bJ w (bZ base objs blk) objs blk) (blk k) w (ob.xs.take i++[x]++ob.xs.drop i) v' w' gb:=by
 have hty:=r0.vT h1 h2 h3
 have ah_:=r2.vT g1 g2 g3
 have hh:=r0.bO h1 h2 h3
 have hone:∀y,acF ob.sz y→∀p∈y.cells,∀v,bJ w (bZ base objs blk) objs blk p v→v.oneCell'=true:=λy hy p hp v hv=>(nI hv (List.all_eq_true.1 hy.2 p hp)).1
 obtain⟨vb,vc,Kq,rfl,hgv,hbk2,hvs,hvc,hcs⟩:∃vb vc Kq,v2=.slice (some ⟨vb,0,none⟩) 1 vc∧w.heap[vb]?=some (.cells Kq X6.ty (0,0))∧blk k2=some vb∧Kq.size=vc*ob.sz∧1≤vc∧bF (bJ w (bZ base objs blk) objs blk) ob.sz Kq [x]:=by
  have hr:=r2.bO g1 g2 g3
  unfold Ab at hr
  rcases IE (blk k2) with hbk | ⟨g,hbk⟩
  ·rw[hbk]at hr;rw[g5]at hr;exact absurd hr.2 (by simp)
  ·rw[hbk]at hr
   obtain⟨cap,c,rfl,x1,x2,x3,x4⟩:=hr
   obtain⟨c',y1,y2,y3⟩:=mW R g1 g2 hbk ah_
   rw[x1]at y1;cases y1
   rw[g4]at x4 y3
   rw[g5]at y3 x2 ⊢
   exact⟨g,cap,c,rfl,x1,hbk,x4,x2,y3⟩
 have aia:vb<w.heap.size:=(Array.getElem?_eq_some_iff.1 hgv).1
 obtain⟨ss,hss⟩:∃ss,ss=Kq.toList.take ob.sz:=⟨_,rfl⟩
 have aae:ss.length=ob.sz:=by
  rw[hss,List.length_take,Array.length_toList,hvs]
  have:=mul_le_mul_right ob.sz hvc
  rw[one_mul]at this
  omega
 have hcell:∀j v,ss[j]?=some v→w.cell? ⟨vb,0+j,none⟩=some v:=λj v hj=>by
  rw[hss,List.getElem?_take]at hj
  split at hj
  ·simp only[World.cell?,hgv,Nat.zero_add]
   simpa using hj
  ·cases hj
 have hcx:bF (bJ w (bZ base objs blk) objs blk) ob.sz ⟨ss⟩ [x]:=by
  have:=bF.take hcs
  rw[show [x].length*ob.sz=ob.sz from one_mul _,←hss]at this
  exact this
 have hso:∀v∈ss,v.oneCell'=true:=cells_one hcx (by rw[aae];exact (one_mul _).symm) (λy hy=>hone y (by rw[List.mem_singleton.1 hy];exact hx))
 by_cases hin:i=ob.xs.length
 ·subst hin
  have hfin:ob.xs.take ob.xs.length++[x]++ob.xs.drop ob.xs.length=ob.xs++[x]:=by simp
  rw[hfin]
  obtain⟨v',w',gb,q1,q2,q3,q4,q5⟩:=xS (ty:=sT) (R:=bJ w (bZ base objs blk) objs blk) (gOld:=blk k) (v:=v0) (x:=.slice (some ⟨vb,0,none⟩) 1 vc) (xs:=ob.xs) (ys:=[x]) (news:=ss) hu hD hk hzl hzs (by
   unfold Ab at hh
   rcases IE (blk k) with hbk | ⟨g,hbk⟩
   ·rw[hbk]at hh ⊢;exact hh
   ·rw[hbk]at hh ⊢
    obtain⟨cap,c,hv,x1,x2,x3,x4⟩:=hh
    obtain⟨c',y1,y2,y3⟩:=mW R h1 h2 hbk hty
    rw[x1]at y1;cases y1
    exact⟨cap,c,hv,x1,x2,x3,by rw[hsz];exact x4,by rw[hsz];exact y3⟩) (by rw[hsz];exact Src.ofSlice w hu2 ⟨vb,0,none⟩ 1 vc ss (by rw[aae];exact (one_mul _).symm) (λj u hj=>by rw[Addr.add_lit];exact hcell j u hj) hso) (by rw[hsz];exact hcx) (by rw[hby];exact hb) (by simp;omega)
  have hnn:ob.xs++[x]≠[]:=by simp
  have hL:∃gb,TS ob.ty ob.sz (bJ w (bZ base objs blk) objs blk) (blk k) w (ob.xs++[x]) v' w' gb:=by
   cases gb with
   | none=>exact absurd q5.2 hnn
   | some g=>exact⟨g,q2.1,q2.2,q3,q4 g rfl,by rw[hsz]at q5;exact q5⟩
  obtain⟨gb',hL⟩:=hL
  have fin:∀base' n c,v0=.slice base' n c→n=ob.xs.length→(base'=none→n=0∧c=0)→n≤c→c≤9223372036854775807→
      Calls P f #[v0,.int .i64 ob.xs.length,.slice (some ⟨vb,0,none⟩) 1 vc] w λe w'=>∃v' gb,e=.returned v'∧TS ob.ty ob.sz (bJ w (bZ base objs blk) objs blk) (blk k) w (ob.xs++[x]) v' w' gb:=by
   intro base' n c ev en hn hnc hc
   subst ev;subst en
   refine (W.fin base' _ c vb 0 vc w w' v' hn hnc hc λty'=>q1).mono λe w1 ⟨e1,e2⟩=>?_
   subst e2
   exact⟨v',gb',e1,hL⟩
  unfold Ab at hh
  rcases IE (blk k) with hbk | ⟨g,hbk⟩
  ·rw[hbk]at hh;exact fin none 0 0 hh.1 (by rw[hh.2];rfl) (λ_=>⟨rfl,rfl⟩) (Nat.le_refl _) (by decide)
  ·rw[hbk]at hh
   obtain⟨cap,c,hv,x1,x2,x3,x4⟩:=hh
   exact fin _ _ _ hv rfl (λh=>by cases h) x2 (by unfold maxLen at x3;omega)
 ·have hlt:i<ob.xs.length:=by omega
  unfold Ab at hh
  rcases IE (blk k) with hbk | ⟨g,hbk⟩
  ·rw[hbk]at hh;rw[hh.2]at hlt;simp at hlt
  ·rw[hbk]at hh
   obtain⟨cap,c,rfl,x1,x2,x3,x4⟩:=hh
   obtain⟨c',y1,y2,y3⟩:=mW R h1 h2 hbk hty
   rw[x1]at y1;cases y1
   have hc63:cap≤9223372036854775807:=by unfold maxLen at x3;omega
   have hvg:vb≠g:=λe=>R.objs.KL k2 k X6 ob vb hkk g1 g2 h1 h2 hbk2 (by rw[hbk,e])
   have m1:(i+1)*ob.sz≤ob.xs.length*ob.sz:=mul_le_mul_right _ hlt
   have m2:ob.xs.length*ob.sz≤cap*ob.sz:=mul_le_mul_right _ x2
   have e1:=succ_mul i ob.sz
   have e2:=succ_mul ob.xs.length ob.sz
   rw[e1]at m1
   have hml:(mid c i ob.xs.length ob.sz).length=ob.xs.length*ob.sz-i*ob.sz:=by
    unfold mid
    rw[List.length_drop,List.length_take,Array.length_toList,x4]
    omega
   have hoc:∀v∈c.toList.take (ob.xs.length*ob.sz),v.oneCell'=true:=by
    refine cells_one (bF.take y3) ?_ (λy hy=>hone y (hall y hy))
    rw[List.length_take,Array.length_toList,x4]
    omega
   have aho:∀v∈mid c i ob.xs.length ob.sz,v.oneCell'=true:=λv hv=>hoc v (List.mem_of_mem_drop hv)
   have hdg:∀q,i*ob.sz≤q→q<ob.xs.length*ob.sz→(mid c i ob.xs.length ob.sz)[q-i*ob.sz]?=c[q]?:=λq hq1 hq2=>by
    unfold mid
    rw[List.getElem?_drop,List.getElem?_take,show i*ob.sz+(q-i*ob.sz)=q by omega,if_pos hq2];simp
   have hyl:(ob.xs.take i++[x]++ob.xs.drop i).length=ob.xs.length+1:=by simp;omega
   have hmax:ob.xs.length+1≤maxLen:=by unfold maxLen;omega
   by_cases hroom:ob.xs.length+1≤cap
   ·have m3:(ob.xs.length+1)*ob.sz≤cap*ob.sz:=mul_le_mul_right _ hroom
    rw[e2]at m3
    refine (W.shift g ob.xs.length cap i vb 0 vc c Kq X6.ty ss w hlt hroom hc63 x1 x4 hgv hvg aae hcell hso aho).mono λe w' ⟨he,hw⟩=>?_
    refine⟨_,g,he,?_⟩
    rw[e1]at hw
    have hf1:i*ob.sz+ob.sz+(mid c i ob.xs.length ob.sz).length≤c.size:=by rw[hml,x4];omega
    generalize TU:spl c (i*ob.sz+ob.sz) (mid c i ob.xs.length ob.sz)=jy at hw
    have hs1:jy.size=c.size:=by rw[←TU];exact vI hf1
    have hg1:=λq=>TU ▸ IC hf1 q
    have hf2:i*ob.sz+ss.length≤jy.size:=by rw[hs1,x4,aae];omega
    generalize TV:spl jy (i*ob.sz) ss=cur2 at hw
    have hs2:cur2.size=jy.size:=by rw[←TV];exact vI hf2
    have hg2:=λq=>TV ▸ IC hf2 q
    subst hw
    have hgd:w.drew.heap[g]?=some (.cells c ob.ty (0,0)):=x1
    have hh1:(w.drew.setRow g jy).heap[g]?=some (.cells jy ob.ty (0,0)):=setRow_heap w.drew g c jy ob.ty (0,0) hgd
    refine⟨by rw[setRow_size,setRow_size];exact Nat.le_refl _,⟨rfl,rfl⟩,λb y hb hy=>?_,.inl hbk,cap,cur2,by rw[hyl],setRow_heap _ g jy cur2 ob.ty (0,0) hh1,by rw[hyl];exact hroom,x3,by rw[hs2,hs1,x4],?_⟩
    ·have hbg:b≠g:=λe=>hb (by rw[hbk,e])
     rw[setRow_other _ g b _ hbg,setRow_other _ g b _ hbg];exact hy
    ·refine bF.ahn y3 hcx hi (λq hq=>?_) (λq hq=>?_) (λq hq1 hq2=>?_)
     ·rw[hg2,if_pos hq,hg1,if_pos (by omega)]
     ·rw[hg2,if_neg (by omega),if_pos (by omega),Nat.add_sub_cancel_left]
     ·rw[hg2,if_neg (by omega),if_neg (by omega),hg1,if_neg (by omega),if_pos (by omega)]
      rw[←hdg q hq1 hq2];congr 1;omega
   ·obtain⟨row,hrs,hrg,hC⟩:=W.grow g ob.xs.length cap i vb 0 vc c ss w hlt x2 (by omega) hb x1 x4 aia aae hcell hso aho
    refine hC.mono λe w' ⟨he,hw⟩=>?_
    refine⟨_,w.heap.size,he,?_⟩
    have hGn:=grownCap_ge w (ob.xs.length+1) cap ob.ty
    have hGm:=grownCap_le_maxLen w (ob.xs.length+1) cap ob.ty hmax
    generalize grownCap w (ob.xs.length+1) cap ob.ty=G at hrs hGn hGm ⊢
    have m3:(ob.xs.length+1)*ob.sz≤G*ob.sz:=mul_le_mul_right _ hGn
    rw[e2]at m3
    rw[e1]at hw
    have hf1:i*ob.sz+ss.length≤row.size:=by rw[hrs,aae];omega
    generalize TU:spl row (i*ob.sz) ss=jy at hw
    have hs1:jy.size=row.size:=by rw[←TU];exact vI hf1
    have hg1:=λq=>TU ▸ IC hf1 q
    have hf2:i*ob.sz+ob.sz+(mid c i ob.xs.length ob.sz).length≤jy.size:=by rw[hml,hs1,hrs];omega
    generalize TV:spl jy (i*ob.sz+ob.sz) (mid c i ob.xs.length ob.sz)=cur2 at hw
    have hs2:cur2.size=jy.size:=by rw[←TV];exact vI hf2
    have hg2:=λq=>TV ▸ IC hf2 q
    subst hw
    have hN:(w.drew.alloc (.cells row ob.ty)).heap[w.heap.size]?=some (.cells row ob.ty (0,0)):=heap_alloc_new w.drew _
    have hN1:(((w.drew.alloc (.cells row ob.ty)).setRow w.heap.size jy).drew).heap[w.heap.size]?=some (.cells jy ob.ty (0,0)):=setRow_heap _ w.heap.size row jy ob.ty (0,0) hN
    have hgr:lS w (w.drew.alloc (.cells row ob.ty)):=.push rfl
    refine⟨by rw[setRow_size];show w.heap.size≤((w.drew.alloc (.cells row ob.ty)).setRow w.heap.size jy).heap.size;rw[setRow_size];exact hgr.1,hgr.2.2,λb y hb hy=>?_,.inr (Nat.le_refl _),G,cur2,by rw[hyl],setRow_heap _ w.heap.size jy cur2 ob.ty (0,0) hN1,by rw[hyl];exact hGn,hGm,by rw[hs2,hs1,hrs],?_⟩
    ·have hbs:b≠w.heap.size:=by have:=(Array.getElem?_eq_some_iff.1 hy).1;omega
     rw[setRow_other _ w.heap.size b _ hbs]
     show ((w.drew.alloc (.cells row ob.ty)).setRow w.heap.size jy).heap[b]?=some y
     rw[setRow_other _ w.heap.size b _ hbs]
     exact hgr.2.1 b y hy
    ·refine bF.ahn y3 hcx hi (λq hq=>?_) (λq hq=>?_) (λq hq1 hq2=>?_)
     ·rw[hg2,if_pos (by omega),hg1,if_pos hq,hrg q hq]
     ·rw[hg2,if_pos (by omega),hg1,if_neg (by omega),if_pos (by omega),Nat.add_sub_cancel_left]
     ·rw[hg2,if_neg (by omega),if_pos (by omega),←hdg q hq1 hq2]
      congr 1;omega
theorem acG{f:FuncId}{sT uT:TypeId}{ti:aH}{by':Nat}{objs:List Obj}{k ver:Nat}{ob:Obj}{x:PV}{k2 TT:Nat}{X6:Obj}{i:Nat}(W:afQ P f sT uT ob.ty ob.sz by')(hu:P.underlying sT=some (.slice ob.ty))(hu2:P.underlying uT=some (.slice ob.ty))(hD:je P ob.ty ti)(hk:ti.kind≠.none)
  (hzl:(aL ti).cells.length=ti.size) (hzs:(aL ti).cells.all PV.storable=true) (hsz:ti.size=ob.sz) (hby:ti.bytes=by')
  (h1:objs[k]?=some ob) (h2:ob.live=true) (h3:ob.ver=ver)
  (g1:objs[k2]?=some X6) (g2:X6.live=true) (g3:X6.ver=TT) (g4:X6.sz=ob.sz) (g5:X6.xs=[x]) (hkk:k2≠k)
  (hall:∀y∈ob.xs,acF ob.sz y) (hx:acF ob.sz x) (hi:i≤ob.xs.length) (hb:(ob.xs.length+1)*by'≤140737488355328) (hbm:ob.xs.length+1≤1000000000) :
  Xl P f [.bO k ver,.int .i64 i,.bO k2 TT] objs (.bO k (ver+1)) (objs.set k { ob with xs:=ob.xs.take i++[x]++ob.xs.drop i,ver:=ver+1 }):=by
 refine⟨W.ent,by simp,λbase av w0 tmps blk a w vs R hargs=>?_⟩
 obtain⟨v0,v1,v2,rfl,r0,r1,r2⟩:=afR hargs
 have e1:=r1.int
 subst e1
 refine (aad W hu hu2 hD hk hzl hzs hsz hby R h1 h2 h3 g1 g2 g3 g4 g5 hkk hall hx hi hb hbm r0 r2).mono λe w' ⟨v',gb,he,L⟩=>?_
 obtain⟨e3,e4⟩:=L.rel R h1 h2 h3 (r0.vT h1 h2 h3)
 exact⟨v',_,he,e3,e4⟩
end
end Lp
namespace Lp
open Go Go.Proofs Go.Lib Go.RowKit
theorem aaf:Tryz.prog.underlying 23=some (.slice 51):=by kernel_rfl
theorem ae1:Tryz.prog.underlying 22=some (.slice 51):=by kernel_rfl
theorem ahp:∃inf,Tryz.prog.info? 51=some inf∧inf.zero=some (Value.agg ⟨[.int .i64 0,.int .i64 0,.string ⟨⟨[]⟩⟩,.string ⟨⟨[]⟩⟩,.int .i64 0,.int .i64 0,.int .i64 0,.string ⟨⟨[]⟩⟩,.string ⟨⟨[]⟩⟩,.bool false,.int .i64 0]⟩)∧inf.size=11∧inf.bytes=120:=⟨_,rfl,rfl,rfl,rfl⟩
theorem afS(g n c i vb voff vc:Nat)(cur Kq:Array Value)(tv:TypeId)(ss:List Value)(w:World)(hi:i<n)(hroom:n+1≤c)(hc63:c≤9223372036854775807)
  (hg:w.heap[g]?=some (.cells cur 51 (0,0))) (hcur:cur.size=c*11) (hgv:w.heap[vb]?=some (.cells Kq tv (0,0))) (hvb:vb≠g) (hsl:ss.length=11)
  (hx:∀j v,ss[j]?=some v→w.cell? ⟨vb,voff+j,none⟩=some v) (os:∀v∈ss,v.oneCell'=true) (oc:∀v∈mid cur i n 11,v.oneCell'=true) :
  Calls Tryz.prog 29 #[.slice (some ⟨g,0,none⟩) n c,.int .i64 i,.slice (some ⟨vb,voff,none⟩) 1 vc] w λe w'=>
   e=.returned (.slice (some ⟨g,0,none⟩) (n+1) c)∧w'=(w.drew.setRow g (spl cur ((i+1)*11) (mid cur i n 11))).setRow g (spl (spl cur ((i+1)*11) (mid cur i n 11)) (i*11) ss):=by
 have mixed:Tryz.prog.follows .mixedOrders=true:=by kernel_rfl
 have hml:(mid cur i n 11).length=(n-i)*11:=by simp[mid,hcur];omega
 have hz2:¬ ((i:Int)=(n:Int)):=by omega
 have hov:∀off lb cb,(callFunc 64 #[.slice (some ⟨vb,voff,none⟩) 1 vc,.slice (some ⟨g,off,none⟩) lb cb]).run Tryz.prog w=.ok (.value (.bool false)) w:=λoff lb cb=>by
  rw[run_callFunc_extern Tryz.func64 (by kernel_rfl) (by kernel_rfl) (by kernel_rfl) (e:=Extern.SlicesOverlaps.overlaps #[22,22] #[4]) (by kernel_rfl),
   Lib.run_overlaps_apart w 22 4 51 ae1 11 Tryz.sizeOf51 ⟨vb,voff,none⟩ ⟨g,off,none⟩ 1 vc lb cb hvb tv 51 Kq.size cur.size (by simp[World.shape?,hgv]) (by simp[World.shape?,hg]) (by omega) (GN hgv _) (GN hgv _)]
  rfl
 obtain⟨inf,hi0,hz0,hzs,hzb⟩:=ahp
 have hg':w.drew.heap[g]?=some (.cells cur 51 (0,0)):=hg
 have hcp1:∀ty dc sc,(Builtin.copy_ #[23,23] ty #[.slice (some ⟨g,(i+1)*11,none⟩) (n-i) dc,.slice (some ⟨g,i*11,none⟩) (n+1-i) sc]).run Tryz.prog w.drew=.ok (goInt (n-i:Nat)) (w.drew.setRow g (spl cur ((i+1)*11) (mid cur i n 11))):=λty dc sc=>by
  refine o8 w.drew 23 23 ty 51 inf g ((i+1)*11) (n-i) dc ⟨g,i*11,none⟩ (n+1-i) sc (n-i) cur 51 _ aaf hi0 hg' (by simp only[Nat.min_def];split<;>omega) (by rw[hzs];omega) (λj v hj=>?_) (by omega) oc
  rw[Addr.add_lit]
  simp only[World.cell?,hg']
  unfold mid at hj
  rw[List.getElem?_drop,List.getElem?_take]at hj
  split at hj
  ·simpa using hj
  ·cases hj
 have acH:(spl cur ((i+1)*11) (mid cur i n 11)).size=c*11:=by rw[vI (by omega)];omega
 generalize spl cur ((i+1)*11) (mid cur i n 11)=jy at hcp1 acH ⊢
 have hg1:(w.drew.setRow g jy).heap[g]?=some (.cells jy 51 (0,0)):=setRow_heap w.drew g cur jy 51 (0,0) hg'
 have hcp2:∀ty dc,(Builtin.copy_ #[23,22] ty #[.slice (some ⟨g,i*11,none⟩) (n+1-i) dc,.slice (some ⟨vb,voff,none⟩) 1 vc]).run Tryz.prog (w.drew.setRow g jy)=.ok (goInt (1:Nat)) ((w.drew.setRow g jy).setRow g (spl jy (i*11) ss)):=λty dc=>by
  refine o8 _ 23 22 ty 51 inf g (i*11) (n+1-i) dc ⟨vb,voff,none⟩ 1 vc 1 jy 51 ss aaf hi0 hg1 (by simp only[Nat.min_def];split<;>omega) (by rw[hzs];omega) (λj v hj=>?_) (by omega) os
  rw[Addr.add_lit]
  have e:(w.drew.setRow g jy).heap[vb]?=w.heap[vb]?:=setRow_other w.drew g vb jy hvb
  have:(w.drew.setRow g jy).cell? ⟨vb,voff+j,none⟩=w.cell? ⟨vb,voff+j,none⟩:=by simp only[World.cell?,e]
  rw[this]
  exact hx j v hj
 generalize spl jy (i*11) ss=cur2 at hcp2 ⊢
 have hw1:IntKind.i64.wrap ((i:Int)+1)=(i:Int)+1:=by rw[IntKind.wrap_i64];omega
 have hb1:(0:Int)≤(i:Int)+1:=by omega
 have hin:i≤n:=by omega
 have htn:((i:Int)+1).toNat=i+1:=by omega
 have hb2:¬ (c=i+1):=by omega
 have hb3:(i:Int)≤(n:Int)+1:=by omega
 have hb4:¬ (c=i):=by omega
 have hb5:n+1-(i+1)=n-i:=by omega
 clear hml acH hsl
 go_enter Tryz.func29,Tryz.ntmps29
 go_wp2_with (simp only[hov])
 go_region_law_o (refine step_copy_runI rfl _ _ 23 23 rfl _ _ (by simp[Act.eval,Act.put]) (by simp[Act.eval,Act.put]) (hcp1 _ _ _) ?_)
 go_wp2_with (at_builtin;refine wpList_copy_runI _ rfl _ _ 23 22 rfl _ _ rfl rfl (hcp2 _ _) ?_)
 go_ret
 exact⟨rfl,rfl⟩
theorem aib(base:Option Addr)(n c vb voff vc:Nat)(w w':World)(v':Value)(hnil:base=none→n=0∧c=0)(hnc:n≤c)(hc63:c≤9223372036854775807)
  (hrun:∀ty,(Builtin.append_ #[23,22] ty #[.slice base n c,.slice (some ⟨vb,voff,none⟩) 1 vc]).run Tryz.prog w=.ok v' w') :
  Calls Tryz.prog 29 #[.slice base n c,.int .i64 n,.slice (some ⟨vb,voff,none⟩) 1 vc] w λe w1=>e=.returned v'∧w1=w':=by
 have mixed:Tryz.prog.follows .mixedOrders=true:=by kernel_rfl
 cases base with
 | none=>
  obtain⟨rfl,rfl⟩:=hnil rfl
  go_enter Tryz.func29,Tryz.ntmps29
  go_wp2_with (at_builtin;refine Lib.wpList_append_run _ rfl _ _ _ _ rfl _ _ rfl rfl _ _ (hrun _) ?_)
  go_ret
  exact⟨rfl,rfl⟩
 | some a=>
  obtain⟨ab,ao,asp⟩:=a
  clear hnil
  go_enter Tryz.func29,Tryz.ntmps29
  go_wp2_with (at_builtin;refine Lib.wpList_append_run _ rfl _ _ _ _ rfl _ _ rfl rfl _ _ (hrun _) ?_)
  all_goals (go_ret;exact⟨rfl,rfl⟩)
theorem ahq(g n c i vb voff vc:Nat)(cur:Array Value)(ss:List Value)(w:World)(hi:i<n)(hnc:n≤c)(hroom:c<n+1)(hbig:(n+1)*120≤140737488355328)
  (hg:w.heap[g]?=some (.cells cur 51 (0,0))) (hcur:cur.size=c*11) (hvb:vb<w.heap.size) (hsl:ss.length=11)
  (hx:∀j v,ss[j]?=some v→w.cell? ⟨vb,voff+j,none⟩=some v) (os:∀v∈ss,v.oneCell'=true) (oc:∀v∈mid cur i n 11,v.oneCell'=true) :
  ∃row:Array Value,row.size=grownCap w (n+1) c 51*11∧(∀q,q<i*11→row[q]?=cur[q]?)∧
   Calls Tryz.prog 29 #[.slice (some ⟨g,0,none⟩) n c,.int .i64 i,.slice (some ⟨vb,voff,none⟩) 1 vc] w λe w'=>
    e=.returned (.slice (some ⟨w.heap.size,0,none⟩) (n+1) (grownCap w (n+1) c 51))∧
    w'=((((w.drew.alloc (.cells row 51)).setRow w.heap.size (spl row (i*11) ss)).drew).setRow w.heap.size (spl (spl row (i*11) ss) ((i+1)*11) (mid cur i n 11))):=by
 have mixed:Tryz.prog.follows .mixedOrders=true:=by kernel_rfl
 obtain⟨inf,hi0,hz0,hzs,hzb⟩:=ahp
 have hgw:g<w.heap.size:=(Array.getElem?_eq_some_iff.1 hg).1
 have hz2:¬ ((i:Int)=(n:Int)):=by omega
 have hz3:(c:Int)<(n:Int)+1:=by omega
 have hik:i+(n+1-i)=n+1:=by omega
 have hkk:(n:Int)+1-(i:Int)=((n+1-i:Nat):Int):=by omega
 have hold:(Builtin.firstCells inf.size i (.slice (some ⟨g,0,none⟩) i c)).run Tryz.prog w.drew=.ok (cur.toList.take (i*11)).toArray w.drew:=by
  rw[hzs]
  refine run_firstCells_some w.drew 11 i ⟨g,0,none⟩ i c (cur.toList.take (i*11)) (by rw[List.length_take,Array.length_toList,hcur];omega) (λj v hj=>?_)
  rw[List.getElem?_take]at hj
  split at hj
  ·rw[add_lit]
   have:(w.drew.heap)[g]?=some (.cells cur 51 (0,0)):=hg
   simp only[World.cell?,this]
   simpa using hj
  ·cases hj
 have hGn:n+1≤grownCap w (n+1) c 51:=grownCap_ge w _ _ _
 have hG63:grownCap w (n+1) c 51≤9223372036854775807:=by
  have:=grownCap_le_maxLen w (n+1) c 51 (by unfold maxLen;omega)
  unfold maxLen at this
  omega
 have hrz:∀ty,(Builtin.append_ #[23,3] ty #[.slice (some ⟨g,0,none⟩) i c,.int .i64 ((n:Int)+1-(i:Int))]).run Tryz.prog w=
     .ok (.slice (some ⟨w.heap.size,0,none⟩) (n+1) (grownCap w (n+1) c 51)) (w.drew.alloc (.cells ((cur.toList.take (i*11)).toArray++Builtin.zeroCells (Value.agg ⟨[.int .i64 0,.int .i64 0,.string ⟨⟨[]⟩⟩,.string ⟨⟨[]⟩⟩,.int .i64 0,.int .i64 0,.int .i64 0,.string ⟨⟨[]⟩⟩,.string ⟨⟨[]⟩⟩,.bool false,.int .i64 0]⟩).cells (n+1-i)++Builtin.zeroCells (Value.agg ⟨[.int .i64 0,.int .i64 0,.string ⟨⟨[]⟩⟩,.string ⟨⟨[]⟩⟩,.int .i64 0,.int .i64 0,.int .i64 0,.string ⟨⟨[]⟩⟩,.string ⟨⟨[]⟩⟩,.bool false,.int .i64 0]⟩).cells (grownCap w (n+1) c 51-(n+1))) 51)):=λty=>by
  have h:=Lib.run_append_grow_zeros (P:=Tryz.prog) w 23 3 ty 51 inf _ .i64 .i64 aaf (by kernel_rfl) hi0 hz0 (some ⟨g,0,none⟩) i c (cur.toList.take (i*11)) hold (n+1-i) (by omega) (by omega) (by omega) (by omega) (by rw[hzb];omega) (by rw[hzb,hik];exact growslice_fits hroom hbig)
  rw[hik]at h
  rw[hkk]
  exact h
 generalize grownCap w (n+1) c 51=G at *
 have hrg:∀q,q<i*11→((cur.toList.take (i*11)).toArray++Builtin.zeroCells (Value.agg ⟨[.int .i64 0,.int .i64 0,.string ⟨⟨[]⟩⟩,.string ⟨⟨[]⟩⟩,.int .i64 0,.int .i64 0,.int .i64 0,.string ⟨⟨[]⟩⟩,.string ⟨⟨[]⟩⟩,.bool false,.int .i64 0]⟩).cells (n+1-i)++Builtin.zeroCells (Value.agg ⟨[.int .i64 0,.int .i64 0,.string ⟨⟨[]⟩⟩,.string ⟨⟨[]⟩⟩,.int .i64 0,.int .i64 0,.int .i64 0,.string ⟨⟨[]⟩⟩,.string ⟨⟨[]⟩⟩,.bool false,.int .i64 0]⟩).cells (G-(n+1)))[q]?=cur[q]?:=λq hq=>by
  rw[Array.getElem?_append_left (by simp[Builtin.zeroCells,Value.cells,hcur];omega),Array.getElem?_append_left (by simp[hcur];omega)]
  rw[List.getElem?_toArray,List.getElem?_take,if_pos hq];simp
 have hrs:((cur.toList.take (i*11)).toArray++Builtin.zeroCells (Value.agg ⟨[.int .i64 0,.int .i64 0,.string ⟨⟨[]⟩⟩,.string ⟨⟨[]⟩⟩,.int .i64 0,.int .i64 0,.int .i64 0,.string ⟨⟨[]⟩⟩,.string ⟨⟨[]⟩⟩,.bool false,.int .i64 0]⟩).cells (n+1-i)++Builtin.zeroCells (Value.agg ⟨[.int .i64 0,.int .i64 0,.string ⟨⟨[]⟩⟩,.string ⟨⟨[]⟩⟩,.int .i64 0,.int .i64 0,.int .i64 0,.string ⟨⟨[]⟩⟩,.string ⟨⟨[]⟩⟩,.bool false,.int .i64 0]⟩).cells (G-(n+1))).size=G*11:=by
  simp[Builtin.zeroCells,Value.cells,hcur]
  omega
 generalize (cur.toList.take (i*11)).toArray++Builtin.zeroCells (Value.agg ⟨[.int .i64 0,.int .i64 0,.string ⟨⟨[]⟩⟩,.string ⟨⟨[]⟩⟩,.int .i64 0,.int .i64 0,.int .i64 0,.string ⟨⟨[]⟩⟩,.string ⟨⟨[]⟩⟩,.bool false,.int .i64 0]⟩).cells (n+1-i)++Builtin.zeroCells (Value.agg ⟨[.int .i64 0,.int .i64 0,.string ⟨⟨[]⟩⟩,.string ⟨⟨[]⟩⟩,.int .i64 0,.int .i64 0,.int .i64 0,.string ⟨⟨[]⟩⟩,.string ⟨⟨[]⟩⟩,.bool false,.int .i64 0]⟩).cells (G-(n+1))=row at hrz hrg hrs
 refine⟨row,hrs,hrg,?_⟩
 have hml:(mid cur i n 11).length=(n-i)*11:=by simp[mid,hcur];omega
 obtain⟨W1,hW1⟩:∃W1,W1=w.drew.alloc (.cells row 51):=⟨_,rfl⟩
 have hN:W1.heap[w.heap.size]?=some (.cells row 51 (0,0)):=by rw[hW1];exact heap_alloc_new w.drew _
 have hO:∀b,b<w.heap.size→W1.heap[b]?=w.heap[b]?:=λb hb=>by
  rw[hW1]
  show (w.drew.heap.push _)[b]?=_
  rw[Array.getElem?_push,if_neg (show ¬ b=w.drew.heap.size from by show ¬ b=w.heap.size;omega)]
  rfl
 rw[←hW1]at hrz ⊢
 have hcpA:∀ty dc,(Builtin.copy_ #[23,22] ty #[.slice (some ⟨w.heap.size,i*11,none⟩) (n+1-i) dc,.slice (some ⟨vb,voff,none⟩) 1 vc]).run Tryz.prog W1=.ok (goInt (1:Nat)) (W1.setRow w.heap.size (spl row (i*11) ss)):=λty dc=>by
  refine o8 _ 23 22 ty 51 inf w.heap.size (i*11) (n+1-i) dc ⟨vb,voff,none⟩ 1 vc 1 row 51 ss aaf hi0 hN (by simp only[Nat.min_def];split<;>omega) (by rw[hzs];omega) (λj v hj=>?_) (by omega) os
  rw[Addr.add_lit]
  have:W1.cell? ⟨vb,voff+j,none⟩=w.cell? ⟨vb,voff+j,none⟩:=by simp only[World.cell?,hO vb hvb]
  rw[this]
  exact hx j v hj
 have acH:(spl row (i*11) ss).size=G*11:=by rw[vI (by omega)];omega
 generalize spl row (i*11) ss=jy at hcpA acH ⊢
 have hN1:((W1.setRow w.heap.size jy).drew).heap[w.heap.size]?=some (.cells jy 51 (0,0)):=setRow_heap W1 w.heap.size row jy 51 (0,0) hN
 have hcpB:∀ty dc sc,(Builtin.copy_ #[23,23] ty #[.slice (some ⟨w.heap.size,(i+1)*11,none⟩) (n-i) dc,.slice (some ⟨g,i*11,none⟩) (n-i) sc]).run Tryz.prog ((W1.setRow w.heap.size jy).drew)=.ok (goInt (n-i:Nat)) (((W1.setRow w.heap.size jy).drew).setRow w.heap.size (spl jy ((i+1)*11) (mid cur i n 11))):=λty dc sc=>by
  refine o8 _ 23 23 ty 51 inf w.heap.size ((i+1)*11) (n-i) dc ⟨g,i*11,none⟩ (n-i) sc (n-i) jy 51 _ aaf hi0 hN1 (by simp) (by rw[hzs];omega) (λj v hj=>?_) (by omega) oc
  rw[Addr.add_lit]
  have e:((W1.setRow w.heap.size jy).drew).heap[g]?=some (.cells cur 51 (0,0)):=by
   have:((W1.setRow w.heap.size jy).drew).heap[g]?=W1.heap[g]?:=setRow_other W1 w.heap.size g jy (by omega)
   rw[this,hO g hgw];exact hg
  simp only[World.cell?,e]
  unfold mid at hj
  rw[List.getElem?_drop,List.getElem?_take]at hj
  split at hj
  ·simpa using hj
  ·cases hj
 generalize spl jy ((i+1)*11) (mid cur i n 11)=cur2 at hcpB ⊢
 have hGi:¬ (G=i):=by omega
 have hGim:¬ (G=i+1):=by omega
 have hci:¬ (c=i):=by omega
 have hw1:IntKind.i64.wrap ((i:Int)+1)=(i:Int)+1:=by rw[IntKind.wrap_i64];omega
 have hw2:IntKind.i64.wrap ((n:Int)+1)=(n:Int)+1:=by rw[IntKind.wrap_i64];omega
 have hw3:IntKind.i64.wrap ((n:Int)+1-(i:Int))=(n:Int)+1-(i:Int):=by rw[IntKind.wrap_i64];omega
 have hb1:(0:Int)≤(i:Int)+1:=by omega
 have hin:i≤n:=by omega
 have htn:((i:Int)+1).toNat=i+1:=by omega
 have hb3:(i:Int)≤(n:Int):=by omega
 have hb5:n+1-(i+1)=n-i:=by omega
 clear hkk hik hold hrs hrg hml acH hW1 hN hN1 hO hsl
 go_enter Tryz.func29,Tryz.ntmps29
 go_wp2_with (first
  | (at_builtin;refine Lib.wpList_append_run _ rfl _ _ _ _ rfl _ _ rfl rfl _ _ (hrz _) ?_)
  | (at_builtin;refine wpList_copy_runI _ rfl _ _ 23 22 rfl _ _ rfl rfl (hcpA _ _) ?_))
 go_region_law_o (refine step_copy_runI rfl _ _ 23 23 rfl _ _ (by simp[Act.eval,Act.put]) (by simp[Act.eval,Act.put]) (hcpB _ _ _) ?_)
 go_wp2
 go_ret
 exact⟨rfl,rfl⟩
theorem ahr:afQ Tryz.prog 29 23 22 51 11 120:=⟨⟨_,Tryz.func29,by kernel_rfl,by kernel_rfl⟩,afS,aib,ahq⟩
end Lp
namespace Lp
open Go Go.Proofs
theorem Kr(d n:Nat)(O:List Obj)(t:TypeId)(sz:Nat)(x:dR)(ver:Nat):f_ d n O ⟨t,sz,[aP x],true,ver⟩=⟨t,sz,[aP x],true,ver⟩:=adL d n O t sz [x] ver
theorem acI:∀d X v,eZ d 2 X (.bO 1 v)=.bO 1 v:=λ_ _ _=>rfl
theorem ad1(o:Obj)(x:dR)(q:aD)(ver:Nat)(t:TypeId)(rest:List Obj):eZ 1 0 (o::⟨t,11,aP x::q.map aP,true,ver⟩::rest) (.bO 1 ver)=ay (x::q):=by
 have e:(aP x::q.map aP).map (PV.bL (gX 0 0 (o::⟨t,11,aP x::q.map aP,true,ver⟩::rest)))=aP x::q.map aP:=Em _ (λ_=>rfl) (x::q)
 simp only[eZ,Nat.not_lt_zero,if_false,gX,List.getElem?_cons_succ,List.getElem?_cons_zero,Nat.zero_le,decide_true,Bool.true_and,beq_self_eq_true,if_true,e]
 rfl
end Lp
namespace Lp
open Go Go.Proofs
def IG:dD:=λargs objs K=>match args with
 | [.bO k ver,.int .i64 i,.bO k2 TT]=>∃o,objs[k]?=some o∧o.live=true∧o.ver=ver∧o.sz=11∧o.ty=51∧ofR aP o.xs (HK.mk:HK λl=>∃o2,objs[k2]?=some o2∧o2.live=true∧o2.ver=TT∧o2.sz=11∧¬ k2=k∧ofR aP o2.xs (HK.mk:HK λfs=>∃f,fs=[f]∧
     0≤i∧i.toNat≤l.length∧l.length≤1000000∧K (.bO k (ver+1)) (objs.set k ⟨51,11,(l.take i.toNat++[f]++l.drop i.toNat).map aP,true,ver+1⟩) 2))
 | _=>False
theorem WS:aC Tryz.prog 29 IG:=by
 intro args objs K h
 unfold IG at h
 split at h
 ·rename_i k ver i k2 TT
  obtain⟨o,h1,h2,h3,h4,h5,l,h6,o2,g1,g2,g3,g4,hkk,fs,g5,f,rfl,h7,h8,h9,h10⟩:=h
  obtain⟨n,rfl⟩:∃n:Nat,i=n:=⟨i.toNat,by omega⟩
  rw[Int.toNat_natCast]at h8 h10
  obtain⟨ty,sz,xs,live,vr⟩:=o
  simp only[]at h2 h3 h4 h5 h6
  subst h2;subst h3;subst h4;subst h5;subst h6
  have hu:=acG (x:=aP f) (i:=n) (ti:=D 51) (by':=120) ahr aaf ae1 (hD _) (by intro h;cases h) rfl rfl rfl rfl h1 rfl rfl g1 g2 g3 g4 g5 hkk (λy hy=>by obtain⟨s,_,rfl⟩:=List.mem_map.1 hy;exact⟨rfl,rfl⟩) ⟨rfl,rfl⟩ (by simpa using h8) (by rw[List.length_map];omega) (by rw[List.length_map];omega)
  refine⟨_,_,_,.used _ _ hu,?_⟩
  have e:(l.map aP).take n++[aP f]++(l.map aP).drop n=(l.take n++[f]++l.drop n).map aP:=by simp
  rw[e]
  exact h10
 ·exact h.elim
theorem aic:(∀(K:aD→Prop) (a:dR),ofR aP [aP a] (HK.mk:HK K)=K [a])∧(∀(K:aD→Prop) (l:aD),ofR aP (l.map aP) (HK.mk:HK K)=K l)∧(∀(K:aD→Prop) (l:aD) (i:Nat) (y:dR),ofR aP ((l.map aP).set i (aP y)) (HK.mk:HK K)=K (l.set i y)):=
 ⟨λK a=>Vm pQ K [a],λK l=>Vm pQ K l,λK l i y=>by rw[←List.map_set];exact Vm pQ K _⟩
theorem ahs(t:aD):(xL t).live=true∧(xL t).ver=0∧(xL t).sz=11∧(xL t).ty=51∧(xL t).xs=t.map aP:=⟨rfl,rfl,rfl,rfl,rfl⟩
theorem acJ{t:aD}{i:Nat}{x:dR}(a:gG)(hx:t[i]?=some x)(hml:i+1+x.many.toNat≤t.length) :
  (t.set i { x with many:=x.many+1 }).take (i+1+x.many.toNat)++[j6 a]++(t.set i { x with many:=x.many+1 }).drop (i+1+x.many.toNat)=gD t i a:=by
 have hil:=(List.getElem?_eq_some_iff.1 hx).1
 have e:∀y,t.set i y=t.take i++y::t.drop (i+1):=λy=>by rw[List.set_eq_take_append_cons_drop,if_pos hil]
 have l1:(t.take i).length=i:=by rw[List.length_take];omega
 have dn:(t.take i).drop (i+1+x.many.toNat)=[]:=List.drop_eq_nil_of_le (by omega)
 have dt:(t.take i).take (i+1+x.many.toNat)=t.take i:=List.take_of_length_le (by omega)
 unfold gD
 rw[hx]
 simp only
 rw[e,List.take_append,List.drop_append,l1,dn,dt,show i+1+x.many.toNat-i=x.many.toNat+1 by omega,List.take_succ_cons,List.drop_succ_cons,List.drop_drop]
 simp
def Kt(t:aD)(p:List Stp)(a:gG):PV:=match fo p t with
 | some i=>.bY [ay (gD t i a),.int .i64 0]
 | none=>.bY [.sl 0 [] (some true),.int .i64 6]
def X7(t:aD)(p:List Stp):Prop:=∀i x,fo p t=some i→t[i]?=some x→0≤x.many∧i+1+x.many.toNat≤t.length
def Ey(t:aD)(p:List Stp)(a:gG):aD×Int:=match fo p t with
 | some i=>(gD t i a,0)
 | none=>([],6)
theorem GQ(t:aD)(p:List Stp)(a:gG):lX (Kt t p a) (.bY [ay (Ey t p a).1,.int .i64 (Ey t p a).2]):=by
 unfold Kt Ey
 split
 ·exact .refl _
 ·exact Ot (.inr rfl) (lT 0 11) (.refl _)
end Lp
namespace Lp
open Go Go.Proofs
theorem GR(t:aD)(p:List Stp)(a:gG)(hl:t.length≤100000)(ho:Y.One t)(hp:p.length≤1000000)(hm:X7 t p) :
  ai Tryz.prog 11 [ay t,dO p,b_ a] [] (Kt t p a) []:=by
 refine LV.wo (T:=aR Tryz.prog [(27,yZ),(28,jP),(29,IG)]) 1 hD (aj (af TR (af wS (af WS ah)))) aV (by decide) (by decide) λQ hQ=>?_
 cases hlf:fo p t with
 | none=>
  have hr:pW t p=.bY [.int .i64 0,.bool false]:=by simp[pW,hlf]
  have hres:Kt t p a=.bY [.sl 0 [] (some true),.int .i64 6]:=by simp[Kt,hlf]
  (conv=>arg 4;cbv);simp (maxSteps:=400000) only[↓ak,au,BEq.rfl,seval,hQ,↓yZ,hr,hres,bq]
  exact⟨by omega,ho,hp⟩
 | some i=>
  have hr:pW t p=.bY [.int .i64 i,.bool true]:=by simp[pW,hlf]
  have hres:Kt t p a=.bY [ay (gD t i a),.int .i64 0]:=by simp[Kt,hlf]
  obtain⟨x,hx,hk,_⟩:=n_ hlf
  obtain⟨hm0,hml⟩:=hm i x hlf hx
  have zi:(0≤(i:Int))=True:=eq_true (by omega)
  have hit:=(List.getElem?_eq_some_iff.1 hx).1
  have hlt:((i:Int)<(t.length:Int))=True:=eq_true (by omega)
  have hsg:∀y,((t.map aP).set i y)[i]?=some y:=λy=>List.getElem?_set_self (by rw[List.length_map];omega)
  have hmg:(t.map aP)[i]?=some (aP x):=by rw[List.getElem?_map,hx];rfl
  (conv=>arg 4;cbv);simp (maxSteps:=400000) only[↓ak,au,BEq.rfl,seval,hQ,↓yZ,hr,hres,zi,hlt,hsg,hmg,List.length_map,List.length_set,↓jP,ahs,tC,iy,iJ,vw,dm,eG,ab_,↓IG,aic,bq,Int.toNat_natCast]
  have e1:((i:Int)+(x.many+1)).toNat=i+1+x.many.toNat:=by omega
  rw[e1]
  exact⟨by omega,ho,hp,by omega,⟨by omega,by omega⟩,⟨by omega,by omega⟩,j6 a,rfl,by omega,by omega,by omega,by decide,by rw[acJ a hx hml]⟩
def oZ:dD:=λargs objs K=>match args with
 | [a0,a1,a2]=>dZ ay a0 (HK.mk:HK λt=>dZ dO a1 (HK.mk:HK λp=>dZ b_ a2 (HK.mk:HK λa=>(t.length≤100000)∧(Y.One t)∧(p.length≤1000000)∧(X7 t p)∧K (.bY [ay (Ey t p a).1,.int .i64 (Ey t p a).2]) objs 0)))
 | _=>False
theorem Qa:aC Tryz.prog 11 (oZ):=by
 intro args objs K h
 unfold oZ at h
 split at h
 ·rename_i a0 a1 a2
  obtain⟨t,rfl,p,rfl,a,rfl,h1,h2,h3,h4,hk⟩:=h
  exact⟨_,_,_,.pure _ rfl ((GR t p a h1 h2 h3 h4).res (GQ t p a)),hk⟩
 ·exact h.elim
end Lp
namespace Lp
open Go Go.Proofs
def HV(v:List gG):Obj:=⟨29,7,v.map b_,true,0⟩
theorem y7(v:List gG):fI [HV v]:=by
 intro o ho x hx p hp
 simp only[List.mem_singleton]at ho
 subst ho
 simp only[HV,List.mem_map]at hx
 obtain⟨n,_,rfl⟩:=hx
 simp only[b_,PV.cells,List.mem_cons,List.not_mem_nil,or_false]at hp
 rcases hp with rfl | rfl | rfl | rfl | rfl | rfl | rfl<;>rfl
theorem acK(d n:Nat)(objs:List Obj)(v:List gG):(v.map b_).map (PV.bL (eZ d n objs))=v.map b_:=by
 rw[List.map_map]
 exact List.map_congr_left λx _=>rfl
theorem WT:ai Tryz.prog 88 [.sl 7 [] (some true)] [] (.bO 0 0) [HV []]:=by
 refine iF.made (T:=aR Tryz.prog []) 0 hD (aj ah) aV ?_
 (conv=>arg 4;cbv);simp only[↓Bq,Gf,↓CY,↓Af,↓CZ,Ag,↓nN,Gg,Fg,Nat.reduceAdd,Nat.reduceSub,sG,Uq,bS,Ik,Il,yo,eP,forall_const,reduceCtorEq,false_imp_iff,and_true,TK.slice.injEq,exists_eq',true_and]
 exact⟨_,0,0,_,Weak.Gb 2 29 7 rfl,rfl,rfl,rfl,rfl,rfl,y7 []⟩
theorem TW(v:List gG)(hv:v.length≤1099511627776):ai Tryz.prog 88 [.sl 7 (v.map b_) (some false)] [] (.bO 0 0) [HV v]:=by
 refine iF.made (T:=aR Tryz.prog []) 0 hD (aj ah) aV ?_
 (conv=>arg 4;cbv);simp only[↓Bq,Gf,↓CY,↓Af,↓CZ,Ag,↓nN,Gg,Fg,Nat.reduceAdd,Nat.reduceSub,sG,Uq,bS,Ik,Il,yo,eP,forall_const,reduceCtorEq,false_imp_iff,and_true,TK.slice.injEq,exists_eq',true_and]
 simp only[bW,eB,nE,newObj,jq,bS,ne_eq,reduceCtorEq,not_false_eq_true,true_and,if_true,List.all_nil,Nat.zero_mul,Nat.zero_le,List.nil_append,List.length_nil,List.getElem?_cons_zero,Option.some.injEq]
 refine⟨rfl,rfl,rfl,rfl,?_,_,rfl,rfl,rfl,rfl,rfl,?_,?_,λ_ _ h=>h.elim,_,0,2,_,Weak.refl _ _,rfl,rfl,rfl,rfl,?_,y7 v⟩
 ·intro y hy
  obtain⟨n,_,rfl⟩:=List.mem_map.1 hy
  exact⟨rfl,rfl⟩
 ·simp;omega
 ·simp;omega
 ·simp only[f_,HV,List.replicate_zero,List.nil_append,acK]
theorem TY(v:List gG)(hv:v.length≤1099511627776):ai Tryz.prog 88 [bG v] [] (.bO 0 0) [HV v]:=
 ai.split (pre:=[]) (post:=[]) (λh=>by
  have:v=[]:=by simpa using h
  subst this
  exact WT) (TW v hv)
def zZ:dD:=λargs objs K=>match args with
 | [a]=>dZ bG a (HK.mk:HK λt=>t.length≤1000000∧K (.bO objs.length 0) (objs++[HV t]) 2)
 | _=>False
theorem Qb:aC Tryz.prog 88 zZ:=by
 intro args objs K h
 unfold zZ at h
 split at h
 ·rename_i a
  obtain⟨t,rfl,hv,hk⟩:=h
  have h:=nJ.made (P:=Tryz.prog) (objs:=objs) _ _ rfl (y7 t) (TY t (by omega))
  exact⟨_,_,_,h,by simpa[PV.shift,PV.rq] using hk⟩
 ·exact h.elim
end Lp
namespace Lp
open Go
def GU(x:gG):gG:=⟨MB x.n,x.c⟩
def iG(t:aD):Int:=match t with | n::_=>n.n | []=>0
def EX(t:aD):List UInt8:=match t with | n::_=>n.s | []=>[]
def xC(t:aD):Int:=match t with | n::_=>n.many | []=>0
def tK(t:aD)(A:List gG)(x:gG):Bool:=(kJ (iG t) (A++[GU x])).2
def uo(t u:aD)(k:Nat):Bool:=om (iG t) k && !om (iG u) k && (kJ ((2 ^ k:Nat):Int) (bI t)).2
def vJ(t u:aD):Bool:=!(List.range 5).any (uo t u) && !(bI u).any (tK t (bI t))
def atK{α:Type}(nm:List UInt8):List (List UInt8×α)→Option α
 | []=>none
 | (k,v)::r=>if k=nm then some v else atK nm r
def dY(t:aD):List (List UInt8×aD):=(bE t).zip (ax t)
def wU(S:aD→aD→Bool)(t:aD)(p:List UInt8×aD):Bool:=match atK p.1 (dY t) with | some x=>S x p.2 | none=>false
def y8(S:aD→aD→Bool)(t u:aD):Bool:=(dY u).all (wU S t) && (decide (iG u=1) || decide (iG t=0) && decide (xC t=xC u))
def gQ(S:aD→aD→Bool):List aD→List aD→Bool
 | [],[]=>true
 | x::xs,y::ys=>S x y && gQ S xs ys
 | _,_=>false
def y0(u:aD):aD:=(ax u).headD []
def T9(S:aD→aD→Bool)(t u:aD):Bool:=(ax t).all λp=>S p (y0 u)
def Ez(nm:List UInt8):aD→aD
 | []=>[]
 | n::r=>{ n with name:=nm }::r
def Ku:List UInt8:=[107,101,121]
def qg:List UInt8:=[118,97,108,117,101]
def HY(t:aD):aD:=⟨2,2,[],[],0,aQ⟩::⟨1,0,Ku,[],16,aQ⟩::Ez qg t
def o9(S:aD→aD→Bool)(t u:aD):Bool:=
 if Y.kindOf t=1∧Y.kindOf u=1 then vJ t u
 else if Y.kindOf t=2∧Y.kindOf u=2 then y8 S t u
 else if Y.kindOf t=3∧Y.kindOf u=2 then decide (iG u=1) && decide ((ax u).length=0)
 else if Y.kindOf t=2∧Y.kindOf u=3 then decide (iG t=0) && T9 S t u
 else if (Y.kindOf t=4∨Y.kindOf t=7∨Y.kindOf t=5)∧Y.kindOf u=5 then T9 S t u
 else if Y.kindOf t=8∧Y.kindOf u=5 then S (sM ⟨5,0,[],[],0,aQ⟩ (ax t)) (y0 u)
 else if Y.kindOf t=6∧Y.kindOf u=5 then S (HY (y0 t)) (y0 u)
 else if Y.kindOf u=0 then true
 else decide (Y.kindOf t=Y.kindOf u) && decide (EX t=EX u) && gQ S (ax t) (ax u)
def aag:Nat→aD→aD→Bool
 | 0,_,_=>false
 | f+1,t,u=>o9 (aag f) t u
def iV(t u:aD):Bool:=aag u.length t u
variable {pk:List UInt8→Bool}{pth:List UInt8→List Stp}
theorem afT{u:aD}(h:ax u≠[]):y0 u∈ax u:=by
 unfold y0
 cases hp:ax u with
 | nil=>exact absurd hp h
 | cons a l=>simp
theorem oC.y9 {u:aD}(h:oC pk pth u)(hk:Y.kindOf u=3∨Y.kindOf u=5∨Y.kindOf u=6∨Y.kindOf u=7∨Y.kindOf u=8):∃p,ax u=[p]:=by
 cases u with
 | nil=>exact absurd rfl h.one.ne
 | cons n r=>
  have hk':n.kind=3∨n.kind=5∨n.kind=6∨n.kind=7∨n.kind=8:=hk
  obtain⟨h1,h2,ps,h3,_⟩:=h.parts
  have hm:n.many=1:=by
   rcases hk' with e | e | e | e | e<;>simp[bQ,e]at h1<;>simp only[and_assoc]at h1<;>exact h1.1
  have hl:=Y.bD _ _ _ h3
  have:n.kind≠1:=by omega
  simp only[ax,this,if_false,dN h3]
  rw[hm]at hl
  match ps,hl with
  | [p],_=>exact⟨_,rfl⟩
theorem sub_congr{S S':aD→aD→Bool}{t u:aD}(hu:oC pk pth u)(h:∀x y,y∈ax u→S x y=S' x y):o9 S t u=o9 S' t u:=by
 have hy:(Y.kindOf u=3∨Y.kindOf u=5)→∀x,S x (y0 u)=S' x (y0 u):=λhk x=>by
  obtain⟨p,hp⟩:=hu.y9 (by omega)
  exact h x _ (afT (by rw[hp];simp))
 have ha:(Y.kindOf u=3∨Y.kindOf u=5)→T9 S t u=T9 S' t u:=λhk=>by
  unfold T9
  congr 1
  funext p
  exact hy hk p
 have hp:∀xs ys:List aD,(∀y∈ys,y∈ax u)→gQ S xs ys=gQ S' xs ys:=by
  intro xs
  induction xs with
  | nil=>intro ys _;cases ys<;>rfl
  | cons x xs ih=>
   intro ys hys
   cases ys with
   | nil=>rfl
   | cons y ys=>
    simp only[gQ]
    rw[h x y (hys y (List.mem_cons_self ..)),ih ys λz hz=>hys z (List.mem_cons_of_mem _ hz)]
 have ho:y8 S t u=y8 S' t u:=by
  unfold y8
  have:(dY u).all (wU S t)=(dY u).all (wU S' t):=by
   rw[Bool.eq_iff_iff,List.all_eq_true,List.all_eq_true]
   have e:∀p∈dY u,wU S t p=wU S' t p:=λp hpm=>by
    unfold wU
    cases atK p.1 (dY t) with
    | none=>rfl
    | some x=>exact h x p.2 (List.of_mem_zip (a:=p.1) (b:=p.2) hpm).2
   exact⟨λg p hp=>by rw[←e p hp];exact g p hp,λg p hp=>by rw[e p hp];exact g p hp⟩
  rw[this]
 unfold o9
 split
 ·rfl
 split
 ·exact ho
 split
 ·rfl
 split
 ·rename_i c;rw[ha (.inl c.2)]
 split
 ·rename_i c;rw[ha (.inr c.2)]
 split
 ·rename_i c;exact hy (.inr c.2) _
 split
 ·rename_i c;exact hy (.inr c.2) _
 split
 ·rfl
 ·rw[hp _ _ λy hy=>hy]
theorem NA:∀(f g:Nat) (t u:aD),u.length≤f→u.length≤g→oC pk pth u→aag f t u=aag g t u
 | 0,_,_,u,h,_,hr=>by have:=hr.one.ne;cases u<;>simp at h this
 | f+1,0,_,u,_,h,hr=>by have:=hr.one.ne;cases u<;>simp at h this
 | f+1,g+1,_,[],_,_,hr=>absurd rfl hr.one.ne
 | f+1,g+1,t,n::r,h1,h2,hr=>by
  simp only[List.length_cons]at h1 h2
  simp only[aag]
  refine sub_congr hr λx y hy=>?_
  have:=hr.part y hy
  exact NA f g x y (by omega) (by omega) this.1
theorem II(t:aD){u:aD}(hu:oC pk pth u):iV t u=o9 iV t u:=by
 cases u with
 | nil=>exact absurd rfl hu.one.ne
 | cons n r=>
  show o9 (aag r.length) t (n::r)=_
  refine sub_congr hu λx y hy=>?_
  have:=hu.part y hy
  exact NA _ _ x y this.2 (Nat.le_refl _) this.1
end Lp
namespace Lp
open Go Go.Proofs
def Bc(l:List gG):Prop:=∀a∈l,fE a.c∧a.c.s.length≤500000∧0≤a.n∧a.n≤5
theorem Qc(A:List gG)(t:aD)(n:dR)(x:gG)(hg0:t[0]?=some n)(hn:0≤n.n∧n.n≤31)(hl:A.length≤100000)(hA:Bc A)(hx:Bc [x]) :
  ai Tryz.prog 87 [b_ x,.addr (bG A),.addr (ay t)] [] (.bool (kJ n.n (A++[GU x])).2) []:=by
 refine Hz.aX (T:=aR Tryz.prog [(88,zZ),(89,D6),(85,rX)]) 1 hD (aj (af Qb (af SL (af Gy ah)))) aV (by decide) λQ hQ=>?_
 (conv=>arg 4;cbv);simp (maxSteps:=400000) only[↓ak,au,BEq.rfl,seval,hQ]
 refine aN _ (Weak.freeze 1 0 (Nat.zero_le _) _) ?_
 have hoa:(HV A).live=true∧(HV A).ver=0∧(HV A).sz=7∧(HV A).ty=29∧(HV A).xs=A.map b_:=⟨rfl,rfl,rfl,rfl,rfl⟩
 simp (maxSteps:=400000) only[↓ak,au,BEq.rfl,seval,hQ,Rx,↓zZ,↓D6,ab_,hoa]
 refine⟨by omega,(hx x (by simp)).2.2,by omega,by omega,by decide,?_⟩
 refine aN _ (Weak.freeze 1 0 (Nat.zero_le _) _) ?_
 have hz:∀v,eZ 1 0 [⟨29,7,A.map b_++[b_ ⟨MB x.n,x.c⟩],true,v⟩] (.bO 0 v)=bG (A++[GU x]):=λv=>by
  have:=Iz (A++[GU x]) v 29 []
  simpa[GU] using this
 simp (maxSteps:=400000) only[↓ak,au,BEq.rfl,seval,hQ,hz,hg0,↓rX,lD,bq,bT,bU]
 have hall:∀a∈A++[GU x],fE a.c∧a.c.s.length≤500000:=λa ha=>by
  rcases List.mem_append.1 ha with h | h
  ·exact⟨(hA a h).1,(hA a h).2.1⟩
  ·rw[List.mem_singleton.1 h]
   exact⟨(hx x (by simp)).1,(hx x (by simp)).2.1⟩
 exact⟨hn,by omega,λa ha=>(hall a ha).1,λa ha=>(hall a ha).2⟩
structure Aw (t:aD) (A:List gG):Prop where
 ne:t≠[]
 tl:t.length≤1000000
 mask:0≤iG t∧iG t≤31
 len:A.length≤100000
 ok:Bc A
theorem L_(A:List gG)(t:aD)(x:gG)(h:Aw t A)(hx:Bc [x]) :
  ai Tryz.prog 87 [b_ x,.addr (bG A),.addr (ay t)] [] (.bool (tK t A x)) []:=by
 cases t with
 | nil=>exact absurd rfl h.ne
 | cons n r=>exact Qc A (n::r) n x rfl h.mask h.len h.ok hx
def su(t:aD)(A:List gG):dD:=λargs objs K=>match args with
 | [a0,a1,a2]=>dZ b_ a0 (HK.mk:HK λx=>a1=(.addr (bG A))∧a2=(.addr (ay t))∧(Aw t A)∧(Bc [x])∧K (.bool (tK t A x)) objs 0)
 | _=>False
theorem Ma(t:aD)(A:List gG):aC Tryz.prog 87 (su t A):=by
 intro args objs K h
 unfold su at h
 split at h
 ·rename_i a0 a1 a2
  obtain⟨x,rfl,rfl,rfl,h1,h2,hk⟩:=h
  exact⟨_,_,_,.pure _ rfl (L_ A t x h1 h2),hk⟩
 ·exact h.elim
theorem Qd(t:aD)(A l:List gG)(hl:l.length≤4611686018427387904)(hs:Aw t A)(ho:Bc l):ai Tryz.prog 104 [bG l,.fn 87 [] [.addr (bG A),.addr (ay t)]] [] (.int .i64 (idxOf (tK t A) l)) []:=by
 refine gH.aX (T:=aR Tryz.prog [(87,(su t A))]) 0 hD (aj (af (Ma t A) ah)) aV (by decide) λQ hQ=>?_
 (conv=>arg 4;cbv);simp (maxSteps:=400000) only[↓ak,au,BEq.rfl,seval,hQ]
 refine aF (λm S=>∃i:Nat,i+m=l.length∧(∀(j:Nat) y,j<i→l[j]?=some y→tK t A y=false)∧S=⟨dG 19 [(0,bG l),(1,.fn 87 [] [.addr (bG A),.addr (ay t)]),(7,.int .i64 l.length),(8,.int .i64 i)],[]⟩) l.length ⟨0,by omega,λj y h=>absurd h (Nat.not_lt_zero j),?_⟩ ?_
 ·simp only[bN,keepR,Nat.reduceAdd,lJ,Nat.reduceBEq,List.map_nil]
  rfl
 rintro m S ⟨i,him,hb,rfl⟩
 rcases Nat.lt_or_ge i l.length with h | h
 rotate_left 1
 ·have hlt:((i:Int)<(l.length:Int))=False:=eq_false (by omega)
  have hr:=wE (l:=l) λj y hj=>hb j y (by have:=(List.getElem?_eq_some_iff.1 hj).1;omega) hj
  simp (maxSteps:=400000) only[↓ak,au,BEq.rfl,seval,hQ,hlt,hr]
 have hlt:((i:Int)<(l.length:Int))=True:=eq_true (by omega)
 have zi:(0≤(i:Int))=True:=eq_true (by omega)
 have hgi:=List.getElem?_eq_getElem h
 have hao:Bc [l[i]]:=λa ha=>by rw[List.mem_singleton.1 ha];exact ho _ (List.getElem_mem h)
 generalize l[i]=o at hgi hao
 cases hp:tK t A o
 rotate_left 1
 ·have hr:idxOf (tK t A) l=i:=idxOf_hit hgi hp hb
  simp (maxSteps:=400000) only[↓ak,au,BEq.rfl,seval,hQ,hlt,zi,hgi,↓su,hp,hr]
  exact⟨hs,hao⟩
 ·simp (maxSteps:=400000) only[↓ak,au,BEq.rfl,seval,hQ,hlt,zi,hgi,↓su,hp]
  refine⟨hs,hao,⟨by omega,by omega⟩,m-1,by omega,i+1,by omega,λj y hj hy=>?_,rfl⟩
  rcases Nat.lt_or_ge j i with g | g
  ·exact hb j y g hy
  ·have:j=i:=by omega
   subst this
   rw[hgi]at hy;cases hy
   exact hp
def wV(t:aD)(A:List gG):dD:=λargs objs K=>match args with
 | [a0,a1]=>dZ bG a0 (HK.mk:HK λl=>a1=(.fn 87 [] [.addr (bG A),.addr (ay t)])∧(l.length≤4611686018427387904)∧(Aw t A)∧(Bc l)∧K (.int .i64 (idxOf (tK t A) l)) objs 0)
 | _=>False
theorem Mc(t:aD)(A:List gG):aC Tryz.prog 104 (wV t A):=by
 intro args objs K h
 unfold wV at h
 split at h
 ·rename_i a0 a1
  obtain⟨l,rfl,rfl,h1,h2,h3,hk⟩:=h
  exact⟨_,_,_,.pure _ rfl (Qd t A l h1 h2 h3),hk⟩
 ·exact h.elim
theorem Qe(t:aD)(A l:List gG)(hl:l.length≤4611686018427387904)(hs:Aw t A)(ho:Bc l):ai Tryz.prog 86 [bG l,.fn 87 [] [.addr (bG A),.addr (ay t)]] [] (.bool (l.any (tK t A))) []:=by
 refine fJ.aX (T:=aR Tryz.prog [(104,(wV t A))]) 0 hD (aj (af (Mc t A) ah)) aV (by decide) λQ hQ=>?_
 (conv=>arg 4;cbv);simp (maxSteps:=400000) only[↓ak,au,BEq.rfl,seval,hQ,↓wV,zR]
 exact⟨hl,hs,ho⟩
def wW(t:aD)(A:List gG):dD:=λargs objs K=>match args with
 | [a0,a1]=>dZ bG a0 (HK.mk:HK λl=>a1=(.fn 87 [] [.addr (bG A),.addr (ay t)])∧(l.length≤4611686018427387904)∧(Aw t A)∧(Bc l)∧K (.bool (l.any (tK t A))) objs 0)
 | _=>False
theorem Md(t:aD)(A:List gG):aC Tryz.prog 86 (wW t A):=by
 intro args objs K h
 unfold wW at h
 split at h
 ·rename_i a0 a1
  obtain⟨l,rfl,rfl,h1,h2,h3,hk⟩:=h
  exact⟨_,_,_,.pure _ rfl (Qe t A l h1 h2 h3),hk⟩
 ·exact h.elim
end Lp
namespace Lp
open Go Go.Proofs
theorem T_{mask:Int}{k:Nat}(hm:0≤mask∧mask≤31)(hk:k<5):Az .and .i64 mask ((2 ^ k:Nat):Int)=if om mask k then ((2 ^ k:Nat):Int) else 0:=by
 have key:∀(m:Fin 32) (k:Fin 5),Az .and .i64 (m.val:Int) ((2 ^ k.val:Nat):Int)=if (m.val / 2 ^ k.val) % 2==1 then ((2 ^ k.val:Nat):Int) else 0:=by decide +kernel
 have:=key ⟨mask.toNat,by omega⟩ ⟨k,hk⟩
 simp only[Int.toNat_of_nonneg hm.1]at this
 exact this
theorem ad2{i:Nat}(h:i<5)(K:PV→Prop):p_ .shl .i64 .i64 1 (i:Int) K=K (.int .i64 ((2 ^ i:Nat):Int)):=by
 have:i=0∨i=1∨i=2∨i=3∨i=4:=by omega
 rcases this with rfl | rfl | rfl | rfl | rfl<;>simp[p_,IntKind.bits]<;>rfl
theorem ad3(a b:Int)(K:PV→Prop):p_ .and .i64 .i64 a b K=K (.int .i64 (Az .and .i64 a b)):=by simp[p_]
def scO(a:aD):List Obj:=[Ar a,⟨56,1,[bG (bI a)],true,1⟩]
theorem Ua(a b:aD)(hoa:Y.One a)(H8:Y.One b)(hla:a.length≤100000)(hlb:b.length≤100000)(hA:Aw a (bI a))(hB:Aw b (bI b)) :
  ai Tryz.prog 57 [ay a,ay b] [] (.bool (vJ a b)) []:=by
 refine LW.aX (T:=aR Tryz.prog [(84,r9),(85,rX),(86,(wW a (bI a)))]) 1 hD (aj (af LU (af Gy (af (Md a (bI a)) ah)))) aV (by decide) λQ hQ=>?_
 obtain⟨n,hn,hmn⟩:∃n,a[0]?=some n∧n.n=iG a:=by
  cases a with
  | nil=>exact absurd rfl hoa.ne
  | cons n r=>exact⟨n,rfl,rfl⟩
 obtain⟨n',hn',hmn'⟩:∃n,b[0]?=some n∧n.n=iG b:=by
  cases b with
  | nil=>exact absurd rfl H8.ne
  | cons n r=>exact⟨n,rfl,rfl⟩
 (conv=>arg 4;cbv);simp (maxSteps:=400000) only[↓ak,au,BEq.rfl,seval,hQ,↓r9]
 refine⟨by omega,hoa,?_⟩
 refine aF (λm S=>∃i:Nat,i+m=5∧(∀k,k<i→uo a b k=false)∧S=⟨dG 46 [(1,ay b),(2,.bP 0 1 0 0),(5,.bP 1 1 0 0),(12,.int .i64 i)],scO a⟩) 5 (hz:=Nat.zero_le _) ⟨0,by omega,λk h=>absurd h (Nat.not_lt_zero k),?_⟩ ?_
 ·simp only[bN,keepR,Nat.reduceAdd,lJ,Nat.reduceBEq,List.map_nil]
  rfl
 rintro m S ⟨i,him,hb,rfl⟩
 rcases Nat.lt_or_ge i 5 with h | h
 ·have hlt:((i:Int)<5)=True:=eq_true (by omega)
  unfold scO Ar
  have h3:=ad2 h
  have hp0:(((2 ^ i:Nat):Int)=0)=False:=eq_false (by have:=Nat.pow_pos (n:=i) (show 0<2 by decide);omega)
  have hp1:0≤((2 ^ i:Nat):Int)∧((2 ^ i:Nat):Int)≤31:=by
   have:i=0∨i=1∨i=2∨i=3∨i=4:=by omega
   rcases this with rfl | rfl | rfl | rfl | rfl<;>decide
  have hal:=hA.len
  have h1:=T_ hA.mask h
  have h2:=T_ hB.mask h
  have hbi:uo a b i=(om (iG a) i && !om (iG b) i && (kJ ((2 ^ i:Nat):Int) (bI a)).2):=rfl
  have hnx:uo a b i=false→∀k,k<i+1→uo a b k=false:=λh k hk=>by
   rcases Nat.lt_or_ge k i with g | g
   ·exact hb k g
   ·have:k=i:=by omega
    rw[this];exact h
  have hno:uo a b i=true→vJ a b=false:=λh=>by
   have:(List.range 5).any (uo a b)=true:=List.any_eq_true.2 ⟨i,List.mem_range.2 (by omega),h⟩
   simp[vJ,this]
  generalize ((2 ^ i:Nat):Int)=pw at *
  cases hla:om (iG a) i with
  | false=>
   rw[hla,if_neg (by decide)]at h1
   have hx:=hnx (by rw[hbi,hla];rfl)
   simp (maxSteps:=400000) only[↓ak,au,BEq.rfl,seval,hQ,hlt,hn,hn',hmn,hmn',h1,h2,↓h3,↓ad3]
   exact⟨⟨by omega,by omega⟩,m-1,by omega,i+1,by omega,hx,rfl⟩
  | true=>
   rw[hla,if_pos rfl]at h1
   cases hlb:om (iG b) i with
   | true=>
    rw[hlb,if_pos rfl]at h2
    have hx:=hnx (by rw[hbi,hla,hlb];rfl)
    simp (maxSteps:=400000) only[↓ak,au,BEq.rfl,seval,hQ,hlt,hn,hn',hmn,hmn',h1,h2,↓h3,↓ad3,hp0]
    exact⟨⟨by omega,by omega⟩,m-1,by omega,i+1,by omega,hx,rfl⟩
   | false=>
    rw[hlb,if_neg (by decide)]at h2
    cases hle:(kJ pw (bI a)).2 with
    | true=>
     have hr:=hno (by rw[hbi,hla,hlb,hle];rfl)
     simp (maxSteps:=400000) only[↓ak,au,BEq.rfl,seval,hQ,hlt,hn,hn',hmn,hmn',h1,h2,↓h3,↓ad3,hp0,↓rX,lD,hle,bq,bT,bU,hr]
     exact⟨hp1,by omega,λx hx=>(hA.ok x hx).1,λx hx=>(hA.ok x hx).2.1⟩
    | false=>
     have hx:=hnx (by rw[hbi,hla,hlb,hle];rfl)
     simp (maxSteps:=400000) only[↓ak,au,BEq.rfl,seval,hQ,hlt,hn,hn',hmn,hmn',h1,h2,↓h3,↓ad3,hp0,↓rX,lD,hle,bq,bT,bU]
     exact⟨hp1,by omega,λx hx=>(hA.ok x hx).1,λx hx=>(hA.ok x hx).2.1,⟨by omega,by omega⟩,m-1,by omega,i+1,by omega,hx,rfl⟩
 ·have hlt:((i:Int)<5)=False:=eq_false (by omega)
  unfold scO Ar
  simp (maxSteps:=400000) only[↓ak,au,BEq.rfl,seval,hQ,hlt]
  refine aN _ (Weak.freeze 1 0 (Nat.zero_le _) _) ?_
  have hS:vJ a b=!(bI b).any (tK a (bI a)):=by
   have:(List.range 5).any (uo a b)=false:=by
    rw[List.any_eq_false]
    intro k hk
    have:=hb k (by have:=List.mem_range.1 hk;omega)
    rw[this];simp
   simp[vJ,this]
  simp (maxSteps:=400000) only[↓ak,au,BEq.rfl,seval,hQ,↓r9,↓wW]
  exact⟨by omega,H8,rfl,rfl,by have:=hB.len;omega,hA,hB.ok,hS⟩
def qV:dD:=λargs objs K=>match args with
 | [a0,a1]=>dZ ay a0 (HK.mk:HK λa=>dZ ay a1 (HK.mk:HK λb=>(Y.One a)∧(Y.One b)∧(a.length≤100000)∧(b.length≤100000)∧(Aw a (bI a))∧(Aw b (bI b))∧K (.bool (vJ a b)) objs 0))
 | _=>False
theorem EA:aC Tryz.prog 57 (qV):=by
 intro args objs K h
 unfold qV at h
 split at h
 ·rename_i a0 a1
  obtain⟨a,rfl,b,rfl,h1,h2,h3,h4,h5,h6,hk⟩:=h
  exact⟨_,_,_,.pure _ rfl (Ua a b h1 h2 h3 h4 h5 h6),hk⟩
 ·exact h.elim
end Lp
namespace Lp
open Go Go.Proofs
def uq(a b:Int):PV:=.agg [.int .i64 a,.int .i64 b]
theorem aht(a b c d:Int):Cy Tryz.prog 55 [.int .i64 a,.int .i64 b] [.int .i64 c,.int .i64 d]:=by
 have u3:Tryz.prog.underlying 3=some (.int .i64):=by kernel_rfl
 have u5:Tryz.prog.underlying 55=some (.array 2 3):=by kernel_rfl
 have hc:Tryz.prog.cellsOf 3=1:=by kernel_rfl
 refine⟨by kernel_rfl,λw ok vs us r hr h1 h2=>?_⟩
 obtain⟨inf,afb,_⟩:=(hD 3).info (by simp[bS])
 have e:Op.equal 55 (.agg ⟨vs⟩) (.agg ⟨us⟩)=Op.equalIn (9999+1) 55 (.agg ⟨vs⟩) (.agg ⟨us⟩):=rfl
 obtain⟨v0,v1,rfl,x0,x1⟩:=RQ h1
 obtain⟨y0,y1,rfl,z0,z1⟩:=RQ h2
 cases x0;cases x1;cases z0;cases z1
 have pt:∀(p q:Value) (o:Nat) (v:Value),(#[p,q]:Array Value)[o]?=some v→(part 3 #[p,q] o).run Tryz.prog w=.ok v w:=λp q o v h=>yA u3 (.inl ⟨_,rfl⟩) h
 simp only[Ac,eqS,Bool.and_true,Option.some.injEq,if_true]at hr
 subst hr
 rw[e,run_equalIn_array w 9999 _ _ u5 afb,hc]
 have r2:List.range 2=[0,1]:=rfl
 have e1:(Op.equalIn 9999 3 (.int .i64 a) (.int .i64 c)).run Tryz.prog w=.ok (a==c) w:=run_equalIn_int w 9998 3 .i64 .i64 a c u3
 have e2:(Op.equalIn 9999 3 (.int .i64 b) (.int .i64 d)).run Tryz.prog w=.ok (b==d) w:=run_equalIn_int w 9998 3 .i64 .i64 b d u3
 have i0:∀p q:Value,(#[p,q]:Array Value)[0]=p:=λ_ _=>rfl
 simp only[r2,Op.eqItems,Sem.run_bind,Nat.zero_mul,Nat.one_mul,pt _ _ 0 _ rfl,pt _ _ 1 _ rfl,Result.andThen_ok,i0,e1]
 by_cases h1:a=c
 ·subst h1
  simp only[BEq.rfl,Bool.not_true,Bool.false_eq_true,if_false,Sem.run_bind,pt _ _ 1 _ rfl,Result.andThen_ok,decide_true,Bool.true_and]
  simp only[List.getElem_toArray,List.getElem_cons_succ,List.getElem_cons_zero,e2,Result.andThen_ok]
  by_cases h2:b=d<;>simp[h2]
 ·simp[h1]
theorem acL(objs:List Obj)(K:KT) :
  (∀a b,bM D 55 [(0,.int .i64 a),(1,.int .i64 b)] objs K=K (uq a b) objs 0):=by
 have z:aL (D 55)=uq 0 0:=by kernel_rfl
 have a:(D 55).agg=true:=by kernel_rfl
 simp only[bS]at z a
 intro x y
 simp[bM,mI,a,z,bS,nD,uq,PV.isAgg,q9,PV.cells,PV.storable,PV.mV,PV.pure]
theorem eqK(ti:aH)(a b c d:Int)(K:PV→Prop):pM Tryz.prog ti 55 .eql (uq a b) (uq c d) K=K (.bool (decide (a=c) && decide (b=d))):=by
 show (Cy Tryz.prog 55 [.int .i64 a,.int .i64 b] [.int .i64 c,.int .i64 d]∧∃r,Ac [.int .i64 a,.int .i64 b] [.int .i64 c,.int .i64 d]=some r∧K (.bool r))=_
 simp[aht,Ac,eqS]
theorem zK:PV.xH (.agg ⟨[.int .i64 0,.int .i64 0]⟩)=uq 0 0:=rfl
theorem pK(a b x y:Int):(uq a b).putCells 0 [.int .i64 x,.int .i64 y]=uq x y:=rfl
theorem pS(s:Nat)(xs:List PV)(q:Option Bool)(x:PV):(PV.sl s xs q).putCells 0 [x]=x:=rfl
theorem kN(X:List aD)(rest:List Obj):eZ 1 0 (⟨54,1,[dh X],true,1⟩::rest) (.bP 0 1 0 0)=.addr (dh X):=rfl
theorem kP(o:Obj)(X:List aD)(rest:List Obj):eZ 1 0 (o::⟨54,1,[dh X],true,1⟩::rest) (.bP 1 1 0 0)=.addr (dh X):=rfl
theorem qo(a b:Int)(rest:List Obj):eZ 1 0 (⟨55,2,[uq a b],true,1⟩::rest) (.bP 0 1 0 0)=.addr (uq a b):=rfl
theorem kC(a b:Int):(uq a b).cells=[.int .i64 a,.int .i64 b]∧(uq a b).isAgg=true∧(uq a b).pure=true∧(∀d m O,eZ d m O (uq a b)=uq a b)∧(∀d m O,iB d m O (uq a b)=uq a b):=⟨rfl,rfl,rfl,λ_ _ _=>rfl,λ_ _ _=>rfl⟩
theorem aah(a b k j:Int):ai Tryz.prog 56 [.int .i64 a,.int .i64 b,.addr (uq k j)] [] (.bool (decide (k=a) && decide (j=b))) []:=by
 refine P5.aX (T:=aR Tryz.prog []) 0 hD (aj ah) aV (by decide) λQ hQ=>?_
 (conv=>arg 4;cbv);simp (maxSteps:=400000) only[↓ak,au,BEq.rfl,seval,hQ,↓acL,↓eqK,kC,List.length_cons,List.length_nil]
def gV(k j:Int):dD:=λargs objs K=>match args with
 | [.int .i64 a,.int .i64 b,c]=>c=.addr (uq k j)∧K (.bool (decide (k=a) && decide (j=b))) objs 0
 | _=>False
theorem Kv(k j:Int):aC Tryz.prog 56 (gV k j):=by
 intro args objs K h
 unfold gV at h
 split at h
 ·rename_i a b c
  obtain⟨rfl,hk⟩:=h
  exact⟨_,_,_,.pure _ rfl (aah a b k j),hk⟩
 ·exact h.elim
theorem Qf(a b:aD)(hoa:Y.One a)(H8:Y.One b)(hla:a.length≤100000)(hlb:b.length≤100000)(hA:Aw a (bI a))(hB:Aw b (bI b))(ka:Y.kindOf a=1)(kb:Y.kindOf b=1) :
  ai Tryz.prog 20 [ay a,ay b] [] (.bool (vJ a b)) []:=by
 refine Kg.aX (T:=aR Tryz.prog [(52,lF),(57,qV),(56,(gV 1 1))]) 1 hD (aj (af um (af EA (af (Kv 1 1) ah)))) aV (by decide) λQ hQ=>?_
 obtain⟨n,hn,hkn⟩:∃n,a[0]?=some n∧n.kind=1:=by
  cases a with
  | nil=>exact absurd rfl hoa.ne
  | cons n r=>exact⟨n,rfl,ka⟩
 obtain⟨n',hn',hkn'⟩:∃n,b[0]?=some n∧n.kind=1:=by
  cases b with
  | nil=>exact absurd rfl H8.ne
  | cons n r=>exact⟨n,rfl,kb⟩
 (conv=>arg 4;cbv);simp (maxSteps:=400000) only[↓ak,au,BEq.rfl,seval,hQ,↓lF,pS]
 refine⟨hoa,by omega,H8,by omega,?_⟩
 refine aN _ (Weak.freeze 1 0 (Nat.zero_le _) _) ?_
 simp (maxSteps:=400000) only[↓ak,au,BEq.rfl,seval,hQ,hn,hn',hkn,hkn',↓acL,kN,kP,zK,pK,kC]
 refine⟨by decide,?_⟩
 refine aN _ (Weak.freeze 1 0 (Nat.zero_le _) _) ?_
 simp (maxSteps:=400000) only[↓ak,au,BEq.rfl,seval,hQ,qo,kN,kP,↓gV,↓qV]
 exact⟨hoa,H8,hla,hlb,hA,hB⟩
end Lp
namespace Lp
open Go Go.Proofs
def afU:Nd:=⟨3,0,[],[50],false,0⟩
def ad4:aD:=[⟨1,0,[],[],8,aQ⟩]
def tyA:aD:=[⟨1,1,[],[],8,aQ⟩,⟨9,0,[],[],4,afU⟩]
def tyU:aD:=[⟨1,1,[],[],24,aQ⟩,⟨9,0,[],[],1,afU⟩]
def ahu:Stp:=⟨false,[97],0⟩
theorem Ub:gy ad4=true∧gy tyA=true∧gy tyU=true∧Ey ad4 [] ⟨4,afU⟩=(tyA,0)∧Ey tyA [ahu] ⟨0,aQ⟩=([],6):=by decide +kernel
theorem aai:vJ tyA tyU=true∧vJ tyU tyA=false:=by decide +kernel
def afV(x:PV)(p:List Stp):Prop:=x=dO p∨(x=.sl 0 [] (some true)∧p=[])
theorem afW(a:List Stp)(P:List Stp→Prop):(∃l,afV (dO a) l∧P l)=P a:=by
 apply propext
 constructor
 ·rintro⟨l,h | ⟨h,_⟩,hp⟩
  ·rw[uV _ _ h];exact hp
  ·simp[dO]at h
 ·exact λh=>⟨a,.inl rfl,h⟩
theorem afX(P:List Stp→Prop):(∃l,afV (.sl 0 [] (some true)) l∧P l)=P []:=by
 apply propext
 constructor
 ·rintro⟨l,h | ⟨_,rfl⟩,hp⟩
  ·simp[dO]at h
  ·exact hp
 ·exact λh=>⟨[],.inr ⟨rfl,rfl⟩,h⟩
def wX:dD:=λargs objs K=>match args with
 | [a,x,b]=>dZ ay a (HK.mk:HK λt=>∃p,afV x p∧dZ b_ b (HK.mk:HK λc=>t.length≤100000∧Y.One t∧p.length≤1000000∧X7 t p∧K (.bY [ay (Ey t p c).1,.int .i64 (Ey t p c).2]) objs 0))
 | _=>False
theorem Me:aC Tryz.prog 11 wX:=by
 intro args objs K h
 unfold wX at h
 split at h
 ·obtain⟨t,rfl,p,hx,c,rfl,h1,h2,h3,h4,hk⟩:=h
  have hs:=(GR t p c h1 h2 h3 h4).res (GQ t p c)
  rcases hx with rfl | ⟨rfl,rfl⟩
  ·exact⟨_,_,_,.pure _ rfl hs,hk⟩
  ·refine⟨_,_,_,.pure _ rfl (hs.arg rfl λi p q hp hq=>?_),hk⟩
   match i with
   | 0=>cases hp;cases hq;exact .refl _
   | 1=>cases hp;cases hq;exact lT 0 3
   | 2=>cases hp;cases hq;exact .refl _
   | _+3=>simp at hp
 ·exact h.elim
def wY:dD:=λargs objs K=>match args with
 | [a0,a1]=>dZ ay a0 (HK.mk:HK λa=>dZ ay a1 (HK.mk:HK λb=>(Y.One a)∧(Y.One b)∧(a.length≤100000)∧(b.length≤100000)∧(Aw a (bI a))∧(Aw b (bI b))∧(Y.kindOf a=1)∧(Y.kindOf b=1)∧K (.bool (vJ a b)) objs 0))
 | _=>False
theorem Mf:aC Tryz.prog 20 (wY):=by
 intro args objs K h
 unfold wY at h
 split at h
 ·rename_i a0 a1
  obtain⟨a,rfl,b,rfl,h1,h2,h3,h4,h5,h6,h7,h8,hk⟩:=h
  exact⟨_,_,_,.pure _ rfl (Qf a b h1 h2 h3 h4 h5 h6 h7 h8),hk⟩
 ·exact h.elim
theorem stB(objs:List Obj)(K:KT):(∀nm,bM D 61 [(1,.str nm)] objs K=K (encS ⟨false,nm,0⟩) objs 0):=by
 have z:aL (D 61)=encS ⟨false,[],0⟩:=by kernel_rfl
 have a:(D 61).agg=true:=by kernel_rfl
 simp only[bS]at z a
 intro nm
 simp[bM,mI,a,z,bS,nD,encS,PV.isAgg,q9,PV.cells,PV.storable,PV.mV,PV.pure]
theorem aid(objs:List Obj)(K:KT):bM D 29 [] objs K=K (b_ ⟨0,aQ⟩) objs 0:=by
 have z:aL (D 29)=b_ ⟨0,aQ⟩:=by kernel_rfl
 have a:(D 29).agg=true:=by kernel_rfl
 simp only[bS]at z a
 simp[bM,mI,a,z,bS,nD,b_,aB,aQ,PV.isAgg,q9,PV.cells,PV.storable,PV.mV,PV.pure]
theorem stZ:PV.xH (.agg ⟨[.bool false,.string ⟨⟨[]⟩⟩,.int .i64 0]⟩)=encS ⟨false,[],0⟩:=rfl
theorem stW(a:Stp)(b:Bool)(nm:List UInt8)(n:Int):(encS a).putCells 0 [.bool b,.str nm,.int .i64 n]=encS ⟨b,nm,n⟩:=rfl
theorem Kw{t:aD}(h:oC bA cO t)(p:List Stp):X7 t p:=λi x _ hx=>by
 obtain⟨_,_,h1,_⟩:=Y.uj h.one hx
 exact⟨h1,zY h.good hx⟩
theorem Qg{t:aD}(h:oC bA cO t)(hk:Y.kindOf t=1)(hl:t.length≤100000)(hs:∀n∈t,n.c.s.length≤500000):Aw t (bI t):=by
 cases t with
 | nil=>exact absurd rfl h.one.ne
 | cons n r=>
  have hk':n.kind=1:=hk
  obtain⟨h1,h2,h3,h4,h5⟩:=vQ h hk'
  simp only[List.length_cons]at hl
  refine⟨by simp,by simp only[List.length_cons];omega,⟨by show 0≤n.n;omega,h5⟩,by rw[h1,List.length_map];omega,λa ha=>?_⟩
  rw[h1]at ha
  obtain⟨x,hx,rfl⟩:=List.mem_map.1 ha
  have hr:=(h3 x hx).1
  have hc:=hs x (List.mem_cons_of_mem _ hx)
  simp only[fO,Bool.and_eq_true,decide_eq_true_eq]at hr
  exact⟨⟨hr.2,by show x.c.s.length≤1000000;omega⟩,hc,hr.1.1,hr.1.2⟩
theorem Qh:ai Tryz.prog 10 [] [] (.bool true) []:=by
 refine Ck.aX (T:=aR Tryz.prog [(11,wX),(20,wY),(13,zW)]) 0 hD (aj (af Me (af Mf (af PN ah)))) aV (by decide) λQ hQ=>?_
 obtain⟨r0,rA,rU,f1,f2⟩:=Ub
 have t0:=vo r0
 have tA:=vo rA
 have tU:=vo rU
 have f1':Ey ad4 [] ⟨4,⟨3,0,[],[50],false,0⟩⟩=(tyA,0):=f1
 have d1:decide (tyA=tyA)=true:=decide_eq_true rfl
 obtain⟨s1,s2⟩:=aai
 have e0:([⟨1,0,[],[],8,aQ⟩]:aD)=ad4:=rfl
 have eA:([⟨1,1,[],[],8,aQ⟩,⟨9,0,[],[],4,⟨3,0,[],[50],false,0⟩⟩]:aD)=tyA:=rfl
 have eU:([⟨1,1,[],[],24,aQ⟩,⟨9,0,[],[],1,⟨3,0,[],[50],false,0⟩⟩]:aD)=tyU:=rfl
 have eS:(⟨false,[97],0⟩:Stp)=ahu:=rfl
 (conv=>arg 4;cbv);simp (maxSteps:=400000) only[↓ak,au,BEq.rfl,seval,hQ,tC,iy,iJ,vw,dm,eG,atB,↓stB,↓aid,bT,bU,↓wX,afW,afX,e0,eA,eU,eS,f1',f2,bq,stZ,stW,↓wY,s1,s2,↓zW,d1]
 have sA:=Qg tA rfl (by decide) (by decide)
 have sU:=Qg tU rfl (by decide) (by decide)
 exact⟨by decide,t0.one,Kw t0 _,by decide,tA.one,Kw tA _,tA.one,tU.one,by decide,by decide,sA,sU,rfl,rfl,tU.one,tA.one,by decide,by decide,sU,sA,rfl,rfl,by decide,by decide⟩
def Cq:dD:=λargs objs K=>args=[]∧K (.bool true) objs 0
theorem Mg:aC Tryz.prog 10 Cq:=by
 rintro args objs K ⟨rfl,hk⟩
 exact⟨_,_,_,.pure _ rfl Qh,hk⟩
theorem iD(objs:List Obj)(K:KT):Cq [] objs K=K (.bool true) objs 0:=propext ⟨λh=>h.2,λh=>⟨rfl,h⟩⟩
end Lp
namespace Lp
open Go Go.Proofs
theorem atF(a:gG):PV.agg [.int .i64 a.n,.int .i64 a.c.kind,.int .i64 a.c.many,.str a.c.name,.str a.c.s,.bool a.c.neg,.int .i64 a.c.e]=b_ a:=rfl
theorem aaj{t:aD}{k:Nat}(hk:k≤100000)(hr:XZ t)(h:El t k=true):qd t:=by
 simp only[El,Bool.and_eq_true,decide_eq_true_eq,List.all_eq_true]at h
 obtain⟨⟨h1,h2⟩,_⟩:=h
 refine⟨by omega,λn hn=>?_⟩
 have:=h2 n hn
 simp only[jN,Bool.and_eq_true,decide_eq_true_eq]at this
 exact⟨by omega,by omega,⟨by omega,hr.cnm n hn⟩⟩
theorem X8{t:aD}{i:Nat}{a:gG}{n:dR}(h:n∈gD t i a):n=j6 a∨∃m∈t,n.s=m.s∧n.name=m.name∧n.c=m.c:=by
 unfold gD at h
 split at h
 ·rename_i x hx
  rcases List.mem_append.1 h with h | h
  ·exact .inr ⟨n,List.mem_of_mem_take h,rfl,rfl,rfl⟩
  ·rcases List.mem_cons.1 h with rfl | h
   ·exact .inr ⟨x,List.mem_of_getElem? hx,rfl,rfl,rfl⟩
   ·rcases List.mem_append.1 h with h | h
    ·exact .inr ⟨n,List.mem_of_mem_drop (List.mem_of_mem_take h),rfl,rfl,rfl⟩
    ·rcases List.mem_cons.1 h with rfl | h
     ·exact .inl rfl
     ·exact .inr ⟨n,List.mem_of_mem_drop h,rfl,rfl,rfl⟩
 ·exact .inr ⟨n,h,rfl,rfl,rfl⟩
theorem aak{t:aD}{i:Nat}{a:gG}{x:dR}(hs:qd t)(hx:t[i]?=some x)(hm:i+1+x.many.toNat≤t.length)(hl:t.length≤100000)(ha:qE a.c):qd (gD t i a):=by
 refine⟨by rw[TM hx hm];omega,λn hn=>?_⟩
 rcases X8 hn with rfl | ⟨m,hm,h1,h2,h3⟩
 ·exact⟨by simp[j6],by simp[j6],ha⟩
 ·rw[h1,h2,h3];exact hs.txt m hm
end Lp
namespace Lp
open Go Go.Proofs
theorem afY:∃fs:Array Field,Tryz.prog.underlying 61=some (.struct fs)∧fs.toList.map (λf=>(f.offset,f.type))=[(0,4),(1,9),(2,3)]:=
 ⟨Tryz.prog.fieldsOf 61,by kernel_rfl,by kernel_rfl⟩
instance :Inhabited Stp:=⟨⟨false,[],0⟩⟩
theorem ad5:Rd Tryz.prog 61 encS (λs:Stp=>s.name.length≤reachBytes):=by
 intro H eh w fuel cs x h hw
 obtain⟨fs,ht,hfs⟩:=afY
 obtain⟨hl,hp⟩:=nO ht h hw
 rw[hfs]at hp
 have hc:Tryz.prog.cellsOf 61=3:=by kernel_rfl
 rw[hc]at hl
 match cs,hl with
 | [v0,v1,v2],_=>
  obtain⟨n0,y0,a0,b0⟩:=hp 0 0 4 rfl
  obtain⟨n1,y1,a1,b1⟩:=hp 1 1 9 rfl
  obtain⟨n2,y2,a2,b2⟩:=hp 2 2 3 rfl
  rw[one_cell acu (v:=v0) rfl]at a0
  rw[one_cell yT (v:=v1) rfl]at a1
  rw[one_cell GI (v:=v2) rfl]at a2
  obtain⟨b,g0,r0⟩:=Rd.bool acs eh w n0 _ _ a0 b0
  obtain⟨nm,g1,r1⟩:=Rd.str yS eh w n1 _ _ a1 b1
  obtain⟨n,g2,r2⟩:=Rd.int GH eh w n2 _ _ a2 b2
  refine⟨⟨b,nm,n⟩,g1,?_⟩
  exact bH (r0.2 0 _ _ rfl rfl) (bH (r1.2 0 _ _ rfl rfl) (bH (r2.2 0 _ _ rfl rfl) En))
theorem afZ:Tryz.prog.underlying 25=some (.slice 61):=by kernel_rfl
theorem ad6:Rd Tryz.prog 25 dO Ko:=by
 intro H eh w fuel cs x h hw
 obtain⟨v,⟨h1,h2⟩,h3⟩:=Rd.slice (sz:=3) afZ ad5 (by kernel_rfl) (by decide) (λ_=>rfl) eh w fuel cs x h hw
 have hb:Tryz.prog.bytesOf 61=32:=by kernel_rfl
 rw[hb,reachBytes]at h1
 refine⟨v,⟨by omega,λn hn=>?_⟩,h3⟩
 have g:=h2 n hn
 rw[reachBytes]at g
 omega
section
variable {H:Type}{eh:TypeId×Value→H}{w:World}{base:Nat}{v:Value}{d:DataW H}{p:List MemPlace}
end
end Lp
namespace Lp
open Go Go.Proofs
theorem Qi:aO Tryz.prog 53 7 [.tmp 2] (gen [] [] [] Tryz.f53):=a_ Tryz.func53 rfl (by kernel_rfl)
theorem Ky:aO Tryz.prog 55 10 [.tmp 3] (gen [] [] [] Tryz.f55):=a_ Tryz.func55 rfl (by kernel_rfl)
theorem j_:aO Tryz.prog 54 9 [.tmp 4] (gen [] [] [] Tryz.f54):=a_ Tryz.func54 rfl (by kernel_rfl)
theorem kW:aO Tryz.prog 83 19 [.tmp 4] (gen [] [(387,none)] [] Tryz.f83):=a_ Tryz.func83 rfl (by kernel_rfl)
theorem fV:aO Tryz.prog 61 32 [.tmp 6] (gen [] [(229382,none)] [] Tryz.f61):=a_ Tryz.func61 rfl (by kernel_rfl)
theorem HZ:aO Tryz.prog 58 57 [.tmp 4] (gen [] [(16419,none)] [] Tryz.f58):=a_ Tryz.func58 rfl (by kernel_rfl)
theorem Mh:aO Tryz.prog 90 28 [.tmp 2] (gen [] [(3609,none)] [] Tryz.f90):=a_ Tryz.func90 rfl (by kernel_rfl)
theorem Qj:aO Tryz.prog 60 10 [.tmp 2] (gen [] [] [] Tryz.f60):=a_ Tryz.func60 rfl (by kernel_rfl)
theorem aal:aO Tryz.prog 59 41 [.tmp 6] (gen [] [(57482,some (1,2))] [9,11] Tryz.f59):=a_ Tryz.func59 rfl (by kernel_rfl)
theorem aam:aO Tryz.prog 91 10 [.tmp 4] (gen [6] [] [] Tryz.f91):=a_ Tryz.func91 rfl (by kernel_rfl)
theorem og:aO Tryz.prog 105 36 [.tmp 2] (gen [] [(3593,none),(234881088,none)] [] Tryz.f105):=a_ Tryz.func105 rfl (by kernel_rfl)
theorem wZ:aO Tryz.prog 4 97 [.tmp 2] (gen [] [] [1,4] Tryz.f4):=a_ Tryz.func4 rfl (by kernel_rfl)
end Lp
namespace Lp
open Go Go.Proofs Go.RowKit
open List (length_cons map_append map_cons map_nil take_add_one take_zero)
open Nat (lt_or_ge zero_le)
theorem WU(n:Int)(h0:0≤n)(h1:n≤1000000):ai Tryz.prog 118 [.sl 0 [] (some true),.int .i64 n] [] (.bO 0 0) [⟨51,11,[],true,0⟩]:=by
 obtain⟨n,rfl⟩:∃k:Nat,n=k:=⟨n.toNat,by omega⟩
 refine ai.Vi (by
  obtain⟨nm,hn,hf⟩:=Tryz.JM.f4
  exact⟨_,hf,hn,by kernel_rfl⟩) (by decide) λw vs ok hg hr=>?_
 obtain⟨u,v,rfl,h,h'⟩:=RQ hr
 cases RS h'
 have hu:u=.slice none 0 0:=by
  cases h with
  | slnil=>rfl
  | MH _ _ hq=>exact absurd rfl hq
  | sl _ _ _ hq=>exact absurd rfl hq
 subst hu
 rcases Nat.eq_zero_or_pos n with h0 | h0
 ·subst h0
  refine (Any8.slices_Grow_room Tryz.JM none 0 0 0 w (by decide) (by decide) (by decide) (by decide)).mono ?_
  rintro e w' ⟨h1,rfl⟩
  exact⟨_,h1,.refl _ _,.inl rfl⟩
 ·obtain⟨⟨inf,hi0,hzs,hzb,hz0,_⟩,_⟩:=(hD 51).resolve_left (by simp[bS])
  have hzs:inf.size=11:=hzs
  have hzb:inf.bytes=120:=hzb
  have hz0:inf.zero=some (.agg ⟨[.int .i64 0,.int .i64 0,.string ⟨⟨[]⟩⟩,.string ⟨⟨[]⟩⟩,.int .i64 0,.int .i64 0,.int .i64 0,.string ⟨⟨[]⟩⟩,.string ⟨⟨[]⟩⟩,.bool false,.int .i64 0]⟩):=hz0
  have hge:=grownCap_ge w (0+n) 0 51
  have hmx:=grownCap_le_maxLen w (0+n) 0 51 (by unfold maxLen;omega)
  refine (Any8.slices_Grow_grow Tryz.JM inf _ hi0 hz0 (by omega) none 0 0 n [] w (by decide) (by omega) (by rw[hzb];omega) (by omega) (by simp) (λ_=>rfl) (λa ha=>by cases ha)).mono ?_
  rintro e w' ⟨h1,rfl⟩
  refine⟨_,h1,(Below.refl w.heap.size w).drew.alloc (Nat.le_refl _) _,.inr ⟨w.heap.size,_,_,Nat.le_refl _,rfl,heap_alloc_new w.drew _,hmx,?_⟩⟩
  simp only[Array.size_append,size_zeroCells,List.size_toArray,List.length_nil]
  have e6:(Value.agg ⟨[.int .i64 0,.int .i64 0,.string ⟨⟨[]⟩⟩,.string ⟨⟨[]⟩⟩,.int .i64 0,.int .i64 0,.int .i64 0,.string ⟨⟨[]⟩⟩,.string ⟨⟨[]⟩⟩,.bool false,.int .i64 0]⟩).cells.size=11:=by decide
  rw[e6]
  have et:Tryz.Dw.t 25=51:=rfl
  rw[et]
  omega
def EB:dD:=λargs objs K=>match args with
 | [.sl 0 [] (some true),.int .i64 n]=>0≤n∧n≤1000000∧K (.bO objs.length 0) (objs++[⟨51,11,[],true,0⟩]) 2
 | _=>False
theorem Uc:aC Tryz.prog 118 EB:=by
 intro args objs K h
 unfold EB at h
 split at h
 ·rename_i n
  obtain⟨h0,h1,hk⟩:=h
  have h:=nJ.made (objs:=objs) _ _ rfl (λo ho x hx=>by simp at ho;subst ho;cases hx) (WU n h0 h1)
  exact⟨_,_,_,h,by simpa[PV.shift,PV.rq] using hk⟩
 ·exact h.elim
theorem Qk(l:List aD){i:Nat}{v:aD}(h:l[i]?=some v):(l.take (i+1)).flatten=(l.take i).flatten++v:=by
 rw[take_add_one,h];simp
theorem EC(l:List aD){i:Nat}{v:aD}(h:l[i]?=some v):(l.take i).flatten.length+v.length≤l.flatten.length:=by
 have e:l.flatten.length=((l.take (i+1)).flatten++(l.drop (i+1)).flatten).length:=by rw[←List.flatten_append,List.take_append_drop]
 rw[e,take_add_one,h];simp
theorem acM(v:aD)(ver:Nat)(t:TypeId)(rest:List Obj):eZ 1 0 (⟨t,11,v.map aP,true,ver⟩::rest) (.bO 0 ver)=ay v:=by
 have e:(v.map aP).map (PV.bL (gX 0 0 (⟨t,11,v.map aP,true,ver⟩::rest)))=v.map aP:=Em _ (λ_=>rfl) v
 simp only[eZ,Nat.not_lt_zero,if_false,gX,List.getElem?_cons_zero,Nat.le_refl,decide_true,Bool.true_and,beq_self_eq_true,if_true,e]
 rfl
theorem Ql(l:List aD)(hl:l.length≤1000000)(hb:l.flatten.length≤1000000):ai Tryz.prog 105 [dh l] [] (ay l.flatten) []:=by
 refine og.aX (T:=aR Tryz.prog [(118,EB)]) 1 hD (aj (af Uc ah)) aV (by decide) λQ hQ=>?_
 (conv=>arg 4;cbv);simp (maxSteps:=400000) only[↓ak,au,BEq.rfl,seval,hQ]
 refine aF (λm S=>∃i:Nat,i+m=l.length∧S=⟨dG 36 [(0,dh l),(3,.int .i64 ((l.take i).flatten.length:Nat)),(9,dh l),(10,.int .i64 l.length),(11,.int .i64 i)],[]⟩) l.length ⟨0,by omega,?_⟩ ?_
 ·simp only[bN,keepR,Nat.reduceAdd,lJ,Nat.reduceBEq,map_nil]
  rfl
 rintro m S ⟨i,him,rfl⟩
 rcases lt_or_ge i l.length with h | h
 ·have hlt:((i:Int)<(l.length:Int))=True:=eq_true (by omega)
  have hgi:=List.getElem?_eq_getElem h
  generalize l[i]=v at hgi
  have hs:=Qk l hgi
  have hf:=EC l hgi
  have zi:(0≤(i:Int))=True:=eq_true (by omega)
  have hs':((l.take (i+1)).flatten.length:Int)=(l.take i).flatten.length+v.length:=by rw[hs,List.length_append];omega
  have hn:(((l.take i).flatten.length:Int)+v.length<0)=False:=eq_false (by omega)
  simp (maxSteps:=400000) only[↓ak,au,BEq.rfl,seval,hQ,hlt,zi,hgi,hn]
  refine⟨⟨by omega,by omega⟩,⟨by omega,by omega⟩,m-1,by omega,i+1,by omega,?_⟩
  rw[hs']
  rfl
 have hlt:((i:Int)<(l.length:Int))=False:=eq_false (by omega)
 rw[List.take_of_length_le h]
 simp (maxSteps:=400000) only[↓ak,au,BEq.rfl,seval,hQ,hlt,↓EB]
 refine⟨by omega,by omega,?_⟩
 refine aF (λm S=>∃i ver:Nat,i+m=l.length∧S=⟨dG 36 [(6,.bO 0 ver),(25,dh l),(26,.int .i64 l.length),(27,.int .i64 i)],[⟨51,11,(l.take i).flatten.map aP,true,ver⟩]⟩) l.length ⟨0,0,by omega,?_⟩ ?_
 ·simp only[bN,keepR,Nat.reduceAdd,lJ,Nat.reduceBEq,map_nil]
  rfl
 rintro m' S ⟨j,ver,hjm,rfl⟩
 rcases lt_or_ge j l.length with h' | h'
 rotate_left 1
 ·have hlt:((j:Int)<(l.length:Int))=False:=eq_false (by omega)
  simp (maxSteps:=400000) only[↓ak,au,BEq.rfl,seval,hQ,hlt]
  rw[List.take_of_length_le h']
  all_goals exact (acM l.flatten ver 51 []).symm
 have hlt:((j:Int)<(l.length:Int))=True:=eq_true (by omega)
 have hgi:=List.getElem?_eq_getElem h'
 generalize l[j]=v at hgi
 have hs:=Qk l hgi
 have hf:=EC l hgi
 have zi:(0≤(j:Int))=True:=eq_true (by omega)
 simp (maxSteps:=400000) only[↓ak,au,BEq.rfl,seval,hQ,hlt,zi,hgi,iy]
 refine⟨by omega,by omega,⟨by omega,by omega⟩,m'-1,by omega,j+1,ver+1,by omega,?_⟩
 rw[hs]
 rfl
def w9:dD:=λargs objs K=>match args with
 | [a0]=>dZ dh a0 (HK.mk:HK λl=>(l.length≤1000000)∧(l.flatten.length≤1000000)∧K (ay l.flatten) objs 0)
 | _=>False
theorem Mi:aC Tryz.prog 105 (w9):=by
 intro args objs K h
 unfold w9 at h
 split at h
 ·rename_i a0
  obtain⟨l,rfl,h1,h2,hk⟩:=h
  exact⟨_,_,_,.pure _ rfl (Ql l h1 h2),hk⟩
 ·exact h.elim
theorem WV(t:dR)(l:List aD)(hl:l.length≤1000000)(hb:l.flatten.length≤1000000):ai Tryz.prog 91 [aP t,dh l] [] (ay (t::l.flatten)) []:=by
 refine aam.aX (T:=aR Tryz.prog [(105,w9)]) 1 hD (aj (af Mi ah)) aV (by decide) λQ hQ=>?_
 (conv=>arg 4;cbv);simp (maxSteps:=400000) only[↓ak,au,BEq.rfl,seval,hQ,↓w9,iy,iJ,vw]
 exact⟨hl,hb,by omega,by omega,by decide,(ad1 _ _ _ _ _ _).symm⟩
def ED:dD:=λargs objs K=>match args with
 | [a0,a1]=>dZ aP a0 (HK.mk:HK λt=>dZ dh a1 (HK.mk:HK λl=>(l.length≤1000000)∧(l.flatten.length≤1000000)∧K (ay (t::l.flatten)) objs 0))
 | _=>False
theorem Ud:aC Tryz.prog 91 (ED):=by
 intro args objs K h
 unfold ED at h
 split at h
 ·rename_i a0 a1
  obtain⟨t,rfl,l,rfl,h1,h2,hk⟩:=h
  exact⟨_,_,_,.pure _ rfl (WV t l h1 h2),hk⟩
 ·exact h.elim
def xD(names:List (List UInt8))(i:Nat)(p:aD):aD:=match names[i]? with | some nm=>Ez nm p | none=>p
def jl(names:List (List UInt8)):Nat→List aD→List aD
 | _,[]=>[]
 | i,p::l=>xD names i p::jl names (i+1) l
theorem EF(names:List (List UInt8))(p:aD):∀(l:List aD) (i:Nat),jl names i (l++[p])=jl names i l++[xD names (i+l.length) p]
 | [],i=>rfl
 | q::l,i=>by
  simp only[List.cons_append,jl,length_cons,EF names p l (i+1)]
  rw[show i+1+l.length=i+(l.length+1) by omega]
theorem aan(names:List (List UInt8))(i:Nat)(p:aD):(xD names i p).length=p.length:=by
 unfold xD
 split
 ·cases p<;>rfl
 ·rfl
theorem qG(names:List (List UInt8)):∀(l:List aD) (i:Nat),(jl names i l).flatten.length=l.flatten.length∧(jl names i l).length=l.length
 | [],_=>⟨rfl,rfl⟩
 | p::l,i=>by
  have:=qG names l (i+1)
  simp only[jl,List.flatten_cons,List.length_append,aan,length_cons]
  omega
def GV(names:List (List UInt8))(o:Bool):PV:=if o then jQ names else .sl 0 [] (some true)
theorem FW(d n:Nat)(X:List Obj)(t:TypeId)(l:List aD)(p:aD)(ver:Nat):f_ d n X ⟨t,1,l.map ay++[ay p],true,ver⟩=⟨t,1,l.map ay++[ay p],true,ver⟩:=by
 have:=Kc d n X t (l++[p]) ver
 simpa using this
theorem NC(t:dR)(names:List (List UInt8))(o:Bool)(l:List aD)(ho:o=false→names=[])(hn:names.length≤100000)(hl:l.length≤100000)(hf:l.flatten.length≤1000000)(hne:∀p∈l,p≠[]) :
  ai Tryz.prog 59 [aP t,GV names o,dh l] [] (ay ({ t with many:=l.length }::(jl names 0 l).flatten)) []:=by
 refine aal.aX (T:=aR Tryz.prog [(91,ED),(28,jP)]) 1 hD (aj (af Ud (af wS ah))) aV (by decide) λQ hQ=>?_
 (conv=>arg 4;cbv);simp (maxSteps:=400000) only[↓ak,au,BEq.rfl,seval,hQ,iy,iJ,vw]
 have hb:∃b:dR,b={ t with many:=l.length }:=⟨_,rfl⟩
 obtain⟨b,hb⟩:=hb
 rw[←hb]
 refine M8 (hz:=zero_le _) ⟨dG 41 [(1,GV names o),(3,.bP 0 1 0 0),(7,.bO 1 0),(13,dh l),(14,.int .i64 l.length),(15,.int .i64 0)],[⟨51,11,[aP b],true,1⟩,⟨23,1,[],true,0⟩]⟩ l.length ?_ ?_ ?_
  (I:=λm S=>∃i ver:Nat,i+m=l.length∧S=⟨dG 41 [(1,GV names o),(3,.bP 0 1 0 0),(7,.bO 1 ver),(13,dh l),(14,.int .i64 l.length),(15,.int .i64 i)],[⟨51,11,[aP b],true,1⟩,xK (jl names 0 (l.take i)) ver]⟩)
 ·have e1:∀d m X,iB d m X (GV names o)=GV names o:=λd m X=>by cases o<;>rfl
  simp (maxSteps:=400000) only[↓ak,au,BEq.rfl,seval,List.take_nil,e1]
  refine (Weak.Gb 7 23 1 (by rfl)).trans ?_
  rw[tZ.1,XY (m:=[(1,GV names o),(3,.bP 0 1 0 0),(7,.bO 1 0),(13,dh l),(14,.int .i64 l.length),(15,.int .i64 0)])]
  ·exact Weak.refl _ _
  ·intro i
   simp only[nu]
   by_cases h3:i=7
   ·subst h3;rfl
   ·simp only[h3,if_false];rfl
 ·exact⟨0,0,by omega,rfl⟩
 rintro m S ⟨i,ver,him,rfl⟩
 rcases lt_or_ge i l.length with h | h
 ·have hlt:((i:Int)<(l.length:Int))=True:=eq_true (by omega)
  have zi:(0≤(i:Int))=True:=eq_true (by omega)
  have hgi:=List.getElem?_eq_getElem h
  have hpl:=EC l hgi
  have hpe:=hne _ (List.getElem_mem h)
  generalize l[i]=p at hgi hpl hpe
  have htk:jl names 0 (l.take (i+1))=jl names 0 (l.take i)++[xD names i p]:=by
   rw[take_add_one,hgi]
   show jl names 0 (l.take i++[p])=_
   rw[EF,List.length_take,Nat.zero_add,Nat.min_eq_left (by omega)]
  obtain⟨x,q,hpx⟩:∃x q,p=x::q:=by
   cases p with
   | nil=>exact absurd rfl hpe
   | cons x q=>exact⟨x,q,rfl⟩
  subst hpx
  simp only[length_cons]at hpl
  have hdl:(jl names 0 (l.take i)).length≤100000:=by rw[(qG names _ _).2,List.length_take];omega
  have hz:∀a b:Obj,∀y:dR,eZ 1 2 [a,b,⟨51,11,aP y::q.map aP,true,0⟩] (.bO 2 0)=ay (y::q):=λa b y=>PS 2 _ _ q 0 _ rfl
  have hoY:xL (x::q)=⟨51,11,aP x::q.map aP,true,0⟩:=rfl
  cases ho':o with
  | false=>
   have hnm:GV names false=.sl 0 [] (some true):=rfl
   have hnk:xD names i (x::q)=x::q:=by rw[ho ho'];rfl
   have c0:((i:Int)<((0:Nat):Int))=False:=eq_false (by omega)
   have c1:((i:Int)<0)=False:=eq_false (by omega)
   simp (maxSteps:=400000) only[↓ak,au,BEq.rfl,seval,hQ,hlt,zi,hgi,hnm,c0,c1,↓jP,hoY]
   refine⟨by omega,?_⟩
   refine aN _ (Weak.freeze 1 2 ?_ _) ?_
   ·exact zero_le _
   simp (maxSteps:=400000) only[↓ak,au,BEq.rfl,seval,hQ,hoY,hz,Ke,adT,acI,Kr,List.take_succ_cons,take_zero]
   exact⟨by omega,by omega,⟨by omega,by omega⟩,m-1,by omega,i+1,ver+1,by omega,by rw[htk,hnk];simp only[FW,xK,map_append,map_cons,map_nil];rfl⟩
  | true=>
   have hnm:GV names true=jQ names:=rfl
   cases hni:names[i]? with
   | none=>
    have hnk:xD names i (x::q)=x::q:=by simp[xD,hni]
    have c0:((i:Int)<(names.length:Int))=False:=eq_false (by have:=List.getElem?_eq_none_iff.1 hni;omega)
    simp (maxSteps:=400000) only[↓ak,au,BEq.rfl,seval,hQ,hlt,zi,hgi,hnm,c0,↓jP,hoY]
    refine⟨by omega,?_⟩
    refine aN _ (Weak.freeze 1 2 ?_ _) ?_
    ·exact zero_le _
    simp (maxSteps:=400000) only[↓ak,au,BEq.rfl,seval,hQ,hoY,hz,Ke,adT,acI,Kr,List.take_succ_cons,take_zero]
    exact⟨by omega,by omega,⟨by omega,by omega⟩,m-1,by omega,i+1,ver+1,by omega,by rw[htk,hnk];simp only[FW,xK,map_append,map_cons,map_nil];rfl⟩
   | some nm=>
    have hnk:xD names i (x::q)={ x with name:=nm }::q:=by simp[xD,hni,Ez]
    have c0:((i:Int)<(names.length:Int))=True:=eq_true (by have:=(List.getElem?_eq_some_iff.1 hni).1;omega)
    simp (maxSteps:=400000) only[↓ak,au,BEq.rfl,seval,hQ,hlt,zi,hgi,hnm,c0,hni,↓jP,aco,List.set_cons_zero]
    refine⟨by omega,by omega,?_⟩
    refine aN _ (Weak.freeze 1 2 ?_ _) ?_
    ·exact zero_le _
    simp (maxSteps:=400000) only[↓ak,au,BEq.rfl,seval,hQ,hz,Ke,adT,acI,Kr,List.take_succ_cons,take_zero]
    exact⟨by omega,by omega,⟨by omega,by omega⟩,m-1,by omega,i+1,ver+1,by omega,by rw[htk,hnk];simp only[FW,xK,map_append,map_cons,map_nil];rfl⟩
 ·have hlt:((i:Int)<(l.length:Int))=False:=eq_false (by omega)
  have hi:l.take i=l:=List.take_of_length_le h
  have e1:∀D:List aD,eZ 1 0 [⟨51,11,[aP b],true,1⟩,xK D ver] (.bO 1 ver)=dh D:=λD=>by
   simp only[xK,eZ,Nat.not_lt_zero,if_false,gX,List.getElem?_cons_succ,List.getElem?_cons_zero,zero_le,decide_true,Bool.true_and,beq_self_eq_true,if_true,zV (gX 0 0 _) (λ_=>rfl)]
   rfl
  simp (maxSteps:=400000) only[↓ak,au,BEq.rfl,seval,hQ,hlt,hi]
  refine aN _ (Weak.freeze 1 0 (zero_le _) _) ?_
  have e0:∀y:Obj,eZ 1 0 [⟨51,11,[aP b],true,1⟩,y] (.bP 0 1 0 0)=.addr (aP b):=λ_=>rfl
  simp (maxSteps:=400000) only[↓ak,au,BEq.rfl,seval,hQ,e1,e0,↓ED]
  exact⟨by have:=qG names l 0;omega,by have:=qG names l 0;omega,by rw[hb]⟩
def af0(x:PV)(p:List (List UInt8)):Prop:=x=jQ p∨(x=.sl 0 [] (some true)∧p=[])
theorem af2(a:List (List UInt8))(P:List (List UInt8)→Prop):(∃l,af0 (jQ a) l∧P l)=P a:=by
 apply propext
 constructor
 ·rintro⟨l,h | ⟨h,_⟩,hp⟩
  ·rw[yD _ _ h];exact hp
  ·simp[jQ]at h
 ·exact λh=>⟨a,.inl rfl,h⟩
theorem acN(P:List (List UInt8)→Prop):(∃l,af0 (.sl 0 [] (some true)) l∧P l)=P []:=by
 apply propext
 constructor
 ·rintro⟨l,h | ⟨_,rfl⟩,hp⟩
  ·simp[jQ]at h
  ·exact hp
 ·exact λh=>⟨[],.inr ⟨rfl,rfl⟩,h⟩
def M7(t:dR)(names:List (List UInt8))(l:List aD):aD:={ t with many:=l.length }::(jl names 0 l).flatten
def vK:dD:=λargs objs K=>match args with
 | [a,x,b]=>dZ aP a (HK.mk:HK λt=>∃names,af0 x names∧dZ dh b (HK.mk:HK λl=>names.length≤100000∧l.length≤100000∧l.flatten.length≤1000000∧(∀p∈l,p≠[])∧K (ay (M7 t names l)) objs 0))
 | _=>False
theorem GX:aC Tryz.prog 59 vK:=by
 intro args objs K h
 unfold vK at h
 split at h
 ·obtain⟨t,rfl,names,hx,l,rfl,h1,h2,h3,h4,hk⟩:=h
  rcases hx with rfl | ⟨rfl,rfl⟩
  ·exact⟨_,_,_,.pure _ rfl (NC t names true l (by simp) h1 h2 h3 h4),hk⟩
  ·exact⟨_,_,_,.pure _ rfl (NC t [] false l (λ_=>rfl) h1 h2 h3 h4),hk⟩
 ·exact h.elim
theorem acO(t:dR)(l:List aD):M7 t [] l=sM t l:=by
 have:∀(l:List aD) (i:Nat),jl [] i l=l:=by
  intro l
  induction l with
  | nil=>intro _;rfl
  | cons p l ih=>intro i;simp[jl,ih,xD]
 simp[M7,sM,this]
theorem WW(t:aD)(hl:t.length≤100000)(hne:t≠[]):ai Tryz.prog 60 [ay t] [] (ay (HY t)) []:=by
 refine Qj.aX (T:=aR Tryz.prog [(59,vK)]) 0 hD (aj (af GX ah)) aV (by decide) λQ hQ=>?_
 have e:M7 ⟨2,0,[],[],0,aQ⟩ [[107,101,121],[118,97,108,117,101]] [[⟨1,0,[],[],16,aQ⟩],t]=HY t:=by
  simp[M7,jl,xD,Ez,HY,Ku,qg]
 (conv=>arg 4;cbv);simp (maxSteps:=400000) only[↓ak,au,BEq.rfl,seval,hQ,tC,iy,iJ,vw,↓vK,af2,acN,e]
 refine⟨by simp;omega,λp hp=>?_⟩
 rcases List.mem_cons.1 hp with rfl | hp
 ·simp
 ·rw[List.mem_singleton.1 hp];exact hne
def EG:dD:=λargs objs K=>match args with
 | [a0]=>dZ ay a0 (HK.mk:HK λt=>(t.length≤100000)∧(t≠[])∧K (ay (HY t)) objs 0)
 | _=>False
theorem Ue:aC Tryz.prog 60 (EG):=by
 intro args objs K h
 unfold EG at h
 split at h
 ·rename_i a0
  obtain⟨t,rfl,h1,h2,hk⟩:=h
  exact⟨_,_,_,.pure _ rfl (WW t h1 h2),hk⟩
 ·exact h.elim
end Lp
namespace Lp
open Go
variable {P:Program}{D:TypeId→aH}{T:Know}
def acP(d:Nat)(t:Nat)(o':Obj)(e:Exit)(S:St):Prop:=
 (e=.normal∨e=.ret)∧∃S' k ver o,Weak 0 S S'∧S'.tmps.getD t .dead=.mD k ver∧S'.objs[k]?=some o∧o.live=true∧o.ver=ver∧mY d k S' o=o'∧fI [o']
theorem WX{base av:Nat→Prop}{w0:Wz}{S':St}{aA:Nat→Option Nat}{a:Act}{w':World}{d k:Nat}{o:Obj}(R':Rel base av w0 S' aA a w')(ho:S'.objs[k]?=some o)(hlv:o.live=true)(hnr:fI [mY d k S' o]) :
  dP base av [mY d k S' o] (λj=>if j=0 then aA k else none) w'∧
  ∀v,bJ w' (bZ base S'.objs aA) S'.objs aA (.mD k o.ver) v→bJ w' (bZ base [mY d k S' o] (λj=>if j=0 then aA k else none)) [mY d k S' o] (λj=>if j=0 then aA k else none) (.mD 0 0) v:=by
 refine⟨(Fe R' ho hlv hnr).1,λv hx=>?_⟩
 obtain⟨h0,o1,h1,h2,h3⟩:=hx
 rw[ho]at h1
 cases h1
 obtain⟨hM,g,hg,hv⟩:=h3 hlv rfl
 exact⟨h0,_,rfl,Nat.le_refl _,λ_ _=>⟨hM,g,by simp only[if_true];exact hg,hv⟩⟩
theorem ai.WY {f:FuncId}{fn:Func}{c:Code}{C:LC}{args:List PV}{o':Obj}(d:Nat){t n:Nat}(hD:∀t,je P t (D t))(hT:Ii P none tY T)(hm:P.follows .mixedOrders=true)
  (hf:P.funcs[f]?=some fn) (hname:(fn.name== "runtime.NumGoroutine")=false) (hb:fn.body=some c) (hn:fn.ntmps=n) (hr:fn.results=#[.tmp t]) (hC:strip C=comp c)
  (h:l7 P D T C (acP d t o') (cK args n)):ai P f args [] (.mD 0 0) [o']:=by
 refine⟨⟨fn,hf,hname,by rw[hb];rfl⟩,λw blk vs base hbase _ hargs=>?_⟩
 have hpw:PW P none tY c (acP d t o') (cK args n):=qP hD hm C _ _ _ c _ _ hT hC h
 have R:=zA hbase hargs n
 have hw:=hpw _ _ (λx=>(⟨w.heap,[],0,w⟩:Wz)=x) (by rintro z rfl;exact⟨rfl,rfl⟩) _ _ _ ⟨_,rfl,R⟩
 rw[←callsIn_wide (n:=0)]
 refine callsIn_of_wp_marks hf hb trivial ?_
 rw[hn]
 refine wpIn_mono hw ?_
 rintro e a' w' ⟨S0,aa6,⟨he,S',k,ver,o,hwk,ht,ho,hlv,hv,rfl,hnr⟩,_,rfl,R0⟩
 obtain⟨aA,R'⟩:=hwk _ _ _ _ _ _ (Nat.le_refl _) R0
 have key:∀w',Rel base (λb=>b<w.heap.size∧aZ [] blk b) ⟨w.heap,[],0,w⟩ S' aA { a' with defers:=[] } w'→∃v,(results fn a'.tmps).run P w'=.ok v w'∧(∃v' nL,Ending.returned v=.returned v'∧
     dP base (λb=>b<w.heap.size∧aZ [] blk b) [mY d k S' o] nL w'∧
     aY w' (bZ base [mY d k S' o] nL) [mY d k S' o] nL (.mD 0 0) v'∧(∀b,b<w.heap.size→aZ [] blk b→w'.heap[b]?=w.heap[b]?)∧w.heap.size≤w'.heap.size∧Sm w w'):=by
  intro w' R'
  have hx:=R'.ev (.tmp t)
  change aY w' _ _ aA (S'.tmps.getD t .dead) (a'.tmps.getD t undef) at hx
  rw[ht,←hv]at hx
  obtain⟨c1,c2⟩:=WX (d:=d) R' ho hlv hnr
  exact⟨_,results_tmp hr _ _ _,a'.tmps.getD t undef,_,rfl,c1,c2 _ hx,λb hb1 hb2=>R'.fr b ⟨hb1,hb2⟩,R'.gr,R'.sm⟩
 rcases he with rfl | rfl<;>exact oO _ _ R' key
structure ae2 (d t:Nat) (o':Obj) (S:St):Prop where
 h:acP d t o' .ret S
theorem ahv{d t n:Nat}{o':Obj}{l:List (Nat×PV)}{ob:List Obj}{k ver:Nat}{o:Obj}(h1:(dG n l).getD t .dead=.mD k ver)(h2:ob[k]?=some o)(h3:o.live=true)(h4:o.ver=ver)(h5:{ f_ d (k+1) ob o with ver:=0 }=o')(h6:fI [o']):ae2 d t o' ⟨dG n l,ob⟩:=
 ⟨.inr rfl,_,k,ver,o,Weak.refl _ _,h1,h2,h3,h4,h5,h6⟩
theorem aO.af3 {f:FuncId}{n t:Nat}{C:LC}{args:List PV}{o':Obj}(h:aO P f n [.tmp t] C)(d:Nat)(hD:∀t,je P t (D t))(hT:Ii P none tY T)(hm:P.follows .mixedOrders=true)
  (hw:∀Q:Exit→St→Prop,(∀l ob,Q .ret ⟨dG n l,ob⟩=ae2 d t o' ⟨dG n l,ob⟩)→l7 P D T C Q (cK args n)):ai P f args [] (.mD 0 0) [o']:=by
 obtain⟨fn,c,h1,h2,h3,h4,h5,h6⟩:=h
 exact ai.WY d hD hT hm h1 h2 h3 h4 h5 h6 (hw _ λl ob=>propext ⟨λh=>⟨h⟩,λh=>h.h⟩)
theorem ad7{k kv n k' kv' n':Nat}{seen seen':List Nat}{i i' v v':Nat}(h:xM k kv n (seen++[i]) v=xM k' kv' n' (seen'++[i']) v'):k=k'∧kv=kv'∧n=n'∧i=i':=by
 simp only[xM,Obj.mk.injEq,List.cons.injEq,PV.mD.injEq,PV.int.injEq,true_and,List.map_append,List.map_cons,List.map_nil]at h
 obtain⟨⟨⟨h1,h2⟩,h3,h4⟩,_⟩:=h
 obtain⟨_,h5⟩:=List.append_inj' h4 rfl
 simp only[List.cons.injEq,PV.int.injEq,true_and,and_true]at h5
 exact⟨h1,h2,by omega,by omega⟩
theorem af4{objs:List Obj}{j ver k kv n i:Nat}{seen:List Nat}{mo:Obj}{key v:PV}(h1:objs[j]?=some (xM k kv n (seen++[i]) ver))(h2:objs[k]?=some mo)(h3:mo.live=true)(h4:mo.ver=kv)(h5:mo.sz=2)(h6:mo.xs.length=n)(h7:mo.xs[i]?=some (.agg [key,v]))(K:KT) :
  vX (.mD j ver) objs K=K (.bY [key,v]) objs 1:=by
 refine propext ⟨λh=>?_,λh=>⟨k,kv,n,seen,i,mo,key,v,h1,h2,h3,h4,h5,h6,h7,h⟩⟩
 obtain⟨k',kv',n',seen',i',mo',key',v',g1,g2,_,_,_,_,g7,hk⟩:=h
 rw[h1]at g1
 obtain⟨rfl,rfl,rfl,rfl⟩:=ad7 (Option.some.inj g1)
 rw[h2]at g2;cases g2
 rw[h7]at g7
 cases g7
 exact hk
end Lp
namespace Lp
open Go Go.Proofs
def qw(p:List UInt8×aD):PV:=.agg [.str p.1,ay p.2]
def WZ(l:List (List UInt8×aD)):Obj:=⟨MT,2,l.map qw,true,1⟩
theorem ND{α:Type}(enc:α→PV)(nm:List UInt8):∀(l:List (List UInt8×α)) (i:Nat),(∀p∈l,p.1≠nm)→sQ .str (.str nm) (l.map λp=>.agg [.str p.1,enc p.2]) i=some none
 | [],_,_=>rfl
 | p::l,i,h=>by
  have h1:(decide (nm=p.1))=false:=decide_eq_false λe=>h p (List.mem_cons_self ..) e.symm
  simp only[List.map_cons,sQ,Yw,h1]
  exact ND enc nm l (i+1) λq hq=>h q (List.mem_cons_of_mem _ hq)
theorem acQ(d n:Nat)(objs:List Obj)(l:List (List UInt8×aD)):(l.map qw).map (PV.bL (eZ d n objs))=l.map qw:=by
 rw[List.map_map]
 refine List.map_congr_left λx _=>?_
 have h:eZ d n objs (ay x.2)=ay x.2:=by cases d<;>rfl
 show PV.agg [eZ d n objs (.str x.1),eZ d n objs (ay x.2)]=qw x
 rw[h]
 cases d<;>rfl
theorem NE(l:List (List UInt8×aD))(v:Nat):fI [{ WZ l with ver:=v }]:=by
 intro o ho x hx p hp
 simp only[List.mem_singleton]at ho
 subst ho
 simp only[WZ,List.mem_map]at hx
 obtain⟨n,_,rfl⟩:=hx
 simp only[qw,PV.cells,List.mem_cons,List.not_mem_nil,or_false]at hp
 rcases hp with rfl | rfl<;>rfl
theorem aao(ps:List aD){i:Nat}{y:dR}{q:aD}(h:ps[i]?=some (y::q)):ps.flatten[(ps.take i).flatten.length]?=some y:=by
 have e:ps.flatten=(ps.take i).flatten++(ps.drop i).flatten:=by rw[←List.flatten_append,List.take_append_drop]
 have hl:=(List.getElem?_eq_some_iff.1 h).1
 have hd:ps.drop i=(y::q)::ps.drop (i+1):=by
  rw[List.drop_eq_getElem_cons hl]
  rw[List.getElem?_eq_getElem hl]at h
  rw[Option.some.inj h]
 rw[e,List.getElem?_append_right (Nat.le_refl _),Nat.sub_self,hd]
 rfl
theorem Mj{α β:Type}{a:List α}{b:List β}{i:Nat}{x:α}{y:β}(h1:a[i]?=some x)(h2:b[i]?=some y):(a.zip b).take (i+1)=(a.zip b).take i++[(x,y)]:=by
 have:(a.zip b)[i]?=some (x,y):=by rw[List.getElem?_zip_eq_some];exact⟨h1,h2⟩
 rw[List.take_add_one,this];rfl
theorem Qn(t:aD)(ho:Y.One t)(hl:t.length≤100000)(hk:Y.kindOf t=2)(hn:(bE t).Nodup):ai Tryz.prog 90 [ay t] [] (.mD 0 0) [{ WZ (dY t) with ver:=0 }]:=by
 refine Mh.af3 (T:=aR Tryz.prog [(52,lF)]) 0 hD (aj (af um ah)) aV λQ hQ=>?_
 obtain⟨n,r,ps,hv,hm,hp,hfl,hps,hpo,hmn,Fy⟩:=mO t ho
 have hn2:n.kind=2:=by rw[hv]at hk;exact hk
 have hpt:ax t=ps.map Y.ic:=by rw[hv,ax,if_neg (by omega),hpo]
 have hnt:bE t=ps.map Y.nameOf:=by rw[hv,bE,if_pos hn2,hpo]
 (conv=>arg 4;cbv);simp (maxSteps:=400000) only[↓ak,au,BEq.rfl,seval,hQ,↓ZK,l9,↓lF]
 refine⟨ho,by omega,?_⟩
 have hpl:(ax t).length=ps.length:=by rw[hpt,List.length_map]
 refine aF (λm S=>∃i:Nat,i+m=ps.length∧S=⟨dG 28 [(0,ay t),(3,.mD 0 1),(4,.int .i64 (1+(ps.take i).flatten.length:Nat)),(9,dh (ax t)),(10,.int .i64 (ax t).length),(11,.int .i64 i)],[WZ ((dY t).take i)]⟩) ps.length ⟨0,by omega,?_⟩ ?_
 ·simp only[bN,keepR,Nat.reduceAdd,lJ,Nat.reduceBEq,List.map_nil]
  rfl
 rintro m S ⟨i,him,rfl⟩
 rcases Nat.lt_or_ge i ps.length with h | h
 ·have hlt:((i:Int)<((ax t).length:Int))=True:=eq_true (by omega)
  have zi:(0≤(i:Int))=True:=eq_true (by omega)
  have hgi:=List.getElem?_eq_getElem h
  have hpe:=(hps _ (List.getElem_mem h)).ne
  have af5:=EC ps hgi
  have htf:=Qk ps hgi
  generalize ps[i]=p at hgi hpe af5 htf
  obtain⟨y,q,rfl⟩:∃y q,p=y::q:=by
   cases p with
   | nil=>exact absurd rfl hpe
   | cons y q=>exact⟨y,q,rfl⟩
  have MF:(ax t)[i]?=some (Y.ic (y::q)):=by rw[hpt,List.getElem?_map,hgi];rfl
  have hgn:(bE t)[i]?=some y.name:=by rw[hnt,List.getElem?_map,hgi];rfl
  have hgt:t[1+(ps.take i).flatten.length]?=some y:=by
   rw[hv,Nat.add_comm,List.getElem?_cons_succ,←hfl]
   exact aao ps hgi
  have hat:(((1+(ps.take i).flatten.length:Nat):Int)<(t.length:Int))=True:=eq_true (by have:=(List.getElem?_eq_some_iff.1 hgt).1;omega)
  have zat:(0≤((1+(ps.take i).flatten.length:Nat):Int))=True:=eq_true (by omega)
  have hmf:sQ .str (.str y.name) (((dY t).take i).map qw) 0=some none:=ND ay y.name _ 0 λp hp e=>by
   obtain⟨j,hj⟩:=List.mem_iff_getElem?.1 hp
   rw[List.getElem?_take]at hj
   split at hj
   ·rename_i hji
    have hz:=hj
    unfold dY at hz
    rw[List.getElem?_zip_eq_some]at hz
    have h1:=hz.1
    rw[e,←hgn]at h1
    have hjl:=(List.getElem?_eq_some_iff.1 hz.1).1
    have:=(List.getElem?_inj hjl hn).1 h1
    omega
   ·cases hj
  unfold WZ
  simp (maxSteps:=400000) only[↓ak,au,BEq.rfl,seval,hQ,hlt,zi,MF,hat,zat,hgt,↓ZK,gW,Int.toNat_natCast]
  have ht2:=Mj hgn MF
  have aie:ps.flatten.length≤100000:=by rw[hfl];rw[hv]at hl;simp only[List.length_cons]at hl;omega
  have hcl:(Y.ic (y::q)).length=(y::q).length:=Y.fH _
  rw[hcl]
  generalize hyl:(y::q).length=yl at af5 htf
  have air:=Nat.le_trans af5 aie
  have hrl:r.length+1=t.length:=by rw[hv];rfl
  refine⟨.inl trivial,none,hmf,⟨by omega,by omega⟩,⟨by omega,by omega⟩,m-1,by omega,i+1,by omega,?_⟩
  have aif:(((1+(ps.take i).flatten.length:Nat):Int)+(yl:Int))=((1+(ps.take (i+1)).flatten.length:Nat):Int):=by rw[htf,List.length_append,hyl];omega
  rw[aif]
  show _=(⟨_,[⟨MT,2,(((dY t).take (i+1)).map qw),true,1⟩]⟩:St)
  rw[show (dY t).take (i+1)=(dY t).take i++[(y.name,Y.ic (y::q))] from ht2]
  simp only[I_,List.map_append,List.map_cons,List.map_nil,List.length_append]
  rfl
 ·have hlt:((i:Int)<((ax t).length:Int))=False:=eq_false (by omega)
  have hi:(dY t).take i=dY t:=List.take_of_length_le (by simp only[dY,List.length_zip,hpl];omega)
  unfold WZ
  simp (maxSteps:=400000) only[↓ak,au,BEq.rfl,seval,hQ,hlt]
  rw[hi]
  exact ahv (k:=0) (ver:=1) rfl rfl rfl rfl (by simp only[f_,acQ];rfl) (NE _ 0)
end Lp
namespace Lp
open Go
open List (drop_succ_cons length_cons)
variable {pk:List UInt8→Bool}{pth:List UInt8→List Stp}
theorem aap{m:Int}{l:List gG}(h:(kJ m l).2=true):∃c,bV m l c=true:=by
 unfold kJ at h
 split at h
 ·rename_i c hc;exact⟨c,by simpa using List.find?_some hc⟩
 ·cases h
theorem acR{t:aD}{A:List gG}{x:gG}(hx:x∈A)(hn:0≤x.n∧x.n≤5):tK t A x=false:=by
 cases h:tK t A x with
 | false=>rfl
 | true=>
  obtain⟨c,hc⟩:=aap h
  simp only[bV,Bool.and_eq_true,List.all_eq_true]at hc
  have h1:=hc.2 x (by simp[hx])
  have h2:=hc.2 (GU x) (by simp)
  have h3:iY (GU x) c=!iY x c:=Yj x.n _ hn.1 hn.2
  rw[h3,h1]at h2;cases h2
theorem Uf{t u:aD}(hm:∀k:Nat,k<5→om (iG t) k=true→om (iG u) k=true)(ha:∀x∈bI u,x∈bI t∧0≤x.n∧x.n≤5):vJ t u=true:=by
 have h1:(List.range 5).any (uo t u)=false:=by
  rw[List.any_eq_false]
  intro k hk
  have hk5:k<5:=by simpa using hk
  unfold uo
  cases h:om (iG t) k with
  | false=>simp
  | true=>rw[hm k hk5 h];simp
 have h2:(bI u).any (tK t (bI t))=false:=by
  rw[List.any_eq_false]
  intro x hx
  rw[acR (ha x hx).1 (ha x hx).2];simp
 unfold vJ
 rw[h1,h2];rfl
theorem oC.EH {t:aD}(h:oC pk pth t):∀x∈bI t,0≤x.n∧x.n≤5∧fO x=true:=by
 intro x hx
 cases t with
 | nil=>cases hx
 | cons n r=>
  by_cases hk:n.kind=1
  ·obtain⟨h1,_,h3,_⟩:=vQ h hk
   rw[h1]at hx
   obtain⟨y,hy,rfl⟩:=List.mem_map.1 hx
   have:=(h3 y hy).1
   have h4:=this
   simp only[fO,Bool.and_eq_true,decide_eq_true_eq]at h4
   exact⟨h4.1.1,h4.1.2,this⟩
  ·simp[bI,hk]at hx
theorem oC.kinds {t:aD}(h:oC pk pth t):0≤Y.kindOf t∧Y.kindOf t≤8:=by
 cases t with
 | nil=>exact absurd rfl h.one.ne
 | cons n r=>
  have h9:n.kind≠9:=h.kind
  have h1:=h.parts.1
  show 0≤n.kind∧n.kind≤8
  unfold bQ at h1
  repeat' (split at h1;· omega)
  cases h1
theorem X9{α:Type}:∀(names:List (List UInt8)) (l:List α) (k:List UInt8) (v:α),names.Nodup→(k,v)∈names.zip l→atK k (names.zip l)=some v
 | [],l,k,v,_,h=>by simp at h
 | n::ns,[],k,v,_,h=>by simp at h
 | n::ns,x::l,k,v,hn,h=>by
  obtain⟨h1,h2⟩:=List.nodup_cons.1 hn
  simp only[List.zip_cons_cons,List.mem_cons,Prod.mk.injEq]at h
  simp only[List.zip_cons_cons,atK]
  rcases h with ⟨rfl,rfl⟩ | h
  ·simp
  ·have:n≠k:=λe=>h1 (by rw[e];exact (List.of_mem_zip h).1)
   rw[if_neg this]
   exact X9 ns l k v h2 h
theorem oC.acS {t:aD}(h:oC pk pth t)(hk:Y.kindOf t=2):(bE t).Nodup∧(bE t).length=(ax t).length:=by
 cases t with
 | nil=>exact absurd rfl h.one.ne
 | cons n r=>
  obtain⟨h1,_,_⟩:=mP.1 (h.names hk).1
  exact⟨Bd (h.names hk).2,h1⟩
theorem oC.acT {t:aD}(h:oC pk pth t)(hk:Y.kindOf t=2):iG t=0∨iG t=1:=by
 cases t with
 | nil=>exact absurd rfl h.one.ne
 | cons n r=>
  have hk':n.kind=2:=hk
  have h1:=h.parts.1
  simp[bQ,hk']at h1
  exact h1.1.1.2
theorem X_{t u:aD}(S:aD→aD→Bool)(ht:(bE t).Nodup)(hf:∀nm q,(nm,q)∈dY u→∃x,(nm,x)∈dY t∧S x q=true)(hm:iG u=1∨iG t=0∧xC t=xC u):y8 S t u=true:=by
 have h1:(dY u).all (wU S t)=true:=by
  rw[List.all_eq_true]
  rintro⟨nm,q⟩ hp
  obtain⟨x,h1,h2⟩:=hf nm q hp
  unfold wU
  rw[show atK (nm,q).1 (dY t)=some x from X9 _ _ _ _ ht h1]
  exact h2
 unfold y8
 rw[h1,Bool.true_and,Bool.or_eq_true,Bool.and_eq_true]
 simpa using hm
theorem Kz{S:aD→aD→Bool}:∀(l:List aD),(∀x∈l,S x x=true)→gQ S l l=true
 | [],_=>rfl
 | x::l,h=>by
  rw[gQ,h x (List.mem_cons_self ..),Bool.true_and]
  exact Kz l λy hy=>h y (List.mem_cons_of_mem _ hy)
theorem EI:∀(f:Nat) (t:aD),t.length≤f→oC pk pth t→iV t t=true
 | 0,t,h,hr=>by have:=hr.one.ne;cases t<;>simp at h this
 | f+1,[],_,hr=>absurd rfl hr.one.ne
 | f+1,n::r,h,hr=>by
  simp only[length_cons]at h
  have ih:∀x∈ax (n::r),iV x x=true:=λx hx=>by
   have:=hr.part x hx
   exact EI f x (by omega) this.1
  obtain⟨k0,k8⟩:=hr.kinds
  rw[II _ hr]
  generalize hk:Y.kindOf (n::r)=k at *
  unfold o9
  rw[hk]
  by_cases h1:k=1
  ·rw[if_pos ⟨h1,h1⟩]
   exact Uf (λ_ _ h=>h) λx hx=>⟨hx,(hr.EH x hx).1,(hr.EH x hx).2.1⟩
  rw[if_neg (by omega)]
  by_cases h2:k=2
  ·rw[if_pos ⟨h2,h2⟩]
   obtain⟨f1,f2⟩:=hr.acS (by omega)
   refine X_ _ f1 (λnm q hp=>⟨q,hp,ih q (List.of_mem_zip hp).2⟩) ?_
   rcases hr.acT (by omega) with h | h
   ·exact .inr ⟨h,rfl⟩
   ·exact .inl h
  rw[if_neg (by omega),if_neg (by omega),if_neg (by omega)]
  by_cases h5:k=5
  ·rw[if_pos ⟨.inr (.inr h5),h5⟩]
   obtain⟨p,hp⟩:=hr.y9 (by omega)
   have:=ih p (by rw[hp];simp)
   simp[T9,y0,hp,this]
  rw[if_neg (by omega),if_neg (by omega),if_neg (by omega)]
  by_cases h0:k=0
  ·rw[if_pos h0]
  ·rw[if_neg h0,Kz _ ih];simp
theorem oC.EI {t:aD}(h:oC pk pth t):iV t t=true:=Lp.EI t.length t (Nat.le_refl _) h
theorem aaq{s:Stp}{p:List Stp}{x:dR}{r:aD}{i:Nat}{a:gG}(ho:Y.One (x::r))(hg:Y.Good (jo pk pth) (x::r))(hl:fo (s::p) (x::r)=some i) :
  ∃A q B j,x.kind=2∧s.part=false∧Y.parts x.many.toNat r=some (A++q::B)∧(A++q::B).flatten=r∧Y.nameOf q=s.name∧Y.One q∧Y.Good (jo pk pth) q∧fo p q=some j∧j<q.length∧(∀p∈A++q::B,Y.One p)∧
   i=1+A.flatten.length+j∧gD (x::r) i a=x::(A++gD q j a::B).flatten:=by
 obtain⟨x',hx,hk,hl'⟩:=n_ hl
 obtain⟨hm,ps,h1,h2,h3⟩:=ho.parts
 obtain⟨qs,q1,q2⟩:=hg 0 x r rfl
 rw[h1]at q1;cases q1
 have hgs:Y.Good (jo pk pth) ps.flatten:=by rw[h2];exact (show Y.Good _ ([x]++r) from hg).suf
 have MF:=Y.Good.jm ps h3 hgs
 have hpo:Y.partsOf x r=ps:=by simp[Y.partsOf,h1]
 rw[fD]at hl'
 split at hl'
 ·rename_i hk2
  rw[hpo]at hl'
  cases hf:kS s.name 1 ps with
  | none=>rw[hf]at hl';cases hl'
  | some oq=>
   obtain⟨o,q⟩:=oq
   rw[hf]at hl'
   simp only[Option.map_eq_some_iff]at hl'
   obtain⟨j,hj,rfl⟩:=hl'
   obtain⟨A,B,rfl,rfl,hnm⟩:=Y.tJ _ _ _ _ _ hf
   have hqm:q∈A++q::B:=by simp
   have hjl:=yO p q j (h3 q hqm) hj
   have hr:x::r=(x::A.flatten)++q++B.flatten:=by rw[←h2];simp
   have hy:q[j]?=some x':=by
    rw[hr,show 1+A.flatten.length+j=(x::A.flatten).length+j by simp only[length_cons];omega,List.append_assoc,List.getElem?_append_right (by omega),Nat.add_sub_cancel_left,List.getElem?_append_left hjl]at hx
    exact hx
   have hlq:=X5 hj hy hk
   refine⟨A,q,B,j,hk2.1,hk2.2,h1,h2,hnm,h3 q hqm,MF q hqm,hlq,hjl,h3,rfl,?_⟩
   rw[hr,show 1+A.flatten.length+j=(x::A.flatten).length+j by simp only[length_cons];omega,TL _ _ _ _ _ hy (zY (MF q hqm) hy)]
   simp
 ·cases hl'
theorem ad8{q:aD}{j:Nat}(hj:j<q.length)(a:gG):Y.ic (gD q j a)=gD (Y.ic q) j a:=by
 cases q with
 | nil=>simp at hj
 | cons n r=>
  cases j with
  | zero=>
   simp only[gD,Y.ic,List.getElem?_cons_zero,List.take_zero,List.nil_append,Nat.zero_add,drop_succ_cons,List.drop_zero]
   rw[show 1+n.many.toNat=n.many.toNat+1 by omega,drop_succ_cons,drop_succ_cons]
  | succ j=>
   have e:∀m:dR,gD (m::r) (j+1) a=m::(match r[j]? with | some x=>r.take j++({ x with many:=x.many+1 }::((r.drop (j+1)).take x.many.toNat++j6 a::r.drop (j+1+x.many.toNat))) | none=>r):=λm=>by
    unfold gD
    simp only[List.getElem?_cons_succ]
    cases r[j]? with
    | none=>rfl
    | some x=>
     simp only[List.take_succ_cons,drop_succ_cons,List.cons_append]
     rw[show j+1+1+x.many.toNat=(j+1+x.many.toNat)+1 by omega,drop_succ_cons]
   rw[e]
   show _=gD ({ n with name:=[] }::r) (j+1) a
   rw[e]
   rfl
theorem acU(p:List Stp)(q:aD):fo p (Y.ic q)=fo p q:=by
 cases q with
 | nil=>rfl
 | cons n r=>
  have h1:fD p (Y.ic (n::r))=fD p (n::r):=by cases p<;>rfl
  unfold fo
  rw[h1]
  cases fD p (n::r) with
  | none=>rfl
  | some i=>cases i<;>rfl
structure af6 (a:gG) (t u:aD) (s:Stp) (p:List Stp) (A:List aD) (q:aD) (B:List aD) (j:Nat):Prop where
 kind:Y.kindOf t=2∧Y.kindOf u=2
 part:s.part=false
 ax:ax t=A++q::B
 W9:Lp.ax u=A++gD q j a::B
 Qo:bE u=bE t
 name:(bE t)[A.length]?=some s.name
 leaf:fo p q=some j
 jlt:j<q.length
 rest:iG u=iG t∧xC u=xC t∧EX u=EX t
theorem Qp{s:Stp}{p:List Stp}{t:aD}{i:Nat}{a:gG}(ha:fO a=true)(h:oC pk pth t)(hl:fo (s::p) t=some i):∃A q B j,af6 a t (gD t i a) s p A q B j:=by
 cases t with
 | nil=>exact absurd rfl h.one.ne
 | cons x r=>
  obtain⟨A,q,B,j,h1,h2,h3,h4,h5,h6,h7,h8,h9,h10,rfl,h12⟩:=aaq (a:=a) h.one h.good hl
  have hpl:=Y.bD _ _ _ h3
  have hk1:x.kind≠1:=by omega
  obtain⟨i1,_,hnq,_⟩:=WQ ha p q j h6 h7 h8
  have hone:∀p∈A++gD q j a::B,Y.One p:=by
   intro p' hp
   rcases List.mem_append.1 hp with hp | hp
   ·exact h10 p' (by simp[hp])
   ·rcases List.mem_cons.1 hp with rfl | hp
    ·exact i1
    ·exact h10 p' (by simp[hp])
  have hpu:Y.parts x.many.toNat (A++gD q j a::B).flatten=some (A++gD q j a::B):=by
   have:=Y.iE _ hone
   rw[←hpl]
   simpa using this
  refine⟨A.map Y.ic,Y.ic q,B.map Y.ic,j,?_⟩
  rw[h12]
  exact⟨⟨h1,h1⟩,h2,by simp[Lp.ax,hk1,dN h3],by rw[Lp.ax,if_neg hk1,dN hpu];simp[ad8 h9],by rw[bE,if_pos h1,dN hpu,bE,if_pos h1,dN h3];simp[hnq],
   by simp[bE,h1,dN h3,h5],by rw[acU];exact h8,by rw[Y.fH];exact h9,rfl,rfl,rfl⟩
theorem ad9{α:Type}{names:List (List UInt8)}{l:List α}{nm:List UInt8}{q:α}(h:(nm,q)∈names.zip l):∃k:Nat,names[k]?=some nm∧l[k]?=some q:=by
 obtain⟨k,hk⟩:=List.mem_iff_getElem?.1 h
 rw[List.getElem?_zip_eq_some]at hk
 exact⟨k,hk⟩
theorem Ya{α:Type}{names:List (List UInt8)}{l:List α}{nm:List UInt8}{q:α}{k:Nat}(h1:names[k]?=some nm)(h2:l[k]?=some q):(nm,q)∈names.zip l:=
 List.mem_iff_getElem?.2 ⟨k,by rw[List.getElem?_zip_eq_some];exact⟨h1,h2⟩⟩
theorem ad_{α:Type}{A B:List α}{q x:α}{k:Nat}(h:(A++q::B)[k]?=some x):(k=A.length∧x=q)∨∀q':α,(A++q'::B)[k]?=some x:=by
 rcases Nat.lt_trichotomy k A.length with h1 | h1 | h1
 ·right
  intro q'
  rw[List.getElem?_append_left h1]at h ⊢
  exact h
 ·left
  subst h1
  rw[List.getElem?_append_right (Nat.le_refl _),Nat.sub_self]at h
  exact⟨rfl,by simpa using h.symm⟩
 ·right
  intro q'
  rw[List.getElem?_append_right (by omega)]at h ⊢
  rw[show k-A.length=(k-A.length-1)+1 by omega]at h ⊢
  exact h
theorem Yb{a:gG}(ha:fO a=true):∀(p:List Stp) (t:aD) (i:Nat),oC pk pth t→fo p t=some i→iV (gD t i a) t=true
 | [],t,i,h,hl=>by
  obtain⟨x',hx,hk,hl'⟩:=n_ hl
  have hi:i=0:=by rw[fD]at hl';cases hl';rfl
  subst hi
  cases t with
  | nil=>cases hx
  | cons x r=>
   have hx0:x=x':=by simpa using hx
   subst hx0
   obtain⟨s1,s2,_⟩:=vQ h hk
   have hm0:=h.one.parts.1
   have hins:gD (x::r) 0 a={ x with many:=x.many+1 }::(r++[j6 a]):=by
    unfold gD
    simp only[List.getElem?_cons_zero,List.take_zero,List.nil_append,Nat.zero_add,drop_succ_cons,List.drop_zero]
    rw[show 1+x.many.toNat=x.many.toNat+1 by omega,drop_succ_cons,List.take_of_length_le (by omega),List.drop_eq_nil_of_le (by omega)]
   rw[II _ h]
   unfold o9
   have k1:Y.kindOf (gD (x::r) 0 a)=1:=by rw[hins];exact hk
   rw[if_pos ⟨k1,hk⟩]
   refine Uf (λk _ hk'=>by rw[hins]at hk';exact hk') λy hy=>⟨?_,(h.EH y hy).1,(h.EH y hy).2.1⟩
   rw[s1]at hy
   rw[hins]
   simp only[bI,hk,if_true]
   rw[List.take_of_length_le (by simp;omega),List.map_append]
   exact List.mem_append_left _ hy
 | s::p,t,i,h,hl=>by
  obtain⟨A,q,B,j,hf⟩:=Qp ha h hl
  have hk2:=hf.kind
  rw[II _ h]
  unfold o9
  rw[if_neg (by omega),if_pos ⟨hk2.2,hk2.1⟩]
  obtain⟨f1,f2⟩:=h.acS hk2.1
  refine X_ _ (by rw[hf.Qo];exact f1) (λnm x hx=>?_) ?_
  ·obtain⟨k,g1,g2⟩:=ad9 hx
   rw[hf.ax]at g2
   have hxm:x∈ax t:=by rw[hf.ax];exact List.mem_of_getElem? g2
   have hpt:oC pk pth x:=by
    cases t with
    | nil=>exact absurd rfl h.one.ne
    | cons n r=>exact (h.part x hxm).1
   rcases ad_ g2 with ⟨rfl,rfl⟩ | g3
   ·refine⟨gD x j a,Ya (k:=A.length) (by rw[hf.Qo];exact g1) (by rw[hf.W9,List.getElem?_append_right (Nat.le_refl _),Nat.sub_self];rfl),?_⟩
    exact Yb ha p x j hpt hf.leaf
   ·exact⟨x,Ya (k:=k) (by rw[hf.Qo];exact g1) (by rw[hf.W9];exact g3 _),hpt.EI⟩
  ·rw[hf.rest.1,hf.rest.2.1]
   rcases h.acT hk2.1 with h | h
   ·exact .inr ⟨h,rfl⟩
   ·exact .inl h
end Lp
namespace Lp
open Go Go.Proofs
def tL(l:List (List UInt8×aD)):Obj:=⟨MT,2,l.map qw,true,0⟩
def EJ:dD:=λargs objs K=>match args with
 | [a]=>dZ ay a (HK.mk:HK λt=>Y.One t∧t.length≤100000∧Y.kindOf t=2∧(bE t).Nodup∧K (.mD objs.length 0) (objs++[tL (dY t)]) 2)
 | _=>False
theorem Ug:aC Tryz.prog 90 EJ:=by
 intro args objs K h
 unfold EJ at h
 split at h
 ·obtain⟨t,rfl,h1,h2,h3,h4,hk⟩:=h
  have h:=nJ.made (P:=Tryz.prog) (objs:=objs) _ _ rfl (NE (dY t) 0) (Qn t h1 h2 h3 h4)
  exact⟨_,_,_,h,by simpa[PV.shift,PV.rq,tL,WZ] using hk⟩
 ·exact h.elim
theorem Uh(nm:List UInt8):∀(l:List (List UInt8×aD)) (i:Nat),∃j,sQ .str (.str nm) (l.map qw) i=some ((atK nm l).map λx=>(j,ay x))
 | [],i=>⟨0,rfl⟩
 | (k,v)::l,i=>by
  by_cases h:k=nm
  ·subst h
   refine⟨i,?_⟩
   simp[sQ,qw,Yw,atK]
  ·obtain⟨j,hj⟩:=Uh nm l (i+1)
   have h1:decide (nm=k)=false:=decide_eq_false λe=>h e.symm
   exact⟨j,by simp only[List.map_cons,sQ,qw,Yw,h1,atK,if_neg h];exact hj⟩
theorem af7{l:List (List UInt8×aD)}{i:Nat}{key v:PV}(h:(l.map qw)[i]?=some (.agg [key,v])):∃p,l[i]?=some p∧key=.str p.1∧v=ay p.2:=by
 rw[List.getElem?_map]at h
 cases hp:l[i]? with
 | none=>rw[hp]at h;cases h
 | some p=>
  rw[hp]at h
  simp only[Option.map_some,Option.some.injEq,qw,PV.agg.injEq,List.cons.injEq,and_true]at h
  exact⟨p,rfl,h.1.symm,h.2.symm⟩
theorem aea{nm:List UInt8}{t x:aD}(h:atK nm (dY t)=some x):x∈ax t:=by
 have:∀(l:List (List UInt8×aD)),atK nm l=some x→∃k,(k,x)∈l:=by
  intro l
  induction l with
  | nil=>intro h;cases h
  | cons p l ih=>
   intro h
   obtain⟨k,v⟩:=p
   rw[atK]at h
   split at h
   ·cases h;exact⟨k,List.mem_cons_self ..⟩
   ·obtain⟨k',hk⟩:=ih h;exact⟨k',List.mem_cons_of_mem _ hk⟩
 obtain⟨k,hk⟩:=this _ h
 exact (List.of_mem_zip hk).2
structure iA (t:aD):Prop where
 rt:oC bA cO t
 len:t.length≤50000
 cs:∀n∈t,n.c.s.length≤500000
theorem iA.part {t p:aD}(h:iA t)(hp:p∈ax t):iA p∧p.length<t.length:=by
 cases t with
 | nil=>cases hp
 | cons n r=>
  have h1:=h.rt.part p hp
  have hl:=h.len
  simp only[List.length_cons]at hl ⊢
  refine⟨⟨h1.1,by omega,λm hm=>?_⟩,by omega⟩
  by_cases hk:n.kind=1
  ·simp only[ax,hk,if_true]at hp;cases hp
  ·simp only[ax,hk,if_false]at hp
   obtain⟨_,_,ps,h3,h4,_⟩:=h.rt.parts
   rw[dN h3]at hp
   obtain⟨q,hq,rfl⟩:=List.mem_map.1 hp
   have hqm:∀y∈q,y∈n::r:=λy hy=>List.mem_cons_of_mem _ (by rw[←h4];exact List.mem_flatten.2 ⟨q,hq,hy⟩)
   cases q with
   | nil=>cases hm
   | cons y q=>
    rcases List.mem_cons.1 hm with rfl | hm
    ·exact h.cs y (hqm y (List.mem_cons_self ..))
    ·exact h.cs m (hqm m (List.mem_cons_of_mem _ hm))
def dW(k:Nat):dD:=λargs objs K=>match args with
 | [a,b]=>dZ ay a (HK.mk:HK λt=>dZ ay b (HK.mk:HK λu=>iA t∧iA u∧u.length<k∧t.length+2*u.length≤50000∧K (.bool (iV t u)) objs 0))
 | _=>False
theorem Ml(k:Nat)(hS:aC Tryz.prog 20 (dW k))(t u:aD)(ht:iA t)(hu:iA u)(hk:u.length≤k)(hl:t.length+2*u.length≤50000)(kt:Y.kindOf t=2)(ku:Y.kindOf u=2) :
  ai Tryz.prog 58 [ay t,ay u] [] (.bool (y8 iV t u)) []:=by
 refine HZ.aX (T:=aR Tryz.prog [(90,EJ),(20,dW k)]) 0 hD (aj (af Ug (af hS ah))) aV (by decide) λQ hQ=>?_
 obtain⟨n,hn,hmn,hmy⟩:∃n,t[0]?=some n∧n.n=iG t∧n.many=xC t:=by
  cases t with
  | nil=>exact absurd rfl ht.rt.one.ne
  | cons n r=>exact⟨n,rfl,rfl,rfl⟩
 obtain⟨n',hn',hmn',hmy'⟩:∃n,u[0]?=some n∧n.n=iG u∧n.many=xC u:=by
  cases u with
  | nil=>exact absurd rfl hu.rt.one.ne
  | cons n r=>exact⟨n,rfl,rfl,rfl⟩
 obtain⟨a1,a2⟩:=ht.rt.acS kt
 obtain⟨b1,b2⟩:=hu.rt.acS ku
 have htl:=ht.len
 have hul:=hu.len
 have r0:∀l,(tL l).live=true∧(tL l).ver=0∧(tL l).sz=2∧(tL l).xs=l.map qw:=λ_=>⟨rfl,rfl,rfl,rfl⟩
 (conv=>arg 4;cbv);simp (maxSteps:=400000) only[↓ak,au,BEq.rfl,seval,hQ,↓EJ,↓abv,vW,r0]
 refine⟨ht.rt.one,by omega,kt,a1,hu.rt.one,by omega,ku,b1,?_⟩
 refine aF (λm S=>∃seen rem:List Nat,rem.length=m∧(∀j,j<(dY u).length→j∈seen∨j∈rem)∧(∀j∈seen,∀p,(dY u)[j]?=some p→wU iV t p=true)∧
  S=⟨dG 57 [(0,ay t),(1,ay u),(5,.mD 0 0),(14,.mD 2 1)],[tL (dY t),tL (dY u),xM 1 0 (dY u).length seen 1]⟩) (dY u).length ⟨[],List.range (dY u).length,by simp,λj hj=>.inr (List.mem_range.2 hj),λj hj=>absurd hj List.not_mem_nil,?_⟩ ?_
 ·simp only[bN,keepR,Nat.reduceAdd,lJ,Nat.reduceBEq,List.map_nil]
 rintro m S ⟨seen,rem,hrm,hsr,hgood,rfl⟩
 have aij:∀v,wU iV t v=true∨wU iV t v=false:=λv=>by cases wU iV t v<;>simp
 simp (maxSteps:=400000) only[↓ak,au,BEq.rfl,seval,hQ,↓abv]
 refine⟨1,0,_,seen,_,rfl,rfl,rfl,rfl,rfl,by simp[tL],λhall=>?_,λi key v hns hx=>?_⟩
 ·have hF:(dY u).all (wU iV t)=true:=by
    rw[List.all_eq_true]
    intro p hp
    obtain⟨j,hj⟩:=List.mem_iff_getElem?.1 hp
    have hjl:=(List.getElem?_eq_some_iff.1 hj).1
    exact hgood j (hall j hjl) p hj
  have hO:y8 iV t u=(decide (iG u=1) || decide (iG t=0) && decide (xC t=xC u)):=by rw[y8,hF,Bool.true_and]
  by_cases h1:iG u=1
  ·have hr:y8 iV t u=true:=by rw[hO];simp[h1]
   have h1':=eq_true h1
   simp (maxSteps:=400000) only[↓ak,au,BEq.rfl,seval,hQ,bq,hn,hn',hmn,hmn',hmy,hmy',hr,h1']
  ·have h1':=eq_false h1
   by_cases h2:iG t=0
   ·have h2':=eq_true h2
    have hr:y8 iV t u=decide (xC t=xC u):=by rw[hO];simp[h1,h2]
    simp (maxSteps:=400000) only[↓ak,au,BEq.rfl,seval,hQ,bq,hn,hn',hmn,hmn',hmy,hmy',hr,h1',h2']
   ·have h2':=eq_false h2
    have hr:y8 iV t u=false:=by rw[hO];simp[h1,h2]
    simp (maxSteps:=400000) only[↓ak,au,BEq.rfl,seval,hQ,bq,hn,hn',hmn,hmn',hmy,hmy',hr,h1',h2']
 ·have hx':((dY u).map qw)[i]?=some (.agg [key,v]):=hx
  obtain⟨p,hp,rfl,rfl⟩:=af7 hx'
  obtain⟨j,hj⟩:=Uh p.1 (dY t) 0
  have hpm:p∈dY u:=List.mem_of_getElem? hp
  have he:∀K,vX (.mD 2 1) [tL (dY t),tL (dY u),xM 1 0 (dY u).length (seen++[i]) 1] K=K (.bY [.str p.1,ay p.2]) [tL (dY t),tL (dY u),xM 1 0 (dY u).length (seen++[i]) 1] 1:=λK=>af4 (mo:=tL (dY u)) rfl rfl rfl rfl rfl (by show ((dY u).map qw).length=_;rw[List.length_map]) hx' K
  cases hat:atK p.1 (dY t) with
  | none=>
   simp only[hat,Option.map_none]at hj
   have hr:y8 iV t u=false:=by
    have:(dY u).all (wU iV t)=false:=by
     rw[List.all_eq_false]
     exact⟨p,hpm,by simp[wU,hat]⟩
    rw[y8,this,Bool.false_and]
   simp (maxSteps:=400000) only[↓ak,au,BEq.rfl,seval,hQ,bq,↓abv,↓he,↓ZK,mF,r0,hj,VK,true_or]
   exact hr
  | some x=>
   simp only[hat,Option.map_some]at hj
   have hxm:x∈ax t:=aea hat
   have hxo:=ht.part hxm
   have hpo:=hu.part (List.of_mem_zip (a:=p.1) (b:=p.2) hpm).2
   have hxl:p.2.length<k:=by omega
   have hsum:x.length+2*p.2.length≤50000:=by omega
   cases hsb:iV x p.2 with
   | false=>
    have hr:y8 iV t u=false:=by
     have:(dY u).all (wU iV t)=false:=by
      rw[List.all_eq_false]
      exact⟨p,hpm,by simp[wU,hat,hsb]⟩
     rw[y8,this,Bool.false_and]
    simp (maxSteps:=400000) only[↓ak,au,BEq.rfl,seval,hQ,bq,↓abv,↓he,↓ZK,mF,r0,hj,VK,true_or,↓dW,hsb]
    exact⟨hxo.1,hpo.1,hxl,hsum,hr⟩
   | true=>
    have hfs:wU iV t p=true:=by simp[wU,hat,hsb]
    simp (maxSteps:=400000) only[↓ak,au,BEq.rfl,seval,hQ,bq,↓abv,↓he,↓ZK,mF,r0,hj,VK,true_or,↓dW,hsb]
    have hil:=(List.getElem?_eq_some_iff.1 hp).1
    have him:i∈rem:=(hsr i hil).resolve_left hns
    have hel:=List.length_erase_of_mem him
    have hpos:=List.length_pos_of_mem him
    refine⟨hxo.1,hpo.1,hxl,hsum,m-1,by omega,seen++[i],rem.erase i,by omega,λj hj=>?_,λj hj q hq=>?_,rfl⟩
    ·rcases hsr j hj with h | h
     ·exact .inl (List.mem_append_left _ h)
     ·by_cases e:j=i
      ·exact .inl (by rw[e];simp)
      ·exact .inr ((List.mem_erase_of_ne e).2 h)
    ·rcases List.mem_append.1 hj with h | h
     ·exact hgood j h q hq
     ·rw[List.mem_singleton.1 h,hp]at hq
      cases hq
      exact hfs
end Lp
namespace Lp
open Go Go.Proofs
def uw(k:Nat)(ys l:List aD):Prop:=∃y,ys[0]?=some y∧iA y∧y.length<k∧∀p∈l,iA p∧p.length+2*y.length≤50000
def p8(ys:List aD)(p:aD):Bool:=Bool.not (iV p (ys.headD []))
theorem acV{ys:List aD}{y:aD}(h:ys[0]?=some y):ys.headD []=y:=by
 cases ys with
 | nil=>cases h
 | cons a l=>simpa using h
theorem W_(k:Nat)(hS:aC Tryz.prog 20 (dW k))(ys:List aD)(p:aD)(h:uw k ys [p]):ai Tryz.prog 55 [ay p,.addr (dh ys)] [] (.bool (p8 ys p)) []:=by
 refine Ky.aX (T:=aR Tryz.prog [(20,dW k)]) 0 hD (aj (af hS ah)) aV (by decide) λQ hQ=>?_
 obtain⟨y,hy,hyo,hyk,hp⟩:=h
 obtain⟨h1,h2⟩:=hp p (List.mem_cons_self ..)
 have hlt:0<ys.length:=(List.getElem?_eq_some_iff.1 hy).1
 have hr:p8 ys p=Bool.not (iV p y):=by rw[p8,acV hy]
 (conv=>arg 4;cbv);simp (maxSteps:=400000) only[↓ak,au,BEq.rfl,seval,hQ,hy,↓dW,hr]
 exact⟨h1,hyo,hyk,h2⟩
theorem FX{S:aD→aD→Bool}:∀{xs ys:List aD},xs.length≠ys.length→gQ S xs ys=false
 | [],[],h=>absurd rfl h
 | [],_::_,_=>rfl
 | _::_,[],_=>rfl
 | x::xs,y::ys,h=>by rw[gQ,FX (by simpa using h),Bool.and_false]
def y_(k:Nat)(ys:List aD):dD:=λargs objs K=>match args with
 | [a,b]=>dZ ay a (HK.mk:HK λp=>b=.addr (dh ys)∧uw k ys [p]∧K (.bool (p8 ys p)) objs 0)
 | _=>False
theorem Ui(k:Nat)(hS:aC Tryz.prog 20 (dW k))(ys:List aD):aC Tryz.prog 55 (y_ k ys):=by
 intro args objs K h
 unfold y_ at h
 split at h
 ·obtain⟨p,rfl,rfl,h1,hk⟩:=h
  exact⟨_,_,_,.pure _ rfl (W_ k hS ys p h1),hk⟩
 ·exact h.elim
theorem Uj(k:Nat)(hS:aC Tryz.prog 20 (dW k))(ys l:List aD)(hl:l.length≤100000)(ho:uw k ys l) :
  ai Tryz.prog 83 [dh l,.fn 55 [] [.addr (dh ys)]] [] (.int .i64 (idxOf (p8 ys) l)) []:=by
 refine kW.aX (T:=aR Tryz.prog [(55,y_ k ys)]) 0 hD (aj (af (Ui k hS ys) ah)) aV (by decide) λQ hQ=>?_
 (conv=>arg 4;cbv);simp (maxSteps:=400000) only[↓ak,au,BEq.rfl,seval,hQ]
 refine aF (λm S=>∃i:Nat,i+m=l.length∧(∀(j:Nat) y,j<i→l[j]?=some y→p8 ys y=false)∧S=⟨dG 19 [(0,dh l),(1,.fn 55 [] [.addr (dh ys)]),(7,.int .i64 l.length),(8,.int .i64 i)],[]⟩) l.length ⟨0,by omega,λj y h=>absurd h (Nat.not_lt_zero j),?_⟩ ?_
 ·simp only[bN,keepR,Nat.reduceAdd,lJ,Nat.reduceBEq,List.map_nil]
  rfl
 rintro m S ⟨i,him,hb,rfl⟩
 rcases Nat.lt_or_ge i l.length with h | h
 rotate_left 1
 ·have hlt:((i:Int)<(l.length:Int))=False:=eq_false (by omega)
  have hr:=wE (l:=l) λj y hj=>hb j y (by have:=(List.getElem?_eq_some_iff.1 hj).1;omega) hj
  simp (maxSteps:=400000) only[↓ak,au,BEq.rfl,seval,hQ,hlt,hr]
 have hlt:((i:Int)<(l.length:Int))=True:=eq_true (by omega)
 have zi:(0≤(i:Int))=True:=eq_true (by omega)
 have hgi:=List.getElem?_eq_getElem h
 have hao:uw k ys [l[i]]:=by
  obtain⟨y,h1,h2,h3,h4⟩:=ho
  exact⟨y,h1,h2,h3,λp hp=>by rw[List.mem_singleton.1 hp];exact h4 _ (List.getElem_mem h)⟩
 generalize l[i]=o at hgi hao
 cases hp:p8 ys o
 rotate_left 1
 ·have hr:idxOf (p8 ys) l=i:=idxOf_hit hgi hp hb
  simp (maxSteps:=400000) only[↓ak,au,BEq.rfl,seval,hQ,hlt,zi,hgi,↓y_,hp,hr]
  exact hao
 ·simp (maxSteps:=400000) only[↓ak,au,BEq.rfl,seval,hQ,hlt,zi,hgi,↓y_,hp]
  refine⟨hao,⟨by omega,by omega⟩,m-1,by omega,i+1,by omega,λj y hj hy=>?_,rfl⟩
  rcases Nat.lt_or_ge j i with g | g
  ·exact hb j y g hy
  ·have:j=i:=by omega
   subst this
   rw[hgi]at hy;cases hy
   exact hp
def z8(k:Nat)(ys:List aD):dD:=λargs objs K=>match args with
 | [a,b]=>dZ dh a (HK.mk:HK λl=>b=.fn 55 [] [.addr (dh ys)]∧l.length≤100000∧uw k ys l∧K (.int .i64 (idxOf (p8 ys) l)) objs 0)
 | _=>False
theorem Qq(k:Nat)(hS:aC Tryz.prog 20 (dW k))(ys:List aD):aC Tryz.prog 83 (z8 k ys):=by
 intro args objs K h
 unfold z8 at h
 split at h
 ·obtain⟨l,rfl,rfl,h1,h2,hk⟩:=h
  exact⟨_,_,_,.pure _ rfl (Uj k hS ys l h1 h2),hk⟩
 ·exact h.elim
theorem Uk(k:Nat)(hS:aC Tryz.prog 20 (dW k))(ys l:List aD)(hl:l.length≤100000)(ho:uw k ys l) :
  ai Tryz.prog 54 [dh l,.fn 55 [] [.addr (dh ys)]] [] (.bool (l.any (p8 ys))) []:=by
 refine j_.aX (T:=aR Tryz.prog [(83,z8 k ys)]) 0 hD (aj (af (Qq k hS ys) ah)) aV (by decide) λQ hQ=>?_
 (conv=>arg 4;cbv);simp (maxSteps:=400000) only[↓ak,au,BEq.rfl,seval,hQ,↓z8,zR]
 exact⟨hl,ho⟩
def z_(k:Nat)(ys:List aD):dD:=λargs objs K=>match args with
 | [a,b]=>dZ dh a (HK.mk:HK λl=>b=.fn 55 [] [.addr (dh ys)]∧l.length≤100000∧uw k ys l∧K (.bool (l.any (p8 ys))) objs 0)
 | _=>False
theorem Qr(k:Nat)(hS:aC Tryz.prog 20 (dW k))(ys:List aD):aC Tryz.prog 54 (z_ k ys):=by
 intro args objs K h
 unfold z_ at h
 split at h
 ·obtain⟨l,rfl,rfl,h1,h2,hk⟩:=h
  exact⟨_,_,_,.pure _ rfl (Uk k hS ys l h1 h2),hk⟩
 ·exact h.elim
theorem aar(k:Nat)(hS:aC Tryz.prog 20 (dW k))(xs ys:List aD)(hl:xs.length≤100000)(ho:uw k ys xs) :
  ai Tryz.prog 53 [.addr (dh xs),.addr (dh ys)] [] (.bool (!xs.any (p8 ys))) []:=by
 refine Qi.aX (T:=aR Tryz.prog [(54,z_ k ys)]) 0 hD (aj (af (Qr k hS ys) ah)) aV (by decide) λQ hQ=>?_
 (conv=>arg 4;cbv);simp (maxSteps:=400000) only[↓ak,au,BEq.rfl,seval,hQ,↓z_]
 exact⟨hl,ho⟩
theorem FY{S:aD→aD→Bool}:∀{a b:List aD}{c d:List aD},a.length=b.length→gQ S (a++c) (b++d)=(gQ S a b && gQ S c d)
 | [],[],_,_,_=>by simp[gQ]
 | [],_::_,_,_,h=>by simp at h
 | _::_,[],_,_,h=>by simp at h
 | x::a,y::b,_,_,h=>by
  simp only[List.cons_append,gQ,FY (show a.length=b.length by simpa using h),Bool.and_assoc]
theorem Xa{S:aD→aD→Bool}{xs ys:List aD}{i:Nat}{x y:aD}(hx:xs[i]?=some x)(hy:ys[i]?=some y)(h:gQ S (xs.take i) (ys.take i)=true):gQ S (xs.take (i+1)) (ys.take (i+1))=S x y:=by
 have h1:=(List.getElem?_eq_some_iff.1 hx).1
 have h2:=(List.getElem?_eq_some_iff.1 hy).1
 rw[List.take_add_one,List.take_add_one,hx,hy,FY (by simp;omega),h]
 simp[gQ]
theorem aas{S:aD→aD→Bool}{xs ys:List aD}{i:Nat}(h:gQ S (xs.take i) (ys.take i)=false):gQ S xs ys=false:=by
 by_cases hl:xs.length=ys.length
 ·rw[←List.take_append_drop i xs,←List.take_append_drop i ys,FY (by simp;omega),h,Bool.false_and]
 ·exact FX hl
theorem Xb(k:Nat)(hS:aC Tryz.prog 20 (dW k))(xs ys:List aD)(hl:xs.length≤100000)(hl':ys.length≤100000)(ho:∀x∈xs,∀y∈ys,iA x∧iA y∧y.length<k∧x.length+2*y.length≤50000) :
  ai Tryz.prog 61 [dh xs,dh ys,.fn 20 [] []] [] (.bool (gQ iV xs ys)) []:=by
 refine fV.aX (T:=aR Tryz.prog [(20,dW k)]) 0 hD (aj (af hS ah)) aV (by decide) λQ hQ=>?_
 by_cases hn:xs.length=ys.length
 rotate_left 1
 ·have hn':((xs.length:Int)=(ys.length:Int))=False:=eq_false (by omega)
  have hr:gQ iV xs ys=false:=FX hn
  (conv=>arg 4;cbv);simp (maxSteps:=400000) only[↓ak,au,BEq.rfl,seval,hQ,hn',hr]
 have hn':((xs.length:Int)=(ys.length:Int))=True:=eq_true (by omega)
 (conv=>arg 4;cbv);simp (maxSteps:=400000) only[↓ak,au,BEq.rfl,seval,hQ,hn']
 refine aF (λm S=>∃i:Nat,i+m=xs.length∧gQ iV (xs.take i) (ys.take i)=true∧S=⟨dG 32 [(1,dh ys),(2,.fn 20 [] []),(15,dh xs),(16,.int .i64 xs.length),(17,.int .i64 i)],[]⟩) xs.length ⟨0,by omega,rfl,?_⟩ ?_
 ·simp only[bN,keepR,Nat.reduceAdd,lJ,Nat.reduceBEq,List.map_nil]
  rfl
 rintro m S ⟨i,him,hb,rfl⟩
 rcases Nat.lt_or_ge i xs.length with h | h
 rotate_left 1
 ·have hlt:((i:Int)<(xs.length:Int))=False:=eq_false (by omega)
  have hr:gQ iV xs ys=true:=by
   rw[List.take_of_length_le h,List.take_of_length_le (by omega)]at hb
   exact hb
  simp (maxSteps:=400000) only[↓ak,au,BEq.rfl,seval,hQ,hlt,hr]
 have hlt:((i:Int)<(xs.length:Int))=True:=eq_true (by omega)
 have zi:(0≤(i:Int))=True:=eq_true (by omega)
 have hlt2:((i:Int)<(ys.length:Int))=True:=eq_true (by omega)
 have hgi:=List.getElem?_eq_getElem h
 have hgy:ys[i]?=some (ys[i]'(by omega)):=List.getElem?_eq_getElem (by omega)
 have hoo:=ho _ (List.getElem_mem h) _ (List.getElem_mem (show i<ys.length by omega))
 generalize xs[i]=x at hgi hoo
 generalize ys[i]'(by omega)=y at hgy hoo
 have hsn:=Xa (S:=iV) hgi hgy hb
 cases hp:iV x y with
 | false=>
  have hr:gQ iV xs ys=false:=aas (i:=i+1) (by rw[hsn,hp])
  simp (maxSteps:=400000) only[↓ak,au,BEq.rfl,seval,hQ,hlt,hlt2,zi,hgi,hgy,↓dW,hp,hr]
  exact hoo
 | true=>
  simp (maxSteps:=400000) only[↓ak,au,BEq.rfl,seval,hQ,hlt,hlt2,zi,hgi,hgy,↓dW,hp]
  exact⟨hoo.1,hoo.2.1,hoo.2.2.1,hoo.2.2.2,⟨by omega,by omega⟩,m-1,by omega,i+1,by omega,by rw[hsn,hp],rfl⟩
def EK(k:Nat):dD:=λargs objs K=>match args with
 | [a,b,c]=>dZ dh a (HK.mk:HK λxs=>dZ dh b (HK.mk:HK λys=>c=.fn 20 [] []∧xs.length≤100000∧ys.length≤100000∧(∀x∈xs,∀y∈ys,iA x∧iA y∧y.length<k∧x.length+2*y.length≤50000)∧K (.bool (gQ iV xs ys)) objs 0))
 | _=>False
theorem Ul(k:Nat)(hS:aC Tryz.prog 20 (dW k)):aC Tryz.prog 61 (EK k):=by
 intro args objs K h
 unfold EK at h
 split at h
 ·obtain⟨xs,rfl,ys,rfl,rfl,h1,h2,h3,hk⟩:=h
  exact⟨_,_,_,.pure _ rfl (Xb k hS xs ys h1 h2 h3),hk⟩
 ·exact h.elim
def w_(k:Nat)(xs ys:List aD):dD:=λargs objs K=>match args with
 | [a,b]=>a=.addr (dh xs)∧b=.addr (dh ys)∧xs.length≤100000∧uw k ys xs∧K (.bool (Bool.not (xs.any (p8 ys)))) objs 0
 | _=>False
theorem Xc(k:Nat)(hS:aC Tryz.prog 20 (dW k))(xs ys:List aD):aC Tryz.prog 53 (w_ k xs ys):=by
 intro args objs K h
 unfold w_ at h
 split at h
 ·obtain⟨rfl,rfl,h1,h2,hk⟩:=h
  exact⟨_,_,_,.pure _ rfl (aar k hS xs ys h1 h2),hk⟩
 ·exact h.elim
def Qs(k:Nat):dD:=λargs objs K=>match args with
 | [a,b]=>dZ ay a (HK.mk:HK λt=>dZ ay b (HK.mk:HK λu=>iA t∧iA u∧u.length≤k∧t.length+2*u.length≤50000∧Y.kindOf t=2∧Y.kindOf u=2∧K (.bool (y8 iV t u)) objs 0))
 | _=>False
theorem aat(k:Nat)(hS:aC Tryz.prog 20 (dW k)):aC Tryz.prog 58 (Qs k):=by
 intro args objs K h
 unfold Qs at h
 split at h
 ·obtain⟨t,rfl,u,rfl,h1,h2,h3,h4,h5,h6,hk⟩:=h
  exact⟨_,_,_,.pure _ rfl (Ml k hS t u h1 h2 h3 h4 h5 h6),hk⟩
 ·exact h.elim
theorem all_in(t u:aD):Bool.not ((ax t).any (p8 (ax u)))=T9 iV t u:=by
 unfold T9 p8 y0
 rw[List.all_eq_not_any_not]
end Lp
namespace Lp
open Go Go.Proofs
theorem iA.ahw {t:aD}(h:iA t)(hk:Y.kindOf t=1):Aw t (bI t):=Qg h.rt hk (by have:=h.len;omega) h.cs
theorem Qt(T:Know)(pt:Bool)(g:FuncId)(c d:PV)(objs:List Obj)(K:KT):ow T pt (.fn g [] [c,d]) [] objs K=T.fn g [c,d] objs K:=rfl
theorem ixK(a b:Int)(objs:List Obj)(K:KT) :
  (bC D 55 (.addr (uq a b)) (.int .i64 0) objs K=K (.addr (.int .i64 a)) objs 0)∧
  (bC D 55 (.addr (uq a b)) (.int .i64 1) objs K=K (.addr (.int .i64 b)) objs 0):=by
 have h1:(D 3).kind≠.none:=by intro h;cases h
 exact⟨propext ⟨λh=>h.2.2.2.2.2.2,λh=>⟨h1,by decide,by decide,Nat.le_of_ble_eq_true rfl,by decide,rfl,h⟩⟩,
  propext ⟨λh=>h.2.2.2.2.2.2,λh=>⟨h1,by decide,by decide,Nat.le_of_ble_eq_true rfl,by decide,rfl,h⟩⟩⟩
theorem iA.ahx {t:aD}(h:iA t)(hk:Y.kindOf t=8):iA (sM ⟨5,0,[],[],0,aQ⟩ (ax t))∧(sM ⟨5,0,[],[],0,aQ⟩ (ax t)).length≤t.length∧(ax t).flatten.length≤1000000∧∀p∈ax t,p≠[]:=by
 obtain⟨p,hp⟩:=h.rt.y9 (by omega)
 have hpo:=h.part (p:=p) (by rw[hp];simp)
 have hl:=h.len
 rw[hp]
 refine⟨⟨ac4 (.inr (.inr (.inl rfl))) (λ_=>rfl) rfl rfl rfl rfl λq hq=>?_,?_,λm hm=>?_⟩,?_,?_,λq hq=>?_⟩
 ·rw[List.mem_singleton.1 hq];exact hpo.1.rt
 ·simp[sM];omega
 ·rcases List.mem_cons.1 hm with rfl | hm
  ·exact Nat.zero_le _
  ·exact hpo.1.cs m (by simpa using hm)
 ·simp[sM];omega
 ·simp;omega
 ·rw[List.mem_singleton.1 hq];exact hpo.1.rt.one.ne
theorem aau(nm:List UInt8)(v:aD)(k:Nat):Y.skip (Ez nm v) k=Y.skip v k:=by
 cases v with
 | nil=>rfl
 | cons n r=>cases k<;>rfl
theorem Um(nm:List UInt8)(v:aD):(Ez nm v).length=v.length:=by cases v<;>rfl
theorem aav{Q:dR→List aD→Bool}(nm:List UInt8)(hQ:∀n ps,Q { n with name:=nm } ps=Q n ps){v:aD}(h:Y.Good Q v):Y.Good Q (Ez nm v):=by
 cases v with
 | nil=>exact h
 | cons n r=>
  intro i m s hd
  cases i with
  | zero=>
   simp only[Ez,List.drop_zero,List.cons.injEq]at hd
   obtain⟨rfl,rfl⟩:=hd
   obtain⟨ps,h1,h2⟩:=h 0 n r rfl
   exact⟨ps,h1,by rw[hQ];exact h2⟩
  | succ i=>exact h (i+1) m s hd
theorem iA.ent {x:aD}(h:iA x)(hl:x.length+2≤50000):iA (HY x)∧(HY x).length=x.length+2:=by
 have he:HY x=(⟨2,2,[],[],0,aQ⟩:dR)::[[⟨1,0,Ku,[],16,aQ⟩],Ez qg x].flatten:=by simp[HY]
 have hlen:(HY x).length=x.length+2:=by simp[HY,Um]
 have hone:∀p∈[[(⟨1,0,Ku,[],16,aQ⟩:dR)],Ez qg x],Y.One p:=by
  intro p hp
  rcases List.mem_cons.1 hp with rfl | hp
  ·rfl
  ·rw[List.mem_singleton.1 hp]
   show Y.skip _ 1=_
   rw[aau,Um];exact h.rt.one
 have hgood:∀p∈[[(⟨1,0,Ku,[],16,aQ⟩:dR)],Ez qg x],Y.Good (jo bA cO) p:=by
  intro p hp
  rcases List.mem_cons.1 hp with rfl | hp
  ·intro i m s hd
   cases i with
   | zero=>
    simp only[List.drop_zero,List.cons.injEq]at hd
    obtain⟨rfl,rfl⟩:=hd
    exact⟨[],rfl,rfl⟩
   | succ i=>simp at hd
  ·rw[List.mem_singleton.1 hp]
   exact aav qg (λ_ _=>rfl) h.rt.good
 have hk9:Y.kindOf x≠9:=h.rt.kind
 have hkx:Y.kindOf (Ez qg x)=Y.kindOf x:=by cases x<;>rfl
 have hnx:Y.nameOf (Ez qg x)=qg:=by
  cases x with
  | nil=>exact absurd rfl h.rt.one.ne
  | cons n r=>rfl
 have hrow:jo bA cO ⟨2,2,[],[],0,aQ⟩ [[⟨1,0,Ku,[],16,aQ⟩],Ez qg x]=true:=by
  have u1:utf Ku=true:=by decide
  have u2:utf qg=true:=by decide
  have r1:xQ [Ku,qg]=true:=by decide
  have e9:(Y.kindOf x==9)=false:=by simpa using hk9
  have n1:Y.nameOf [(⟨1,0,Ku,[],16,aQ⟩:dR)]=Ku:=rfl
  have n2:Y.kindOf [(⟨1,0,Ku,[],16,aQ⟩:dR)]=1:=rfl
  simp[jo,bQ,sJ,xE,xg,hkx,hnx,e9,n1,n2,u1,u2,r1]
 obtain⟨g1,g2⟩:=FV (x:=⟨2,2,[],[],0,aQ⟩) rfl hone hgood hrow
 refine⟨⟨⟨by rw[he];exact g1,rfl,by show (2:Int)≠9;decide,by rw[he];exact g2⟩,by omega,λm hm=>?_⟩,hlen⟩
 simp only[HY,List.mem_cons]at hm
 rcases hm with rfl | rfl | hm
 ·exact Nat.zero_le _
 ·exact Nat.zero_le _
 ·cases x with
  | nil=>cases hm
  | cons y q=>
   rcases List.mem_cons.1 hm with rfl | hm
   ·exact h.cs y (List.mem_cons_self ..)
   ·exact h.cs m (List.mem_cons_of_mem _ hm)
theorem iA.fu {t:aD}(h:iA t):(ax t).length≤100000:=by
 obtain⟨m,r,hmr⟩:∃m r,t=m::r:=by
  cases t with
  | nil=>exact absurd rfl h.rt.one.ne
  | cons m r=>exact⟨m,r,rfl⟩
 subst hmr
 have:=(sK h.rt).2
 have hl:=h.len
 simp only[List.length_cons]at hl
 omega
theorem Un(k:Nat)(hS:aC Tryz.prog 20 (dW k))(t u:aD)(ht:iA t)(hu:iA u)(hk:u.length≤k)(hl:t.length+2*u.length≤50000):ai Tryz.prog 20 [ay t,ay u] [] (.bool (iV t u)) []:=by
 obtain⟨n,hn,hkn,hkm,hks⟩:∃n,t[0]?=some n∧Y.kindOf t=n.kind∧iG t=n.n∧EX t=n.s:=by
  cases t with
  | nil=>exact absurd rfl ht.rt.one.ne
  | cons n r=>exact⟨n,rfl,rfl,rfl,rfl⟩
 obtain⟨n',hn',hkn',agV,hks'⟩:∃n,u[0]?=some n∧Y.kindOf u=n.kind∧iG u=n.n∧EX u=n.s:=by
  cases u with
  | nil=>exact absurd rfl hu.rt.one.ne
  | cons n r=>exact⟨n,rfl,rfl,rfl,rfl⟩
 refine Kg.aX (T:=aR Tryz.prog [(52,lF),(57,qV),(56,gV n.kind n'.kind),(53,w_ k (ax t) (ax u)),(58,Qs k),(61,EK k),(60,EG),(59,vK),(20,dW k)]) 1 hD
  (aj (af um (af EA (af (Kv _ _) (af (Xc k hS _ _) (af (aat k hS) (af (Ul k hS) (af Ue (af GX (af hS ah)))))))))) aV (by decide) λQ hQ=>?_
 have htl:=ht.len
 have hul:=hu.len
 have cF:∀a b,¬ (n.kind=a∧n'.kind=b)→(decide (n.kind=a) && decide (n'.kind=b))=false:=λa b h=>by
  rw[Bool.and_eq_false_iff,decide_eq_false_iff_not,decide_eq_false_iff_not]
  by_cases h1:n.kind=a
  ·exact .inr λh2=>h ⟨h1,h2⟩
  ·exact .inl h1
 have cT:∀a b,n.kind=a∧n'.kind=b→(decide (n.kind=a) && decide (n'.kind=b))=true:=λa b h=>by simp[h.1,h.2]
 have hsub:=II t hu.rt
 unfold o9 at hsub
 rw[hkn,hkn',hkm,agV,hks,hks']at hsub
 (conv=>arg 4;cbv);simp (maxSteps:=400000) only[↓ak,au,BEq.rfl,seval,hQ,↓lF,pS]
 refine⟨ht.rt.one,by omega,hu.rt.one,by omega,?_⟩
 refine aN _ (Weak.freeze 1 0 (Nat.zero_le _) _) ?_
 simp (maxSteps:=400000) only[↓ak,au,BEq.rfl,seval,hQ,hn,hn',↓acL,kN,kP,zK,pK,kC]
 refine⟨by decide,?_⟩
 refine aN _ (Weak.freeze 1 0 (Nat.zero_le _) _) ?_
 by_cases k11:n.kind=1∧n'.kind=1
 ·rw[if_pos k11]at hsub
  simp (maxSteps:=400000) only[↓ak,au,BEq.rfl,seval,hQ,qo,kN,kP,↓gV,cT 1 1 k11,↓qV,hsub]
  exact⟨ht.rt.one,hu.rt.one,by omega,by omega,ht.ahw (by omega),hu.ahw (by omega)⟩
 rw[if_neg k11]at hsub
 have c11:=cF 1 1 k11
 by_cases k22:n.kind=2∧n'.kind=2
 ·rw[if_pos k22]at hsub
  simp (maxSteps:=400000) only[↓ak,au,BEq.rfl,seval,hQ,qo,kN,kP,↓gV,c11,cT 2 2 k22,↓Qs,hsub]
  exact⟨ht,hu,hk,hl,by omega,by omega⟩
 rw[if_neg k22]at hsub
 have c22:=cF 2 2 k22
 by_cases k32:n.kind=3∧n'.kind=2
 ·rw[if_pos k32]at hsub
  by_cases h1:n'.n=1
  ·have h1':=eq_true h1
   have hr:iV t u=decide (((ax u).length:Int)=0):=by rw[hsub,h1];simp
   simp (maxSteps:=400000) only[↓ak,au,BEq.rfl,seval,hQ,qo,kN,kP,↓gV,c11,c22,cT 3 2 k32,hn',h1',hr]
  ·have h1':=eq_false h1
   have hr:iV t u=false:=by rw[hsub];simp[h1]
   simp (maxSteps:=400000) only[↓ak,au,BEq.rfl,seval,hQ,qo,kN,kP,↓gV,c11,c22,cT 3 2 k32,hn',h1',hr]
 rw[if_neg k32]at hsub
 have c32:=cF 3 2 k32
 have hone:n'.kind=3∨n'.kind=5→∃y,ax u=[y]:=λh=>hu.rt.y9 (by omega)
 have hlist:n'.kind=3∨n'.kind=5→uw k (ax u) (ax t):=λh=>by
  obtain⟨y,hy⟩:=hone h
  have hyo:=hu.part (p:=y) (by rw[hy];simp)
  refine⟨y,by rw[hy];rfl,hyo.1,by omega,λp hp=>?_⟩
  have:=ht.part hp
  exact⟨this.1,by omega⟩
 have hpl:(ax t).length≤100000:=ht.fu
 have hpl':(ax u).length≤100000:=hu.fu
 by_cases k23:n.kind=2∧n'.kind=3
 ·rw[if_pos k23]at hsub
  by_cases h1:n.n=0
  ·have h1':=eq_true h1
   have hr:iV t u=Bool.not ((ax t).any (p8 (ax u))):=by rw[hsub,all_in];simp[h1]
   simp (maxSteps:=400000) only[↓ak,au,BEq.rfl,seval,hQ,qo,kN,kP,↓gV,c11,c22,c32,cT 2 3 k23,hn,h1',↓Qt,↓w_,hr]
   exact⟨hpl,hlist (.inl k23.2)⟩
  ·have h1':=eq_false h1
   have hr:iV t u=false:=by rw[hsub];simp[h1]
   simp (maxSteps:=400000) only[↓ak,au,BEq.rfl,seval,hQ,qo,kN,kP,↓gV,c11,c22,c32,cT 2 3 k23,hn,h1',hr]
 rw[if_neg k23]at hsub
 have c23:=cF 2 3 k23
 by_cases k45:(n.kind=4∨n.kind=7∨n.kind=5)∧n'.kind=5
 ·rw[if_pos k45]at hsub
  have hr:iV t u=Bool.not ((ax t).any (p8 (ax u))):=by rw[hsub,all_in]
  by_cases h4:n.kind=4
  ·simp (maxSteps:=400000) only[↓ak,au,BEq.rfl,seval,hQ,qo,kN,kP,↓gV,c11,c22,c32,c23,cT 4 5 ⟨h4,k45.2⟩,↓Qt,↓w_,hr]
   exact⟨hpl,hlist (.inr k45.2)⟩
  ·have c45:=cF 4 5 (by omega)
   by_cases h7:n.kind=7
   ·simp (maxSteps:=400000) only[↓ak,au,BEq.rfl,seval,hQ,qo,kN,kP,↓gV,c11,c22,c32,c23,c45,cT 7 5 ⟨h7,k45.2⟩,↓Qt,↓w_,hr]
    exact⟨hpl,hlist (.inr k45.2)⟩
   ·have c75:=cF 7 5 (by omega)
    simp (maxSteps:=400000) only[↓ak,au,BEq.rfl,seval,hQ,qo,kN,kP,↓gV,c11,c22,c32,c23,c45,c75,cT 5 5 ⟨by omega,k45.2⟩,↓Qt,↓w_,hr]
    exact⟨hpl,hlist (.inr k45.2)⟩
 rw[if_neg k45]at hsub
 have c45:=cF 4 5 (by omega)
 have c75:=cF 7 5 (by omega)
 have c55:=cF 5 5 (by omega)
 by_cases k85:n.kind=8∧n'.kind=5
 ·rw[if_pos k85]at hsub
  obtain⟨y,hy⟩:=hone (.inr k85.2)
  have hgy:(ax u)[0]?=some y:=by rw[hy];rfl
  have hy0:y0 u=y:=by rw[y0,hy];rfl
  rw[hy0]at hsub
  have hyl:(0<((ax u).length:Int))=True:=eq_true (by rw[hy];simp)
  simp (maxSteps:=400000) only[↓ak,au,BEq.rfl,seval,hQ,qo,kN,kP,↓gV,c11,c22,c32,c23,c45,c75,c55,cT 8 5 k85,tC,iy,iJ,vw,↓vK,acN,acO,hgy,hyl,↓dW,hsub]
  obtain⟨m1,m2,m3,m4⟩:=ht.ahx (by omega)
  have hyo:=hu.part (p:=y) (by rw[hy];simp)
  exact⟨hpl,m3,m4,m1,hyo.1,by omega,by omega⟩
 rw[if_neg k85]at hsub
 have c85:=cF 8 5 k85
 by_cases k65:n.kind=6∧n'.kind=5
 ·rw[if_pos k65]at hsub
  obtain⟨y,hy⟩:=hone (.inr k65.2)
  have hgy:(ax u)[0]?=some y:=by rw[hy];rfl
  have hy0:y0 u=y:=by rw[y0,hy];rfl
  obtain⟨x,hx⟩:=ht.rt.y9 (by omega)
  have hgx:(ax t)[0]?=some x:=by rw[hx];rfl
  have hx0:y0 t=x:=by rw[y0,hx];rfl
  rw[hy0,hx0]at hsub
  have hyl:(0<((ax u).length:Int))=True:=eq_true (by rw[hy];simp)
  have hxl:(0<((ax t).length:Int))=True:=eq_true (by rw[hx];simp)
  simp (maxSteps:=400000) only[↓ak,au,BEq.rfl,seval,hQ,qo,kN,kP,↓gV,c11,c22,c32,c23,c45,c75,c55,c85,cT 6 5 k65,↓EG,hgx,hxl,hgy,hyl,↓dW,hsub]
  have hyo:=hu.part (p:=y) (by rw[hy];simp)
  have hxo:=ht.part (p:=x) (by rw[hx];simp)
  obtain⟨m1,m2⟩:=hxo.1.ent (by omega)
  exact⟨by omega,hxo.1.rt.one.ne,m1,hyo.1,by omega,by omega⟩
 rw[if_neg k65]at hsub
 have c65:=cF 6 5 k65
 by_cases h0:n'.kind=0
 ·rw[if_pos h0]at hsub
  have h0':=eq_true h0
  simp (maxSteps:=400000) only[↓ak,au,BEq.rfl,seval,hQ,qo,kN,kP,↓gV,c11,c22,c32,c23,c45,c75,c55,c85,c65,hn',h0',hsub]
 rw[if_neg h0]at hsub
 have h0':=eq_false h0
 by_cases he:n.kind=n'.kind
 ·have he':=eq_true he
  by_cases hs:n.s=n'.s
  ·have hs':=eq_true hs
   have hr:iV t u=gQ iV (ax t) (ax u):=by rw[hsub];simp[he,hs]
   simp (maxSteps:=400000) only[↓ak,au,BEq.rfl,seval,hQ,qo,kN,kP,↓gV,c11,c22,c32,c23,c45,c75,c55,c85,c65,hn,hn',h0',ixK,he',hs',↓EK,hr]
   exact⟨hpl,hpl',λx hx y hy=>by
    have h1:=ht.part hx
    have h2:=hu.part hy
    exact⟨h1.1,h2.1,by omega,by omega⟩⟩
  ·have hs':=eq_false hs
   have hr:iV t u=false:=by rw[hsub];simp[hs]
   simp (maxSteps:=400000) only[↓ak,au,BEq.rfl,seval,hQ,qo,kN,kP,↓gV,c11,c22,c32,c23,c45,c75,c55,c85,c65,hn,hn',h0',ixK,he',hs',hr]
 ·have he':=eq_false he
  have hr:iV t u=false:=by rw[hsub];simp[he]
  simp (maxSteps:=400000) only[↓ak,au,BEq.rfl,seval,hQ,qo,kN,kP,↓gV,c11,c22,c32,c23,c45,c75,c55,c85,c65,hn,hn',h0',ixK,he',hr]
theorem KA:∀k:Nat,aC Tryz.prog 20 (dW k)
 | 0=>by
  intro args objs K h
  unfold dW at h
  split at h
  ·obtain⟨t,rfl,u,rfl,_,_,h3,_⟩:=h
   exact absurd h3 (Nat.not_lt_zero _)
  ·exact h.elim
 | k+1=>by
  intro args objs K h
  unfold dW at h
  split at h
  ·obtain⟨t,rfl,u,rfl,h1,h2,h3,h4,hk⟩:=h
   exact⟨_,_,_,.pure _ rfl (Un k (KA k) t u h1 h2 (by omega) h4),hk⟩
  ·exact h.elim
def KC:dD:=λargs objs K=>match args with
 | [a0,a1]=>dZ ay a0 (HK.mk:HK λt=>dZ ay a1 (HK.mk:HK λu=>(iA t)∧(iA u)∧(t.length+2*u.length≤50000)∧K (.bool (iV t u)) objs 0))
 | _=>False
theorem aaw:aC Tryz.prog 20 (KC):=by
 intro args objs K h
 unfold KC at h
 split at h
 ·rename_i a0 a1
  obtain⟨t,rfl,u,rfl,h1,h2,h3,hk⟩:=h
  exact⟨_,_,_,.pure _ rfl (Un u.length (KA _) t u h1 h2 (Nat.le_refl _) h3),hk⟩
 ·exact h.elim
end Lp
namespace Lp
open Go Go.Proofs
theorem iA.few {t:aD}{k:Nat}(hk:k≤40)(h:El t k=true):iA t∧t.length≤40:=by
 obtain⟨hw,hl⟩:=acr (k:=k) (by omega) h
 exact⟨⟨hw.rt,by omega,hw.cs⟩,by omega⟩
end Lp
namespace Lp
open Go
def qH(p:List Stp)(a:gG)(v:Vl):Bool:=(jR p v).2==0 && (jR p v).1.length==1 && iY a ((jR p v).1.headD aQ)
theorem Uo(m:Int)(l:List gG)(a:gG)(n:Nd):bV m (l++[a]) n=(bV m l n && iY a n):=by
 simp only[bV,List.all_append,List.all_cons,List.all_nil,Bool.and_true,Bool.and_assoc]
theorem Cr{g:aD→Vl→Bool}{v:Vl}{N M:List (List UInt8)}{nm:List UInt8}{A B:List aD}{q:aD}(h:N.length=A.length):lG g v (N++nm::M) (A++q::B)=(lG g v N A && (match rQ v nm with | some w=>g q w | none=>false) && lG g v M B):=by
 unfold lG
 rw[List.zip_append h,List.all_append,List.zip_cons_cons,List.all_cons,Bool.and_assoc]
 all_goals rfl
theorem acW{a:gG}(ha:fO a=true):∀(p:List Stp) (t:aD) (i:Nat) (v:Vl),oC bA cO t→fo p t=some i→inT (gD t i a) v=(inT t v && qH p a v)
 | [],t,i,v,h,hl=>by
  have hr:=WR ha h hl
  obtain⟨x',hx,hk,hl'⟩:=n_ hl
  have hi:i=0:=by rw[fD]at hl';cases hl';rfl
  subst hi
  cases t with
  | nil=>cases hx
  | cons x r=>
   have hx0:x=x':=by simpa using hx
   subst hx0
   obtain⟨s1,s2,_⟩:=vQ h hk
   have hm0:=h.one.parts.1
   have hins:gD (x::r) 0 a={ x with many:=x.many+1 }::(r++[j6 a]):=by
    unfold gD
    simp only[List.getElem?_cons_zero,List.take_zero,List.nil_append,Nat.zero_add,List.drop_succ_cons,List.drop_zero]
    rw[show 1+x.many.toNat=x.many.toNat+1 by omega,List.drop_succ_cons,List.take_of_length_le (by omega),List.drop_eq_nil_of_le (by omega)]
   have hat:bI ({ x with many:=x.many+1 }::(r++[j6 a]))=r.map iW++[a]:=by
    simp only[bI,hk,if_true]
    rw[List.take_of_length_le (by simp;omega),List.map_append]
    rfl
   rw[hins]at hr ⊢
   rw[yV hr,yV h,hat,s1]
   simp only[hk,Int.reduceEq,if_false,if_true,Uo,qH,jR]
   cases v.length==1<;>simp
 | s::p,t,i,v,h,hl=>by
  have hr:=WR ha h hl
  obtain⟨A,q,B,j,hf⟩:=Qp ha h hl
  obtain⟨n,r,rfl⟩:∃n r,t=n::r:=by
   cases t with
   | nil=>exact absurd rfl h.one.ne
   | cons n r=>exact⟨n,r,rfl⟩
  obtain⟨n',r',hnr⟩:∃n' r',gD (n::r) i a=n'::r':=by
   cases hi:gD (n::r) i a with
   | nil=>rw[hi]at hr;exact absurd rfl hr.one.ne
   | cons n0 r0=>exact⟨n0,r0,rfl⟩
  have hk:n.kind=2:=hf.kind.1
  have hpt:=hf.ax
  have hpu:=hf.W9
  have hnu:=hf.Qo
  have hk':n'.kind=2:=by have:=hf.kind.2;rw[hnr]at this;exact this
  have hm:n'.n=n.n:=by have:=hf.rest.1;rw[hnr]at this;exact this
  rw[hnr]at hr hpu hnu ⊢
  rw[yV hr,yV h]
  simp only[hk,hk',hm,Int.reduceEq,if_false,if_true,hnu]
  obtain⟨f1,f2⟩:=h.acS hf.kind.1
  have hsp:∃N M,bE (n::r)=N++s.name::M∧N.length=A.length:=by
   have hg:=hf.name
   have hlt:=(List.getElem?_eq_some_iff.1 hg).1
   refine⟨(bE (n::r)).take A.length,(bE (n::r)).drop (A.length+1),?_,by rw[List.length_take];omega⟩
   rw[List.getElem?_eq_getElem hlt]at hg
   conv=>lhs;rw[←List.take_append_drop A.length (bE (n::r)),List.drop_eq_getElem_cons hlt,Option.some.inj hg]
  obtain⟨N,M,hN,hNl⟩:=hsp
  have hqt:oC bA cO q:=(h.part q (by rw[hpt];simp)).1
  rw[hpt,hpu,hN,Cr hNl,Cr hNl]
  have hg:qH (s::p) a v=(lC v==6 && (match rQ v s.name with | some w=>qH p a w | none=>false)):=by
   have e:∀P:Vl×Int,P=jR (s::p) v→(P.2==0 && P.1.length==1 && iY a (P.1.headD aQ))=qH (s::p) a v:=λP h=>by rw[h];rfl
   unfold qH
   simp only[jR,jD,hf.part,Bool.false_eq_true,if_false]
   by_cases h6:lC v=6
   ·simp only[h6,if_true]
    cases rQ v s.name with
    | none=>simp
    | some w=>simp
   ·simp[h6]
  rw[hg]
  cases h6:lC v==6 with
  | false=>simp
  | true=>
   cases ho:rQ v s.name with
   | none=>simp
   | some w=>
    simp only[Bool.true_and]
    rw[acW ha p q j w hqt hf.leaf]
    cases lG inT v N A<;>cases inT q w<;>cases qH p a w<;>cases lG inT v M B<;>simp
theorem Yc:∀(p:List Stp) (t:aD) (i:Nat) (v:Vl),oC bA cO t→fo p t=some i→inT t v=true→(jR p v).2=0∧∃k,(jR p v).1=[k]∧qW k=true
 | [],t,i,v,h,hl,hv=>by
  obtain⟨x',hx,hk,hl'⟩:=n_ hl
  have hi:i=0:=by rw[fD]at hl';cases hl';rfl
  subst hi
  cases t with
  | nil=>cases hx
  | cons x r=>
   have hx0:x=x':=by simpa using hx
   subst hx0
   rw[yV h]at hv
   simp only[hk,Int.reduceEq,if_false,if_true,Bool.and_eq_true,beq_iff_eq]at hv
   match v,hv with
   | [k],hv=>
    simp only[bV,List.headD_cons,Bool.and_eq_true]at hv
    exact⟨rfl,k,rfl,hv.2.1.1⟩
 | s::p,t,i,v,h,hl,hv=>by
  obtain⟨A,q,B,j,hf⟩:=Qp (a:=⟨0,aQ⟩) (by decide) h hl
  obtain⟨n,r,rfl⟩:∃n r,t=n::r:=by
   cases t with
   | nil=>exact absurd rfl h.one.ne
   | cons n r=>exact⟨n,r,rfl⟩
  have hk:n.kind=2:=hf.kind.1
  have hpt:=hf.ax
  rw[yV h]at hv
  simp only[hk,Int.reduceEq,if_false,if_true]at hv
  have hsp:∃N M,bE (n::r)=N++s.name::M∧N.length=A.length:=by
   have hg:=hf.name
   have hlt:=(List.getElem?_eq_some_iff.1 hg).1
   refine⟨(bE (n::r)).take A.length,(bE (n::r)).drop (A.length+1),?_,by rw[List.length_take];omega⟩
   rw[List.getElem?_eq_getElem hlt]at hg
   conv=>lhs;rw[←List.take_append_drop A.length (bE (n::r)),List.drop_eq_getElem_cons hlt,Option.some.inj hg]
  obtain⟨N,M,hN,hNl⟩:=hsp
  have hqt:oC bA cO q:=(h.part q (by rw[hpt];simp)).1
  rw[hpt,hN,Cr hNl]at hv
  simp only[Bool.and_eq_true,beq_iff_eq]at hv
  have h6:=hv.1.1
  have hm:=hv.1.2.1.2
  cases ho:rQ v s.name with
  | none=>rw[ho]at hm;cases hm
  | some w=>
   rw[ho]at hm
   obtain⟨g1,g2⟩:=Yc p q j w hqt hf.leaf hm
   have e:jR (s::p) v=jR p w:=by
    simp only[jR,jD,hf.part,Bool.false_eq_true,if_false,h6,if_true,ho]
   rw[e]
   exact⟨g1,g2⟩
end Lp
namespace Lp
open Go Go.Proofs
theorem aeb{t:aD}{k:Nat}(hk:k≤100000)(h:El t k=true):yX t∧Y.Good IW t∧t.length≤k:=by
 have h0:=acr hk h
 simp only[El,Bool.and_eq_true,decide_eq_true_eq,List.all_eq_true]at h
 obtain⟨⟨_,h2⟩,h3⟩:=h
 simp only[ql,Bool.and_eq_true]at h3
 refine⟨⟨h0.1,λn hn=>?_⟩,(Y.lM t).1 h3.2,h0.2⟩
 have:=h2 n hn
 simp only[jN,Bool.and_eq_true,decide_eq_true_eq]at this
 omega
theorem Xd(f:Nat):aC Tryz.prog 18 (eO f):=X4 f
theorem Nds.small {v:Vl}(h:Nds v)(hl:v.length≤1000000):Small v:=⟨hl,λn hn=>⟨by have:=(h n hn).1;omega,(h n hn).2⟩⟩
end Lp
namespace Lp
open Go Go.Proofs
structure InX where
 t:aD
 p:List Stp
 a:gG
 v:Vl
def EL(w:InX):PV:=.agg [ay w.t,dO w.p,.int .i64 w.a.n,.int .i64 w.a.c.kind,.int .i64 w.a.c.many,.str w.a.c.name,.str w.a.c.s,.bool w.a.c.neg,.int .i64 w.a.c.e,aJ w.v]
theorem Mq(objs:List Obj)(K:KT) :
  (∀x,aK D 43 (.addr (EL x)) 0 objs K=K (.addr (ay x.t)) objs 0)∧
  (∀x,aK D 43 (.addr (EL x)) 1 objs K=K (.addr (dO x.p)) objs 0)∧
  (∀x,aK D 43 (.addr (EL x)) 2 objs K=K (.addr (b_ x.a)) objs 0)∧
  (∀x,aK D 43 (.addr (EL x)) 3 objs K=K (.addr (aJ x.v)) objs 0):=by
 refine⟨λn=>?_,λn=>?_,λn=>?_,λn=>?_⟩
 all_goals
  simp only[EL,b_,ay,dO,aJ,aK,eu,bS,↓M9,KH,uP,sG,G8,Jz,ne_eq,reduceCtorEq,not_false_eq_true,true_and,Bool.not_false,Bool.and_self,Nat.reduceAdd,Nat.reduceLeDiff,forall_const,false_implies]
theorem KD:(∀x,(EL x).cells.length=10)∧(∀x,(EL x).cells.all PV.storable=true)∧(∀x,(EL x).isAgg=true)∧(∀x rest,eZ 1 0 (⟨43,10,[EL x],true,1⟩::rest) (.bP 0 1 0 0)=.addr (EL x))∧
  (∀x rest,eZ 1 0 (⟨29,7,[b_ x],true,1⟩::rest) (.bP 0 1 0 0)=.addr (b_ x)):=⟨λ_=>rfl,λ_=>rfl,λ_=>rfl,λ_ _=>rfl,λ_ _=>rfl⟩
theorem KE(w:InX)(hr:XZ w.t)(hp:Ko w.p)(ha:qE w.a.c)(hv:Big w.v):ai Tryz.prog 4 [EL w] [] (.bool true) []:=by
 refine wZ.aX (T:=aR Tryz.prog [(10,Cq),(7,kG),(8,iN),(9,iI),(15,yL),(11,oZ),(16,m_),(17,pY),(18,eO 60),(19,oU),(20,KC)]) 0 hD
  (aj (af Mg (af Tt (af L9 (af DY (af Zj (af Qa (af Ej (af GJ (af (Xd 60) (af DZ (af aaw ah)))))))))))) aV (by decide) λQ hQ=>?_
 obtain⟨t,p,a,v⟩:=w
 simp only at hr hp ha hv
 have t40:Int.toNat 40=40:=rfl
 have r1:=hr.len
 have r2:=hr.txt
 have r3:=hr.cnm
 have v1:v.length≤4611686018427387904:=by have:=hv.len;omega
 have v2:=hv.txt
 (conv=>arg 4;cbv);simp (maxSteps:=400000) only[↓ak,au,BEq.rfl,seval,hQ,KD]
 refine aN _ (Weak.freeze 1 0 (Nat.zero_le _) _) ?_
 simp (maxSteps:=400000) only[↓ak,au,BEq.rfl,seval,hQ,KD,Mq,Tj,bT,bU,atF]
 refine aN _ (Weak.freeze 1 0 (Nat.zero_le _) _) ?_
 cases hf:El t 40 with
 | false=>
  simp (maxSteps:=400000) only[↓ak,au,BEq.rfl,seval,hQ,KD,Mq,↓iD,↓kG,t40,hf]
  exact⟨r1,r2,r3⟩
 | true=>
 obtain⟨ht,hl⟩:=iA.few (by decide) hf
 obtain⟨hw,_,_⟩:=aeb (by decide) hf
 have hst:=aaj (by decide) hr hf
 cases hpr:wT p with
 | false=>
  simp (maxSteps:=400000) only[↓ak,au,BEq.rfl,seval,hQ,KD,Mq,↓iD,↓kG,t40,hf,↓iN,hpr]
  exact⟨r1,r2,r3,hp⟩
 | true=>
 cases har:fO a with
 | false=>
  simp (maxSteps:=400000) only[↓ak,au,BEq.rfl,seval,hQ,KD,Mq,↓iD,↓kG,t40,hf,↓iN,hpr,atF,↓iI,har]
  exact⟨r1,r2,r3,hp,ha⟩
 | true=>
 rcases tf ((100:Int)<a.c.s.length) with hc | hc
 ·simp (maxSteps:=400000) only[↓ak,au,BEq.rfl,seval,hQ,KD,Mq,↓iD,↓kG,t40,hf,↓iN,hpr,atF,↓iI,har,hc]
  exact⟨r1,r2,r3,hp,ha⟩
 cases hfv:Cu v 40 with
 | false=>
  simp (maxSteps:=400000) only[↓ak,au,BEq.rfl,seval,hQ,KD,Mq,↓iD,↓kG,t40,hf,↓iN,hpr,atF,↓iI,har,hc,↓yL,hfv]
  exact⟨r1,r2,r3,hp,ha,v1,v2⟩
 | true=>
 have hpp:p.length≤20∧∀x∈p,0≤x.n:=by
  simp only[wT,Bool.and_eq_true,decide_eq_true_eq,List.all_eq_true]at hpr
  refine⟨hpr.2,λx hx=>?_⟩
  have:=hpr.1 x hx
  unfold lI at this
  split at this
  ·simp only[Bool.and_eq_true,decide_eq_true_eq]at this;exact this.1.2
  ·simp only[Bool.and_eq_true,decide_eq_true_eq]at this;omega
 have hrf:=Kw hw.GL.rt p
 have one:=hw.GL.rt.one
 cases hlf:fo p t with
 | none=>
  have hres:Ey t p a=([],6):=by simp[Ey,hlf]
  simp (maxSteps:=400000) only[↓ak,au,BEq.rfl,seval,hQ,KD,Mq,↓iD,↓kG,t40,hf,↓iN,hpr,atF,↓iI,har,hc,↓yL,hfv,↓oZ,hres,bq,Int.reduceEq]
  exact⟨r1,r2,r3,hp,ha,v1,v2,by omega,one,by omega,hrf⟩
 | some i=>
 have hres:Ey t p a=(gD t i a,0):=by simp[Ey,hlf]
 obtain⟨x,hx,_⟩:=n_ hlf
 have hgm:=zY hw.GL.rt.good hx
 have hil:=TM (a:=a) hx hgm
 have his:=aak (a:=a) hst hx hgm (by omega) ha
 have hc':=of_eq_false hc
 have hcs:∀n∈gD t i a,n.c.s.length≤500000:=λn hn=>by
  rcases X8 hn with rfl | ⟨m,hm,_,_,h3⟩
  ·show a.c.s.length≤_;omega
  ·rw[h3];exact hw.GL.cs m hm
 have ahy:=WR har hw.GL.rt hlf
 have hix:iA (gD t i a):=⟨ahy,by omega,hcs⟩
 have hit:yX (gD t i a):=⟨⟨ahy,by omega,hcs,λn hn=>by have:=(his.txt n hn).2.1;omega⟩,λn hn=>(his.txt n hn).1⟩
 cases hg:ql (gD t i a) with
 | false=>
  simp (maxSteps:=400000) only[↓ak,au,BEq.rfl,seval,hQ,KD,Mq,↓iD,↓kG,t40,hf,↓iN,hpr,atF,↓iI,har,hc,↓yL,hfv,↓oZ,hres,bq,↓m_,hg]
  exact⟨r1,r2,r3,hp,ha,v1,v2,by omega,one,by omega,hrf,his,by omega,hcs⟩
 | true=>
 obtain⟨Io,hvl⟩:=WC hfv
 have P9:jW v:=⟨Io,by omega,λn hn=>by
  simp only[Cu,Bool.and_eq_true,decide_eq_true_eq,List.all_eq_true]at hfv
  have:=hfv.1.2 n hn
  omega⟩
 have hin:=acW har p t i v hw.GL.rt hlf
 have hsub:=Yb har p t i hw.GL.rt hlf
 have lx:(gD t i a).length≤60:=by omega
 have lz:(gD t i a).length+2*t.length≤50000:=by omega
 cases hi:inT t v with
 | false=>
  rw[hi,Bool.false_and]at hin
  simp (maxSteps:=400000) only[↓ak,au,BEq.rfl,seval,hQ,KD,Mq,↓iD,↓kG,t40,hf,↓iN,hpr,atF,↓iI,har,hc,↓yL,hfv,↓oZ,hres,bq,↓m_,hg,↓pY,↓eO,hi,hin,↓KC,hsub]
  exact⟨r1,r2,r3,hp,ha,v1,v2,by omega,one,by omega,hrf,his,by omega,hcs,Io,by omega,by omega,hpp.2,λ_=>⟨λ_=>⟨by omega,hw,P9,lx,hit,P9,hix,ht,lz⟩,λ_=>⟨lx,hit,P9,hix,ht,lz⟩⟩,λ_=>⟨lx,hit,P9,hix,ht,lz⟩⟩
 | true=>
  obtain⟨g1,k,g2,g3⟩:=Yc p t i v hw.GL.rt hlf hi
  have hko:=zX p v P9 g1
  rw[g2]at hko
  have OE:jR p v=([k],0):=Prod.ext g2 g1
  have hh:qH p a v=iY a k:=by simp[qH,OE]
  rw[hi,Bool.true_and,hh]at hin
  have hk0:([k]:Vl)[0]?=some k:=rfl
  simp (maxSteps:=400000) only[↓ak,au,BEq.rfl,seval,hQ,KD,Mq,↓iD,↓kG,t40,hf,↓iN,hpr,atF,↓iI,har,hc,↓yL,hfv,↓oZ,hres,bq,↓m_,hg,↓pY,OE,↓eO,hi,hin,hk0,↓oU,↓KC,hsub]
  have hca:fE a.c:=⟨by simp only[fO,Bool.and_eq_true]at har;exact har.2,by omega⟩
  have hck:fE k:=⟨g3,(hko.nd k (List.mem_cons_self ..)).1⟩
  exact⟨r1,r2,r3,hp,ha,v1,v2,by omega,one,by omega,hrf,his,by omega,hcs,Io,by omega,by omega,hpp.2,by omega,hw,P9,hca,hck,lx,hit,P9,hix,ht,lz⟩
end Lp
namespace Lp
open Go Go.Proofs
theorem ae3:∃fs:Array Field,Tryz.prog.underlying 43=some (.struct fs)∧fs.toList.map (λf=>(f.offset,f.type))=[(0,23),(1,25),(2,29),(9,41)]:=
 ⟨Tryz.prog.fieldsOf 43,by kernel_rfl,by kernel_rfl⟩
instance :Inhabited InX:=⟨⟨[],[],⟨0,⟨0,0,[],[],false,0⟩⟩,[]⟩⟩
structure af8 (w:InX):Prop where
 t:XZ w.t
 p:Ko w.p
 a:qE w.a.c
 v:Big w.v
theorem af9:Rd Tryz.prog 43 EL af8:=by
 intro H eh w fuel cs x h hw
 obtain⟨fs,ht,hfs⟩:=ae3
 obtain⟨hl,hp⟩:=nO ht h hw
 rw[hfs]at hp
 have hc:Tryz.prog.cellsOf 43=10:=by kernel_rfl
 have c1:Tryz.prog.cellsOf 23=1:=by kernel_rfl
 have c2:Tryz.prog.cellsOf 25=1:=by kernel_rfl
 have c3:Tryz.prog.cellsOf 29=7:=by kernel_rfl
 have c4:Tryz.prog.cellsOf 41=1:=by kernel_rfl
 rw[hc]at hl
 match cs,hl with
 | [v0,v1,v2,v3,v4,v5,v6,v7,v8,v9],_=>
  obtain⟨n0,y0,a0,b0⟩:=hp 0 0 23 rfl
  obtain⟨n1,y1,a1,b1⟩:=hp 1 1 25 rfl
  obtain⟨n2,y2,a2,b2⟩:=hp 2 2 29 rfl
  obtain⟨n3,y3,a3,b3⟩:=hp 3 9 41 rfl
  rw[one_cell c1 (v:=v0) rfl]at a0
  rw[one_cell c2 (v:=v1) rfl]at a1
  rw[c3]at a2
  rw[one_cell c4 (v:=v9) rfl]at a3
  obtain⟨t,g0,r0⟩:=adV eh w n0 _ _ a0 b0
  obtain⟨p,g1,r1⟩:=ad6 eh w n1 _ _ a1 b1
  obtain⟨a,g2,r2⟩:=adU eh w n2 _ _ a2 b2
  obtain⟨v,g3,r3⟩:=rd_val eh w n3 _ _ a3 b3
  refine⟨⟨t,p,a,v⟩,⟨g0,g1,g2.c.sm,g3⟩,?_⟩
  exact bH (r0.2 0 _ _ rfl rfl) (bH (r1.2 0 _ _ rfl rfl) (bH (r2.2 0 _ v2 rfl rfl) (bH (r2.2 1 _ v3 rfl rfl) (bH (r2.2 2 _ v4 rfl rfl) (bH (r2.2 3 _ v5 rfl rfl) (bH (r2.2 4 _ v6 rfl rfl) (bH (r2.2 5 _ v7 rfl rfl) (bH (r2.2 6 _ v8 rfl rfl) (bH (r3.2 0 _ _ rfl rfl) En)))))))))
section
variable {H:Type}{eh:TypeId×Value→H}{w:World}{base:Nat}{v:Value}{d:DataW H}{p:List MemPlace}
theorem ais(hv:Value.okWide Tryz.prog w .any base 43 v)(h:DataW.Trod eh Tryz.prog w 0 (λ_=>true) true 43 v d p)(hw:∀n∈DataW.weights Tryz.prog 43 d,n≤reachBytes):∃a:InX,af8 a∧dM w (λ_=>True) (EL a) v:=
 Z9 (by obtain⟨fs,h,_⟩:=ae3;exact⟨fs,h⟩) af9 (λ_=>rfl) hv h hw
end
theorem acX(w:InX)(h:af8 w):ai Tryz.prog 4 [EL w] [] (.bool true) []:=KE w h.t h.p h.a h.v
end Lp
namespace Lp
open Go
theorem iO{a b:Bool}(ha:a=true)(hb:b=true):(a && b)=true:=by rw[ha,hb];rfl
theorem agh{P:Program}{f:FuncId}{fn:Func}{s:ChangeSpec}{c:OpenClaim}
  (h0:(c.wf (OpenSpec.ofChange s))=true)
  (h1:(laidOutB P)=true)
  (h2:(mapsRowed P)=true)
  (h3:(fn.params.all (P.readableRec ·))=true)
  (h4:(namedTie P c.named s.vars)=true)
  (h5:((c.stops==[]))=true)
  (h6:((P.stops==[]))=true)
  (h7:((c.knobs==[]))=true)
  (h8:((P.stopKnobs==[]))=true)
  (h9:((c.inPlace==P.inPlace f))=true)
  (h10:((c.unfollowed==P.unfollowed f))=true)
  (h11:((c.recurses==P.recurses f))=true)
  (h12:((c.named==P.varsNamed f))=true)
  (h13:((c.maps==(fn.params.toList++s.plain.varTypes P).any (P.mapsRec ·)))=true)
  (h14:((c.ifaces==(fn.params.toList++s.plain.varTypes P).any (P.ifacesRec ·)))=true)
  (h15:((c.mapsOut==P.mapsAmong fn.resultTypes.toList))=true)
  (h16:((c.loops==(fn.params.toList++s.plain.varTypes P).any (P.loopsFrom ·)))=true)
  (h17:((c.wideKeys==(fn.params.toList++s.plain.varTypes P++fn.resultTypes.toList).any (P.wideKeysFrom ·)))=true)
  (h18:(s.vars.all (P.varReadable ·))=true)
  (h19:(fn.resultTypes.all (λt=>P.readableRec t && decide (t<P.types.size)))=true)
  (h20:((c.ifacesOut==fn.resultTypes.toList.any (P.ifacesRec ·)))=true)
  (h21:((c.loopsOut==fn.resultTypes.toList.any (P.loopsFrom ·)))=true)
  (h22:((c.plainKeys==P.plainKeys))=true)
  (h23:(c.shortTexts.isNone)=true)
  (h24:(P.stopsHeard)=true)
  (h25:(P.mayEnter)=true)
  (h26:((c.lifted==P.liftsFinal))=true)
  (h27:((P.make==some c.make))=true)
  (h28:((c.kinds==(if c.domain.isEmpty then [] else fn.params.toList.map λt=>match P.underlying t with | some (.int k)=>some k | _=>none)))=true)
  (h29:((c.pinned==c.pinnedBy))=true)
  (h30:((c.veiled==(fn.params.toList++s.plain.varTypes P++fn.resultTypes.toList).any (P.veiledRec ·)))=true)
  (h31:(c.veiledFits P fn.params.toList (fn.params.toList++s.plain.varTypes P++fn.resultTypes.toList))=true):joinedFacts P f fn s c=true:=by
 unfold joinedFacts
 exact (iO (iO (iO (iO (iO (iO (iO (iO (iO (iO (iO (iO (iO (iO (iO (iO (iO (iO (iO (iO (iO (iO (iO (iO (iO (iO (iO (iO (iO (iO (iO h0 h1) h2) h3) h4) h5) h6) h7) h8) h9) h10) h11) h12) h13) h14) h15) h16) h17) h18) h19) h20) h21) h22) h23) h24) h25) h26) h27) h28) h29) h30) h31)
end Lp
