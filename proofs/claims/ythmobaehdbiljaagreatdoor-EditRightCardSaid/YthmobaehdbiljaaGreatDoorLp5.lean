/-
  Part 5 of what the statement rests on: LpRd, LpMf, LpX3, LpB1, LpIns0, LpInsS, LpInsV, LpX4, LpEd1, LpZ0, LpEd2, LpEd3, LpOwn, LpEd4, LpEd5, LpEp, LpZ1, LpEk1, LpEm0, LpEk3, LpC16, LpEm1, LpEm2, LpEm3, LpEm4, LpEd6, LpMapR, LpEd7, LpLayK, LpEd8, LpEd9, LpEdA. No condition.
-/
import Derived.Test.YthmobaehdbiljaaGreatDoorLp4
import Derived.Laws.CopyRow
import Derived.Shelf.Spec.SlicesInsertGrow
import Derived.Lib.Overlaps
import Derived.Lib.JoinLaws
import Derived.Lib.AppendZeros
import Derived.Laws.LoneSync
import Derived.WalkKit
import Derived.Sort.Row
import Derived.Shelf.Spec.SlicesInsert
import Derived.Laws.MakeOwn
import Derived.Shelf.SlMaps.Clone
import Derived.Shelf.SlGeneric
import Derived.Shelf.SlIter.Sorted
import Derived.Ground.GgzProg
import Derived.Test.YthmobaehdbiljaaGreatDoorProg

set_option linter.all false
set_option maxHeartbeats 8000000
set_option maxRecDepth 100000
namespace Lp
open Go Go.Proofs
instance :Inhabited Nd:=⟨⟨0,0,[],[],false,0⟩⟩
structure aaD (n:Nd):Prop where
 kind:FW .i64 n.kind
 many:FW .i64 n.many
 name:n.name.length≤reachBytes
 s:n.s.length≤reachBytes
 e:FW .i64 n.e
theorem one_cell{t:TypeId}(hc:Tryz.prog.cellsOf t=1){cs:List Value}{off:Nat}{v:Value}(h:cs[off]?=some v):(cs.drop off).take (Tryz.prog.cellsOf t)=[v]:=by
 rw[hc]
 have hl:=(List.getElem?_eq_some_iff.1 h).1
 rw[show (cs.drop off)=cs[off]::cs.drop (off+1) from List.drop_eq_getElem_cons hl]
 rw[List.getElem?_eq_getElem hl]at h
 cases h
 rw[List.take_succ_cons,List.take_zero]
theorem Ll:Tryz.prog.underlying 3=some (.int .i64):=by kernel_rfl
theorem DZ:Tryz.prog.underlying 9=some .string:=by kernel_rfl
theorem Ui:Tryz.prog.underlying 4=some .bool:=by kernel_rfl
theorem aaE:Tryz.prog.underlying 23=some (.slice 46):=by kernel_rfl
theorem Lm:Tryz.prog.cellsOf 3=1:=by kernel_rfl
theorem D5:Tryz.prog.cellsOf 9=1:=by kernel_rfl
theorem Uj:Tryz.prog.cellsOf 4=1:=by kernel_rfl
theorem YS:∃fs:Array Field,Tryz.prog.underlying 46=some (.struct fs)∧fs.toList.map (λf=>(f.offset,f.type))=[(0,3),(1,3),(2,9),(3,9),(4,4),(5,3)]:=
 ⟨Tryz.prog.fieldsOf 46,by kernel_rfl,by kernel_rfl⟩
theorem V5:Rd Tryz.prog 46 aM aaD:=by
 intro H eh w fuel cs x h hw
 obtain⟨fs,ht,hfs⟩:=YS
 obtain⟨hl,hp⟩:=qU ht h hw
 rw[hfs]at hp
 have hc:Tryz.prog.cellsOf 46=6:=by kernel_rfl
 rw[hc]at hl
 match cs,hl with
 | [v0,v1,v2,v3,v4,v5],_=>
  obtain⟨n0,y0,a0,b0⟩:=hp 0 0 3 rfl
  obtain⟨n1,y1,a1,b1⟩:=hp 1 1 3 rfl
  obtain⟨n2,y2,a2,b2⟩:=hp 2 2 9 rfl
  obtain⟨n3,y3,a3,b3⟩:=hp 3 3 9 rfl
  obtain⟨n4,y4,a4,b4⟩:=hp 4 4 4 rfl
  obtain⟨n5,y5,a5,b5⟩:=hp 5 5 3 rfl
  rw[one_cell Lm (v:=v0) rfl]at a0
  rw[one_cell Lm (v:=v1) rfl]at a1
  rw[one_cell D5 (v:=v2) rfl]at a2
  rw[one_cell D5 (v:=v3) rfl]at a3
  rw[one_cell Uj (v:=v4) rfl]at a4
  rw[one_cell Lm (v:=v5) rfl]at a5
  obtain⟨k,g0,r0⟩:=Rd.int Ll eh w n0 _ _ a0 b0
  obtain⟨m,g1,r1⟩:=Rd.int Ll eh w n1 _ _ a1 b1
  obtain⟨nm,g2,r2⟩:=Rd.str DZ eh w n2 _ _ a2 b2
  obtain⟨s,g3,r3⟩:=Rd.str DZ eh w n3 _ _ a3 b3
  obtain⟨g,_,r4⟩:=Rd.bool Ui eh w n4 _ _ a4 b4
  obtain⟨e,g5,r5⟩:=Rd.int Ll eh w n5 _ _ a5 b5
  refine⟨⟨k,m,nm,s,g,e⟩,⟨g0,g1,g2,g3,g5⟩,rfl,λi p v h1 h2=>?_⟩
  match i with
  | 0=>simp[aM,PV.cells]at h1 h2;subst h1;subst h2;exact r0.2 0 _ _ rfl rfl
  | 1=>simp[aM,PV.cells]at h1 h2;subst h1;subst h2;exact r1.2 0 _ _ rfl rfl
  | 2=>simp[aM,PV.cells]at h1 h2;subst h1;subst h2;exact r2.2 0 _ _ rfl rfl
  | 3=>simp[aM,PV.cells]at h1 h2;subst h1;subst h2;exact r3.2 0 _ _ rfl rfl
  | 4=>simp[aM,PV.cells]at h1 h2;subst h1;subst h2;exact r4.2 0 _ _ rfl rfl
  | 5=>simp[aM,PV.cells]at h1 h2;subst h1;subst h2;exact r5.2 0 _ _ rfl rfl
  | i+6=>simp[aM,PV.cells]at h1
structure Big (v:Vl):Prop where
 len:v.length≤1152921504606846976
 txt:∀n∈v,n.s.length≤4611686018427387904∧n.name.length≤4611686018427387904
 nd:∀n∈v,aaD n
theorem rd_val:Rd Tryz.prog 23 ak Big:=by
 intro H eh w fuel cs x h hw
 obtain⟨v,⟨h1,h2⟩,h3⟩:=Rd.slice (sz:=6) aaE V5 (by kernel_rfl) (by decide) (λ_=>rfl) eh w fuel cs x h hw
 have hb:Tryz.prog.bytesOf 46=64:=by kernel_rfl
 rw[hb,reachBytes]at h1
 refine⟨v,⟨by omega,λn hn=>?_,h2⟩,h3⟩
 have g:=h2 n hn
 have g1:=g.name
 have g2:=g.s
 rw[reachBytes]at g1 g2
 exact⟨by omega,by omega⟩
structure aaF (l:List Vl):Prop where
 len:l.length≤1152921504606846976
 all:∀v∈l,Big v
theorem abL{t e:TypeId}{α:Type}{enc:α→PV}{good:α→Prop}(hu:Tryz.prog.underlying t=some (.slice e))(hr:Rd Tryz.prog t enc good)(h1:∀a,(enc a).cells=[enc a]){H:Type}{eh:TypeId×Value→H}{w:World}{base:Nat}{v:Value}{d:DataW H}{p:List MemPlace}
  (hv:Value.okWide Tryz.prog w .any base t v) (h:DataW.Trod eh Tryz.prog w 0 (λ_=>true) true t v d p) (hw:∀n∈DataW.weights Tryz.prog t d,n≤reachBytes):∃a:α,good a∧bQ w (λ_=>True) (enc a) v:=by
 obtain⟨ad,len,cap,rfl⟩:=Go.WideShapes.okWide_slice hu hv
 obtain⟨fuel,h⟩:=h
 obtain⟨a,g,r⟩:=hr eh w fuel _ _ h hw
 rw[h1 a]at r
 exact⟨a,g,r.2 0 _ _ rfl rfl⟩
theorem nI{R:PV→Value→Prop}{p:PV}{ps:List PV}{v:Value}{vs:List Value}(h:R p v)(hs:a_ R ps vs):a_ R (p::ps) (v::vs):=
 ⟨by simp[hs.1],λi q u h1 h2=>by
  cases i with
  | zero=>simp at h1 h2;subst h1;subst h2;exact h
  | succ i=>exact hs.2 i q u (by simpa using h1) (by simpa using h2)⟩
theorem Lr{R:PV→Value→Prop}:a_ R [] []:=⟨rfl,λi q u h1=>by simp at h1⟩
end Lp
namespace Lp
open Go Go.Proofs
theorem d9{v:Vl}(hr:Rt v):(aD v).length≤v.length∧(aS v).length≤v.length∧(aD v).flatten.length≤v.length∧∀p∈aD v,p.length≤v.length:=by
 obtain⟨n,r,rfl,_⟩:=b_ hr.name hr.one.ne
 obtain⟨h1,h2,ps,h3,h4,h5,h6,h7⟩:=hr.parts
 obtain⟨q1,q2⟩:=dI h3
 have h8:=dS _ _ _ h3
 have h9:=jB _ _ _ h3
 have hfl:(ps.map gX).flatten.length=r.length:=by
  rw[←h4,List.length_flatten,List.length_flatten,List.map_map]
  congr 1
  exact List.map_congr_left λp _=>jK p
 refine⟨?_,?_,?_,λp hp=>Nat.le_of_lt (eH hr hp).2⟩
 ·simp only[aD,q1,List.length_map,List.length_cons];omega
 ·simp only[aS,q2]
  split
  ·simp only[List.length_map,List.length_cons];omega
  ·simp
 ·simp only[aD,q1,hfl,List.length_cons];omega
theorem Od{v:Vl}{k:Nat}(h:vR v k=true):Rt v∧v.length≤k:=by
 simp only[vR,Bool.and_eq_true,decide_eq_true_eq]at h
 exact⟨ni h.2,h.1.1⟩
theorem aaF.txt {l:List Vl}(h:aaF l):∀v∈l,v.length≤1152921504606846976∧∀n∈v,n.s.length≤4611686018427387904∧n.name.length≤4611686018427387904:=λv hv=>⟨(h.all v hv).len,(h.all v hv).txt⟩
theorem Ap(l:List Vl):(oN l).length=l.flatten.length+1:=rfl
theorem q9{v:Vl}(hr:Rt v){q:Nd→Prop}(hq:∀n,q n→q { n with name:=[] })(hv:∀n∈v,q n):∀p∈aD v,∀n∈p,q n:=by
 obtain⟨n,r,rfl,_⟩:=b_ hr.name hr.one.ne
 obtain⟨h1,h2,ps,h3,h4,_,_,_⟩:=hr.parts
 simp only[aD,(dI h3).1]
 intro p hp m hm
 obtain⟨p',hp',rfl⟩:=List.mem_map.1 hp
 have hin:∀x∈p',q x:=λx hx=>hv x (List.mem_cons_of_mem _ (by rw[←h4];exact List.mem_flatten.2 ⟨p',hp',hx⟩))
 cases p' with
 | nil=>cases hm
 | cons a t=>
  rcases List.mem_cons.1 hm with rfl | hm
  ·exact hq a (hin a (by simp))
  ·exact hin m (List.mem_cons_of_mem _ hm)
theorem xD{v:Vl}(hr:Rt v){k:Nat}(hv:∀n∈v,n.name.length≤k):∀s∈aS v,s.length≤k:=by
 obtain⟨n,r,rfl,_⟩:=b_ hr.name hr.one.ne
 obtain⟨h1,h2,ps,h3,h4,_,h6,_⟩:=hr.parts
 simp only[aS,(dI h3).2]
 split
 ·intro s hs
  obtain⟨p,hp,rfl⟩:=List.mem_map.1 hs
  cases p with
  | nil=>simp[nameOf]
  | cons a t=>exact hv a (List.mem_cons_of_mem _ (by rw[←h4];exact List.mem_flatten.2 ⟨_,hp,by simp⟩))
 ·intro s hs;cases hs
end Lp
namespace Lp
open Go Go.Proofs
def dY(v:Vl)(nm:List UInt8):Vl:=JL (jL (jq v) nm)
def ql(v:Vl)(nm:List UInt8)(x:Vl):Vl:=JL (oH nm x (jL (jq v) nm))
theorem gV{v:Vl}(hr:Rt v)(hk:bD v=6):mV (jq v)∧JL (jq v)=v∧aS v=(jq v).map (·.1)∧aD v=(jq v).map (·.2):=by
 obtain⟨n,r,rfl,_⟩:=b_ hr.name hr.one.ne
 exact XV hr hk
theorem rq(l:mK):(JL l).length=(l.map (·.2)).flatten.length+1:=by
 have h2:∀q:mK,(q.map λx=>j_ x.1 x.2).flatten.length=(q.map (·.2)).flatten.length:=by
  intro q
  induction q with
  | nil=>rfl
  | cons x q ih=>simp only[List.map_cons,List.flatten_cons,List.length_append,AO,ih]
 simp only[JL,List.length_cons,h2]
theorem D6(l:mK)(nm:List UInt8):(jL l nm).length≤l.length∧((jL l nm).map (·.2)).flatten.length≤(l.map (·.2)).flatten.length:=by
 unfold jL
 refine⟨List.length_filter_le _ _,?_⟩
 induction l with
 | nil=>simp
 | cons x l ih=>
  rw[List.filter_cons]
  split
  ·simp only[List.map_cons,List.flatten_cons,List.length_append];omega
  ·simp only[List.map_cons,List.flatten_cons,List.length_append];omega
theorem Rv{q:mK}{i:Nat}{x:List UInt8×Vl}(h:q[i]?=some x)(nm:List UInt8):jL (q.take (i+1)) nm=jL (q.take i) nm++(if x.1=nm then [] else [x]):=by
 rw[List.take_add_one,h]
 unfold jL
 rw[List.filter_append]
 by_cases e:x.1=nm<;>simp[e]
theorem xE{v:Vl}(nm:List UInt8)(hr:Rt v)(hk:bD v=6):Rt (dY v nm)∧bD (dY v nm)=6∧(dY v nm).length≤v.length∧jq (dY v nm)=jL (jq v) nm:=by
 obtain⟨hq,hmk,hN,hP⟩:=gV hr hk
 have hd:=O6 hq nm
 refine⟨Sw hd,rfl,?_,O4 hd.rt⟩
 have h1:=rq (jq v)
 rw[hmk]at h1
 have h2:=(D6 (jq v) nm).2
 rw[dY,rq]
 omega
end Lp
namespace Lp
open Go Go.Proofs
def si(names:List (List UInt8))(nm:List UInt8):Nat:=(names.takeWhile λs=>Op.bytesLess s nm).length
theorem PN(names:List (List UInt8))(nm:List UInt8):si names nm≤names.length:=by
 induction names with
 | nil=>exact Nat.le_refl _
 | cons s t ih=>
  unfold si at *
  rw[List.takeWhile_cons]
  split
  ·simp only[List.length_cons];omega
  ·simp
theorem V6{names:List (List UInt8)}{nm:List UInt8}(hr:nL names):∀{j:Nat}{s:List UInt8},names[j]?=some s→(Op.bytesLess s nm=true↔j<si names nm):=by
 induction names with
 | nil=>intro j s h;simp at h
 | cons x t ih=>
  obtain⟨h1,h2⟩:=List.pairwise_cons.1 hr
  intro j s h
  unfold si
  rw[List.takeWhile_cons]
  cases hx:Op.bytesLess x nm with
  | true=>
   cases j with
   | zero=>simp at h;subst h;simp[hx]
   | succ j=>
    have:=ih h2 (j:=j) (s:=s) (by simpa using h)
    unfold si at this
    simp only[if_true,List.length_cons]
    rw[this];omega
  | false=>
   simp only[Bool.false_eq_true,if_false,List.length_nil,Nat.not_lt_zero,iff_false]
   intro hs
   cases j with
   | zero=>simp at h;subst h;rw[hx]at hs;cases hs
   | succ j=>
    have h3:=h1 s (List.mem_of_getElem? (by simpa using h))
    rw[lZ _ _ _ h3 hs]at hx;cases hx
theorem D7(nm:List UInt8)(x:Vl):∀l:mK,oH nm x l=l.take (si (l.map (·.1)) nm)++(nm,x)::l.drop (si (l.map (·.1)) nm)
 | []=>rfl
 | y::ys=>by
  have ih:=D7 nm x ys
  unfold si at *
  rw[oH,List.map_cons,List.takeWhile_cons]
  split
  ·rename_i h;simp only[h,if_true,List.length_cons,List.take_succ_cons,List.drop_succ_cons,List.cons_append];rw[←ih]
  ·rename_i h;simp[h]
theorem I7(x:List UInt8):av Tryz.prog 125 [.str x] [] (.bool false) []:=by
 refine vW.cZ (T:=bH Tryz.prog []) 0 hD (ax au) bM (by decide) λQ hQ=>?_
 (conv=>arg 4;cbv);simp (maxSteps:=400000) only[↓aI,aJ,BEq.rfl,seval,hQ]
def Cb:fu:=λargs objs K=>match args with
 | [.str _x]=>K (.bool false) objs 0
 | _=>False
theorem Oe:aQ Tryz.prog 125 (Cb):=by
 intro args objs K h
 unfold Cb at h
 split at h
 ·rename_i _x
  have hk:=h
  exact⟨_,_,_,.pure _ rfl (I7 _x),hk⟩
 ·exact h.elim
theorem Fq(x:List UInt8):av Tryz.prog 104 [.str x] [] (.bool false) []:=by
 refine qR.cZ (T:=bH Tryz.prog []) 0 hD (ax au) bM (by decide) λQ hQ=>?_
 (conv=>arg 4;cbv);simp (maxSteps:=400000) only[↓aI,aJ,BEq.rfl,seval,hQ]
def y8:fu:=λargs objs K=>match args with
 | [.str _x]=>K (.bool false) objs 0
 | _=>False
theorem Og:aQ Tryz.prog 104 (y8):=by
 intro args objs K h
 unfold y8 at h
 split at h
 ·rename_i _x
  have hk:=h
  exact⟨_,_,_,.pure _ rfl (Fq _x),hk⟩
 ·exact h.elim
theorem cvU(objs:List Obj)(K:KT):(∀x,oQ D 3 122 (.int .i64 x) objs K=K (.int .u64 (IntKind.u64.wrap x)) objs 0)∧(∀x,oQ D 122 3 (.int .u64 x) objs K=K (.int .i64 (IntKind.i64.wrap x)) objs 0):=by
 refine⟨λx=>?_,λx=>?_⟩
 all_goals simp[oQ,nR,dL]
theorem shU(a:Int)(K:PV→Prop):pz .shr .u64 .u64 a 1 K=K (.int .u64 (a.fdiv 2)):=by
 have:min 1 IntKind.u64.bits=1:=rfl
 simp[pz,this]
theorem Fs(x y:List UInt8):av Tryz.prog 103 [.str x,.str y] [] (.bool (Op.bytesLess x y)) []:=by
 refine w_.cZ (T:=bH Tryz.prog [(125,Cb)]) 0 hD (ax (af Oe au)) bM (by decide) λQ hQ=>?_
 (conv=>arg 4;cbv);simp (maxSteps:=400000) only[↓aI,aJ,BEq.rfl,seval,hQ,↓Cb]
def uo:fu:=λargs objs K=>match args with
 | [.str x,.str y]=>K (.bool (Op.bytesLess x y)) objs 0
 | _=>False
theorem Ls:aQ Tryz.prog 103 (uo):=by
 intro args objs K h
 unfold uo at h
 split at h
 ·rename_i x y
  have hk:=h
  exact⟨_,_,_,.pure _ rfl (Fs x y),hk⟩
 ·exact h.elim
theorem I8(names:List (List UInt8))(nm:List UInt8)(hr:nL names)(hl:names.length≤1000000):av Tryz.prog 77 [oJ names,.str nm] [] (.bP [.int .i64 (si names nm),.bool (decide (names[si names nm]?=some nm))]) []:=by
 refine iR.jT (T:=bH Tryz.prog [(103,uo),(104,y8)]) 0 hD (ax (af Ls (af Og au))) bM (by decide) (by decide) λQ hQ=>?_
 have hle:=PN names nm
 (conv=>arg 4;cbv);simp (maxSteps:=400000) only[↓aI,aJ,BEq.rfl,seval,hQ]
 refine bA (λm S=>∃i j:Nat,i+m=j∧i≤si names nm∧si names nm≤j∧j≤names.length∧S=⟨dR 54 [(0,oJ names),(1,.str nm),(6,.int .i64 names.length),(7,.int .i64 i),(8,.int .i64 j)],[]⟩) names.length ⟨0,names.length,by omega,Nat.zero_le _,hle,Nat.le_refl _,?_⟩ ?_
 ·simp only[dX,keepR,Nat.reduceAdd,tK,Nat.reduceBEq,List.map_nil]
  rfl
 rintro m S ⟨i,j,him,h1,h2,h3,rfl⟩
 rcases Nat.lt_or_ge i j with h | h
 ·have hlt:((i:Int)<(j:Int))=True:=eq_true (by omega)
  obtain⟨h,hh⟩:∃h,h=(i+j) / 2:=⟨_,rfl⟩
  have hhl:h<names.length:=by omega
  have w1:IntKind.u64.wrap ((i:Int)+j)=(i:Int)+j:=by rw[IntKind.wrap_u64];omega
  have w2:((i:Int)+j).fdiv 2=(h:Int):=by
   rw[Int.fdiv_eq_ediv_of_nonneg _ (by omega),hh];omega
  have w3:IntKind.i64.wrap (h:Int)=(h:Int):=by rw[IntKind.wrap_i64];omega
  have zh:(0≤(h:Int))=True:=eq_true (by omega)
  have hgh:=List.getElem?_eq_getElem hhl
  have hiff:=V6 (nm:=nm) hr hgh
  generalize names[h]=s at hgh hiff
  cases hb:Op.bytesLess s nm
  ·simp (maxSteps:=400000) only[↓aI,aJ,BEq.rfl,seval,hQ,hlt,↓uo,↓cvU,↓shU,w1,w2,w3,zh,hgh,hb]
   have hnb:¬ h<si names nm:=λe=>by rw[hiff.2 e]at hb;cases hb
   exact⟨⟨by omega,by omega⟩,h-i,by omega,i,h,by omega,h1,by omega,by omega,rfl⟩
  ·simp (maxSteps:=400000) only[↓aI,aJ,BEq.rfl,seval,hQ,hlt,↓uo,↓cvU,↓shU,w1,w2,w3,zh,hgh,hb]
   have hnb:h<si names nm:=hiff.1 hb
   exact⟨⟨by omega,by omega⟩,⟨by omega,by omega⟩,j-(h+1),by omega,h+1,j,by omega,by omega,h2,h3,rfl⟩
 ·have hlt:((i:Int)<(j:Int))=False:=eq_false (by omega)
  have hij:si names nm=i:=by omega
  rcases Nat.lt_or_ge i names.length with h | h
  ·have hlt2:((i:Int)<(names.length:Int))=True:=eq_true (by omega)
   have zi:(0≤(i:Int))=True:=eq_true (by omega)
   have hgi:=List.getElem?_eq_getElem h
   generalize names[i]=s at hgi
   rcases tf (s=nm) with he | he
   ·simp (maxSteps:=400000) only[↓aI,aJ,BEq.rfl,seval,hQ,hlt,hlt2,zi,hgi,he,↓y8]
    rw[hij,hgi];simp[he]
   ·simp (maxSteps:=400000) only[↓aI,aJ,BEq.rfl,seval,hQ,hlt,hlt2,zi,hgi,he,↓y8]
    rw[hij,hgi]
    have:decide (some s=some nm)=false:=decide_eq_false λe=>(of_eq_false he) (Option.some.inj e)
    rw[this]
  ·have hlt2:((i:Int)<(names.length:Int))=False:=eq_false (by omega)
   simp (maxSteps:=400000) only[↓aI,aJ,BEq.rfl,seval,hQ,hlt,hlt2]
   rw[hij,List.getElem?_eq_none h];rfl
def rz:fu:=λargs objs K=>match args with
 | [a,.str nm]=>yX .str 1 a objs (HK.mk:HK λnames=>nL names∧names.length≤1000000∧K (.bP [.int .i64 (si names nm),.bool (decide (names[si names nm]?=some nm))]) objs 1)
 | _=>False
theorem Fu:aQ Tryz.prog 77 rz:=by
 intro args objs K h
 unfold rz at h
 split at h
 ·rename_i a nm
  obtain⟨names,a',l1,t1,h1,h2,h3⟩:=qY strCells h
  exact⟨_,_,_,.Vm _ [a',.str nm] ⟨l1,⟨rfl,rfl⟩,trivial⟩ rfl ((I8 names nm h1 h2).arg rfl (GN t1 (.refl _))),h3⟩
 ·exact h.elim
end Lp
namespace Lp
open Go Go.Proofs Go.Lib Go.RowKit
open Nat (mul_le_mul_right one_mul succ_mul)
section
variable {P:Program}
def spl(cur:Array Value)(o:Nat)(vs:List Value):Array Value:=(cur.toList.take o++vs++cur.toList.drop (o+vs.length)).toArray
def mid(cur:Array Value)(i n z:Nat):List Value:=(cur.toList.take (n*z)).drop (i*z)
theorem vH{cur:Array Value}{o:Nat}{vs:List Value}(hl:o+vs.length≤cur.size)(q:Nat) :
  (spl cur o vs)[q]?=if q<o then cur[q]? else if q<o+vs.length then vs[q-o]? else cur[q]?:=by
 have hlen:(cur.toList.take o).length=o:=by simp;omega
 simp only[spl,List.getElem?_toArray,List.append_assoc]
 rw[List.getElem?_append,hlen]
 split
 ·rename_i h;rw[List.getElem?_take,if_pos h];simp
 ·rename_i h
  rw[List.getElem?_append]
  split
  ·rename_i h2;rw[if_pos (by omega)]
  ·rename_i h2
   rw[if_neg (by omega),List.getElem?_drop,show o+vs.length+(q-o-vs.length)=q by omega];simp
theorem iU{cur:Array Value}{o:Nat}{vs:List Value}(hl:o+vs.length≤cur.size):(spl cur o vs).size=cur.size:=by
 simp[spl];omega
theorem eG(w:World)(dT sT ty elem:TypeId)(inf:TypeInfo)(g o dLen dCap:Nat)(a:Addr)(sLen sCap n:Nat)(cur:Array Value)(t:TypeId)(cs:List Value)
  (hu:P.underlying dT=some (.slice elem)) (hi:P.info? elem=some inf) (hg:w.heap[g]?=some (.cells cur t (0,0))) (hn:n=Nat.min sLen dLen) (hl:cs.length=n*inf.size)
  (hsrc:∀j v,cs[j]?=some v→w.cell? (a.add j)=some v) (hfit:o+cs.length≤cur.size) (h1:∀v∈cs,v.oneCell'=true) :
  (Builtin.copy_ #[dT,sT] ty #[.slice (some ⟨g,o,none⟩) dLen dCap,.slice (some a) sLen sCap]).run P w=
   .ok (goInt n) (w.setRow g (spl cur o cs)):=by
 have h2:=run_loadCells_list (P:=P) w a cs hsrc
 have hst:=run_storeCells_at P g o t cs 0 cur w hg (by simpa using hfit) h1
 rw[hl]at h2
 rw[hn]at h2
 simp only[Nat.min_def]at h2
 simp[Builtin.copy_,run_underlying hu,Builtin.lenOf,Builtin.firstCells,Go.sizeOf,typeInfo,hi,hn,Nat.min_def,h2,hst,spl]
theorem o_{w:World}{g:Nat}{cur:Array Value}{t:TypeId}(hg:w.heap[g]?=some (.cells cur t (0,0)))(o:Nat):w.frozen? ⟨g,o,none⟩=false:=by
 simp[World.frozen?,hg]
theorem Uk{α:Type}(xs:List α)(x:α)(i m:Nat)(hi:i≤xs.length):(xs.take i++[x]++xs.drop i)[m]?=if m<i then xs[m]? else if m=i then some x else xs[m-1]?:=by
 have ht:(xs.take i).length=i:=by simp;omega
 rw[List.append_assoc,List.getElem?_append,ht]
 split
 ·rename_i h;rw[List.getElem?_take,if_pos h]
 ·rename_i h
  rw[List.getElem?_append]
  split
  ·rename_i h2
   have:m=i:=by simp at h2;omega
   rw[if_pos this,this];simp
  ·rename_i h2
   simp at h2
   rw[if_neg (by omega),List.getElem?_drop]
   congr 1;simp;omega
theorem aO.aaG {R:PV→Value→Prop}{z:Nat}{xs:List PV}{c c':Array Value}{x:PV}{s:List Value}{i:Nat}(h:aO R z c xs)(hs:aO R z ⟨s⟩ [x])(hi:i≤xs.length)
  (h1:∀q,q<i*z→c'[q]?=c[q]?) (h2:∀q,q<z→c'[i*z+q]?=s[q]?) (h3:∀q,i*z≤q→q<xs.length*z→c'[q+z]?=c[q]?) :
  aO R z c' (xs.take i++[x]++xs.drop i):=by
 intro m y hy
 rw[Uk xs x i m hi]at hy
 have hlt:∀{u:PV}{j:Nat}{p:PV},u.cells.length=z→u.cells[j]?=some p→j<z:=λh1 h2=>by rw[←h1];exact (List.getElem?_eq_some_iff.1 h2).1
 split at hy
 ·rename_i hm
  obtain⟨z1,z2⟩:=h m y hy
  refine⟨z1,λj p hp=>?_⟩
  have hj:=hlt z1 hp
  have hmz:(m+1)*z≤i*z:=mul_le_mul_right _ hm
  rw[succ_mul]at hmz
  obtain⟨v,u1,u2⟩:=z2 j p hp
  exact⟨v,by rw[h1 _ (by omega)];exact u1,u2⟩
 ·split at hy
  ·rename_i hm
   cases hy
   obtain⟨z1,z2⟩:=hs 0 x rfl
   refine⟨z1,λj p hp=>?_⟩
   have hj:=hlt z1 hp
   obtain⟨v,u1,u2⟩:=z2 j p hp
   rw[Nat.zero_mul,Nat.zero_add]at u1
   exact⟨v,by rw[hm,h2 _ hj];simpa using u1,u2⟩
  ·rename_i hm1 hm2
   obtain⟨z1,z2⟩:=h (m-1) y hy
   have hml:m-1<xs.length:=(List.getElem?_eq_some_iff.1 hy).1
   refine⟨z1,λj p hp=>?_⟩
   have hj:=hlt z1 hp
   obtain⟨v,u1,u2⟩:=z2 j p hp
   have e0:m=(m-1)+1:=by omega
   have e:m*z+j=((m-1)*z+j)+z:=by rw[e0,succ_mul,Nat.add_sub_cancel];omega
   have g1:i*z≤(m-1)*z:=mul_le_mul_right _ (by omega)
   have g2:(m-1+1)*z≤xs.length*z:=mul_le_mul_right _ hml
   rw[succ_mul]at g2
   exact⟨v,by rw[e,h3 _ (by omega) (by omega)];exact u1,u2⟩
structure V7 (P:Program) (f:FuncId) (sT uT ty:TypeId) (z by':Nat):Prop where
 ent:Enters P f
 shift:∀(g n c i vb voff vc:Nat) (cur y9:Array Value) (tv:TypeId) (ss:List Value) (w:World),i<n→n+1≤c→c≤9223372036854775807→
  w.heap[g]?=some (.cells cur ty (0,0))→cur.size=c*z→w.heap[vb]?=some (.cells y9 tv (0,0))→vb≠g→ss.length=z→
  (∀j v,ss[j]?=some v→w.cell? ⟨vb,voff+j,none⟩=some v)→(∀v∈ss,v.oneCell'=true)→(∀v∈mid cur i n z,v.oneCell'=true)→
  Calls P f #[.slice (some ⟨g,0,none⟩) n c,.int .i64 i,.slice (some ⟨vb,voff,none⟩) 1 vc] w λe w'=>
   e=.returned (.slice (some ⟨g,0,none⟩) (n+1) c)∧w'=(w.drew.setRow g (spl cur ((i+1)*z) (mid cur i n z))).setRow g (spl (spl cur ((i+1)*z) (mid cur i n z)) (i*z) ss)
 fin:∀(base:Option Addr) (n c vb voff vc:Nat) (w w':World) (v':Value),(base=none→n=0∧c=0)→n≤c→c≤9223372036854775807→
  (∀ty',(Builtin.append_ #[sT,uT] ty' #[.slice base n c,.slice (some ⟨vb,voff,none⟩) 1 vc]).run P w=.ok v' w')→
  Calls P f #[.slice base n c,.int .i64 n,.slice (some ⟨vb,voff,none⟩) 1 vc] w λe w1=>e=.returned v'∧w1=w'
 grow:∀(g n c i vb voff vc:Nat) (cur:Array Value) (ss:List Value) (w:World),i<n→n≤c→c<n+1→(n+1)*by'≤140737488355328→
  w.heap[g]?=some (.cells cur ty (0,0))→cur.size=c*z→vb<w.heap.size→ss.length=z→
  (∀j v,ss[j]?=some v→w.cell? ⟨vb,voff+j,none⟩=some v)→(∀v∈ss,v.oneCell'=true)→(∀v∈mid cur i n z,v.oneCell'=true)→
  ∃row:Array Value,row.size=grownCap w (n+1) c ty*z∧(∀q,q<i*z→row[q]?=cur[q]?)∧
   Calls P f #[.slice (some ⟨g,0,none⟩) n c,.int .i64 i,.slice (some ⟨vb,voff,none⟩) 1 vc] w λe w'=>
    e=.returned (.slice (some ⟨w.heap.size,0,none⟩) (n+1) (grownCap w (n+1) c ty))∧
    w'=((((w.drew.alloc (.cells row ty)).setRow w.heap.size (spl row (i*z) ss)).drew).setRow w.heap.size (spl (spl row (i*z) ss) ((i+1)*z) (mid cur i n z)))
variable {base ah:Nat→Prop}{w0:Wz}{blk:Nat→Option Nat}{a:Act}{w:World}
structure GU (ty:TypeId) (z:Nat) (R:PV→Value→Prop) (old:Option Nat) (w:World) (ys:List PV) (v':Value) (w':World) (gb:Nat):Prop where
 size:w.heap.size≤w'.heap.size
 sm:Sm w w'
 kept:∀b y,old≠some b→w.heap[b]?=some y→w'.heap[b]?=some y
 at':old=some gb∨w.heap.size≤gb
 cells:∃cap c,v'=.slice (some ⟨gb,0,none⟩) ys.length cap∧w'.heap[gb]?=some (.cells c ty (0,0))∧ys.length≤cap∧cap≤maxLen∧c.size=cap*z∧aO R z c ys
theorem GU.rel {tmps:List PV}{objs:List Obj}{k ver:Nat}{ob:Obj}{ys:List PV}{v':Value}{w':World}{gb:Nat}(R:Rel base ah w0 ⟨tmps,objs⟩ blk a w)(h1:objs[k]?=some ob)(h2:ob.live=true)(h3:ob.ver=ver)
  (hM:ob.ty≠MT) (L:GU ob.ty ob.sz (aP w (aV base objs blk) objs blk) (blk k) w ys v' w' gb) :
  Rel base ah w0 ⟨tmps,objs.set k { ob with xs:=ys,ver:=ver+1 }⟩ (aC blk k (some gb)) a w'∧
  aL w' (aV base (objs.set k { ob with xs:=ys,ver:=ver+1 }) (aC blk k (some gb))) (objs.set k { ob with xs:=ys,ver:=ver+1 }) (aC blk k (some gb)) (.aW k (ver+1)) v':=by
 obtain⟨cap,c,hv,z1,z2,z3,z4,z5⟩:=L.cells
 have hb:aC blk k (some gb) k=some gb:=by unfold aC;rw[if_pos rfl]
 constructor
 ·refine R.setObj L.sm (o':={ ob with xs:=ys,ver:=ver+1 }) h1 h2 h2 L.size L.kept (λg hg=>by cases hg;exact L.at') (by simp;omega) (λhv=>by simp at hv;omega) (λhr=>?_)
  refine F3 (gb:=some gb) (R:=aP w (aV base objs blk) objs blk) hb ?_ hM hr
  exact⟨cap,c,z1,z2,z4,z5⟩
 ·refine⟨by rw[hv];rfl,{ ob with xs:=ys,ver:=ver+1 },?_,Nat.le_refl _,λ_ _=>⟨hM,?_⟩⟩
  ·rw[List.getElem?_set];simp[(List.getElem?_eq_some_iff.1 h1).1]
  ·unfold sH
   rw[hb]
   exact⟨cap,c,hv,z1,z2,z3,z4⟩
theorem Ul{R:PV→Value→Prop}{p q r:PV}{vs:List Value}(h:a_ R [p,q,r] vs):∃u v x,vs=[u,v,x]∧R p u∧R q v∧R r x:=by
 obtain⟨hl,h⟩:=h
 match vs,hl with
 | [u,v,x],_=>exact⟨u,v,x,rfl,h 0 _ _ rfl rfl,h 1 _ _ rfl rfl,h 2 _ _ rfl rfl⟩
theorem y_{α:Type}(x:Option α):x=none∨∃g,x=some g:=by cases x with
 | none=>exact .inl rfl
 | some g=>exact .inr ⟨g,rfl⟩
def Oh(z:Nat)(x:PV):Prop:=x.cells.length=z∧x.cells.all PV.storable=true
theorem Rw{f:FuncId}{sT uT:TypeId}{ti:ay}{by':Nat}{objs:List Obj}{k ver:Nat}{ob:Obj}{x:PV}{k2 D8:Nat}{PO:Obj}{i:Nat}{tmps:List PV}(W:V7 P f sT uT ob.ty ob.sz by')(hu:P.underlying sT=some (.slice ob.ty))(hu2:P.underlying uT=some (.slice ob.ty))(hD:eP P ob.ty ti)(hk:ti.kind≠.none)
  (hzl:(aG ti).cells.length=ti.size) (hzs:(aG ti).cells.all PV.storable=true) (hsz:ti.size=ob.sz) (hby:ti.bytes=by')
  (R:Rel base ah w0 ⟨tmps,objs⟩ blk a w) (h1:objs[k]?=some ob) (h2:ob.live=true) (h3:ob.ver=ver)
  (g1:objs[k2]?=some PO) (g2:PO.live=true) (g3:PO.ver=D8) (g4:PO.sz=ob.sz) (g5:PO.xs=[x]) (hkk:k2≠k)
  (hall:∀y∈ob.xs,Oh ob.sz y) (hx:Oh ob.sz x) (hi:i≤ob.xs.length) (hb:(ob.xs.length+1)*by'≤140737488355328) (hbm:ob.xs.length+1≤1000000000){v0 v2:Value}
  (r0:aL w (aV base objs blk) objs blk (.aW k ver) v0) (r2:aL w (aV base objs blk) objs blk (.aW k2 D8) v2) :
  Calls P f #[v0,.int .i64 i,v2] w λe w'=>∃v' gb,e=.returned v'∧GU ob.ty ob.sz (aP w (aV base objs blk) objs blk) (blk k) w (ob.xs.take i++[x]++ob.xs.drop i) v' w' gb:=by
 have hty:=r0.qC h1 h2 h3
 have abM:=r2.qC g1 g2 g3
 have hh:=r0.aW h1 h2 h3
 have hone:∀y,Oh ob.sz y→∀p∈y.cells,∀v,aP w (aV base objs blk) objs blk p v→v.oneCell'=true:=λy hy p hp v hv=>(je hv (List.all_eq_true.1 hy.2 p hp)).1
 obtain⟨vb,vc,y9,rfl,hgv,hbk2,hvs,hvc,hcs⟩:∃vb vc y9,v2=.slice (some ⟨vb,0,none⟩) 1 vc∧w.heap[vb]?=some (.cells y9 PO.ty (0,0))∧blk k2=some vb∧y9.size=vc*ob.sz∧1≤vc∧aO (aP w (aV base objs blk) objs blk) ob.sz y9 [x]:=by
  have hr:=r2.aW g1 g2 g3
  unfold sH at hr
  rcases y_ (blk k2) with hbk | ⟨g,hbk⟩
  ·rw[hbk]at hr;rw[g5]at hr;exact absurd hr.2 (by simp)
  ·rw[hbk]at hr
   obtain⟨cap,c,rfl,x1,x2,x3,x4⟩:=hr
   obtain⟨c',y1,y2,y3⟩:=jf R g1 g2 hbk abM
   rw[x1]at y1;cases y1
   rw[g4]at x4 y3
   rw[g5]at y3 x2 ⊢
   exact⟨g,cap,c,rfl,x1,hbk,x4,x2,y3⟩
 have abN:vb<w.heap.size:=(Array.getElem?_eq_some_iff.1 hgv).1
 obtain⟨ss,hss⟩:∃ss,ss=y9.toList.take ob.sz:=⟨_,rfl⟩
 have Rx:ss.length=ob.sz:=by
  rw[hss,List.length_take,Array.length_toList,hvs]
  have:=mul_le_mul_right ob.sz hvc
  rw[one_mul]at this
  omega
 have hcell:∀j v,ss[j]?=some v→w.cell? ⟨vb,0+j,none⟩=some v:=λj v hj=>by
  rw[hss,List.getElem?_take]at hj
  split at hj
  ·simp only[World.cell?,hgv,Nat.zero_add]
   simpa using hj
  ·cases hj
 have hcx:aO (aP w (aV base objs blk) objs blk) ob.sz ⟨ss⟩ [x]:=by
  have:=aO.take hcs
  rw[show [x].length*ob.sz=ob.sz from one_mul _,←hss]at this
  exact this
 have hso:∀v∈ss,v.oneCell'=true:=cells_one hcx (by rw[Rx];exact (one_mul _).symm) (λy hy=>hone y (by rw[List.mem_singleton.1 hy];exact hx))
 by_cases hin:i=ob.xs.length
 ·subst hin
  have hfin:ob.xs.take ob.xs.length++[x]++ob.xs.drop ob.xs.length=ob.xs++[x]:=by simp
  rw[hfin]
  obtain⟨v',w',gb,q1,q2,q3,q4,q5⟩:=sJ (ty:=sT) (R:=aP w (aV base objs blk) objs blk) (gOld:=blk k) (v:=v0) (x:=.slice (some ⟨vb,0,none⟩) 1 vc) (xs:=ob.xs) (ys:=[x]) (news:=ss) hu hD hk hzl hzs (by
   unfold sH at hh
   rcases y_ (blk k) with hbk | ⟨g,hbk⟩
   ·rw[hbk]at hh ⊢;exact hh
   ·rw[hbk]at hh ⊢
    obtain⟨cap,c,hv,x1,x2,x3,x4⟩:=hh
    obtain⟨c',y1,y2,y3⟩:=jf R h1 h2 hbk hty
    rw[x1]at y1;cases y1
    exact⟨cap,c,hv,x1,x2,x3,by rw[hsz];exact x4,by rw[hsz];exact y3⟩) (by rw[hsz];exact Src.ofSlice w hu2 ⟨vb,0,none⟩ 1 vc ss (by rw[Rx];exact (one_mul _).symm) (λj u hj=>by rw[Addr.add_lit];exact hcell j u hj) hso) (by rw[hsz];exact hcx) (by rw[hby];exact hb) (by simp;omega)
  have hnn:ob.xs++[x]≠[]:=by simp
  have hL:∃gb,GU ob.ty ob.sz (aP w (aV base objs blk) objs blk) (blk k) w (ob.xs++[x]) v' w' gb:=by
   cases gb with
   | none=>exact absurd q5.2 hnn
   | some g=>exact⟨g,q2.1,q2.2,q3,q4 g rfl,by rw[hsz]at q5;exact q5⟩
  obtain⟨gb',hL⟩:=hL
  have fin:∀base' n c,v0=.slice base' n c→n=ob.xs.length→(base'=none→n=0∧c=0)→n≤c→c≤9223372036854775807→
      Calls P f #[v0,.int .i64 ob.xs.length,.slice (some ⟨vb,0,none⟩) 1 vc] w λe w'=>∃v' gb,e=.returned v'∧GU ob.ty ob.sz (aP w (aV base objs blk) objs blk) (blk k) w (ob.xs++[x]) v' w' gb:=by
   intro base' n c ev en hn hnc hc
   subst ev;subst en
   refine (W.fin base' _ c vb 0 vc w w' v' hn hnc hc λty'=>q1).mono λe w1 ⟨e1,e2⟩=>?_
   subst e2
   exact⟨v',gb',e1,hL⟩
  unfold sH at hh
  rcases y_ (blk k) with hbk | ⟨g,hbk⟩
  ·rw[hbk]at hh;exact fin none 0 0 hh.1 (by rw[hh.2];rfl) (λ_=>⟨rfl,rfl⟩) (Nat.le_refl _) (by decide)
  ·rw[hbk]at hh
   obtain⟨cap,c,hv,x1,x2,x3,x4⟩:=hh
   exact fin _ _ _ hv rfl (λh=>by cases h) x2 (by unfold maxLen at x3;omega)
 ·have hlt:i<ob.xs.length:=by omega
  unfold sH at hh
  rcases y_ (blk k) with hbk | ⟨g,hbk⟩
  ·rw[hbk]at hh;rw[hh.2]at hlt;simp at hlt
  ·rw[hbk]at hh
   obtain⟨cap,c,rfl,x1,x2,x3,x4⟩:=hh
   obtain⟨c',y1,y2,y3⟩:=jf R h1 h2 hbk hty
   rw[x1]at y1;cases y1
   have hc63:cap≤9223372036854775807:=by unfold maxLen at x3;omega
   have hvg:vb≠g:=λe=>R.objs.xR k2 k PO ob vb hkk g1 g2 h1 h2 hbk2 (by rw[hbk,e])
   have m1:(i+1)*ob.sz≤ob.xs.length*ob.sz:=mul_le_mul_right _ hlt
   have m2:ob.xs.length*ob.sz≤cap*ob.sz:=mul_le_mul_right _ x2
   have e1:=succ_mul i ob.sz
   have e2:=succ_mul ob.xs.length ob.sz
   rw[e1]at m1
   have hml:(mid c i ob.xs.length ob.sz).length=ob.xs.length*ob.sz-i*ob.sz:=by
    unfold mid
    rw[List.length_drop,List.length_take,Array.length_toList,x4]
    omega
   have hoc:∀v∈c.toList.take (ob.xs.length*ob.sz),v.oneCell'=true:=by
    refine cells_one (aO.take y3) ?_ (λy hy=>hone y (hall y hy))
    rw[List.length_take,Array.length_toList,x4]
    omega
   have aaH:∀v∈mid c i ob.xs.length ob.sz,v.oneCell'=true:=λv hv=>hoc v (List.mem_of_mem_drop hv)
   have hdg:∀q,i*ob.sz≤q→q<ob.xs.length*ob.sz→(mid c i ob.xs.length ob.sz)[q-i*ob.sz]?=c[q]?:=λq hq1 hq2=>by
    unfold mid
    rw[List.getElem?_drop,List.getElem?_take,show i*ob.sz+(q-i*ob.sz)=q by omega,if_pos hq2];simp
   have hyl:(ob.xs.take i++[x]++ob.xs.drop i).length=ob.xs.length+1:=by simp;omega
   have hmax:ob.xs.length+1≤maxLen:=by unfold maxLen;omega
   by_cases hroom:ob.xs.length+1≤cap
   ·have m3:(ob.xs.length+1)*ob.sz≤cap*ob.sz:=mul_le_mul_right _ hroom
    rw[e2]at m3
    refine (W.shift g ob.xs.length cap i vb 0 vc c y9 PO.ty ss w hlt hroom hc63 x1 x4 hgv hvg Rx hcell hso aaH).mono λe w' ⟨he,hw⟩=>?_
    refine⟨_,g,he,?_⟩
    rw[e1]at hw
    have hf1:i*ob.sz+ob.sz+(mid c i ob.xs.length ob.sz).length≤c.size:=by rw[hml,x4];omega
    generalize Lu:spl c (i*ob.sz+ob.sz) (mid c i ob.xs.length ob.sz)=bF at hw
    have hs1:bF.size=c.size:=by rw[←Lu];exact iU hf1
    have hg1:=λq=>Lu ▸ vH hf1 q
    have hf2:i*ob.sz+ss.length≤bF.size:=by rw[hs1,x4,Rx];omega
    generalize Lv:spl bF (i*ob.sz) ss=cur2 at hw
    have hs2:cur2.size=bF.size:=by rw[←Lv];exact iU hf2
    have hg2:=λq=>Lv ▸ vH hf2 q
    subst hw
    have hgd:w.drew.heap[g]?=some (.cells c ob.ty (0,0)):=x1
    have hh1:(w.drew.setRow g bF).heap[g]?=some (.cells bF ob.ty (0,0)):=setRow_heap w.drew g c bF ob.ty (0,0) hgd
    refine⟨by rw[setRow_size,setRow_size];exact Nat.le_refl _,⟨rfl,rfl⟩,λb y hb hy=>?_,.inl hbk,cap,cur2,by rw[hyl],setRow_heap _ g bF cur2 ob.ty (0,0) hh1,by rw[hyl];exact hroom,x3,by rw[hs2,hs1,x4],?_⟩
    ·have hbg:b≠g:=λe=>hb (by rw[hbk,e])
     rw[setRow_other _ g b _ hbg,setRow_other _ g b _ hbg];exact hy
    ·refine aO.aaG y3 hcx hi (λq hq=>?_) (λq hq=>?_) (λq hq1 hq2=>?_)
     ·rw[hg2,if_pos hq,hg1,if_pos (by omega)]
     ·rw[hg2,if_neg (by omega),if_pos (by omega),Nat.add_sub_cancel_left]
     ·rw[hg2,if_neg (by omega),if_neg (by omega),hg1,if_neg (by omega),if_pos (by omega)]
      rw[←hdg q hq1 hq2];congr 1;omega
   ·obtain⟨row,hrs,hrg,hC⟩:=W.grow g ob.xs.length cap i vb 0 vc c ss w hlt x2 (by omega) hb x1 x4 abN Rx hcell hso aaH
    refine hC.mono λe w' ⟨he,hw⟩=>?_
    refine⟨_,w.heap.size,he,?_⟩
    have hGn:=grownCap_ge w (ob.xs.length+1) cap ob.ty
    have hGm:=grownCap_le_maxLen w (ob.xs.length+1) cap ob.ty hmax
    generalize grownCap w (ob.xs.length+1) cap ob.ty=G at hrs hGn hGm ⊢
    have m3:(ob.xs.length+1)*ob.sz≤G*ob.sz:=mul_le_mul_right _ hGn
    rw[e2]at m3
    rw[e1]at hw
    have hf1:i*ob.sz+ss.length≤row.size:=by rw[hrs,Rx];omega
    generalize Lu:spl row (i*ob.sz) ss=bF at hw
    have hs1:bF.size=row.size:=by rw[←Lu];exact iU hf1
    have hg1:=λq=>Lu ▸ vH hf1 q
    have hf2:i*ob.sz+ob.sz+(mid c i ob.xs.length ob.sz).length≤bF.size:=by rw[hml,hs1,hrs];omega
    generalize Lv:spl bF (i*ob.sz+ob.sz) (mid c i ob.xs.length ob.sz)=cur2 at hw
    have hs2:cur2.size=bF.size:=by rw[←Lv];exact iU hf2
    have hg2:=λq=>Lv ▸ vH hf2 q
    subst hw
    have hN:(w.drew.alloc (.cells row ob.ty)).heap[w.heap.size]?=some (.cells row ob.ty (0,0)):=heap_alloc_new w.drew _
    have hN1:(((w.drew.alloc (.cells row ob.ty)).setRow w.heap.size bF).drew).heap[w.heap.size]?=some (.cells bF ob.ty (0,0)):=setRow_heap _ w.heap.size row bF ob.ty (0,0) hN
    have hgr:jd w (w.drew.alloc (.cells row ob.ty)):=.push rfl
    refine⟨by rw[setRow_size];show w.heap.size≤((w.drew.alloc (.cells row ob.ty)).setRow w.heap.size bF).heap.size;rw[setRow_size];exact hgr.1,hgr.2.2,λb y hb hy=>?_,.inr (Nat.le_refl _),G,cur2,by rw[hyl],setRow_heap _ w.heap.size bF cur2 ob.ty (0,0) hN1,by rw[hyl];exact hGn,hGm,by rw[hs2,hs1,hrs],?_⟩
    ·have hbs:b≠w.heap.size:=by have:=(Array.getElem?_eq_some_iff.1 hy).1;omega
     rw[setRow_other _ w.heap.size b _ hbs]
     show ((w.drew.alloc (.cells row ob.ty)).setRow w.heap.size bF).heap[b]?=some y
     rw[setRow_other _ w.heap.size b _ hbs]
     exact hgr.2.1 b y hy
    ·refine aO.aaG y3 hcx hi (λq hq=>?_) (λq hq=>?_) (λq hq1 hq2=>?_)
     ·rw[hg2,if_pos (by omega),hg1,if_pos hq,hrg q hq]
     ·rw[hg2,if_pos (by omega),hg1,if_neg (by omega),if_pos (by omega),Nat.add_sub_cancel_left]
     ·rw[hg2,if_neg (by omega),if_pos (by omega),←hdg q hq1 hq2]
      congr 1;omega
theorem Lx{f:FuncId}{sT uT:TypeId}{ti:ay}{by':Nat}{objs:List Obj}{k ver:Nat}{ob:Obj}{x:PV}{k2 D8:Nat}{PO:Obj}{i:Nat}(W:V7 P f sT uT ob.ty ob.sz by')(hu:P.underlying sT=some (.slice ob.ty))(hu2:P.underlying uT=some (.slice ob.ty))(hD:eP P ob.ty ti)(hk:ti.kind≠.none)
  (hzl:(aG ti).cells.length=ti.size) (hzs:(aG ti).cells.all PV.storable=true) (hsz:ti.size=ob.sz) (hby:ti.bytes=by')
  (h1:objs[k]?=some ob) (h2:ob.live=true) (h3:ob.ver=ver)
  (g1:objs[k2]?=some PO) (g2:PO.live=true) (g3:PO.ver=D8) (g4:PO.sz=ob.sz) (g5:PO.xs=[x]) (hkk:k2≠k)
  (hall:∀y∈ob.xs,Oh ob.sz y) (hx:Oh ob.sz x) (hi:i≤ob.xs.length) (hb:(ob.xs.length+1)*by'≤140737488355328) (hbm:ob.xs.length+1≤1000000000) :
  CR P f [.aW k ver,.int .i64 i,.aW k2 D8] objs (.aW k (ver+1)) (objs.set k { ob with xs:=ob.xs.take i++[x]++ob.xs.drop i,ver:=ver+1 }):=by
 refine⟨W.ent,by simp,λbase ah w0 tmps blk a w vs R hargs=>?_⟩
 obtain⟨v0,v1,v2,rfl,r0,r1,r2⟩:=Ul hargs
 have e1:=r1.int
 subst e1
 refine (Rw W hu hu2 hD hk hzl hzs hsz hby R h1 h2 h3 g1 g2 g3 g4 g5 hkk hall hx hi hb hbm r0 r2).mono λe w' ⟨v',gb,he,L⟩=>?_
 obtain⟨e3,e4⟩:=L.rel R h1 h2 h3 (r0.qC h1 h2 h3)
 exact⟨v',_,he,e3,e4⟩
end
end Lp
namespace Lp
open Go Go.Proofs Go.Lib Go.RowKit
theorem LB:Tryz.prog.underlying 75=some (.slice 9):=by kernel_rfl
theorem aaI:∃inf,Tryz.prog.info? 9=some inf∧inf.zero=some (Value.string ⟨#[]⟩)∧inf.size=1∧inf.bytes=16:=⟨_,rfl,rfl,rfl,rfl⟩
theorem jO(g n c i vb voff vc:Nat)(cur y9:Array Value)(tv:TypeId)(ss:List Value)(w:World)(hi:i<n)(hroom:n+1≤c)(hc63:c≤9223372036854775807)
  (hg:w.heap[g]?=some (.cells cur 9 (0,0))) (hcur:cur.size=c*1) (hgv:w.heap[vb]?=some (.cells y9 tv (0,0))) (hvb:vb≠g) (hsl:ss.length=1)
  (hx:∀j v,ss[j]?=some v→w.cell? ⟨vb,voff+j,none⟩=some v) (os:∀v∈ss,v.oneCell'=true) (oc:∀v∈mid cur i n 1,v.oneCell'=true) :
  Calls Tryz.prog 79 #[.slice (some ⟨g,0,none⟩) n c,.int .i64 i,.slice (some ⟨vb,voff,none⟩) 1 vc] w λe w'=>
   e=.returned (.slice (some ⟨g,0,none⟩) (n+1) c)∧w'=(w.drew.setRow g (spl cur ((i+1)*1) (mid cur i n 1))).setRow g (spl (spl cur ((i+1)*1) (mid cur i n 1)) (i*1) ss):=by
 have mixed:Tryz.prog.follows .mixedOrders=true:=by kernel_rfl
 have hml:(mid cur i n 1).length=(n-i)*1:=by simp[mid,hcur];omega
 have hz2:¬ ((i:Int)=(n:Int)):=by omega
 simp only[Nat.mul_one]at *
 have hov:∀off lb cb,(callFunc 105 #[.slice (some ⟨vb,voff,none⟩) 1 vc,.slice (some ⟨g,off,none⟩) lb cb]).run Tryz.prog w=.ok (.value (.bool false)) w:=λoff lb cb=>by
  rw[run_callFunc_extern Tryz.func105 (by kernel_rfl) (by kernel_rfl) (by kernel_rfl) (e:=Extern.SlicesOverlaps.overlaps #[75,75] #[4]) (by kernel_rfl),
   Lib.run_overlaps_apart w 75 4 9 LB 1 Tryz.sizeOf9 ⟨vb,voff,none⟩ ⟨g,off,none⟩ 1 vc lb cb hvb tv 9 y9.size cur.size (by simp[World.shape?,hgv]) (by simp[World.shape?,hg]) (by omega) (o_ hgv _) (o_ hgv _)]
  rfl
 obtain⟨inf,hi0,hz0,hzs,hzb⟩:=aaI
 have hg':w.drew.heap[g]?=some (.cells cur 9 (0,0)):=hg
 have hcp1:∀ty dc sc,(Builtin.copy_ #[75,75] ty #[.slice (some ⟨g,i+1,none⟩) (n-i) dc,.slice (some ⟨g,i,none⟩) (n+1-i) sc]).run Tryz.prog w.drew=.ok (goInt (n-i:Nat)) (w.drew.setRow g (spl cur (i+1) (mid cur i n 1))):=λty dc sc=>by
  refine eG w.drew 75 75 ty 9 inf g (i+1) (n-i) dc ⟨g,i,none⟩ (n+1-i) sc (n-i) cur 9 _ LB hi0 hg' (by simp only[Nat.min_def];split<;>omega) (by rw[hzs];omega) (λj v hj=>?_) (by omega) oc
  rw[Addr.add_lit]
  simp only[World.cell?,hg']
  unfold mid at hj
  rw[List.getElem?_drop,List.getElem?_take]at hj
  split at hj
  ·simpa using hj
  ·cases hj
 have za:(spl cur (i+1) (mid cur i n 1)).size=c*1:=by rw[iU (by omega)];omega
 generalize spl cur (i+1) (mid cur i n 1)=bF at hcp1 za ⊢
 have hg1:(w.drew.setRow g bF).heap[g]?=some (.cells bF 9 (0,0)):=setRow_heap w.drew g cur bF 9 (0,0) hg'
 have hcp2:∀ty dc,(Builtin.copy_ #[75,75] ty #[.slice (some ⟨g,i,none⟩) (n+1-i) dc,.slice (some ⟨vb,voff,none⟩) 1 vc]).run Tryz.prog (w.drew.setRow g bF)=.ok (goInt (1:Nat)) ((w.drew.setRow g bF).setRow g (spl bF (i) ss)):=λty dc=>by
  refine eG _ 75 75 ty 9 inf g (i) (n+1-i) dc ⟨vb,voff,none⟩ 1 vc 1 bF 9 ss LB hi0 hg1 (by simp only[Nat.min_def];split<;>omega) (by rw[hzs];omega) (λj v hj=>?_) (by omega) os
  rw[Addr.add_lit]
  have e:(w.drew.setRow g bF).heap[vb]?=w.heap[vb]?:=setRow_other w.drew g vb bF hvb
  have:(w.drew.setRow g bF).cell? ⟨vb,voff+j,none⟩=w.cell? ⟨vb,voff+j,none⟩:=by simp only[World.cell?,e]
  rw[this]
  exact hx j v hj
 generalize spl bF (i) ss=cur2 at hcp2 ⊢
 have hw1:IntKind.i64.wrap ((i:Int)+1)=(i:Int)+1:=by rw[IntKind.wrap_i64];omega
 have hb1:(0:Int)≤(i:Int)+1:=by omega
 have hin:i≤n:=by omega
 have htn:((i:Int)+1).toNat=i+1:=by omega
 have hb2:¬ (c=i+1):=by omega
 have hb3:(i:Int)≤(n:Int)+1:=by omega
 have hb4:¬ (c=i):=by omega
 have hb5:n+1-(i+1)=n-i:=by omega
 clear hml za hsl
 go_enter Tryz.func79,Tryz.ntmps79
 go_wp2_with (simp only[hov])
 go_region_law_o (refine step_copy_runI rfl _ _ 75 75 rfl _ _ (by simp[Act.eval,Act.put]) (by simp[Act.eval,Act.put]) (hcp1 _ _ _) ?_)
 go_wp2_with (at_builtin;refine wpList_copy_runI _ rfl _ _ 75 75 rfl _ _ rfl rfl (hcp2 _ _) ?_)
 go_ret
 exact⟨rfl,rfl⟩
theorem abO(base:Option Addr)(n c vb voff vc:Nat)(w w':World)(v':Value)(hnil:base=none→n=0∧c=0)(hnc:n≤c)(hc63:c≤9223372036854775807)
  (hrun:∀ty,(Builtin.append_ #[75,75] ty #[.slice base n c,.slice (some ⟨vb,voff,none⟩) 1 vc]).run Tryz.prog w=.ok v' w') :
  Calls Tryz.prog 79 #[.slice base n c,.int .i64 n,.slice (some ⟨vb,voff,none⟩) 1 vc] w λe w1=>e=.returned v'∧w1=w':=by
 have mixed:Tryz.prog.follows .mixedOrders=true:=by kernel_rfl
 cases base with
 | none=>
  obtain⟨rfl,rfl⟩:=hnil rfl
  go_enter Tryz.func79,Tryz.ntmps79
  go_wp2_with (at_builtin;refine Lib.wpList_append_run _ rfl _ _ _ _ rfl _ _ rfl rfl _ _ (hrun _) ?_)
  go_ret
  exact⟨rfl,rfl⟩
 | some a=>
  obtain⟨ab,ao,asp⟩:=a
  clear hnil
  go_enter Tryz.func79,Tryz.ntmps79
  go_wp2_with (at_builtin;refine Lib.wpList_append_run _ rfl _ _ _ _ rfl _ _ rfl rfl _ _ (hrun _) ?_)
  all_goals (go_ret;exact⟨rfl,rfl⟩)
theorem aaJ(g n c i vb voff vc:Nat)(cur:Array Value)(ss:List Value)(w:World)(hi:i<n)(hnc:n≤c)(hroom:c<n+1)(hbig:(n+1)*16≤140737488355328)
  (hg:w.heap[g]?=some (.cells cur 9 (0,0))) (hcur:cur.size=c*1) (hvb:vb<w.heap.size) (hsl:ss.length=1)
  (hx:∀j v,ss[j]?=some v→w.cell? ⟨vb,voff+j,none⟩=some v) (os:∀v∈ss,v.oneCell'=true) (oc:∀v∈mid cur i n 1,v.oneCell'=true) :
  ∃row:Array Value,row.size=grownCap w (n+1) c 9*1∧(∀q,q<i*1→row[q]?=cur[q]?)∧
   Calls Tryz.prog 79 #[.slice (some ⟨g,0,none⟩) n c,.int .i64 i,.slice (some ⟨vb,voff,none⟩) 1 vc] w λe w'=>
    e=.returned (.slice (some ⟨w.heap.size,0,none⟩) (n+1) (grownCap w (n+1) c 9))∧
    w'=((((w.drew.alloc (.cells row 9)).setRow w.heap.size (spl row (i*1) ss)).drew).setRow w.heap.size (spl (spl row (i*1) ss) ((i+1)*1) (mid cur i n 1))):=by
 have mixed:Tryz.prog.follows .mixedOrders=true:=by kernel_rfl
 obtain⟨inf,hi0,hz0,hzs,hzb⟩:=aaI
 have hgw:g<w.heap.size:=(Array.getElem?_eq_some_iff.1 hg).1
 have hz2:¬ ((i:Int)=(n:Int)):=by omega
 have hz3:(c:Int)<(n:Int)+1:=by omega
 have hik:i+(n+1-i)=n+1:=by omega
 have hkk:(n:Int)+1-(i:Int)=((n+1-i:Nat):Int):=by omega
 have hold:(Builtin.firstCells inf.size i (.slice (some ⟨g,0,none⟩) i c)).run Tryz.prog w.drew=.ok (cur.toList.take (i*1)).toArray w.drew:=by
  rw[hzs]
  refine run_firstCells_some w.drew 1 i ⟨g,0,none⟩ i c (cur.toList.take (i*1)) (by rw[List.length_take,Array.length_toList,hcur];omega) (λj v hj=>?_)
  rw[List.getElem?_take]at hj
  split at hj
  ·rw[add_lit]
   have:(w.drew.heap)[g]?=some (.cells cur 9 (0,0)):=hg
   simp only[World.cell?,this]
   simpa using hj
  ·cases hj
 have hGn:n+1≤grownCap w (n+1) c 9:=grownCap_ge w _ _ _
 have hG63:grownCap w (n+1) c 9≤9223372036854775807:=by
  have:=grownCap_le_maxLen w (n+1) c 9 (by unfold maxLen;omega)
  unfold maxLen at this
  omega
 have hrz:∀ty,(Builtin.append_ #[75,3] ty #[.slice (some ⟨g,0,none⟩) i c,.int .i64 ((n:Int)+1-(i:Int))]).run Tryz.prog w=
     .ok (.slice (some ⟨w.heap.size,0,none⟩) (n+1) (grownCap w (n+1) c 9)) (w.drew.alloc (.cells ((cur.toList.take (i*1)).toArray++Builtin.zeroCells (Value.string ⟨#[]⟩).cells (n+1-i)++Builtin.zeroCells (Value.string ⟨#[]⟩).cells (grownCap w (n+1) c 9-(n+1))) 9)):=λty=>by
  have h:=Lib.run_append_grow_zeros (P:=Tryz.prog) w 75 3 ty 9 inf _ .i64 .i64 LB (by kernel_rfl) hi0 hz0 (some ⟨g,0,none⟩) i c (cur.toList.take (i*1)) hold (n+1-i) (by omega) (by omega) (by omega) (by omega) (by rw[hzb];omega) (by rw[hzb,hik];exact growslice_fits hroom hbig)
  rw[hik]at h
  rw[hkk]
  exact h
 generalize grownCap w (n+1) c 9=G at *
 have hrg:∀q,q<i*1→((cur.toList.take (i*1)).toArray++Builtin.zeroCells (Value.string ⟨#[]⟩).cells (n+1-i)++Builtin.zeroCells (Value.string ⟨#[]⟩).cells (G-(n+1)))[q]?=cur[q]?:=λq hq=>by
  rw[Array.getElem?_append_left (by simp[Builtin.zeroCells,Value.cells,hcur];omega),Array.getElem?_append_left (by simp[hcur];omega)]
  rw[List.getElem?_toArray,List.getElem?_take,if_pos hq];simp
 have hrs:((cur.toList.take (i*1)).toArray++Builtin.zeroCells (Value.string ⟨#[]⟩).cells (n+1-i)++Builtin.zeroCells (Value.string ⟨#[]⟩).cells (G-(n+1))).size=G*1:=by
  simp[Builtin.zeroCells,Value.cells,hcur]
  omega
 generalize (cur.toList.take (i*1)).toArray++Builtin.zeroCells (Value.string ⟨#[]⟩).cells (n+1-i)++Builtin.zeroCells (Value.string ⟨#[]⟩).cells (G-(n+1))=row at hrz hrg hrs
 refine⟨row,hrs,hrg,?_⟩
 have hml:(mid cur i n 1).length=(n-i)*1:=by simp[mid,hcur];omega
 obtain⟨W1,hW1⟩:∃W1,W1=w.drew.alloc (.cells row 9):=⟨_,rfl⟩
 have hN:W1.heap[w.heap.size]?=some (.cells row 9 (0,0)):=by rw[hW1];exact heap_alloc_new w.drew _
 have hO:∀b,b<w.heap.size→W1.heap[b]?=w.heap[b]?:=λb hb=>by
  rw[hW1]
  show (w.drew.heap.push _)[b]?=_
  rw[Array.getElem?_push,if_neg (show ¬ b=w.drew.heap.size from by show ¬ b=w.heap.size;omega)]
  rfl
 rw[←hW1]at hrz ⊢
 simp only[Nat.mul_one]at *
 have hcpA:∀ty dc,(Builtin.copy_ #[75,75] ty #[.slice (some ⟨w.heap.size,i,none⟩) (n+1-i) dc,.slice (some ⟨vb,voff,none⟩) 1 vc]).run Tryz.prog W1=.ok (goInt (1:Nat)) (W1.setRow w.heap.size (spl row (i) ss)):=λty dc=>by
  refine eG _ 75 75 ty 9 inf w.heap.size (i) (n+1-i) dc ⟨vb,voff,none⟩ 1 vc 1 row 9 ss LB hi0 hN (by simp only[Nat.min_def];split<;>omega) (by rw[hzs];omega) (λj v hj=>?_) (by omega) os
  rw[Addr.add_lit]
  have:W1.cell? ⟨vb,voff+j,none⟩=w.cell? ⟨vb,voff+j,none⟩:=by simp only[World.cell?,hO vb hvb]
  rw[this]
  exact hx j v hj
 have za:(spl row (i) ss).size=G*1:=by rw[iU (by omega)];omega
 generalize spl row (i) ss=bF at hcpA za ⊢
 have hN1:((W1.setRow w.heap.size bF).drew).heap[w.heap.size]?=some (.cells bF 9 (0,0)):=setRow_heap W1 w.heap.size row bF 9 (0,0) hN
 have hcpB:∀ty dc sc,(Builtin.copy_ #[75,75] ty #[.slice (some ⟨w.heap.size,i+1,none⟩) (n-i) dc,.slice (some ⟨g,i,none⟩) (n-i) sc]).run Tryz.prog ((W1.setRow w.heap.size bF).drew)=.ok (goInt (n-i:Nat)) (((W1.setRow w.heap.size bF).drew).setRow w.heap.size (spl bF (i+1) (mid cur i n 1))):=λty dc sc=>by
  refine eG _ 75 75 ty 9 inf w.heap.size (i+1) (n-i) dc ⟨g,i,none⟩ (n-i) sc (n-i) bF 9 _ LB hi0 hN1 (by simp) (by rw[hzs];omega) (λj v hj=>?_) (by omega) oc
  rw[Addr.add_lit]
  have e:((W1.setRow w.heap.size bF).drew).heap[g]?=some (.cells cur 9 (0,0)):=by
   have:((W1.setRow w.heap.size bF).drew).heap[g]?=W1.heap[g]?:=setRow_other W1 w.heap.size g bF (by omega)
   rw[this,hO g hgw];exact hg
  simp only[World.cell?,e]
  unfold mid at hj
  rw[List.getElem?_drop,List.getElem?_take]at hj
  split at hj
  ·simpa using hj
  ·cases hj
 generalize spl bF (i+1) (mid cur i n 1)=cur2 at hcpB ⊢
 have hGi:¬ (G=i):=by omega
 have hGim:¬ (G=i+1):=by omega
 have hci:¬ (c=i):=by omega
 have hw1:IntKind.i64.wrap ((i:Int)+1)=(i:Int)+1:=by rw[IntKind.wrap_i64];omega
 have hw2:IntKind.i64.wrap ((n:Int)+1)=(n:Int)+1:=by rw[IntKind.wrap_i64];omega
 have hw3:IntKind.i64.wrap ((n:Int)+1-(i:Int))=(n:Int)+1-(i:Int):=by rw[IntKind.wrap_i64];omega
 have hb1:(0:Int)≤(i:Int)+1:=by omega
 have hin:i≤n:=by omega
 have htn:((i:Int)+1).toNat=i+1:=by omega
 have hb3:(i:Int)≤(n:Int):=by omega
 have hb5:n+1-(i+1)=n-i:=by omega
 clear hkk hik hold hrs hrg hml za hW1 hN hN1 hO hsl
 go_enter Tryz.func79,Tryz.ntmps79
 go_wp2_with (first
  | (at_builtin;refine Lib.wpList_append_run _ rfl _ _ _ _ rfl _ _ rfl rfl _ _ (hrz _) ?_)
  | (at_builtin;refine wpList_copy_runI _ rfl _ _ 75 75 rfl _ _ rfl rfl (hcpA _ _) ?_))
 go_region_law_o (refine step_copy_runI rfl _ _ 75 75 rfl _ _ (by simp[Act.eval,Act.put]) (by simp[Act.eval,Act.put]) (hcpB _ _ _) ?_)
 go_wp2
 go_ret
 exact⟨rfl,rfl⟩
theorem aaK:V7 Tryz.prog 79 75 75 9 1 16:=⟨⟨_,Tryz.func79,by kernel_rfl,by kernel_rfl⟩,jO,abO,aaJ⟩
end Lp
namespace Lp
open Go Go.Proofs Go.Lib Go.RowKit
theorem D9:Tryz.prog.underlying 64=some (.slice 23):=by kernel_rfl
theorem aaL:∃inf,Tryz.prog.info? 23=some inf∧inf.zero=some (Value.slice none 0 0)∧inf.size=1∧inf.bytes=24:=⟨_,rfl,rfl,rfl,rfl⟩
theorem YU(g n c i vb voff vc:Nat)(cur y9:Array Value)(tv:TypeId)(ss:List Value)(w:World)(hi:i<n)(hroom:n+1≤c)(hc63:c≤9223372036854775807)
  (hg:w.heap[g]?=some (.cells cur 23 (0,0))) (hcur:cur.size=c*1) (hgv:w.heap[vb]?=some (.cells y9 tv (0,0))) (hvb:vb≠g) (hsl:ss.length=1)
  (hx:∀j v,ss[j]?=some v→w.cell? ⟨vb,voff+j,none⟩=some v) (os:∀v∈ss,v.oneCell'=true) (oc:∀v∈mid cur i n 1,v.oneCell'=true) :
  Calls Tryz.prog 54 #[.slice (some ⟨g,0,none⟩) n c,.int .i64 i,.slice (some ⟨vb,voff,none⟩) 1 vc] w λe w'=>
   e=.returned (.slice (some ⟨g,0,none⟩) (n+1) c)∧w'=(w.drew.setRow g (spl cur ((i+1)*1) (mid cur i n 1))).setRow g (spl (spl cur ((i+1)*1) (mid cur i n 1)) (i*1) ss):=by
 have mixed:Tryz.prog.follows .mixedOrders=true:=by kernel_rfl
 have hml:(mid cur i n 1).length=(n-i)*1:=by simp[mid,hcur];omega
 have hz2:¬ ((i:Int)=(n:Int)):=by omega
 simp only[Nat.mul_one]at *
 have hov:∀off lb cb,(callFunc 82 #[.slice (some ⟨vb,voff,none⟩) 1 vc,.slice (some ⟨g,off,none⟩) lb cb]).run Tryz.prog w=.ok (.value (.bool false)) w:=λoff lb cb=>by
  rw[run_callFunc_extern Tryz.func82 (by kernel_rfl) (by kernel_rfl) (by kernel_rfl) (e:=Extern.SlicesOverlaps.overlaps #[64,64] #[4]) (by kernel_rfl),
   Lib.run_overlaps_apart w 64 4 23 D9 1 Tryz.sizeOf23 ⟨vb,voff,none⟩ ⟨g,off,none⟩ 1 vc lb cb hvb tv 23 y9.size cur.size (by simp[World.shape?,hgv]) (by simp[World.shape?,hg]) (by omega) (o_ hgv _) (o_ hgv _)]
  rfl
 obtain⟨inf,hi0,hz0,hzs,hzb⟩:=aaL
 have hg':w.drew.heap[g]?=some (.cells cur 23 (0,0)):=hg
 have hcp1:∀ty dc sc,(Builtin.copy_ #[64,64] ty #[.slice (some ⟨g,i+1,none⟩) (n-i) dc,.slice (some ⟨g,i,none⟩) (n+1-i) sc]).run Tryz.prog w.drew=.ok (goInt (n-i:Nat)) (w.drew.setRow g (spl cur (i+1) (mid cur i n 1))):=λty dc sc=>by
  refine eG w.drew 64 64 ty 23 inf g (i+1) (n-i) dc ⟨g,i,none⟩ (n+1-i) sc (n-i) cur 23 _ D9 hi0 hg' (by simp only[Nat.min_def];split<;>omega) (by rw[hzs];omega) (λj v hj=>?_) (by omega) oc
  rw[Addr.add_lit]
  simp only[World.cell?,hg']
  unfold mid at hj
  rw[List.getElem?_drop,List.getElem?_take]at hj
  split at hj
  ·simpa using hj
  ·cases hj
 have za:(spl cur (i+1) (mid cur i n 1)).size=c*1:=by rw[iU (by omega)];omega
 generalize spl cur (i+1) (mid cur i n 1)=bF at hcp1 za ⊢
 have hg1:(w.drew.setRow g bF).heap[g]?=some (.cells bF 23 (0,0)):=setRow_heap w.drew g cur bF 23 (0,0) hg'
 have hcp2:∀ty dc,(Builtin.copy_ #[64,64] ty #[.slice (some ⟨g,i,none⟩) (n+1-i) dc,.slice (some ⟨vb,voff,none⟩) 1 vc]).run Tryz.prog (w.drew.setRow g bF)=.ok (goInt (1:Nat)) ((w.drew.setRow g bF).setRow g (spl bF (i) ss)):=λty dc=>by
  refine eG _ 64 64 ty 23 inf g (i) (n+1-i) dc ⟨vb,voff,none⟩ 1 vc 1 bF 23 ss D9 hi0 hg1 (by simp only[Nat.min_def];split<;>omega) (by rw[hzs];omega) (λj v hj=>?_) (by omega) os
  rw[Addr.add_lit]
  have e:(w.drew.setRow g bF).heap[vb]?=w.heap[vb]?:=setRow_other w.drew g vb bF hvb
  have:(w.drew.setRow g bF).cell? ⟨vb,voff+j,none⟩=w.cell? ⟨vb,voff+j,none⟩:=by simp only[World.cell?,e]
  rw[this]
  exact hx j v hj
 generalize spl bF (i) ss=cur2 at hcp2 ⊢
 have hw1:IntKind.i64.wrap ((i:Int)+1)=(i:Int)+1:=by rw[IntKind.wrap_i64];omega
 have hb1:(0:Int)≤(i:Int)+1:=by omega
 have hin:i≤n:=by omega
 have htn:((i:Int)+1).toNat=i+1:=by omega
 have hb2:¬ (c=i+1):=by omega
 have hb3:(i:Int)≤(n:Int)+1:=by omega
 have hb4:¬ (c=i):=by omega
 have hb5:n+1-(i+1)=n-i:=by omega
 clear hml za hsl
 go_enter Tryz.func54,Tryz.ntmps54
 go_wp2_with (simp only[hov])
 go_region_law_o (refine step_copy_runI rfl _ _ 64 64 rfl _ _ (by simp[Act.eval,Act.put]) (by simp[Act.eval,Act.put]) (hcp1 _ _ _) ?_)
 go_wp2_with (at_builtin;refine wpList_copy_runI _ rfl _ _ 64 64 rfl _ _ rfl rfl (hcp2 _ _) ?_)
 go_ret
 exact⟨rfl,rfl⟩
theorem abP(base:Option Addr)(n c vb voff vc:Nat)(w w':World)(v':Value)(hnil:base=none→n=0∧c=0)(hnc:n≤c)(hc63:c≤9223372036854775807)
  (hrun:∀ty,(Builtin.append_ #[64,64] ty #[.slice base n c,.slice (some ⟨vb,voff,none⟩) 1 vc]).run Tryz.prog w=.ok v' w') :
  Calls Tryz.prog 54 #[.slice base n c,.int .i64 n,.slice (some ⟨vb,voff,none⟩) 1 vc] w λe w1=>e=.returned v'∧w1=w':=by
 have mixed:Tryz.prog.follows .mixedOrders=true:=by kernel_rfl
 cases base with
 | none=>
  obtain⟨rfl,rfl⟩:=hnil rfl
  go_enter Tryz.func54,Tryz.ntmps54
  go_wp2_with (at_builtin;refine Lib.wpList_append_run _ rfl _ _ _ _ rfl _ _ rfl rfl _ _ (hrun _) ?_)
  go_ret
  exact⟨rfl,rfl⟩
 | some a=>
  obtain⟨ab,ao,asp⟩:=a
  clear hnil
  go_enter Tryz.func54,Tryz.ntmps54
  go_wp2_with (at_builtin;refine Lib.wpList_append_run _ rfl _ _ _ _ rfl _ _ rfl rfl _ _ (hrun _) ?_)
  all_goals (go_ret;exact⟨rfl,rfl⟩)
theorem aaM(g n c i vb voff vc:Nat)(cur:Array Value)(ss:List Value)(w:World)(hi:i<n)(hnc:n≤c)(hroom:c<n+1)(hbig:(n+1)*24≤140737488355328)
  (hg:w.heap[g]?=some (.cells cur 23 (0,0))) (hcur:cur.size=c*1) (hvb:vb<w.heap.size) (hsl:ss.length=1)
  (hx:∀j v,ss[j]?=some v→w.cell? ⟨vb,voff+j,none⟩=some v) (os:∀v∈ss,v.oneCell'=true) (oc:∀v∈mid cur i n 1,v.oneCell'=true) :
  ∃row:Array Value,row.size=grownCap w (n+1) c 23*1∧(∀q,q<i*1→row[q]?=cur[q]?)∧
   Calls Tryz.prog 54 #[.slice (some ⟨g,0,none⟩) n c,.int .i64 i,.slice (some ⟨vb,voff,none⟩) 1 vc] w λe w'=>
    e=.returned (.slice (some ⟨w.heap.size,0,none⟩) (n+1) (grownCap w (n+1) c 23))∧
    w'=((((w.drew.alloc (.cells row 23)).setRow w.heap.size (spl row (i*1) ss)).drew).setRow w.heap.size (spl (spl row (i*1) ss) ((i+1)*1) (mid cur i n 1))):=by
 have mixed:Tryz.prog.follows .mixedOrders=true:=by kernel_rfl
 obtain⟨inf,hi0,hz0,hzs,hzb⟩:=aaL
 have hgw:g<w.heap.size:=(Array.getElem?_eq_some_iff.1 hg).1
 have hz2:¬ ((i:Int)=(n:Int)):=by omega
 have hz3:(c:Int)<(n:Int)+1:=by omega
 have hik:i+(n+1-i)=n+1:=by omega
 have hkk:(n:Int)+1-(i:Int)=((n+1-i:Nat):Int):=by omega
 have hold:(Builtin.firstCells inf.size i (.slice (some ⟨g,0,none⟩) i c)).run Tryz.prog w.drew=.ok (cur.toList.take (i*1)).toArray w.drew:=by
  rw[hzs]
  refine run_firstCells_some w.drew 1 i ⟨g,0,none⟩ i c (cur.toList.take (i*1)) (by rw[List.length_take,Array.length_toList,hcur];omega) (λj v hj=>?_)
  rw[List.getElem?_take]at hj
  split at hj
  ·rw[add_lit]
   have:(w.drew.heap)[g]?=some (.cells cur 23 (0,0)):=hg
   simp only[World.cell?,this]
   simpa using hj
  ·cases hj
 have hGn:n+1≤grownCap w (n+1) c 23:=grownCap_ge w _ _ _
 have hG63:grownCap w (n+1) c 23≤9223372036854775807:=by
  have:=grownCap_le_maxLen w (n+1) c 23 (by unfold maxLen;omega)
  unfold maxLen at this
  omega
 have hrz:∀ty,(Builtin.append_ #[64,3] ty #[.slice (some ⟨g,0,none⟩) i c,.int .i64 ((n:Int)+1-(i:Int))]).run Tryz.prog w=
     .ok (.slice (some ⟨w.heap.size,0,none⟩) (n+1) (grownCap w (n+1) c 23)) (w.drew.alloc (.cells ((cur.toList.take (i*1)).toArray++Builtin.zeroCells (Value.slice none 0 0).cells (n+1-i)++Builtin.zeroCells (Value.slice none 0 0).cells (grownCap w (n+1) c 23-(n+1))) 23)):=λty=>by
  have h:=Lib.run_append_grow_zeros (P:=Tryz.prog) w 64 3 ty 23 inf _ .i64 .i64 D9 (by kernel_rfl) hi0 hz0 (some ⟨g,0,none⟩) i c (cur.toList.take (i*1)) hold (n+1-i) (by omega) (by omega) (by omega) (by omega) (by rw[hzb];omega) (by rw[hzb,hik];exact growslice_fits hroom hbig)
  rw[hik]at h
  rw[hkk]
  exact h
 generalize grownCap w (n+1) c 23=G at *
 have hrg:∀q,q<i*1→((cur.toList.take (i*1)).toArray++Builtin.zeroCells (Value.slice none 0 0).cells (n+1-i)++Builtin.zeroCells (Value.slice none 0 0).cells (G-(n+1)))[q]?=cur[q]?:=λq hq=>by
  rw[Array.getElem?_append_left (by simp[Builtin.zeroCells,Value.cells,hcur];omega),Array.getElem?_append_left (by simp[hcur];omega)]
  rw[List.getElem?_toArray,List.getElem?_take,if_pos hq];simp
 have hrs:((cur.toList.take (i*1)).toArray++Builtin.zeroCells (Value.slice none 0 0).cells (n+1-i)++Builtin.zeroCells (Value.slice none 0 0).cells (G-(n+1))).size=G*1:=by
  simp[Builtin.zeroCells,Value.cells,hcur]
  omega
 generalize (cur.toList.take (i*1)).toArray++Builtin.zeroCells (Value.slice none 0 0).cells (n+1-i)++Builtin.zeroCells (Value.slice none 0 0).cells (G-(n+1))=row at hrz hrg hrs
 refine⟨row,hrs,hrg,?_⟩
 have hml:(mid cur i n 1).length=(n-i)*1:=by simp[mid,hcur];omega
 obtain⟨W1,hW1⟩:∃W1,W1=w.drew.alloc (.cells row 23):=⟨_,rfl⟩
 have hN:W1.heap[w.heap.size]?=some (.cells row 23 (0,0)):=by rw[hW1];exact heap_alloc_new w.drew _
 have hO:∀b,b<w.heap.size→W1.heap[b]?=w.heap[b]?:=λb hb=>by
  rw[hW1]
  show (w.drew.heap.push _)[b]?=_
  rw[Array.getElem?_push,if_neg (show ¬ b=w.drew.heap.size from by show ¬ b=w.heap.size;omega)]
  rfl
 rw[←hW1]at hrz ⊢
 simp only[Nat.mul_one]at *
 have hcpA:∀ty dc,(Builtin.copy_ #[64,64] ty #[.slice (some ⟨w.heap.size,i,none⟩) (n+1-i) dc,.slice (some ⟨vb,voff,none⟩) 1 vc]).run Tryz.prog W1=.ok (goInt (1:Nat)) (W1.setRow w.heap.size (spl row (i) ss)):=λty dc=>by
  refine eG _ 64 64 ty 23 inf w.heap.size (i) (n+1-i) dc ⟨vb,voff,none⟩ 1 vc 1 row 23 ss D9 hi0 hN (by simp only[Nat.min_def];split<;>omega) (by rw[hzs];omega) (λj v hj=>?_) (by omega) os
  rw[Addr.add_lit]
  have:W1.cell? ⟨vb,voff+j,none⟩=w.cell? ⟨vb,voff+j,none⟩:=by simp only[World.cell?,hO vb hvb]
  rw[this]
  exact hx j v hj
 have za:(spl row (i) ss).size=G*1:=by rw[iU (by omega)];omega
 generalize spl row (i) ss=bF at hcpA za ⊢
 have hN1:((W1.setRow w.heap.size bF).drew).heap[w.heap.size]?=some (.cells bF 23 (0,0)):=setRow_heap W1 w.heap.size row bF 23 (0,0) hN
 have hcpB:∀ty dc sc,(Builtin.copy_ #[64,64] ty #[.slice (some ⟨w.heap.size,i+1,none⟩) (n-i) dc,.slice (some ⟨g,i,none⟩) (n-i) sc]).run Tryz.prog ((W1.setRow w.heap.size bF).drew)=.ok (goInt (n-i:Nat)) (((W1.setRow w.heap.size bF).drew).setRow w.heap.size (spl bF (i+1) (mid cur i n 1))):=λty dc sc=>by
  refine eG _ 64 64 ty 23 inf w.heap.size (i+1) (n-i) dc ⟨g,i,none⟩ (n-i) sc (n-i) bF 23 _ D9 hi0 hN1 (by simp) (by rw[hzs];omega) (λj v hj=>?_) (by omega) oc
  rw[Addr.add_lit]
  have e:((W1.setRow w.heap.size bF).drew).heap[g]?=some (.cells cur 23 (0,0)):=by
   have:((W1.setRow w.heap.size bF).drew).heap[g]?=W1.heap[g]?:=setRow_other W1 w.heap.size g bF (by omega)
   rw[this,hO g hgw];exact hg
  simp only[World.cell?,e]
  unfold mid at hj
  rw[List.getElem?_drop,List.getElem?_take]at hj
  split at hj
  ·simpa using hj
  ·cases hj
 generalize spl bF (i+1) (mid cur i n 1)=cur2 at hcpB ⊢
 have hGi:¬ (G=i):=by omega
 have hGim:¬ (G=i+1):=by omega
 have hci:¬ (c=i):=by omega
 have hw1:IntKind.i64.wrap ((i:Int)+1)=(i:Int)+1:=by rw[IntKind.wrap_i64];omega
 have hw2:IntKind.i64.wrap ((n:Int)+1)=(n:Int)+1:=by rw[IntKind.wrap_i64];omega
 have hw3:IntKind.i64.wrap ((n:Int)+1-(i:Int))=(n:Int)+1-(i:Int):=by rw[IntKind.wrap_i64];omega
 have hb1:(0:Int)≤(i:Int)+1:=by omega
 have hin:i≤n:=by omega
 have htn:((i:Int)+1).toNat=i+1:=by omega
 have hb3:(i:Int)≤(n:Int):=by omega
 have hb5:n+1-(i+1)=n-i:=by omega
 clear hkk hik hold hrs hrg hml za hW1 hN hN1 hO hsl
 go_enter Tryz.func54,Tryz.ntmps54
 go_wp2_with (first
  | (at_builtin;refine Lib.wpList_append_run _ rfl _ _ _ _ rfl _ _ rfl rfl _ _ (hrz _) ?_)
  | (at_builtin;refine wpList_copy_runI _ rfl _ _ 64 64 rfl _ _ rfl rfl (hcpA _ _) ?_))
 go_region_law_o (refine step_copy_runI rfl _ _ 64 64 rfl _ _ (by simp[Act.eval,Act.put]) (by simp[Act.eval,Act.put]) (hcpB _ _ _) ?_)
 go_wp2
 go_ret
 exact⟨rfl,rfl⟩
theorem aaN:V7 Tryz.prog 54 64 64 23 1 24:=⟨⟨_,Tryz.func54,by kernel_rfl,by kernel_rfl⟩,YU,abP,aaM⟩
end Lp
namespace Lp
open Go Go.Proofs
open List (length_map map_append mem_cons mem_singleton not_mem_nil)
theorem av.aaO {f:FuncId}{args:List PV}{ty:TypeId}{sz s:Nat}(h:av Tryz.prog f args [] (.sl s [] (some true)) [])(hty:ty≠MT):av Tryz.prog f args [] (.aW 0 0) [⟨ty,sz,[],true,0⟩]:=by
 refine⟨h.1,λw blk vs base hb R ha=>(h.2 w blk vs base hb R ha).mono ?_⟩
 rintro e w' ⟨v,aj,h1,h2,h3,h4⟩
 have hv:v=.slice none 0 0:=by
  have:=oh h3
  cases this with
  | slnil _ _ _=>rfl
  | Cy _ _ hq=>exact absurd rfl hq
  | sl _ _ _ hq=>exact absurd rfl hq
 subst hv
 refine⟨_,λ_=>none,h1,⟨λk o ho _=>?_,λk k' o o' g _ _ _ _ _ hx=>(by cases hx),λk o g _ _ hx=>(by cases hx)⟩,⟨rfl,_,rfl,Nat.le_refl _,λ_ _=>⟨hty,rfl,rfl⟩⟩,h4⟩
 match k,ho with
 | 0,ho=>cases ho;rfl
 | _+1,ho=>simp at ho
def aaP(done:List Vl)(O:List Obj):Prop:=(done=[]∧O=[⟨64,1,[.sl 0 [] (some true)],true,1⟩])∨(done≠[]∧∃ver,O=[⟨64,1,[.aW 1 ver],true,1⟩,⟨23,1,done.map ak,true,ver⟩])
def aaQ(done:List (List UInt8))(O:List Obj):Prop:=(done=[]∧O=[⟨75,1,[.sl 0 [] (some true)],true,1⟩])∨(done≠[]∧∃ver,O=[⟨75,1,[.aW 1 ver],true,1⟩,⟨9,1,done.map .str,true,ver⟩])
theorem V8{done:List Vl}{O:List Obj}(h:aaP done O):1≤O.length∧bq O:=by
 rcases h with ⟨_,rfl⟩ | ⟨_,ver,rfl⟩
 ·refine⟨by simp,λo ho x hx c hc=>?_⟩
  simp only[mem_singleton]at ho;subst ho
  simp only[mem_singleton]at hx;subst hx
  simp only[PV.cells,mem_singleton]at hc;subst hc;rfl
 ·refine⟨by simp,λo ho x hx c hc=>?_⟩
  simp only[mem_cons,not_mem_nil,or_false]at ho
  rcases ho with rfl | rfl
  ·simp only[mem_singleton]at hx;subst hx
   simp only[PV.cells,mem_singleton]at hc;subst hc;rfl
  ·obtain⟨y,_,rfl⟩:=List.mem_map.1 hx
   simp only[ak,PV.cells,mem_singleton]at hc;subst hc;rfl
theorem V9{done:List (List UInt8)}{O:List Obj}(h:aaQ done O):1≤O.length∧bq O:=by
 rcases h with ⟨_,rfl⟩ | ⟨_,ver,rfl⟩
 ·refine⟨by simp,λo ho x hx c hc=>?_⟩
  simp only[mem_singleton]at ho;subst ho
  simp only[mem_singleton]at hx;subst hx
  simp only[PV.cells,mem_singleton]at hc;subst hc;rfl
 ·refine⟨by simp,λo ho x hx c hc=>?_⟩
  simp only[mem_cons,not_mem_nil,or_false]at ho
  rcases ho with rfl | rfl
  ·simp only[mem_singleton]at hx;subst hx
   simp only[PV.cells,mem_singleton]at hc;subst hc;rfl
  ·obtain⟨y,_,rfl⟩:=List.mem_map.1 hx
   simp only[PV.cells,mem_singleton]at hc;subst hc;rfl
theorem wH{α β:Type}{f:α→β}{l:List α}{i:Nat}{x:α}(h:l[i]?=some x):(l.take (i+1)).map f=(l.take i).map f++[f x]:=by
 rw[List.take_add_one,h];simp
theorem Oi(v:Vl)(hr:Rt v)(hl:v.length≤1000000):av Tryz.prog 52 [ak v] [] (.aW 0 0) [IG (aD v) 0]:=by
 obtain⟨ps,hP,YQ,hpl,hnm,hgv⟩:=qV v hr hl
 by_cases h0:ps=[]
 ·obtain⟨n,r,hv,_⟩:=b_ hr.name hr.one.ne
  subst hv
  obtain⟨h1,h2,ps',h3,_,_,_,_⟩:=hr.parts
  have hp':ps'=[]:=by
   have e:aD (n::r)=ps'.map gX:=by simp only[aD,(dI h3).1]
   rw[hP,h0]at e
   exact List.map_eq_nil_iff.1 e.symm
  have h:=Bc (n::r) n r ps' rfl (by omega) h2 h3
  rw[if_pos hp']at h
  rw[hP,h0]
  exact h.aaO (by decide)
 refine Bb.PE (T:=bH Tryz.prog [(80,jH)]) 2 hD (ax (af o8 au)) bM λQ hQ=>?_
 (conv=>arg 4;cbv);simp (maxSteps:=400000) only[↓aI,aJ,BEq.rfl,seval,hQ,↓jH]
 refine wW 107 [.addr (ak v)] (ps.map rowOf) (λi O=>aaP ((ps.take i).map gX) O∧i≤ps.length) rfl rfl rfl trivial hgv (vE ps) ⟨.inl ⟨by simp,rfl⟩,Nat.zero_le _⟩ (λi O h=>V8 h.1) ?_ ?_
 ·rintro i args O ⟨hO,hi⟩ ha
  obtain⟨p,hpi,rfl⟩:=vF ha
  have hil:=(List.getElem?_eq_some_iff.1 hpi).1
  have htk:=wH (f:=gX) hpi
  have hkl:((ps.take i).map gX).length≤i:=by simp;omega
  generalize (ps.take i).map gX=kept at *
  rcases hO with ⟨rfl,rfl⟩ | ⟨h1,ver,rfl⟩
  ·simp (maxSteps:=400000) only[↓aI,aJ,BEq.rfl,seval,hQ,iI,Sn]
   exact⟨.inr ⟨by rw[htk];simp,1,by rw[htk];rfl⟩,by omega⟩
  ·simp (maxSteps:=400000) only[↓aI,aJ,BEq.rfl,seval,hQ,iI,Sn]
   exact⟨by omega,by omega,.inr ⟨by rw[htk];simp,ver+1,by rw[htk,map_append];rfl⟩,by omega⟩
 ·rintro O ⟨hO,_⟩
  rw[length_map,List.take_length]at hO
  rcases hO with ⟨h1,rfl⟩ | ⟨h1,ver,rfl⟩
  ·exact absurd (List.map_eq_nil_iff.1 h1) h0
  ·simp (maxSteps:=400000) only[↓aI,aJ,BEq.rfl,seval,hQ]
   rw[hP]
   exact VY (k:=1) (ver:=ver) rfl rfl rfl rfl (congrArg (λo:Obj=>{ o with ver:=0 }) (Ri 2 2 _ 23 1 _ ver)) (GH _ 0)
theorem Oj(v:Vl)(hr:Rt v)(hk:bD v=6)(hl:v.length≤1000000):av Tryz.prog 76 [ak v] [] (.aW 0 0) [VZ (aS v) 0]:=by
 obtain⟨ps,hP,YQ,hpl,hnm,hgv⟩:=qV v hr hl
 obtain⟨n,r,hv,_⟩:=b_ hr.name hr.one.ne
 have NF:n.kind=6:=by rw[hv]at hk;exact hk
 have hN:aS v=ps.map nameOf:=by
  rcases hnm with h | ⟨n',r',h1,h2⟩
  ·exact h
  ·rw[hv]at h1;cases h1;exact absurd NF h2
 by_cases h0:ps=[]
 ·subst hv
  obtain⟨h1,h2,ps',h3,_,_,_,_⟩:=hr.parts
  have hp':ps'=[]:=by
   have e:aD (n::r)=ps'.map gX:=by simp only[aD,(dI h3).1]
   rw[hP,h0]at e
   exact List.map_eq_nil_iff.1 e.symm
  have h:=Bd (n::r) n r ps' rfl (by omega) h2 h3
  rw[if_neg (λh=>h.2 hp')]at h
  rw[hN,h0]
  exact h.aaO (by decide)
 have hg0:v[0]?=some n:=by rw[hv];rfl
 have k6:(n.kind=6)=True:=eq_true NF
 refine Ba.PE (T:=bH Tryz.prog [(80,jH)]) 2 hD (ax (af o8 au)) bM λQ hQ=>?_
 (conv=>arg 4;cbv);simp (maxSteps:=400000) only[↓aI,aJ,BEq.rfl,seval,hQ,hg0,k6,↓jH]
 refine wW 107 [.addr (ak v)] (ps.map rowOf) (λi O=>aaQ ((ps.take i).map nameOf) O∧i≤ps.length) rfl rfl rfl trivial hgv (vE ps) ⟨.inl ⟨by simp,rfl⟩,Nat.zero_le _⟩ (λi O h=>V9 h.1) ?_ ?_
 ·rintro i args O ⟨hO,hi⟩ ha
  obtain⟨p,hpi,rfl⟩:=vF ha
  have hil:=(List.getElem?_eq_some_iff.1 hpi).1
  have htk:=wH (f:=nameOf) hpi
  have hkl:((ps.take i).map nameOf).length≤i:=by simp;omega
  generalize (ps.take i).map nameOf=kept at *
  rcases hO with ⟨rfl,rfl⟩ | ⟨h1,ver,rfl⟩
  ·simp (maxSteps:=400000) only[↓aI,aJ,BEq.rfl,seval,hQ,iI,Sn]
   exact⟨.inr ⟨by rw[htk];simp,1,by rw[htk];rfl⟩,by omega⟩
  ·simp (maxSteps:=400000) only[↓aI,aJ,BEq.rfl,seval,hQ,iI,Sn]
   exact⟨by omega,by omega,.inr ⟨by rw[htk];simp,ver+1,by rw[htk,map_append];rfl⟩,by omega⟩
 ·rintro O ⟨hO,_⟩
  rw[length_map,List.take_length]at hO
  rcases hO with ⟨h1,rfl⟩ | ⟨h1,ver,rfl⟩
  ·exact absurd (List.map_eq_nil_iff.1 h1) h0
  ·simp (maxSteps:=400000) only[↓aI,aJ,BEq.rfl,seval,hQ]
   rw[hN]
   exact VY (k:=1) (ver:=ver) rfl rfl rfl rfl (congrArg (λo:Obj=>{ o with ver:=0 }) (Rj 2 2 _ 9 1 _ ver)) (GI _ 0)
def vI:fu:=λargs objs K=>match args with
 | [a]=>jF ak a (HK.mk:HK λv=>Rt v∧bD v=6∧v.length≤1000000∧K (.aW objs.length 0) (objs++[VZ (aS v) 0]) 2)
 | _=>False
theorem I9:aQ Tryz.prog 76 vI:=by
 intro args objs K h
 unfold vI at h
 split at h
 ·obtain⟨v,rfl,h1,h2,h3,h4⟩:=h
  exact⟨_,_,_,.made (.aW 0 0) _ rfl (GI _ 0) (Oj v h1 h2 h3),by simpa[PV.shift,PV.jO] using h4⟩
 ·exact h.elim
def gH:fu:=λargs objs K=>match args with
 | [a]=>jF ak a (HK.mk:HK λv=>Rt v∧v.length≤1000000∧K (.aW objs.length 0) (objs++[IG (aD v) 0]) 2)
 | _=>False
theorem rC:aQ Tryz.prog 52 gH:=by
 intro args objs K h
 unfold gH at h
 split at h
 ·obtain⟨v,rfl,h1,h3,h4⟩:=h
  exact⟨_,_,_,.made (.aW 0 0) _ rfl (GH _ 0) (Oi v h1 h3),by simpa[PV.shift,PV.jO] using h4⟩
 ·exact h.elim
def aaR(nm:List UInt8)(kept:mK)(O:List Obj):Prop:=(kept=[]∧O=[⟨9,1,[.str nm],true,1⟩,⟨75,1,[.sl 0 [] (some true)],true,1⟩,⟨64,1,[.sl 0 [] (some true)],true,1⟩])∨
 (kept≠[]∧∃v1 v2,O=[⟨9,1,[.str nm],true,1⟩,⟨75,1,[.aW 3 v1],true,1⟩,⟨64,1,[.aW 4 v2],true,1⟩,⟨9,1,(kept.map (·.1)).map .str,true,v1⟩,⟨23,1,(kept.map (·.2)).map ak,true,v2⟩])
theorem V_{nm:List UInt8}{kept:mK}{O:List Obj}(h:aaR nm kept O):3≤O.length∧bq O:=by
 rcases h with ⟨_,rfl⟩ | ⟨_,v1,v2,rfl⟩
 ·refine⟨by simp,λo ho x hx c hc=>?_⟩
  simp only[mem_cons,not_mem_nil,or_false]at ho
  rcases ho with rfl | rfl | rfl
  all_goals
   simp only[mem_singleton]at hx;subst hx
   simp only[PV.cells,mem_singleton]at hc;subst hc;rfl
 ·refine⟨by simp,λo ho x hx c hc=>?_⟩
  simp only[mem_cons,not_mem_nil,or_false]at ho
  rcases ho with rfl | rfl | rfl | rfl | rfl
  ·simp only[mem_singleton]at hx;subst hx
   simp only[PV.cells,mem_singleton]at hc;subst hc;rfl
  ·simp only[mem_singleton]at hx;subst hx
   simp only[PV.cells,mem_singleton]at hc;subst hc;rfl
  ·simp only[mem_singleton]at hx;subst hx
   simp only[PV.cells,mem_singleton]at hc;subst hc;rfl
  ·obtain⟨y,_,rfl⟩:=List.mem_map.1 hx
   simp only[PV.cells,mem_singleton]at hc;subst hc;rfl
  ·obtain⟨y,_,rfl⟩:=List.mem_map.1 hx
   simp only[ak,PV.cells,mem_singleton]at hc;subst hc;rfl
theorem qm{objs:List Obj}{k:Nat}{v:Vl}(h:objs[k]?=some (K_ v 0)):fB 1 0 objs (.aW k 0)=ak v:=by
 simp only[fB,Nat.not_lt_zero,if_false,kr,h,Nat.zero_le,decide_true,Bool.true_and,beq_self_eq_true,if_true,K_]
 rw[N9 aM λ_=>rfl];rfl
theorem I_(v:Vl)(nm:List UInt8)(hr:Rt v)(hk:bD v=6)(hl:v.length≤1000000):av Tryz.prog 57 [ak v,.str nm] [] (ak (dY v nm)) []:=by
 obtain⟨ps,hP,YQ,hpl,hnm,hgv⟩:=qV v hr hl
 obtain⟨n,r,hv,_⟩:=b_ hr.name hr.one.ne
 obtain⟨p1,p2,p3,p4⟩:=d9 hr
 have NF:n.kind=6:=by rw[hv]at hk;exact hk
 have hN:aS v=ps.map nameOf:=by
  rcases hnm with h | ⟨n',r',h1,h2⟩
  ·exact h
  ·rw[hv]at h1;cases h1;exact absurd NF h2
 have Rs:jq v=ps.map λp=>(nameOf p,gX p):=by rw[jq,hN,hP,xX]
 obtain⟨hq,_,_,hP2⟩:=gV hr hk
 obtain⟨q,hqe⟩:∃q,q=jq v:=⟨_,rfl⟩
 rw[←hqe]at Rs hq hP2
 rw[hP2]at p3
 have MK:q.length=ps.length:=by rw[Rs,length_map]
 have aaS:Qa ((jL q nm).map (·.1)) ((jL q nm).map (·.2))=dY v nm:=by rw[JM,dY,hqe]
 refine EY.cZ (T:=bH Tryz.prog [(80,jH),(78,oq)]) 1 hD (ax (af o8 (af Bn au))) bM (by decide) λQ hQ=>?_
 (conv=>arg 4;cbv);simp (maxSteps:=400000) only[↓aI,aJ,BEq.rfl,seval,hQ,↓jH]
 refine wW 107 [.addr (ak v)] (ps.map rowOf) (λi O=>aaR nm (jL (q.take i) nm) O∧i≤ps.length) rfl rfl rfl trivial hgv (vE ps) ⟨.inl ⟨by simp[jL],rfl⟩,Nat.zero_le _⟩ (λi O h=>V_ h.1) ?_ ?_
 ·rintro i args O ⟨hO,hi⟩ ha
  obtain⟨p,hpi,rfl⟩:=vF ha
  have hil:=(List.getElem?_eq_some_iff.1 hpi).1
  have hqi:q[i]?=some (nameOf p,gX p):=by rw[Rs,List.getElem?_map,hpi];rfl
  have hdt:=Rv hqi nm
  have hkl:(jL (q.take i) nm).length≤i:=by have:=(D6 (q.take i) nm).1;rw[List.length_take]at this;omega
  generalize jL (q.take i) nm=kept at *
  rcases tf (nameOf p=nm) with he | he
  ·rw[if_pos (of_eq_true he),List.append_nil]at hdt
   rcases hO with ⟨rfl,rfl⟩ | ⟨h1,v1,v2,rfl⟩
   ·simp (maxSteps:=400000) only[↓aI,aJ,BEq.rfl,seval,hQ,iI,Sn,he]
    exact⟨.inl ⟨hdt,rfl⟩,by omega⟩
   ·simp (maxSteps:=400000) only[↓aI,aJ,BEq.rfl,seval,hQ,iI,Sn,he]
    exact⟨.inr ⟨by rw[hdt];exact h1,v1,v2,by rw[hdt];rfl⟩,by omega⟩
  ·rw[if_neg (of_eq_false he)]at hdt
   rcases hO with ⟨rfl,rfl⟩ | ⟨h1,v1,v2,rfl⟩
   ·simp (maxSteps:=400000) only[↓aI,aJ,BEq.rfl,seval,hQ,iI,Sn,he]
    exact⟨by decide,.inr ⟨by rw[hdt];simp,1,1,by rw[hdt];rfl⟩,by omega⟩
   ·simp (maxSteps:=400000) only[↓aI,aJ,BEq.rfl,seval,hQ,iI,Sn,he]
    exact⟨by omega,by omega,by omega,by omega,by decide,.inr ⟨by rw[hdt];simp,v1+1,v2+1,by rw[hdt];simp only[map_append,List.map_cons,List.map_nil];rfl⟩,by omega⟩
 ·rintro O ⟨hO,_⟩
  rw[length_map,List.take_of_length_le (by omega)]at hO
  have hd:=D6 q nm
  have hne:∀p∈(jL q nm).map (·.2),p≠[]:=λp hp=>by
   obtain⟨x,hx,rfl⟩:=List.mem_map.1 hp
   exact (hq.rt x (xY.1 hx).1).one.ne
  rcases hO with ⟨h1,rfl⟩ | ⟨h1,v1,v2,rfl⟩
  ·simp (maxSteps:=400000) only[↓aI,aJ,BEq.rfl,seval,hQ,↓oq,Rp,La]
   exact⟨by simp,by simp,by rw[←aaS,h1];exact (qm rfl).symm⟩
  ·simp (maxSteps:=400000) only[↓aI,aJ,BEq.rfl,seval,hQ,↓oq,Rp,La]
   exact⟨by omega,by omega,hne,by rw[aaS];exact (qm rfl).symm⟩
def lM:fu:=λargs objs K=>match args with
 | [a0,.str nm]=>jF ak a0 (HK.mk:HK λv=>(Rt v)∧(bD v=6)∧(v.length≤1000000)∧K (ak (dY v nm)) objs 0)
 | _=>False
theorem wI:aQ Tryz.prog 57 (lM):=by
 intro args objs K h
 unfold lM at h
 split at h
 ·rename_i a0 nm
  obtain⟨v,rfl,h1,h2,h3,hk⟩:=h
  exact⟨_,_,_,.pure _ rfl (I_ v nm h1 h2 h3),hk⟩
 ·exact h.elim
def Cc:fu:=λargs objs K=>match args with
 | [.aW k ver,.int .i64 i,.aW k2 D8]=>∃o,objs[k]?=some o∧o.live=true∧o.ver=ver∧o.sz=1∧o.ty=9∧MF .str o.xs (HK.mk:HK λl=>∃o2,objs[k2]?=some o2∧o2.live=true∧o2.ver=D8∧o2.sz=1∧¬ k2=k∧MF .str o2.xs (HK.mk:HK λfs=>∃f,fs=[f]∧
     0≤i∧i.toNat≤l.length∧l.length≤1000000∧K (.aW k (ver+1)) (objs.set k ⟨9,1,(l.take i.toNat++[f]++l.drop i.toNat).map .str,true,ver+1⟩) 2))
 | _=>False
def vJ:fu:=λargs objs K=>match args with
 | [.aW k ver,.int .i64 i,.aW k2 D8]=>∃o,objs[k]?=some o∧o.live=true∧o.ver=ver∧o.sz=1∧o.ty=23∧MF ak o.xs (HK.mk:HK λl=>∃o2,objs[k2]?=some o2∧o2.live=true∧o2.ver=D8∧o2.sz=1∧¬ k2=k∧MF ak o2.xs (HK.mk:HK λfs=>∃f,fs=[f]∧
     0≤i∧i.toNat≤l.length∧l.length≤1000000∧K (.aW k (ver+1)) (objs.set k ⟨23,1,(l.take i.toNat++[f]++l.drop i.toNat).map ak,true,ver+1⟩) 2))
 | _=>False
theorem Ol:aQ Tryz.prog 79 Cc:=by
 intro args objs K h
 unfold Cc at h
 split at h
 ·rename_i k ver i k2 D8
  obtain⟨o,h1,h2,h3,h4,h5,l,h6,o2,g1,g2,g3,g4,hkk,fs,g5,f,rfl,h7,h8,h9,h10⟩:=h
  obtain⟨n,rfl⟩:∃n:Nat,i=n:=⟨i.toNat,by omega⟩
  rw[Int.toNat_natCast]at h8 h10
  obtain⟨ty,sz,xs,live,vr⟩:=o
  simp only[]at h2 h3 h4 h5 h6
  subst h2;subst h3;subst h4;subst h5;subst h6
  have hu:=Lx (x:=.str f) (i:=n) (ti:=D 9) (by':=16) aaK LB LB (hD _) (by intro h;cases h) rfl rfl rfl rfl h1 rfl rfl g1 g2 g3 g4 g5 hkk (λy hy=>by obtain⟨s,_,rfl⟩:=List.mem_map.1 hy;exact⟨rfl,rfl⟩) ⟨rfl,rfl⟩ (by simpa using h8) (by rw[length_map];omega) (by rw[length_map];omega)
  refine⟨_,_,_,.used _ _ hu,?_⟩
  have e:(l.map PV.str).take n++[.str f]++(l.map PV.str).drop n=(l.take n++[f]++l.drop n).map .str:=by simp
  rw[e]
  exact h10
 ·exact h.elim
theorem D_:aQ Tryz.prog 54 vJ:=by
 intro args objs K h
 unfold vJ at h
 split at h
 ·rename_i k ver i k2 D8
  obtain⟨o,h1,h2,h3,h4,h5,l,h6,o2,g1,g2,g3,g4,hkk,fs,g5,f,rfl,h7,h8,h9,h10⟩:=h
  obtain⟨n,rfl⟩:∃n:Nat,i=n:=⟨i.toNat,by omega⟩
  rw[Int.toNat_natCast]at h8 h10
  obtain⟨ty,sz,xs,live,vr⟩:=o
  simp only[]at h2 h3 h4 h5 h6
  subst h2;subst h3;subst h4;subst h5;subst h6
  have hu:=Lx (x:=ak f) (i:=n) (ti:=D 23) (by':=24) aaN D9 D9 (hD _) (by intro h;cases h) rfl rfl rfl rfl h1 rfl rfl g1 g2 g3 g4 g5 hkk (λy hy=>by obtain⟨s,_,rfl⟩:=List.mem_map.1 hy;exact⟨rfl,rfl⟩) ⟨rfl,rfl⟩ (by simpa using h8) (by rw[length_map];omega) (by rw[length_map];omega)
  refine⟨_,_,_,.used _ _ hu,?_⟩
  have e:(l.map ak).take n++[ak f]++(l.map ak).drop n=(l.take n++[f]++l.drop n).map ak:=by simp
  rw[e]
  exact h10
 ·exact h.elim
theorem YV:(∀(K:List (List UInt8)→Prop) a,MF .str [.str a] (HK.mk:HK K)=K [a])∧(∀(K:List Vl→Prop) a,MF ak [ak a] (HK.mk:HK K)=K [a]):=⟨λK a=>IX str_inj K [a],λK a=>IX kP K [a]⟩
theorem Ry(v:Vl)(nm:List UInt8)(x:Vl)(hr:Rt v)(hk:bD v=6)(hl:v.length≤100000)(hu:utf nm=true)(hx:Rt x)(hxl:x.length≤100000):av Tryz.prog 51 [ak v,.str nm,ak x] [] (ak (ql v nm x)) []:=by
 refine Nz.cZ (T:=bH Tryz.prog [(57,lM),(76,vI),(52,gH),(77,rz),(79,Cc),(54,vJ),(78,oq)]) 1 hD (ax (af wI (af I9 (af rC (af Fu (af Ol (af D_ (af Bn au)))))))) bM (by decide) λQ hQ=>?_
 obtain⟨h1,h2,h3,h4⟩:=xE nm hr hk
 obtain⟨hq,hmk,hN,hP⟩:=gV h1 h2
 obtain⟨p1,p2,p3,p4⟩:=d9 h1
 rw[h4]at hq hN hP
 have hput:=O5 hq (Hq _ nm) hu hx
 rw[hN]at p2;rw[hP]at p1 p3
 have hlb:=PN ((jL (jq v) nm).map (·.1)) nm
 rw[length_map]at p1 p2 hlb
 have hsp:=D7 nm x (jL (jq v) nm)
 have hw:ql v nm x=JL (oH nm x (jL (jq v) nm)):=rfl
 have hris:=hq.rise
 generalize jL (jq v) nm=q at *
 generalize hlo:si (q.map (·.1)) nm=k at *
 (conv=>arg 4;cbv);simp (maxSteps:=400000) only[↓aI,aJ,BEq.rfl,seval,hQ,↓lM,↓vI,↓gH,hN,hP,VZ,IG,↓rz,Rp,La,hlo,↓Cc,↓vJ,↓oq,bL,YV]
 have e1:(q.map (·.1)).take k++[nm]++(q.map (·.1)).drop k=(oH nm x q).map (·.1):=by rw[hsp];simp
 have e2:(q.map (·.2)).take k++[x]++(q.map (·.2)).drop k=(oH nm x q).map (·.2):=by rw[hsp];simp
 have hfl:((oH nm x q).map (·.2)).flatten.length≤1000000:=by
  have:=zK ((uP nm x q).map (·.2))
  rw[this]
  simp only[List.map_cons,List.flatten_cons,List.length_append]
  omega
 have hne:∀p∈(oH nm x q).map (·.2),p≠[]:=λp hp=>by
  obtain⟨y,hy,rfl⟩:=List.mem_map.1 hp
  exact (hput.rt y hy).one.ne
 refine⟨hr,hk,by omega,h1,h2,by omega,h1,by omega,hris,by omega,nm,rfl,by omega,by omega,by omega,x,rfl,by omega,by omega,by omega,by simp,by simp;omega,?_,?_,?_⟩
 ·rw[e2];exact hfl
 ·rw[e2];exact hne
 ·rw[e1,e2,JM,hw];exact (qm rfl).symm
def lN:fu:=λargs objs K=>match args with
 | [a0,.str nm,a2]=>jF ak a0 (HK.mk:HK λv=>jF ak a2 (HK.mk:HK λx=>(Rt v)∧(bD v=6)∧(v.length≤100000)∧(utf nm=true)∧(Rt x)∧(x.length≤100000)∧K (ak (ql v nm x)) objs 0))
 | _=>False
theorem wJ:aQ Tryz.prog 51 (lN):=by
 intro args objs K h
 unfold lN at h
 split at h
 ·rename_i a0 nm a2
  obtain⟨v,rfl,x,rfl,h1,h2,h3,h4,h5,h6,hk⟩:=h
  exact⟨_,_,_,.pure _ rfl (Ry v nm x h1 h2 h3 h4 h5 h6),hk⟩
 ·exact h.elim
end Lp
namespace Lp
open Go Go.Proofs
def wK(l:List Vl):List (List PV):=(List.range l.length).map λj=>[.int .i64 ((l.length-1-j:Nat):Int),ak (l.getD (l.length-1-j) [])]
theorem nJ(l:List Vl):(wK l).length=l.length:=by simp[wK]
theorem Aq(l:List Vl):∀y∈wK l,y.length=2:=by
 intro y hy
 obtain⟨j,_,rfl⟩:=List.mem_map.1 hy
 rfl
theorem GV{l:List Vl}{j:Nat}(h:j<l.length):(wK l)[j]?=some [.int .i64 ((l.length-1-j:Nat):Int),ak (l.getD (l.length-1-j) [])]:=by
 simp only[wK,List.getElem?_map,List.getElem?_range h,Option.map_some]
theorem Ea{l:List Vl}{j:Nat}{args:List PV}(h:(wK l)[j]?=some args):j<l.length∧args=[.int .i64 ((l.length-1-j:Nat):Int),ak (l.getD (l.length-1-j) [])]:=by
 have hj:j<l.length:=by rw[←nJ l];exact (List.getElem?_eq_some_iff.1 h).1
 rw[GV hj]at h
 exact⟨hj,(Option.some.inj h).symm⟩
theorem Fv(l:List Vl):av Tryz.prog 95 [dV l] [] (.fn 120 [] [.addr (dV l)]) []:=by
 refine jv.cZ (T:=bH Tryz.prog []) 1 hD (ax au) bM (by decide) λQ hQ=>?_
 (conv=>arg 4;cbv);simp (maxSteps:=400000) only[↓aA,aB,BEq.rfl,seval,hQ]
 rfl
def fM:fu:=λargs objs K=>match args with
 | [a0]=>jF dV a0 (HK.mk:HK λl=>K (.fn 120 [] [.addr (dV l)]) objs 0)
 | _=>False
theorem uq:aQ Tryz.prog 95 (fM):=by
 intro args objs K h
 unfold fM at h
 split at h
 ·rename_i a0
  obtain⟨l,rfl,hk⟩:=h
  exact⟨_,_,_,.pure _ rfl (Fv l),hk⟩
 ·exact h.elim
theorem mG(l:List Vl)(hl:l.length≤1000000):Gives Tryz.prog 120 [.addr (dV l)] (wK l):=by
 refine iT.gives (fnT:=jR []) hD au bM ?_
 intro I J objs y hI g_ iE
 (conv=>arg 4;cbv);simp (maxSteps:=400000) only[↓aA,aB,BEq.rfl,seval]
 refine⟨⟨by omega,by omega⟩,?_⟩
 refine bA (λm S=>∃(i:Nat) (j:Int) (O:List Obj),i+m=l.length∧j=(l.length:Int)-1-i∧I i O∧S=⟨dR 19 [(0,.oF y),(1,.addr (dV l)),(3,.int .i64 j)],O⟩) l.length ⟨0,_,objs,by omega,rfl,hI,?_⟩ ?_
 ·simp only[dX,keepR,Nat.reduceAdd,tK,Nat.reduceBEq,List.map_nil]
  simp
 rintro m S ⟨i,j,O,him,hj,hIi,rfl⟩
 rcases Nat.lt_or_ge i l.length with h | h
 ·have h1:(0≤j)=True:=eq_true (by omega)
  have h3:j.toNat=l.length-1-i:=by omega
  have h4:l[l.length-1-i]?=some (l.getD (l.length-1-i) []):=by
   rw[List.getElem?_eq_getElem (by omega),List.getD_eq_getElem?_getD,List.getElem?_eq_getElem (by omega)];rfl
  have h5:=GV h
  generalize hv:l.getD (l.length-1-i) []=v at h4 h5
  simp (maxSteps:=400000) only[↓aA,aB,BEq.rfl,seval,h1,h3,h4,EI]
  rw[show ((l.length-1-i:Nat):Int)=j by omega]at h5
  refine⟨rfl,i,hIi,h5,λO' hI'=>?_,λO' hJ'=>⟨.inr rfl,.inr ⟨i,by rw[nJ];exact h,hJ'⟩⟩⟩
  exact⟨⟨by omega,by omega⟩,m-1,by omega,i+1,_,O',by omega,by omega,hI',rfl⟩
 ·have h1:(0≤j)=False:=eq_false (by omega)
  simp (maxSteps:=400000) only[↓aA,aB,BEq.rfl,seval,h1]
  exact⟨.inl rfl,.inl (by rw[nJ,show l.length=i by omega];exact hIi)⟩
end Lp
namespace Lp
open Go
def kS(x:Vl):List Vl→List Int→List Int
 | [],_=>[0]
 | y::ys,nx=>(if x=y then nx.getD 1 0+1 else max (nx.getD 0 0) ((kS x ys nx.tail).getD 0 0))::kS x ys nx.tail
def dm:List Vl→List Vl→List (List Int)
 | [],now=>[List.replicate (now.length+1) 0]
 | x::xs,now=>kS x now ((dm xs now).headD [])::dm xs now
theorem ou(x:Vl):∀(now:List Vl) (nx:List Int),(kS x now nx).length=now.length+1
 | [],_=>rfl
 | y::ys,nx=>by simp[kS,ou x ys]
theorem rD:∀old now:List Vl,(dm old now).length=old.length+1
 | [],_=>rfl
 | x::xs,now=>by simp[dm,rD xs]
theorem Bo:∀old now:List Vl,∃r rs,dm old now=r::rs∧r.length=now.length+1
 | [],now=>⟨_,_,rfl,by simp⟩
 | x::xs,now=>⟨_,_,rfl,ou ..⟩
theorem xG:∀(old now:List Vl) (r:List Int),r∈dm old now→r.length=now.length+1
 | [],now,r,h=>by simp[dm]at h;subst h;simp
 | x::xs,now,r,h=>by
  simp only[dm,List.mem_cons]at h
  rcases h with rfl | h
  ·exact ou ..
  ·exact xG xs now r h
theorem pq:∀(old now:List Vl) (i:Nat),i≤old.length→(dm old now).drop i=dm (old.drop i) now
 | [],now,i,h=>by simp at h;subst h;rfl
 | x::xs,now,0,h=>rfl
 | x::xs,now,i+1,h=>by
  simp only[List.length_cons]at h
  simp only[dm,List.drop_succ_cons]
  exact pq xs now i (by omega)
def Le(b:Int)(l:List Int):Prop:=∀x∈l,0≤x∧x≤b
theorem Le.getD {b:Int}{l:List Int}(h:Le b l)(hb:0≤b)(i:Nat):0≤l.getD i 0∧l.getD i 0≤b:=by
 rw[List.getD_eq_getElem?_getD]
 cases hx:l[i]? with
 | none=>exact⟨Int.le_refl _,hb⟩
 | some x=>exact h x (List.mem_of_getElem? hx)
theorem Ar(x:Vl){b:Int}(hb:0≤b):∀(now:List Vl) (nx:List Int),Le b nx→Le (b+1) (kS x now nx)
 | [],_,_=>by intro z hz;simp[kS]at hz;subst hz;omega
 | y::ys,nx,h=>by
  have ht:Le b nx.tail:=λz hz=>h z (List.mem_of_mem_tail hz)
  have hr:=Ar x hb ys nx.tail ht
  intro z hz
  simp only[kS,List.mem_cons]at hz
  rcases hz with rfl | hz
  ·have h0:=h.getD hb 0
   have h1:=h.getD hb 1
   have h2:=hr.getD (by omega) 0
   split<;>omega
  ·exact hr z hz
theorem Au:∀(old now:List Vl) (r:List Int),r∈dm old now→Le old.length r
 | [],now,r,h=>by
  simp only[dm,List.mem_singleton]at h
  subst h
  intro z hz
  rw[List.mem_replicate]at hz
  simp[hz.2]
 | x::xs,now,r,h=>by
  simp only[dm,List.mem_cons]at h
  rcases h with rfl | h
  ·obtain⟨r0,rs,e,_⟩:=Bo xs now
   have h0:=Au xs now r0 (by rw[e];exact List.mem_cons_self ..)
   rw[e]
   have:=Ar x (Int.natCast_nonneg xs.length) now r0 h0
   intro z hz
   have:=this z hz
   simp only[List.length_cons]
   omega
  ·intro z hz
   have:=Au xs now r h z hz
   simp only[List.length_cons]
   omega
def sj:Nat→List Int→Nat→Nat→Nat→List Int
 | 0,out,_,_,_=>out
 | m+1,out,i,k,a=>if i<a then sj m (out.set k i) (i+1) (k+1) a else out
theorem zb:∀(m:Nat) (out:List Int) (i k a:Nat),(sj m out i k a).length=out.length
 | 0,_,_,_,_=>rfl
 | m+1,out,i,k,a=>by
  simp only[sj]
  split
  ·rw[zb m];simp
  ·rfl
def GX(t:List (List Int))(a b:Nat):Int:=(t.getD a []).getD b 0
def l9(old now:List Vl):Nat→Nat→Nat→Nat→Nat→List Int→List Int×Nat×Nat
 | 0,_,_,i,k,R=>(R,i,k)
 | f+1,a,b,i,k,R=>
  if a<old.length∧b<now.length then
   if old.getD a []=now.getD b [] then l9 old now f (a+1) (b+1) (a+1) (b+1) ((sj (b-k) R i k a).set b a)
   else if GX (dm old now) a (b+1)≤GX (dm old now) (a+1) b then l9 old now f (a+1) b i k R
   else l9 old now f a (b+1) i k R
  else (R,i,k)
theorem vK{old now:List Vl}:∀(f g:Nat){a b i k:Nat}{R:List Int},(old.length-a)+(now.length-b)≤f→(old.length-a)+(now.length-b)≤g→l9 old now f a b i k R=l9 old now g a b i k R
 | 0,0,a,b,i,k,R,_,_=>rfl
 | 0,g+1,a,b,i,k,R,h,_=>by rw[l9,l9,if_neg (by omega)]
 | f+1,0,a,b,i,k,R,_,h=>by rw[l9,l9,if_neg (by omega)]
 | f+1,g+1,a,b,i,k,R,h1,h2=>by
  rw[l9,l9]
  split
  ·split
   ·exact vK f g (by omega) (by omega)
   ·split
    ·exact vK f g (by omega) (by omega)
    ·exact vK f g (by omega) (by omega)
  ·rfl
def ow(old now:List Vl):List Int:=
 match l9 old now (old.length+now.length) 0 0 0 0 (List.replicate now.length (-1)) with
 | (R,i,k)=>sj (now.length-k) R i k old.length
theorem ze{old now:List Vl}:∀(f a b i k:Nat) (R:List Int),(l9 old now f a b i k R).1.length=R.length
 | 0,_,_,_,_,_=>rfl
 | f+1,a,b,i,k,R=>by
  rw[l9]
  split
  ·split
   ·rw[ze f,List.length_set,zb]
   ·split
    ·exact ze f ..
    ·exact ze f ..
  ·rfl
theorem GY(old now:List Vl):(ow old now).length=now.length:=by
 have h:=ze (old:=old) (now:=now) (old.length+now.length) 0 0 0 0 (List.replicate now.length (-1))
 rw[ow]
 generalize l9 old now (old.length+now.length) 0 0 0 0 (List.replicate now.length (-1))=x at h
 obtain⟨R,i,k⟩:=x
 show (sj _ R i k _).length=_
 rw[zb]
 simpa using h
def XO(n:Nat)(R:List Int):Prop:=∀z∈R,-1≤z∧z<n
theorem XO.set {n:Nat}{R:List Int}(h:XO n R){k i:Nat}(hi:i<n):XO n (R.set k i):=λz hz=>by
 rcases List.mem_or_eq_of_mem_set hz with h1 | h1
 ·exact h z h1
 ·subst h1;omega
theorem Ja{n:Nat}:∀(m:Nat){R:List Int}(i k:Nat){a:Nat},XO n R→a≤n→XO n (sj m R i k a)
 | 0,_,_,_,_,h,_=>h
 | m+1,R,i,k,a,h,ha=>by
  rw[sj]
  split
  ·exact Ja m _ _ (h.set (by omega)) ha
  ·exact h
theorem Ce{old now:List Vl}:∀(f a b i k:Nat){R:List Int},XO old.length R→XO old.length (l9 old now f a b i k R).1
 | 0,_,_,_,_,_,h=>h
 | f+1,a,b,i,k,R,h=>by
  rw[l9]
  split
  ·rename_i hab
   split
   ·exact Ce f _ _ _ _ ((Ja _ _ _ h (by omega)).set (by omega))
   ·split
    ·exact Ce f _ _ _ _ h
    ·exact Ce f _ _ _ _ h
  ·exact h
theorem LD(old now:List Vl):XO old.length (ow old now):=by
 have h:=Ce (old:=old) (now:=now) (old.length+now.length) 0 0 0 0 (R:=List.replicate now.length (-1)) λz hz=>by
  rw[(List.mem_replicate.1 hz).2];omega
 rw[ow]
 generalize l9 old now (old.length+now.length) 0 0 0 0 (List.replicate now.length (-1))=x at h
 obtain⟨R,i,k⟩:=x
 exact Ja _ _ _ h (Nat.le_refl _)
end Lp
namespace Lp
open Go Go.Proofs
open List (length_drop length_replicate map_nil map_set mem_singleton replicate_succ')
open Nat (sub_self zero_le)
theorem Eb:(∀z xs q v,(PV.sl z xs q).putCells 0 [v]=v)∧(∀k u v,(PV.aW k u).putCells 0 [v]=v)∧(∀k n v,(PV.int k n).putCells 0 [v]=v):=⟨λ_ _ _ _=>rfl,λ_ _ _=>rfl,λ_ _ _=>rfl⟩
theorem aaT{d n k v i f:Nat}{O:List Obj}(h:k<n):fB d n O (.aT k v i f)=.aT k v i f:=by simp only[fB,if_pos h]
theorem aaU{d n k v:Nat}{O:List Obj}(h:k<n):fB d n O (.aW k v)=.aW k v:=by simp only[fB,if_pos h]
theorem Wd{U:List PV}(hU:∀x∈U,∃z xs q,x=.sl z xs q)(p:Nat){n k v:Nat}{row:List Int}{O:List Obj}{ty:TypeId}(hk:n≤k)(ho:O[k]?=some ⟨ty,1,row.map (.int .i64),true,v⟩) :
  (U.set p (.aW k v)).map (PV.bI (fB 1 n O))=U.set p (encI row):=by
 rw[map_set]
 have h1:U.map (PV.bI (fB 1 n O))=U:=by
  conv=>rhs;rw[←List.map_id U]
  refine List.map_congr_left λx hx=>?_
  obtain⟨z,xs,q,rfl⟩:=hU x hx
  rfl
 have h2:PV.bI (fB 1 n O) (.aW k v)=encI row:=by
  show fB 1 n O (.aW k v)=_
  simp only[fB,if_neg (Nat.not_lt.2 hk),kr,ho,hk,decide_true,Bool.and_self,BEq.rfl,if_true,List.map_map]
  unfold encI
  congr 1
 rw[h1,h2]
theorem LF{U:List PV}(hU:∀x∈U,∃z xs q,x=.sl z xs q)(p:Nat){n k v:Nat}{row:List Int}{O:List Obj}{ty:TypeId}(hk:n≤k)(ho:O[k]?=some ⟨ty,1,row.map (.int .i64),true,v⟩)(a b:Nat) :
  eO 1 n O ⟨a,b,U.set p (.aW k v),true,1⟩=⟨a,b,U.set p (encI row),true,1⟩:=by
 simp only[eO,Wd hU p hk ho]
theorem Um{d n:Nat}{O:List Obj}(t:TypeId)(l:List Vl):eO d n O ⟨t,1,[dV l],true,1⟩=⟨t,1,[dV l],true,1⟩:=rfl
theorem PS{d n k v:Nat}{O:List Obj}(t:TypeId)(h:k<n):eO d n O ⟨t,1,[.aW k v],true,1⟩=⟨t,1,[.aW k v],true,1⟩:=by
 simp only[eO,List.map_cons,map_nil,PV.bI,fB,if_pos h]
theorem PU(n:Nat):∀x∈List.replicate n (PV.sl 0 [] (some true)),∃z xs q,x=PV.sl z xs q:=λx hx=>⟨_,_,_,(List.mem_replicate.1 hx).2⟩
def rE(old now:List Vl)(N i:Nat):List PV:=List.replicate (N-(i+1)) (.sl 0 [] (some true))++((dm old now).drop (N-(i+1))).map encI
def Un(U:List PV)(now:List Vl):List Obj:=[⟨64,1,[dV now],true,1⟩,⟨80,1,U,true,1⟩,⟨114,1,[.aW 1 1],true,1⟩]
theorem PX(old now:List Vl)(N i:Nat):∀x∈rE old now N i,∃z xs q,x=PV.sl z xs q:=by
 intro x hx
 rcases List.mem_append.1 hx with h | h
 ·exact PU _ x h
 ·obtain⟨r,_,rfl⟩:=List.mem_map.1 h
  exact⟨_,_,_,rfl⟩
theorem Wh{U:List PV}(now:List Vl)(h:∀x∈U,∃z xs q,x=PV.sl z xs q):bq (Un U now):=by
 intro o ho x hx c hc
 simp only[Un,List.mem_cons,List.not_mem_nil,or_false]at ho
 rcases ho with rfl | rfl | rfl
 ·simp only[mem_singleton]at hx;subst hx
  simp only[dV,PV.cells,mem_singleton]at hc;subst hc;rfl
 ·obtain⟨z,xs,q,rfl⟩:=h x hx
  simp only[PV.cells,mem_singleton]at hc;subst hc;rfl
 ·simp only[mem_singleton]at hx;subst hx
  simp only[PV.cells,mem_singleton]at hc;subst hc;rfl
def su(x:Vl)(now:List Vl)(nx:List Int)(q:Nat):List Int:=List.replicate q 0++kS x (now.drop q) (nx.drop q)
theorem Uo(x:Vl)(now:List Vl)(nx:List Int){q:Nat}(h:q≤now.length):(su x now nx q).length=now.length+1:=by
 simp only[su,List.length_append,length_replicate,ou,length_drop];omega
theorem Uq(x:Vl)(now:List Vl)(nx:List Int):su x now nx now.length=List.replicate (now.length+1) 0:=by
 simp only[su,List.drop_length,kS]
 rw[replicate_succ']
theorem Rz(x y:Vl){now:List Vl}{nx:List Int}{q:Nat}(hy:now[q]?=some y){b:Int}(hb:0≤b)(hn:Le b nx):∃c,(su x now nx (q+1))[q]?=some 0∧(su x now nx (q+1))[q+1]?=some c∧0≤c∧c≤b+1∧
  (su x now nx (q+1)).set q (if x=y then nx.getD (q+1) 0+1 else max (nx.getD q 0) c)=su x now nx q:=by
 have hq:q<now.length:=(List.getElem?_eq_some_iff.1 hy).1
 have hd:now.drop q=y::now.drop (q+1):=by
  rw[List.drop_eq_getElem_cons hq,(List.getElem?_eq_some_iff.1 hy).2]
 have hr:(kS x (now.drop (q+1)) (nx.drop (q+1))).length=now.length-q:=by
  rw[ou,length_drop];omega
 have hle:=Ar x hb (now.drop (q+1)) (nx.drop (q+1)) λz hz=>hn z (List.mem_of_mem_drop hz)
 have hc:=hle.getD (by omega) 0
 refine⟨(kS x (now.drop (q+1)) (nx.drop (q+1))).getD 0 0,?_,?_,hc.1,hc.2,?_⟩
 ·rw[su,List.getElem?_append_left (by simp),List.getElem?_replicate,if_pos (by omega)]
 ·rw[su,List.getElem?_append_right (by simp),length_replicate,sub_self,List.getD_eq_getElem?_getD,List.getElem?_eq_getElem (by omega)];rfl
 ·have e1:(nx.drop q).getD 1 0=nx.getD (q+1) 0:=by simp[List.getD_eq_getElem?_getD]
  have e0:(nx.drop q).getD 0 0=nx.getD q 0:=by simp[List.getD_eq_getElem?_getD]
  have et:(nx.drop q).tail=nx.drop (q+1):=by rw[List.tail_drop]
  rw[su,su,hd,kS,e1,e0,et,replicate_succ',List.append_assoc,List.set_append_right _ _ (by simp),length_replicate,sub_self]
  rfl
def Fw(W:List PV)(now:List Vl)(p:Int)(x:Vl)(R:List Int):List Obj:=[⟨64,1,[dV now],true,1⟩,⟨80,1,W,true,1⟩,⟨114,1,[.aW 1 1],true,1⟩,⟨3,1,[.int .i64 p],true,1⟩,⟨23,1,[ak x],true,1⟩,⟨3,1,R.map (.int .i64),true,1⟩]
theorem aaV(l:List (FuncId×fu))(n m:Nat):((((bH Tryz.prog l).inner n).inner m).fn=jR l)∧((((bH Tryz.prog l).inner n).inner m).Nb.fn=jR l)∧((((bH Tryz.prog l).inner n).inner m).nx=m):=⟨rfl,rfl,rfl⟩
theorem Ur(old now:List Vl){i:Nat}(hi:i≤old.length):(rE old now (old.length+1) i).length=old.length+1:=by
 simp only[rE,List.length_append,length_replicate,List.length_map,length_drop,rD];omega
theorem RA(old now:List Vl):rE old now (old.length+1) 0=(List.replicate (old.length+1) (PV.sl 0 [] (some true))).set old.length (encI (List.replicate (now.length+1) 0)):=by
 rw[rE,show old.length+1-(0+1)=old.length by omega,pq _ _ _ (Nat.le_refl _),List.drop_length,replicate_succ',List.set_append_right _ _ (by simp),length_replicate,sub_self]
 rfl
theorem Us(old now:List Vl):rE old now (old.length+1) old.length=(dm old now).map encI:=by
 rw[rE,sub_self];rfl
theorem RB(old now:List Vl){i p:Nat}(hi:i<old.length)(hp:p=old.length-1-i):(rE old now (old.length+1) i)[p]?=some (.sl 0 [] (some true))∧∃nx,(rE old now (old.length+1) i)[p+1]?=some (encI nx)∧nx.length=now.length+1∧Le old.length nx∧
  (rE old now (old.length+1) i).set p (encI (su (old.getD p []) now nx 0))=rE old now (old.length+1) (i+1):=by
 have h1:old.length+1-(i+1)=p+1:=by omega
 have h2:old.length+1-(i+1+1)=p:=by omega
 obtain⟨nx,rs,e,hl⟩:=Bo (old.drop (p+1)) now
 have e':(dm old now).drop (p+1)=nx::rs:=by rw[pq _ _ _ (by omega),e]
 have hm:nx∈dm old now:=List.mem_of_mem_drop (by rw[e'];exact List.mem_cons_self ..)
 have hx:old.drop p=old.getD p []::old.drop (p+1):=by
  rw[List.drop_eq_getElem_cons (by omega),List.getD_eq_getElem?_getD,List.getElem?_eq_getElem (by omega)];rfl
 have e2:(dm old now).drop p=kS (old.getD p []) now nx::nx::rs:=by
  rw[pq _ _ _ (by omega),hx,dm,e];rfl
 refine⟨?_,nx,?_,hl,Au _ _ _ hm,?_⟩
 ·rw[rE,h1,List.getElem?_append_left (by simp),List.getElem?_replicate,if_pos (by omega)]
 ·rw[rE,h1,e',List.getElem?_append_right (by simp),length_replicate,sub_self];rfl
 ·rw[rE,rE,h1,h2,e',e2,replicate_succ',List.append_assoc,List.set_append_right _ _ (by simp),length_replicate,sub_self]
  simp only[su,List.drop_zero,List.replicate_zero,List.nil_append,List.map_cons]
  rfl
theorem Wi{W:List PV}(now:List Vl)(p:Int)(x:Vl)(R:List Int)(h:∀y∈W,(∃z xs q,y=PV.sl z xs q)∨y=.aW 5 1):bq (Fw W now p x R):=by
 intro o ho y hy c hc
 simp only[Fw,List.mem_cons,List.not_mem_nil,or_false]at ho
 rcases ho with rfl | rfl | rfl | rfl | rfl | rfl
 ·simp only[mem_singleton]at hy;subst hy
  simp only[dV,PV.cells,mem_singleton]at hc;subst hc;rfl
 ·rcases h y hy with ⟨z,xs,q,rfl⟩ | rfl
  all_goals simp only[PV.cells,mem_singleton]at hc;subst hc;rfl
 ·simp only[mem_singleton]at hy;subst hy
  simp only[PV.cells,mem_singleton]at hc;subst hc;rfl
 ·simp only[mem_singleton]at hy;subst hy
  simp only[PV.cells,mem_singleton]at hc;subst hc;rfl
 ·simp only[mem_singleton]at hy;subst hy
  simp only[ak,PV.cells,mem_singleton]at hc;subst hc;rfl
 ·obtain⟨z,_,rfl⟩:=List.mem_map.1 hy
  simp only[PV.cells,mem_singleton]at hc;subst hc;rfl
theorem Om(old now:List Vl)(ho:old.length≤1000000)(hn:now.length≤1000000)(hlo:∀v∈old,v.length≤1000000)(hln:∀v∈now,v.length≤1000000) :
  av Tryz.prog 119 [dV old,dV now] [] (Dw (dm old now)) []:=by
 obtain⟨N,hN⟩:∃N,N=old.length+1:=⟨_,rfl⟩
 obtain⟨M,hM⟩:∃M,M=now.length+1:=⟨_,rfl⟩
 have hN1:((old.length:Int)+1).toNat=N:=by omega
 have hM1:((now.length:Int)+1).toNat=M:=by omega
 have z1:(0≤(old.length:Int))=True:=eq_true (by omega)
 have hlt:((old.length:Int)<(N:Int))=True:=eq_true (by omega)
 have hg:(List.replicate N (PV.sl 0 [] (some true)))[old.length]?=some (.sl 0 [] (some true)):=by rw[List.getElem?_replicate,if_pos (by omega)]
 refine EZ.cZ (T:=bH Tryz.prog [(95,fM),(65,cu)]) 1 hD (ax (af uq (af pJ au))) bM (by decide) λQ hQ=>?_
 (conv=>arg 4;cbv);simp (maxSteps:=400000) only[↓aA,aB,BEq.rfl,seval,hQ,↓fM,Eb,hN1,hM1,z1,hlt,hg,length_replicate]
 refine⟨⟨by omega,by omega⟩,by omega,by omega,by omega,by omega,⟨by omega,by omega⟩,by omega,by omega,by omega,by omega,by decide,?_⟩
 refine aY _ (Weak.norm [true,false,false,true,false,true] (some (1,3)) (zero_le _) _) ?_
 simp only[dX,keepR,Nat.reduceAdd,tK,Nat.reduceBEq,map_nil]
 have hr0:List.replicate M (PV.int .i64 0)=(List.replicate M (0:Int)).map (.int .i64):=by rw[List.map_replicate]
 rw[hr0]
 have hfr:=LF (PU N) old.length (n:=3) (k:=3) (v:=1) (row:=List.replicate M (0:Int)) (O:=[⟨64,1,[dV now],true,1⟩,⟨80,1,(List.replicate N (PV.sl 0 [] (some true))).set old.length (.aW 3 1),true,1⟩,⟨114,1,[PV.aW 1 1],true,1⟩,⟨3,1,(List.replicate M (0:Int)).map (.int .i64),true,1⟩]) (ty:=3) (Nat.le_refl _) rfl 80 1
 simp (maxSteps:=400000) only[↓aA,aB,BEq.rfl,seval,hQ,↓fM,aaT,aaU,List.take_succ_cons,hfr,Um,PS]
 have hU0:rE old now N 0=(List.replicate N (PV.sl 0 [] (some true))).set old.length (encI (List.replicate M 0)):=by
  rw[hN,hM];exact RA old now
 refine wW 120 [.addr (dV old)] (wK old) (λi O=>i≤old.length∧O=Un (rE old now N i) now) rfl rfl rfl (Nat.le_refl _) (mG old ho) (Aq old) ⟨zero_le _,by rw[hU0];rfl⟩ ?_ ?_ ?_
 ·rintro i O ⟨_,rfl⟩
  exact⟨Nat.le_refl _,Wh now (PX _ _ _ _)⟩
 ·rintro i args O ⟨hi,rfl⟩ ha
  obtain⟨hil,rfl⟩:=Ea ha
  obtain⟨p,hp⟩:∃p,p=old.length-1-i:=⟨_,rfl⟩
  rw[←hp]
  have hxm:old.getD p []∈old:=by
   rw[List.getD_eq_getElem?_getD,List.getElem?_eq_getElem (by omega)];exact List.getElem_mem _
  have hUs:=PX old now N i
  have hUl:(rE old now N i).length=N:=by rw[hN];exact Ur old now hi
  obtain⟨hU0,Zr⟩:=RB old now hil hp
  rw[←hN]at hU0 Zr
  generalize hxe:old.getD p []=x at hxm Zr
  obtain⟨nx,Zr,hnl,hnb,hUe⟩:=Zr
  have hxl:=hlo x hxm
  have hnb':Le 1000000 nx:=λz hz=>⟨(hnb z hz).1,by have:=(hnb z hz).2;omega⟩
  generalize rE old now N i=U at hUs hUl hU0 Zr hUe
  have hpl:((p:Int)<(N:Int))=True:=eq_true (by omega)
  have zp:(0≤(p:Int))=True:=eq_true (by omega)
  simp (maxSteps:=400000) only[↓aA,aB,BEq.rfl,seval,hQ,iI,Sn,Un,↓fM,hM1,zp,hpl,hU0,hUl,Eb,Int.toNat_natCast]
  refine⟨⟨by omega,by omega⟩,by omega,by omega,by omega,by omega,by decide,?_⟩
  have hW0:(U.set p (.aW 5 1))[p]?=some (.aW 5 1):=by rw[List.getElem?_set_self (by omega)]
  have hW1:(U.set p (.aW 5 1))[p+1]?=some (encI nx):=by rw[List.getElem?_set_ne (by omega)];exact Zr
  have hWl:(U.set p (.aW 5 1)).length=N:=by rw[List.length_set];exact hUl
  have hWs:∀y∈U.set p (.aW 5 1),(∃z xs q,y=PV.sl z xs q)∨y=.aW 5 1:=λy hy=>by
   rcases List.mem_or_eq_of_mem_set hy with h | h
   ·exact .inl (hUs y h)
   ·exact .inr h
  have aaW:((p:Int)+1<(N:Int))=True:=eq_true (by omega)
  have zp1:(0≤(p:Int)+1)=True:=eq_true (by omega)
  have hp1:((p:Int)+1).toNat=p+1:=by omega
  refine wW 120 [.addr (dV now)] (wK now) (λk O=>k≤now.length∧O=Fw (U.set p (.aW 5 1)) now p x (su x now nx (now.length-k))) rfl rfl rfl trivial (mG now hn) (Aq now) ⟨zero_le _,by rw[Nat.sub_zero,Uq,←hM,Fw,List.map_replicate]⟩ ?_ ?_ ?_
  ·rintro k O ⟨_,rfl⟩
   exact⟨by simp[Fw],Wi _ _ _ _ hWs⟩
  ·generalize U.set p (.aW 5 1)=W at hW0 hW1 hWl
   rintro k args O ⟨hk,rfl⟩ ha
   obtain⟨hkl,rfl⟩:=Ea ha
   obtain⟨q,hq⟩:∃q,q=now.length-1-k:=⟨_,rfl⟩
   rw[←hq]
   have hq1:now.length-k=q+1:=by omega
   have hq2:now.length-(k+1)=q:=by omega
   rw[hq1]
   have hy:now[q]?=some (now.getD q []):=by
    rw[List.getD_eq_getElem?_getD,List.getElem?_eq_getElem (by omega)];rfl
   have hym:now.getD q []∈now:=List.mem_of_getElem? hy
   generalize now.getD q []=y at hy hym
   have hyl:=hln y hym
   obtain⟨c,hR0,QO,hc0,hc1,hRs⟩:=Rz x y (nx:=nx) hy (by decide:(0:Int)≤1000000) hnb'
   have hRl:=Uo x now nx (q:=q+1) (by omega)
   have g0:nx[q]?=some (nx.getD q 0):=by
    rw[List.getD_eq_getElem?_getD,List.getElem?_eq_getElem (by omega)];rfl
   have g1:nx[q+1]?=some (nx.getD (q+1) 0):=by
    rw[List.getD_eq_getElem?_getD,List.getElem?_eq_getElem (by omega)];rfl
   have ha0:=hnb'.getD (by decide) q
   have ha1:=hnb'.getD (by decide) (q+1)
   have MK:((q:Int)<((now.length+1:Nat):Int))=True:=eq_true (by omega)
   have aaX:((q:Int)+1<((now.length+1:Nat):Int))=True:=eq_true (by omega)
   have zq:(0≤(q:Int))=True:=eq_true (by omega)
   have zq1:(0≤(q:Int)+1)=True:=eq_true (by omega)
   have hq3:((q:Int)+1).toNat=q+1:=by omega
   generalize nx.getD q 0=a0 at g0 ha0 hRs
   generalize nx.getD (q+1) 0=a1 at g1 ha1 hRs
   generalize hRg:su x now nx (q+1)=R at hR0 QO hRs hRl
   by_cases hxy:x=y
   ·have hxy':=eq_true hxy
    rw[if_pos hxy]at hRs
    simp (maxSteps:=400000) only[↓aA,aB,BEq.rfl,seval,hQ,iI,aaV,Fw,↓cu,hxy',zp,zp1,hp1,hpl,aaW,hWl,hW0,hW1,zq,zq1,hq3,MK,aaX,hR0,QO,hRl,g0,g1,Eb,Int.toNat_natCast]
    refine⟨hxl,hyl,⟨by omega,by omega⟩,⟨by omega,by omega⟩,⟨by omega,by omega⟩,by decide,by omega,?_⟩
    show _=(_:List Obj)
    rw[hq2,←hRs,map_set]
    rfl
   ·have hxy':=eq_false hxy
    rw[if_neg hxy]at hRs
    simp (maxSteps:=400000) only[↓aA,aB,BEq.rfl,seval,hQ,iI,aaV,Fw,↓cu,hxy',zp,zp1,hp1,hpl,aaW,hWl,hW0,hW1,zq,zq1,hq3,MK,aaX,hR0,QO,hRl,g0,g1,Eb,Int.toNat_natCast]
    refine⟨hxl,hyl,⟨by omega,by omega⟩,⟨by omega,by omega⟩,by decide,by omega,?_⟩
    show _=(_:List Obj)
    rw[hq2,←hRs,map_set]
    have hmx:(if c > a0 then c else a0)=max a0 c:=by split<;>omega
    rw[hmx]
    rfl
  ·rintro O ⟨_,rfl⟩
   rw[nJ,sub_self]
   have hfr:=LF hUs p (n:=3) (k:=5) (v:=1) (row:=su x now nx 0) (O:=Fw (U.set p (.aW 5 1)) now p x (su x now nx 0)) (ty:=3) (by omega) rfl 80 1
   simp only[Fw]at hfr
   simp (maxSteps:=400000) only[↓aA,aB,BEq.rfl,seval,hQ,Fw,List.take_succ_cons,hfr,Um,PS]
   refine⟨by omega,?_⟩
   show [eO 1 3 _ _,eO 1 3 _ _,eO 1 3 _ _]=_
   rw[Um,PS _ (by decide)]
   exact congrArg (λz=>[_,z,_]) (hfr.trans (by rw[hUe]))
 ·rintro O ⟨_,rfl⟩
  rw[nJ,hN,Us]
  simp (maxSteps:=400000) only[↓aA,aB,BEq.rfl,seval,hQ,Un,(iw hG inG).2.1]
def zl:fu:=λargs objs K=>match args with
 | [a0,a1]=>jF dV a0 (HK.mk:HK λa=>jF dV a1 (HK.mk:HK λb=>(a.length≤1000000)∧(b.length≤1000000)∧(∀v∈a,v.length≤1000000)∧(∀v∈b,v.length≤1000000)∧K (Dw (dm a b)) objs 0))
 | _=>False
theorem LG:aQ Tryz.prog 119 (zl):=by
 intro args objs K h
 unfold zl at h
 split at h
 ·rename_i a0 a1
  obtain⟨a,rfl,b,rfl,h1,h2,h3,h4,hk⟩:=h
  exact⟨_,_,_,.pure _ rfl (Om a b h1 h2 h3 h4),hk⟩
 ·exact h.elim
end Lp
namespace Lp
open Go Go.Proofs Go.Sort Go.RowKit
theorem Ec(n:Nat)(hn:n≤1000000):bits BinOp.and IntKind.u64 (n:Int) 4294967295=n:=by
 have h1:(BitVec.ofInt 64 (n:Int))=BitVec.ofNat 64 n:=by simp
 have h2:(BitVec.ofInt 64 4294967295)=BitVec.ofNat 64 4294967295:=by rfl
 show IntKind.u64.wrap ((BitVec.ofInt 64 (n:Int) &&& BitVec.ofInt 64 4294967295).toNat:Int)=n
 rw[h1,h2]
 have h3:(BitVec.ofNat 64 n &&& BitVec.ofNat 64 4294967295).toNat=n:=by
  rw[BitVec.toNat_and,BitVec.toNat_ofNat,BitVec.toNat_ofNat,Nat.mod_eq_of_lt (by omega:n<2 ^ 64),show (4294967295 % 2 ^ 64)=2 ^ 32-1 from rfl,Nat.and_two_pow_sub_one_eq_mod,Nat.mod_eq_of_lt (by omega)]
 rw[h3]
 exact gq (k:=.u64) ⟨by omega,by omega⟩
def d_(n k:Nat):List Value:=List.replicate k (.int .i64 (-1))++List.replicate (n-k) (.int .i64 0)
theorem rF{n k:Nat}(h:k≤n):(d_ n k).length=n:=by simp[d_];omega
theorem Ee{n k j:Nat}(h:j<k):(d_ n k)[j]?=some (.int .i64 (-1)):=by
 rw[d_,List.getElem?_append_left (by simpa using h),List.getElem?_replicate,if_pos h]
theorem Bp{n k m:Nat}(h:k+m≤n):(d_ n k).take k++List.replicate m (.int .i64 (-1))++(d_ n k).drop (k+m)=d_ n (k+m):=by
 simp only[d_]
 rw[List.take_left' (by simp),List.drop_append,List.drop_replicate,List.drop_replicate,List.length_replicate,←List.replicate_append_replicate]
 have e1:k-(k+m)=0:=by omega
 have e2:n-k-(k+m-k)=n-(k+m):=by omega
 rw[e1,e2];simp
theorem LH{w:World}(o:Go.Obj){b:Nat}(hb:b<w.heap.size):(w.alloc o).heap[b]?=w.heap[b]?:=by
 have h:jd w (w.alloc o):=.push rfl
 rw[Array.getElem?_eq_getElem hb]
 exact h.2.1 b _ (Array.getElem?_eq_getElem hb)
def iOf:Value→Int
 | .int _ q=>q
 | _=>0
set_option maxRecDepth 1000000 in
set_option maxHeartbeats 4000000 in
theorem LJ(n:Nat)(hn:n≤1000000)(w:World)(xb xo xc:Nat)(hx:w.cell? ⟨xb,xo,none⟩=some (.int .i64 (-1)))(hxb:xb<w.heap.size):Calls Tryz.prog 117 #[.slice (some ⟨xb,xo,none⟩) 1 xc,.int .i64 n] w λe w'=>
  e=.returned (.slice (some ⟨w.heap.size,0,none⟩) n n)∧w'.heap[w.heap.size]?=some (.cells (d_ n n).toArray 3 (0,0))∧(∀b,b<w.heap.size→w'.heap[b]?=w.heap[b]?)∧w.heap.size≤w'.heap.size∧Sm w w':=by
 have mixed:Tryz.prog.follows .mixedOrders=true:=by kernel_rfl
 have b1:bits BinOp.and IntKind.u64 1 4294967295=1:=Ec 1 (by omega)
 have b0:bits BinOp.and IntKind.u64 0 4294967295=0:=Ec 0 (by omega)
 have bn:=Ec n hn
 have dn:(n:Int) / 4294967296=0:=by omega
 have wn:IntKind.u64.wrap (n:Int)=n:=gq (k:=.u64) ⟨by omega,by omega⟩
 have wi:IntKind.i64.wrap (n:Int)=n:=gq (k:=.i64) ⟨by omega,by omega⟩
 have w0:IntKind.u64.wrap 0=0:=gq (k:=.u64) ⟨by omega,by omega⟩
 have w1:IntKind.u64.wrap 1=1:=gq (k:=.u64) ⟨by omega,by omega⟩
 have uL:Tryz.prog.underlying 80=some (.slice 3):=by kernel_rfl
 obtain⟨inf,hi,hz,hs,hb⟩:∃inf,Tryz.prog.info? 3=some inf∧inf.zero=some (.int .i64 0)∧inf.size=1∧inf.bytes=8:=⟨_,rfl,rfl,rfl,rfl⟩
 have hsz:(Tryz.prog.info? 3).map (·.size)=some 1:=by rw[hi];simp[hs]
 have hmk:=run_make (P:=Tryz.prog) w 80 3 inf (.int .i64 0) uL hi hz .i64 .i64 n n (by omega) (Int.le_refl _) (by rw[hb];omega) (by omega)
 have hmc:madeCells (Value.int .i64 0).cells ((n:Int).toNat*inf.size)=(d_ n 0).toArray:=by
  rw[hs,Int.toNat_natCast,Nat.mul_one]
  apply Array.ext'
  simp[madeCells,d_,Value.cells,Nat.mod_one,List.map_const']
 rw[hmc]at hmk
 simp only[Int.toNat_natCast]at hmk
 have hg0:(w.alloc (.cells (d_ n 0).toArray 3)).heap[w.heap.size]?=some (.cells (d_ n 0).toArray 3 (0,0)):=World.alloc_heap_new w _
 have hcp1:∀ty dc sc,(Builtin.copy_ #[80,80] ty #[.slice (some ⟨w.heap.size,0,none⟩) n dc,.slice (some ⟨xb,xo,none⟩) 1 sc]).run Tryz.prog (w.alloc (.cells (d_ n 0).toArray 3))=.ok (goInt (min 1 n:Nat)) ((w.alloc (.cells (d_ n 0).toArray 3)).setRow w.heap.size (d_ n (min 1 n)).toArray):=λty dc sc=>by
  have hcl:(List.replicate (min 1 n) (Value.int .i64 (-1))).length=min 1 n:=by simp
  have h:=run_copy_row (P:=Tryz.prog) (w.alloc (.cells (d_ n 0).toArray 3)) 80 80 ty 3 w.heap.size 0 n dc ⟨xb,xo,none⟩ 1 sc (d_ n 0).toArray 3 (List.replicate (min 1 n) (.int .i64 (-1))) uL hsz hg0 hcl (λj v hj=>by
   rw[List.getElem?_replicate]at hj
   split at hj
   ·rename_i hj1
    have:j=0:=by omega
    subst this
    cases hj
    rw[Addr.add_lit]
    exact cell_of_heap hx λx hx' _=>by rw[LH _ hxb];exact hx'
   ·cases hj) (by rw[hcl];simp[rF (Nat.zero_le n)];omega) (λv hv=>by rw[(List.mem_replicate.1 hv).2];rfl)
  rw[h,hcl]
  have e:=Bp (n:=n) (k:=0) (m:=min 1 n) (by omega)
  simp only[Nat.zero_add]at e ⊢
  rw[e]
 go_enter Tryz.func117,Tryz.ntmps117
 go_wp2
 go_loopw [8] (λi wr=>∃k:Nat,k≤n∧(k=0→n=0)∧i=.int .i64 k∧wr.heap[w.heap.size]?=some (.cells (d_ n k).toArray 3 (0,0))∧(∀b,b<w.heap.size→wr.heap[b]?=w.heap[b]?)∧wr.heap.size=w.heap.size+1∧Sm w wr) (λi _=>n-(iOf i).toNat)
 case atStart=>
  refine⟨min 1 n,by omega,by omega,rfl,?_,λb hb=>?_,?_,⟨rfl,rfl⟩⟩
  ·exact setRow_heap _ _ _ _ _ _ hg0
  ·rw[setRow_other _ _ b _ (by omega)];exact LH _ hb
  ·rw[setRow_size];exact World.size_alloc _ _
 case round=>
  obtain⟨k,hk,hk0,rfl,hr1,hr2,hr3,hr4⟩:=hrel
  by_cases hkn:k<n
  ·have hnk:¬ n=k:=by omega
   have hcp2:∀ty dc sc,(Builtin.copy_ #[80,80] ty #[.slice (some ⟨w.heap.size,k,none⟩) (n-k) dc,.slice (some ⟨w.heap.size,0,none⟩) k sc]).run Tryz.prog wr.drew=.ok (goInt (min k (n-k):Nat)) (wr.drew.setRow w.heap.size (d_ n (k+min k (n-k))).toArray):=λty dc sc=>by
    have hcl:(List.replicate (min k (n-k)) (Value.int .i64 (-1))).length=min k (n-k):=by simp
    have h:=run_copy_row (P:=Tryz.prog) wr.drew 80 80 ty 3 w.heap.size k (n-k) dc ⟨w.heap.size,0,none⟩ k sc (d_ n k).toArray 3 (List.replicate (min k (n-k)) (.int .i64 (-1))) uL hsz hr1 hcl (λj v hj=>by
     rw[List.getElem?_replicate]at hj
     split at hj
     ·rename_i hj1
      cases hj
      have hh:wr.drew.heap[w.heap.size]?=some (.cells (d_ n k).toArray 3 (0,0)):=hr1
      rw[Addr.add_lit]
      simp only[World.cell?,hh,Nat.zero_add,List.getElem?_toArray]
      exact Ee (by omega)
     ·cases hj) (by rw[hcl];simp[rF hk];omega) (λv hv=>by rw[(List.mem_replicate.1 hv).2];rfl)
    rw[h,hcl]
    rw[Bp (by omega)]
   have hwr:IntKind.i64.wrap ((k:Int)+((min k (n-k):Nat):Int))=((k+min k (n-k):Nat):Int):=by rw[gq (k:=.i64) ⟨by omega,by omega⟩];omega
   have hki:0<k:=by omega
   go_wp2
   go_region_law_o (refine step_copy_runI rfl _ _ 80 80 rfl _ _ (by simp[Act.eval,Act.put]) (by simp[Act.eval,Act.put]) (hcp2 _ _ _) ?_)
   simp only[Act.put,List.getElem_toArray,List.getElem_cons_succ,List.getElem_cons_zero,List.setIfInBounds_toArray,List.set_cons_succ,List.set_cons_zero]
   go_wp2
   refine⟨⟨_,_,_,_,_,_,_,_,_,_,_,_,_,_,⟨k+min k (n-k),by omega,by omega,by rw[Int.natCast_add],?_,λb hb=>?_,?_,hr4⟩,rfl⟩,?_⟩
   ·exact setRow_heap _ _ _ _ _ _ hr1
   ·rw[setRow_other _ _ b _ (by omega)];exact hr2 b hb
   ·rw[setRow_size];exact hr3
   ·show n-((k:Int)+((min k (n-k):Nat):Int)).toNat<n-((k:Int)).toNat
    omega
  ·obtain rfl:k=n:=by omega
   go_wp2
   go_ret
   exact⟨rfl,hr1,hr2,by omega,hr4⟩
def Oo(n:Nat):List PV:=(List.replicate n (-1:Int)).map (.int .i64)
theorem LK(n:Nat)(hn:n≤1000000):av Tryz.prog 117 [.sl 1 [.int .i64 (-1)] none,.int .i64 n] [] (.aW 0 0) [⟨3,1,Oo n,true,0⟩]:=by
 refine⟨⟨_,Tryz.func117,by kernel_rfl,by kernel_rfl⟩,λw blk vs base hbase _ hargs=>?_⟩
 have hargs':a_ (bQ w (aV base [] blk)) [.sl 1 [.int .i64 (-1)] none,.int .i64 n] vs:=⟨hargs.1,λi p v hp hv=>oh (hargs.2 i p v hp hv)⟩
 obtain⟨u,v,rfl,h1,h2⟩:=V4 hargs'
 cases DT h2
 cases h1 with
 | sl _ _ _ _ b off cap vv hok hlen hcap hsz hcell hrep=>
 have hc:=hcell 0 (.int .i64 (-1)) 0 (.int .i64 (-1)) rfl rfl
 have hr:=hrep 0 (.int .i64 (-1)) 0 (.int .i64 (-1)) rfl rfl
 rw[DT hr]at hc
 have hb:=(hok (by simp)).2
 have e0:off+0*1+0=off:=by omega
 rw[e0]at hc
 refine (LJ n hn w b off cap hc hb).mono ?_
 rintro e w' ⟨rfl,k1,k2,k3,k4⟩
 have hsize:w.heap.size<w'.heap.size:=(Array.getElem?_eq_some_iff.1 k1).1
 refine⟨_,λk=>if k=0 then some w.heap.size else none,rfl,⟨λk o hk hl=>?_,λk k' o o' g hkk hk hl hk' hl' hg=>?_,λk o g hk hl hg hp=>?_⟩,?_,λb hb _=>k2 b hb,k3,k4⟩
 ·match k,hk with
  | 0,hk=>
   cases hk
   refine⟨(d_ n n).toArray,?_,oP (show 3≠MT by decide) (by simp[Oo,rF]),λi x hx=>?_⟩
   ·rw[jc (show 3≠MT by decide)];exact k1
   ·rw[Oo,List.getElem?_map,List.getElem?_replicate]at hx
    split at hx
    ·rename_i hi
     cases hx
     refine⟨rfl,λj p hp=>?_⟩
     match j,hp with
     | 0,hp=>
      cases hp
      refine⟨.int .i64 (-1),?_,.aF (.int _ _)⟩
      rw[List.getElem?_toArray,Nat.add_zero,Nat.mul_one];exact Ee hi
    ·cases hx
 ·match k,k',hk,hk' with
  | 0,0,_,_=>exact absurd rfl hkk
 ·match k,hk with
  | 0,hk=>
   simp only[if_true,Option.some.injEq]at hg
   omega
 ·refine .dG ?_
  refine⟨rfl,_,rfl,Nat.le_refl _,λ_ _=>⟨(show 3≠MT by decide),n,(d_ n n).toArray,?_,k1,?_,?_,?_⟩⟩
  ·simp[Oo]
  ·simp[Oo]
  ·simp[maxLen];omega
  ·simp[rF]
theorem Wj(n:Nat){ver:Nat}:bg [⟨3,1,Oo n,true,ver⟩]:=by
 intro o ho x hx c hc
 simp only[List.mem_singleton]at ho;subst ho
 obtain⟨p,_,rfl⟩:=List.mem_map.1 hx
 simp only[PV.cells,List.mem_singleton]at hc;subst hc;rfl
def vL:fu:=λargs objs K=>match args with
 | [x,.int .i64 n]=>jF encI x (HK.mk:HK λl=>l=[-1]∧0≤n∧n≤1000000∧K (.aW objs.length 0) (objs++[⟨3,1,Oo n.toNat,true,0⟩]) 2)
 | _=>False
theorem Jb:aQ Tryz.prog 117 vL:=by
 intro args objs K h
 unfold vL at h
 split at h
 ·rename_i x n
  obtain⟨l,rfl,rfl,h1,h2,hk⟩:=h
  have hs:=LK n.toNat (by omega)
  rw[Int.toNat_of_nonneg h1]at hs
  exact⟨_,_,_,kJ.made (objs:=objs) _ _ rfl (Wj n.toNat) hs,by simpa[PV.shift,PV.jO] using hk⟩
 ·exact h.elim
end Lp
namespace Lp
open Go
open List (append_nil length_append set_append_right)
variable {P:Program}{D:TypeId→ay}{T:Know}
def Fx(P:Program)(l:List (FuncId×fu)):Know:={ bH P l with fa:=iD P }
theorem Ut{l:List (FuncId×fu)}(h:iP P (jR l)):r9 P none vT (Fx P l):=.aad h rfl (λ_ _ _ h=>h) (λ_ _ _ h=>h) rfl (λ_ _ _ h=>h.elim) λ_ _ _ _ h=>h
theorem Ef{l:List (FuncId×fu)}(h:iP P (jR l))(n:Nat):r9 P none (IE n) ((Fx P l).use n):=.use h rfl (λ_ _ _ h=>h) (λ_ _ _ h=>h) rfl (λ_ _ _ h=>h.elim) λ_ _ _ _ h=>h
theorem rG{ev:Operand→PV}{g:FuncId}{first args cap:List PV}{objs:List Obj}{K:KT}(hr:T.rg=true)(hf:T.fa=iD P)(h:iD P g (first++args++cap) objs K):Gx T ev (.fn g first cap) args objs (QX.mk:QX K):=by
 refine .inr ⟨hr,?_⟩
 show T.fa _ _ _ _
 rw[hf];exact h
theorem iD.mono {f:FuncId}{args:List PV}{objs:List Obj}{K K':KT}(h:iD P f args objs K)(hk:∀r o t,K r o t→K' r o t):iD P f args objs K':=
 ⟨h.1,λbase ah w0 tmps blk a w vs R ha=>(h.2 base ah w0 tmps blk a w vs R ha).mono λ_ _ ⟨v,r,o,b,h1,h2,h3⟩=>⟨v,r,o,b,h1,hk _ _ _ h2,h3⟩⟩
theorem qo{O X:List Obj}{n:Nat}(h:O.length=n):(O++X).take n=O:=by rw[←h,List.take_left]
theorem uw{O X:List Obj}{n:Nat}(h:O.length=n):(O++X).drop n=X:=by rw[←h,List.drop_left]
theorem Uu{O:List Obj}{n:Nat}(h:O.length=n)(hl:bq O):∀o∈O,o.live=true→∀x∈o.xs,∀p∈x.cells,p.nO n=true:=λo ho _ x hx p hp=>by
 have:=hl o ho x hx p hp
 rwa[h]at this
def Zt(n:Nat)(l:List (Nat×PV)):Bool:=l.all λx=>x.2.ge n
theorem lQ{n m:Nat}{l:List (Nat×PV)}{ob:List Obj}(h:Zt n l=true)(t:Nat):((St.mk (dR m l) ob).ev (.tmp t)).ge n=true:=by
 show ((dR m l).getD t .dead).ge n=true
 rcases Nat.lt_or_ge t m with ht | ht
 ·rw[tL.2.1 m l t ht]
  induction l with
  | nil=>rfl
  | cons x l ih=>
   obtain⟨i,p⟩:=x
   simp only[Zt,List.all_cons,Bool.and_eq_true]at h
   by_cases e:t=i
   ·subst e
    rw[tK.1];exact h.1
   ·rw[tK.2.1 t i p l (by simpa using e)]
    exact ih h.2
 ·rw[List.getD_eq_getElem?_getD,List.getElem?_eq_none (by rw[lK];exact ht)];rfl
theorem RD(n:Nat):(Zt n []=true)∧(∀i p l,Zt n ((i,p)::l)=(p.ge n && Zt n l))∧(∀k m,PV.ge n (.int k m)=true)∧(∀b,PV.ge n (.bool b)=true)∧(∀s,PV.ge n (.str s)=true)∧(∀z x q,PV.ge n (.sl z x q)=true)∧(∀x,PV.ge n (.addr x)=true)∧
  (∀l,PV.ge n (.oF l)=true)∧(∀k v i f,PV.ge n (.aT (n+k) v i f)=true)∧(∀v i f,PV.ge n (.aT n v i f)=true)∧(∀k v,PV.ge n (.fw (n+k) v)=true)∧(∀v,PV.ge n (.fw n v)=true)∧(∀f x,PV.ge n (.fn f [] [.addr x])=true)∧(PV.ge n (.bP [])=true)∧(PV.ge n .dead=true)∧
  (∀k v,PV.ge n (.aW (n+k) v)=true)∧(∀v,PV.ge n (.aW n v)=true)∧(∀f k v i e,PV.ge n (.fn f [] [.aT (n+k) v i e])=true):=
 ⟨rfl,λ_ _ _=>rfl,λ_ _=>rfl,λ_=>rfl,λ_=>rfl,λ_ _ _=>rfl,λ_=>rfl,λ_=>rfl,λ_ _ _ _=>by simp[PV.ge,PV.A7],λ_ _ _=>by simp[PV.ge,PV.A7],λ_ _=>by simp[PV.ge,PV.A7],λ_=>by simp[PV.ge,PV.A7],λ_ _=>rfl,rfl,rfl,
  λ_ _=>by simp[PV.ge,PV.A7],λ_=>by simp[PV.ge,PV.A7],λ_ _ _ _ _=>by simp[PV.ge,PV.A7]⟩
theorem zo{ev:Operand→PV}{ys:List (List PV)}{I J:Nat→List Obj→Prop}{n i:Nat}{l:Nat}{args:List PV}{O X:List Obj}{K:KT}(hb:T.bb=true)(hn:T.bn=n)(hY:T.YB=EI ys I J)(hl:l=T.y)
  (g_:∀i O,I i O→O.length=n∧bq O) (iE:∀i O,J i O→O.length=n∧bq O∧bg O) (hev:∀t,(ev (.tmp t)).ge n=true) (hX:Vu n X) (hp:args.all PV.pure=true) (hI:I i O) (hy:ys[i]?=some args)
  (h1:∀O',I (i+1) O'→K (.bool true) (O'++X) 2) (h2:∀O',J i O'→K (.bool false) (O'++X) 2):Gx T ev (.oF l) args (O++X) (QX.mk:QX K):=by
 obtain⟨ho,hlt⟩:=g_ i O hI
 refine .inl ⟨hb,?_,?_,?_,?_,hl,hp,?_⟩
 ·rw[hn,length_append];omega
 ·rw[hn,qo ho];exact Uu ho hlt
 ·rw[hn];exact hev
 ·rw[hn,uw ho];exact hX
 ·rw[hY,hn,qo ho,uw ho]
  exact⟨i,hI,hy,λO' h=>⟨(g_ _ _ h).1,h1 O' h⟩,λO' h=>⟨(iE _ _ h).1,h2 O' h⟩⟩
theorem Jc{ev:Operand→PV}{g:FuncId}{ys qs:List (List PV)}{I J:Nat→List Obj→Prop}{n i:Nat}{args bargs:List PV}{O X:List Obj}{K:KT}(hb:T.bb=true)(hn:T.bn=n)(hY:T.YB=EI ys I J)(hg:T.gb=dZ P)
  (g_:∀i O,I i O→O.length=n∧bq O) (iE:∀i O,J i O→O.length=n∧bq O∧bg O) (hev:∀t,(ev (.tmp t)).ge n=true) (hX:Vu n X) (he:args=bargs++[.oF T.y]) (hp:bargs.all PV.pure=true) (hG:dZ P g bargs qs) (hI:I i O)
  (hy:∀j a,qs[j]?=some a→ys[i+j]?=some a) (h1:∀O',I (i+qs.length) O'→K (.bool true) (O'++X) 2) (h2:∀j O',j<qs.length→J (i+j) O'→K (.bool false) (O'++X) 2):Gx T ev (.fn g [] []) args (O++X) (QX.mk:QX K):=by
 obtain⟨ho,hlt⟩:=g_ i O hI
 refine .inl ⟨hb,?_,?_,?_,?_,bargs,qs,λj=>I (i+j),λj=>J (i+j),by simpa using he,hp,by rw[hg];exact hG,?_,?_,λj O h=>?_,λj O h=>?_,λO' h=>?_,λj O' hj h=>?_⟩
 ·rw[hn,length_append];omega
 ·rw[hn,qo ho];exact Uu ho hlt
 ·rw[hn];exact hev
 ·rw[hn,uw ho];exact hX
 ·rintro a O1 K1 ⟨j,q1,q2,q3,q4⟩
  rw[hY]
  exact⟨i+j,q1,hy j a q2,q3,q4⟩
 ·rw[hn,qo ho];exact hI
 ·rw[hn];exact g_ _ _ h
 ·rw[hn];exact iE _ _ h
 ·rw[hn,uw ho];exact h1 O' h
 ·rw[hn,uw ho];exact h2 j O' hj h
theorem Eg{ev:Operand→PV}{ys:List (List PV)}{I J:Nat→List Obj→Prop}{n i:Nat}{l:Nat}{args:List PV}{O:List Obj}{K:KT}(hb:T.bb=true)(hn:T.bn=n)(hY:T.YB=EI ys I J)(hl:l=T.y)
  (g_:∀i O,I i O→O.length=n∧bq O) (iE:∀i O,J i O→O.length=n∧bq O∧bg O) (hev:∀t,(ev (.tmp t)).ge n=true) (hp:args.all PV.pure=true) (hI:I i O) (hy:ys[i]?=some args)
  (h1:∀O',I (i+1) O'→K (.bool true) O' 2) (h2:∀O',J i O'→K (.bool false) O' 2):Gx T ev (.oF l) args O (QX.mk:QX K):=by
 have h:=zo (X:=[]) (K:=K) (ev:=ev) (args:=args) (O:=O) hb hn hY hl g_ iE hev (λo ho=>by cases ho) hp hI hy (λO' h=>by rw[append_nil];exact h1 O' h) λO' h=>by rw[append_nil];exact h2 O' h
 rwa[append_nil]at h
theorem Eh{ev:Operand→PV}{g:FuncId}{ys qs:List (List PV)}{I J:Nat→List Obj→Prop}{n i:Nat}{args bargs:List PV}{O:List Obj}{K:KT}(hb:T.bb=true)(hn:T.bn=n)(hY:T.YB=EI ys I J)(hg:T.gb=dZ P)
  (g_:∀i O,I i O→O.length=n∧bq O) (iE:∀i O,J i O→O.length=n∧bq O∧bg O) (hev:∀t,(ev (.tmp t)).ge n=true) (he:args=bargs++[.oF T.y]) (hp:bargs.all PV.pure=true) (hG:dZ P g bargs qs) (hI:I i O)
  (hy:∀j a,qs[j]?=some a→ys[i+j]?=some a) (h1:∀O',I (i+qs.length) O'→K (.bool true) O' 2) (h2:∀j O',j<qs.length→J (i+j) O'→K (.bool false) O' 2):Gx T ev (.fn g [] []) args O (QX.mk:QX K):=by
 have h:=Jc (X:=[]) (K:=K) (ev:=ev) (args:=args) (O:=O) hb hn hY hg g_ iE hev (λo ho=>by cases ho) he hp hG hI hy (λO' h=>by rw[append_nil];exact h1 O' h) λj O' hj h=>by rw[append_nil];exact h2 j O' hj h
 rwa[append_nil]at h
theorem Ei{O:List Obj}{n:Nat}(h:O.length=n) :
  (∀a X,(O++a::X)[n]?=some a)∧(∀a X (j:Nat),(O++a::X)[n+(j+1)]?=X[j]?)∧(∀a b X,(O++a::X).set n b=O++b::X)∧(∀a b X (j:Nat),(O++a::X).set (n+(j+1)) b=O++a::X.set j b)∧
  (∀X,(O++X).length=n+X.length):=by
 subst h
 refine⟨λa X=>?_,λa X j=>?_,λa b X=>?_,λa b X j=>?_,λX=>length_append⟩
 ·rw[List.getElem?_append_right (Nat.le_refl _),Nat.sub_self];rfl
 ·rw[List.getElem?_append_right (by omega),show O.length+(j+1)-O.length=j+1 by omega];rfl
 ·rw[set_append_right _ _ (Nat.le_refl _),Nat.sub_self];rfl
 ·rw[set_append_right _ _ (by omega),show O.length+(j+1)-O.length=j+1 by omega];rfl
theorem mH(n:Nat)(O:List Obj):(n+1+1=n+2)∧(n+2+1=n+3)∧(n+3+1=n+4)∧(n+4+1=n+5)∧(n+5+1=n+6)∧(n+6+1=n+7)∧
  (∀X Y,(O++X)++Y=O++(X++Y))∧(∀(a:Obj) X,(a::X)[0]?=some a)∧(∀(a:Obj) X (j:Nat),(a::X)[j+1]?=X[j]?):=
 ⟨rfl,rfl,rfl,rfl,rfl,rfl,λ_ _=>List.append_assoc ..,λ_ _=>rfl,λ_ _ _=>rfl⟩
theorem ntS(k:Nat)(l:List Nat):noTwo ((4+2*k)::l)=noTwo l:=by simp[noTwo,WV]
theorem BL(fn:JG)(y:Nat)(YB:YT)(n:Nat):((lm P fn y YB n).fn=fn)∧((lm P fn y YB n).Nb.fn=fn)∧((lm P fn y YB n).rg=true)∧((lm P fn y YB n).nx=n):=
 ⟨rfl,rfl,rfl,rfl⟩
theorem kbI(fn:JG)(y:Nat)(YB:YT)(n m:Nat):(((lm P fn y YB n).mE m).fn=fn)∧(((lm P fn y YB n).mE m).Nb.fn=fn)∧(((lm P fn y YB n).mE m).rg=true)∧(((lm P fn y YB n).mE m).nx=m):=
 ⟨rfl,rfl,rfl,rfl⟩
theorem aX.XP {f:FuncId}{n:Nat}{C:LC}{args:List PV}{objs:List Obj}{K:KT}(h:aX P f n [] C)(hD:∀t,eP P t (D t))(hT:r9 P none (IE objs.length) T)(hm:P.follows .mixedOrders=true)
  (hw:∀Q:Exit→St→Prop,(∀tm ob,Q .ret ⟨tm,ob⟩=K (.bP []) ob 2)→(∀tm ob,Q .normal ⟨tm,ob⟩=K (.bP []) ob 2)→gY P D T C Q ⟨(aU args n).tmps,objs⟩):iD P f args objs K:=by
 refine h.aay hD hT hm (Nat.zero_le _) (hw _ (λtm ob=>?_) λtm ob=>?_)<;>simp[VX,ku,gK]
theorem aX.aaY {f:FuncId}{n t:Nat}{C:LC}{args:List PV}{objs:List Obj}{K:KT}(h:aX P f n [.tmp t] C)(hD:∀t,eP P t (D t))(hT:r9 P none (IE objs.length) T)(hm:P.follows .mixedOrders=true)(ht:t<n)
  (hw:∀Q:Exit→St→Prop,(∀l ob,Q .ret ⟨dR n l,ob⟩=K (qQ l t) ob 2)→gY P D T C Q ⟨(aU args n).tmps,objs⟩):iD P f args objs K:=by
 refine h.aay hD hT hm (Nat.le_refl _) (hw _ λl ob=>?_)
 show ((_∨_)∧K (gK [(dR n l).getD t .dead]) ob 2)=_
 rw[tL.2.1 n l t ht]
 simp[gK]
structure RF (I J:Nat→List Obj→Prop) (n len:Nat) (p:PV) (ob:List Obj):Prop where
 h:∃b,p=.bool b∧((b=true∧I len (ob.take n))∨(b=false∧∃i,i<len∧J i (ob.take n)))
theorem Av{I J:Nat→List Obj→Prop}{n len:Nat}{O X:List Obj}(h:I len O)(hl:O.length=n):RF I J n len (.bool true) (O++X):=⟨true,rfl,.inl ⟨rfl,by rw[qo hl];exact h⟩⟩
theorem jV{I J:Nat→List Obj→Prop}{n len i:Nat}{O X:List Obj}(hi:i<len)(h:J i O)(hl:O.length=n):RF I J n len (.bool false) (O++X):=⟨false,rfl,.inr ⟨rfl,i,hi,by rw[qo hl];exact h⟩⟩
theorem lS{I J:Nat→List Obj→Prop}{n len:Nat}{O:List Obj}(h:I len O)(hl:O.length=n):RF I J n len (.bool true) O:=by
 have:=Av (J:=J) (X:=[]) h hl
 rwa[append_nil]at this
theorem l_{I J:Nat→List Obj→Prop}{n len i:Nat}{O:List Obj}(hi:i<len)(h:J i O)(hl:O.length=n):RF I J n len (.bool false) O:=by
 have:=jV (I:=I) (X:=[]) hi h hl
 rwa[append_nil]at this
theorem aX.PY {f:FuncId}{n t:Nat}{C:LC}{bargs:List PV}{ys:List (List PV)}{fnT:JG}(h:aX P f n [.tmp t] C)(hD:∀t,eP P t (D t))(hT:iP P fnT)(hm:P.follows .mixedOrders=true)(ht:t<n)
  (hw:∀(I J:Nat→List Obj→Prop) (objs:List Obj) (y:Nat) (Q:Exit→St→Prop),I 0 objs→(∀i O,I i O→O.length=objs.length∧bq O)→(∀i O,J i O→O.length=objs.length∧bq O∧bg O)→
   (∀l ob,Q .ret ⟨dR n l,ob⟩=RF I J objs.length ys.length (qQ l t) ob)→gY P D (lm P fnT y (EI ys I J) objs.length) C Q ⟨(aU (bargs++[.oF y]) n).tmps,objs⟩):dZ P f bargs ys:=by
 refine h.TB hD hT hm (by simp) λI J objs y h0 g_ iE=>hw I J objs y _ h0 g_ iE λl ob=>?_
 refine propext ⟨λ⟨_,b,h1,h2⟩=>⟨b,?_,h2⟩,λ⟨b,h1,h2⟩=>⟨.inr rfl,b,?_,h2⟩⟩
 ·simp only[ku,List.cons.injEq,and_true]at h1
  rw[←h1];exact (tL.2.1 n l t ht).symm
 ·simp only[ku,List.cons.injEq,and_true]
  rw[←h1];exact tL.2.1 n l t ht
theorem aX.Wl {f:FuncId}{n t:Nat}{ty:TypeId}{C:LC}{bargs:List PV}{ys:List (List PV)}{fnT:JG}(h:aX P f n [.cell t ty] C)(hD:∀t,eP P t (D t))(hT:iP P fnT)(hm:P.follows .mixedOrders=true)(ht:t<n)
  (hw:∀(I J:Nat→List Obj→Prop) (objs:List Obj) (y:Nat) (Q:Exit→St→Prop),I 0 objs→(∀i O,I i O→O.length=objs.length∧bq O)→(∀i O,J i O→O.length=objs.length∧bq O∧bg O)→
   (∀l ob,Q .ret ⟨dR n l,ob⟩=dK (D ty) (qQ l t) ob λp _ _=>RF I J objs.length ys.length p ob)→gY P D (lm P fnT y (EI ys I J) objs.length) C Q ⟨(aU (bargs++[.oF y]) n).tmps,objs⟩):dZ P f bargs ys:=by
 refine h.TB hD hT hm (by simp) λI J objs y h0 g_ iE=>hw I J objs y _ h0 g_ iE λl ob=>?_
 have key:∀(K:PV→Prop) (p:PV),(dK (D ty) p ob λp _ _=>K p)→∃q,(∀K':PV→Prop,K' q→dK (D ty) p ob λp _ _=>K' p)∧K q:=by
  intro K p h
  unfold dK at h
  split at h
  ·obtain⟨a,b,c,d⟩:=h
   exact⟨_,λK' hk=>⟨a,b,c,hk⟩,d⟩
  ·obtain⟨o,e,a1,a2,a3,a4,a5,a6,a7,a8,d⟩:=h
   exact⟨_,λK' hk=>⟨o,e,a1,a2,a3,a4,a5,a6,a7,a8,hk⟩,d⟩
  ·exact h.elim
 have ht':(dR n l).getD t .dead=qQ l t:=tL.2.1 n l t ht
 refine propext ⟨λ⟨_,b,h1,h2⟩=>?_,λh1=>?_⟩
 ·change dK (D ty) ((dR n l).getD t .dead) ob (λp _ _=>[p]=[.bool b]) at h1
  rw[ht']at h1
  obtain⟨q,hq,hb⟩:=key _ _ h1
  exact hq _ ⟨b,by simpa using hb,h2⟩
 ·obtain⟨q,hq,b,hb,h2⟩:=key _ _ h1
  refine⟨.inr rfl,b,?_,h2⟩
  show dK (D ty) ((dR n l).getD t .dead) ob (λp _ _=>[p]=[.bool b])
  rw[ht']
  exact hq (λp=>[p]=[.bool b]) (by rw[hb])
theorem YW{n m:Nat}{l:List (Nat×PV)}(h:Zt n l=true):∀p∈dR m l,p.ge n=true:=by
 intro p hp
 obtain⟨i,hi,rfl⟩:=List.mem_iff_getElem.1 hp
 have:=lQ (m:=m) (ob:=[]) h i
 change ((dR m l).getD i .dead).ge n=true at this
 rwa[List.getD_eq_getElem?_getD,List.getElem?_eq_getElem hi]at this
theorem Uv{O X:List Obj}{n k:Nat}(hO:O.length=n)(hl:bq O)(hX:bg X)(hk:k=n+X.length):Gh k (O++X++[sD,hole]):=by
 subst hk
 have hl2:(O++X).length=n+X.length:=by rw[length_append,hO]
 refine⟨by simp[hO];omega,λo ho x hx c hc=>?_,?_,?_⟩
 ·rcases List.mem_append.1 ho with ho | ho
  ·rcases List.mem_append.1 ho with ho | ho
   ·exact Dc (by simp) (hl o ho x hx c hc)
   ·have:=hX o ho x hx c hc
    cases c<;>first | rfl | (simp[PV.ref]at this)
  ·simp only[List.mem_cons,List.not_mem_nil,or_false]at ho
   rcases ho with rfl | rfl<;>cases hx
 ·rw[←hl2,List.getElem?_append_right (Nat.le_refl _),Nat.sub_self];rfl
 ·rw[←hl2,List.getElem?_append_right (by omega),Nat.add_sub_cancel_left];rfl
theorem Oq{O X:List Obj}(hO:bg O)(hX:bg X):bg (O++X++[sD,hole]):=by
 intro o ho x hx c hc
 rcases List.mem_append.1 ho with ho | ho
 ·rcases List.mem_append.1 ho with ho | ho
  ·exact hO o ho x hx c hc
  ·exact hX o ho x hx c hc
 ·simp only[List.mem_cons,List.not_mem_nil,or_false]at ho
  rcases ho with rfl | rfl<;>cases hx
theorem Uw{O X:List Obj}{k:Nat}(h:k=O.length+X.length):eD k (O++X++[sD,hole])=O++(X++[hole,sD]):=by
 have hl2:(O++X).length=k:=by rw[length_append,h]
 rw[eD,set_append_right _ _ (by omega),hl2,Nat.sub_self,set_append_right _ _ (by omega),hl2,Nat.add_sub_cancel_left,←List.append_assoc]
 rfl
theorem Jd{X:List Obj}(h:bg X)(n:Nat):Vu n X:=λo ho x hx c hc=>jh (h o ho x hx c hc)
end Lp
namespace Lp
open Go Go.Proofs
open Int (natCast_add toNat_natCast)
def vZ(R:List Int)(v:Nat)(i k:Int):List Obj:=[⟨3,1,R.map (.int .i64),true,v⟩,⟨80,1,[.aW 0 v],true,1⟩,⟨3,1,[.int .i64 i],true,1⟩,⟨3,1,[.int .i64 k],true,1⟩]
theorem Wm(l:List (FuncId×fu)):((Fx Tryz.prog l).fn=jR l)∧((Fx Tryz.prog l).Nb.fn=jR l)∧((Fx Tryz.prog l).nx=0)∧((Fx Tryz.prog l).rg=true):=⟨rfl,rfl,rfl,rfl⟩
theorem YX(l:List (FuncId×fu))(n:Nat):(((Fx Tryz.prog l).use n).fn=jR l)∧(((Fx Tryz.prog l).use n).Nb.fn=jR l)∧(((Fx Tryz.prog l).use n).nx=n):=⟨rfl,rfl,rfl⟩
theorem Ej(R:List Int)(v a b i k:Nat)(K:KT)(ha:a≤1000000)(hb:b≤R.length)(hR:R.length≤1000000)(hi:i≤1000000)(hk:K (.bP []) (vZ (sj (b-k) R i k a) v a b) 2)(hkk:k≤1000000) :
  iD Tryz.prog 118 [.int .i64 a,.int .i64 b,.aT 2 1 0 0,.aT 3 1 0 0,.aT 1 1 0 0] (vZ R v i k) K:=by
 refine yQ.XP hD (Ef au 4) bM λQ hQ hQn=>?_
 (conv=>arg 4;cbv);simp (maxSteps:=400000) only[↓aA,aB,BEq.rfl,seval,hQ,vZ]
 refine bA (λm S=>∃(i' k':Nat) (R':List Int),m=b-k'∧i'≤1000000∧k'≤1000000∧R'.length=R.length∧sj (b-k') R' i' k' a=sj (b-k) R i k a∧
  S=⟨dR 25 [(0,.int .i64 a),(1,.int .i64 b),(2,.aT 2 1 0 0),(3,.aT 3 1 0 0),(4,.aT 1 1 0 0)],vZ R' v i' k'⟩) (b-k) ⟨i,k,R,rfl,hi,hkk,rfl,rfl,?_⟩ ?_
 ·simp only[dX,keepR,Nat.reduceAdd,tK,Nat.reduceBEq,List.map_nil]
  rfl
 rintro m S ⟨i',k',R',rfl,hi',hk',hR',hg,rfl⟩
 rcases Nat.lt_or_ge i' a with h1 | h1
 ·have h1':((i':Int)<(a:Int))=True:=eq_true (by omega)
  rcases Nat.lt_or_ge k' b with h2 | h2
  ·have h2':((k':Int)<(b:Int))=True:=eq_true (by omega)
   have hkl:((k':Int)<(R'.length:Int))=True:=eq_true (by omega)
   have zk:(0≤(k':Int))=True:=eq_true (by omega)
   have XQ:R'[k']?=some (R'.getD k' 0):=by
    rw[List.getD_eq_getElem?_getD,List.getElem?_eq_getElem (by omega)];rfl
   generalize R'.getD k' 0=z at XQ
   simp (maxSteps:=400000) only[↓aA,aB,BEq.rfl,seval,hQ,vZ,YX,h1',h2',hkl,zk,XQ,Eb,toNat_natCast]
   refine⟨⟨by omega,by omega⟩,⟨by omega,by omega⟩,by decide,b-(k'+1),by omega,i'+1,k'+1,R'.set k' i',rfl,by omega,by omega,by rw[List.length_set];exact hR',?_,?_⟩
   ·rw[show b-k'=(b-(k'+1))+1 by omega,sj,if_pos h1]at hg
    exact hg
   ·rw[List.map_set,natCast_add,natCast_add];rfl
  ·have h2':((k':Int)<(b:Int))=False:=eq_false (by omega)
   simp (maxSteps:=400000) only[↓aA,aB,BEq.rfl,seval,hQ,vZ,YX,h1',h2',Eb,hQn]
   rw[show b-k'=0 by omega]at hg
   rw[←hg]at hk
   exact hk
 ·have h1':((i':Int)<(a:Int))=False:=eq_false (by omega)
  simp (maxSteps:=400000) only[↓aA,aB,BEq.rfl,seval,hQ,vZ,YX,h1',Eb,hQn]
  have:sj (b-k') R' i' k' a=R':=by
   cases hm:b-k' with
   | zero=>rfl
   | succ m=>rw[sj,if_neg (by omega)]
  rw[this]at hg
  rw[←hg]at hk
  exact hk
theorem Je(old now:List Vl)(ho:old.length≤1000000)(hn:now.length≤1000000)(hlo:∀v∈old,v.length≤1000000)(hln:∀v∈now,v.length≤1000000) :
  av Tryz.prog 94 [dV old,dV now] [] (encI (ow old now)) []:=by
 refine BI.cZ (T:=Fx Tryz.prog [(117,vL),(119,zl),(65,cu)]) 1 hD (Ut (af Jb (af LG (af pJ au)))) bM (by decide) λQ hQ=>?_
 (conv=>arg 4;cbv);simp (maxSteps:=400000) only[↓aA,aB,BEq.rfl,seval,hQ,Wm,↓vL,↓zl,Eb,toNat_natCast]
 refine⟨by omega,by omega,ho,hn,hlo,hln,?_⟩
 refine bA (λm S=>∃(a b i k:Nat) (R:List Int),m=(old.length-a)+(now.length-b)∧a≤old.length∧b≤now.length∧i≤1000000∧k≤1000000∧R.length=now.length∧
   l9 old now m a b i k R=l9 old now (old.length+now.length) 0 0 0 0 (List.replicate now.length (-1))∧
   S=⟨dR 83 [(0,dV old),(1,dV now),(5,.aT 1 1 0 0),(6,.aT 2 1 0 0),(7,.aT 3 1 0 0),(8,.fn 118 [] [.aT 2 1 0 0,.aT 3 1 0 0,.aT 1 1 0 0]),(9,Dw (dm old now)),(10,.int .i64 a),(11,.int .i64 b)],vZ R 0 i k⟩)
  (old.length+now.length) ⟨0,0,0,0,List.replicate now.length (-1),by omega,by omega,by omega,by omega,by omega,by simp,rfl,?_⟩ ?_
 ·simp only[dX,keepR,Nat.reduceAdd,tK,Nat.reduceBEq,List.map_nil]
  rfl
 rintro m S ⟨a,b,i,k,R,rfl,hal,hbl,hi,hk,hR,xH,rfl⟩
 have hend:¬ (a<old.length∧b<now.length)→(sj (now.length-k) R i k old.length)=ow old now:=λh=>by
  rw[ow,←xH]
  cases hm:old.length-a+(now.length-b) with
  | zero=>rfl
  | succ m=>rw[l9,if_neg h]
 by_cases hab:a<old.length∧b<now.length
 ·obtain⟨ha,hb⟩:=hab
  have ha':((a:Int)<(old.length:Int))=True:=eq_true (by omega)
  have hb':((b:Int)<(now.length:Int))=True:=eq_true (by omega)
  have zaI:(0≤(a:Int))=True:=eq_true (by omega)
  have zbI:(0≤(b:Int))=True:=eq_true (by omega)
  have hx:old[a]?=some (old.getD a []):=by
   rw[List.getD_eq_getElem?_getD,List.getElem?_eq_getElem ha];rfl
  have hy:now[b]?=some (now.getD b []):=by
   rw[List.getD_eq_getElem?_getD,List.getElem?_eq_getElem hb];rfl
  have hxl:=hlo _ (List.mem_of_getElem? hx)
  have hyl:=hln _ (List.mem_of_getElem? hy)
  have hm:old.length-a+(now.length-b)=(old.length-a+(now.length-b)-1)+1:=by omega
  rw[hm,l9,if_pos ⟨ha,hb⟩]at xH
  generalize old.getD a []=x at hx hxl xH
  generalize now.getD b []=y at hy hyl xH
  by_cases hxy:x=y
  ·have hxy':=eq_true hxy
   rw[if_pos hxy]at xH
   simp (maxSteps:=400000) only[↓aA,aB,BEq.rfl,seval,hQ,vZ]
   refine aY _ (Weak.refl _ _) ?_
   simp (maxSteps:=400000) only[↓aA,aB,BEq.rfl,seval,hQ,Wm,ha',hb',zaI,zbI,hx,hy,hxy',↓cu,toNat_natCast]
   refine⟨hxl,hyl,rG rfl rfl (Ej R 0 a b i k _ (by omega) (by omega) (by omega) hi ?_ hk)⟩
   have Yl:=zb (b-k) R i k a
   generalize sj (b-k) R i k a=G at Yl xH
   have hgb:G[b]?=some (G.getD b 0):=by
    rw[List.getD_eq_getElem?_getD,List.getElem?_eq_getElem (by omega)];rfl
   generalize G.getD b 0=z at hgb
   have hbG:((b:Int)<(G.length:Int))=True:=eq_true (by omega)
   simp (maxSteps:=400000) only[↓aA,aB,BEq.rfl,seval,hQ,Wm,vZ,zaI,zbI,hgb,hbG,Eb,toNat_natCast]
   refine⟨⟨by omega,by omega⟩,⟨by omega,by omega⟩,old.length-a+(now.length-b)-2,by omega,a+1,b+1,a+1,b+1,G.set b a,by omega,by omega,by omega,by omega,by omega,by rw[List.length_set];omega,?_,?_⟩
   ·rw[←xH];exact vK _ _ (by omega) (by omega)
   ·rw[List.map_set,natCast_add,natCast_add];rfl
  ·have hxy':=eq_false hxy
   rw[if_neg hxy]at xH
   obtain⟨r1,hg1,e1⟩:∃r,(dm old now)[a+1]?=some r∧(dm old now).getD (a+1) []=r:=by
    rw[List.getD_eq_getElem?_getD,List.getElem?_eq_getElem (by rw[rD];omega)];exact⟨_,rfl,rfl⟩
   obtain⟨r0,hg0,e0⟩:∃r,(dm old now)[a]?=some r∧(dm old now).getD a []=r:=by
    rw[List.getD_eq_getElem?_getD,List.getElem?_eq_getElem (by rw[rD];omega)];exact⟨_,rfl,rfl⟩
   have hl1:=xG _ _ _ (List.mem_of_getElem? hg1)
   have hl0:=xG _ _ _ (List.mem_of_getElem? hg0)
   have f1:GX (dm old now) (a+1) b=r1.getD b 0:=by rw[GX,e1]
   have f0:GX (dm old now) a (b+1)=r0.getD (b+1) 0:=by rw[GX,e0]
   rw[f0,f1]at xH
   have hq1:r1[b]?=some (r1.getD b 0):=by
    rw[List.getD_eq_getElem?_getD,List.getElem?_eq_getElem (by omega)];rfl
   have hq0:r0[b+1]?=some (r0.getD (b+1) 0):=by
    rw[List.getD_eq_getElem?_getD,List.getElem?_eq_getElem (by omega)];rfl
   generalize r1.getD b 0=p at hq1 xH
   generalize r0.getD (b+1) 0=q at hq0 xH
   have za1:(0≤(a:Int)+1)=True:=eq_true (by omega)
   have zb1:(0≤(b:Int)+1)=True:=eq_true (by omega)
   have ta1:((a:Int)+1).toNat=a+1:=by omega
   have tb1:((b:Int)+1).toNat=b+1:=by omega
   by_cases hpq:q≤p
   ·have YZ:=eq_true hpq
    rw[if_pos hpq]at xH
    simp (maxSteps:=400000) only[↓aA,aB,BEq.rfl,seval,hQ,vZ]
    refine aY _ (Weak.refl _ _) ?_
    simp (maxSteps:=400000) only[↓aA,aB,BEq.rfl,seval,hQ,Wm,ha',hb',zaI,zbI,hx,hy,hxy',↓cu,toNat_natCast,za1,zb1,ta1,tb1,hg1,hg0,hq1,hq0,YZ]
    refine⟨hxl,hyl,⟨by omega,by omega⟩,⟨by omega,by omega⟩,⟨by omega,by omega⟩,old.length-a+(now.length-b)-1,by omega,a+1,b,i,k,R,by omega,by omega,by omega,hi,hk,hR,xH,by rw[natCast_add];rfl⟩
   ·have YZ:=eq_false hpq
    rw[if_neg hpq]at xH
    simp (maxSteps:=400000) only[↓aA,aB,BEq.rfl,seval,hQ,vZ]
    refine aY _ (Weak.refl _ _) ?_
    simp (maxSteps:=400000) only[↓aA,aB,BEq.rfl,seval,hQ,Wm,ha',hb',zaI,zbI,hx,hy,hxy',↓cu,toNat_natCast,za1,zb1,ta1,tb1,hg1,hg0,hq1,hq0,YZ]
    refine⟨hxl,hyl,⟨by omega,by omega⟩,⟨by omega,by omega⟩,⟨by omega,by omega⟩,old.length-a+(now.length-b)-1,by omega,a,b+1,i,k,R,by omega,by omega,by omega,hi,hk,hR,xH,by rw[natCast_add];rfl⟩
 ·have he:=hend hab
  rcases Nat.lt_or_ge a old.length with ha | ha
  ·have ha':((a:Int)<(old.length:Int))=True:=eq_true (by omega)
   have hb':((b:Int)<(now.length:Int))=False:=eq_false (by omega)
   simp (maxSteps:=400000) only[↓aA,aB,BEq.rfl,seval,hQ,vZ]
   refine aY _ (Weak.refl _ _) ?_
   simp (maxSteps:=400000) only[↓aA,aB,BEq.rfl,seval,hQ,Wm,ha',hb']
   refine rG rfl rfl (Ej R 0 old.length now.length i k _ ho (by omega) (by omega) hi ?_ hk)
   rw[he]
   simp (maxSteps:=400000) only[↓aA,aB,BEq.rfl,seval,hQ,Wm,vZ]
  ·have ha':((a:Int)<(old.length:Int))=False:=eq_false (by omega)
   simp (maxSteps:=400000) only[↓aA,aB,BEq.rfl,seval,hQ,vZ]
   refine aY _ (Weak.refl _ _) ?_
   simp (maxSteps:=400000) only[↓aA,aB,BEq.rfl,seval,hQ,Wm,ha']
   refine rG rfl rfl (Ej R 0 old.length now.length i k _ ho (by omega) (by omega) hi ?_ hk)
   rw[he]
   simp (maxSteps:=400000) only[↓aA,aB,BEq.rfl,seval,hQ,Wm,vZ]
def rH:fu:=λargs objs K=>match args with
 | [a0,a1]=>jF dV a0 (HK.mk:HK λa=>jF dV a1 (HK.mk:HK λb=>(a.length≤1000000)∧(b.length≤1000000)∧(∀v∈a,v.length≤1000000)∧(∀v∈b,v.length≤1000000)∧K (encI (ow a b)) objs 0))
 | _=>False
theorem Fy:aQ Tryz.prog 94 (rH):=by
 intro args objs K h
 unfold rH at h
 split at h
 ·rename_i a0 a1
  obtain⟨a,rfl,b,rfl,h1,h2,h3,h4,hk⟩:=h
  exact⟨_,_,_,.pure _ rfl (Je a b h1 h2 h3 h4),hk⟩
 ·exact h.elim
end Lp
namespace Lp
open Go Go.Proofs
theorem LM(l:List Int)(x:Int)(hl:l.length≤4611686018427387904):av Tryz.prog 121 [encI l,.int .i64 x] [] (.int .i64 (idxOf (λy=>decide (x=y)) l)) []:=by
 refine oK.cZ (T:=bH Tryz.prog []) 0 hD (ax au) bM (by decide) λQ hQ=>?_
 (conv=>arg 4;cbv);simp (maxSteps:=400000) only[↓aA,aB,BEq.rfl,seval,hQ]
 refine bA (λm S=>∃i:Nat,i+m=l.length∧(∀(j:Nat) y,j<i→l[j]?=some y→decide (x=y)=false)∧S=⟨dR 19 [(0,encI l),(1,.int .i64 x),(7,.int .i64 l.length),(8,.int .i64 i)],[]⟩) l.length ⟨0,by omega,λj y h=>absurd h (Nat.not_lt_zero j),?_⟩ ?_
 ·simp only[dX,keepR,Nat.reduceAdd,tK,Nat.reduceBEq,List.map_nil]
  rfl
 rintro m S ⟨i,him,hb,rfl⟩
 rcases Nat.lt_or_ge i l.length with h | h
 rotate_left 1
 ·have hlt:((i:Int)<(l.length:Int))=False:=eq_false (by omega)
  have hr:=xw (l:=l) λj y hj=>hb j y (by have:=(List.getElem?_eq_some_iff.1 hj).1;omega) hj
  simp (maxSteps:=400000) only[↓aA,aB,BEq.rfl,seval,hQ,hlt,hr]
 have hlt:((i:Int)<(l.length:Int))=True:=eq_true (by omega)
 have zi:(0≤(i:Int))=True:=eq_true (by omega)
 have hgi:=List.getElem?_eq_getElem h
 generalize l[i]=o at hgi
 by_cases hp:x=o
 ·have hr:idxOf (λy=>decide (x=y)) l=i:=idxOf_hit hgi (decide_eq_true hp) hb
  have hp':=eq_true hp
  simp (maxSteps:=400000) only[↓aA,aB,BEq.rfl,seval,hQ,hlt,zi,hgi,hp',hr]
 ·have hp':=eq_false hp
  simp (maxSteps:=400000) only[↓aA,aB,BEq.rfl,seval,hQ,hlt,zi,hgi,hp']
  refine⟨⟨by omega,by omega⟩,m-1,by omega,i+1,by omega,λj y hj hy=>?_,rfl⟩
  rcases Nat.lt_or_ge j i with g | g
  ·exact hb j y g hy
  ·have:j=i:=by omega
   subst this
   rw[hgi]at hy;cases hy
   exact decide_eq_false hp
def vM:fu:=λargs objs K=>match args with
 | [a0,.int .i64 x]=>jF encI a0 (HK.mk:HK λl=>(l.length≤4611686018427387904)∧K (.int .i64 (idxOf (λy=>decide (x=y)) l)) objs 0)
 | _=>False
theorem Jf:aQ Tryz.prog 121 (vM):=by
 intro args objs K h
 unfold vM at h
 split at h
 ·rename_i a0 x
  obtain⟨l,rfl,h1,hk⟩:=h
  exact⟨_,_,_,.pure _ rfl (LM l x h1),hk⟩
 ·exact h.elim
theorem LP(l:List Int)(x:Int)(hl:l.length≤4611686018427387904):av Tryz.prog 96 [encI l,.int .i64 x] [] (.bool (l.any λy=>decide (x=y))) []:=by
 refine mF.cZ (T:=bH Tryz.prog [(121,vM)]) 0 hD (ax (af Jf au)) bM (by decide) λQ hQ=>?_
 (conv=>arg 4;cbv);simp (maxSteps:=400000) only[↓aA,aB,BEq.rfl,seval,hQ,↓vM,Ao]
 exact hl
def qp:fu:=λargs objs K=>match args with
 | [a0,.int .i64 x]=>jF encI a0 (HK.mk:HK λl=>(l.length≤4611686018427387904)∧K (.bool (l.any λy=>decide (x=y))) objs 0)
 | _=>False
theorem Jg:aQ Tryz.prog 96 (qp):=by
 intro args objs K h
 unfold qp at h
 split at h
 ·rename_i a0 x
  obtain⟨l,rfl,h1,hk⟩:=h
  exact⟨_,_,_,.pure _ rfl (LP l x h1),hk⟩
 ·exact h.elim
def Fz(v:List Stp):Obj:=⟨43,3,v.map encS,true,0⟩
theorem uz(v:List Stp):bg [Fz v]:=by
 intro o ho x hx p hp
 simp only[List.mem_singleton]at ho
 subst ho
 simp only[Fz,List.mem_map]at hx
 obtain⟨n,_,rfl⟩:=hx
 simp only[encS,PV.cells,List.mem_cons,List.not_mem_nil,or_false]at hp
 rcases hp with rfl | rfl | rfl<;>rfl
theorem Ux(d n:Nat)(objs:List Obj)(v:List Stp):(v.map encS).map (PV.bI (fB d n objs))=v.map encS:=by
 rw[List.map_map]
 exact List.map_congr_left λx _=>rfl
theorem El(sz:Nat):av Tryz.prog 116 [.sl sz [] (some true)] [] (.aW 0 0) [Fz []]:=by
 refine fA.made (T:=bH Tryz.prog []) 0 hD (ax au) bM ?_
 (conv=>arg 4;cbv);simp only[↓JH,QY,↓MB,↓Gv,↓MC,Gw,↓vU,↓r_,Gy,Nt,Nat.reduceAdd,Nat.reduceSub,z_,Xn,dL,Sl,Pw,Dr,fE,forall_const,reduceCtorEq,false_imp_iff,and_true,TK.slice.injEq,exists_eq',true_and]
 exact⟨_,0,0,_,Weak.Gf 2 43 3 rfl (by decide),rfl,rfl,rfl,rfl,rfl,uz []⟩
theorem LQ(v:List Stp)(hv:v.length≤1099511627776):av Tryz.prog 116 [.sl 3 (v.map encS) (some false)] [] (.aW 0 0) [Fz v]:=by
 refine fA.made (T:=bH Tryz.prog []) 0 hD (ax au) bM ?_
 (conv=>arg 4;cbv);simp only[↓JH,QY,↓MB,↓Gv,↓MC,Gw,↓vU,↓r_,Gy,Nt,Nat.reduceAdd,Nat.reduceSub,z_,Xn,dL,Sl,Pw,Dr,fE,forall_const,reduceCtorEq,false_imp_iff,and_true,TK.slice.injEq,exists_eq',true_and]
 simp only[bB,dh,kX,newObj,gy,dL,ne_eq,reduceCtorEq,not_false_eq_true,true_and,if_true,List.all_nil,Nat.zero_mul,Nat.zero_le,List.nil_append,List.length_nil,List.getElem?_cons_zero,Option.some.injEq]
 refine⟨rfl,rfl,rfl,rfl,?_,_,rfl,rfl,rfl,rfl,rfl,?_,?_,λ_ _ h=>h.elim,_,0,2,_,Weak.refl _ _,rfl,rfl,rfl,rfl,?_,uz v⟩
 ·intro y hy
  obtain⟨n,_,rfl⟩:=List.mem_map.1 hy
  exact⟨rfl,rfl⟩
 ·simp;omega
 ·simp;omega
 ·simp only[eO,Fz,List.replicate_zero,List.nil_append,Ux]
theorem LU(v:List Stp)(hv:v.length≤1099511627776):av Tryz.prog 116 [bJ v] [] (.aW 0 0) [Fz v]:=
 av.split (pre:=[]) (post:=[]) (λh=>by
  have:v=[]:=by simpa using h
  subst this
  exact El 3) (LQ v hv)
def bO(p:List Stp):PV:=if p=[] then .sl 0 [] (some true) else bJ p
theorem LV(p:List Stp):eY (bO p) (bJ p):=by
 unfold bO
 split
 ·rename_i h;subst h;exact ig 0 3
 ·exact .refl _
def xI:fu:=λargs objs K=>∃p:List Stp,args=[bO p]∧p.length≤1000000∧K (.aW objs.length 0) (objs++[Fz p]) 2
theorem FB:aQ Tryz.prog 116 xI:=by
 rintro args objs K ⟨p,rfl,hp,hk⟩
 have hs:av Tryz.prog 116 [bO p] [] (.aW 0 0) [Fz p]:=by
  unfold bO
  split
  ·rename_i h;subst h;exact El 0
  ·exact LU p (by omega)
 exact⟨_,_,_,kJ.made (objs:=objs) _ _ (by unfold bO;split<;>rfl) (uz p) hs,by simpa[PV.shift,PV.jO] using hk⟩
theorem lq(x:Stp):fB 1 0 [⟨43,3,[encS x],true,1⟩] (.aT 0 1 0 0)=.addr (encS x):=rfl
theorem Ot:PV.uR (.agg ⟨[.bool false,.string ⟨⟨[]⟩⟩,.int .i64 0]⟩)=encS ⟨false,[],0⟩:=rfl
theorem abQ(l:List Stp)(x:Stp):l.map encS++[encS x]=(l++[x]).map encS:=by simp
theorem vN(p:List Stp):(bO p).pure=true∧(∀d m O,iH d m O (bO p)=bO p)∧(∀d m O,fB d m O (bO p)=bO p)∧(bO p).cells=[bO p]∧(bO p).isAgg=false∧(bO p).ref=false∧(bO p).lg=true∧(bO p).storable=true:=by
 unfold bO
 split
 all_goals exact⟨rfl,λ_ _ _=>rfl,λ_ _ _=>rfl,rfl,rfl,rfl,rfl,rfl⟩
theorem Zu(p:List Stp)(objs:List Obj)(K:KT):oI D 36 (bO p) objs K=K (.int .i64 p.length) objs 0:=by
 unfold bO
 split
 ·rename_i h;subst h;simp only[oI,dL];rfl
 ·simp only[oI,bJ,dL,List.length_map]
theorem pqB(p:List Stp)(objs:List Obj)(K:KT):xI [bO p] objs K=(p.length≤1000000∧K (.aW objs.length 0) (objs++[Fz p]) 2):=by
 refine propext ⟨λ⟨q,he,h⟩=>?_,λh=>⟨p,rfl,h⟩⟩
 have:p=q:=by
  simp only[List.cons.injEq,and_true]at he
  unfold bO at he
  split at he<;>split at he
  ·rename_i h1 h2;rw[h1,h2]
  ·simp[bJ]at he
  ·simp[bJ]at he
  ·exact j4 _ _ he
 subst this
 exact h
theorem RH(p:List Stp)(x:Stp)(hp:p.length≤1000):av Tryz.prog 93 [bO p,encS x] [] (bJ (p++[x])) []:=by
 refine KN.cZ (T:=bH Tryz.prog [(116,xI)]) 1 hD (ax (af FB au)) bM (by decide) λQ hQ=>?_
 (conv=>arg 4;cbv);simp (maxSteps:=400000) only[↓aA,aB,BEq.rfl,seval,hQ,vN]
 refine aY _ (Weak.freeze 1 0 (Nat.zero_le _) _) ?_
 simp (maxSteps:=400000) only[↓aA,aB,BEq.rfl,seval,hQ,pqB,vN,Fz,lq,Ot,abQ]
 exact⟨by omega,by omega,by omega,by decide⟩
def zu:fu:=λargs objs K=>∃(p:List Stp) (x:Stp),args=[bO p,encS x]∧p.length≤1000∧K (bJ (p++[x])) objs 0
theorem Bq:aQ Tryz.prog 93 zu:=by
 rintro args objs K ⟨p,x,rfl,hp,hk⟩
 exact⟨_,_,_,.pure _ (by simp[(vN p).1];rfl) (RH p x hp),hk⟩
theorem RI{p q:List Stp}(he:bO p=bO q):p=q:=by
 unfold bO at he
 split at he<;>split at he
 ·rename_i h1 h2;rw[h1,h2]
 ·simp[bJ]at he
 ·simp[bJ]at he
 ·exact j4 _ _ he
theorem Wn(p:List Stp)(x:Stp)(objs:List Obj)(K:KT):zu [bO p,encS x] objs K=(p.length≤1000∧K (bJ (p++[x])) objs 0):=by
 refine propext ⟨λ⟨q,y,he,h⟩=>?_,λh=>⟨p,x,rfl,h⟩⟩
 simp only[List.cons.injEq,and_true]at he
 obtain⟨h1,h2⟩:=he
 obtain rfl:=RI h1
 obtain rfl:=qg _ _ h2
 exact h
def oz(k:Int)(p v:PV):PV:=.agg [.int .i64 k,p,v]
theorem Aw(objs:List Obj)(K:KT) :
  (∀b k,cO D 43 [(0,.bool b),(2,.int .i64 k)] objs K=K (encS ⟨b,[],k⟩) objs 0)∧
  (∀s,cO D 43 [(1,.str s)] objs K=K (encS ⟨false,s,0⟩) objs 0)∧
  (∀k p,cO D 38 [(0,.int .i64 k),(1,bJ p)] objs K=K (oz k (bJ p) (.sl 0 [] (some true))) objs 0)∧
  (∀k p v,cO D 38 [(0,.int .i64 k),(1,bJ p),(2,ak v)] objs K=K (oz k (bJ p) (ak v)) objs 0)∧
  (∀k p v,cO D 38 [(0,.int .i64 k),(1,bO p),(2,ak v)] objs K=K (oz k (bO p) (ak v)) objs 0):=by
 have z:aG (D 43)=encS ⟨false,[],0⟩:=by kernel_rfl
 have a:(D 43).agg=true:=by kernel_rfl
 have z2:aG (D 38)=.agg [.int .i64 0,.sl 0 [] (some true),.sl 0 [] (some true)]:=by kernel_rfl
 have a2:(D 38).agg=true:=by kernel_rfl
 simp only[dL]at z a z2 a2
 refine⟨λb k=>?_,λs=>?_,λk p=>?_,λk p v=>?_,λk p v=>?_⟩
 ·simp[cO,mr,a,z,dL,mO,encS,PV.isAgg,sK,PV.cells,PV.storable,PV.lg,PV.pure]
 ·simp[cO,mr,a,z,dL,mO,encS,PV.isAgg,sK,PV.cells,PV.storable,PV.lg,PV.pure]
 ·simp[cO,mr,a2,z2,dL,mO,oz,bJ,ak,sK,PV.cells,PV.isAgg,PV.storable,PV.lg,PV.pure]
 ·simp[cO,mr,a2,z2,dL,mO,oz,bJ,ak,sK,PV.cells,PV.isAgg,PV.storable,PV.lg,PV.pure]
 ·unfold bO
  split
  all_goals simp[cO,mr,a2,z2,dL,mO,oz,bJ,ak,sK,PV.cells,PV.isAgg,PV.storable,PV.lg,PV.pure]
end Lp
namespace Lp
open Go
def pM(a b:Vl):List (List UInt8):=o9 (aS a++(aS b).filter λx=>!(aS a).contains x)
def wL(g:List Stp→Vl→Vl→List Ed)(p:List Stp)(a b:Vl)(nm:List UInt8):List Ed:=
 if kE b nm then
  if kE a nm then g (p++[⟨false,nm,0⟩]) (eZ a nm) (eZ b nm)
  else [⟨1,p++[⟨false,nm,0⟩],eZ b nm⟩]
 else [⟨2,p++[⟨false,nm,0⟩],[]⟩]
def jA(p:List Stp)(n:Nat)(at':List Int)(k:Nat):List Ed:=
 ((List.range k).map λj=>n-1-j).flatMap λ(k:Nat)=>if (at'.any λy=>decide ((k:Int)=y)) then [] else [⟨2,p++[⟨true,[],k⟩],[]⟩]
def oC(p:List Stp)(n:Nat)(at':List Int):List Ed:=jA p n at' n
theorem uD(p:List Stp)(n:Nat)(at':List Int)(k:Nat) :
  jA p n at' (k+1)=jA p n at' k++if (at'.any λy=>decide (((n-1-k:Nat):Int)=y)) then [] else [⟨2,p++[⟨true,[],(n-1-k:Nat)⟩],[]⟩]:=by
 simp only[jA,List.range_succ,List.map_append,List.flatMap_append,List.map_cons,List.map_nil,List.flatMap_cons,List.flatMap_nil,List.append_nil]
theorem Ou(p:List Stp)(n:Nat)(at':List Int){k:Nat}(h:k≤n):∃l,oC p n at'=jA p n at' k++l:=by
 have key:∀(m:Nat),∃l,jA p n at' (k+m)=jA p n at' k++l:=by
  intro m
  induction m with
  | zero=>exact⟨[],by simp⟩
  | succ m ih=>
   obtain⟨l,hl⟩:=ih
   exact⟨_,by rw[←Nat.add_assoc,uD,hl,List.append_assoc]⟩
 obtain⟨l,hl⟩:=key (n-k)
 rw[show k+(n-k)=n by omega]at hl
 exact⟨l,hl⟩
def Em(g:List Stp→Vl→Vl→List Ed)(p:List Stp)(old now:List Vl)(at':List Int)(i:Nat):List Ed:=
 if 0≤at'.getD i 0 then g (p++[⟨true,[],i⟩]) (old.getD (at'.getD i 0).toNat []) (now.getD i [])
 else [⟨1,p++[⟨true,[],i⟩],now.getD i []⟩]
def rJ(g:List Stp→Vl→Vl→List Ed)(p:List Stp)(old now:List Vl):List Ed:=
 oC p old.length (ow old now)++(List.range now.length).flatMap (Em g p old now (ow old now))
def bG:Nat→List Stp→Vl→Vl→List Ed
 | 0,p,a,b=>if a=b then [] else [⟨0,p,b⟩]
 | f+1,p,a,b=>
  if a=b then []
  else if bD a=6∧bD b=6 then (pM a b).flatMap (wL (bG f) p a b)
  else if bD a=5∧bD b=5 then rJ (bG f) p (aD a) (aD b)
  else [⟨0,p,b⟩]
def mI(e:Ed):PV:=oz e.kind (bO e.p) (if e.kind=2 then .sl 0 [] (some true) else ak e.v)
def iF(l:List Ed):List (List PV):=l.map λe=>[mI e]
theorem LW(p:List Stp)(x:Stp)(v:Vl):mI ⟨1,p++[x],v⟩=oz 1 (bJ (p++[x])) (ak v):=by
 simp[mI,bO]
theorem Uy(p:List Stp)(v:Vl):mI ⟨0,p,v⟩=oz 0 (bO p) (ak v):=by simp[mI]
theorem GZ(p:List Stp)(x:Stp)(v:Vl):mI ⟨2,p++[x],v⟩=oz 2 (bJ (p++[x])) (.sl 0 [] (some true)):=by
 simp[mI,bO]
theorem vO(k:Int)(p v:PV)(h1:p.ref=false)(h2:v.ref=false):(oz k p v).pure=true:=by
 show ((!PV.ref (.int .i64 k)) && ((!p.ref) && ((!v.ref) && true)))=true
 rw[h1,h2];rfl
theorem zw{l1 l2 l3:List Ed}{e:Ed}:(iF (l1++(e::l2++l3)))[l1.length]?=some [mI e]:=by
 simp[iF]
theorem G5{l1 l2 l3:List Ed}{j:Nat}{x:List PV}(h:(iF l2)[j]?=some x):(iF (l1++(l2++l3)))[l1.length+j]?=some x:=by
 have hj:j<l2.length:=by
  have:=(List.getElem?_eq_some_iff.1 h).1
  simpa[iF] using this
 simp only[iF,List.map_append]
 rw[List.getElem?_append_right (by simp),List.length_map,Nat.add_sub_cancel_left,List.getElem?_append_left (by simpa using hj)]
 exact h
theorem fF(l:List Ed):(iF l).length=l.length:=by simp[iF]
def mg(g:List Stp→Vl→Vl→List Ed)(p:List Stp)(old now:List Vl)(at':List Int)(i:Nat):List Ed:=(List.range i).flatMap (Em g p old now at')
theorem En(g:List Stp→Vl→Vl→List Ed)(p:List Stp)(old now:List Vl)(at':List Int)(i:Nat):mg g p old now at' (i+1)=mg g p old now at' i++Em g p old now at' i:=by
 simp only[mg,List.range_succ,List.flatMap_append,List.flatMap_cons,List.flatMap_nil,List.append_nil]
theorem RJ(g:List Stp→Vl→Vl→List Ed)(p:List Stp)(old now:List Vl)(at':List Int){i n:Nat}(h:i≤n):∃l,mg g p old now at' n=mg g p old now at' i++l:=by
 have key:∀(m:Nat),∃l,mg g p old now at' (i+m)=mg g p old now at' i++l:=by
  intro m
  induction m with
  | zero=>exact⟨[],by simp⟩
  | succ m ih=>
   obtain⟨l,hl⟩:=ih
   exact⟨_,by rw[←Nat.add_assoc,En,hl,List.append_assoc]⟩
 obtain⟨l,hl⟩:=key (n-i)
 rw[show i+(n-i)=n by omega]at hl
 exact⟨l,hl⟩
end Lp
namespace Lp
open Go
structure BM (R:List Int) (k:Nat) (i:Int):Prop where
 lt:∀(x:Nat) u,R[x]?=some u→0≤u→x<k∧u<i
 up:∀(x y:Nat) u v,x<y→R[x]?=some u→R[y]?=some v→0≤u→0≤v→u<v
theorem BM.le {R:List Int}{k k':Nat}{i i':Int}(h:BM R k i)(hk:k≤k')(hi:i≤i'):BM R k' i':=
 ⟨λx u hx hu=>by have:=h.lt x u hx hu;omega,h.up⟩
theorem BM.set {R:List Int}{k i:Nat}(h:BM R k i):BM (R.set k (i:Int)) (k+1) (i+1:Nat):=by
 have hx:∀(x:Nat) u,(R.set k (i:Int))[x]?=some u→(x=k∧u=i)∨(x≠k∧R[x]?=some u):=λx u hx=>by
  by_cases e:x=k
  ·subst e
   rw[List.getElem?_set]at hx
   simp only[if_true]at hx
   split at hx
   ·exact .inl ⟨rfl,(Option.some.inj hx).symm⟩
   ·cases hx
  ·rw[List.getElem?_set_ne (λh=>e h.symm)]at hx
   exact .inr ⟨e,hx⟩
 refine⟨λx u hxu hu=>?_,λx y u v hxy hxu hyv hu hv=>?_⟩
 ·rcases hx x u hxu with ⟨rfl,rfl⟩ | ⟨_,h1⟩
  ·omega
  ·have:=h.lt x u h1 hu;omega
 ·rcases hx x u hxu with ⟨rfl,rfl⟩ | ⟨e1,h1⟩
  ·rcases hx y v hyv with ⟨rfl,rfl⟩ | ⟨_,h2⟩
   ·omega
   ·have:=h.lt y v h2 hv;omega
  ·rcases hx y v hyv with ⟨rfl,rfl⟩ | ⟨_,h2⟩
   ·have:=h.lt x u h1 hu;omega
   ·exact h.up x y u v hxy h1 h2 hu hv
theorem Ay:∀(m:Nat){R:List Int}{i k:Nat}(a:Nat),BM R k i→i≤a→BM (sj m R i k a) (k+m) a
 | 0,_,_,_,_,h,hi=>h.le (by omega) (by omega)
 | m+1,R,i,k,a,h,hi=>by
  rw[sj]
  split
  ·exact (Ay m a h.set (by omega)).le (by omega) (Int.le_refl _)
  ·exact h.le (by omega) (by omega)
theorem vP{old now:List Vl}:∀(f a b i k:Nat){R:List Int},BM R k i→i≤a→k≤b→a≤old.length→b≤now.length→
  ∃i' k',(l9 old now f a b i k R).2=(i',k')∧BM (l9 old now f a b i k R).1 k' i'∧i'≤old.length∧k'≤now.length
 | 0,a,b,i,k,R,h,hi,hk,ha,hb=>⟨i,k,rfl,h,by omega,by omega⟩
 | f+1,a,b,i,k,R,h,hi,hk,ha,hb=>by
  rw[l9]
  split
  ·rename_i hab
   split
   ·refine vP f _ _ _ _ ?_ (Nat.le_refl _) (Nat.le_refl _) (by omega) (by omega)
    have:=Ay (b-k) a h hi
    rw[show k+(b-k)=b by omega]at this
    exact this.set
   ·split
    ·exact vP f _ _ _ _ h (by omega) hk (by omega) hb
    ·exact vP f _ _ _ _ h hi (by omega) ha (by omega)
  ·exact⟨i,k,rfl,h,by omega,by omega⟩
theorem Ov(old now:List Vl):BM (ow old now) now.length old.length:=by
 have h0:BM (List.replicate now.length (-1:Int)) 0 (0:Nat):=by
  have hn:∀(x:Nat) u,(List.replicate now.length (-1:Int))[x]?=some u→¬ 0≤u:=λx u hx hu=>by
   rw[List.getElem?_replicate]at hx
   split at hx
   ·cases hx;omega
   ·cases hx
  exact⟨λx u hx hu=>absurd hu (hn x u hx),λx y u v _ hx _ hu _=>absurd hu (hn x u hx)⟩
 obtain⟨i,k,e,h,hi,hk⟩:=vP (old:=old) (now:=now) (old.length+now.length) 0 0 0 0 h0 (Nat.le_refl _) (Nat.le_refl _) (Nat.zero_le _) (Nat.zero_le _)
 rw[ow]
 generalize l9 old now (old.length+now.length) 0 0 0 0 (List.replicate now.length (-1))=x at e h
 obtain⟨R,i',k'⟩:=x
 simp only[Prod.mk.injEq]at e
 obtain⟨rfl,rfl⟩:=e
 have:=Ay (now.length-k') old.length h hi
 rw[show k'+(now.length-k')=now.length by omega]at this
 exact this
end Lp
namespace Lp
open Go
open List (map_cons map_map mem_filter mem_range mem_singleton sum_cons)
theorem Cf{α:Type}[DecidableEq α](f:α→Nat):∀(l m:List α),l.Nodup→(∀x∈l,f x≠0→x∈m)→(l.map f).sum≤(m.map f).sum
 | [],_,_,_=>by simp
 | x::l,m,hn,h=>by
  obtain⟨hx,hn'⟩:=List.nodup_cons.1 hn
  by_cases h0:f x=0
  ·rw[map_cons,sum_cons,h0,Nat.zero_add]
   exact Cf f l m hn' λy hy=>h y (List.mem_cons_of_mem _ hy)
  ·have hm:=h x (List.mem_cons_self ..) h0
   have hp:=((List.perm_cons_erase hm).map f).sum_nat
   have:=Cf f l (m.erase x) hn' λy hy h1=>by
    refine (List.mem_erase_of_ne λe=>hx (by rw[←e];exact hy)).2 (h y (List.mem_cons_of_mem _ hy) h1)
   rw[map_cons,sum_cons]at hp ⊢
   omega
theorem Jh{α:Type}{f g:α→Nat}:∀{l:List α},(∀x∈l,f x≤g x)→(l.map f).sum≤(l.map g).sum
 | [],_=>by simp
 | x::l,h=>by
  have h1:=h x (List.mem_cons_self ..)
  have h2:=Jh (l:=l) λy hy=>h y (List.mem_cons_of_mem _ hy)
  simp only[map_cons,sum_cons]
  omega
theorem Ji{α:Type}{f g:α→Nat}:∀(l:List α),(l.map λx=>f x+g x).sum=(l.map f).sum+(l.map g).sum
 | []=>rfl
 | x::l=>by
  have:=Ji (f:=f) (g:=g) l
  simp only[map_cons,sum_cons]at *
  omega
theorem Jj{a b:Vl}(ha:(aS a).Nodup)(hb:(aS b).Nodup):(pM a b).Nodup:=by
 have h:(aS a++(aS b).filter λx=>!(aS a).contains x).Nodup:=by
  rw[List.nodup_append]
  refine⟨ha,hb.filter _,λx hx y hy e=>?_⟩
  subst e
  have:=(mem_filter.1 hy).2
  simp[hx]at this
 exact (List.mergeSort_perm ..).nodup_iff.2 h
theorem Ow{a b:Vl}{x:List UInt8}:x∈pM a b↔x∈aS a∨x∈aS b:=by
 rw[pM,o9,(List.mergeSort_perm ..).mem_iff,List.mem_append,mem_filter]
 by_cases h:x∈aS a<;>simp[h]
theorem Br{v:Vl}(h:Rt v)(hk:bD v=6):(aS v).Nodup:=by
 rw[(gV h hk).2.2.1]
 exact nM (gV h hk).1.rise
theorem Jk{v:Vl}(h:Rt v)(hk:bD v=6)(nm:List UInt8):kE v nm=true↔nm∈aS v:=by
 rw[kE,oM,if_pos hk,(gV h hk).2.2.1]
 cases hg:kg (jq v) nm with
 | none=>
  have:=zJ.1 hg
  simp only[Option.isSome_none,Bool.false_eq_true,this]
 | some w=>simpa using ⟨w,nu hg⟩
theorem Uz{v:Vl}{nm:List UInt8}(h:kE v nm=false):eZ v nm=[]:=by
 unfold kE at h
 unfold eZ
 cases ho:oM v nm with
 | none=>rfl
 | some w=>rw[ho]at h;cases h
theorem RL{v:Vl}{nm:List UInt8}(hr:Rt v)(hk:bD v=6)(h:kE v nm=true):(nm,eZ v nm)∈jq v:=by
 unfold kE at h
 unfold eZ
 cases ho:oM v nm with
 | none=>rw[ho]at h;cases h
 | some w=>rw[oM,if_pos hk]at ho;exact nu ho
theorem fields_sum{v:Vl}(hr:Rt v)(hk:bD v=6):((aS v).map λnm=>(eZ v nm).length).sum+1=v.length:=by
 obtain⟨h1,h2,h3,h4⟩:=gV hr hk
 have h5:=rq (jq v)
 rw[h2]at h5
 rw[h5,h3,map_map,List.length_flatten,map_map]
 congr 2
 refine List.map_congr_left λx hx=>?_
 have:kg (jq v) x.1=some x.2:=JN (nM h1.rise) hx
 simp only[Function.comp,eZ,oM,if_pos hk,this,Option.getD_some]
theorem uE{l:List Vl}:((List.range l.length).map λk=>(l.getD k []).length).sum=l.flatten.length:=by
 rw[List.length_flatten]
 congr 1
 apply List.ext_getElem
 ·simp
 ·intro i h1 h2
  simp only[List.getElem_map,List.getElem_range]
  rw[List.getD_eq_getElem?_getD,List.getElem?_eq_getElem (by simpa using h2)];rfl
theorem Az{v:Vl}(h:Rt v):1≤v.length:=List.length_pos_iff.2 h.one.ne
theorem Ox(p:List Stp)(n:Nat)(at':List Int)(k:Nat):(jA p n at' k).length=(((List.range k).map λj=>n-1-j).filter λ(k:Nat)=>!(at'.any λy=>decide ((k:Int)=y))).length:=by
 unfold jA
 generalize (List.range k).map (λj=>n-1-j)=l
 induction l with
 | nil=>rfl
 | cons x l ih=>
  rw[List.flatMap_cons,List.length_append,ih,List.filter_cons]
  split
  ·rename_i h;simp[h]
  ·rename_i h;simp[h];omega
theorem uF{α β:Type}(f:α→List β):∀l:List α,(l.flatMap f).length=(l.map λx=>(f x).length).sum
 | []=>rfl
 | x::l=>by rw[List.flatMap_cons,List.length_append,uF f l];rfl
theorem RN{g:List Stp→Vl→Vl→List Ed}{p:List Stp}{old now:List Vl}(hg:∀q x y,x∈old→y∈now→(g q x y).length≤x.length+y.length)
  (ho:∀x∈old,1≤x.length) (hn:∀y∈now,1≤y.length):(rJ g p old now).length≤old.flatten.length+now.flatten.length:=by
 obtain⟨R,hR⟩:∃R,ow old now=R:=⟨_,rfl⟩
 have hm:=Ov old now
 have hin:=LD old now
 have hlen:=GY old now
 rw[hR]at hm hin hlen
 unfold rJ
 rw[hR,List.length_append,oC,Ox,uF]
 have hget:∀{l:List Vl}{k:Nat},k<l.length→l.getD k []∈l:=λ{l k} h=>by
  rw[List.getD_eq_getElem?_getD,List.getElem?_eq_getElem h];exact List.getElem_mem h
 have hri:∀i,i<now.length→∃u,R[i]?=some u∧R.getD i 0=u∧-1≤u∧u<old.length:=λi hi=>by
  have hg:=List.getElem?_eq_getElem (hlen ▸ hi:i<R.length)
  exact⟨_,hg,by rw[List.getD_eq_getElem?_getD,hg];rfl,hin _ (List.mem_of_getElem? hg)⟩
 obtain⟨A,hA⟩:∃A,(((List.range old.length).map λj=>old.length-1-j).filter λ(k:Nat)=>!(R.any λy=>decide ((k:Int)=y)))=A:=⟨_,rfl⟩
 obtain⟨B,hB⟩:∃B,((List.range now.length).filter λi=>decide (0≤R.getD i 0))=B:=⟨_,rfl⟩
 rw[hA]
 have hAm:∀k∈A,k<old.length∧∀y∈R,(k:Int)≠y:=λk hk=>by
  rw[←hA,mem_filter,List.mem_map]at hk
  obtain⟨⟨j,hj,rfl⟩,h2⟩:=hk
  rw[mem_range]at hj
  refine⟨by omega,λy hy e=>?_⟩
  have:(R.any λz=>decide (((old.length-1-j:Nat):Int)=z))=true:=List.any_eq_true.2 ⟨y,hy,by simpa using e⟩
  rw[this]at h2;cases h2
 have hAn:A.Nodup:=by
  rw[←hA]
  refine List.Pairwise.filter _ ?_
  rw[List.pairwise_map]
  refine (List.pairwise_lt_range (n:=old.length)).imp_of_mem λ{a b} ha hb h=>?_
  rw[mem_range]at ha hb
  omega
 have hBm:∀i∈B,i<now.length∧0≤R.getD i 0:=λi hi=>by
  rw[←hB,mem_filter,mem_range]at hi
  exact⟨hi.1,of_decide_eq_true hi.2⟩
 have hBn:(B.map λi=>(R.getD i 0).toNat).Nodup:=by
  rw[List.Nodup,List.pairwise_map,←hB]
  refine List.Pairwise.imp_of_mem ?_ (List.Pairwise.filter _ (List.pairwise_lt_range (n:=now.length)))
  intro a b ha hb h
  rw[hB]at ha hb
  obtain⟨a1,a2⟩:=hBm a ha
  obtain⟨b1,b2⟩:=hBm b hb
  obtain⟨u,u1,u2,_⟩:=hri a a1
  obtain⟨v,v1,v2,_⟩:=hri b b1
  have:=hm.up a b u v h u1 v1 (by omega) (by omega)
  rw[u2,v2];omega
 have h1:((A++B.map λi=>(R.getD i 0).toNat).map λk=>(old.getD k []).length).sum≤((List.range old.length).map λk=>(old.getD k []).length).sum:=by
  refine Cf _ _ _ ?_ λx hx _=>?_
  ·rw[List.nodup_append]
   refine⟨hAn,hBn,λx hx y hy e=>?_⟩
   obtain⟨i,hi,rfl⟩:=List.mem_map.1 hy
   obtain⟨i1,i2⟩:=hBm i hi
   obtain⟨u,u1,u2,_⟩:=hri i i1
   exact (hAm x hx).2 u (List.mem_of_getElem? u1) (by rw[u2]at i2 e;omega)
  ·rw[mem_range]
   rcases List.mem_append.1 hx with hx | hx
   ·exact (hAm x hx).1
   ·obtain⟨i,hi,rfl⟩:=List.mem_map.1 hx
    obtain⟨i1,i2⟩:=hBm i hi
    obtain⟨u,u1,u2,u3,u4⟩:=hri i i1
    show (R.getD i 0).toNat< _
    omega
 rw[uE,List.map_append,List.sum_append,map_map]at h1
 have h2:A.length≤(A.map λk=>(old.getD k []).length).sum:=by
  have:(A.map λ_=>1).sum≤(A.map λk=>(old.getD k []).length).sum:=Jh λk hk=>ho _ (hget (hAm k hk).1)
  rw[List.map_const',List.sum_replicate_nat,Nat.mul_one]at this
  exact this
 have h3:((List.range now.length).map λi=>(Em g p old now R i).length).sum≤((List.range now.length).map λi=>(if 0≤R.getD i 0 then (old.getD (R.getD i 0).toNat []).length else 0)+(now.getD i []).length).sum:=by
  refine Jh λi hi=>?_
  rw[mem_range]at hi
  unfold Em
  split
  ·obtain⟨u,u1,u2,u3,u4⟩:=hri i hi
   exact hg _ _ _ (hget (by omega)) (hget hi)
  ·have:=hn _ (hget hi)
   simpa using this
 rw[Ji,uE]at h3
 have h4:((List.range now.length).map λi=>if 0≤R.getD i 0 then (old.getD (R.getD i 0).toNat []).length else 0).sum≤(B.map λi=>(old.getD (R.getD i 0).toNat []).length).sum:=by
  rw[←hB]
  generalize List.range now.length=l
  induction l with
  | nil=>simp
  | cons i l ih=>
   rw[map_cons,sum_cons,List.filter_cons]
   split<;>rename_i h
   ·rw[if_pos (by simpa using h),map_cons,sum_cons];omega
   ·rw[if_neg (by simpa using h)];omega
 simp only[Function.comp_def]at h1
 omega
theorem UA{g:List Stp→Vl→Vl→List Ed}{p:List Stp}{a b:Vl}(ha:Rt a)(hb:Rt b)(ka:bD a=6)(kb:bD b=6)(hg:∀q x y,x∈aD a→y∈aD b→(g q x y).length≤x.length+y.length) :
  ((pM a b).flatMap (wL g p a b)).length+2≤a.length+b.length:=by
 have hn:=Jj (Br ha ka) (Br hb kb)
 have mem:∀{v:Vl}{nm},Rt v→bD v=6→kE v nm=true→eZ v nm∈aD v:=λ{v nm} hr hk h=>by
  rw[(gV hr hk).2.2.2];exact List.mem_map.2 ⟨_,RL hr hk h,rfl⟩
 have hle:∀nm∈pM a b,(wL g p a b nm).length≤(eZ a nm).length+(eZ b nm).length:=λnm hm=>by
  unfold wL
  cases h1:kE b nm with
  | true=>
   have hB:=mem hb kb h1
   cases h2:kE a nm with
   | true=>simpa using hg _ _ _ (mem ha ka h2) hB
   | false=>
    have:=Az (eH hb hB).1
    simp;omega
  | false=>
   cases h2:kE a nm with
   | true=>
    have:=Az (eH ha (mem ha ka h2)).1
    simp;omega
   | false=>
    rcases Ow.1 hm with h | h
    ·rw[(Jk ha ka nm).2 h]at h2;cases h2
    ·rw[(Jk hb kb nm).2 h]at h1;cases h1
 have:=Jh hle
 rw[Ji,←uF]at this
 have sub:∀{v:Vl},Rt v→bD v=6→((pM a b).map λnm=>(eZ v nm).length).sum+1≤v.length:=λ{v} hr hk=>by
  rw[←fields_sum hr hk]
  refine Nat.add_le_add_right (Cf _ _ _ hn λx _ h0=>?_) 1
  refine (Jk hr hk x).1 ?_
  cases h:kE v x with
  | true=>rfl
  | false=>rw[Uz h]at h0;simp at h0
 have s1:=sub ha ka
 have s2:=sub hb kb
 omega
theorem xJ:∀(f:Nat) (p:List Stp) (a b:Vl),Rt a→Rt b→(bG f p a b).length≤a.length+b.length
 | 0,p,a,b,ha,hb=>by
  have:=Az hb
  unfold bG
  split<;>simp<;>omega
 | f+1,p,a,b,ha,hb=>by
  have:=Az hb
  unfold bG
  split
  ·simp
  split
  ·rename_i hk
   have:=UA (p:=p) ha hb hk.1 hk.2 λq x y hx hy=>xJ f q x y (eH ha hx).1 (eH hb hy).1
   omega
  split
  ·rename_i hk
   have h1:=d9 ha
   have h2:=d9 hb
   have:=RN (p:=p) (λq x y hx hy=>xJ f q x y (eH ha hx).1 (eH hb hy).1) (λx hx=>Az (eH ha hx).1) λx hx=>Az (eH hb hx).1
   omega
  ·simp;omega
theorem uG:∀(f:Nat) (p:List Stp) (a b:Vl) (e:Ed),e∈bG f p a b→e.kind=2→e.v=[]
 | 0,p,a,b,e,h,hk=>by
  unfold bG at h
  split at h
  ·cases h
  ·simp only[mem_singleton]at h;subst h;cases hk
 | f+1,p,a,b,e,h,hk=>by
  unfold bG at h
  split at h
  ·cases h
  split at h
  ·obtain⟨nm,_,h⟩:=List.mem_flatMap.1 h
   unfold wL at h
   split at h
   ·split at h
    ·exact uG f _ _ _ e h hk
    ·simp only[mem_singleton]at h;subst h;cases hk
   ·simp only[mem_singleton]at h;subst h;rfl
  split at h
  ·unfold rJ at h
   rcases List.mem_append.1 h with h | h
   ·unfold oC jA at h
    obtain⟨k,_,h⟩:=List.mem_flatMap.1 h
    split at h
    ·cases h
    ·simp only[mem_singleton]at h;subst h;rfl
   ·obtain⟨i,_,h⟩:=List.mem_flatMap.1 h
    unfold Em at h
    split at h
    ·exact uG f _ _ _ e h hk
    ·simp only[mem_singleton]at h;subst h;cases hk
  ·simp only[mem_singleton]at h;subst h;cases hk
end Lp
namespace Lp
open Go
open List (flatten_cons length_append)
def bV(v:Vl)(x:Stp):Vl×Int:=
 if x.part then (if bD v=5 then (match (aD v)[x.n.toNat]? with | some w=>(w,0) | none=>([],6)) else ([],5))
 else if bD v=6 then (match oM v x.name with | some w=>(w,0) | none=>([],6)) else ([],5)
def fe:List Stp→Vl→Vl×Int
 | [],v=>(v,0)
 | x::p,v=>if (bV v x).2=0 then fe p (bV v x).1 else ([],(bV v x).2)
def FC(v:Vl)(s:Stp)(y:Vl):Vl:=if s.part then oN ((aD v).set s.n.toNat y) else ql v s.name y
def iV:List Stp→Vl→Vl→Vl×Int
 | [],_,x=>(x,0)
 | s::p,v,x=>
  if (bV v s).2=0 then
   if (iV p (bV v s).1 x).2=0 then (FC v s (iV p (bV v s).1 x).1,0) else ([],(iV p (bV v s).1 x).2)
  else ([],(bV v s).2)
def cB(s:Stp):Bool:=if s.part then decide (s.name=[]) && decide (0≤s.n) && decide (s.n≤1000000) else decide (s.n=0) && utf s.name
def pO(p:List Stp):Bool:=p.all cB && decide (p.length≤20)
def iW(w:Vl)(n:Nat)(e:Ed):Vl×Int:=
 if bD w=5 then
  if e.kind=1 then (if (aD w).length<n then ([],4) else (oN ((aD w).take n++[e.v]++(aD w).drop n),0))
  else if (aD w).length≤n then ([],6) else (oN ((aD w).take n++(aD w).drop (n+1)),0)
 else ([],5)
def fo(w:Vl)(nm:List UInt8)(e:Ed):Vl×Int:=
 if bD w=6 then
  if e.kind=1 then (if kE w nm then ([],4) else (ql w nm e.v,0))
  else if kE w nm then (dY w nm,0) else ([],6)
 else ([],5)
def zx(w:Vl)(s:Stp)(e:Ed):Vl×Int:=if s.part then iW w s.n.toNat e else fo w s.name e
def fQ(e:Ed):Bool:=
 pO e.p && !(decide (e.p=[]) && !decide (e.kind=0)) && (if e.kind=0 then bK e.v else if e.kind=1 then bK e.v else if e.kind=2 then decide (e.v=[]) else false)
def zy(p:List Stp):Stp:=(p[p.length-1]?).getD ⟨false,[],0⟩
def Wo(p:List Stp)(v:Vl)(g:Vl→Vl×Int):Vl×Int:=
 if (fe p v).2=0 then
  if (g (fe p v).1).2=0 then iV p v (g (fe p v).1).1 else ([],(g (fe p v).1).2)
 else ([],(fe p v).2)
def h_(v:Vl)(e:Ed):Vl×Int:=
 if fQ e then
  if e.kind=0 then iV e.p v e.v
  else Wo (e.p.take (e.p.length-1)) v λw=>zx w (zy e.p) e
 else ([],4)
def m_:Vl→List Ed→Vl×Int
 | v,[]=>(v,0)
 | v,e::l=>if (h_ v e).2=0 then m_ (h_ v e).1 l else ([],(h_ v e).2)
theorem RO{v:Vl}{x:Stp}(h:¬ (bV v x).2=0):(bV v x).1=[]:=by
 revert h
 unfold bV
 split
 ·split
  ·split<;>simp
  ·simp
 ·split
  ·split<;>simp
  ·simp
theorem LX:∀(p:List Stp) (v:Vl),¬ (fe p v).2=0→(fe p v).1=[]
 | [],_,h=>absurd rfl h
 | x::p,v,h=>by
  rw[fe]at h ⊢
  split
  ·rename_i h0;rw[if_pos h0]at h;exact LX p _ h
  ·rfl
theorem Eo:∀(p:List Stp) (v x:Vl),¬ (iV p v x).2=0→(iV p v x).1=[]
 | [],_,_,h=>absurd rfl h
 | s::p,v,x,h=>by
  rw[iV]at h ⊢
  split
  ·rename_i h0
   rw[if_pos h0]at h
   split
   ·rename_i h1;rw[if_pos h1]at h;exact absurd rfl h
   ·rfl
  ·rfl
theorem UB{v:Vl}{e:Ed}(h:¬ (h_ v e).2=0):(h_ v e).1=[]:=by
 unfold h_ at h ⊢
 split
 ·rename_i h0
  rw[if_pos h0]at h
  split
  ·rename_i h1;rw[if_pos h1]at h;exact Eo _ _ _ h
  ·rename_i h1
   rw[if_neg h1]at h
   unfold Wo at h ⊢
   split
   ·rename_i h2
    rw[if_pos h2]at h
    split
    ·rename_i h3;rw[if_pos h3]at h;exact Eo _ _ _ h
    ·rfl
   ·rfl
 ·rfl
theorem LY:∀(l:List Ed) (v:Vl),¬ (m_ v l).2=0→(m_ v l).1=[]
 | [],_,h=>absurd rfl h
 | e::l,v,h=>by
  rw[m_]at h ⊢
  split
  ·rename_i h0;rw[if_pos h0]at h;exact LY l _ h
  ·rfl
def Nm(v:Vl):Prop:=∀n∈v,n.s.length≤4611686018427387904∧n.name.length≤1000000
theorem G6{v:Vl}{x:Stp}(hr:Rt v)(h:(bV v x).2=0):(bV v x).1∈aD v:=by
 revert h
 unfold bV
 split
 ·split
  ·split
   ·rename_i w hw;intro _;exact List.mem_of_getElem? hw
   ·intro h;cases h
  ·intro h;cases h
 ·split
  ·split
   ·rename_i hk _ w hw
    intro _
    rw[oM,if_pos hk]at hw
    have:=nu hw
    rw[(gV hr hk).2.2.2]
    exact List.mem_map.2 ⟨_,this,rfl⟩
   ·intro h;cases h
  ·intro h;cases h
theorem Ep{v:Vl}{x:Stp}(hr:Rt v)(hn:Nm v)(h:(bV v x).2=0):Rt (bV v x).1∧(bV v x).1.length<v.length∧Nm (bV v x).1:=by
 have hm:=G6 hr h
 have h1:=eH hr hm
 exact⟨h1.1,h1.2,q9 hr (q:=λn=>n.s.length≤4611686018427387904∧n.name.length≤1000000) (λn h=>⟨h.1,by simp⟩) hn _ hm⟩
theorem Jl:∀(p:List Stp) (v:Vl),Rt v→Nm v→(fe p v).2=0→Rt (fe p v).1∧(fe p v).1.length≤v.length∧Nm (fe p v).1
 | [],v,hr,hn,_=>⟨hr,Nat.le_refl _,hn⟩
 | x::p,v,hr,hn,h=>by
  rw[fe]at h ⊢
  split
  ·rename_i h0
   rw[if_pos h0]at h
   obtain⟨h1,h2,h3⟩:=Ep hr hn h0
   obtain⟨g1,g2,g3⟩:=Jl p _ h1 h3 h
   exact⟨g1,by omega,g3⟩
  ·rename_i h0;rw[if_neg h0]at h;exact absurd h h0
theorem UC{l:mK}(h:∀y∈l,y.1.length≤1000000∧Nm y.2):Nm (JL l):=by
 intro n hn
 rcases List.mem_cons.1 hn with rfl | hn
 ·simp
 ·obtain⟨p,hp,hnp⟩:=List.mem_flatten.1 hn
  obtain⟨y,hy,rfl⟩:=List.mem_map.1 hp
  obtain⟨h1,h2⟩:=h y hy
  cases hv:y.2 with
  | nil=>rw[hv]at hnp;simp[j_]at hnp
  | cons a t=>
   rw[hv]at hnp h2
   rcases List.mem_cons.1 hnp with rfl | hnp
   ·exact⟨(h2 a (by simp)).1,h1⟩
   ·exact h2 n (List.mem_cons_of_mem _ hnp)
theorem Oy{v:Vl}(hr:Rt v)(hk:bD v=6)(hv:Nm v):∀y∈jq v,y.1.length≤1000000∧Nm y.2:=by
 obtain⟨_,_,hN,hP⟩:=gV hr hk
 intro y hy
 exact⟨xD hr (λn h=>(hv n h).2) y.1 (by rw[hN];exact List.mem_map.2 ⟨y,hy,rfl⟩),q9 hr (q:=λn=>n.s.length≤4611686018427387904∧n.name.length≤1000000) (λn h=>⟨h.1,by simp⟩) hv y.2 (by rw[hP];exact List.mem_map.2 ⟨y,hy,rfl⟩)⟩
theorem Er{v x:Vl}(nm:List UInt8)(hr:Rt v)(hk:bD v=6)(hu:utf nm=true)(hx:Rt x):Rt (ql v nm x)∧bD (ql v nm x)=6∧(ql v nm x).length=(dY v nm).length+x.length∧jq (ql v nm x)=oH nm x (jL (jq v) nm)∧mV (jL (jq v) nm):=by
 obtain⟨w1,w2,w3,w4⟩:=xE nm hr hk
 obtain⟨hq,hmk,hN,hP⟩:=gV w1 w2
 rw[w4]at hq
 have hput:=O5 hq (Hq _ nm) hu hx
 refine⟨Sw hput,rfl,?_,O4 hput.rt,hq⟩
 have h1:=rq (jq (dY v nm))
 rw[hmk,w4]at h1
 have h2:=zK ((uP nm x (jL (jq v) nm)).map (·.2))
 rw[ql,rq,h2]
 simp only[List.map_cons,flatten_cons,length_append]
 omega
theorem PZ{v x:Vl}(nm:List UInt8)(hr:Rt v)(hk:bD v=6)(hn:Nm v)(hx:Nm x)(hl:nm.length≤1000000):Nm (ql v nm x):=by
 refine UC λy hy=>?_
 rcases (nN nm x _ y).1 hy with rfl | hy
 ·exact⟨hl,hx⟩
 ·exact Oy hr hk hn y (xY.1 hy).1
theorem Oz{v:Vl}(nm:List UInt8)(hr:Rt v)(hk:bD v=6)(hn:Nm v):Nm (dY v nm):=
 UC λy hy=>Oy hr hk hn y (xY.1 hy).1
theorem LZ{v:Vl}(hk:bD v=6)(nm:List UInt8):oM v nm=kg (jq v) nm:=by simp[oM,hk]
theorem L6{v w:Vl}{nm:List UInt8}(hr:Rt v)(hk:bD v=6)(hw:oM v nm=some w):(dY v nm).length+w.length=v.length:=by
 obtain⟨hq,hmk,_,_⟩:=gV hr hk
 rw[LZ hk]at hw
 have l0:=rq (jq v)
 rw[hmk]at l0
 have l1:(dY v nm).length=_:=rq (jL (jq v) nm)
 have p1:=zK ((uP nm w (jL (jq v) nm)).map (·.2))
 rw[Qc hq hw]at p1
 simp only[List.map_cons,flatten_cons,length_append]at p1
 omega
theorem Jm{l:List Vl}(h:∀v∈l,Nm v):Nm (oN l):=by
 intro n hn
 rcases List.mem_cons.1 hn with rfl | hn
 ·simp
 ·obtain⟨p,hp,hnp⟩:=List.mem_flatten.1 hn
  exact h p hp n hnp
theorem L8{v:Vl}(hr:Rt v)(hn:Nm v):∀p∈aD v,Rt p∧Nm p:=λp hp=>
 ⟨(eH hr hp).1,q9 hr (q:=λn=>n.s.length≤4611686018427387904∧n.name.length≤1000000) (λn h=>⟨h.1,by simp⟩) hn p hp⟩
theorem L9{v:Vl}(hr:Rt v)(hk:bD v=5):(aD v).flatten.length+1=v.length:=by
 obtain⟨n,r,rfl,_⟩:=b_ hr.name hr.one.ne
 have:=JK hr hk
 have h2:=congrArg List.length this
 exact h2
theorem zA{l:List Vl}{i:Nat}{w:Vl}(h:l[i]?=some w)(y:Vl):(l.set i y).flatten.length+w.length=l.flatten.length+y.length:=by
 induction l generalizing i with
 | nil=>simp at h
 | cons a l ih=>
  cases i with
  | zero=>
   simp only[List.getElem?_cons_zero,Option.some.injEq]at h
   subst h
   simp only[List.set_cons_zero,flatten_cons,length_append];omega
  | succ i=>
   have:=ih (i:=i) (by simpa using h)
   simp only[List.set_cons_succ,flatten_cons,length_append];omega
theorem Wp{v:Vl}{s:Stp}{y:Vl}(hr:Rt v)(hn:Nm v)(h:(bV v s).2=0)(hs:cB s=true)(hy:Rt y)(hyn:Nm y) :
  Rt (FC v s y)∧(FC v s y).length+(bV v s).1.length=v.length+y.length∧Nm (FC v s y):=by
 unfold FC
 unfold bV at h ⊢
 cases hp:s.part with
 | true=>
  simp only[hp,if_true]at h ⊢
  by_cases hk:bD v=5
  ·simp only[hk,if_true]at h ⊢
   cases hg:(aD v)[s.n.toNat]? with
   | none=>rw[hg]at h;cases h
   | some w=>
    simp only[Ap]
    have hl:=L9 hr hk
    have h2:=zA hg y
    have hm:∀p∈(aD v).set s.n.toNat y,Rt p∧Nm p:=λp hp=>by
     rcases List.mem_or_eq_of_mem_set hp with hp | rfl
     ·exact L8 hr hn p hp
     ·exact⟨hy,hyn⟩
    exact⟨Cr λp hp=>(hm p hp).1,by omega,Jm λp hp=>(hm p hp).2⟩
  ·rw[if_neg hk]at h;cases h
 | false=>
  simp only[hp,Bool.false_eq_true,if_false]at h ⊢
  by_cases hk:bD v=6
  ·simp only[hk,if_true]at h ⊢
   cases hg:oM v s.name with
   | none=>rw[hg]at h;cases h
   | some w=>
    have hu:utf s.name=true:=by
     unfold cB at hs
     simp only[hp,Bool.false_eq_true,if_false,Bool.and_eq_true]at hs
     exact hs.2
    obtain⟨f1,f2,f3,f4,f5⟩:=Er s.name hr hk hu hy
    have:=L6 hr hk hg
    refine⟨f1,by simp only;omega,PZ _ hr hk hn hyn ?_⟩
    rw[LZ hk]at hg
    exact (Oy hr hk hn _ (nu hg)).1
  ·rw[if_neg hk]at h;cases h
theorem Cg:∀(p:List Stp) (v x:Vl),Rt v→Nm v→(∀s∈p,cB s=true)→Rt x→Nm x→(iV p v x).2=0→
  Rt (iV p v x).1∧(iV p v x).1.length+(fe p v).1.length=v.length+x.length∧Nm (iV p v x).1
 | [],v,x,_,_,_,hx,hxn,_=>⟨hx,by simp[iV,fe];omega,hxn⟩
 | s::p,v,x,hr,hn,hp,hx,hxn,h=>by
  rw[iV]at h ⊢
  rw[fe]
  split
  ·rename_i h0
   rw[if_pos h0]at h
   obtain⟨a1,a2,a3⟩:=Ep hr hn h0
   split
   ·rename_i h1
    obtain⟨b1,b2,b3⟩:=Cg p _ x a1 a3 (λs' hs=>hp s' (List.mem_cons_of_mem _ hs)) hx hxn h1
    obtain⟨c1,c2,c3⟩:=Wp hr hn h0 (hp s (by simp)) b1 b3
    exact⟨c1,by simp only;omega,c3⟩
   ·rename_i h1;rw[if_neg h1]at h;exact absurd h h1
  ·rename_i h0;rw[if_neg h0]at h;exact absurd h h0
theorem P5{w:Vl}{s:Stp}{e:Ed}(hr:Rt w)(hn:Nm w)(hs:cB s=true)(hsn:s.name.length≤1000000)(hv:e.kind=1→Rt e.v∧Nm e.v)(h:(zx w s e).2=0) :
  Rt (zx w s e).1∧(zx w s e).1.length≤w.length+e.v.length∧Nm (zx w s e).1:=by
 revert h
 unfold zx iW fo
 split
 ·split
  ·rename_i hk
   have hl:=L9 hr hk
   have hps:=L8 hr hn
   have hfl:∀n:Nat,((aD w).take n).flatten.length+((aD w).drop n).flatten.length=(aD w).flatten.length:=λn=>by
    rw[←length_append,←List.flatten_append,List.take_append_drop]
   split
   ·rename_i h1
    obtain⟨v1,v2⟩:=hv h1
    split
    ·intro h;cases h
    ·intro _
     have hm:∀p∈(aD w).take s.n.toNat++[e.v]++(aD w).drop s.n.toNat,Rt p∧Nm p:=λp hp=>by
      rcases List.mem_append.1 hp with hp | hp
      ·rcases List.mem_append.1 hp with hp | hp
       ·exact hps p (List.mem_of_mem_take hp)
       ·simp only[List.mem_singleton]at hp;subst hp;exact⟨v1,v2⟩
      ·exact hps p (List.mem_of_mem_drop hp)
     refine⟨Cr λp hp=>(hm p hp).1,?_,Jm λp hp=>(hm p hp).2⟩
     have:=hfl s.n.toNat
     simp only[Ap,List.flatten_append,length_append,flatten_cons,List.flatten_nil,List.length_nil]
     omega
   ·split
    ·intro h;cases h
    ·intro _
     have hm:∀p∈(aD w).take s.n.toNat++(aD w).drop (s.n.toNat+1),Rt p∧Nm p:=λp hp=>by
      rcases List.mem_append.1 hp with hp | hp
      ·exact hps p (List.mem_of_mem_take hp)
      ·exact hps p (List.mem_of_mem_drop hp)
     refine⟨Cr λp hp=>(hm p hp).1,?_,Jm λp hp=>(hm p hp).2⟩
     have h1:=hfl s.n.toNat
     have h2:((aD w).drop (s.n.toNat+1)).flatten.length≤((aD w).drop s.n.toNat).flatten.length:=by
      rw[←List.drop_drop]
      cases (aD w).drop s.n.toNat<;>simp
     simp only[Ap,List.flatten_append,length_append]
     omega
  ·intro h;cases h
 ·rename_i hp
  have hu:utf s.name=true:=by
   unfold cB at hs
   rw[if_neg hp,Bool.and_eq_true]at hs
   exact hs.2
  split
  ·rename_i hk
   obtain⟨w1,w2,w3,w4⟩:=xE s.name hr hk
   split
   ·rename_i h1
    obtain⟨v1,v2⟩:=hv h1
    split
    ·intro h;cases h
    ·intro _
     obtain⟨f1,f2,f3,f4,f5⟩:=Er s.name hr hk hu v1
     exact⟨f1,by simp only;omega,PZ _ hr hk hn v2 hsn⟩
   ·split
    ·intro _
     exact⟨w1,by simp only;omega,Oz _ hr hk hn⟩
    ·intro h;cases h
  ·intro h;cases h
structure aaZ (e:Ed):Prop where
 zH:∀s∈e.p,s.name.length≤1000000
 val:Nm e.v
theorem zB{e:Ed}(h:fQ e=true):(∀s∈e.p,cB s=true)∧e.p.length≤20∧(e.kind=0∨e.kind=1∨e.kind=2)∧(e.kind≠2→Rt e.v)∧(e.kind=2→e.v=[])∧(e.kind≠0→e.p≠[]):=by
 unfold fQ pO at h
 simp only[Bool.and_eq_true,List.all_eq_true,decide_eq_true_eq,Bool.not_eq_true',Bool.and_eq_false_iff,decide_eq_false_iff_not,Bool.not_eq_false']at h
 obtain⟨⟨⟨h1,h2⟩,h3⟩,h4⟩:=h
 refine⟨h1,h2,?_⟩
 by_cases k0:e.kind=0
 ·rw[if_pos k0]at h4
  exact⟨.inl k0,λ_=>ni h4,λh=>by omega,λh=>absurd k0 h⟩
 rw[if_neg k0]at h4
 have hp:e.p≠[]:=by
  rcases h3 with h3 | h3
  ·exact h3
  ·exact absurd h3 k0
 by_cases k1:e.kind=1
 ·rw[if_pos k1]at h4
  exact⟨.inr (.inl k1),λ_=>ni h4,λh=>by omega,λ_=>hp⟩
 rw[if_neg k1]at h4
 by_cases k2:e.kind=2
 ·rw[if_pos k2]at h4
  exact⟨.inr (.inr k2),λh=>absurd k2 h,λ_=>of_decide_eq_true h4,λ_=>hp⟩
 ·rw[if_neg k2]at h4;cases h4
theorem G7{p:List Stp}(h:p≠[]):zy p∈p:=by
 have:0<p.length:=List.length_pos_iff.2 h
 unfold zy
 rw[List.getElem?_eq_getElem (by omega)]
 exact List.getElem_mem _
theorem Wq{v:Vl}{e:Ed}(hr:Rt v)(hn:Nm v)(he:aaZ e)(h:(h_ v e).2=0):Rt (h_ v e).1∧(h_ v e).1.length≤v.length+e.v.length∧Nm (h_ v e).1:=by
 unfold h_ at h ⊢
 cases hre:fQ e with
 | false=>rw[hre]at h;cases h
 | true=>
  rw[hre]at h
  simp only[if_true]at h ⊢
  obtain⟨r1,r2,r3,r4,r5,r6⟩:=zB hre
  split
  ·rename_i h0
   rw[if_pos h0]at h
   have hx:=r4 (by omega)
   obtain⟨a1,a2,a3⟩:=Cg e.p v e.v hr hn r1 hx he.val h
   exact⟨a1,by omega,a3⟩
  ·rename_i h0
   rw[if_neg h0]at h
   have hpn:=r6 h0
   have hls:=G7 hpn
   generalize hq:e.p.take (e.p.length-1)=q at *
   have hqr:∀s∈q,cB s=true:=λs hs=>r1 s (by rw[←hq]at hs;exact List.mem_of_mem_take hs)
   unfold Wo at h ⊢
   split
   ·rename_i h2
    rw[if_pos h2]at h
    obtain⟨g1,g2,g3⟩:=Jl q v hr hn h2
    split
    ·rename_i h3
     rw[if_pos h3]at h
     obtain⟨i1,i2,i3⟩:=P5 (e:=e) g1 g3 (r1 _ hls) (he.zH _ hls) (λh1=>⟨r4 (by omega),he.val⟩) h3
     obtain⟨a1,a2,a3⟩:=Cg q v _ hr hn hqr i1 i3 h
     refine⟨a1,?_,a3⟩
     show (iV q v (zx (fe q v).1 (zy e.p) e).1).1.length≤_
     omega
    ·rename_i h3;rw[if_neg h3]at h;exact absurd h h3
   ·rename_i h2;rw[if_neg h2]at h;exact absurd h h2
end Lp
namespace Lp
open Go Go.Proofs Go.Lib Go.RowKit
section
variable {P:Program}
theorem qw{ops:Array Oper}{o:Oper}{a:Act}{w:World}{K:Act→World→Prop}{Q:Exit→Act→World→Prop}{E:Prop}
  (hg:o.guard=none) (d x:Operand) (dT sT:TypeId) (hop:o.op=Op.call { callee:=Callee.builtin Builtin.append,args:=#[d,x],argTypes:=#[dT,sT] })
  (v u:Value) (hd:a.eval d=v) (hx:a.eval x=u){v':Value}{w':World}(hr:(Builtin.append_ #[dT,sT] o.type #[v,u]).run P w=.ok v' w') (hK:K (a.put o.dst v') w') :
  if Region.wanted o (yielded ops a.tmps)=true then Oper.wp P o a w K Q else E:=by
 rw[if_pos (by simp[Region.wanted,hg])]
 unfold Oper.wp execOp
 simp only[hop,resolve,invoke,builtin,Sem.run_bind,Sem.run_pure,Result.andThen_ok,List.map_toArray,List.map_cons,List.map_nil,hd,hx,hr]
 exact hK
theorem pu(w:World){ops:Array Oper}{rest:List Oper}{o:Oper}{a:Act}{Q:Exit→Act→World→Prop}(hgd:o.guard=none)(d:Operand)(t:TypeId)
  (ho:o.op=.call { callee:=.builtin .clear,args:=#[d],argTypes:=#[t] }) (v:Value) (hd:a.eval d=v){v':Value}{w':World}
  (hr:(Builtin.clear_ #[t] o.type #[v]).run P w=.ok v' w') (h:wpList P ops Q rest (a.put o.dst v') w'):wpList P ops Q (o::rest) a w:=
 wpList_plain hgd λ_ hK=>by
  unfold Oper.wp execOp
  simp only[ho,resolve,invoke,builtin,Sem.run_bind,Sem.run_pure,Result.andThen_ok,List.map_toArray,List.map_cons,List.map_nil,hd,hr]
  exact hK _ _ h
end
theorem UD{α:Type}(xs:List α)(i m:Nat)(hi:i<xs.length):(xs.take i++xs.drop (i+1))[m]?=if m<i then xs[m]? else xs[m+1]?:=by
 have ht:(xs.take i).length=i:=by simp;omega
 rw[List.getElem?_append,ht]
 split
 ·rename_i h;rw[List.getElem?_take,if_pos h]
 ·rename_i h;rw[List.getElem?_drop,show i+1+(m-i)=m+1 by omega]
theorem aO.abR {R:PV→Value→Prop}{xs:List PV}{c c':Array Value}{i:Nat}(h:aO R 1 c xs)(hi:i<xs.length)
  (h1:∀q,q<i→c'[q]?=c[q]?) (h3:∀q,i≤q→q<xs.length-1→c'[q]?=c[q+1]?) :
  aO R 1 c' (xs.take i++xs.drop (i+1)):=by
 intro m y hy
 rw[UD xs i m hi]at hy
 have hlt:∀{z:PV}{j:Nat}{p:PV},z.cells.length=1→z.cells[j]?=some p→j<1:=λh1 h2=>by rw[←h1];exact (List.getElem?_eq_some_iff.1 h2).1
 split at hy
 ·rename_i hm
  obtain⟨z1,z2⟩:=h m y hy
  refine⟨z1,λj p hp=>?_⟩
  have hj:=hlt z1 hp
  obtain⟨v,u1,u2⟩:=z2 j p hp
  exact⟨v,by rw[h1 _ (by omega)];exact u1,u2⟩
 ·rename_i hm1
  obtain⟨z1,z2⟩:=h (m+1) y hy
  have hml:m+1<xs.length:=(List.getElem?_eq_some_iff.1 hy).1
  refine⟨z1,λj p hp=>?_⟩
  have hj:=hlt z1 hp
  obtain⟨v,u1,u2⟩:=z2 j p hp
  have e:(m+1)*1+j=(m*1+j)+1:=by omega
  exact⟨v,by rw[h3 _ (by omega) (by omega),←e];exact u1,u2⟩
set_option maxHeartbeats 4000000 in
set_option maxRecDepth 100000 in
theorem RP(g n c i:Nat)(cur:Array Value)(w:World)(hi:i<n)(hnc:n≤c)(hc63:c≤9223372036854775807)
  (hg:w.heap[g]?=some (.cells cur 23 (0,0))) (hcur:cur.size=c) (oc:∀v∈mid cur (i+1) n 1,v.oneCell'=true)
  (bF:Array Value) (hc1:bF=spl cur i (mid cur (i+1) n 1)) :
  Calls Tryz.prog 55 #[.slice (some ⟨g,0,none⟩) n c,.int .i64 i,.int .i64 ((i:Int)+1)] w λe w'=>
   e=.returned (.slice (some ⟨g,0,none⟩) (n-1) c)∧w'=(w.drew.setRow g bF).setRow g (spl bF (n-1) [Value.slice none 0 0]):=by
 have mixed:Tryz.prog.follows .mixedOrders=true:=by kernel_rfl
 have zVV:∀u:World,(Go.zeroValue 23).run Tryz.prog u=.ok (Value.slice none 0 0) u:=λu=>by kernel_rfl
 obtain⟨inf,hi0,hz0,hzs,hzb⟩:∃inf,Tryz.prog.info? 23=some inf∧inf.zero=some (.slice none 0 0)∧inf.size=1∧inf.bytes=24:=⟨_,rfl,rfl,rfl,rfl⟩
 have hcl:(mid cur (i+1) n 1).length=n-(i+1):=by simp[mid,hcur];omega
 have hg':w.drew.heap[g]?=some (.cells cur 23 (0,0)):=hg
 have hlen:i+(n-(i+1))=n-1:=by omega
 have happ:∀ty off cp,(c≠i+1→off=i+1)→(Builtin.append_ #[64,64] ty #[.slice (some ⟨g,0,none⟩) i c,.slice (some ⟨g,off,none⟩) (n-(i+1)) cp]).run Tryz.prog w.drew=.ok (.slice (some ⟨g,0,none⟩) (n-1) c) (w.drew.setRow g bF):=λty off cp hoff=>by
  have h:=mP (P:=Tryz.prog) w.drew 64 64 ty 23 inf D9 hi0 g i c cur 23 hg' (.slice (some ⟨g,off,none⟩) (n-(i+1)) cp) (n-(i+1)) _
   (Src.ofSlice w.drew D9 ⟨g,off,none⟩ (n-(i+1)) cp (mid cur (i+1) n 1) (by rw[hzs,hcl];omega) (λj v hj=>by
    have hjl:=(List.getElem?_eq_some_iff.1 hj).1
    rw[hcl]at hjl
    rw[hoff (by omega),Addr.add_lit]
    simp only[World.cell?,hg']
    rw[mid,List.getElem?_drop,List.getElem?_take]at hj
    split at hj
    ·simpa using hj
    ·cases hj) oc) (by omega) (by rw[hcl,hzs,hcur];omega)
  rw[hlen,hzs,Nat.mul_one]at h
  rw[hc1]
  exact h
 have za:bF.size=c:=by rw[hc1,iU (by rw[hcl,hcur];omega)];exact hcur
 have hg1:(w.drew.setRow g bF).heap[g]?=some (.cells bF 23 (0,0)):=setRow_heap w.drew g cur bF 23 (0,0) hg'
 have aa0:∀ty cp,(Builtin.clear_ #[64] ty #[.slice (some ⟨g,n-1,none⟩) (n-(n-1)) cp]).run Tryz.prog (w.drew.setRow g bF)=.ok (.tuple #[]) ((w.drew.setRow g bF).setRow g (spl bF (n-1) [Value.slice none 0 0])):=λty cp=>by
  have hst:=run_storeCells_at Tryz.prog g (n-1) 23 [Value.slice none 0 0] 0 bF (w.drew.setRow g bF) hg1 (by simp[za];omega) (λv hv=>by
   rcases List.mem_cons.1 hv with rfl | hv
   ·rfl
   ·cases hv)
  have hn1:n-(n-1)=0+1:=by omega
  have hzc:(Builtin.zeroCells (Value.slice none 0 0).cells 1).toList=[Value.slice none 0 0]:=by kernel_rfl
  rw[hn1]
  simp[Builtin.clear_,run_underlying D9,zVV,hzc,hst,spl]
 have hw1:IntKind.i64.wrap ((i:Int)+1)=(i:Int)+1:=by rw[IntKind.wrap_i64];omega
 have hb1:(0:Int)≤(i:Int)+1:=by omega
 have hin:i≤n:=by omega
 have hin':i≤c:=by omega
 have htn:((i:Int)+1).toNat=i+1:=by omega
 have hb2:¬ (c=n-1):=by omega
 have hb3:(i:Int)+1≤(n:Int):=by omega
 have hb6:(i:Int)≤(i:Int)+1:=by omega
 have hz1:¬ ((i:Int)=(i:Int)+1):=by omega
 have hn1:n-1≤n:=by omega
 have hcn:(n:Int)≤(c:Int):=by omega
 clear hc1 hcl za hg1 hlen
 by_cases hci:c=i+1
 ·have UE:=λty cp=>happ ty 0 cp (λh=>absurd hci h)
  have ab3:(c=i+1)=True:=eq_true hci
  clear happ hci
  go_enter Tryz.func55,Tryz.ntmps55
  go_wp2
  go_region_law_o (refine qw rfl _ _ 64 64 rfl _ _ (by simp[Act.eval,Act.put]) (by simp[Act.eval,Act.put]) (UE 64 (c-(i+1))) ?_)
  go_wp2_with (at_builtin;refine pu _ rfl _ 64 rfl _ rfl (aa0 _ _) ?_)
  go_ret
  exact⟨rfl,rfl⟩
 ·have UE:=λty cp=>happ ty (i+1) cp (λ_=>rfl)
  clear happ
  go_enter Tryz.func55,Tryz.ntmps55
  go_wp2
  go_region_law_o (refine qw rfl _ _ 64 64 rfl _ _ (by simp[Act.eval,Act.put]) (by simp[Act.eval,Act.put]) (UE 64 (c-(i+1))) ?_)
  go_wp2_with (at_builtin;refine pu _ rfl _ 64 rfl _ rfl (aa0 _ _) ?_)
  go_ret
  exact⟨rfl,rfl⟩
theorem L_{objs:List Obj}{k ver:Nat}{ob:Obj}{i:Nat}(h1:objs[k]?=some ob)(h2:ob.live=true)(h3:ob.ver=ver)
  (h4:ob.sz=1) (hty:ob.ty=23) (hall:∀y∈ob.xs,Oh 1 y) (hi:i<ob.xs.length) :
  CR Tryz.prog 55 [.aW k ver,.int .i64 i,.int .i64 ((i:Int)+1)] objs (.aW k (ver+1)) (objs.set k { ob with xs:=ob.xs.take i++ob.xs.drop (i+1),ver:=ver+1 }):=by
 refine⟨⟨_,Tryz.func55,by kernel_rfl,by kernel_rfl⟩,by simp,λbase ah w0 tmps blk a w vs R hargs=>?_⟩
 obtain⟨v0,v1,v2,rfl,r0,r1,r2⟩:=Ul hargs
 have e1:=r1.int
 have e2:=r2.int
 subst e1;subst e2
 have hM:ob.ty≠MT:=by rw[hty];intro h;cases h
 have hh:=r0.aW h1 h2 h3
 unfold sH at hh
 have hone:∀y,Oh 1 y→∀p∈y.cells,∀v,aP w (aV base objs blk) objs blk p v→v.oneCell'=true:=λy hy p hp v hv=>(je hv (List.all_eq_true.1 hy.2 p hp)).1
 rcases y_ (blk k) with hbk | ⟨g,hbk⟩
 ·rw[hbk]at hh;rw[hh.2]at hi;simp at hi
 ·rw[hbk]at hh
  obtain⟨cap,c,rfl,x1,x2,x3,x4⟩:=hh
  obtain⟨c',y1,y2,y3⟩:=jf R h1 h2 hbk hM
  rw[x1]at y1;cases y1
  rw[hty]at x1
  rw[h4]at x4 y3
  rw[Nat.mul_one]at x4
  have hc63:cap≤9223372036854775807:=by unfold maxLen at x3;omega
  have hoc:∀v∈c.toList.take (ob.xs.length*1),v.oneCell'=true:=
   cells_one (aO.take y3) (by simp[x4];omega) (λy hy=>hone y (hall y hy))
  have hdl:(mid c (i+1) ob.xs.length 1).length=ob.xs.length-(i+1):=by simp[mid,x4];omega
  have hdg:∀q,i≤q→q<ob.xs.length-1→(mid c (i+1) ob.xs.length 1)[q-i]?=c[q+1]?:=λq hq1 hq2=>by
   rw[mid,List.getElem?_drop,List.getElem?_take,show (i+1)*1+(q-i)=q+1 by omega,if_pos (by omega)];simp
  have hyl:(ob.xs.take i++ob.xs.drop (i+1)).length=ob.xs.length-1:=by simp;omega
  refine (RP g ob.xs.length cap i c w hi x2 hc63 x1 x4 (λv hv=>hoc v (List.mem_of_mem_drop hv)) _ rfl).mono λe w' ⟨he,hw⟩=>?_
  have hf1:i+(mid c (i+1) ob.xs.length 1).length≤c.size:=by rw[hdl,x4];omega
  have hs1:=iU hf1
  have hg1:=vH hf1
  generalize spl c i (mid c (i+1) ob.xs.length 1)=bF at hw hs1 hg1
  have hf2:ob.xs.length-1+[Value.slice none 0 0].length≤bF.size:=by rw[hs1,x4];simp;omega
  have hs2:=iU hf2
  have hg2:=vH hf2
  generalize spl bF (ob.xs.length-1) [Value.slice none 0 0]=cur2 at hw hs2 hg2
  subst hw
  have hgd:w.drew.heap[g]?=some (.cells c 23 (0,0)):=x1
  have hh1:(w.drew.setRow g bF).heap[g]?=some (.cells bF 23 (0,0)):=setRow_heap w.drew g c bF 23 (0,0) hgd
  have L:GU ob.ty ob.sz (aP w (aV base objs blk) objs blk) (blk k) w (ob.xs.take i++ob.xs.drop (i+1)) (.slice (some ⟨g,0,none⟩) (ob.xs.length-1) cap) ((w.drew.setRow g bF).setRow g cur2) g:=by
   refine⟨by rw[setRow_size,setRow_size];exact Nat.le_refl _,⟨rfl,rfl⟩,λb y hb hy=>?_,.inl hbk,cap,cur2,by rw[hyl],by rw[hty];exact setRow_heap _ g bF cur2 23 (0,0) hh1,by rw[hyl];omega,x3,by rw[hs2,hs1,x4,h4,Nat.mul_one],?_⟩
   ·have hbg:b≠g:=λe=>hb (by rw[hbk,e])
    rw[setRow_other _ g b _ hbg,setRow_other _ g b _ hbg];exact hy
   ·rw[h4]
    refine aO.abR y3 hi (λq hq=>?_) (λq hq1 hq2=>?_)
    ·rw[hg2,if_pos (by omega),hg1,if_pos hq]
    ·rw[hg2,if_pos hq2,hg1,if_neg (by omega),if_pos (by rw[hdl];omega),hdg q hq1 hq2]
  obtain⟨g1,g2⟩:=L.rel R h1 h2 h3 hM
  exact⟨_,_,he,g1,g2⟩
def Ch:fu:=λargs objs K=>match args with
 | [.aW k ver,.int .i64 i,.int .i64 j]=>∃o,objs[k]?=some o∧o.live=true∧o.ver=ver∧o.sz=1∧o.ty=23∧MF ak o.xs (HK.mk:HK λl=>0≤i∧j=i+1∧i.toNat<l.length∧
     K (.aW k (ver+1)) (objs.set k ⟨23,1,(l.take i.toNat++l.drop (i.toNat+1)).map ak,true,ver+1⟩) 2)
 | _=>False
theorem OA:aQ Tryz.prog 55 Ch:=by
 intro args objs K h
 unfold Ch at h
 split at h
 ·rename_i k ver i j
  obtain⟨o,h1,h2,h3,h4,h5,l,h6,h7,rfl,h8,h10⟩:=h
  obtain⟨n,rfl⟩:∃n:Nat,i=n:=⟨i.toNat,by omega⟩
  rw[Int.toNat_natCast]at h8 h10
  obtain⟨ty,sz,xs,live,vr⟩:=o
  simp only[]at h2 h3 h4 h5 h6
  subst h2;subst h3;subst h4;subst h5;subst h6
  have hu:=L_ (objs:=objs) (k:=k) (i:=n) h1 rfl rfl rfl rfl (λy hy=>by obtain⟨s,_,rfl⟩:=List.mem_map.1 hy;exact⟨rfl,rfl⟩) (by simpa using h8)
  refine⟨_,_,_,.used _ _ hu,?_⟩
  have e:(l.map ak).take n++(l.map ak).drop (n+1)=(l.take n++l.drop (n+1)).map ak:=by simp
  rw[e]
  exact h10
 ·exact h.elim
end Lp
namespace Lp
open Go Go.Proofs
theorem RQ:aX Tryz.prog 50 43 [.tmp 4,.tmp 5] (gen [] [] [1] Tryz.f50):=bT Tryz.func50 rfl (by kernel_rfl)
theorem OB:aX Tryz.prog 29 28 [.tmp 4,.tmp 5] (gen [] [(7170,some (1,0))] [] Tryz.f29):=bT Tryz.func29 rfl (by kernel_rfl)
theorem Es:aX Tryz.prog 28 61 [.tmp 6,.tmp 7] (gen [] [] [] Tryz.f28):=bT Tryz.func28 rfl (by kernel_rfl)
theorem Jo:aX Tryz.prog 48 13 [.tmp 2] (gen [] [] [] Tryz.f48):=bT Tryz.func48 rfl (by kernel_rfl)
theorem Et:aX Tryz.prog 70 27 [.tmp 2] (gen [] [] [1] Tryz.f70):=bT Tryz.func70 rfl (by kernel_rfl)
theorem iA:aX Tryz.prog 72 9 [.tmp 4] (gen [] [] [] Tryz.f72):=bT Tryz.func72 rfl (by kernel_rfl)
theorem jm:aX Tryz.prog 100 19 [.tmp 4] (gen [] [(387,none)] [] Tryz.f100):=bT Tryz.func100 rfl (by kernel_rfl)
theorem Eu:aX Tryz.prog 27 32 [.tmp 2] (gen [] [] [1] Tryz.f27):=bT Tryz.func27 rfl (by kernel_rfl)
theorem Jp:aX Tryz.prog 31 43 [.tmp 6,.tmp 7] (gen [] [] [1] Tryz.f31):=bT Tryz.func31 rfl (by kernel_rfl)
theorem Ma:aX Tryz.prog 30 48 [.tmp 6,.tmp 7] (gen [34] [] [1] Tryz.f30):=bT Tryz.func30 rfl (by kernel_rfl)
theorem jW:aX Tryz.prog 17 75 [.tmp 4,.tmp 5] (gen [] [] [1,10] Tryz.f17):=bT Tryz.func17 rfl (by kernel_rfl)
theorem Jq:aX Tryz.prog 14 28 [.tmp 4,.tmp 5] (gen [] [(7169,some (1,0))] [] Tryz.f14):=bT Tryz.func14 rfl (by kernel_rfl)
end Lp
namespace Lp
open Go Go.Proofs
theorem UF{l:List PV}{i:Nat}{a:PV}(h:l[i]?=some a)(objs:List Obj)(K:KT):bL (.bP l) i objs K=K a objs 0:=by
 unfold bL
 exact propext ⟨λ⟨p,h1,h2⟩=>by rw[h]at h1;cases h1;exact h2,λk=>⟨_,h,k⟩⟩
theorem kY :
  (∀a b objs K,bL (.bP [a,b]) 0 objs K=K a objs 0)∧(∀a b objs K,bL (.bP [a,b]) 1 objs K=K b objs 0)∧
  (∀a b c objs K,bL (.bP [a,b,c]) 0 objs K=K a objs 0)∧(∀a b c objs K,bL (.bP [a,b,c]) 1 objs K=K b objs 0)∧(∀a b c objs K,bL (.bP [a,b,c]) 2 objs K=K c objs 0):=
 ⟨λ_ _=>UF rfl,λ_ _=>UF rfl,λ_ _ _=>UF rfl,λ_ _ _=>UF rfl,λ_ _ _=>UF rfl⟩
structure XR (p:List Stp):Prop where
 len:p.length≤1000000
 txt:∀s∈p,s.name.length≤1000000
theorem OC(s:Stp)(hs:s.name.length≤1000000):av Tryz.prog 70 [encS s] [] (.bool (!cB s)) []:=by
 refine Et.cZ (T:=bH Tryz.prog [(71,bS)]) 0 hD (ax (af qX au)) bM (by decide) λQ hQ=>?_
 (conv=>arg 4;cbv);simp (maxSteps:=400000) only[↓aA,aB,BEq.rfl,seval,hQ]
 refine aY _ (Weak.freeze 1 0 (Nat.zero_le _) _) ?_
 cases hp:s.part with
 | true=>
  have hr:cB s=(decide (s.name=[]) && decide (0≤s.n) && decide (s.n≤1000000)):=by simp[cB,hp]
  by_cases hn:s.name=[]
  ·have hn':=eq_true hn
   rcases tf (s.n<0) with h0 | h0
   ·have e:cB s=false:=by rw[hr];have:=of_eq_true h0;simp;omega
    simp (maxSteps:=400000) only[↓aA,aB,BEq.rfl,seval,hQ,lq,hp,hn',h0,e]
   ·rcases tf (1000000<s.n) with h1 | h1
    ·have e:cB s=false:=by rw[hr];have:=of_eq_true h1;simp;omega
     simp (maxSteps:=400000) only[↓aA,aB,BEq.rfl,seval,hQ,lq,hp,hn',h0,h1,e]
    ·have e:cB s=true:=by rw[hr];have:=of_eq_false h1;have:=of_eq_false h0;simp[hn];omega
     simp (maxSteps:=400000) only[↓aA,aB,BEq.rfl,seval,hQ,lq,hp,hn',h0,h1,e]
  ·have hn':=eq_false hn
   have e:cB s=false:=by rw[hr];simp[hn]
   simp (maxSteps:=400000) only[↓aA,aB,BEq.rfl,seval,hQ,lq,hp,hn',e]
 | false=>
  have hr:cB s=(decide (s.n=0) && utf s.name):=by simp[cB,hp]
  rcases tf (s.n=0) with h0 | h0
  ·cases hu:utf s.name with
   | true=>
    have e:cB s=true:=by rw[hr,hu];simp[of_eq_true h0]
    simp (maxSteps:=400000) only[↓aA,aB,BEq.rfl,seval,hQ,lq,hp,h0,hu,↓bS,e]
    omega
   | false=>
    have e:cB s=false:=by rw[hr,hu];simp
    simp (maxSteps:=400000) only[↓aA,aB,BEq.rfl,seval,hQ,lq,hp,h0,hu,↓bS,e]
    omega
  ·have e:cB s=false:=by rw[hr];simp[of_eq_false h0]
   simp (maxSteps:=400000) only[↓aA,aB,BEq.rfl,seval,hQ,lq,hp,h0,e]
def uH:fu:=λargs objs K=>match args with
 | [a0]=>jF encS a0 (HK.mk:HK λs=>(s.name.length≤1000000)∧K (.bool (!cB s)) objs 0)
 | _=>False
theorem Mc:aQ Tryz.prog 70 (uH):=by
 intro args objs K h
 unfold uH at h
 split at h
 ·rename_i a0
  obtain⟨s,rfl,h1,hk⟩:=h
  exact⟨_,_,_,.pure _ rfl (OC s h1),hk⟩
 ·exact h.elim
def pQ(s:Stp):Bool:=!cB s
theorem Jr(l:List Stp)(hs:XR l):av Tryz.prog 100 [bJ l,.fn 70 [] []] [] (.int .i64 (idxOf pQ l)) []:=by
 obtain⟨hl,htx⟩:=hs
 refine jm.cZ (T:=bH Tryz.prog [(70,uH)]) 0 hD (ax (af Mc au)) bM (by decide) λQ hQ=>?_
 (conv=>arg 4;cbv);simp (maxSteps:=400000) only[↓aA,aB,BEq.rfl,seval,hQ]
 refine bA (λm S=>∃i:Nat,i+m=l.length∧(∀(j:Nat) y,j<i→l[j]?=some y→pQ y=false)∧S=⟨dR 19 [(0,bJ l),(1,.fn 70 [] []),(7,.int .i64 l.length),(8,.int .i64 i)],[]⟩) l.length ⟨0,by omega,λj y h=>absurd h (Nat.not_lt_zero j),?_⟩ ?_
 ·simp only[dX,keepR,Nat.reduceAdd,tK,Nat.reduceBEq,List.map_nil]
  rfl
 rintro m S ⟨i,him,hb,rfl⟩
 rcases Nat.lt_or_ge i l.length with h | h
 rotate_left 1
 ·have hlt:((i:Int)<(l.length:Int))=False:=eq_false (by omega)
  have hr:=xw (l:=l) λj y hj=>hb j y (by have:=(List.getElem?_eq_some_iff.1 hj).1;omega) hj
  simp (maxSteps:=400000) only[↓aA,aB,BEq.rfl,seval,hQ,hlt,hr]
 have hlt:((i:Int)<(l.length:Int))=True:=eq_true (by omega)
 have zi:(0≤(i:Int))=True:=eq_true (by omega)
 have hgi:=List.getElem?_eq_getElem h
 have ho:=htx _ (List.getElem_mem h)
 generalize l[i]=o at hgi ho
 cases hp:pQ o
 rotate_left 1
 ·have hr:idxOf pQ l=i:=idxOf_hit hgi hp hb
  have hp':(!cB o)=true:=hp
  simp (maxSteps:=400000) only[↓aA,aB,BEq.rfl,seval,hQ,hlt,zi,hgi,↓uH,hp',hr]
  exact ho
 ·have hp':(!cB o)=false:=hp
  simp (maxSteps:=400000) only[↓aA,aB,BEq.rfl,seval,hQ,hlt,zi,hgi,↓uH,hp']
  refine⟨ho,⟨by omega,by omega⟩,m-1,by omega,i+1,by omega,λj y hj hy=>?_,rfl⟩
  rcases Nat.lt_or_ge j i with g | g
  ·exact hb j y g hy
  ·have:j=i:=by omega
   subst this
   rw[hgi]at hy;cases hy
   exact hp
def rM:fu:=λargs objs K=>match args with
 | [a0,a1]=>jF bJ a0 (HK.mk:HK λl=>a1=(.fn 70 [] [])∧(XR l)∧K (.int .i64 (idxOf pQ l)) objs 0)
 | _=>False
theorem FD:aQ Tryz.prog 100 (rM):=by
 intro args objs K h
 unfold rM at h
 split at h
 ·rename_i a0 a1
  obtain⟨l,rfl,rfl,h1,hk⟩:=h
  exact⟨_,_,_,.pure _ rfl (Jr l h1),hk⟩
 ·exact h.elim
theorem Js(l:List Stp)(hl:XR l):av Tryz.prog 72 [bJ l,.fn 70 [] []] [] (.bool (l.any pQ)) []:=by
 refine iA.cZ (T:=bH Tryz.prog [(100,rM)]) 0 hD (ax (af FD au)) bM (by decide) λQ hQ=>?_
 (conv=>arg 4;cbv);simp (maxSteps:=400000) only[↓aA,aB,BEq.rfl,seval,hQ,↓rM,Ao]
 exact hl
def rO:fu:=λargs objs K=>match args with
 | [a0,a1]=>jF bJ a0 (HK.mk:HK λl=>a1=(.fn 70 [] [])∧(XR l)∧K (.bool (l.any pQ)) objs 0)
 | _=>False
theorem FE:aQ Tryz.prog 72 (rO):=by
 intro args objs K h
 unfold rO at h
 split at h
 ·rename_i a0 a1
  obtain⟨l,rfl,rfl,h1,hk⟩:=h
  exact⟨_,_,_,.pure _ rfl (Js l h1),hk⟩
 ·exact h.elim
theorem RS(p:List Stp):p.any pQ=!p.all cB:=by
 induction p with
 | nil=>rfl
 | cons s p ih=>rw[List.any_cons,List.all_cons,ih,pQ,Bool.not_and]
theorem Ev(p:List Stp)(hp:XR p):av Tryz.prog 48 [bJ p] [] (.bool (pO p)) []:=by
 refine Jo.cZ (T:=bH Tryz.prog [(72,rO)]) 0 hD (ax (af FE au)) bM (by decide) λQ hQ=>?_
 rcases tf ((p.length:Int)≤20) with h | h
 ·have e:pO p=p.all cB:=by have:=of_eq_true h;unfold pO;simp;omega
  have e2:(!p.any pQ)=pO p:=by rw[RS,e,Bool.not_not]
  (conv=>arg 4;cbv);simp (maxSteps:=400000) only[↓aA,aB,BEq.rfl,seval,hQ,h,↓rO,e2]
  exact hp
 ·have e:pO p=false:=by have:=of_eq_false h;unfold pO;simp;omega
  (conv=>arg 4;cbv);simp (maxSteps:=400000) only[↓aA,aB,BEq.rfl,seval,hQ,h,e]
def dN:fu:=λargs objs K=>match args with
 | [a0]=>jF bJ a0 (HK.mk:HK λp=>(XR p)∧K (.bool (pO p)) objs 0)
 | _=>False
theorem BN:aQ Tryz.prog 48 (dN):=by
 intro args objs K h
 unfold dN at h
 split at h
 ·rename_i a0
  obtain⟨p,rfl,h1,hk⟩:=h
  exact⟨_,_,_,.pure _ rfl (Ev p h1),hk⟩
 ·exact h.elim
def oD(v:Vl)(x:Stp):PV:=if (bV v x).2=0 then .bP [ak (bV v x).1,.int .i64 0] else .bP [.sl 0 [] (some true),.int .i64 (bV v x).2]
theorem Md(v:Vl)(x:Stp):eY (oD v x) (.bP [ak (bV v x).1,.int .i64 (bV v x).2]):=by
 unfold oD
 split
 ·rename_i h;rw[h];exact .refl _
 ·rename_i h;rw[RO h];exact Ai (.inr rfl) (ig 0 6) (.refl _)
theorem Ws(v:Vl)(x:Stp)(hr:Rt v)(hl:v.length≤1000000)(hn:0≤x.n):av Tryz.prog 50 [ak v,encS x] [] (oD v x) []:=by
 refine RQ.jT (T:=bH Tryz.prog [(52,l8),(56,eF)]) 0 hD (ax (af ul (af ug au))) bM (by decide) (by decide) λQ hQ=>?_
 have ho:=hr.one
 obtain⟨p1,_,_,_⟩:=d9 hr
 obtain⟨n,r,hv,_⟩:=b_ hr.name hr.one.ne
 have hv0:v[0]?=some n:=by rw[hv];rfl
 have hkd:bD v=n.kind:=by rw[hv];rfl
 have hml:(n.many:Int)=(aD v).length:=by
  subst hv
  obtain⟨h1,h2,ps,h3,_,_,_,_⟩:=hr.parts
  have h8:=dS _ _ _ h3
  simp only[aD,(dI h3).1,List.length_map]
  omega
 have zn:(0≤x.n)=True:=eq_true hn
 (conv=>arg 4;cbv);simp (maxSteps:=400000) only[↓aA,aB,BEq.rfl,seval,hQ]
 refine aY _ (Weak.freeze 1 0 (Nat.zero_le _) _) ?_
 cases hx:x.part with
 | true=>
  by_cases hk:n.kind=5
  ·rcases Nat.lt_or_ge x.n.toNat (aD v).length with h | h
   ·have hgi:=List.getElem?_eq_getElem h
    generalize (aD v)[x.n.toNat]=w at hgi
    have hlt:(((aD v).length:Int)≤x.n)=False:=eq_false (by omega)
    have hres:oD v x=.bP [ak w,.int .i64 0]:=by simp[oD,bV,hx,hkd,hk,hgi]
    simp (maxSteps:=400000) only[↓aA,aB,BEq.rfl,seval,hQ,lq,hx,hv0,hk,hml,↓l8,hlt,zn,hgi,hres]
    exact⟨by omega,ho⟩
   ·have hlt:(((aD v).length:Int)≤x.n)=True:=eq_true (by omega)
    have hres:oD v x=.bP [.sl 0 [] (some true),.int .i64 6]:=by simp[oD,bV,hx,hkd,hk,List.getElem?_eq_none h]
    simp (maxSteps:=400000) only[↓aA,aB,BEq.rfl,seval,hQ,lq,hx,hv0,hk,hml,hlt,hres]
  ·have hk':=eq_false hk
   have hres:oD v x=.bP [.sl 0 [] (some true),.int .i64 5]:=by simp[oD,bV,hx,hkd,hk]
   simp (maxSteps:=400000) only[↓aA,aB,BEq.rfl,seval,hQ,lq,hx,hv0,hk',hres]
 | false=>
  by_cases hk:n.kind=6
  ·cases hf:oM v x.name with
   | some w=>
    have h1:eZ v x.name=w:=by simp[eZ,hf]
    have h2:kE v x.name=true:=by simp[kE,hf]
    have hres:oD v x=.bP [ak w,.int .i64 0]:=by simp[oD,bV,hx,hkd,hk,hf]
    simp (maxSteps:=400000) only[↓aA,aB,BEq.rfl,seval,hQ,lq,hx,hv0,hk,↓eF,kY,h1,h2,hres]
    exact⟨hr,hl⟩
   | none=>
    have h2:kE v x.name=false:=by simp[kE,hf]
    have hres:oD v x=.bP [.sl 0 [] (some true),.int .i64 6]:=by simp[oD,bV,hx,hkd,hk,hf]
    simp (maxSteps:=400000) only[↓aA,aB,BEq.rfl,seval,hQ,lq,hx,hv0,hk,↓eF,kY,h2,hres]
    exact⟨hr,hl⟩
  ·have hk':=eq_false hk
   have hres:oD v x=.bP [.sl 0 [] (some true),.int .i64 5]:=by simp[oD,bV,hx,hkd,hk]
   simp (maxSteps:=400000) only[↓aA,aB,BEq.rfl,seval,hQ,lq,hx,hv0,hk',hres]
def wM:fu:=λargs objs K=>match args with
 | [a0,a1]=>jF ak a0 (HK.mk:HK λv=>jF encS a1 (HK.mk:HK λx=>(Rt v)∧(v.length≤1000000)∧(0≤x.n)∧K (.bP [ak (bV v x).1,.int .i64 (bV v x).2]) objs 0))
 | _=>False
theorem Me:aQ Tryz.prog 50 (wM):=by
 intro args objs K h
 unfold wM at h
 split at h
 ·rename_i a0 a1
  obtain⟨v,rfl,x,rfl,h1,h2,h3,hk⟩:=h
  exact⟨_,_,_,.pure _ rfl ((Ws v x h1 h2 h3).res (Md v x)),hk⟩
 ·exact h.elim
theorem AA:∀a x:Stp,(encS a).putCells 0 [.bool x.part,.str x.name,.int .i64 x.n]=encS x:=λ_ _=>rfl
theorem Zv:∀x:Stp,PV.agg [.bool x.part,.str x.name,.int .i64 x.n]=encS x:=λ_=>rfl
theorem RU:∀e:Ed,PV.agg [.int .i64 e.kind,bJ e.p,ak e.v]=jy e:=λ_=>rfl
def xK(p:List Stp)(v:Vl):PV:=if (fe p v).2=0 then .bP [ak (fe p v).1,.int .i64 0] else .bP [.sl 0 [] (some true),.int .i64 (fe p v).2]
theorem Jt(p:List Stp)(v:Vl):eY (xK p v) (.bP [ak (fe p v).1,.int .i64 (fe p v).2]):=by
 unfold xK
 split
 ·rename_i h;rw[h];exact .refl _
 ·rename_i h;rw[LX p v h];exact Ai (.inr rfl) (ig 0 6) (.refl _)
theorem UG(p:List Stp)(v:Vl)(hr:Rt v)(hl:v.length≤1000000)(hpl:p.length≤1000000)(hn:∀x∈p,0≤x.n):av Tryz.prog 29 [bJ p,ak v] [] (xK p v) []:=by
 refine OB.jT (T:=bH Tryz.prog [(50,wM)]) 0 hD (ax (af Me au)) bM (by decide) (by decide) λQ hQ=>?_
 (conv=>arg 4;cbv);simp (maxSteps:=400000) only[↓aA,aB,BEq.rfl,seval,hQ]
 refine bA (hz:=Nat.zero_le _) (λm S=>∃(i:Nat) (w:Vl),i+m=p.length∧Rt w∧w.length≤1000000∧fe p v=fe (p.drop i) w∧S=⟨dR 28 [(1,ak w),(10,bJ p),(11,.int .i64 p.length),(12,.int .i64 i)],[]⟩) p.length ⟨0,v,by omega,hr,hl,by rw[List.drop_zero],?_⟩ ?_
 ·simp only[dX,keepR,Nat.reduceAdd,tK,Nat.reduceBEq,List.map_nil]
  rfl
 rintro m S ⟨i,w,him,hw,hwl,hg,rfl⟩
 have zi:(0≤(i:Int))=True:=eq_true (by omega)
 rcases Nat.lt_or_ge i p.length with h | h
 ·have hlt:((i:Int)<(p.length:Int))=True:=eq_true (by omega)
  have hgi:=List.getElem?_eq_getElem h
  have hx:=hn p[i] (List.getElem_mem h)
  rw[List.drop_eq_getElem_cons h]at hg
  generalize p[i]=x at hgi hx hg
  rw[fe]at hg
  by_cases he:(bV w x).2=0
  ·have he':=eq_true he
   rw[if_pos he]at hg
   have hm:=eH hw (G6 hw he)
   simp (maxSteps:=400000) only[↓aA,aB,BEq.rfl,seval,hQ,hlt,zi,hgi,↓wM,kY,he',Ot,AA,Zv]
   exact⟨hw,hwl,hx,⟨by omega,by omega⟩,m-1,by omega,i+1,_,by omega,hm.1,by omega,hg,rfl⟩
  ·have he':=eq_false he
   rw[if_neg he]at hg
   have hres:xK p v=.bP [.sl 0 [] (some true),.int .i64 (bV w x).2]:=by unfold xK;rw[hg,if_neg he]
   simp (maxSteps:=400000) only[↓aA,aB,BEq.rfl,seval,hQ,hlt,zi,hgi,↓wM,kY,he',Ot,AA,Zv,hres]
   exact⟨hw,hwl,hx⟩
 ·have hlt:((i:Int)<(p.length:Int))=False:=eq_false (by omega)
  rw[List.drop_eq_nil_of_le h,fe]at hg
  have hres:xK p v=.bP [ak w,.int .i64 0]:=by unfold xK;rw[hg,if_pos rfl]
  simp (maxSteps:=400000) only[↓aA,aB,BEq.rfl,seval,hQ,hlt,hres]
def kT:fu:=λargs objs K=>match args with
 | [a0,a1]=>jF bJ a0 (HK.mk:HK λp=>jF ak a1 (HK.mk:HK λv=>(Rt v)∧(v.length≤1000000)∧(p.length≤1000000)∧(∀x∈p,0≤x.n)∧K (.bP [ak (fe p v).1,.int .i64 (fe p v).2]) objs 0))
 | _=>False
theorem lT:aQ Tryz.prog 29 (kT):=by
 intro args objs K h
 unfold kT at h
 split at h
 ·rename_i a0 a1
  obtain⟨p,rfl,v,rfl,h1,h2,h3,h4,hk⟩:=h
  exact⟨_,_,_,.pure _ rfl ((UG p v h1 h2 h3 h4).res (Jt p v)),hk⟩
 ·exact h.elim
end Lp
namespace Lp
open Go Go.Proofs
theorem RV{a c:PV}(h1:eY a c):∀(i:Nat) (p q:PV),[a][i]?=some p→[c][i]?=some q→eY p q:=λi p q hp hq=>by
 match i with
 | 0=>cases hp;cases hq;exact h1
 | _+1=>simp at hp
theorem Ju(l:List Vl)(hl:l.length≤1000000)(hb:l.flatten.length≤1000000):av Tryz.prog 53 [dV l] [] (.aW 0 0) [K_ (oN l) 0]:=by
 refine Nw.PE (T:=bH Tryz.prog [(81,vG)]) 1 hD (ax (af IV au)) bM λQ hQ=>?_
 (conv=>arg 4;cbv);simp (maxSteps:=400000) only[↓aA,aB,BEq.rfl,seval,hQ,↓vG,YN,YO]
 exact⟨hl,hb,by omega,by omega,VY (k:=0) (ver:=2) rfl rfl rfl rfl (congrArg (λo:Obj=>{ o with ver:=0 }) (DU 1 1 _ 46 6 (oN l) 2)) (GL _ 0)⟩
def iX:fu:=λargs objs K=>match args with
 | [x]=>yX ak 1 x objs (HK.mk:HK λl=>l.length≤1000000∧l.flatten.length≤1000000∧K (.aW objs.length 0) (objs++[K_ (oN l) 0]) 2)
 | _=>False
theorem uI:aQ Tryz.prog 53 iX:=by
 intro args objs K h
 unfold iX at h
 split at h
 ·obtain⟨l,a',l1,t1,h1,h2,h3⟩:=qY Lb h
  exact⟨_,_,_,.J8 0 _ [a'] ⟨l1,trivial⟩ (xu _ _) ((Ju l h1 h2).arg rfl (RV t1)),h3⟩
 ·exact h.elim
theorem abS(a b:Vl):(ak a).putCells 0 [ak b]=ak b:=rfl
theorem aa1(l:List Vl)(i:Nat)(y:Vl):(l.map ak).set i (ak y)=(l.set i y).map ak:=List.map_set.symm
def FH(p:List Stp)(v x:Vl):PV:=if (iV p v x).2=0 then .bP [ak (iV p v x).1,.int .i64 0] else .bP [.sl 0 [] (some true),.int .i64 (iV p v x).2]
theorem Ew(p:List Stp)(v x:Vl):eY (FH p v x) (.bP [ak (iV p v x).1,.int .i64 (iV p v x).2]):=by
 unfold FH
 split
 ·rename_i h;rw[h];exact .refl _
 ·rename_i h;rw[Eo p v x h];exact Ai (.inr rfl) (ig 0 6) (.refl _)
structure G8 (p:List Stp) (v x:Vl):Prop where
 rt:Rt v
 len:v.length≤50000
 nm:Nm v
 xrt:Rt x
 Y0:x.length≤50000
 xnm:Nm x
 zH:∀s∈p,cB s=true
 aa2:p.length≤1000000
def vQ(p:List Stp):fu:=λargs objs K=>match args with
 | [a,b,c]=>a=bJ p∧jF ak b (HK.mk:HK λw=>jF ak c (HK.mk:HK λx=>G8 p w x∧K (.bP [ak (iV p w x).1,.int .i64 (iV p w x).2]) objs 0))
 | _=>False
theorem Mf:∀(p:List Stp) (v x:Vl),G8 p v x→av Tryz.prog 28 [bJ p,ak v,ak x] [] (FH p v x) []
 | [],v,x,h=>by
  refine Es.jT (T:=bH Tryz.prog []) 0 hD (ax au) bM (by decide) (by decide) λQ hQ=>?_
  have hres:FH [] v x=.bP [ak x,.int .i64 0]:=rfl
  have c00:((0:Nat):Int)=0:=rfl
  (conv=>arg 4;cbv);simp (maxSteps:=400000) only[↓aA,aB,BEq.rfl,seval,hQ,List.length_nil,c00,hres]
 | s::p,v,x,h=>by
  have hok:aQ Tryz.prog 28 (vQ p):=by
   intro args objs K h
   unfold vQ at h
   split at h
   ·obtain⟨rfl,w,rfl,y,rfl,h1,hk⟩:=h
    exact⟨_,_,_,.pure _ rfl ((Mf p w y h1).res (Ew p w y)),hk⟩
   ·exact h.elim
  refine Es.jT (T:=bH Tryz.prog [(50,wM),(28,vQ p),(51,lN),(52,gH),(53,iX)]) 1 hD (ax (af Me (af hok (af wJ (af rC (af uI au)))))) bM (by decide) (by decide) λQ hQ=>?_
  have hpn:(((s::p).length:Int)=0)=False:=eq_false (by simp only[List.length_cons];omega)
  have hgs:(s::p)[0]?=some s:=rfl
  have hdr:(s::p).drop 1=p:=rfl
  have hwl:1≤(s::p).length:=by simp
  have Y1:(1:Int)≤((s::p).length:Int):=by simp only[List.length_cons];omega
  have hrs:=h.zH s (by simp)
  have hxr:0≤s.n:=by
   unfold cB at hrs
   cases hp:s.part<;>rw[hp]at hrs<;>simp at hrs<;>omega
  have hlen:=h.len
  by_cases h0:(bV v s).2=0
  rotate_left 1
  ·have h0':=eq_false h0
   have hres:FH (s::p) v x=.bP [.sl 0 [] (some true),.int .i64 (bV v s).2]:=by simp[FH,iV,h0]
   generalize hsp:s::p=w at *
   (conv=>arg 4;cbv);simp (maxSteps:=400000) only[↓aA,aB,BEq.rfl,seval,hQ,hpn,hgs,↓wM,kY,h0',hres]
   exact⟨h.rt,by omega,hxr⟩
  have h0':=eq_true h0
  obtain⟨a1,a2,a3⟩:=Ep h.rt h.nm h0
  have hso:G8 p (bV v s).1 x:=⟨a1,by omega,a3,h.xrt,h.Y0,h.xnm,λs' hs=>h.zH s' (List.mem_cons_of_mem _ hs),by have:=h.aa2;simp only[List.length_cons]at this;omega⟩
  by_cases h1:(iV p (bV v s).1 x).2=0
  rotate_left 1
  ·have h1':=eq_false h1
   have hres:FH (s::p) v x=.bP [.sl 0 [] (some true),.int .i64 (iV p (bV v s).1 x).2]:=by simp[FH,iV,h0,h1]
   generalize hsp:s::p=w at *
   (conv=>arg 4;cbv);simp (maxSteps:=400000) only[↓aA,aB,BEq.rfl,seval,hQ,hpn,hgs,hdr,List.take_length,↓wM,↓vQ,kY,h0',h1',hres]
   exact⟨h.rt,by omega,hxr,Y1,Int.le_refl _,hso⟩
  have h1':=eq_true h1
  obtain⟨b1,b2,b3⟩:=Cg p _ x a1 a3 hso.zH h.xrt h.xnm h1
  have hyl:(iV p (bV v s).1 x).1.length≤100000:=by have:=h.Y0;omega
  have hres:FH (s::p) v x=.bP [ak (FC v s (iV p (bV v s).1 x).1),.int .i64 0]:=by simp[FH,iV,h0,h1]
  generalize hye:(iV p (bV v s).1 x).1=y at *
  generalize hsp:s::p=w at *
  cases hp:s.part with
  | false=>
   have hpu:FC v s y=ql v s.name y:=by simp[FC,hp]
   have hu:utf s.name=true:=by
    unfold cB at hrs
    simp only[hp,Bool.false_eq_true,if_false,Bool.and_eq_true]at hrs
    exact hrs.2
   have hk:bD v=6:=by
    unfold bV at h0
    simp only[hp,Bool.false_eq_true,if_false]at h0
    by_cases hk:bD v=6
    ·exact hk
    ·rw[if_neg hk]at h0;cases h0
   (conv=>arg 4;cbv);simp (maxSteps:=400000) only[↓aA,aB,BEq.rfl,seval,hQ,hpn,hgs,hdr,List.take_length,hp,↓wM,↓vQ,↓lN,kY,h0',h1',hres,hpu,hye]
   exact⟨h.rt,by omega,hxr,Y1,Int.le_refl _,hso,h.rt,hk,by omega,hu,b1,hyl⟩
  | true=>
   have hpu:FC v s y=oN ((aD v).set s.n.toNat y):=by simp[FC,hp]
   have hk:bD v=5∧s.n.toNat<(aD v).length:=by
    unfold bV at h0
    simp only[hp,if_true]at h0
    by_cases hk:bD v=5
    ·rw[if_pos hk]at h0
     cases hg:(aD v)[s.n.toNat]? with
     | none=>rw[hg]at h0;cases h0
     | some w=>exact⟨hk,(List.getElem?_eq_some_iff.1 hg).1⟩
    ·rw[if_neg hk]at h0;cases h0
   have zn:(0≤s.n)=True:=eq_true hxr
   have hgn:=List.getElem?_eq_getElem hk.2
   obtain⟨q1,_,q3,_⟩:=d9 h.rt
   have hfl:=zA hgn y
   generalize (aD v)[s.n.toNat]=w0 at hgn hfl
   (conv=>arg 4;cbv);simp (maxSteps:=400000) only[↓aA,aB,BEq.rfl,seval,hQ,hpn,hgs,hdr,List.take_length,hp,↓wM,↓vQ,↓gH,kY,h0',h1',hres,hpu,hye,zn,hgn,IG,abS,aa1,↓iX,Rp,La]
   have hxl:=h.Y0
   exact⟨h.rt,by omega,Y1,Int.le_refl _,hso,h.rt,by omega,by omega,by rw[List.length_set];omega,by omega,by rw[qm (by rfl)]⟩
def mJ:fu:=λargs objs K=>match args with
 | [a0,a1,a2]=>jF bJ a0 (HK.mk:HK λp=>jF ak a1 (HK.mk:HK λv=>jF ak a2 (HK.mk:HK λx=>(G8 p v x)∧K (.bP [ak (iV p v x).1,.int .i64 (iV p v x).2]) objs 0)))
 | _=>False
theorem lU:aQ Tryz.prog 28 (mJ):=by
 intro args objs K h
 unfold mJ at h
 split at h
 ·rename_i a0 a1 a2
  obtain⟨p,rfl,v,rfl,x,rfl,h1,hk⟩:=h
  exact⟨_,_,_,.pure _ rfl ((Mf p v x h1).res (Ew p v x)),hk⟩
 ·exact h.elim
end Lp
namespace Lp
open Go Go.Proofs
structure ESz (e:Ed):Prop where
 zH:XR e.p
 val:Small e.v
theorem iG(x:Ed):fB 1 0 [⟨38,3,[jy x],true,1⟩] (.aT 0 1 0 0)=.addr (jy x):=rfl
theorem Jv(e:Ed)(he:ESz e):av Tryz.prog 27 [jy e] [] (.bool (fQ e)) []:=by
 obtain⟨hp,hv⟩:=he
 refine Eu.cZ (T:=bH Tryz.prog [(48,dN),(49,j5)]) 0 hD (ax (af BN (af DY au))) bM (by decide) λQ hQ=>?_
 (conv=>arg 4;cbv);simp (maxSteps:=400000) only[↓aA,aB,BEq.rfl,seval,hQ]
 refine aY _ (Weak.freeze 1 0 (Nat.zero_le _) _) ?_
 cases hr:pO e.p with
 | false=>
  have h:fQ e=false:=by simp[fQ,hr]
  simp (maxSteps:=400000) only[↓aA,aB,BEq.rfl,seval,hQ,iG,↓dN,hr,h]
  exact hp
 | true=>
  rcases tf ((e.p.length:Int)=0) with h0 | h0
  ·have hp0:e.p=[]:=List.length_eq_zero_iff.1 (by have:=of_eq_true h0;omega)
   rcases tf (e.kind=0) with k0 | k0
   ·have h:fQ e=bK e.v:=by simp[fQ,hr,of_eq_true k0]
    simp (maxSteps:=400000) only[↓aA,aB,BEq.rfl,seval,hQ,iG,↓dN,↓j5,hr,h0,k0,h]
    exact⟨hp,hv⟩
   ·have h:fQ e=false:=by simp[fQ,hr,hp0,of_eq_false k0]
    simp (maxSteps:=400000) only[↓aA,aB,BEq.rfl,seval,hQ,iG,↓dN,hr,h0,k0,h]
    exact hp
  ·have hp0:e.p≠[]:=λh=>by have:=of_eq_false h0;rw[h]at this;exact this rfl
   rcases tf (e.kind=0) with k0 | k0
   ·have h:fQ e=bK e.v:=by simp[fQ,hr,of_eq_true k0]
    simp (maxSteps:=400000) only[↓aA,aB,BEq.rfl,seval,hQ,iG,↓dN,↓j5,hr,h0,k0,h]
    exact⟨hp,hv⟩
   rcases tf (e.kind=1) with k1 | k1
   ·have h:fQ e=bK e.v:=by simp[fQ,hr,hp0,of_eq_true k1]
    simp (maxSteps:=400000) only[↓aA,aB,BEq.rfl,seval,hQ,iG,↓dN,↓j5,hr,h0,k0,k1,h]
    exact⟨hp,hv⟩
   rcases tf (e.kind=2) with k2 | k2
   ·have h:fQ e=decide ((e.v.length:Int)=0):=by
      have:decide (e.v=[])=decide ((e.v.length:Int)=0):=by
       congr 1
       exact propext ⟨λh=>by rw[h];rfl,λh=>List.length_eq_zero_iff.1 (by omega)⟩
      rw[←this]
      simp[fQ,hr,hp0,of_eq_true k2]
    simp (maxSteps:=400000) only[↓aA,aB,BEq.rfl,seval,hQ,iG,↓dN,hr,h0,k0,k1,k2,h]
    exact hp
   ·have h:fQ e=false:=by simp[fQ,hr,hp0,of_eq_false k0,of_eq_false k1,of_eq_false k2]
    simp (maxSteps:=400000) only[↓aA,aB,BEq.rfl,seval,hQ,iG,↓dN,hr,h0,k0,k1,k2,h]
    exact hp
def cK:fu:=λargs objs K=>match args with
 | [a0]=>jF jy a0 (HK.mk:HK λe=>(ESz e)∧K (.bool (fQ e)) objs 0)
 | _=>False
theorem fT:aQ Tryz.prog 27 (cK):=by
 intro args objs K h
 unfold cK at h
 split at h
 ·rename_i a0
  obtain⟨e,rfl,h1,hk⟩:=h
  exact⟨_,_,_,.pure _ rfl (Jv e h1),hk⟩
 ·exact h.elim
def kU(r:Vl×Int):PV:=if r.2=0 then .bP [ak r.1,.int .i64 0] else .bP [.sl 0 [] (some true),.int .i64 r.2]
theorem xL(r:Vl×Int)(h:¬ r.2=0→r.1=[]):eY (kU r) (.bP [ak r.1,.int .i64 r.2]):=by
 unfold kU
 split
 ·rename_i h0;rw[h0];exact .refl _
 ·rename_i h0;rw[h h0];exact Ai (.inr rfl) (ig 0 6) (.refl _)
theorem OD{w:Vl}{nm:List UInt8}{e:Ed}(h:¬ (fo w nm e).2=0):(fo w nm e).1=[]:=by
 revert h
 unfold fo
 split
 ·split<;>split<;>simp
 ·simp
theorem RX{w:Vl}{n:Nat}{e:Ed}(h:¬ (iW w n e).2=0):(iW w n e).1=[]:=by
 revert h
 unfold iW
 split
 ·split<;>split<;>simp
 ·simp
structure UH (w:Vl) (e:Ed):Prop where
 rt:Rt w
 len:w.length≤100000
 vrt:e.kind=1→Rt e.v∧e.v.length≤100000
theorem Mg(w:Vl)(nm:List UInt8)(e:Ed)(h:UH w e)(hu:utf nm=true):av Tryz.prog 31 [ak w,.str nm,jy e] [] (kU (fo w nm e)) []:=by
 obtain⟨hr,hl,hv⟩:=h
 refine Jp.jT (T:=bH Tryz.prog [(56,eF),(51,lN),(57,lM)]) 0 hD (ax (af ug (af wJ (af wI au)))) bM (by decide) (by decide) λQ hQ=>?_
 obtain⟨n,r,hw,_⟩:=b_ hr.name hr.one.ne
 have hw0:w[0]?=some n:=by rw[hw];rfl
 have hkd:bD w=n.kind:=by rw[hw];rfl
 (conv=>arg 4;cbv);simp (maxSteps:=400000) only[↓aA,aB,BEq.rfl,seval,hQ]
 refine aY _ (Weak.freeze 1 0 (Nat.zero_le _) _) ?_
 rcases tf (n.kind=6) with k | k
 rotate_left 1
 ·have hres:kU (fo w nm e)=.bP [.sl 0 [] (some true),.int .i64 5]:=by simp[kU,fo,hkd,of_eq_false k]
  simp (maxSteps:=400000) only[↓aA,aB,BEq.rfl,seval,hQ,iG,hw0,k,hres]
 have NF:bD w=6:=by rw[hkd];exact of_eq_true k
 have U7:w.length≤1000000:=by omega
 rcases tf (e.kind=1) with k1 | k1
 ·obtain⟨v1,v2⟩:=hv (of_eq_true k1)
  cases hh:kE w nm with
  | true=>
   have hres:kU (fo w nm e)=.bP [.sl 0 [] (some true),.int .i64 4]:=by simp[kU,fo,NF,of_eq_true k1,hh]
   simp (maxSteps:=400000) only[↓aA,aB,BEq.rfl,seval,hQ,iG,hw0,k,k1,↓eF,kY,hh,hres]
   exact⟨hr,U7⟩
  | false=>
   have hres:kU (fo w nm e)=.bP [ak (ql w nm e.v),.int .i64 0]:=by simp[kU,fo,NF,of_eq_true k1,hh]
   simp (maxSteps:=400000) only[↓aA,aB,BEq.rfl,seval,hQ,iG,hw0,k,k1,↓eF,↓lN,kY,hh,hres]
   exact⟨hr,U7,hr,NF,hl,hu,v1,v2⟩
 ·cases hh:kE w nm with
  | true=>
   have hres:kU (fo w nm e)=.bP [ak (dY w nm),.int .i64 0]:=by simp[kU,fo,NF,of_eq_false k1,hh]
   simp (maxSteps:=400000) only[↓aA,aB,BEq.rfl,seval,hQ,iG,hw0,k,k1,↓eF,↓lM,kY,hh,hres]
   exact⟨hr,U7,hr,NF,U7⟩
  | false=>
   have hres:kU (fo w nm e)=.bP [.sl 0 [] (some true),.int .i64 6]:=by simp[kU,fo,NF,of_eq_false k1,hh]
   simp (maxSteps:=400000) only[↓aA,aB,BEq.rfl,seval,hQ,iG,hw0,k,k1,↓eF,kY,hh,hres]
   exact⟨hr,U7⟩
def gI:fu:=λargs objs K=>match args with
 | [a0,.str nm,a2]=>jF ak a0 (HK.mk:HK λw=>jF jy a2 (HK.mk:HK λe=>(UH w e)∧(utf nm=true)∧K (.bP [ak (fo w nm e).1,.int .i64 (fo w nm e).2]) objs 0))
 | _=>False
theorem gW:aQ Tryz.prog 31 (gI):=by
 intro args objs K h
 unfold gI at h
 split at h
 ·rename_i a0 nm a2
  obtain⟨w,rfl,e,rfl,h1,h2,hk⟩:=h
  exact⟨_,_,_,.pure _ rfl ((Mg w nm e h1 h2).res (xL _ OD)),hk⟩
 ·exact h.elim
theorem OE(w:Vl)(m:Nat)(e:Ed)(h:UH w e):av Tryz.prog 30 [ak w,.int .i64 m,jy e] [] (kU (iW w m e)) []:=by
 obtain⟨hr,hl,hv⟩:=h
 refine Ma.jT (T:=bH Tryz.prog [(52,gH),(54,vJ),(55,Ch),(53,iX)]) 1 hD (ax (af rC (af D_ (af OA (af uI au))))) bM (by decide) (by decide) λQ hQ=>?_
 obtain⟨n,r,hw,_⟩:=b_ hr.name hr.one.ne
 have hw0:w[0]?=some n:=by rw[hw];rfl
 have hkd:bD w=n.kind:=by rw[hw];rfl
 obtain⟨q1,_,q3,_⟩:=d9 hr
 have U7:w.length≤1000000:=by omega
 have hfl:∀k:Nat,((aD w).take k).flatten.length+((aD w).drop k).flatten.length=(aD w).flatten.length:=λn=>by
  rw[←List.length_append,←List.flatten_append,List.take_append_drop]
 (conv=>arg 4;cbv);simp (maxSteps:=400000) only[↓aA,aB,BEq.rfl,seval,hQ]
 refine aY _ (Weak.freeze 1 0 (Nat.zero_le _) _) ?_
 rcases tf (n.kind=5) with k | k
 rotate_left 1
 ·have hres:kU (iW w m e)=.bP [.sl 0 [] (some true),.int .i64 5]:=by simp[kU,iW,hkd,of_eq_false k]
  simp (maxSteps:=400000) only[↓aA,aB,BEq.rfl,seval,hQ,iG,hw0,k,hres]
 have hk5:bD w=5:=by rw[hkd];exact of_eq_true k
 have zm:(0≤(m:Int))=True:=eq_true (by omega)
 rcases tf (e.kind=1) with k1 | k1
 ·obtain⟨v1,v2⟩:=hv (of_eq_true k1)
  rcases tf (((aD w).length:Int)<m) with hlt | hlt
  ·have hlt':=of_eq_true hlt
   have hres:kU (iW w m e)=.bP [.sl 0 [] (some true),.int .i64 4]:=by
    unfold kU iW;simp only[if_pos hk5,if_pos (of_eq_true k1),if_pos (show (aD w).length<m by omega)];rfl
   simp (maxSteps:=400000) only[↓aA,aB,BEq.rfl,seval,hQ,iG,hw0,k,k1,↓gH,IG,hlt,hres]
   exact⟨hr,U7⟩
  ·have hlt':=of_eq_false hlt
   have hres:kU (iW w m e)=.bP [ak (oN ((aD w).take m++[e.v]++(aD w).drop m)),.int .i64 0]:=by
    unfold kU iW;simp only[if_pos hk5,if_pos (of_eq_true k1),if_neg (show ¬ (aD w).length<m by omega)];rfl
   simp (maxSteps:=400000) only[↓aA,aB,BEq.rfl,seval,hQ,iG,hw0,k,k1,↓gH,↓vJ,IG,hlt,zm,Rp,La,YV,↓iX,hres]
   refine⟨hr,U7,e.v,rfl,by omega,by omega,by rw[List.length_take,List.length_drop];omega,?_,by rw[qm (by rfl)]⟩
   have:=hfl m
   simp only[List.flatten_append,List.length_append,List.flatten_cons,List.flatten_nil,List.length_nil]
   omega
 ·rcases tf (((aD w).length:Int)≤m) with hlt | hlt
  ·have hlt':=of_eq_true hlt
   have hres:kU (iW w m e)=.bP [.sl 0 [] (some true),.int .i64 6]:=by
    unfold kU iW;simp only[if_pos hk5,if_neg (of_eq_false k1),if_pos (show (aD w).length≤m by omega)];rfl
   simp (maxSteps:=400000) only[↓aA,aB,BEq.rfl,seval,hQ,iG,hw0,k,k1,↓gH,IG,hlt,hres]
   exact⟨hr,U7⟩
  ·have hlt':=of_eq_false hlt
   have hres:kU (iW w m e)=.bP [ak (oN ((aD w).take m++(aD w).drop (m+1))),.int .i64 0]:=by
    unfold kU iW;simp only[if_pos hk5,if_neg (of_eq_false k1),if_neg (show ¬ (aD w).length≤m by omega)];rfl
   simp (maxSteps:=400000) only[↓aA,aB,BEq.rfl,seval,hQ,iG,hw0,k,k1,↓gH,↓Ch,IG,hlt,zm,Rp,La,YV,↓iX,hres]
   refine⟨hr,U7,⟨by omega,by omega⟩,by omega,by rw[List.length_take,List.length_drop];omega,?_,by rw[qm (by rfl)]⟩
   have h1:=hfl m
   have h2:=hfl (m+1)
   have h3:((aD w).drop (m+1)).flatten.length≤((aD w).drop m).flatten.length:=by
    rw[←List.drop_drop]
    cases (aD w).drop m<;>simp
   simp only[List.flatten_append,List.length_append]
   omega
def iY:fu:=λargs objs K=>match args with
 | [a0,.int .i64 m,a2]=>jF ak a0 (HK.mk:HK λw=>jF jy a2 (HK.mk:HK λe=>(UH w e)∧(0≤m)∧K (.bP [ak (iW w m.toNat e).1,.int .i64 (iW w m.toNat e).2]) objs 0))
 | _=>False
theorem iZ:aQ Tryz.prog 30 (iY):=by
 intro args objs K h
 unfold iY at h
 split at h
 ·rename_i a0 m a2
  obtain⟨w,rfl,e,rfl,h1,h2,hk⟩:=h
  exact⟨_,_,_,.pure _ rfl ((by have:=(OE w m.toNat e h1).res (xL _ RX);rwa[Int.toNat_of_nonneg h2]at this)),hk⟩
 ·exact h.elim
end Lp
namespace Lp
open Go Go.Proofs
open List (drop_zero)
open Nat (zero_le)
structure Bt (v:Vl) (e:Ed):Prop where
 rt:Rt v
 len:v.length≤40000
 nm:Nm v
 sz:ESz e
 abT:e.v.length≤1000
 enm:Nm e.v
theorem Bt.ok {v:Vl}{e:Ed}(h:Bt v e):aaZ e:=⟨h.sz.zH.txt,h.enm⟩
theorem UI{p:List Stp}(h:p≠[]):p[p.length-1]?=some (zy p):=by
 have:0<p.length:=List.length_pos_iff.2 h
 unfold zy
 rw[List.getElem?_eq_getElem (by omega)];rfl
theorem Mh{s:Stp}(h:cB s=true):0≤s.n:=by
 unfold cB at h
 cases hp:s.part<;>rw[hp]at h<;>simp at h<;>omega
theorem Wt{r:Vl×Int}{k:Int}(h1:r.1=[])(h2:r.2=k):eY (.bP [.sl 0 [] (some true),.int .i64 k]) (.bP [ak r.1,.int .i64 r.2]):=by
 rw[h1,h2];exact Ai (.inr rfl) (ig 0 6) (.refl _)
theorem Mi(v:Vl)(e:Ed)(h:Bt v e):av Tryz.prog 17 [ak v,jy e] [] (.bP [ak (h_ v e).1,.int .i64 (h_ v e).2]) []:=by
 have hsz:=h.sz
 have hvl:=h.len
 have hel:=h.abT
 cases hre:fQ e with
 | false=>
  have hone:h_ v e=([],4):=by rw[h_,hre];rfl
  refine av.res (r:=.bP [.sl 0 [] (some true),.int .i64 4]) ?_ (by rw[hone];exact Wt rfl rfl)
  refine jW.jT (T:=bH Tryz.prog [(27,cK),(28,mJ),(29,kT),(30,iY),(31,gI)]) 0 hD (ax (af fT (af lU (af lT (af iZ (af gW au)))))) bM (by decide) (by decide) λQ hQ=>?_
  (conv=>arg 4;cbv);simp (maxSteps:=400000) only[↓aA,aB,BEq.rfl,seval,hQ]
  refine aY _ (Weak.freeze 1 0 (zero_le _) _) ?_
  simp (maxSteps:=400000) only[↓aA,aB,BEq.rfl,seval,hQ,iG,↓cK,hre,RU]
  exact hsz
 | true=>
 obtain⟨r1,r2,r3,r4,r5,r6⟩:=zB hre
 rcases tf (e.kind=0) with k0 | k0
 ·have hone:h_ v e=iV e.p v e.v:=by rw[h_,hre];simp[of_eq_true k0]
  have hso:G8 e.p v e.v:=⟨h.rt,by omega,h.nm,r4 (by have:=of_eq_true k0;omega),by omega,h.enm,r1,by omega⟩
  rw[hone]
  refine jW.jT (T:=bH Tryz.prog [(27,cK),(28,mJ),(29,kT),(30,iY),(31,gI)]) 0 hD (ax (af fT (af lU (af lT (af iZ (af gW au)))))) bM (by decide) (by decide) λQ hQ=>?_
  (conv=>arg 4;cbv);simp (maxSteps:=400000) only[↓aA,aB,BEq.rfl,seval,hQ]
  refine aY _ (Weak.freeze 1 0 (zero_le _) _) ?_
  simp (maxSteps:=400000) only[↓aA,aB,BEq.rfl,seval,hQ,iG,↓cK,↓mJ,kY,hre,k0,RU]
  exact⟨hsz,hso⟩
 have k0':=of_eq_false k0
 have hpn:=r6 k0'
 have hls:=G7 hpn
 have hla:=UI hpn
 have hpl:0<e.p.length:=List.length_pos_iff.2 hpn
 have hrl:=r1 _ hls
 have hnl:=Mh hrl
 obtain⟨L,hL⟩:∃L:Nat,L+1=e.p.length:=⟨e.p.length-1,by omega⟩
 have hone:h_ v e=Wo (e.p.take L) v λw=>zx w (zy e.p) e:=by rw[h_,hre,←hL];simp[k0']
 have z1:(e.p.length:Int)-1=(L:Int):=by omega
 have zL:(0≤(L:Int))=True:=eq_true (by omega)
 have Y2:((L:Int)≤(e.p.length:Int))=True:=eq_true (by omega)
 have hla:e.p[L]?=some (zy e.p):=by rw[←hla,←hL];rfl
 have hsn:=h.sz.zH.txt _ hls
 generalize zy e.p=s at *
 have hqr:∀x∈e.p.take L,cB x=true:=λx hx=>r1 x (List.mem_of_mem_take hx)
 have hqn:∀x∈e.p.take L,0≤x.n:=λx hx=>Mh (hqr x hx)
 have MK:(e.p.take L).length≤1000000:=by rw[List.length_take];omega
 have hb:-9223372036854775808≤(L:Int)∧(L:Int)≤9223372036854775807:=⟨by omega,by omega⟩
 by_cases h2:(fe (e.p.take L) v).2=0
 rotate_left 1
 ·have zC:h_ v e=([],(fe (e.p.take L) v).2):=by rw[hone,Wo,if_neg h2]
  refine av.res (r:=.bP [.sl 0 [] (some true),.int .i64 (fe (e.p.take L) v).2]) ?_ (by rw[zC];exact Wt rfl rfl)
  have h2':=eq_false h2
  refine jW.jT (T:=bH Tryz.prog [(27,cK),(28,mJ),(29,kT),(30,iY),(31,gI)]) 0 hD (ax (af fT (af lU (af lT (af iZ (af gW au)))))) bM (by decide) (by decide) λQ hQ=>?_
  (conv=>arg 4;cbv);simp (maxSteps:=400000) only[↓aA,aB,BEq.rfl,seval,hQ]
  refine aY _ (Weak.freeze 1 0 (zero_le _) _) ?_
  simp (maxSteps:=400000) only[↓aA,aB,BEq.rfl,seval,hQ,iG,↓cK,↓kT,kY,hre,k0,RU,z1,zL,Y2,drop_zero,h2']
  exact⟨hsz,hb,h.rt,by omega,MK,hqn⟩
 have h2':=eq_true h2
 obtain⟨g1,g2,g3⟩:=Jl _ v h.rt h.nm h2
 have hin:UH (fe (e.p.take L) v).1 e:=⟨g1,by omega,λk1=>⟨r4 (by omega),by omega⟩⟩
 have hinr:(zx (fe (e.p.take L) v).1 s e).2=0→G8 (e.p.take L) v (zx (fe (e.p.take L) v).1 s e).1:=λh3=>by
  obtain⟨i1,i2,i3⟩:=P5 (e:=e) g1 g3 hrl hsn (λh1=>⟨r4 (by omega),h.enm⟩) h3
  exact⟨h.rt,by omega,h.nm,i1,by omega,i3,hqr,MK⟩
 cases hp:s.part with
 | true=>
  have e1:zx (fe (e.p.take L) v).1 s e=iW (fe (e.p.take L) v).1 s.n.toNat e:=by rw[zx,hp];rfl
  rw[e1]at hinr
  by_cases h3:(iW (fe (e.p.take L) v).1 s.n.toNat e).2=0
  ·have h3':=eq_true h3
   have zC:h_ v e=iV (e.p.take L) v (iW (fe (e.p.take L) v).1 s.n.toNat e).1:=by rw[hone,Wo,if_pos h2];simp only[e1];rw[if_pos h3]
   rw[zC]
   refine jW.jT (T:=bH Tryz.prog [(27,cK),(28,mJ),(29,kT),(30,iY),(31,gI)]) 0 hD (ax (af fT (af lU (af lT (af iZ (af gW au)))))) bM (by decide) (by decide) λQ hQ=>?_
   (conv=>arg 4;cbv);simp (maxSteps:=400000) only[↓aA,aB,BEq.rfl,seval,hQ]
   refine aY _ (Weak.freeze 1 0 (zero_le _) _) ?_
   simp (maxSteps:=400000) only[↓aA,aB,BEq.rfl,seval,hQ,iG,↓cK,↓kT,kY,hre,k0,RU,z1,zL,Y2,drop_zero,h2',hla,Ot,AA,Zv]
   refine⟨hsz,hb,h.rt,by omega,MK,hqn,aY _ (Weak.freeze 1 0 (zero_le _) _) ?_⟩
   simp (maxSteps:=400000) only[↓aA,aB,BEq.rfl,seval,hQ,lq,↓iY,↓mJ,kY,hp,h3',zL,Y2,drop_zero,RU]
   exact⟨hin,hnl,hinr h3⟩
  ·have h3':=eq_false h3
   have zC:h_ v e=([],(iW (fe (e.p.take L) v).1 s.n.toNat e).2):=by rw[hone,Wo,if_pos h2];simp only[e1];rw[if_neg h3]
   refine av.res (r:=.bP [.sl 0 [] (some true),.int .i64 (iW (fe (e.p.take L) v).1 s.n.toNat e).2]) ?_ (by rw[zC];exact Wt rfl rfl)
   refine jW.jT (T:=bH Tryz.prog [(27,cK),(28,mJ),(29,kT),(30,iY),(31,gI)]) 0 hD (ax (af fT (af lU (af lT (af iZ (af gW au)))))) bM (by decide) (by decide) λQ hQ=>?_
   (conv=>arg 4;cbv);simp (maxSteps:=400000) only[↓aA,aB,BEq.rfl,seval,hQ]
   refine aY _ (Weak.freeze 1 0 (zero_le _) _) ?_
   simp (maxSteps:=400000) only[↓aA,aB,BEq.rfl,seval,hQ,iG,↓cK,↓kT,kY,hre,k0,RU,z1,zL,Y2,drop_zero,h2',hla,Ot,AA,Zv]
   refine⟨hsz,hb,h.rt,by omega,MK,hqn,aY _ (Weak.freeze 1 0 (zero_le _) _) ?_⟩
   simp (maxSteps:=400000) only[↓aA,aB,BEq.rfl,seval,hQ,lq,↓iY,kY,hp,h3',RU]
   exact⟨hin,hnl⟩
 | false=>
  have e1:zx (fe (e.p.take L) v).1 s e=fo (fe (e.p.take L) v).1 s.name e:=by rw[zx,hp];rfl
  rw[e1]at hinr
  have hu:utf s.name=true:=by
   unfold cB at hrl
   simp only[hp,Bool.false_eq_true,if_false,Bool.and_eq_true]at hrl
   exact hrl.2
  by_cases h3:(fo (fe (e.p.take L) v).1 s.name e).2=0
  ·have h3':=eq_true h3
   have zC:h_ v e=iV (e.p.take L) v (fo (fe (e.p.take L) v).1 s.name e).1:=by rw[hone,Wo,if_pos h2];simp only[e1];rw[if_pos h3]
   rw[zC]
   refine jW.jT (T:=bH Tryz.prog [(27,cK),(28,mJ),(29,kT),(30,iY),(31,gI)]) 0 hD (ax (af fT (af lU (af lT (af iZ (af gW au)))))) bM (by decide) (by decide) λQ hQ=>?_
   (conv=>arg 4;cbv);simp (maxSteps:=400000) only[↓aA,aB,BEq.rfl,seval,hQ]
   refine aY _ (Weak.freeze 1 0 (zero_le _) _) ?_
   simp (maxSteps:=400000) only[↓aA,aB,BEq.rfl,seval,hQ,iG,↓cK,↓kT,kY,hre,k0,RU,z1,zL,Y2,drop_zero,h2',hla,Ot,AA,Zv]
   refine⟨hsz,hb,h.rt,by omega,MK,hqn,aY _ (Weak.freeze 1 0 (zero_le _) _) ?_⟩
   simp (maxSteps:=400000) only[↓aA,aB,BEq.rfl,seval,hQ,lq,↓gI,↓mJ,kY,hp,h3',zL,Y2,drop_zero,RU]
   exact⟨hin,hu,hinr h3⟩
  ·have h3':=eq_false h3
   have zC:h_ v e=([],(fo (fe (e.p.take L) v).1 s.name e).2):=by rw[hone,Wo,if_pos h2];simp only[e1];rw[if_neg h3]
   refine av.res (r:=.bP [.sl 0 [] (some true),.int .i64 (fo (fe (e.p.take L) v).1 s.name e).2]) ?_ (by rw[zC];exact Wt rfl rfl)
   refine jW.jT (T:=bH Tryz.prog [(27,cK),(28,mJ),(29,kT),(30,iY),(31,gI)]) 0 hD (ax (af fT (af lU (af lT (af iZ (af gW au)))))) bM (by decide) (by decide) λQ hQ=>?_
   (conv=>arg 4;cbv);simp (maxSteps:=400000) only[↓aA,aB,BEq.rfl,seval,hQ]
   refine aY _ (Weak.freeze 1 0 (zero_le _) _) ?_
   simp (maxSteps:=400000) only[↓aA,aB,BEq.rfl,seval,hQ,iG,↓cK,↓kT,kY,hre,k0,RU,z1,zL,Y2,drop_zero,h2',hla,Ot,AA,Zv]
   refine⟨hsz,hb,h.rt,by omega,MK,hqn,aY _ (Weak.freeze 1 0 (zero_le _) _) ?_⟩
   simp (maxSteps:=400000) only[↓aA,aB,BEq.rfl,seval,hQ,lq,↓gI,kY,hp,h3',RU]
   exact⟨hin,hu⟩
def uJ:fu:=λargs objs K=>match args with
 | [a0,a1]=>jF ak a0 (HK.mk:HK λv=>jF jy a1 (HK.mk:HK λe=>(Bt v e)∧K (.bP [ak (h_ v e).1,.int .i64 (h_ v e).2]) objs 0))
 | _=>False
theorem G9:aQ Tryz.prog 17 (uJ):=by
 intro args objs K h
 unfold uJ at h
 split at h
 ·rename_i a0 a1
  obtain⟨v,rfl,e,rfl,h1,hk⟩:=h
  exact⟨_,_,_,.pure _ rfl (Mi v e h1),hk⟩
 ·exact h.elim
structure uK (v:Vl) (l:List Ed):Prop where
 rt:Rt v
 nm:Nm v
 len:v.length+(l.map λe=>e.v.length).sum≤40000
 all:∀e∈l,ESz e∧e.v.length≤1000∧Nm e.v
 aa3:l.length≤1000000
theorem uK.one {v:Vl}{e:Ed}{l:List Ed}(h:uK v (e::l)):Bt v e:=
 ⟨h.rt,by have:=h.len;rw[List.map_cons,List.sum_cons]at this;omega,h.nm,(h.all e (by simp)).1,(h.all e (by simp)).2.1,(h.all e (by simp)).2.2⟩
theorem uK.next {v:Vl}{e:Ed}{l:List Ed}(h:uK v (e::l))(h0:(h_ v e).2=0):uK (h_ v e).1 l:=by
 obtain⟨a1,a2,a3⟩:=Wq h.rt h.nm h.one.ok h0
 have:=h.len
 rw[List.map_cons,List.sum_cons]at this
 exact⟨a1,a3,by omega,λe' he=>h.all e' (List.mem_cons_of_mem _ he),by have:=h.aa3;rw[List.length_cons]at this;omega⟩
theorem aa4:PV.uR (.agg ⟨[.int .i64 0,.slice none 0 0,.slice none 0 0]⟩)=.agg [.int .i64 0,.sl 0 [] (some true),.sl 0 [] (some true)]:=rfl
theorem aa5(a b c x y z:PV):(PV.agg [a,b,c]).putCells 0 [x,y,z]=.agg [x,y,z]:=rfl
theorem OG(v:Vl)(l:List Ed)(h:uK v l):av Tryz.prog 14 [ak v,jG l] [] (kU (m_ v l)) []:=by
 refine Jq.jT (T:=bH Tryz.prog [(17,uJ)]) 0 hD (ax (af G9 au)) bM (by decide) (by decide) λQ hQ=>?_
 have hll:=h.aa3
 (conv=>arg 4;cbv);simp (maxSteps:=400000) only[↓aA,aB,BEq.rfl,seval,hQ]
 refine bA (hz:=zero_le _) (λm S=>∃(i:Nat) (w:Vl),i+m=l.length∧uK w (l.drop i)∧m_ v l=m_ w (l.drop i)∧S=⟨dR 28 [(0,ak w),(10,jG l),(11,.int .i64 l.length),(12,.int .i64 i)],[]⟩) l.length ⟨0,v,by omega,h,rfl,?_⟩ ?_
 ·simp only[dX,keepR,Nat.reduceAdd,tK,Nat.reduceBEq,List.map_nil]
  rfl
 rintro m S ⟨i,w,him,hw,hg,rfl⟩
 have zi:(0≤(i:Int))=True:=eq_true (by omega)
 rcases Nat.lt_or_ge i l.length with h | h
 ·have hlt:((i:Int)<(l.length:Int))=True:=eq_true (by omega)
  have hgi:=List.getElem?_eq_getElem h
  rw[List.drop_eq_getElem_cons h]at hg hw
  generalize l[i]=e at hgi hg hw
  rw[m_]at hg
  by_cases he:(h_ w e).2=0
  ·have he':=eq_true he
   rw[if_pos he]at hg
   simp (maxSteps:=400000) only[↓aA,aB,BEq.rfl,seval,hQ,hlt,zi,hgi,↓uJ,kY,he',aa4,aa5,RU]
   exact⟨hw.one,⟨by omega,by omega⟩,m-1,by omega,i+1,_,by omega,hw.next he,hg,rfl⟩
  ·have he':=eq_false he
   rw[if_neg he]at hg
   have hres:kU (m_ v l)=.bP [.sl 0 [] (some true),.int .i64 (h_ w e).2]:=by unfold kU;rw[hg,if_neg he]
   simp (maxSteps:=400000) only[↓aA,aB,BEq.rfl,seval,hQ,hlt,zi,hgi,↓uJ,kY,he',aa4,aa5,RU,hres]
   exact hw.one
 ·have hlt:((i:Int)<(l.length:Int))=False:=eq_false (by omega)
  rw[List.drop_eq_nil_of_le h,m_]at hg
  have hres:kU (m_ v l)=.bP [ak w,.int .i64 0]:=by unfold kU;rw[hg,if_pos rfl]
  simp (maxSteps:=400000) only[↓aA,aB,BEq.rfl,seval,hQ,hlt,hres]
def qx:fu:=λargs objs K=>match args with
 | [a0,a1]=>jF ak a0 (HK.mk:HK λv=>jF jG a1 (HK.mk:HK λl=>(uK v l)∧K (.bP [ak (m_ v l).1,.int .i64 (m_ v l).2]) objs 0))
 | _=>False
theorem Bu:aQ Tryz.prog 14 (qx):=by
 intro args objs K h
 unfold qx at h
 split at h
 ·rename_i a0 a1
  obtain⟨v,rfl,l,rfl,h1,hk⟩:=h
  exact⟨_,_,_,.pure _ rfl ((OG v l h1).res (xL _ (LY l v))),hk⟩
 ·exact h.elim
end Lp
namespace Lp
open Go Go.Proofs
open List (drop_zero length_append mem_singleton take_zero)
theorem Wu:D 55=⟨.other,1,8,.nilFunc⟩:=by kernel_rfl
theorem Wv(y:Nat):(PV.oF y).cells=[.oF y]∧(PV.oF y).isAgg=false∧(PV.oF y).storable=true:=⟨rfl,rfl,rfl⟩
structure rP (v:Vl):Prop where
 rt:Rt v
 len:v.length≤1000000
 nm:∀n∈v,n.name.length≤1000000
theorem rP.parts {v:Vl}(h:rP v):(aD v).length≤1000000∧∀x∈aD v,rP x:=by
 have hf:=d9 h.rt
 refine⟨by have:=h.len;omega,λx hx=>?_⟩
 have h1:=eH h.rt hx
 exact⟨h1.1,by have:=h.len;omega,q9 h.rt (q:=λn=>n.name.length≤1000000) (λn _=>by simp) h.nm x hx⟩
def sw(p:List Stp)(y:Nat)(at':List Int):List Obj:=[⟨36,1,[bO p],true,1⟩,⟨55,1,[.oF y],true,1⟩,⟨4,1,[.bool false],true,1⟩,⟨80,1,[encI at'],true,1⟩]
theorem P6(p:List Stp)(n:Nat):(bO p).ge n=true∧(bO p).A7 n=true:=⟨Pq (vN p).1,jh (vN p).2.2.2.2.2.1⟩
theorem RY(n:Nat):(∀v,(ak v).ge n=true)∧(∀v,(dV v).ge n=true)∧(∀v,(encI v).ge n=true)∧(∀v,(encS v).ge n=true)∧(∀v,(bJ v).ge n=true)∧(∀v,(oJ v).ge n=true)∧(∀k p v,(oz k (bJ p) (ak v)).ge n=true)∧(∀k p z x q,(oz k (bJ p) (.sl z x q)).ge n=true)∧(∀k p v,(oz k (bO p) (ak v)).ge n=true):=
 ⟨λ_=>rfl,λ_=>rfl,λ_=>rfl,λ_=>rfl,λ_=>rfl,λ_=>rfl,λ_ _ _=>rfl,λ_ _ _ _ _=>rfl,λk p v=>by
  show ((PV.A7 n (.int .i64 k)) && ((bO p).A7 n && ((ak v).A7 n && true)))=true
  rw[(P6 p n).2];rfl⟩
theorem Ci(p:List Stp)(y:Nat)(at':List Int):bg (sw p y at'):=by
 intro o ho x hx c hc
 simp only[sw,List.mem_cons,List.not_mem_nil,or_false]at ho
 rcases ho with rfl | rfl | rfl | rfl
 ·simp only[mem_singleton]at hx;subst hx
  rw[(vN p).2.2.2.1,mem_singleton]at hc;subst hc;exact (vN p).2.2.2.2.2.1
 ·simp only[mem_singleton]at hx;subst hx
  simp only[PV.cells,mem_singleton]at hc;subst hc;rfl
 ·simp only[mem_singleton]at hx;subst hx
  simp only[PV.cells,mem_singleton]at hc;subst hc;rfl
 ·simp only[mem_singleton]at hx;subst hx
  simp only[encI,PV.cells,mem_singleton]at hc;subst hc;rfl
theorem Jw(p:List Stp)(y:Nat)(at':List Int)(n:Nat)(a b:Obj)(ha:a=sD∨a=hole)(hb:b=sD∨b=hole):Vu n (sw p y at'++[a,b]):=by
 intro o ho x hx c hc
 rcases List.mem_append.1 ho with ho | ho
 ·exact Jd (Ci p y at') n o ho x hx c hc
 ·simp only[List.mem_cons,List.not_mem_nil,or_false]at ho
  rcases ho with rfl | rfl
  ·rcases ha with rfl | rfl<;>cases hx
  ·rcases hb with rfl | rfl<;>cases hx
theorem P7(b:Bool)(v:PV):(PV.bool b).putCells 0 [v]=v:=rfl
theorem pqS(p:List Stp)(x:Stp):bO (p++[x])=bJ (p++[x]):=by simp[bO]
def UJ(f:Nat):Prop:=∀(q:List Stp) (x y:Vl),q.length+f=20→rP x→rP y→dZ Tryz.prog 45 [bO q,ak x,ak y] (iF (bG f q x y))
theorem Mj{f:Nat}(hs:UJ f)(p:List Stp)(a b:Vl)(hp:p.length+f+1=20)(ha:rP a)(hb:rP b) :
  dZ Tryz.prog 67 [bO p,ak a,ak b] (iF (rJ (bG f) p (aD a) (aD b))):=by
 refine Iy.Wl (fnT:=jR [(52,l8),(94,rH),(95,fM),(96,qp),(93,zu)]) hD
  (af ul (af Fy (af uq (af Jg (af Bq au))))) bM (by decide) λI J objs y Q hI g_ iE hQ=>?_
 obtain⟨N,hN⟩:∃N,objs.length=N:=⟨_,rfl⟩
 rw[hN]at g_ iE hQ ⊢
 have hG:=Ei hN
 (conv=>arg 4;cbv);simp (maxSteps:=400000) only[↓aA,aB,BEq.rfl,seval,hQ,BL,hG,hN,mH N,Wu,Wv,vN,↓l8,↓rH,↓fM,Eb]
 have hpa:=rP.parts ha
 have hpb:=rP.parts hb
 refine⟨by have:=ha.len;omega,ha.rt.one,by have:=hb.len;omega,hb.rt.one,hpa.1,hpb.1,λv hv=>(hpa.2 v hv).len,λv hv=>(hpb.2 v hv).len,?_⟩
 generalize aD a=old at hpa hQ ⊢
 generalize aD b=now at hpb hQ ⊢
 refine aY _ (Weak.refl _ _) ?_
 simp (maxSteps:=400000) only[↓aA,aB,BEq.rfl,seval,hQ,BL,↓fM]
 obtain⟨ys,hys⟩:∃ys,ys=rJ (bG f) p old now:=⟨_,rfl⟩
 rw[←hys]at hQ ⊢
 obtain⟨at',hat⟩:∃at',ow old now=at':=⟨_,rfl⟩
 have hlen:(ow old now).length=now.length:=GY old now
 rw[hat]at hlen ⊢
 have hN':objs.length=N:=hN
 refine VQ 120 [.addr (dV old)] (wK old)
  (λk O'=>k≤old.length∧∃O,I (jA p old.length at' k).length O∧O'=O++sw p y at'++[sD,hole])
  (λk O'=>∃i O,i<ys.length∧J i O∧O'=O++sw p y at'++[sD,hole]) .ret rfl rfl rfl ?_ ?_ ?_ rfl rfl trivial (mG old hpa.1) (Aq old) ?_ ?_ ?_ ?_ ?_ ?_
 ·show N≤(objs++sw p y at').length
  rw[length_append];omega
 ·exact YW (n:=N) (by simp only[RD,RY,P6,Bool.and_self])
 ·show N≤(objs++sw p y at').length
  rw[length_append];omega
 ·exact⟨Nat.zero_le _,objs,hI,rfl⟩
 ·rintro k O' ⟨_,O,Cj,rfl⟩
  exact Uv (g_ _ _ Cj).1 (g_ _ _ Cj).2 (Ci p y at') (by rw[length_append,hN];rfl)
 ·rintro k O' ⟨i,O,_,hJO,rfl⟩
  exact⟨Uv (iE _ _ hJO).1 (iE _ _ hJO).2.1 (Ci p y at') (by rw[length_append,hN];rfl),Oq (iE _ _ hJO).2.2 (Ci p y at')⟩
 ·rintro k args O' ⟨hk,O,Cj,rfl⟩ Ml
  obtain⟨hkl,rfl⟩:=Ea Ml
  have hO:=(g_ _ _ Cj).1
  have hG:=Ei hO
  obtain⟨q,hq⟩:∃q,q=old.length-1-k:=⟨_,rfl⟩
  rw[←hq]
  cases hin:at'.any λy=>decide ((q:Int)=y) with
  | true=>
   simp (maxSteps:=400000) only[↓aA,aB,BEq.rfl,seval,hQ,iI,kbI,sw,hG,mH N,vN,↓qp,hin,ntS,Zq,List.take_succ_cons,List.drop_succ_cons,take_zero,drop_zero,↓Yp]
   refine⟨by decide,by omega,?_⟩
   refine And.intro (by omega) (Exists.intro O (And.intro ?_ rfl))
   rw[uD,←hq,hin]
   simpa using Cj
  | false=>
   have hdk:=uD p old.length at' k
   rw[←hq,hin,if_neg (by decide)]at hdk
   have hdl:(jA p old.length at' (k+1)).length=(jA p old.length at' k).length+1:=by rw[hdk];simp
   obtain⟨l3,hl3⟩:=Ou p old.length at' (k:=k+1) (by omega)
   have hyq:(iF ys)[(jA p old.length at' k).length]?=some [mI ⟨2,p++[⟨true,[],(q:Nat)⟩],[]⟩]:=by
    rw[hys,rJ,hat,hl3,hdk,List.append_assoc,List.append_assoc]
    exact zw
   have hil:(jA p old.length at' k).length<ys.length:=by
    have:=(List.getElem?_eq_some_iff.1 hyq).1
    rwa[fF]at this
   simp (maxSteps:=400000) only[↓aA,aB,BEq.rfl,seval,hQ,iI,kbI,sw,hG,mH N,vN,↓qp,hin,Wu,Wv,Aw,Wn,ntS,Zq,List.take_succ_cons,List.drop_succ_cons,take_zero,drop_zero,↓Yp]
   refine⟨by decide,by omega,by omega,zo (n:=N) rfl rfl rfl rfl g_ iE (lQ (by simp only[RD,RY,P6,Bool.and_self])) (Jw p y at' N _ _ (.inl rfl) (.inr rfl)) (by simp[oz,PV.pure,bJ,PV.ref]) Cj (by rw[GZ]at hyq;exact hyq) (λO1 hI1=>?_) λO1 rQ=>?_⟩
   ·simp (maxSteps:=400000) only[↓aA,aB,BEq.rfl,seval,hQ]
    refine And.intro (by omega) (Exists.intro O1 (And.intro ?_ rfl))
    rw[hdl];exact hI1
   ·simp (maxSteps:=400000) only[↓aA,aB,BEq.rfl,seval,hQ,sw,Ei (iE _ _ rQ).1,mH N,P7]
    exact And.intro rfl (Exists.intro _ (Exists.intro O1 (And.intro hil (And.intro rQ rfl))))
 ·rintro O' ⟨hk,O,Cj,rfl⟩
  rw[nJ]at Cj
  have hO:=(g_ _ _ Cj).1
  have hG:=Ei hO
  simp (maxSteps:=400000) only[↓aA,aB,BEq.rfl,seval,hQ,BL,sw,hG,mH N]
  have hD0:jA p old.length at' old.length=oC p old.length at':=rfl
  rw[hD0]at Cj
  refine bA (λm S=>∃(i:Nat) (O:List Obj),i+m=now.length∧I ((oC p old.length at').length+(mg (bG f) p old now at' i).length) O∧
   S=⟨dR 75 [(4,.aT N 1 0 0),(7,.aT (N+1) 1 0 0),(8,.aT (N+2) 1 0 0),(9,dV old),(11,.aT (N+3) 1 0 0),(42,dV now),(43,.int .i64 now.length),(44,.int .i64 i)],O++(sw p y at'++[sD,hole])⟩)
   now.length ⟨0,O,by omega,Cj,?_⟩ ?_
  ·simp only[dX,keepR,Nat.reduceAdd,tK,Nat.reduceBEq,List.map_nil]
   rfl
  clear Cj hO hG
  rintro m S ⟨i,O,him,Cj,rfl⟩
  have hO:=(g_ _ _ Cj).1
  have hG:=Ei hO
  rcases Nat.lt_or_ge i now.length with h | h
  rotate_left 1
  ·have hlt:((i:Int)<(now.length:Int))=False:=eq_false (by omega)
   simp (maxSteps:=400000) only[↓aA,aB,BEq.rfl,seval,hQ,hlt,BL,sw,hG,mH N,P7]
   obtain rfl:i=now.length:=by omega
   refine Av ?_ hO
   rw[fF,hys,rJ,hat,length_append]
   exact Cj
  have hlt:((i:Int)<(now.length:Int))=True:=eq_true (by omega)
  have zi:(0≤(i:Int))=True:=eq_true (by omega)
  have hx:now[i]?=some (now.getD i []):=by
   rw[List.getD_eq_getElem?_getD,List.getElem?_eq_getElem h];rfl
  have hz:at'[i]?=some (at'.getD i 0):=by
   rw[List.getD_eq_getElem?_getD,List.getElem?_eq_getElem (by omega)];rfl
  have hzi:=LD old now _ (by rw[hat];exact List.mem_of_getElem? hz)
  have hvy:=hpb.2 _ (List.mem_of_getElem? hx)
  have hst:=En (bG f) p old now at' i
  obtain⟨l3,hl3⟩:=RJ (bG f) p old now at' (i:=i+1) (n:=now.length) (by omega)
  have RZ:ys=(oC p old.length at'++mg (bG f) p old now at' i)++(Em (bG f) p old now at' i++l3):=by
   rw[hys,rJ,hat]
   show oC p old.length at'++mg (bG f) p old now at' now.length=_
   rw[hl3,hst];simp
  by_cases hk0:0≤at'.getD i 0
  ·have hk0':=eq_true hk0
   have hadd:Em (bG f) p old now at' i=bG f (p++[⟨true,[],i⟩]) (old.getD (at'.getD i 0).toNat []) (now.getD i []):=by
    rw[Em,if_pos hk0]
   generalize at'.getD i 0=z at hz hzi hk0 hk0' hadd
   have hw:old[z.toNat]?=some (old.getD z.toNat []):=by
    rw[List.getD_eq_getElem?_getD,List.getElem?_eq_getElem (by omega)];rfl
   have hvx:=hpa.2 _ (List.mem_of_getElem? hw)
   generalize old.getD z.toNat []=x at hw hvx hadd
   generalize now.getD i []=v at hx hvy hadd
   simp (maxSteps:=400000) only[↓aA,aB,BEq.rfl,seval,hQ,hlt,zi,BL,sw,hG,mH N,Wu,Wv,hx,hz,hw,hk0',Wn,Aw,vN,ntS,Zq,List.take_succ_cons,List.drop_succ_cons,take_zero,drop_zero,↓Yp,Int.toNat_natCast]
   have hcall:=hs (p++[⟨true,[],i⟩]) x v (by simp;omega) hvx hvy
   rw[pqS]at hcall
   have hln:(mg (bG f) p old now at' (i+1)).length=(mg (bG f) p old now at' i).length+(iF (bG f (p++[⟨true,[],i⟩]) x v)).length:=by rw[hst,hadd,length_append,fF]
   have hyl:ys.length=(oC p old.length at').length+(mg (bG f) p old now at' (i+1)).length+l3.length:=by rw[RZ,hst];simp;omega
   rw[hadd]at RZ
   refine⟨by omega,by decide,Jc (n:=N) (bargs:=[bJ (p++[⟨true,[],i⟩]),ak x,ak v]) rfl rfl rfl rfl g_ iE (lQ (by simp only[RD,RY,P6,Bool.and_self])) (Jw p y at' N _ _ (.inl rfl) (.inr rfl)) rfl rfl hcall Cj
    (λj a hj=>by rw[RZ,←length_append];exact G5 hj) (λO1 hI1=>?_) λj O1 hj rQ=>?_⟩
   ·simp (maxSteps:=400000) only[↓aA,aB,BEq.rfl,seval,hQ]
    refine⟨⟨by omega,by omega⟩,m-1,by omega,i+1,O1,by omega,?_,by rw[Int.natCast_add];rfl⟩
    rw[hln,←Nat.add_assoc];exact hI1
   ·simp (maxSteps:=400000) only[↓aA,aB,BEq.rfl,seval,hQ,sw,Ei (iE _ _ rQ).1,mH N,P7]
    refine jV ?_ rQ (iE _ _ rQ).1
    rw[fF];omega
  ·have hk0':=eq_false hk0
   have hadd:Em (bG f) p old now at' i=[⟨1,p++[⟨true,[],i⟩],now.getD i []⟩]:=by
    rw[Em,if_neg hk0]
   generalize at'.getD i 0=z at hz hzi hk0 hk0' hadd
   generalize now.getD i []=v at hx hvy hadd
   simp (maxSteps:=400000) only[↓aA,aB,BEq.rfl,seval,hQ,hlt,zi,BL,sw,hG,mH N,Wu,Wv,hx,hz,hk0',Wn,Aw,vN,ntS,Zq,Int.toNat_natCast]
   have hln:(mg (bG f) p old now at' (i+1)).length=(mg (bG f) p old now at' i).length+1:=by rw[hst,hadd];simp
   have hyl:ys.length=(oC p old.length at').length+(mg (bG f) p old now at' (i+1)).length+l3.length:=by rw[RZ,hst];simp;omega
   rw[hadd]at RZ
   have hyq:(iF ys)[(oC p old.length at').length+(mg (bG f) p old now at' i).length]?=some [oz 1 (bJ (p++[⟨true,[],i⟩])) (ak v)]:=by
    rw[←LW,RZ,←length_append]
    exact zw (l2:=[])
   refine⟨by omega,zo (n:=N) rfl rfl rfl rfl g_ iE (lQ (by simp only[RD,RY,P6,Bool.and_self])) (Jw p y at' N _ _ (.inl rfl) (.inr rfl)) rfl Cj hyq (λO1 hI1=>?_) λO1 rQ=>?_⟩
   ·simp (maxSteps:=400000) only[↓aA,aB,BEq.rfl,seval,hQ]
    refine⟨⟨by omega,by omega⟩,m-1,by omega,i+1,O1,by omega,?_,by rw[Int.natCast_add];rfl⟩
    rw[hln,←Nat.add_assoc];exact hI1
   ·simp (maxSteps:=400000) only[↓aA,aB,BEq.rfl,seval,hQ,sw,Ei (iE _ _ rQ).1,mH N,P7]
    refine jV ?_ rQ (iE _ _ rQ).1
    rw[fF];omega
 ·rintro k O' hk ⟨i,O,hi,hJO,rfl⟩
  have hO:=(iE _ _ hJO).1
  rw[Uw (show (objs++_).length=_ by rw[length_append,hN,hO];rfl)]
  simp (maxSteps:=400000) only[↓aA,aB,BEq.rfl,seval,hQ,sw,Ei hO,mH N]
  exact jV (by rw[fF];exact hi) hJO hO
end Lp
namespace Lp
open Go
variable {P:Program}{D:TypeId→ay}{T:Know}
def UK(d:Nat)(t:Nat)(o':Obj)(e:Exit)(S:St):Prop:=
 (e=.normal∨e=.ret)∧∃S' k ver o,Weak 0 S S'∧S'.tmps.getD t .dead=.fw k ver∧S'.objs[k]?=some o∧o.live=true∧o.ver=ver∧l6 d k S' o=o'∧bg [o']
theorem OH{base ah:Nat→Prop}{w0:Wz}{S':St}{aj:Nat→Option Nat}{a:Act}{w':World}{d k:Nat}{o:Obj}(R':Rel base ah w0 S' aj a w')(ho:S'.objs[k]?=some o)(hlv:o.live=true)(hnr:bg [l6 d k S' o]) :
  bW base ah [l6 d k S' o] (λj=>if j=0 then aj k else none) w'∧
  ∀v,aP w' (aV base S'.objs aj) S'.objs aj (.fw k o.ver) v→aP w' (aV base [l6 d k S' o] (λj=>if j=0 then aj k else none)) [l6 d k S' o] (λj=>if j=0 then aj k else none) (.fw 0 0) v:=by
 refine⟨(Gu R' ho hlv hnr).1,λv hx=>?_⟩
 obtain⟨h0,o1,h1,h2,h3⟩:=hx
 rw[ho]at h1
 cases h1
 obtain⟨hM,g,hg,hv⟩:=h3 hlv rfl
 exact⟨h0,_,rfl,Nat.le_refl _,λ_ _=>⟨hM,g,by simp only[if_true];exact hg,hv⟩⟩
theorem av.OI {f:FuncId}{fn:Func}{c:Code}{C:LC}{args:List PV}{o':Obj}(d:Nat){t n:Nat}(hD:∀t,eP P t (D t))(hT:r9 P none vT T)(hm:P.follows .mixedOrders=true)
  (hf:P.funcs[f]?=some fn) (hname:(fn.name== "runtime.NumGoroutine")=false) (hb:fn.body=some c) (hn:fn.ntmps=n) (hr:fn.results=#[.tmp t]) (hC:strip C=comp c)
  (h:gY P D T C (UK d t o') (aU args n)):av P f args [] (.fw 0 0) [o']:=by
 refine⟨⟨fn,hf,hname,by rw[hb];rfl⟩,λw blk vs base hbase _ hargs=>?_⟩
 have hpw:PW P none vT c (UK d t o') (aU args n):=j3 hD hm C _ _ _ c _ _ hT hC h
 have R:=zZ hbase hargs n
 have hw:=hpw _ _ (λx=>(⟨w.heap,[],0,w⟩:Wz)=x) (by rintro z rfl;exact⟨rfl,rfl⟩) _ _ _ ⟨_,rfl,R⟩
 rw[←callsIn_wide (n:=0)]
 refine callsIn_of_wp_marks hf hb trivial ?_
 rw[hn]
 refine wpIn_mono hw ?_
 rintro e a' w' ⟨S0,Vr,⟨he,S',k,ver,o,hwk,ht,ho,hlv,hv,rfl,hnr⟩,_,rfl,R0⟩
 obtain⟨aj,R'⟩:=hwk _ _ _ _ _ _ (Nat.le_refl _) R0
 have key:∀w',Rel base (λb=>b<w.heap.size∧aH [] blk b) ⟨w.heap,[],0,w⟩ S' aj { a' with defers:=[] } w'→∃v,(results fn a'.tmps).run P w'=.ok v w'∧(∃v' jE,Ending.returned v=.returned v'∧
     bW base (λb=>b<w.heap.size∧aH [] blk b) [l6 d k S' o] jE w'∧
     aL w' (aV base [l6 d k S' o] jE) [l6 d k S' o] jE (.fw 0 0) v'∧(∀b,b<w.heap.size→aH [] blk b→w'.heap[b]?=w.heap[b]?)∧w.heap.size≤w'.heap.size∧Sm w w'):=by
  intro w' R'
  have hx:=R'.ev (.tmp t)
  change aL w' _ _ aj (S'.tmps.getD t .dead) (a'.tmps.getD t undef) at hx
  rw[ht,←hv]at hx
  obtain⟨c1,c2⟩:=OH (d:=d) R' ho hlv hnr
  exact⟨_,results_tmp hr _ _ _,a'.tmps.getD t undef,_,rfl,c1,c2 _ hx,λb hb1 hb2=>R'.fr b ⟨hb1,hb2⟩,R'.gr,R'.sm⟩
 rcases he with rfl | rfl<;>exact jk _ _ R' key
structure XT (d t:Nat) (o':Obj) (S:St):Prop where
 h:UK d t o' .ret S
theorem aa6{d t n:Nat}{o':Obj}{l:List (Nat×PV)}{ob:List Obj}{k ver:Nat}{o:Obj}(h1:(dR n l).getD t .dead=.fw k ver)(h2:ob[k]?=some o)(h3:o.live=true)(h4:o.ver=ver)(h5:{ eO d (k+1) ob o with ver:=0 }=o')(h6:bg [o']):XT d t o' ⟨dR n l,ob⟩:=
 ⟨.inr rfl,_,k,ver,o,Weak.refl _ _,h1,h2,h3,h4,h5,h6⟩
theorem aX.Y3 {f:FuncId}{n t:Nat}{C:LC}{args:List PV}{o':Obj}(h:aX P f n [.tmp t] C)(d:Nat)(hD:∀t,eP P t (D t))(hT:r9 P none vT T)(hm:P.follows .mixedOrders=true)
  (hw:∀Q:Exit→St→Prop,(∀l ob,Q .ret ⟨dR n l,ob⟩=XT d t o' ⟨dR n l,ob⟩)→gY P D T C Q (aU args n)):av P f args [] (.fw 0 0) [o']:=by
 obtain⟨fn,c,h1,h2,h3,h4,h5,h6⟩:=h
 exact av.OI d hD hT hm h1 h2 h3 h4 h5 h6 (hw _ λl ob=>propext ⟨λh=>⟨h⟩,λh=>h.h⟩)
theorem Ww{k kv n k' kv' n':Nat}{seen seen':List Nat}{i i' v v':Nat}(h:pR k kv n (seen++[i]) v=pR k' kv' n' (seen'++[i']) v'):k=k'∧kv=kv'∧n=n'∧i=i':=by
 simp only[pR,Obj.mk.injEq,List.cons.injEq,PV.fw.injEq,PV.int.injEq,true_and,List.map_append,List.map_cons,List.map_nil]at h
 obtain⟨⟨⟨h1,h2⟩,h3,h4⟩,_⟩:=h
 obtain⟨_,h5⟩:=List.append_inj' h4 rfl
 simp only[List.cons.injEq,PV.int.injEq,true_and,and_true]at h5
 exact⟨h1,h2,by omega,by omega⟩
theorem Y4{objs:List Obj}{j ver k kv n i:Nat}{seen:List Nat}{mo:Obj}{key v:PV}(h1:objs[j]?=some (pR k kv n (seen++[i]) ver))(h2:objs[k]?=some mo)(h3:mo.live=true)(h4:mo.ver=kv)(h5:mo.sz=2)(h6:mo.xs.length=n)(h7:mo.xs[i]?=some (.agg [key,v]))(K:KT) :
  qH (.fw j ver) objs K=K (.bP [key,v]) objs 1:=by
 refine propext ⟨λh=>?_,λh=>⟨k,kv,n,seen,i,mo,key,v,h1,h2,h3,h4,h5,h6,h7,h⟩⟩
 obtain⟨k',kv',n',seen',i',mo',key',v',g1,g2,_,_,_,_,g7,hk⟩:=h
 rw[h1]at g1
 obtain⟨rfl,rfl,rfl,rfl⟩:=Ww (Option.some.inj g1)
 rw[h2]at g2;cases g2
 rw[h7]at g7
 cases g7
 exact hk
end Lp
namespace Lp
open Go Go.Proofs
open List (map_append map_cons map_nil map_set)
def j6(p:List UInt8×Vl):PV:=.agg [.str p.1,ak p.2]
def bN(l:List (List UInt8×Vl))(v:Nat):Obj:=⟨MT,2,l.map j6,true,v⟩
theorem G_{α:Type}(enc:α→PV)(nm:List UInt8):∀(l:List (List UInt8×α)) (i:Nat),(∀p∈l,p.1≠nm)→jY .str (.str nm) (l.map λp=>.agg [.str p.1,enc p.2]) i=some none
 | [],_,_=>rfl
 | p::l,i,h=>by
  have h1:(decide (nm=p.1))=false:=decide_eq_false λe=>h p (List.mem_cons_self ..) e.symm
  simp only[map_cons,jY,MU,h1]
  exact G_ enc nm l (i+1) λq hq=>h q (List.mem_cons_of_mem _ hq)
theorem UL(d n:Nat)(objs:List Obj)(l:List (List UInt8×Vl)):(l.map j6).map (PV.bI (fB d n objs))=l.map j6:=by
 rw[List.map_map]
 refine List.map_congr_left λx _=>?_
 have h:fB d n objs (ak x.2)=ak x.2:=by cases d<;>rfl
 show PV.agg [fB d n objs (.str x.1),fB d n objs (ak x.2)]=j6 x
 rw[h]
 cases d<;>rfl
theorem jX(l:List (List UInt8×Vl))(v:Nat):bg [bN l v]:=by
 intro o ho x hx p hp
 simp only[List.mem_singleton]at ho
 subst ho
 simp only[bN,List.mem_map]at hx
 obtain⟨n,_,rfl⟩:=hx
 simp only[j6,PV.cells,List.mem_cons,List.not_mem_nil,or_false]at hp
 rcases hp with rfl | rfl<;>rfl
theorem FI{α β:Type}{a:List α}{b:List β}{i:Nat}{x:α}{y:β}(h1:a[i]?=some x)(h2:b[i]?=some y):(a.zip b).take (i+1)=(a.zip b).take i++[(x,y)]:=by
 have:(a.zip b)[i]?=some (x,y):=by rw[List.getElem?_zip_eq_some];exact⟨h1,h2⟩
 rw[List.take_add_one,this];rfl
theorem AB{v:Vl}(h:rP v)(hk:bD v=6):(aS v).Nodup∧(aS v).length=(aD v).length∧(aS v).length≤1000000∧(aS v).zip (aD v)=jq v:=by
 obtain⟨h1,_,h2,h3⟩:=gV h.rt hk
 have hf:=d9 h.rt
 refine⟨by rw[h2];exact nM h1.rise,by rw[h2,h3,List.length_map,List.length_map],by have:=h.len;omega,rfl⟩
theorem Mq(v:Vl)(hv:rP v)(hk:bD v=6):av Tryz.prog 88 [ak v] [] (.fw 0 0) [bN (jq v) 0]:=by
 refine E8.Y3 (T:=bH Tryz.prog [(52,l8),(76,y7)]) 0 hD (ax (af ul (af Lj au))) bM λQ hQ=>?_
 obtain⟨hn,hl,hln,hz⟩:=AB hv hk
 (conv=>arg 4;cbv);simp (maxSteps:=400000) only[↓aA,aB,BEq.rfl,seval,hQ,↓Fe,kI,↓l8,↓y7]
 refine⟨by have:=hv.len;omega,hv.rt.one,by have:=hv.len;omega,hv.rt.one,?_⟩
 refine bA (λm S=>∃i:Nat,i+m=(aS v).length∧S=⟨dR 26 [(3,.fw 0 1),(4,dV (aD v)),(11,oJ (aS v)),(12,.int .i64 (aS v).length),(13,.int .i64 i)],[bN ((jq v).take i) 1]⟩) (aS v).length ⟨0,by omega,?_⟩ ?_
 ·simp only[dX,keepR,Nat.reduceAdd,tK,Nat.reduceBEq,map_nil]
  rfl
 rintro m S ⟨i,him,rfl⟩
 rcases Nat.lt_or_ge i (aS v).length with h | h
 ·have hlt:((i:Int)<((aS v).length:Int))=True:=eq_true (by omega)
  have zi:(0≤(i:Int))=True:=eq_true (by omega)
  have hgn:=List.getElem?_eq_getElem h
  have Zd:=List.getElem?_eq_getElem (show i<(aD v).length by omega)
  generalize (aS v)[i]=nm at hgn
  generalize (aD v)[i]=x at Zd
  have ht2:=FI hgn Zd
  rw[hz]at ht2
  have hmf:jY .str (.str nm) (((jq v).take i).map j6) 0=some none:=G_ ak nm _ 0 λp hp e=>by
   obtain⟨j,hj⟩:=List.mem_iff_getElem?.1 hp
   rw[List.getElem?_take]at hj
   split at hj
   ·rename_i hji
    rw[←hz,List.getElem?_zip_eq_some]at hj
    have h1:=hj.1
    rw[e,←hgn]at h1
    have hjl:=(List.getElem?_eq_some_iff.1 hj.1).1
    have:=(List.getElem?_inj hjl hn).1 h1
    omega
   ·cases hj
  unfold bN
  simp (maxSteps:=400000) only[↓aA,aB,BEq.rfl,seval,hQ,hlt,zi,hgn,Zd,↓Fe,dU,Int.toNat_natCast]
  refine⟨.inl trivial,none,hmf,⟨by omega,by omega⟩,m-1,by omega,i+1,by omega,?_⟩
  rw[ht2]
  simp only[zS,map_append,map_cons,map_nil,List.length_append]
  rfl
 ·have hlt:((i:Int)<((aS v).length:Int))=False:=eq_false (by omega)
  have hi:(jq v).take i=jq v:=List.take_of_length_le (by rw[←hz,List.length_zip];omega)
  unfold bN
  simp (maxSteps:=400000) only[↓aA,aB,BEq.rfl,seval,hQ,hlt]
  rw[hi]
  exact aa6 (k:=0) (ver:=1) rfl rfl rfl rfl (by simp only[eO,UL];rfl) (jX _ 0)
set_option maxRecDepth 1000000 in
theorem OJ(b:Nat)(es:Array MapEntry)(clock:Nat)(w:World)(hb:w.heap[b]?=some (.map es clock)) :
  Calls Tryz.prog 89 #[.map (some b)] w λe w'=>e=.returned (.map (some w.heap.size))∧w'=w.alloc (.map es clock):=by
 have mixed:Tryz.prog.follows .mixedOrders=true:=by kernel_rfl
 have um:Tryz.prog.underlying 102=some (.map 9 23):=by kernel_rfl
 have hq:=λw=>run_eql_map_nil_sl (P:=Tryz.prog) w 102 _ _ (some b) um
 go_enter Tryz.func89,Tryz.ntmps89
 go_wp2
 rw[run_callFunc_extern Tryz.func112 (by kernel_rfl) (by kernel_rfl) (by kernel_rfl) (e:=Extern.MapsClone.clone) (by kernel_rfl),run_maps_clone_sl w 102 hb]
 simp only[Result.andThen]
 rw[Oper.upon_value]
 go_wp2
 rw[run_typeAssert_map_sl _ 102 _ _ _ _ um]
 simp only[Result.andThen]
 rw[Oper.upon_value]
 go_wp2
 go_ret
 exact⟨rfl,rfl⟩
theorem Mr{objs:List Obj}{k v:Nat}{l:List (List UInt8×Vl)}{K:KT}(hk:objs[k]?=some (bN l v))(hK:K (.fw objs.length 1) (objs++[bN l 1]) 2) :
  iD Tryz.prog 89 [.fw k v] objs K:=by
 refine⟨⟨_,Tryz.func89,by kernel_rfl,by kernel_rfl⟩,λbase ah w0 tmps blk a w vs R hargs=>?_⟩
 obtain⟨hl,hh⟩:=hargs
 match vs,hl with
 | [u],_=>
 have hu:aP w (aV base objs blk) objs blk (.fw k v) u:=hh 0 _ _ rfl rfl
 obtain⟨_,o,ho,_,hlive⟩:=hu
 rw[hk]at ho
 cases ho
 obtain⟨_,g,hg,rfl⟩:=hlive rfl rfl
 have uV:=R.objs.ob k _ hk rfl
 unfold bf at uV
 rw[hg]at uV
 obtain⟨c,c1,c2,c3⟩:=uV
 have hcell:w.heap[g]?=some (.map (mapOf c) (c.size / 2)):=by
  rw[c1];simp[kW,bN]
 show Calls Tryz.prog _ ⟨[.map (some g)]⟩ w _
 refine (OJ g (mapOf c) (c.size / 2) w hcell).mono ?_
 rintro e w' ⟨rfl,rfl⟩
 have hgr:jd w (w.alloc (.map (mapOf c) (c.size / 2))):=.push rfl
 have hnew:(w.alloc (.map (mapOf c) (c.size / 2))).heap[w.heap.size]?=some (.map (mapOf c) (c.size / 2)):=World.alloc_heap_new w _
 have abU:bW (nU base ⟨tmps,objs⟩ blk w) (λb=>b<w.heap.size∧aH [] blk b) [bN l 1] (λj=>if j=0 then some w.heap.size else none) (w.alloc (.map (mapOf c) (c.size / 2))):=by
  refine⟨λj o hj _=>?_,λj j' o o' g' hjj hj _ hj' _ hg'=>?_,λj o g' hj _ hg' hp=>?_⟩
  ·match j,hj with
   | 0,hj=>
    cases hj
    refine⟨c,by rw[hnew];simp[kW,bN],c2,λi x hx=>?_⟩
    obtain⟨d1,d2⟩:=c3 i x hx
    refine⟨d1,λq p hp=>?_⟩
    obtain⟨v',v1,v2⟩:=d2 q p hp
    have hnr:p.ref=false:=jX l v _ (List.mem_singleton.2 rfl) x (List.mem_of_getElem? hx) p (List.mem_of_getElem? hp)
    refine⟨v',v1,.aF ((v2.wQ hnr).mono hgr.1 (λb hb hok=>?_) λb x _ hx=>hgr.2.1 b x hx)⟩
    refine⟨.inl hok,λj' o' hj' _=>?_⟩
    match j',hj' with
    | 0,hj'=>simp;omega
  ·match j,j',hj,hj' with
   | 0,0,_,_=>exact absurd rfl hjj
  ·match j,hj with
   | 0,hj=>
    simp only[if_true,Option.some.injEq]at hg'
    omega
 have R2:=R.made (S:=⟨tmps,objs⟩) hgr (jX l 1) abU
 refine⟨_,_,_,_,rfl,hK,R2,?_⟩
 refine .dG ⟨rfl,bN l 1,by simp,Nat.le_refl _,λ_ _=>⟨rfl,w.heap.size,?_,rfl⟩⟩
 simp[aC]
theorem Bv(nm:List UInt8):∀(l:List (List UInt8×Vl)) (i:Nat),(jY .str (.str nm) (l.map j6) i=some none∧∀p∈l,p.1≠nm)∨∃j x,jY .str (.str nm) (l.map j6) i=some (some (i+j,ak x))∧l[j]?=some (nm,x)
 | [],_=>.inl ⟨rfl,λp hp=>by cases hp⟩
 | (k,v)::l,i=>by
  by_cases h:nm=k
  ·subst h
   exact .inr ⟨0,v,by simp[jY,j6,MU],rfl⟩
  ·have h1:decide (nm=k)=false:=decide_eq_false h
   have hm:∀z,jY .str (.str nm) (((k,v)::l).map j6) i=z↔jY .str (.str nm) (l.map j6) (i+1)=z:=λz=>by
    simp only[map_cons,j6,jY,MU,h1]
   rcases Bv nm l (i+1) with ⟨h2,h3⟩ | ⟨j,x,h2,h3⟩
   ·refine .inl ⟨(hm _).2 h2,λp hp=>?_⟩
    rcases List.mem_cons.1 hp with rfl | hp
    ·exact λe=>h e.symm
    ·exact h3 p hp
   ·exact .inr ⟨j+1,x,by rw[(hm _).2 h2];congr 3;omega,h3⟩
theorem Wx{l:List (List UInt8×Vl)}{i:Nat}{key v:PV}(h:(l.map j6)[i]?=some (.agg [key,v])):∃p,l[i]?=some p∧key=.str p.1∧v=ak p.2:=by
 rw[List.getElem?_map]at h
 cases hp:l[i]? with
 | none=>rw[hp]at h;cases h
 | some p=>
  rw[hp]at h
  simp only[Option.map_some,Option.some.injEq,j6,PV.agg.injEq,List.cons.injEq,and_true]at h
  exact⟨p,rfl,h.1.symm,h.2.symm⟩
theorem zD(l:List (List UInt8×Vl))(v:Nat):(bN l v).live=true∧(bN l v).ver=v∧(bN l v).sz=2∧(bN l v).ty=MT∧(bN l v).xs=l.map j6:=⟨rfl,rfl,rfl,rfl,rfl⟩
def UM(la lb l':List (List UInt8×Vl))(seen:List Nat):Prop:=(l'.map (·.1)).Nodup∧∀k,k∈l'.map (·.1)↔k∈la.map (·.1)∨∃j∈seen,∃p,lb[j]?=some p∧p.1=k
theorem Ey{la lb l' l2:List (List UInt8×Vl)}{seen:List Nat}(h:UM la lb l' seen){i:Nat}{p:List UInt8×Vl}(hp:lb[i]?=some p)(h2:(l2=l'++[p]∧p.1 ∉ l'.map (·.1))∨∃j x,l'[j]?=some (p.1,x)∧l2=l'.set j p):UM la lb l2 (seen++[i]):=by
 have hx:∀k,(∃j∈seen++[i],∃q,lb[j]?=some q∧q.1=k)↔(∃j∈seen,∃q,lb[j]?=some q∧q.1=k)∨k=p.1:=λk=>by
  constructor
  ·rintro⟨j,hj,q,hq,e⟩
   rcases List.mem_append.1 hj with hj | hj
   ·exact .inl ⟨j,hj,q,hq,e⟩
   ·rw[List.mem_singleton]at hj;subst hj
    rw[hp]at hq;cases hq;exact .inr e.symm
  ·rintro (⟨j,hj,q,hq,e⟩ | rfl)
   ·exact⟨j,List.mem_append_left _ hj,q,hq,e⟩
   ·exact⟨i,by simp,p,hp,rfl⟩
 rcases h2 with ⟨rfl,hn⟩ | ⟨j,x,hj,rfl⟩
 ·refine⟨?_,λk=>?_⟩
  ·rw[map_append,List.nodup_append]
   refine⟨h.1,by simp,λa ha b hb e=>?_⟩
   simp only[map_cons,map_nil,List.mem_singleton]at hb
   subst e;subst hb;exact hn ha
  ·rw[hx,←or_assoc,←h.2]
   simp
 ·have hk:(l'.set j p).map (·.1)=l'.map (·.1):=by
    rw[map_set]
    have hjl:=(List.getElem?_eq_some_iff.1 hj).1
    apply List.ext_getElem?
    intro q
    by_cases e:j=q
    ·subst e
     rw[List.getElem?_set_self (by simpa using hjl),List.getElem?_map,hj];rfl
    ·rw[List.getElem?_set_ne e]
  refine⟨by rw[hk];exact h.1,λk=>?_⟩
  rw[hk,hx,←or_assoc,←h.2]
  refine⟨.inl,λh=>h.elim id λe=>?_⟩
  rw[e]
  exact List.mem_map.2 ⟨_,List.mem_of_getElem? hj,rfl⟩
theorem OL{O:List Obj}{N:Nat}(hO:O.length=N){la lb:List (List UInt8×Vl)}{K:KT}(hla:(la.map (·.1)).Nodup)(hK:∀l' seen,(l'.map (·.1)).Nodup→(∀k,k∈l'.map (·.1)↔k∈la.map (·.1)∨k∈lb.map (·.1))→K (.bP []) (O++[bN la 0,bN lb 0,bN l' 1,pR (N+1) 0 lb.length seen 1]) 2) :
  iD Tryz.prog 90 [.fw (N+2) 1,.fw (N+1) 0] (O++[bN la 0,bN lb 0,bN la 1]) K:=by
 refine dz.XP hD (Ef au _) bM λQ hQ hQn=>?_
 have hG:=Ei hO
 (conv=>arg 4;cbv);simp (maxSteps:=400000) only[↓aA,aB,BEq.rfl,seval,hQ,hG,mH N,↓VT,qG,zD]
 refine bA (λm S=>∃(l':List (List UInt8×Vl)) (seen rem:List Nat),rem.length=m∧(∀j,j<lb.length→j∈seen∨j∈rem)∧UM la lb l' seen∧
  S=⟨dR 16 [(0,.fw (N+2) 1),(7,.fw (N+3) 1)],O++[bN la 0,bN lb 0,bN l' 1,pR (N+1) 0 lb.length seen 1]⟩) lb.length ⟨la,[],List.range lb.length,by simp,λj hj=>.inr (List.mem_range.2 hj),⟨hla,λk=>⟨.inl,λh=>h.elim id λ⟨j,hj,_⟩=>by cases hj⟩⟩,?_⟩ ?_
 ·simp only[dX,keepR,Nat.reduceAdd,tK,Nat.reduceBEq,map_nil]
 rintro m S ⟨l',seen,rem,hrm,hsr,hC,rfl⟩
 simp (maxSteps:=400000) only[↓aA,aB,BEq.rfl,seval,hQ,↓VT]
 refine⟨rfl,N+1,0,_,seen,bN lb 0,hG.2.1 _ _ 2,hG.2.1 _ _ 0,rfl,rfl,rfl,by simp[bN],λhall=>?_,λi key v hns hx=>?_⟩
 ·simp (maxSteps:=400000) only[↓aA,aB,BEq.rfl,seval,hQ,bL,hQn]
  refine hK l' seen hC.1 λk=>?_
  rw[hC.2]
  refine or_congr_right ⟨λ⟨j,_,p,hp,e⟩=>e ▸ List.mem_map_of_mem (List.mem_of_getElem? hp),λh=>?_⟩
  obtain⟨p,hp,rfl⟩:=List.mem_map.1 h
  obtain⟨j,hj⟩:=List.mem_iff_getElem?.1 hp
  exact⟨j,hall j (List.getElem?_eq_some_iff.1 hj).1,p,hj,rfl⟩
 ·have hx':(lb.map j6)[i]?=some (.agg [key,v]):=hx
  obtain⟨p,hp,rfl,rfl⟩:=Wx hx'
  have hil:=(List.getElem?_eq_some_iff.1 hp).1
  have hset:(O++[bN la 0,bN lb 0,bN l' 1,pR (N+1) 0 lb.length seen 1]).set (N+3) (pR (N+1) 0 lb.length (seen++[i]) 1)=O++[bN la 0,bN lb 0,bN l' 1,pR (N+1) 0 lb.length (seen++[i]) 1]:=by
   rw[hG.2.2.2.1];rfl
  have he:∀K,qH (.fw (N+3) 1) (O++[bN la 0,bN lb 0,bN l' 1,pR (N+1) 0 lb.length (seen++[i]) 1]) K=K (.bP [.str p.1,ak p.2]) (O++[bN la 0,bN lb 0,bN l' 1,pR (N+1) 0 lb.length (seen++[i]) 1]) 1:=λK=>
   Y4 (mo:=bN lb 0) (hG.2.1 _ _ 2) (hG.2.1 _ _ 0) rfl rfl rfl (by simp[bN]) hx' K
  rw[hset]
  have aa7:i∈rem:=(hsr i hil).resolve_left hns
  have hrl:(rem.erase i).length+1=rem.length:=by
   rw[List.length_erase_of_mem aa7]
   have:=List.length_pos_of_mem aa7
   omega
  have aa8:∀j,j<lb.length→j∈seen++[i]∨j∈rem.erase i:=λj hj=>by
   by_cases e:j=i
   ·exact .inl (by simp[e])
   ·rcases hsr j hj with h | h
    ·exact .inl (by simp[h])
    ·exact .inr ((List.mem_erase_of_ne e).2 h)
  rcases Bv p.1 l' 0 with ⟨hm,hno⟩ | ⟨j,x,hm,hj⟩
  ·simp (maxSteps:=400000) only[↓aA,aB,BEq.rfl,seval,hQ,bL,↓VT,↓he,↓Fe,dU,hG,mH N,zD,hm]
   refine⟨.inl trivial,(rem.erase i).length,by omega,l'++[p],seen++[i],rem.erase i,rfl,aa8,Ey hC hp ?_,?_⟩
   ·exact .inl ⟨rfl,λh=>by
      obtain⟨q,hq,e⟩:=List.mem_map.1 h
      exact hno q hq e⟩
   ·simp only[zS,bN,map_append,map_cons,map_nil];rfl
  ·simp (maxSteps:=400000) only[↓aA,aB,BEq.rfl,seval,hQ,bL,↓VT,↓he,↓Fe,dU,hG,mH N,zD,hm]
   refine⟨.inl trivial,(rem.erase i).length,by omega,l'.set j p,seen++[i],rem.erase i,rfl,aa8,Ey hC hp ?_,?_⟩
   ·exact .inr ⟨j,x,hj,rfl⟩
   ·simp only[zS,bN,map_set,Nat.zero_add];rfl
theorem abV(k v:Nat):(PV.fw k v).cells=[.fw k v]∧(PV.fw k v).isAgg=false∧(PV.fw k v).storable=true∧(PV.fw k v).ref=true:=⟨rfl,rfl,rfl,rfl⟩
def R7(k v:Nat):Obj:=⟨102,1,[.fw k v],true,1⟩
theorem OM{objs:List Obj}{k v:Nat}{K:KT}(hK:K (.fn 115 [] [.aT objs.length 1 0 0]) (objs++[R7 k v]) 2):iD Tryz.prog 92 [.fw k v] objs K:=by
 refine fP.aaY hD (Ef au _) bM (by decide) λQ hQ=>?_
 (conv=>arg 4;cbv);simp (maxSteps:=400000) only[↓aA,aB,BEq.rfl,seval,hQ,abV]
 exact hK
end Lp
namespace Go.Proofs
open Go.Shelf
def Tryz.Bw:Go.Shelf.Ren:=⟨λ| 7=>92 | 10=>115 | n=>n,λ| 23=>102 | 26=>9 | 3=>23 | 28=>108 | 0=>0 | 27=>107 | 33=>61 | 4=>4 | n=>n,λ| n=>n⟩
theorem Tryz.Wy:Go.Proofs.SlLaysZ.n7 Tryz.prog Tryz.Bw:={
 mixed:=by kernel_rfl
 f7:=⟨Tryz.f92.name,by decide,Tryz.func92.trans (congrArg some (by kernel_rfl))⟩
 f10:=⟨Tryz.f115.name,by decide,Tryz.func115.trans (congrArg some (by kernel_rfl))⟩
 t0:=Tryz.underlying0
 a0:=Tryz.isAgg0
 z0:=Tryz.sizeOf0
 v0:=Tryz.zeroValue0
 t4:=Tryz.underlying4
 a4:=Tryz.isAgg4
 z4:=Tryz.sizeOf4
 v4:=Tryz.zeroValue4
 t23:=Tryz.underlying102
 a23:=Tryz.isAgg102
 z23:=Tryz.sizeOf102
 v23:=Tryz.zeroValue102
 t26:=Tryz.underlying9
 a26:=Tryz.isAgg9
 z26:=Tryz.sizeOf9
 v26:=Tryz.zeroValue9
 t27:=Tryz.underlying107
 a27:=Tryz.isAgg107
 z27:=Tryz.sizeOf107
 v27:=Tryz.zeroValue107
 t28:=Tryz.underlying108
 a28:=Tryz.isAgg108
 z28:=Tryz.sizeOf108
 v28:=Tryz.zeroValue108
 t33:=Tryz.underlying61
 a33:=Tryz.isAgg61
 z33:=Tryz.sizeOf61
 v33:=Tryz.zeroValue61 }
def Tryz.wN:Go.Shelf.Ren:=⟨λ| 6=>91 | 8=>113 | 9=>114 | 11=>128 | 13=>130 | 12=>129 | 23=>150 | 24=>151 | 14=>142 | 15=>143 | 16=>144 | 17=>145 | 18=>146 | 19=>147 | 20=>103 | 21=>148 | 22=>149 | 25=>160 | 26=>161 | 27=>162 | 28=>163 | 29=>164 | 30=>125 | 31=>170 | n=>n,λ| 26=>9 | 28=>108 | 24=>75 | 0=>0 | 3=>3 | 37=>122 | 48=>164 | 50=>138 | 4=>4 | 40=>158 | 39=>157 | 45=>90 | 5=>5 | 9=>9 | 51=>174 | 55=>178 | 57=>182 | 58=>183 | 33=>61 | n=>n,λ| n=>n⟩
theorem Tryz.R8:Go.Proofs.SlLaysZ.n6 Tryz.prog Tryz.wN:={
 mixed:=by kernel_rfl
 f6:=⟨Tryz.f91.name,by decide,Tryz.func91.trans (congrArg some (by kernel_rfl))⟩
 f8:=⟨Tryz.f113.name,by decide,Tryz.func113.trans (congrArg some (by kernel_rfl))⟩
 f11:=⟨Tryz.f128.name,by decide,Tryz.func128.trans (congrArg some (by kernel_rfl))⟩
 t0:=Tryz.underlying0
 a0:=Tryz.isAgg0
 z0:=Tryz.sizeOf0
 v0:=Tryz.zeroValue0
 t24:=Tryz.underlying75
 a24:=Tryz.isAgg75
 z24:=Tryz.sizeOf75
 v24:=Tryz.zeroValue75
 t26:=Tryz.underlying9
 a26:=Tryz.isAgg9
 z26:=Tryz.sizeOf9
 v26:=Tryz.zeroValue9
 t28:=Tryz.underlying108
 a28:=Tryz.isAgg108
 z28:=Tryz.sizeOf108
 v28:=Tryz.zeroValue108
 i26:=by kernel_rfl }
end Go.Proofs
namespace Lp
open Go Go.Proofs Go.RowKit Go.Maps Go.Sort Go.WideElems
open List (length_map map_map)
theorem Y5(m:Nat):AnyZ.SortsIn Tryz.prog Tryz.wN Fence.wide m:=
 ⟨λblk off cap ss W hH hblk hsz=>callsIn_wide.2 (Any.slices_Sort_string Tryz.PI blk off cap ss W hH hblk hsz),
  λp cap W=>callsIn_wide.2 (Any.slices_Sort_string_none Tryz.PI p cap W)⟩
theorem Ms(b nn Bm:Nat)(D0:DataW Unit)(R:Value→Option (DataW Unit×List MemPlace))(w:World)(hBm:Bm<w.heap.size)(hm:w.cell? ⟨Bm,0,none⟩=some (.map (some b)))(hown:w.ownsMap Tryz.prog 9 R b nn D0)(hmax:Maps.size D0≤2000000) :
  Calls Tryz.prog 91 #[.func (.func 115) #[] #[.pointer (some ⟨Bm,0,none⟩)]] w λe w'=>∃(v:Value) (ss:List (List UInt8)),e=.returned v∧ss.Perm (strKeys D0)∧
   w'.ownsRow w.heap.size 9 1 v ss.length ((ss.mergeSort (λx y=>decide (x≤y))).map encStr)∧(v=.slice none 0 0↔ss=[])∧Below w.heap.size w w':=by
 refine (callsIn_wide (n:=5)).1 ?_
 have hseq:SeqGives Fence.wide 2 Tryz.prog 115 #[.pointer (some ⟨Bm,0,none⟩)] encStr (λss=>ss.Perm (strKeys D0)) (Maps.size D0) w:=
  AnyZ.keys_gives (ρ:=Tryz.Bw) { Tryz.Wy with } Fence.wide _ trivial rfl (by omega) Bm b nn D0 _ hBm hm hown
 exact AnyZ.sorted_in Tryz.R8 Fence.wide 5 trivial trivial trivial trivial rfl (by omega) (Y5 _) (enters_of Tryz.func114 (by kernel_rfl) rfl) 115 #[.pointer (some ⟨Bm,0,none⟩)] trivial (enters_of Tryz.func115 (by kernel_rfl) rfl) _ _ (by simp[maxLen];omega) (by omega) _ hseq
theorem OO{w w':World}(h:Below w.heap.size w w'):jd w w':=
 ⟨h.size,λb x hx=>by rw[h.block b (Array.getElem?_eq_some_iff.1 hx).1];exact hx,h.os,h.output⟩
theorem UN{w:World}{b:Nat}{c:Array Value}{l:List (List UInt8×Vl)}(hb:w.heap[b]?=some (.map (mapOf c) (c.size / 2)))(hc:c.size=l.length*2)(hl:l.length≤2000000)(hn:(l.map (·.1)).Nodup)
  (hk:∀(i:Nat) p,l[i]?=some p→c[i*2]?=some (.string ⟨⟨p.1⟩⟩)∧p.1.length≤1000000) :
  ∃D0:DataW Unit,w.ownsMap Tryz.prog 9 (λ_=>some (.nil,[])) b l.length D0∧Maps.size D0=l.length∧(strKeys D0).Perm (l.map (·.1)):=by
 have us:Tryz.prog.underlying 9=some .string:=by kernel_rfl
 have hsz:(mapOf c).size=l.length:=by rw[fO];omega
 have hget:∀i (p:List UInt8×Vl),l[i]?=some p→∃e:MapEntry,(mapOf c).toList[i]?=some e∧e.key=.string ⟨⟨p.1⟩⟩∧e.born=i:=λi p hp=>by
  have hi:=(List.getElem?_eq_some_iff.1 hp).1
  refine⟨_,by rw[Array.getElem?_toList];exact fD c i (by omega),?_,rfl⟩
  show c.getD (2*i) undef=_
  rw[Array.getD_eq_getD_getElem?,Nat.mul_comm,(hk i p hp).1];rfl
 have hlen:(mapOf c).toList.length=l.length:=by rw[Array.length_toList];exact hsz
 have hkeys:(mapOf c).toList.map (·.key)=(l.map (·.1)).map λk=>Value.string ⟨⟨k⟩⟩:=by
  apply List.ext_getElem?
  intro i
  rcases Nat.lt_or_ge i l.length with h | h
  ·obtain⟨e,he,hke,_⟩:=hget i _ (List.getElem?_eq_getElem h)
   rw[List.getElem?_map,he,List.getElem?_map,List.getElem?_map,List.getElem?_eq_getElem h,Option.map_some,hke];rfl
  ·rw[List.getElem?_eq_none (by simpa[hlen] using h),List.getElem?_eq_none (by simpa using h)]
 have hborn:(mapOf c).toList.map (·.born)=List.range l.length:=by
  apply List.ext_getElem?
  intro i
  rcases Nat.lt_or_ge i l.length with h | h
  ·obtain⟨e,he,_,UZ⟩:=hget i _ (List.getElem?_eq_getElem h)
   rw[List.getElem?_map,he,Option.map_some,UZ,List.getElem?_range h]
  ·rw[List.getElem?_eq_none (by simpa[hlen] using h),List.getElem?_eq_none (by simpa using h)]
 have hrd:∀x∈(mapOf c).toList,∃k:List UInt8,x.key=.string ⟨⟨k⟩⟩∧rd (H:=Unit) Tryz.prog 9 (λ_=>some (.nil,[])) x=some (.string k,.nil):=λx hx=>by
  obtain⟨i,hi⟩:=List.mem_iff_getElem?.1 hx
  have hil:=(List.getElem?_eq_some_iff.1 hi).1
  rw[hlen]at hil
  obtain⟨e,he,hke,_⟩:=hget i _ (List.getElem?_eq_getElem hil)
  rw[hi]at he;cases he
  refine⟨_,hke,?_⟩
  have h2:=(hk i _ (List.getElem?_eq_getElem hil)).2
  have h3:keyOf Tryz.prog 9 x.key=some (.string l[i].1):=by
   rw[hke];exact Go.WideMaps.keyOf_string_mk us (by show List.length _≤_;simp[maxLen];omega)
  simp only[WideElems.rd,h3]
  rfl
 refine⟨_,⟨mapOf c,c.size / 2,hb,⟨by simp[hsz,maxLen];omega,⟨λx hx=>?_,?_,?_⟩,λx hx=>?_⟩,by omega,rfl⟩,?_,?_⟩
 ·have:x.born∈(mapOf c).toList.map (·.born):=List.mem_map_of_mem hx
  rw[hborn,List.mem_range]at this
  omega
 ·rw[hborn];exact List.nodup_range
 ·rw[hkeys]
  refine List.Pairwise.map _ (λa b hab e=>hab ?_) hn
  simpa using e
 ·obtain⟨k,_,h⟩:=hrd x hx
  exact⟨_,h⟩
 ·refine (WideShapes.sorted_perm (H:=Unit) _).length_eq.trans ?_
  rw[length_map,hlen]
 ·show ((List.foldr DataW.insert [] _).map λp=>strOf p.1).Perm _
  refine ((WideShapes.sorted_perm (H:=Unit) _).map _).trans ?_
  have:((mapOf c).toList.map (rg (H:=Unit) Tryz.prog 9 λ_=>some (.nil,[]))).map (λp=>strOf p.1)=l.map (·.1):=by
   rw[map_map]
   have e:(mapOf c).toList.map ((λp:Lit×DataW Unit=>strOf p.1) ∘ rg (H:=Unit) Tryz.prog 9 λ_=>some (.nil,[]))=((mapOf c).toList.map (·.key)).map (λv=>match v with | .string s=>s.data.toList | _=>[]):=by
    rw[map_map]
    refine List.map_congr_left λx hx=>?_
    obtain⟨k,h1,h2⟩:=hrd x hx
    simp only[Function.comp_apply,rg,h2,Option.getD_some,strOf,h1]
   rw[e,hkeys,map_map]
   conv=>rhs;rw[←List.map_id (l.map (·.1))]
   rfl
  rw[this]
theorem Jy{objs:List Obj}{kb km:Nat}{l:List (List UInt8×Vl)}{K:KT}(h1:objs[kb]?=some (R7 km 1))(h2:objs[km]?=some (bN l 1))(hn:(l.map (·.1)).Nodup)(hl:l.length≤2000000)(hkl:∀k∈l.map (·.1),k.length≤1000000)
  (hK:K (oJ (o9 (l.map (·.1)))) objs 2):iD Tryz.prog 91 [.fn 115 [] [.aT kb 1 0 0]] objs K:=by
 refine⟨⟨_,Tryz.func91,by kernel_rfl,by kernel_rfl⟩,λbase ah w0 tmps blk a w vs R hargs=>?_⟩
 obtain⟨hvl,hh⟩:=hargs
 match vs,hvl with
 | [u],_=>
 obtain⟨va,vc,rfl,⟨ha,_⟩,hc,hcr⟩:=hh 0 _ _ rfl rfl
 match va,ha,vc,hc with
 | [],_,[p],_=>
 have hp:aP w (aV base objs blk) objs blk (.aT kb 1 0 0) p:=hcr 0 _ _ rfl rfl
 obtain⟨_,o,ho,_,hlive⟩:=hp
 rw[h1]at ho
 cases ho
 obtain⟨_,Bm,hBm,rfl⟩:=hlive rfl rfl
 have uV:=R.objs.ob kb _ h1 rfl
 unfold bf at uV
 rw[hBm]at uV
 obtain⟨c,c1,_,c3⟩:=uV
 rw[jc (show (R7 km 1).ty≠MT by show 102≠MT;decide)]at c1
 obtain⟨v0,v1,v2⟩:=(c3 0 (.fw km 1) rfl).2 0 (.fw km 1) rfl
 obtain⟨_,om,hom,_,hml⟩:=v2
 rw[h2]at hom
 cases hom
 obtain⟨_,g,hg,rfl⟩:=hml rfl rfl
 have Y6:=R.objs.ob km _ h2 rfl
 unfold bf at Y6
 rw[hg]at Y6
 obtain⟨cm,m1,m2,m3⟩:=Y6
 have hheap:w.heap[g]?=some (.map (mapOf cm) (cm.size / 2)):=by rw[m1];simp[kW,bN]
 have hcsz:cm.size=l.length*2:=by
  have:=m2.2 rfl
  simpa[bN] using this
 have hcell:w.cell? ⟨Bm,0,none⟩=some (.map (some g)):=by
  simp only[World.cell?,c1]
  simpa[R7,JS,bN] using v1
 have hBl:Bm<w.heap.size:=(Array.getElem?_eq_some_iff.1 c1).1
 obtain⟨D0,hown,hsz,hperm⟩:=UN hheap hcsz hl hn λi q hq=>by
  have hx:(bN l 1).xs[i]?=some (j6 q):=by simp[bN,hq]
  obtain⟨w1,w2,w3⟩:=(m3 i _ hx).2 0 (.str q.1) rfl
  have w4:=uf (w3.wQ rfl)
  subst w4
  exact⟨by simpa[bN] using w2,hkl _ (List.mem_map_of_mem (List.mem_of_getElem? hq))⟩
 show Calls Tryz.prog _ ⟨[.func (.func 115) #[] #[.pointer (some ⟨Bm,0*1+0,none⟩)]]⟩ w _
 refine (Ms g l.length Bm D0 _ w hBl hcell hown (by omega)).mono ?_
 rintro e w' ⟨v,ss,rfl,hss,hrow,hnil,hB⟩
 have hgr:=OO hB
 have hsort:(ss.mergeSort λx y=>decide (x≤y))=o9 (l.map (·.1)):=mergeSort_of_perm (hss.trans hperm)
 have aa9:ss.length=l.length:=by rw[(hss.trans hperm).length_eq,length_map]
 rw[hsort]at hrow
 refine⟨v,_,objs,blk,rfl,hK,R.grew hgr,.aF ?_⟩
 obtain⟨r1,r2⟩:=hrow
 have hsl:(o9 (l.map (·.1))).length=ss.length:=by rw[yY,length_map,aa9]
 rcases r2 with ⟨rfl,hz⟩ | ⟨gb,cap,cur,rfl,hbase,hgb,q1,q2,q3,q4⟩
 ·have:o9 (l.map (·.1))=[]:=List.eq_nil_of_length_eq_zero (by omega)
  rw[this]
  exact .slnil 1 none (by decide)
 ·have hok:aV base objs blk gb:=by
    refine⟨R.bs gb (Nat.le_trans R.gr hbase),λk o hk hlo hb=>?_⟩
    have uV:=R.objs.ob k o hk hlo
    unfold bf at uV
    rw[hb]at uV
    obtain⟨_,x1,_⟩:=uV
    have:=(Array.getElem?_eq_some_iff.1 x1).1
    omega
  have hgs:gb<w'.heap.size:=(Array.getElem?_eq_some_iff.1 hgb).1
  have hel:∀(i:Nat) (s:List UInt8),(o9 (l.map (·.1)))[i]?=some s→cur[i]?=some (.string ⟨⟨s⟩⟩):=λi s hs=>by
   have hil:=(List.getElem?_eq_some_iff.1 hs).1
   have:(cur.toList.take (ss.length*1))[i]?=some (encStr s):=by rw[q4,List.getElem?_map,hs];rfl
   rw[List.getElem?_take]at this
   split at this
   ·simpa[encStr] using this
   ·cases this
  have hlen:(oJ (o9 (l.map (·.1))))=.sl 1 ((o9 (l.map (·.1))).map .str) none:=rfl
  rw[hlen,←hsl,←length_map (f:=PV.str)]
  refine .sl 1 _ none (by decide) gb 0 cap (λi _=>.string ⟨⟨(o9 (l.map (·.1))).getD i []⟩⟩) (λ_=>⟨hok,hgs⟩) (by rw[length_map,hsl];exact q1) q2 (λi x hx=>?_) (λi x j p hx hp=>?_) λi x j p hx hp=>?_
  all_goals
   rw[List.getElem?_map]at hx
   cases hs:(o9 (l.map (·.1)))[i]? with
   | none=>rw[hs]at hx;cases hx
   | some s=>
    rw[hs]at hx
    cases hx
    first
    | rfl
    | (match j,hp with
       | 0,hp=>
        cases hp
        have hd:(o9 (l.map (·.1))).getD i []=s:=by rw[List.getD_eq_getElem?_getD,hs];rfl
        first
        | (rw[hd];exact .str s)
        | (rw[hd]
           simp only[World.cell?,hgb,Nat.zero_add,Nat.mul_one,Nat.add_zero]
           exact hel i s hs))
end Lp
namespace Lp
open Go Go.Proofs
open Option (map_none map_some)
def rR:fu:=λargs objs K=>match args with
 | [a]=>jF ak a (HK.mk:HK λt=>rP t∧bD t=6∧K (.fw objs.length 0) (objs++[bN (jq t) 0]) 2)
 | _=>False
theorem FJ:aQ Tryz.prog 88 rR:=by
 intro args objs K h
 unfold rR at h
 split at h
 ·obtain⟨t,rfl,h1,h2,hk⟩:=h
  have h:=kJ.made (P:=Tryz.prog) (objs:=objs) _ _ rfl (jX (jq t) 0) (Mq t h1 h2)
  exact⟨_,_,_,h,by simpa[PV.shift,PV.jO] using hk⟩
 ·exact h.elim
theorem Ez(nm:List UInt8):∀(l:mK) (i:Nat),∃j,jY .str (.str nm) (l.map j6) i=some ((kg l nm).map λx=>(j,ak x))
 | [],i=>⟨0,rfl⟩
 | (k,v)::l,i=>by
  by_cases h:k=nm
  ·subst h
   exact⟨i,by simp[jY,j6,MU,kg]⟩
  ·obtain⟨j,hj⟩:=Ez nm l (i+1)
   have h1:decide (nm=k)=false:=decide_eq_false λe=>h e.symm
   have h2:decide (k=nm)=false:=decide_eq_false h
   exact⟨j,by simp only[List.map_cons,jY,j6,MU,h1];rw[show kg ((k,v)::l) nm=kg l nm by simp[kg,List.find?_cons,h2]];exact hj⟩
def Jz(la lb l':mK)(N:Nat)(seen:List Nat):List Obj:=[bN la 0,bN lb 0,bN l' 1,pR (N+1) 0 lb.length seen 1,R7 (N+2) 1]
theorem JA(la lb l':mK)(N:Nat)(seen:List Nat):Vu N (Jz la lb l' N seen):=by
 intro o ho x hx c hc
 simp only[Jz,List.mem_cons,List.not_mem_nil,or_false]at ho
 rcases ho with rfl | rfl | rfl | rfl | rfl
 ·exact jh (jX la 0 _ (List.mem_singleton.2 rfl) x hx c hc)
 ·exact jh (jX lb 0 _ (List.mem_singleton.2 rfl) x hx c hc)
 ·exact jh (jX l' 1 _ (List.mem_singleton.2 rfl) x hx c hc)
 ·simp only[pR,List.mem_cons,List.mem_map]at hx
  rcases hx with rfl | rfl | ⟨i,_,rfl⟩
  ·simp only[PV.cells,List.mem_singleton]at hc;subst hc;simp[PV.A7]
  ·simp only[PV.cells,List.mem_singleton]at hc;subst hc;rfl
  ·simp only[PV.cells,List.mem_singleton]at hc;subst hc;rfl
 ·simp only[R7,List.mem_singleton]at hx;subst hx
  simp only[PV.cells,List.mem_singleton]at hc;subst hc;simp[PV.A7]
theorem geT(n:Nat):(∀x b,(PV.bP [ak x,.bool b]).ge n=true)∧(∀z x q b,(PV.bP [.sl z x q,.bool b]).ge n=true):=⟨λ_ _=>rfl,λ_ _ _ _=>rfl⟩
theorem He{l:mK}{nm:List UInt8}(h:kg l nm=none):nm ∉ l.map (·.1):=by
 intro hm
 obtain⟨q,hq,rfl⟩:=List.mem_map.1 hm
 simp only[kg,Option.map_eq_none_iff,List.find?_eq_none]at h
 exact absurd (h q hq) (by simp)
theorem Hf{l:mK}{nm:List UInt8}{x:Vl}(h:kg l nm=some x):(nm,x)∈l:=by
 simp only[kg,Option.map_eq_some_iff]at h
 obtain⟨q,hq,rfl⟩:=h
 have h1:=List.find?_some hq
 have h2:=List.mem_of_find?_eq_some hq
 simp only[decide_eq_true_eq]at h1
 rw[←h1];exact h2
theorem FK{f:Nat}(hs:UJ f)(p:List Stp)(a b:Vl)(hp:p.length+f+1=20)(ha:rP a)(hb:rP b)(ka:bD a=6)(kb:bD b=6) :
  dZ Tryz.prog 66 [bO p,ak a,ak b] (iF ((pM a b).flatMap (wL (bG f) p a b))):=by
 refine Dy.PY (fnT:=jR [(88,rR),(93,zu)]) hD (af FJ (af Bq au)) bM (by decide) λI J objs y Q hI g_ iE hQ=>?_
 obtain⟨N,hN⟩:∃N,objs.length=N:=⟨_,rfl⟩
 rw[hN]at g_ iE hQ ⊢
 have hG:=Ei hN
 obtain⟨na,la,lna,hza⟩:=AB ha ka
 obtain⟨nb,lb,lnb,hzb⟩:=AB hb kb
 obtain⟨pa1,_,pa2,pa3⟩:=gV ha.rt ka
 obtain⟨pb1,_,pb2,pb3⟩:=gV hb.rt kb
 (conv=>arg 4;cbv);simp (maxSteps:=400000) only[↓aA,aB,BEq.rfl,seval,hQ,BL,hG,hN,mH N,vN,↓rR]
 refine⟨ha,ka,hb,kb,?_⟩
 refine rG rfl rfl (Mr (hG.1 _ _) ?_)
 simp (maxSteps:=400000) only[↓aA,aB,BEq.rfl,seval,hQ,BL,hG,hN,mH N]
 refine rG rfl rfl (OL hN (by rw[←pa2];exact na) λl' seen hn' hk'=>?_)
 simp (maxSteps:=400000) only[↓aA,aB,BEq.rfl,seval,hQ,BL,hG,hN,mH N]
 refine rG rfl rfl (OM ?_)
 simp (maxSteps:=400000) only[↓aA,aB,BEq.rfl,seval,hQ,BL,hG,hN,mH N]
 rw[←pa2,←pb2]at hk'
 have hperm:(l'.map (·.1)).Perm (aS a++(aS b).filter λx=>!(aS a).contains x):=by
  refine (List.perm_ext_iff_of_nodup hn' ?_).2 λk=>?_
  ·rw[List.nodup_append]
   refine⟨na,nb.filter _,λx hx z hz e=>?_⟩
   subst e
   have:=(List.mem_filter.1 hz).2
   simp[hx]at this
  ·rw[hk',List.mem_append,List.mem_filter]
   by_cases h:k∈aS a<;>simp[h]
 have hlen:l'.length≤2000000:=by
  have h1:=hperm.length_eq
  rw[List.length_map,List.length_append]at h1
  have h2:=List.length_filter_le (λx=>!(aS a).contains x) (aS b)
  omega
 have hkl:∀k∈l'.map (·.1),k.length≤1000000:=λk hk=>by
  rcases (hk' k).1 hk with h | h
  ·exact xD ha.rt ha.nm k h
  ·exact xD hb.rt hb.nm k h
 refine rG rfl rfl (Jy (km:=N+2) (l:=l') (hG.2.1 _ _ 3) (hG.2.1 _ _ 1) hn' hlen hkl ?_)
 have hnu:o9 (l'.map (·.1))=pM a b:=Go.mergeSort_of_perm hperm
 rw[hnu]
 simp (maxSteps:=400000) only[↓aA,aB,BEq.rfl,seval,hQ,BL,hG,hN,mH N]
 obtain⟨v_,hnm⟩:∃v_,pM a b=v_:=⟨_,rfl⟩
 have hnl:v_.length≤2000000:=by rw[←hnm,←hnu,yY,List.length_map];exact hlen
 have hmem:∀k∈v_,k∈aS a∨k∈aS b:=λk hk=>by
  rw[←hnm,←hnu]at hk
  exact (hk' k).1 ((List.mergeSort_perm _ _).mem_iff.1 hk)
 obtain⟨g,hg⟩:∃g,wL (bG f) p a b=g:=⟨_,rfl⟩
 rw[hnm]at hQ ⊢
 rw[hg]at hQ ⊢
 refine bA (λm S=>∃(i:Nat) (O:List Obj),i+m=v_.length∧I ((v_.take i).flatMap g).length O∧
  S=⟨dR 76 [(0,bO p),(3,.oF y),(9,.fw N 0),(10,.fw (N+1) 0),(31,oJ v_),(32,.int .i64 v_.length),(33,.int .i64 i)],O++Jz (jq a) (jq b) l' N seen⟩)
  v_.length ⟨0,objs,by omega,hI,?_⟩ ?_
 ·simp only[dX,keepR,Nat.reduceAdd,tK,Nat.reduceBEq,List.map_nil]
  rfl
 clear hG hN hI
 rintro m S ⟨i,O,him,Cj,rfl⟩
 have hO:=(g_ _ _ Cj).1
 have hG:=Ei hO
 rcases Nat.lt_or_ge i v_.length with h | h
 rotate_left 1
 ·have hlt:((i:Int)<(v_.length:Int))=False:=eq_false (by omega)
  simp (maxSteps:=400000) only[↓aA,aB,BEq.rfl,seval,hQ,hlt,BL]
  obtain rfl:i=v_.length:=by omega
  rw[List.take_length]at Cj
  exact Av (by rw[fF];exact Cj) hO
 have hlt:((i:Int)<(v_.length:Int))=True:=eq_true (by omega)
 have zi:(0≤(i:Int))=True:=eq_true (by omega)
 have hgn:=List.getElem?_eq_getElem h
 have htk:v_.take (i+1)=v_.take i++[v_[i]]:=by rw[List.take_add_one,hgn];rfl
 have hsplit:v_=v_.take i++(v_[i]::v_.drop (i+1)):=by rw[←List.drop_eq_getElem_cons h,List.take_append_drop]
 have hkm:=hmem _ (List.getElem_mem h)
 generalize v_[i]=nm at hgn htk hsplit hkm
 have hys:v_.flatMap g=(v_.take i).flatMap g++(g nm++(v_.drop (i+1)).flatMap g):=by
  conv=>lhs;rw[hsplit]
  rw[List.flatMap_append,List.flatMap_cons]
 have htl:((v_.take (i+1)).flatMap g).length=((v_.take i).flatMap g).length+(g nm).length:=by
  rw[htk,List.flatMap_append,List.length_append];simp
 have hyl:(v_.flatMap g).length=((v_.take i).flatMap g).length+(g nm).length+((v_.drop (i+1)).flatMap g).length:=by rw[hys];simp;omega
 obtain⟨ja,hja⟩:=Ez nm (jq a) 0
 obtain⟨jb,hjb⟩:=Ez nm (jq b) 0
 have hoa:oM a nm=kg (jq a) nm:=by rw[oM,if_pos ka]
 have uV:oM b nm=kg (jq b) nm:=by rw[oM,if_pos kb]
 cases hvb:kg (jq b) nm with
 | none=>
  have hgm:g nm=[⟨2,p++[⟨false,nm,0⟩],[]⟩]:=by
   rw[←hg,wL,if_neg (by simp[kE,uV,hvb])]
  rw[hvb]at hjb
  simp only[map_none]at hjb
  cases hva:kg (jq a) nm with
  | none=>
   rcases hkm with hk | hk
   ·rw[pa2]at hk;exact absurd hk (He hva)
   ·rw[pb2]at hk;exact absurd hk (He hvb)
  | some x=>
   rw[hva]at hja
   simp only[map_some]at hja
   have hyq:(iF (v_.flatMap g))[((v_.take i).flatMap g).length]?=some [oz 2 (bJ (p++[⟨false,nm,0⟩])) (.sl 0 [] (some true))]:=by
    rw[←GZ p _ [],hys,hgm]
    exact zw (l2:=[])
   have hg1:(g nm).length=1:=by rw[hgm];rfl
   simp (maxSteps:=400000) only[↓aA,aB,BEq.rfl,seval,hQ,hlt,zi,BL,Jz,hG,mH N,hgn,Wn,Aw,vN,↓Fe,iC,zD,hja,hjb,Al,bL,Int.toNat_natCast]
   refine aY _ (Weak.refl _ _) ?_
   simp (maxSteps:=400000) only[↓aA,aB,BEq.rfl,seval,hQ,hlt,zi,BL,Jz,hG,mH N,hgn,Wn,Aw,vN,↓Fe,iC,zD,hja,hjb,Al,bL,Int.toNat_natCast]
   refine⟨by omega,.inl trivial,.inl trivial,zo (n:=N) rfl rfl rfl rfl g_ iE (lQ (by simp only[RD,RY,geT,P6,Bool.and_self])) (JA (jq a) (jq b) l' N seen) rfl Cj hyq (λO1 hI1=>?_) λO1 rQ=>?_⟩
   ·simp (maxSteps:=400000) only[↓aA,aB,BEq.rfl,seval,hQ]
    refine⟨⟨by omega,by omega⟩,m-1,by omega,i+1,O1,by omega,?_,by rw[Int.natCast_add];rfl⟩
    rw[htl,hg1];exact hI1
   ·simp (maxSteps:=400000) only[↓aA,aB,BEq.rfl,seval,hQ]
    exact jV (by rw[fF];omega) rQ (iE _ _ rQ).1
 | some z=>
  rw[hvb]at hjb
  simp only[map_some]at hjb
  have hfb:eZ b nm=z:=by rw[eZ,uV,hvb];rfl
  have hzk:rP z:=(rP.parts hb).2 z (by rw[pb3];exact List.mem_map.2 ⟨_,Hf hvb,rfl⟩)
  cases hva:kg (jq a) nm with
  | none=>
   have hgm:g nm=[⟨1,p++[⟨false,nm,0⟩],z⟩]:=by
    rw[←hg,wL,if_pos (by simp[kE,uV,hvb]),if_neg (by simp[kE,hoa,hva]),hfb]
   rw[hva]at hja
   simp only[map_none]at hja
   have hyq:(iF (v_.flatMap g))[((v_.take i).flatMap g).length]?=some [oz 1 (bJ (p++[⟨false,nm,0⟩])) (ak z)]:=by
    rw[←LW,hys,hgm]
    exact zw (l2:=[])
   have hg1:(g nm).length=1:=by rw[hgm];rfl
   simp (maxSteps:=400000) only[↓aA,aB,BEq.rfl,seval,hQ,hlt,zi,BL,Jz,hG,mH N,hgn,Wn,Aw,vN,↓Fe,iC,zD,hja,hjb,Al,bL,Int.toNat_natCast]
   refine aY _ (Weak.refl _ _) ?_
   simp (maxSteps:=400000) only[↓aA,aB,BEq.rfl,seval,hQ,hlt,zi,BL,Jz,hG,mH N,hgn,Wn,Aw,vN,↓Fe,iC,zD,hja,hjb,Al,bL,Int.toNat_natCast]
   refine⟨by omega,.inl trivial,.inl trivial,zo (n:=N) rfl rfl rfl rfl g_ iE (lQ (by simp only[RD,RY,geT,P6,Bool.and_self])) (JA (jq a) (jq b) l' N seen) rfl Cj hyq (λO1 hI1=>?_) λO1 rQ=>?_⟩
   ·simp (maxSteps:=400000) only[↓aA,aB,BEq.rfl,seval,hQ]
    refine⟨⟨by omega,by omega⟩,m-1,by omega,i+1,O1,by omega,?_,by rw[Int.natCast_add];rfl⟩
    rw[htl,hg1];exact hI1
   ·simp (maxSteps:=400000) only[↓aA,aB,BEq.rfl,seval,hQ]
    exact jV (by rw[fF];omega) rQ (iE _ _ rQ).1
  | some x=>
   have hfa:eZ a nm=x:=by rw[eZ,hoa,hva];rfl
   have hxk:rP x:=(rP.parts ha).2 x (by rw[pa3];exact List.mem_map.2 ⟨_,Hf hva,rfl⟩)
   have hgm:g nm=bG f (p++[⟨false,nm,0⟩]) x z:=by
    rw[←hg,wL,if_pos (by simp[kE,uV,hvb]),if_pos (by simp[kE,hoa,hva]),hfb,hfa]
   rw[hva]at hja
   simp only[map_some]at hja
   have hcall:=hs (p++[⟨false,nm,0⟩]) x z (by simp;omega) hxk hzk
   rw[pqS]at hcall
   have hgl:(g nm).length=(iF (bG f (p++[⟨false,nm,0⟩]) x z)).length:=by rw[hgm,fF]
   simp (maxSteps:=400000) only[↓aA,aB,BEq.rfl,seval,hQ,hlt,zi,BL,Jz,hG,mH N,hgn,Wn,Aw,vN,↓Fe,iC,zD,hja,hjb,Al,bL,Int.toNat_natCast]
   refine aY _ (Weak.refl _ _) ?_
   simp (maxSteps:=400000) only[↓aA,aB,BEq.rfl,seval,hQ,hlt,zi,BL,Jz,hG,mH N,hgn,Wn,Aw,vN,↓Fe,iC,zD,hja,hjb,Al,bL,Int.toNat_natCast]
   refine⟨by omega,.inl trivial,.inl trivial,Jc (n:=N) (bargs:=[bJ (p++[⟨false,nm,0⟩]),ak x,ak z]) rfl rfl rfl rfl g_ iE (lQ (by simp only[RD,RY,geT,P6,Bool.and_self])) (JA (jq a) (jq b) l' N seen) rfl rfl hcall Cj
    (λj c hj=>by rw[hys,hgm];exact G5 hj) (λO1 hI1=>?_) λj O1 hj rQ=>?_⟩
   ·simp (maxSteps:=400000) only[↓aA,aB,BEq.rfl,seval,hQ]
    refine⟨⟨by omega,by omega⟩,m-1,by omega,i+1,O1,by omega,?_,by rw[Int.natCast_add];rfl⟩
    rw[htl,hgl];exact hI1
   ·simp (maxSteps:=400000) only[↓aA,aB,BEq.rfl,seval,hQ]
    exact jV (by rw[fF];omega) rQ (iE _ _ rQ).1
end Lp
namespace Lp
open Go Go.Proofs
theorem lV{f:Nat}{p:List Stp}{a b:Vl}{ys:List Ed}(ha:rP a)(hb:rP b)(hp:p.length+f=20)
  (h:(a=b∧ys=[])∨
   (a≠b∧bD a=6∧bD b=6∧p.length<20∧dZ Tryz.prog 66 [bO p,ak a,ak b] (iF ys))∨
   (a≠b∧bD a=5∧bD b=5∧p.length<20∧dZ Tryz.prog 67 [bO p,ak a,ak b] (iF ys))∨
   (a≠b∧(p.length<20→¬ (bD a=6∧bD b=6)∧¬ (bD a=5∧bD b=5))∧ys=[⟨0,p,b⟩])) :
  dZ Tryz.prog 45 [bO p,ak a,ak b] (iF ys):=by
 refine E5.PY (fnT:=jR [(65,cu)]) hD (af pJ au) bM (by decide) λI J objs y Q hI g_ iE hQ=>?_
 obtain⟨N,hN⟩:∃N,objs.length=N:=⟨_,rfl⟩
 rw[hN]at g_ iE hQ ⊢
 have hal:=ha.len
 have hbl:=hb.len
 obtain⟨na,ra,rfl,_⟩:=b_ ha.rt.name ha.rt.one.ne
 obtain⟨nb,rb,rfl,_⟩:=b_ hb.rt.name hb.rt.one.ne
 simp only[bD]at h
 have ga:(na::ra)[0]?=some na:=rfl
 have gb:(nb::rb)[0]?=some nb:=rfl
 generalize na::ra=a at *
 generalize nb::rb=b at *
 rcases h with ⟨hab,rfl⟩ | ⟨hab,k1,k2,hpl,hg⟩ | ⟨hab,k1,k2,hpl,hg⟩ | ⟨hab,hk,rfl⟩
 ·have hab':=eq_true hab
  (conv=>arg 4;cbv);simp (maxSteps:=400000) only[↓aA,aB,BEq.rfl,seval,hQ,BL,vN,Zu,ga,gb,↓cu,hab']
  have he:=lS (J:=J) (n:=N) (len:=0) hI hN
  exact⟨λ_=>⟨λ_=>⟨hal,hbl,he⟩,λ_=>⟨hal,hbl,he⟩⟩,λ_=>⟨hal,hbl,he⟩⟩
 ·have hab':=eq_false hab
  have hpl':(20≤(p.length:Int))=False:=eq_false (by omega)
  (conv=>arg 4;cbv);simp (maxSteps:=400000) only[↓aA,aB,BEq.rfl,seval,hQ,BL,vN,Zu,ga,gb,↓cu,hab',k1,k2,hpl']
  refine⟨hal,hbl,Eh (n:=N) (i:=0) (bargs:=[bO p,ak a,ak b]) rfl rfl rfl rfl g_ iE (lQ (by simp only[RD,RY,P6,Bool.and_self])) rfl (by simp[vN];exact⟨rfl,rfl⟩) hg hI (λj c hj=>by rw[Nat.zero_add];exact hj) (λO1 hI1=>?_) λj O1 hj rQ=>?_⟩
  ·simp (maxSteps:=400000) only[↓aA,aB,BEq.rfl,seval,hQ]
   rw[Nat.zero_add]at hI1
   exact lS hI1 (g_ _ _ hI1).1
  ·simp (maxSteps:=400000) only[↓aA,aB,BEq.rfl,seval,hQ]
   rw[Nat.zero_add]at rQ
   exact l_ hj rQ (iE _ _ rQ).1
 ·have hab':=eq_false hab
  have hpl':(20≤(p.length:Int))=False:=eq_false (by omega)
  (conv=>arg 4;cbv);simp (maxSteps:=400000) only[↓aA,aB,BEq.rfl,seval,hQ,BL,vN,Zu,ga,gb,↓cu,hab',k1,k2,hpl']
  refine⟨hal,hbl,Eh (n:=N) (i:=0) (bargs:=[bO p,ak a,ak b]) rfl rfl rfl rfl g_ iE (lQ (by simp only[RD,RY,P6,Bool.and_self])) rfl (by simp[vN];exact⟨rfl,rfl⟩) hg hI (λj c hj=>by rw[Nat.zero_add];exact hj) (λO1 hI1=>?_) λj O1 hj rQ=>?_⟩
  ·simp (maxSteps:=400000) only[↓aA,aB,BEq.rfl,seval,hQ]
   rw[Nat.zero_add]at hI1
   exact lS hI1 (g_ _ _ hI1).1
  ·simp (maxSteps:=400000) only[↓aA,aB,BEq.rfl,seval,hQ]
   rw[Nat.zero_add]at rQ
   exact l_ hj rQ (iE _ _ rQ).1
 ·have hab':=eq_false hab
  have hyq:(iF [⟨0,p,b⟩])[0]?=some [oz 0 (bO p) (ak b)]:=by rw[←Uy];rfl
  by_cases e1:na.kind=nb.kind
  ·have WU:=eq_true e1
   by_cases e2:20≤(p.length:Int)
   ·have e2':=eq_true e2
    (conv=>arg 4;cbv);simp (maxSteps:=400000) only[↓aA,aB,BEq.rfl,seval,hQ,BL,vN,Zu,ga,gb,↓cu,hab',Aw,WU,e2']
    refine⟨hal,hbl,Eg (n:=N) (i:=0) rfl rfl rfl rfl g_ iE (lQ (by simp only[RD,RY,P6,Bool.and_self])) (by rw[List.all_cons,vO _ _ _ (vN p).2.2.2.2.2.1 rfl];rfl) hI hyq (λO1 hI1=>?_) λO1 rQ=>?_⟩
    ·simp (maxSteps:=400000) only[↓aA,aB,BEq.rfl,seval,hQ]
     exact lS hI1 (g_ _ _ hI1).1
    ·simp (maxSteps:=400000) only[↓aA,aB,BEq.rfl,seval,hQ]
     exact l_ (i:=0) (Nat.zero_lt_one) rQ (iE _ _ rQ).1
   ·have e2':=eq_false e2
    obtain⟨q1,q2⟩:=hk (by omega)
    have n6:(na.kind=6)=False:=eq_false λe=>q1 ⟨e,by rw[←e1];exact e⟩
    have n5:(na.kind=5)=False:=eq_false λe=>q2 ⟨e,by rw[←e1];exact e⟩
    (conv=>arg 4;cbv);simp (maxSteps:=400000) only[↓aA,aB,BEq.rfl,seval,hQ,BL,vN,Zu,ga,gb,↓cu,hab',Aw,WU,e2',n6,n5]
    refine⟨hal,hbl,Eg (n:=N) (i:=0) rfl rfl rfl rfl g_ iE (lQ (by simp only[RD,RY,P6,Bool.and_self])) (by rw[List.all_cons,vO _ _ _ (vN p).2.2.2.2.2.1 rfl];rfl) hI hyq (λO1 hI1=>?_) λO1 rQ=>?_⟩
    ·simp (maxSteps:=400000) only[↓aA,aB,BEq.rfl,seval,hQ]
     exact lS hI1 (g_ _ _ hI1).1
    ·simp (maxSteps:=400000) only[↓aA,aB,BEq.rfl,seval,hQ]
     exact l_ (i:=0) (Nat.zero_lt_one) rQ (iE _ _ rQ).1
  ·have WU:=eq_false e1
   (conv=>arg 4;cbv);simp (maxSteps:=400000) only[↓aA,aB,BEq.rfl,seval,hQ,BL,vN,Zu,ga,gb,↓cu,hab',Aw,WU]
   refine⟨hal,hbl,Eg (n:=N) (i:=0) rfl rfl rfl rfl g_ iE (lQ (by simp only[RD,RY,P6,Bool.and_self])) (by rw[List.all_cons,vO _ _ _ (vN p).2.2.2.2.2.1 rfl];rfl) hI hyq (λO1 hI1=>?_) λO1 rQ=>?_⟩
   ·simp (maxSteps:=400000) only[↓aA,aB,BEq.rfl,seval,hQ]
    exact lS hI1 (g_ _ _ hI1).1
   ·simp (maxSteps:=400000) only[↓aA,aB,BEq.rfl,seval,hQ]
    exact l_ (i:=0) (Nat.zero_lt_one) rQ (iE _ _ rQ).1
theorem zF:∀f,UJ f
 | 0=>λp a b hp ha hb=>by
  rw[bG]
  split
  ·rename_i h
   exact lV ha hb hp (.inl ⟨h,rfl⟩)
  ·rename_i h
   exact lV ha hb hp (.inr (.inr (.inr ⟨h,λh'=>by omega,rfl⟩)))
 | f+1=>λp a b hp ha hb=>by
  have ih:=zF f
  rw[bG]
  split
  ·rename_i h
   exact lV ha hb hp (.inl ⟨h,rfl⟩)
  ·rename_i h
   split
   ·rename_i hk
    exact lV ha hb hp (.inr (.inl ⟨h,hk.1,hk.2,by omega,FK ih p a b (by omega) ha hb hk.1 hk.2⟩))
   ·rename_i h6
    split
    ·rename_i hk
     exact lV ha hb hp (.inr (.inr (.inl ⟨h,hk.1,hk.2,by omega,Mj ih p a b (by omega) ha hb⟩)))
    ·rename_i h5
     exact lV ha hb hp (.inr (.inr (.inr ⟨h,λ_=>⟨h6,h5⟩,rfl⟩)))
end Lp
