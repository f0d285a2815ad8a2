/-
  Part 5 of what the statement rests on: LpD11, LpD12, LpX2, LpD7, LpD8, LpD13, LpD3, LpRd, LpMf, LpX3, LpB1, LpIns0, LpInsS, LpInsV, LpX4, LpEd1, LpZ0, LpEd2, LpEt0, LpC16, LpC17, LpC18, LpC19, LpEt1, LpEt2, LpSup, LpEt3, LpEt4, LpEd3, LpOwn, LpEd4, LpEd5, LpEp, LpEd6, LpMapR, LpEd7, LpLayK, LpEd8, LpEd9. No condition.
-/
import Derived.Test.YthmobaehdbiljaaGreatDoorLp4
import Derived.Laws.CopyRow
import Derived.Shelf.Spec.SlicesInsertGrow
import Derived.Lib.Overlaps
import Derived.Lib.JoinLaws
import Derived.Lib.AppendZeros
import Derived.Laws.LoneSync
import Derived.WalkKit
import Derived.Sort.Row
import Derived.Shelf.Spec.SlicesInsert
import Derived.Laws.MakeOwn
import Derived.Shelf.SlMaps.Clone
import Derived.Shelf.SlGeneric
import Derived.Shelf.SlIter.Sorted
import Derived.Ground.GgzProg
import Derived.Test.YthmobaehdbiljaaGreatDoorProg

set_option linter.all false
set_option maxHeartbeats 8000000
set_option maxRecDepth 100000
namespace Lp
open Go Go.Proofs Go.RowKit
theorem abd:∀x y:List UInt8,x<y↔Op.bytesLess x y=true
 | [],[]=>by simp[Op.bytesLess]
 | [],b::y=>by simp[Op.bytesLess]
 | a::x,[]=>by simp[Op.bytesLess]
 | a::x,b::y=>by
  have ih:=abd x y
  rw[List.cons_lt_cons_iff,ih]
  simp only[Op.bytesLess]
  by_cases h1:a<b
  ·simp[h1]
  ·by_cases h2:a=b
   ·subst h2;simp[h1]
   ·simp[h1,h2]
theorem TQ(x y:List UInt8):decide (x≤y)=!Op.bytesLess y x:=by
 have:x≤y↔¬ y<x:=Iff.rfl
 rw[Bool.eq_iff_iff,decide_eq_true_iff,this,abd]
 simp
theorem RX(ss:List (List UInt8)):(nD ss).Perm ss:=List.mergeSort_perm ..
theorem RY{ss:List (List UInt8)}(h:ss.Nodup):ou (nD ss):=by
 have h1:(nD ss).Pairwise λx y=>decide (x≤y)=true:=List.pairwise_mergeSort
  (λa b c h1 h2=>by
   rw[TQ,Bool.not_eq_true']at *
   cases h:Op.bytesLess c a with
   | false=>rfl
   | true=>
    rcases CG a b with g | g | g
    ·rw[kR _ _ _ h g]at h2;cases h2
    ·subst g;rw[h]at h2;cases h2
    ·rw[g]at h1;cases h1)
  (λa b=>by
   rw[TQ,TQ]
   cases h:Op.bytesLess b a with
   | false=>rfl
   | true=>rw[FB _ _ h];rfl) ss
 have h2:(nD ss).Nodup:=(RX ss).nodup_iff.2 h
 refine List.Pairwise.imp ?_ (h1.and h2)
 rintro a b ⟨h3,h4⟩
 rw[TQ]at h3
 rcases CG a b with g | g | g
 ·exact g
 ·exact absurd g h4
 ·rw[g]at h3;cases h3
end Lp
namespace Lp
open Go Go.Proofs
theorem I9(P:Program)(D:TypeId→aD)(T:Know)(w pt:Bool)(ev:Operand→PV)(objs:List Obj)(K:KT) :
  (∀t x ix ok,kX P D T w pt ev objs (.lookup t x ix ok) K=jy D t (ev x) (ev ix) ok objs K)∧
  (∀t x y z,kX P D T w pt ev objs (.mapUpdate t x y z) K=fe D t (ev x) (ev y) (ev z) objs K)∧
  (∀t,kX P D T w pt ev objs (.makeMap t none) K=mH D t objs K):=⟨λ_ _ _ _=>rfl,λ_ _ _ _=>rfl,λ_=>rfl⟩
theorem Dt(ti:aD):(∀i v,found ti (some (i,v)) true=.bY [v,.bool true])∧(∀i v,found ti (some (i,v)) false=v)∧(found ti none true=.bY [aL ti,.bool false])∧(found ti none false=aL ti):=⟨λ_ _=>rfl,λ_ _=>rfl,rfl,rfl⟩
end Lp
namespace Lp
open Go Go.Proofs
structure HKT (K:KT):Type where
def ab5{K:KT}(b:Bool)(v:Vl)(objs:List Obj)(_h:HKT K):Prop:=match b with
 | true=>K (.bY [.aS objs.length 0,.int .i64 0]) (objs++[wT v 0]) 2
 | false=>K (.bY [.sl 0 [] (some true),.int .i64 4]) objs 1
theorem ab6(v:Vl)(objs:List Obj)(K:KT):(ab5 true v objs (HKT.mk:HKT K)=K (.bY [.aS objs.length 0,.int .i64 0]) (objs++[wT v 0]) 2)∧(ab5 false v objs (HKT.mk:HKT K)=K (.bY [.sl 0 [] (some true),.int .i64 4]) objs 1):=⟨rfl,rfl⟩
def oo:d9:=λargs objs K=>match args with
 | [a,b]=>sQ .str 1 a objs (HK.mk:HK λnames=>sQ aj 1 b objs (HK.mk:HK λl=>names.length≤1000000∧l.length≤1000000∧l.flatten.length≤1000000∧(∀v∈l,v≠[])∧(∀s∈names,s.length≤4611686018427387904)∧ab5 (dY names l.length) (zU names l) objs (HKT.mk:HKT K)))
 | _=>False
theorem Du:aR Tryz.prog 63 oo:=by
 intro args objs K h
 unfold oo at h
 split at h
 ·obtain⟨names,a',l1,t1,h⟩:=iV strCells h
  obtain⟨l,b',l2,t2,h1,h1',h2,h3,h4,h5⟩:=iV BS h
  cases hok:dY names l.length<;>rw[hok]at h5
  ·exact⟨_,_,_,.WK _ [a',b'] ⟨l1,l2,trivial⟩ rfl ((I8 names l hok h1 h1' h2 h3 h4).arg rfl (sS t1 t2)),h5⟩
  ·exact⟨_,_,_,.Ns 0 (.int .i64 0) _ [a',b'] ⟨l1,l2,trivial⟩ (qB _ _) rfl ((GV names l hok h1 h1' h2 h3 h4).arg rfl (sS t1 t2)),h5⟩
 ·exact h.elim
end Lp
namespace Lp
open Go Go.Proofs
open Int (reduceEq)
def EM(m e:Int):Bool:=decide (-1000≤e) && decide (e≤1000) && decide (m+e≤1000)
theorem Me(m e:Int)(hm:0≤m∧m≤1000000):av Tryz.prog 122 [.int .i64 m,.int .i64 e] [] (.bool (EM m e)) []:=by
 refine IQ.bR (T:=bA Tryz.prog []) 0 hD (ay au) bE (by decide) λQ hQ=>?_
 rcases tf (-1000≤e) with h1 | h1
 rotate_left 1
 ·have hr:EM m e=false:=by have:¬ (-1000≤e):=λh=>by rw[h1]at h;exact h
                           simp[EM,this]
  (conv=>arg 4;cbv);simp (maxSteps:=400000) only[↓aG,aH,BEq.rfl,seval,hQ,h1,hr]
 rcases tf (e≤1000) with h2 | h2
 rotate_left 1
 ·have hr:EM m e=false:=by have:¬ (e≤1000):=λh=>by rw[h2]at h;exact h
                           simp[EM,this]
  (conv=>arg 4;cbv);simp (maxSteps:=400000) only[↓aG,aH,BEq.rfl,seval,hQ,h1,h2,hr]
 have h1':=of_eq_true h1
 have h2':=of_eq_true h2
 have hr:EM m e=decide (m+e≤1000):=by simp[EM,h1',h2']
 (conv=>arg 4;cbv);simp (maxSteps:=400000) only[↓aG,aH,BEq.rfl,seval,hQ,h1,h2,hr]
 exact⟨by omega,by omega⟩
def lF:d9:=λargs objs K=>match args with
 | [.int .i64 m,.int .i64 e]=>(0≤m∧m≤1000000)∧K (.bool (EM m e)) objs 0
 | _=>False
theorem I_:aR Tryz.prog 122 (lF):=by
 intro args objs K h
 unfold lF at h
 split at h
 ·rename_i m e
  obtain⟨h1,hk⟩:=h
  exact⟨_,_,_,.pure _ rfl (Me m e h1),hk⟩
 ·exact h.elim
theorem GX(s:List UInt8)(hs:s.length≤4611686018427387904):av Tryz.prog 123 [.str s] [] (.bool (vQ s)) []:=by
 refine EJ.bR (T:=bA Tryz.prog [(132,uN)]) 0 hD (ay (af I7 au)) bE (by decide) λQ hQ=>?_
 have hf:=RL s
 (conv=>arg 4;cbv);simp (maxSteps:=400000) only[↓aG,aH,BEq.rfl,seval,hQ,↓uN]
 refine⟨hs,?_⟩
 rw[Bool.eq_iff_iff,←hf,decide_eq_true_iff]
 constructor
 ·intro h;rw[h]
 ·intro h
  generalize Lib.trimF l_ ⟨⟨s⟩⟩=t at h
  obtain⟨⟨t⟩⟩:=t
  have h':t=[]:=h
  rw[h']
def kH:d9:=λargs objs K=>match args with
 | [.str s]=>(s.length≤4611686018427387904)∧K (.bool (vQ s)) objs 0
 | _=>False
theorem EN:aR Tryz.prog 123 (kH):=by
 intro args objs K h
 unfold kH at h
 split at h
 ·rename_i s
  obtain⟨h1,hk⟩:=h
  exact⟨_,_,_,.pure _ rfl (GX s h1),hk⟩
 ·exact h.elim
theorem Vx(n:Nd)(hk:n.kind=3)(hn:n.name=[])(hs:n.s.length≤4611686018427387904):av Tryz.prog 101 [aM n] [] (.bool (AV n)) []:=by
 refine Oo.bR (T:=bA Tryz.prog [(122,lF),(123,kH),(124,BP)]) 0 hD (ay (af I_ (af EN (af OM au)))) bE (by decide) λQ hQ=>?_
 (conv=>arg 4;cbv);simp (maxSteps:=400000) only[↓aG,aH,BEq.rfl,seval,hQ]
 refine bg _ (Weak.freeze 1 0 (Nat.le_refl _) _) ?_
 have key:=BL n
 have hpw:∀b,EM n.s.length n.e=b→(b=true↔-1000≤n.e∧n.e≤1000∧n.s.length+n.e≤1000):=λb hb=>by
  rw[←hb];simp[EM,and_assoc]
 cases hp:EM n.s.length n.e
 ·have hr:AV n=false:=iF λh=>by
    have g:=(hpw _ hp).2 ⟨(key.1 h).2.2.2.1,(key.1 h).2.2.2.2.1,(key.1 h).2.2.2.2.2.1⟩
    cases g
  simp (maxSteps:=400000) only[↓aG,aH,BEq.rfl,seval,hQ,qz,↓lF,hk,hn,reduceEq,hp,hr]
  refine λh0 h1=>⟨by omega,by omega⟩
 have XQ:=(hpw _ hp).1 rfl
 cases hf:vQ n.s
 ·have hr:AV n=false:=iF λh=>by have:=(key.1 h).2.1;rw[hf]at this;cases this
  simp (maxSteps:=400000) only[↓aG,aH,BEq.rfl,seval,hQ,qz,↓lF,↓kH,hk,hn,reduceEq,hp,hf,hr]
  refine λh0 h1=>⟨⟨by omega,by omega⟩,hs⟩
 by_cases hz:n.s=[]
 ·rw[if_pos hz]at key
  have hf0:vQ []=true:=rfl
  rw[hz]at hp key
  have hp0:EM 0 n.e=true:=hp
  simp (maxSteps:=400000) only[↓aG,aH,BEq.rfl,seval,hQ,qz,↓lF,↓kH,hk,hn,reduceEq,hp0,hf0,hz]
  refine⟨λh0=>⟨λhng=>?_,λhng=>?_⟩,λh0=>iF λhb=>h0 (key.1 hb).1⟩
  ·exact iF λhb=>by have:=(key.1 hb).2.2.2.2.2.2.1;rw[hng]at this;cases this
  ·rw[Bool.eq_iff_iff,decide_eq_true_iff,key]
   refine⟨λh=>h.2.2.2.2.2.2.2,λh=>⟨h0,rfl,by simp,XQ.1,XQ.2.1,by simp;omega,by simpa using hng,h⟩⟩
 ·rw[if_neg hz]at key
  have htr:=RN n.s 48
  have hz':(n.s=[])=False:=eq_false hz
  simp (maxSteps:=400000) only[↓aG,aH,BEq.rfl,seval,hQ,qz,↓lF,↓kH,↓BP,hk,hn,reduceEq,hp,hf,hz']
  refine⟨λh0=>⟨λh=>iF λhb=>?_,λh1=>⟨⟨by omega,by omega⟩,hs,hs,?_⟩⟩,λh0=>iF λhb=>h0 (key.1 hb).1⟩
  ·have:=key.1 hb;omega
  ·rw[Bool.eq_iff_iff,decide_eq_true_iff,key,htr]
   exact⟨λh=>h.2.2.2.2.2.2,λh=>⟨h0,hf,by omega,XQ.1,XQ.2.1,XQ.2.2,h⟩⟩
def mU:d9:=λargs objs K=>match args with
 | [a0]=>gD aM a0 (HK.mk:HK λn=>(n.kind=3)∧(n.name=[])∧(n.s.length≤4611686018427387904)∧K (.bool (AV n)) objs 0)
 | _=>False
theorem RZ:aR Tryz.prog 101 (mU):=by
 intro args objs K h
 unfold mU at h
 split at h
 ·rename_i a0
  obtain⟨n,rfl,h1,h2,h3,hk⟩:=h
  exact⟨_,_,_,.pure _ rfl (Vx n h1 h2 h3),hk⟩
 ·exact h.elim
theorem Mf(n:Nd)(hl:n.s.length≤4611686018427387904):av Tryz.prog 73 [aM n] [] (.bool (bM n)) []:=by
 refine IL.bR (T:=bA Tryz.prog [(71,cZ),(101,mU)]) 0 hD (ay (af uO (af RZ au))) bE (by decide) λQ hQ=>?_
 (conv=>arg 4;cbv);simp (maxSteps:=400000) only[↓aG,aH,BEq.rfl,seval,hQ,nmP,adu]
 refine bg _ (Weak.freeze 1 0 (Nat.le_refl _) _) ?_
 have hn0:∀h,fA 1 0 [⟨46,6,[aM { kind:=n.kind,many:=n.many,name:=[],s:=n.s,neg:=n.neg,e:=n.e }],true,1⟩] (.bf 0 1 0 0)=h→.addr (aM ⟨n.kind,n.many,[],n.s,n.neg,n.e⟩)=h:=λ_ h=>h
 have h8:n.kind=0∨n.kind=1∨n.kind=2∨n.kind=3∨n.kind=4∨n.kind=5∨n.kind=6∨(n.kind≠0∧n.kind≠1∧n.kind≠2∧n.kind≠3∧n.kind≠4∧n.kind≠5∧n.kind≠6):=by omega
 rcases h8 with hk | hk | hk | hk | hk | hk | hk | ⟨k0,k1,k2,k3,k4,k5,k6⟩
 ·simp (maxSteps:=400000) only[↓aG,aH,BEq.rfl,seval,hQ,qz,↓cZ,↓mU,hk,reduceEq]
  rw[Bool.eq_iff_iff]
  simp[bM,hk,and_assoc]
 ·simp (maxSteps:=400000) only[↓aG,aH,BEq.rfl,seval,hQ,qz,↓cZ,↓mU,hk,reduceEq]
  rw[Bool.eq_iff_iff]
  simp[bM,hk,and_assoc]
 ·simp (maxSteps:=400000) only[↓aG,aH,BEq.rfl,seval,hQ,qz,↓cZ,↓mU,hk,reduceEq]
  rw[Bool.eq_iff_iff]
  simp[bM,hk,and_assoc]
 ·simp (maxSteps:=400000) only[↓aG,aH,BEq.rfl,seval,hQ,qz,↓cZ,↓mU,hk,reduceEq]
  refine⟨hl,?_⟩
  simp[bM,hk,AV]
 ·simp (maxSteps:=400000) only[↓aG,aH,BEq.rfl,seval,hQ,qz,↓cZ,↓mU,hk,reduceEq]
  refine⟨hl,?_⟩
  cases hu:utf n.s
  ·simp[Aa,bM,hk,hu]
  ·simp only[ifR]
   rw[Bool.eq_iff_iff]
   simp[bM,hk,hu,and_assoc]
 ·simp (maxSteps:=400000) only[↓aG,aH,BEq.rfl,seval,hQ,qz,↓cZ,↓mU,hk,reduceEq]
  refine⟨λhm=>?_,λhm=>?_⟩
  ·rw[Bool.eq_iff_iff]
   simp[bM,hk,hm,and_assoc]
  ·simp[bM,hk,hm]
 ·simp (maxSteps:=400000) only[↓aG,aH,BEq.rfl,seval,hQ,qz,↓cZ,↓mU,hk,reduceEq]
  refine⟨λhm=>?_,λhm=>?_⟩
  ·rw[Bool.eq_iff_iff]
   simp[bM,hk,hm,and_assoc]
  ·simp[bM,hk,hm]
 ·simp (maxSteps:=400000) only[↓aG,aH,BEq.rfl,seval,hQ,qz,↓cZ,↓mU,k0,k1,k2,k3,k4,k5,k6]
  simp[bM,k0,k1,k2,k3,k4,k5,k6]
def fq:d9:=λargs objs K=>match args with
 | [a0]=>gD aM a0 (HK.mk:HK λn=>(n.s.length≤4611686018427387904)∧K (.bool (bM n)) objs 0)
 | _=>False
theorem Ja:aR Tryz.prog 73 (fq):=by
 intro args objs K h
 unfold fq at h
 split at h
 ·rename_i a0
  obtain⟨n,rfl,h1,hk⟩:=h
  exact⟨_,_,_,.pure _ rfl (Mf n h1),hk⟩
 ·exact h.elim
end Lp
namespace Lp
open Go Go.Proofs
open List (length_reverse map_cons map_map map_nil take_zero)
def gQ(o:AU):PV:=.agg [.int .i64 o.kind,.int .i64 o.left,.bool o.first,.str o.last]
def BV(l:List AU):PV:=.sl 4 (l.map gQ) none
theorem GY:∀a b,gQ a=gQ b→a=b:=by
 intro a b h
 cases a;cases b
 simp only[gQ,PV.agg.injEq,List.cons.injEq,PV.int.injEq,PV.str.injEq,PV.bool.injEq,true_and,and_true]at h
 obtain⟨rfl,rfl,rfl,rfl⟩:=h
 rfl
theorem Dv :
  (∀o,(gQ o).cells=[.int .i64 o.kind,.int .i64 o.left,.bool o.first,.str o.last])∧(∀o,(gQ o).isAgg=true)∧(∀o,(gQ o).pure=true)∧(∀d m O o,fA d m O (gQ o)=gQ o)∧(∀d m O o,jG d m O (gQ o)=gQ o)∧type_of% (bq GY):=
 ⟨λ_=>rfl,λ_=>rfl,λ_=>rfl,λ_ _ _ _=>rfl,λ_ _ _ _=>rfl,bq GY⟩
theorem hO:∀l,BV l=.sl 4 (l.map gQ) none:=λ_=>rfl
theorem Ku:∀a b,BV a=BV b→a=b:=q8 hO GY
theorem inO:zG gQ:=by intro d n o x;cases d<;>rfl
theorem XR:type_of% Dv∧type_of% (yV hO)∧type_of% (l8 hO)∧type_of% (yX hO)∧type_of% (bq Ku)∧type_of% (iE hO inO):=
 ⟨Dv,yV hO,l8 hO,yX hO,bq Ku,iE hO inO⟩
def wW(o:AU):Bool:=decide (0<o.left)
theorem R7(o:AU):av Tryz.prog 75 [gQ o] [] (.bool (wW o)) []:=by
 unfold wW
 refine IU.bR (T:=bA Tryz.prog []) 0 hD (ay au) bE (by decide) λQ hQ=>?_
 (conv=>arg 4;cbv);simp (maxSteps:=400000) only[↓aG,aH,BEq.rfl,seval,hQ,gQ]
def wX:d9:=λargs objs K=>match args with
 | [a0]=>gD gQ a0 (HK.mk:HK λo=>K (.bool (wW o)) objs 0)
 | _=>False
theorem OX:aR Tryz.prog 75 (wX):=by
 intro args objs K h
 unfold wX at h
 split at h
 ·rename_i a0
  obtain⟨o,rfl,hk⟩:=h
  exact⟨_,_,_,.pure _ rfl (R7 o),hk⟩
 ·exact h.elim
def idxOf{α:Type}(p:α→Bool)(l:List α):Int:=match l.findIdx? p with
 | some i=>i
 | none=>-1
theorem idxOf_hit{α:Type}{p:α→Bool}{l:List α}{i:Nat}{x:α}(h:l[i]?=some x)(hx:p x=true)(hb:∀(j:Nat) y,j<i→l[j]?=some y→p y=false):idxOf p l=i:=by
 have:l.findIdx? p=some i:=by
  rw[List.findIdx?_eq_some_iff_getElem]
  obtain⟨hi,he⟩:=List.getElem?_eq_some_iff.1 h
  refine⟨hi,by rw[he];exact hx,λj hj=>?_⟩
  have:=hb j _ hj (List.getElem?_eq_getElem (by omega))
  simp[this]
 simp[idxOf,this]
theorem Ao{α:Type}{p:α→Bool}{l:List α}(hb:∀(j:Nat) y,l[j]?=some y→p y=false):idxOf p l=-1:=by
 have:l.findIdx? p=none:=by
  rw[List.findIdx?_eq_none_iff]
  intro x hx
  obtain⟨i,hi⟩:=List.mem_iff_getElem?.1 hx
  exact hb i x hi
 simp[idxOf,this]
theorem Dw{α:Type}(p:α→Bool)(l:List α):decide (0≤idxOf p l)=l.any p:=by
 rw[Bool.eq_iff_iff,decide_eq_true_iff]
 cases h:l.findIdx? p with
 | none=>
  rw[List.findIdx?_eq_none_iff]at h
  have:l.any p=false:=by rw[List.any_eq_false];intro x hx;simp[h x hx]
  simp[idxOf,List.findIdx?_eq_none_iff.2 h,this]
 | some i=>
  have h':=h
  rw[List.findIdx?_eq_some_iff_getElem]at h'
  obtain⟨hi,hp,_⟩:=h'
  have:l.any p=true:=List.any_eq_true.2 ⟨_,List.getElem_mem hi,hp⟩
  simp[idxOf,h,this]
theorem Mg(l:List AU)(hl:l.length≤4611686018427387904):av Tryz.prog 102 [BV l,.fn 75 [] []] [] (.int .i64 (idxOf wW l)) []:=by
 refine jI.bR (T:=bA Tryz.prog [(75,wX)]) 0 hD (ay (af OX au)) bE (by decide) λQ hQ=>?_
 (conv=>arg 4;cbv);simp (maxSteps:=400000) only[↓aG,aH,BEq.rfl,seval,hQ,XR]
 refine aQ (λm S=>∃i:Nat,i+m=l.length∧(∀(j:Nat) y,j<i→l[j]?=some y→wW y=false)∧S=⟨dD 19 [(0,BV l),(1,.fn 75 [] []),(7,.int .i64 l.length),(8,.int .i64 i)],[]⟩) l.length ⟨0,by omega,λj y h=>absurd h (Nat.not_lt_zero j),?_⟩ ?_
 ·simp only[cB,keepR,Nat.reduceAdd,oO,Nat.reduceBEq,map_nil]
  rfl
 rintro m S ⟨i,him,hb,rfl⟩
 rcases Nat.lt_or_ge i l.length with h | h
 rotate_left 1
 ·have hlt:((i:Int)<(l.length:Int))=False:=eq_false (by omega)
  have hr:=Ao (l:=l) λj y hj=>hb j y (by have:=(List.getElem?_eq_some_iff.1 hj).1;omega) hj
  simp (maxSteps:=400000) only[↓aG,aH,BEq.rfl,seval,hQ,hlt,hr]
 have hlt:((i:Int)<(l.length:Int))=True:=eq_true (by omega)
 have zi:(0≤(i:Int))=True:=eq_true (by omega)
 have hgi:=List.getElem?_eq_getElem h
 generalize l[i]=o at hgi
 cases hp:wW o
 rotate_left 1
 ·have hr:idxOf wW l=i:=idxOf_hit hgi hp hb
  simp (maxSteps:=400000) only[↓aG,aH,BEq.rfl,seval,hQ,hlt,zi,XR,hgi,↓wX,hp,hr]
 ·simp (maxSteps:=400000) only[↓aG,aH,BEq.rfl,seval,hQ,hlt,zi,XR,hgi,↓wX,hp]
  refine⟨⟨by omega,by omega⟩,m-1,by omega,i+1,by omega,λj y hj hy=>?_,rfl⟩
  rcases Nat.lt_or_ge j i with g | g
  ·exact hb j y g hy
  ·have:j=i:=by omega
   subst this
   rw[hgi]at hy;cases hy
   exact hp
def uQ:d9:=λargs objs K=>match args with
 | [a0,a1]=>gD BV a0 (HK.mk:HK λl=>a1=(.fn 75 [] [])∧(l.length≤4611686018427387904)∧K (.int .i64 (idxOf wW l)) objs 0)
 | _=>False
theorem Jb:aR Tryz.prog 102 (uQ):=by
 intro args objs K h
 unfold uQ at h
 split at h
 ·rename_i a0 a1
  obtain⟨l,rfl,rfl,h1,hk⟩:=h
  exact⟨_,_,_,.pure _ rfl (Mg l h1),hk⟩
 ·exact h.elim
theorem Mh(l:List AU)(hl:l.length≤4611686018427387904):av Tryz.prog 74 [BV l,.fn 75 [] []] [] (.bool (l.any wW)) []:=by
 refine iU.bR (T:=bA Tryz.prog [(102,uQ)]) 0 hD (ay (af Jb au)) bE (by decide) λQ hQ=>?_
 (conv=>arg 4;cbv);simp (maxSteps:=400000) only[↓aG,aH,BEq.rfl,seval,hQ,XR,↓uQ,Dw]
 exact hl
def uR:d9:=λargs objs K=>match args with
 | [a0,a1]=>gD BV a0 (HK.mk:HK λl=>a1=(.fn 75 [] [])∧(l.length≤4611686018427387904)∧K (.bool (l.any wW)) objs 0)
 | _=>False
theorem Jc:aR Tryz.prog 74 (uR):=by
 intro args objs K h
 unfold uR at h
 split at h
 ·rename_i a0 a1
  obtain⟨l,rfl,rfl,h1,hk⟩:=h
  exact⟨_,_,_,.pure _ rfl (Mh l h1),hk⟩
 ·exact h.elim
theorem oG(objs:List Obj)(K:KT) :
  (∀k m,dh D 85 [(0,.int .i64 k),(1,.int .i64 m)] objs K=K (gQ ⟨k,m,false,[]⟩) objs 0)∧
  (∀k m b,dh D 85 [(0,.int .i64 k),(1,.int .i64 m),(2,.bool b)] objs K=K (gQ ⟨k,m,b,[]⟩) objs 0):=by
 have z:aL (D 85)=gQ ⟨0,0,false,[]⟩:=by kernel_rfl
 have a:(D 85).agg=true:=by kernel_rfl
 simp only[dX]at z a
 refine⟨λk m=>?_,λk m b=>?_⟩
 all_goals
  simp[dh,nN,a,z,dX,oD,gQ,PV.isAgg,uf,PV.cells,PV.storable,PV.mD,PV.pure]
theorem zOl:(PV.vM (Value.agg { toList:=[Value.int IntKind.i64 0,Value.int IntKind.i64 0,Value.bool false,Value.string { data:={ toList:=[] } }] })).cells.length=4:=rfl
theorem zOs:(PV.vM (Value.agg { toList:=[Value.int IntKind.i64 0,Value.int IntKind.i64 0,Value.bool false,Value.string { data:={ toList:=[] } }] })).cells.all PV.storable=true:=rfl
def OY(s:List AU)(ver:Nat):Obj:=⟨85,4,s.reverse.map gQ,true,ver⟩
theorem Ap:(∀(o:AU) (m:Int),(gQ o).putCells 1 [.int .i64 m]=gQ { o with left:=m })∧(∀(o:AU) (b:Bool),(gQ o).putCells 2 [.bool b]=gQ { o with first:=b })∧(∀(o:AU) (t:List UInt8),(gQ o).putCells 3 [.str t]=gQ { o with last:=t }):=⟨λ_ _=>rfl,λ_ _=>rfl,λ_ _=>rfl⟩
theorem GZ(d n:Nat)(O:List Obj)(t:TypeId)(sz:Nat)(l:List AU)(ver:Nat):eO d n O ⟨t,sz,l.map gQ,true,ver⟩=⟨t,sz,l.map gQ,true,ver⟩:=by
 have:(l.map gQ).map (PV.bJ (fA d n O))=l.map gQ:=by
  rw[map_map]
  exact List.map_congr_left λx _=>rfl
 simp only[eO,this]
theorem Jd(v:Vl)(hs:Small v):av Tryz.prog 49 [aj v] [] (.bool (bX v)) []:=by
 have hl:=hs.len
 refine Oq.bR (T:=bA Tryz.prog [(73,fq),(71,cZ),(74,uR)]) 1 hD (ay (af Ja (af uO (af Jc au)))) bE (by decide) λQ hQ=>?_
 (conv=>arg 4;cbv);simp (maxSteps:=400000) only[↓aG,aH,BEq.rfl,seval,hQ,ZK,ZL,oG,zOl,zOs,Dv]
 refine aQ (λm S=>∃(s:List AU) (i ver:Nat),i+m=v.length∧FH v.length s (v.drop i)=bX v∧s.length≤i+1∧(∀o∈s,0≤o.left∧o.left≤1000000)∧S=⟨dD 123 [(0,aj v),(3,.aS 0 ver),(10,aj v),(11,.int .i64 v.length),(12,.int .i64 i)],[OY s ver]⟩) v.length
  ⟨[⟨5,1,false,[]⟩],0,1,by omega,Qy v,by simp,by simp,?_⟩ ?_ (hz:=Nat.zero_le _)
 ·simp only[cB,keepR,Nat.reduceAdd,oO,Nat.reduceBEq,map_nil]
  rfl
 rintro m S ⟨s,i,ver,him,hrun,hsl,hle,rfl⟩
 rcases Nat.lt_or_ge i v.length with h | h
 rotate_left 1
 ·have hlt:((i:Int)<(v.length:Int))=False:=eq_false (by omega)
  have hr:bX v=Bool.not (s.any wW):=by
   rw[←hrun,List.drop_eq_nil_of_le h,FH];rfl
  have hf:fA 1 0 [⟨85,4,s.reverse.map gQ,true,ver⟩] (.aS 0 ver)=BV s.reverse:=by
   simp only[fA,Nat.not_lt_zero,if_false,kD,List.getElem?_cons_zero,Nat.le_refl,decide_true,Bool.true_and,beq_self_eq_true,if_true]
   rw[map_map]
   rfl
  unfold OY
  simp (maxSteps:=400000) only[↓aG,aH,BEq.rfl,seval,hQ,hlt]
  refine bg _ (Weak.freeze 1 0 (Nat.zero_le _) _) ?_
  rcases Nat.eq_zero_or_pos v.length with h0 | h0
  ·have h0':((0:Int)<(v.length:Int))=False:=eq_false (by omega)
   have hrf:bX v=false:=by
    have:v=[]:=List.length_eq_zero_iff.1 h0
    rw[this];rfl
   simp (maxSteps:=400000) only[↓aG,aH,BEq.rfl,seval,hQ,h0',hrf]
  ·have h0':((0:Int)<(v.length:Int))=True:=eq_true (by omega)
   simp (maxSteps:=400000) only[↓aG,aH,BEq.rfl,seval,hQ,h0',hf,XR,↓uR]
   exact⟨by rw[length_reverse];omega,by rw[hr,List.any_reverse]⟩
 have hlt:((i:Int)<(v.length:Int))=True:=eq_true (by omega)
 have zi:(0≤(i:Int))=True:=eq_true (by omega)
 have hgi:=List.getElem?_eq_getElem h
 have hdi:=List.drop_eq_getElem_cons h
 have htx:=hs.txt _ (List.getElem_mem h)
 generalize v[i]=n at hgi hdi htx
 simp (maxSteps:=400000) only[↓aG,aH,BEq.rfl,seval,hQ,hlt,zi,hgi,ZK,ZL,TI,TJ]
 rw[hdi]at hrun
 have hll:(n.many≤(v.length:Int))=(n.many≤(v.length:Int)):=rfl
 refine aQ (λm' S=>∃(s':List AU) (R8:Nat),s'.length=m'∧s'.dropWhile (λo=>o.left==0)=s.dropWhile (λo=>o.left==0)∧s'.length≤i+1∧(∀o∈s',0≤o.left∧o.left≤1000000)∧
  S=⟨dD 123 [(0,aj v),(3,.aS 0 R8),(5,.bf 1 1 0 0),(10,aj v),(11,.int .i64 v.length),(12,.int .i64 i)],[OY s' R8,⟨46,6,[aM n],true,1⟩]⟩) s.length ⟨s,ver,rfl,rfl,hsl,hle,?_⟩ ?_
 ·simp only[cB,keepR,Nat.reduceAdd,oO,Nat.reduceBEq,map_nil]
 rintro m' S ⟨s',R8,hm',hdw,aez,hle',rfl⟩
 cases s' with
 | nil=>
  have h00:((0:Int)<((0:Nat):Int))=False:=eq_false (by omega)
  have h01:(((0:Nat):Int)=0)=True:=eq_true rfl
  have hr:bX v=false:=by rw[←hrun,FH,←hdw];rfl
  unfold OY
  simp (maxSteps:=400000) only[↓aG,aH,BEq.rfl,seval,hQ,h00,h01,hr,List.reverse_nil]
 | cons o t=>
 have hst:∀w,OY (o::t) w=⟨85,4,t.reverse.map gQ++[gQ o],true,w⟩:=λw=>by simp[OY]
 have hget:∀x:PV,(t.reverse.map gQ++[x])[t.length]?=some x:=λx=>by rw[List.getElem?_append_right (by simp)];simp
 have hset:∀x y:PV,(t.reverse.map gQ++[x]).set t.length y=t.reverse.map gQ++[y]:=λx y=>by rw[List.set_append_right _ _ (by simp)];simp
 have hpos:((0:Int)<((t.length+1:Nat):Int))=True:=eq_true (by omega)
 have hne0:(((t.length+1:Nat):Int)=0)=False:=eq_false (by omega)
 have t1:(((t.length+1:Nat):Int)-1).toNat=t.length:=by omega
 have z1:(0≤((t.length+1:Nat):Int)-1)=True:=eq_true (by omega)
 have YV:(((t.length+1:Nat):Int)-1<((t.length+1:Nat):Int))=True:=eq_true (by omega)
 have YW:(((t.length+1:Nat):Int)-1≤((t.length+1:Nat):Int))=True:=eq_true (by omega)
 simp only[List.length_cons]at aez hm'
 have i1:(-9223372036854775808≤((t.length+1:Nat):Int)-1∧((t.length+1:Nat):Int)-1≤9223372036854775807)=True:=eq_true ⟨by omega,by omega⟩
 have hlo:=hle' o (by simp)
 by_cases h0:o.left=0
 ·have h0':(o.left=0)=True:=eq_true h0
  rw[hst]
  simp (maxSteps:=400000) only[↓aG,aH,BEq.rfl,seval,hQ,hpos,t1,z1,YV,YW,i1,hget,hset,h0',Dv,length_reverse]
  refine⟨m'-1,by omega,t,R8+1,by omega,?_,by omega,λx hx=>hle' x (List.mem_cons_of_mem _ hx),?_⟩
  ·rw[←hdw];exact (List.dropWhile_cons_of_pos (by simpa using h0)).symm
  ·rw[List.take_left' (by simp)];rfl
 have h0':(o.left=0)=False:=eq_false h0
 have aeA:s.dropWhile (λo=>o.left==0)=o::t:=by rw[←hdw];exact List.dropWhile_cons_of_neg (by simpa using h0)
 have hstep:bX v=(bM n && decide (n.many≤v.length) && eF o n.name && FH v.length (⟨n.kind,n.many,true,[]⟩::⟨o.kind,o.left-1,false,n.name⟩::t) (v.drop (i+1))):=by
  rw[←hrun,FH,aeA]
 rw[hst]
 cases hpl:bM n
 ·have hr:bX v=false:=by rw[hstep,hpl];rfl
  simp (maxSteps:=400000) only[↓aG,aH,BEq.rfl,seval,hQ,hpos,hne0,t1,z1,YV,YW,i1,hget,hset,h0',Dv,length_reverse,↓fq,hpl,hr]
  exact htx.1
 by_cases hmL:n.many≤v.length
 rotate_left 1
 ·have Mi:((v.length:Int)<n.many)=True:=eq_true (by omega)
  have hr:bX v=false:=by rw[hstep,decide_eq_false hmL];simp
  simp (maxSteps:=400000) only[↓aG,aH,BEq.rfl,seval,hQ,hpos,hne0,t1,z1,YV,YW,i1,hget,hset,h0',Dv,length_reverse,↓fq,hpl,Mi,hr]
  exact htx.1
 have Mi:((v.length:Int)<n.many)=False:=eq_false (by omega)
 have hm0:0≤n.many:=by
  by_cases hk:n.kind=5∨n.kind=6
  ·exact (rZ hpl hk).1
  ·rw[tO hpl hk];exact Int.le_refl 0
 have hA:∀x y:AU,t.reverse.map gQ++[gQ x]++[gQ y]=(t.reverse++[x,y]).map gQ:=λx y=>by simp
 have fin:∀hn:eF o n.name=true,∃adx,adx<m∧∃(s:List AU) (i_1 ver:Nat),i_1+adx=v.length∧FH v.length s (v.drop i_1)=bX v∧s.length≤i_1+1∧(∀o∈s,0≤o.left∧o.left≤1000000)∧
     (⟨dD 123 [(0,aj v),(3,.aS 0 (R8+1)),(10,aj v),(11,.int .i64 v.length),(12,.int .i64 ((i:Int)+1))],[⟨85,4,t.reverse.map gQ++[gQ ⟨o.kind,o.left-1,false,n.name⟩]++[gQ ⟨n.kind,n.many,true,[]⟩],true,R8+1⟩]⟩:St)=
     ⟨dD 123 [(0,aj v),(3,.aS 0 ver),(10,aj v),(11,.int .i64 v.length),(12,.int .i64 i_1)],[OY s ver]⟩:=λhn=>by
  refine⟨m-1,by omega,⟨n.kind,n.many,true,[]⟩::⟨o.kind,o.left-1,false,n.name⟩::t,i+1,R8+1,by omega,?_,by simp only[List.length_cons];omega,λx hx=>?_,?_⟩
  ·rw[hstep,hpl,hn,decide_eq_true hmL];simp
  ·rcases List.mem_cons.1 hx with rfl | hx
   ·exact⟨hm0,by simp only;omega⟩
   ·rcases List.mem_cons.1 hx with rfl | hx
    ·simp only;omega
    ·exact hle' x (List.mem_cons_of_mem _ hx)
  ·simp[OY]
 by_cases k6:o.kind=6
 rotate_left 1
 ·have k6':(o.kind=6)=False:=eq_false k6
  by_cases hnm:n.name=[]
  rotate_left 1
  ·have hnm':(n.name=[])=False:=eq_false hnm
   have hr:bX v=false:=by
    have:eF o n.name=false:=by simp[eF,k6,hnm]
    rw[hstep,this];simp
   simp (maxSteps:=400000) only[↓aG,aH,BEq.rfl,seval,hQ,hpos,hne0,t1,z1,YV,YW,i1,hget,hset,h0',Dv,length_reverse,↓fq,hpl,Mi,k6',dx,Ap,oG,zOl,zOs,hnm',hr]
   exact htx.1
  ·have hnm':(n.name=[])=True:=eq_true hnm
   simp (maxSteps:=400000) only[↓aG,aH,BEq.rfl,seval,hQ,hpos,hne0,t1,z1,YV,YW,i1,hget,hset,h0',Dv,length_reverse,↓fq,hpl,Mi,k6',dx,Ap,oG,zOl,zOs,hnm']
   have hn:eF o n.name=true:=by simp[eF,k6,hnm]
   obtain⟨m1,e0,s1,j1,w1,e1,e2,e3,e4,e5⟩:=fin hn
   refine⟨htx.1,⟨by omega,by omega⟩,rfl,by omega,by omega,⟨by omega,by omega⟩,m1,e0,s1,j1,w1,e1,e2,e3,e4,?_⟩
   rw[←e5]
   simp only[hA,List.take_succ_cons,take_zero,map_cons (f:=eO _ _ _),map_nil,GZ]
   rfl
 have k6':(o.kind=6)=True:=eq_true k6
 cases hu:utf n.name
 ·have hr:bX v=false:=by
    have:eF o n.name=false:=by simp[eF,k6,hu]
    rw[hstep,this];simp
  simp (maxSteps:=400000) only[↓aG,aH,BEq.rfl,seval,hQ,hpos,hne0,t1,z1,YV,YW,i1,hget,hset,h0',Dv,length_reverse,↓fq,hpl,Mi,k6',dx,Ap,oG,zOl,zOs,↓cZ,hu,hr]
  exact⟨htx.1,htx.2⟩
 cases hfst:o.first
 rotate_left 1
 ·have hn:eF o n.name=true:=by simp[eF,k6,hu,hfst]
  simp (maxSteps:=400000) only[↓aG,aH,BEq.rfl,seval,hQ,hpos,hne0,t1,z1,YV,YW,i1,hget,hset,h0',Dv,length_reverse,↓fq,hpl,Mi,k6',dx,Ap,oG,zOl,zOs,↓cZ,hu,hfst]
  obtain⟨m1,e0,s1,j1,w1,e1,e2,e3,e4,e5⟩:=fin hn
  refine⟨htx.1,htx.2,⟨by omega,by omega⟩,rfl,by omega,by omega,⟨by omega,by omega⟩,m1,e0,s1,j1,w1,e1,e2,e3,e4,?_⟩
  rw[←e5]
  simp only[hA,List.take_succ_cons,take_zero,map_cons (f:=eO _ _ _),map_nil,GZ]
  rfl
 cases hbl:Op.bytesLess n.name o.last
 rotate_left 1
 ·have hr:bX v=false:=by
    have:eF o n.name=false:=by simp[eF,k6,hu,hfst,FB _ _ hbl]
    rw[hstep,this];simp
  simp (maxSteps:=400000) only[↓aG,aH,BEq.rfl,seval,hQ,hpos,hne0,t1,z1,YV,YW,i1,hget,hset,h0',Dv,length_reverse,↓fq,hpl,Mi,k6',dx,Ap,oG,zOl,zOs,↓cZ,hu,hfst,hbl,hr]
  exact⟨htx.1,htx.2⟩
 by_cases heq:n.name=o.last
 ·have heq':(n.name=o.last)=True:=eq_true heq
  have hr:bX v=false:=by
   have:eF o n.name=false:=by simp[eF,k6,hu,hfst,heq,lQ]
   rw[hstep,this];simp
  simp (maxSteps:=400000) only[↓aG,aH,BEq.rfl,seval,hQ,hpos,hne0,t1,z1,YV,YW,i1,hget,hset,h0',Dv,length_reverse,↓fq,hpl,Mi,k6',dx,Ap,oG,zOl,zOs,↓cZ,hu,hfst,hbl,heq',hr]
  exact⟨htx.1,htx.2⟩
 ·have heq':(n.name=o.last)=False:=eq_false heq
  have hn:eF o n.name=true:=by
   have:Op.bytesLess o.last n.name=true:=by
    rcases CG o.last n.name with g | g | g
    ·exact g
    ·exact absurd g.symm heq
    ·rw[g]at hbl;cases hbl
   simp[eF,k6,hu,this]
  simp (maxSteps:=400000) only[↓aG,aH,BEq.rfl,seval,hQ,hpos,hne0,t1,z1,YV,YW,i1,hget,hset,h0',Dv,length_reverse,↓fq,hpl,Mi,k6',dx,Ap,oG,zOl,zOs,↓cZ,hu,hfst,hbl,heq']
  obtain⟨m1,e0,s1,j1,w1,e1,e2,e3,e4,e5⟩:=fin hn
  refine⟨htx.1,htx.2,⟨by omega,by omega⟩,rfl,by omega,by omega,⟨by omega,by omega⟩,m1,e0,s1,j1,w1,e1,e2,e3,e4,?_⟩
  rw[←e5]
  simp only[hA,List.take_succ_cons,take_zero,map_cons (f:=eO _ _ _),map_nil,GZ]
  rfl
def lY:d9:=λargs objs K=>match args with
 | [a0]=>gD aj a0 (HK.mk:HK λv=>(Small v)∧K (.bool (bX v)) objs 0)
 | _=>False
theorem G5:aR Tryz.prog 49 (lY):=by
 intro args objs K h
 unfold lY at h
 split at h
 ·rename_i a0
  obtain⟨v,rfl,h1,hk⟩:=h
  exact⟨_,_,_,.pure _ rfl (Jd v h1),hk⟩
 ·exact h.elim
end Lp
namespace Lp
open Go Go.Proofs
end Lp
namespace Lp
open Go Go.Proofs
theorem OZ(v:Vl)(hl:v.length≤1099511627776)(ho:One v):av Tryz.prog 52 [aj v] [] (bT (ax v)) []:=by
 cases v with
 | nil=>exact absurd rfl ho.ne
 | cons n r=>
  obtain⟨hm,ps,h1,_,_⟩:=ho.parts
  have:=Rq (n::r) n r ps rfl hl hm h1
  rw[ax,bT,(dB h1).1,List.map_map]
  exact this
theorem O0(v:Vl)(hl:v.length≤1099511627776)(ho:One v):av Tryz.prog 76 [aj v] [] (jT (aJ v)) []:=by
 cases v with
 | nil=>exact absurd rfl ho.ne
 | cons n r=>
  obtain⟨hm,ps,h1,_,_⟩:=ho.parts
  have:=Ru (n::r) n r ps rfl hl hm h1
  rw[KS]at this
  rw[aJ,jT,(dB h1).2]
  exact this
def oH:d9:=λargs objs K=>match args with
 | [a0]=>gD aj a0 (HK.mk:HK λv=>(v.length≤1099511627776)∧(One v)∧K (bT (ax v)) objs 0)
 | _=>False
theorem wY:aR Tryz.prog 52 (oH):=by
 intro args objs K h
 unfold oH at h
 split at h
 ·rename_i a0
  obtain⟨v,rfl,h1,h2,hk⟩:=h
  exact⟨_,_,_,.pure _ rfl (OZ v h1 h2),hk⟩
 ·exact h.elim
def BX:d9:=λargs objs K=>match args with
 | [a0]=>gD aj a0 (HK.mk:HK λv=>(v.length≤1099511627776)∧(One v)∧K (jT (aJ v)) objs 0)
 | _=>False
theorem O3:aR Tryz.prog 76 (BX):=by
 intro args objs K h
 unfold BX at h
 split at h
 ·rename_i a0
  obtain⟨v,rfl,h1,h2,hk⟩:=h
  exact⟨_,_,_,.pure _ rfl (O0 v h1 h2),hk⟩
 ·exact h.elim
end Lp
namespace Lp
open Go Go.Proofs
instance :Inhabited Nd:=⟨⟨0,0,[],[],false,0⟩⟩
structure ady (n:Nd):Prop where
 kind:JM .i64 n.kind
 many:JM .i64 n.many
 name:n.name.length≤reachBytes
 s:n.s.length≤reachBytes
 e:JM .i64 n.e
theorem one_cell{t:TypeId}(hc:Tryz.prog.cellsOf t=1){cs:List Value}{off:Nat}{v:Value}(h:cs[off]?=some v):(cs.drop off).take (Tryz.prog.cellsOf t)=[v]:=by
 rw[hc]
 have hl:=(List.getElem?_eq_some_iff.1 h).1
 rw[show (cs.drop off)=cs[off]::cs.drop (off+1) from List.drop_eq_getElem_cons hl]
 rw[List.getElem?_eq_getElem hl]at h
 cases h
 rw[List.take_succ_cons,List.take_zero]
theorem XT:Tryz.prog.underlying 3=some (.int .i64):=by kernel_rfl
theorem O4:Tryz.prog.underlying 9=some .string:=by kernel_rfl
theorem ab7:Tryz.prog.underlying 4=some .bool:=by kernel_rfl
theorem adz:Tryz.prog.underlying 23=some (.slice 46):=by kernel_rfl
theorem XU:Tryz.prog.cellsOf 3=1:=by kernel_rfl
theorem O5:Tryz.prog.cellsOf 9=1:=by kernel_rfl
theorem ab8:Tryz.prog.cellsOf 4=1:=by kernel_rfl
theorem ab9:∃fs:Array Field,Tryz.prog.underlying 46=some (.struct fs)∧fs.toList.map (λf=>(f.offset,f.type))=[(0,3),(1,3),(2,9),(3,9),(4,4),(5,3)]:=
 ⟨Tryz.prog.fieldsOf 46,by kernel_rfl,by kernel_rfl⟩
theorem ZP:Rd Tryz.prog 46 aM ady:=by
 intro H eh w fuel cs x h hw
 obtain⟨fs,ht,hfs⟩:=ab9
 obtain⟨hl,hp⟩:=LV ht h hw
 rw[hfs]at hp
 have hc:Tryz.prog.cellsOf 46=6:=by kernel_rfl
 rw[hc]at hl
 match cs,hl with
 | [v0,v1,v2,v3,v4,v5],_=>
  obtain⟨n0,y0,a0,b0⟩:=hp 0 0 3 rfl
  obtain⟨n1,y1,a1,b1⟩:=hp 1 1 3 rfl
  obtain⟨n2,y2,a2,b2⟩:=hp 2 2 9 rfl
  obtain⟨n3,y3,a3,b3⟩:=hp 3 3 9 rfl
  obtain⟨n4,y4,a4,b4⟩:=hp 4 4 4 rfl
  obtain⟨n5,y5,a5,b5⟩:=hp 5 5 3 rfl
  rw[one_cell XU (v:=v0) rfl]at a0
  rw[one_cell XU (v:=v1) rfl]at a1
  rw[one_cell O5 (v:=v2) rfl]at a2
  rw[one_cell O5 (v:=v3) rfl]at a3
  rw[one_cell ab8 (v:=v4) rfl]at a4
  rw[one_cell XU (v:=v5) rfl]at a5
  obtain⟨k,g0,r0⟩:=Rd.int XT eh w n0 _ _ a0 b0
  obtain⟨m,g1,r1⟩:=Rd.int XT eh w n1 _ _ a1 b1
  obtain⟨nm,g2,r2⟩:=Rd.str O4 eh w n2 _ _ a2 b2
  obtain⟨s,g3,r3⟩:=Rd.str O4 eh w n3 _ _ a3 b3
  obtain⟨g,_,r4⟩:=Rd.bool ab7 eh w n4 _ _ a4 b4
  obtain⟨e,g5,r5⟩:=Rd.int XT eh w n5 _ _ a5 b5
  refine⟨⟨k,m,nm,s,g,e⟩,⟨g0,g1,g2,g3,g5⟩,rfl,λi p v h1 h2=>?_⟩
  match i with
  | 0=>simp[aM,PV.cells]at h1 h2;subst h1;subst h2;exact r0.2 0 _ _ rfl rfl
  | 1=>simp[aM,PV.cells]at h1 h2;subst h1;subst h2;exact r1.2 0 _ _ rfl rfl
  | 2=>simp[aM,PV.cells]at h1 h2;subst h1;subst h2;exact r2.2 0 _ _ rfl rfl
  | 3=>simp[aM,PV.cells]at h1 h2;subst h1;subst h2;exact r3.2 0 _ _ rfl rfl
  | 4=>simp[aM,PV.cells]at h1 h2;subst h1;subst h2;exact r4.2 0 _ _ rfl rfl
  | 5=>simp[aM,PV.cells]at h1 h2;subst h1;subst h2;exact r5.2 0 _ _ rfl rfl
  | i+6=>simp[aM,PV.cells]at h1
structure Big (v:Vl):Prop where
 len:v.length≤1152921504606846976
 txt:∀n∈v,n.s.length≤4611686018427387904∧n.name.length≤4611686018427387904
 nd:∀n∈v,ady n
theorem rd_val:Rd Tryz.prog 23 aj Big:=by
 intro H eh w fuel cs x h hw
 obtain⟨v,⟨h1,h2⟩,h3⟩:=Rd.slice (sz:=6) adz ZP (by kernel_rfl) (by decide) (λ_=>rfl) eh w fuel cs x h hw
 have hb:Tryz.prog.bytesOf 46=64:=by kernel_rfl
 rw[hb,reachBytes]at h1
 refine⟨v,⟨by omega,λn hn=>?_,h2⟩,h3⟩
 have g:=h2 n hn
 have g1:=g.name
 have g2:=g.s
 rw[reachBytes]at g1 g2
 exact⟨by omega,by omega⟩
structure adA (l:List Vl):Prop where
 len:l.length≤1152921504606846976
 all:∀v∈l,Big v
theorem aeB{t e:TypeId}{α:Type}{enc:α→PV}{good:α→Prop}(hu:Tryz.prog.underlying t=some (.slice e))(hr:Rd Tryz.prog t enc good)(h1:∀a,(enc a).cells=[enc a]){H:Type}{eh:TypeId×Value→H}{w:World}{base:Nat}{v:Value}{d:DataW H}{p:List MemPlace}
  (hv:Value.okWide Tryz.prog w .any base t v) (h:DataW.Trod eh Tryz.prog w 0 (λ_=>true) true t v d p) (hw:∀n∈DataW.weights Tryz.prog t d,n≤reachBytes):∃a:α,good a∧cu w (λ_=>True) (enc a) v:=by
 obtain⟨ad,len,cap,rfl⟩:=Go.WideShapes.okWide_slice hu hv
 obtain⟨fuel,h⟩:=h
 obtain⟨a,g,r⟩:=hr eh w fuel _ _ h hw
 rw[h1 a]at r
 exact⟨a,g,r.2 0 _ _ rfl rfl⟩
theorem acD{R:PV→Value→Prop}{p:PV}{ps:List PV}{v:Value}{vs:List Value}(h:R p v)(hs:bG R ps vs):bG R (p::ps) (v::vs):=
 ⟨by simp[hs.1],λi q u h1 h2=>by
  cases i with
  | zero=>simp at h1 h2;subst h1;subst h2;exact h
  | succ i=>exact hs.2 i q u (by simpa using h1) (by simpa using h2)⟩
theorem adB{R:PV→Value→Prop}:bG R [] []:=⟨rfl,λi q u h1=>by simp at h1⟩
end Lp
namespace Lp
open Go Go.Proofs
theorem bD{v:Vl}(hr:Rt v):(ax v).length≤v.length∧(aJ v).length≤v.length∧(ax v).flatten.length≤v.length∧∀p∈ax v,p.length≤v.length:=by
 obtain⟨n,r,rfl,_⟩:=bS hr.name hr.one.ne
 obtain⟨h1,h2,ps,h3,h4,h5,h6,h7⟩:=hr.parts
 obtain⟨q1,q2⟩:=dB h3
 have h8:=dW _ _ _ h3
 have h9:=iY _ _ _ h3
 have hfl:(ps.map gI).flatten.length=r.length:=by
  rw[←h4,List.length_flatten,List.length_flatten,List.map_map]
  congr 1
  exact List.map_congr_left λp _=>kY p
 refine⟨?_,?_,?_,λp hp=>Nat.le_of_lt (bU hr hp).2⟩
 ·simp only[ax,q1,List.length_map,List.length_cons];omega
 ·simp only[aJ,q2]
  split
  ·simp only[List.length_map,List.length_cons];omega
  ·simp
 ·simp only[ax,q1,hfl,List.length_cons];omega
theorem R9{v:Vl}{k:Nat}(h:vV v k=true):Rt v∧v.length≤k:=by
 simp only[vV,Bool.and_eq_true,decide_eq_true_eq]at h
 exact⟨nH h.2,h.1.1⟩
theorem adA.txt {l:List Vl}(h:adA l):∀v∈l,v.length≤1152921504606846976∧∀n∈v,n.s.length≤4611686018427387904∧n.name.length≤4611686018427387904:=λv hv=>⟨(h.all v hv).len,(h.all v hv).txt⟩
theorem Dx(l:List Vl):(eu l).length=l.flatten.length+1:=rfl
theorem uS{v:Vl}(hr:Rt v){q:Nd→Prop}(hq:∀n,q n→q { n with name:=[] })(hv:∀n∈v,q n):∀p∈ax v,∀n∈p,q n:=by
 obtain⟨n,r,rfl,_⟩:=bS hr.name hr.one.ne
 obtain⟨h1,h2,ps,h3,h4,_,_,_⟩:=hr.parts
 simp only[ax,(dB h3).1]
 intro p hp m hm
 obtain⟨p',hp',rfl⟩:=List.mem_map.1 hp
 have hin:∀x∈p',q x:=λx hx=>hv x (List.mem_cons_of_mem _ (by rw[←h4];exact List.mem_flatten.2 ⟨p',hp',hx⟩))
 cases p' with
 | nil=>cases hm
 | cons a t=>
  rcases List.mem_cons.1 hm with rfl | hm
  ·exact hq a (hin a (by simp))
  ·exact hin m (List.mem_cons_of_mem _ hm)
theorem lG{v:Vl}(hr:Rt v){k:Nat}(hv:∀n∈v,n.name.length≤k):∀s∈aJ v,s.length≤k:=by
 obtain⟨n,r,rfl,_⟩:=bS hr.name hr.one.ne
 obtain⟨h1,h2,ps,h3,h4,_,h6,_⟩:=hr.parts
 simp only[aJ,(dB h3).2]
 split
 ·intro s hs
  obtain⟨p,hp,rfl⟩:=List.mem_map.1 hs
  cases p with
  | nil=>simp[nameOf]
  | cons a t=>exact hv a (List.mem_cons_of_mem _ (by rw[←h4];exact List.mem_flatten.2 ⟨_,hp,by simp⟩))
 ·intro s hs;cases hs
end Lp
namespace Lp
open Go Go.Proofs
open List (flatten_cons length_append length_map map_cons map_nil mem_singleton)
def dm(v:Vl)(nm:List UInt8):Vl:=JD (gW (jm v) nm)
def gT(v:Vl)(nm:List UInt8)(x:Vl):Vl:=JD (nJ nm x (gW (jm v) nm))
theorem bV{v:Vl}(hr:Rt v)(hk:aN v=6):jr (jm v)∧JD (jm v)=v∧aJ v=(jm v).map (·.1)∧ax v=(jm v).map (·.2):=by
 obtain⟨n,r,rfl,_⟩:=bS hr.name hr.one.ne
 exact abk hr hk
theorem uU(l:mq):(JD l).length=(l.map (·.2)).flatten.length+1:=by
 have h2:∀q:mq,(q.map λx=>kM x.1 x.2).flatten.length=(q.map (·.2)).flatten.length:=by
  intro q
  induction q with
  | nil=>rfl
  | cons x q ih=>simp only[map_cons,flatten_cons,length_append,DW,ih]
 simp only[JD,List.length_cons,h2]
theorem wZ(l:mq)(nm:List UInt8):(gW l nm).length≤l.length∧((gW l nm).map (·.2)).flatten.length≤(l.map (·.2)).flatten.length:=by
 unfold gW
 refine⟨List.length_filter_le _ _,?_⟩
 induction l with
 | nil=>simp
 | cons x l ih=>
  rw[List.filter_cons]
  split
  ·simp only[map_cons,flatten_cons,length_append];omega
  ·simp only[map_cons,flatten_cons,length_append];omega
theorem Je(v:Vl)(nm:List UInt8)(hr:Rt v)(hl:v.length≤1000000):av Tryz.prog 58 [aj v,.str nm] [] (jC v nm) []:=by
 refine Ai.jS (T:=bA Tryz.prog [(62,eG),(40,iN)]) 0 hD (ay (af nT (af qA au))) bE (by decide) (by decide) λQ hQ=>?_
 obtain⟨n,r,hv,_⟩:=bS hr.name hr.one.ne
 obtain⟨p1,p2,p3,p4⟩:=bD hr
 have hnp:aN v=6∨aJ v=[]:=by
  by_cases hk:n.kind=6
  ·left;rw[hv];exact hk
  ·right;rw[hv];simp[aJ,hk]
 have hpn:aN v=6→(aJ v).length=(ax v).length:=λhk=>by
  obtain⟨_,_,h3,h4⟩:=bV hr hk
  rw[h3,h4];simp
 have ho:=hr.one
 (conv=>arg 4;cbv);simp (maxSteps:=400000) only[↓aG,aH,BEq.rfl,seval,hQ,↓eG]
 refine⟨ho,hl,?_⟩
 refine aQ (λm S=>∃i:Nat,i+m=(aJ v).length∧(∀(j:Nat) s,j<i→(aJ v)[j]?=some s→s≠nm)∧S=⟨dD 27 [(0,aj v),(1,.str nm),(6,jT (aJ v)),(7,.int .i64 i)],[]⟩) (aJ v).length ⟨0,by omega,λj s h=>absurd h (Nat.not_lt_zero j),?_⟩ ?_
 ·simp only[cB,keepR,Nat.reduceAdd,oO,Nat.reduceBEq,map_nil]
  rfl
 rintro m S ⟨i,him,hb,rfl⟩
 have Md:jm v=(aJ v).zip (ax v):=rfl
 rcases Nat.lt_or_ge i (aJ v).length with h | h
 ·have hlt:((i:Int)<((aJ v).length:Int))=True:=eq_true (by omega)
  have zi:(0≤(i:Int))=True:=eq_true (by omega)
  have hk:aN v=6:=hnp.resolve_right λh0=>by rw[h0]at h;simp at h
  have hpl:=hpn hk
  have hgi:=List.getElem?_eq_getElem h
  have Qz:(ax v)[i]?=some ((ax v)[i]'(by omega)):=List.getElem?_eq_getElem _
  generalize (aJ v)[i]=s at hgi
  generalize (ax v)[i]'(by omega)=p at Qz
  by_cases he:s=nm
  ·have he':(s=nm)=True:=eq_true he
   have hres:jC v nm=.bY [aj p,.bool true]:=by
    have hm:(nm,p)∈jm v:=by
     rw[Md]
     refine List.mem_iff_getElem?.2 ⟨i,?_⟩
     rw[List.getElem?_zip_eq_some]
     exact⟨by rw[←he];exact hgi,Qz⟩
    have:=ow (eZ (bV hr hk).1.rise) hm
    simp[jC,gP,hk,this]
   simp (maxSteps:=400000) only[↓aG,aH,BEq.rfl,seval,hQ,hlt,zi,hgi,he',↓iN,Qz]
   exact⟨ho,hl,hres⟩
  ·have he':(s=nm)=False:=eq_false he
   simp (maxSteps:=400000) only[↓aG,aH,BEq.rfl,seval,hQ,hlt,zi,hgi,he']
   refine⟨⟨by omega,by omega⟩,m-1,by omega,i+1,by omega,λj s' hj hs=>?_,rfl⟩
   rcases Nat.lt_or_ge j i with g | g
   ·exact hb j s' g hs
   ·have:j=i:=by omega
    subst this
    rw[hgi]at hs;cases hs;exact he
 ·have hlt:((i:Int)<((aJ v).length:Int))=False:=eq_false (by omega)
  have hres:jC v nm=.bY [.sl 0 [] (some true),.bool false]:=by
   have:iZ (jm v) nm=none:=by
    rw[nL,Md]
    intro hm
    obtain⟨x,hx,rfl⟩:=List.mem_map.1 hm
    obtain⟨j,hj,e⟩:=List.mem_iff_getElem.1 (List.of_mem_zip hx).1
    exact hb j x.1 (by omega) (by rw[List.getElem?_eq_getElem hj,e]) rfl
   simp[jC,gP,this]
  simp (maxSteps:=400000) only[↓aG,aH,BEq.rfl,seval,hQ,hlt]
  exact hres
theorem G6(v:Vl)(nm:List UInt8)(hr:Rt v)(hl:v.length≤1000000):av Tryz.prog 58 [aj v,.str nm] [] (.bY [aj (bN v nm),.bool (eY v nm)]) []:=(Je v nm hr hl).res (zJ v nm)
def lZ:d9:=λargs objs K=>match args with
 | [a0,.str nm]=>gD aj a0 (HK.mk:HK λv=>(Rt v)∧(v.length≤1000000)∧K (.bY [aj (bN v nm),.bool (eY v nm)]) objs 0)
 | _=>False
theorem G7:aR Tryz.prog 58 (lZ):=by
 intro args objs K h
 unfold lZ at h
 split at h
 ·rename_i a0 nm
  obtain⟨v,rfl,h1,h2,hk⟩:=h
  exact⟨_,_,_,.pure _ rfl (G6 v nm h1 h2),hk⟩
 ·exact h.elim
theorem O6(x y:Obj)(v:Vl):fA 1 0 [x,y,wT v 0] (.aS 2 0)=aj v:=by
 simp only[fA,Nat.not_lt_zero,if_false,kD,List.getElem?_cons_succ,List.getElem?_cons_zero,Nat.zero_le,decide_true,Bool.true_and,beq_self_eq_true,if_true,wT]
 rw[GU aM λ_=>rfl];rfl
theorem Kv{q:mq}{i:Nat}{x:List UInt8×Vl}(h:q[i]?=some x)(nm:List UInt8):gW (q.take (i+1)) nm=gW (q.take i) nm++(if x.1=nm then [] else [x]):=by
 rw[List.take_add_one,h]
 unfold gW
 rw[List.filter_append]
 by_cases e:x.1=nm<;>simp[e]
theorem EO(v:Vl)(nm:List UInt8)(hr:Rt v)(hk:aN v=6)(hl:v.length≤1000000):av Tryz.prog 59 [aj v,.str nm] [] (aj (dm v nm)) []:=by
 refine wO.bR (T:=bA Tryz.prog [(62,eG),(40,iN),(84,lX)]) 1 hD (ay (af nT (af qA (af uP au)))) bE (by decide) λQ hQ=>?_
 obtain⟨p1,p2,p3,p4⟩:=bD hr
 obtain⟨hq,hmk,hN,hP⟩:=bV hr hk
 have ho:=hr.one
 obtain⟨q,hqe⟩:∃q,q=jm v:=⟨_,rfl⟩
 rw[←hqe]at hq hmk hN hP
 have JI:q.length≤v.length:=by rw[hP,length_map]at p1;exact p1
 have hqf:(q.map (·.2)).flatten.length≤v.length:=by rw[hP]at p3;exact p3
 have hnl:(q.map (·.1)).length=q.length:=length_map ..
 (conv=>arg 4;cbv);simp (maxSteps:=400000) only[↓aG,aH,BEq.rfl,seval,hQ,↓eG,↓iN,hN,hP]
 refine⟨ho,hl,ho,hl,?_⟩
 refine aQ (λm S=>∃i v1 v2:Nat,i+m=q.length∧S=⟨dD 45 [(1,.str nm),(5,jT (q.map (·.1))),(6,bT (q.map (·.2))),(7,.aS 0 v1),(8,.aS 1 v2),(9,.int .i64 i)],[GI ((gW (q.take i) nm).map (·.1)) v1,yZ ((gW (q.take i) nm).map (·.2)) v2]⟩) q.length ⟨0,1,1,by omega,?_⟩ ?_
 ·simp only[cB,keepR,Nat.reduceAdd,oO,Nat.reduceBEq,map_nil]
  rfl
 rintro m S ⟨i,v1,v2,him,rfl⟩
 rcases Nat.lt_or_ge i q.length with h | h
 ·have hlt:((i:Int)<(q.length:Int))=True:=eq_true (by omega)
  have zi:(0≤(i:Int))=True:=eq_true (by omega)
  have hgi:=List.getElem?_eq_getElem h
  generalize q[i]=x at hgi
  have hg1:(q.map (·.1))[i]?=some x.1:=by rw[List.getElem?_map,hgi];rfl
  have hg2:(q.map (·.2))[i]?=some x.2:=by rw[List.getElem?_map,hgi];rfl
  have hdt:=Kv hgi nm
  have hdl:=(wZ (q.take i) nm).1
  rw[List.length_take]at hdl
  by_cases he:x.1=nm
  ·have he':(x.1=nm)=True:=eq_true he
   rw[if_pos he,List.append_nil]at hdt
   simp (maxSteps:=400000) only[↓aG,aH,BEq.rfl,seval,hQ,hlt,zi,hnl,hg1,he']
   exact⟨⟨by omega,by omega⟩,m-1,by omega,i+1,v1,v2,by omega,by rw[hdt];rfl⟩
  ·have he':(x.1=nm)=False:=eq_false he
   rw[if_neg he]at hdt
   generalize gW (q.take i) nm=kept at hdt hdl
   unfold GI yZ
   simp (maxSteps:=400000) only[↓aG,aH,BEq.rfl,seval,hQ,hlt,zi,hnl,hg1,hg2,he']
   refine⟨by omega,by omega,by omega,by omega,⟨by omega,by omega⟩,m-1,by omega,i+1,v1+1,v2+1,by omega,?_⟩
   rw[hdt]
   simp[GI,yZ]
 ·have hlt:((i:Int)<(q.length:Int))=False:=eq_false (by omega)
  rw[List.take_of_length_le h]
  have hd:=wZ q nm
  have hne:∀p∈(gW q nm).map (·.2),p≠[]:=λp hp=>by
   obtain⟨x,hx,rfl⟩:=List.mem_map.1 hp
   exact (hq.rt x (jK.1 hx).1).one.ne
  have ZQ:FE ((gW q nm).map (·.1)) ((gW q nm).map (·.2))=dm v nm:=by rw[A7,dm,hqe]
  unfold GI yZ
  simp (maxSteps:=400000) only[↓aG,aH,BEq.rfl,seval,hQ,hlt,hnl,↓lX,Mc,GR]
  exact⟨by omega,by omega,hne,by rw[ZQ];exact (O6 _ _ _).symm⟩
def oq:d9:=λargs objs K=>match args with
 | [a0,.str nm]=>gD aj a0 (HK.mk:HK λv=>(Rt v)∧(aN v=6)∧(v.length≤1000000)∧K (aj (dm v nm)) objs 0)
 | _=>False
theorem Dy:aR Tryz.prog 59 (oq):=by
 intro args objs K h
 unfold oq at h
 split at h
 ·rename_i a0 nm
  obtain⟨v,rfl,h1,h2,h3,hk⟩:=h
  exact⟨_,_,_,.pure _ rfl (EO v nm h1 h2 h3),hk⟩
 ·exact h.elim
theorem lH{v:Vl}(nm:List UInt8)(hr:Rt v)(hk:aN v=6):Rt (dm v nm)∧aN (dm v nm)=6∧(dm v nm).length≤v.length∧jm (dm v nm)=gW (jm v) nm:=by
 obtain⟨hq,hmk,hN,hP⟩:=bV hr hk
 have hd:=EW hq nm
 refine⟨Wq hd,rfl,?_,Tc hd.rt⟩
 have h1:=uU (jm v)
 rw[hmk]at h1
 have h2:=(wZ (jm v) nm).2
 rw[dm,uU]
 omega
def pK:d9:=λargs objs K=>match args with
 | [a]=>gD aj a (HK.mk:HK λv=>One v∧v.length≤1000000∧K (.aS objs.length 0) (objs++[GI (aJ v) 0]) 2)
 | _=>False
theorem EP:aR Tryz.prog 62 pK:=by
 intro args objs K h
 unfold pK at h
 split at h
 ·obtain⟨v,rfl,h1,h2,h3⟩:=h
  exact⟨_,_,_,.made (.aS 0 0) _ rfl (p9 _ 0) (vP v h1 h2),by simpa[PV.shift,PV.jN] using h3⟩
 ·exact h.elim
def pM:d9:=λargs objs K=>match args with
 | [a]=>gD aj a (HK.mk:HK λv=>One v∧v.length≤1000000∧K (.aS objs.length 0) (objs++[yZ (ax v) 0]) 2)
 | _=>False
theorem EQ:aR Tryz.prog 40 pM:=by
 intro args objs K h
 unfold pM at h
 split at h
 ·obtain⟨v,rfl,h1,h2,h3⟩:=h
  exact⟨_,_,_,.made (.aS 0 0) _ rfl (sP _ 0) (zI v h1 h2),by simpa[PV.shift,PV.jN] using h3⟩
 ·exact h.elim
theorem ZR{q:mq}(hq:jr q){nm:List UInt8}{x:Vl}(hn:nm ∉ q.map (·.1))(hu:utf nm=true) :
  dY (q.map (·.1)++[nm]) (q.map (·.2)++[x]).length=true∧zU (q.map (·.1)++[nm]) (q.map (·.2)++[x])=JD (nJ nm x q):=by
 have hok:dY (q.map (·.1)++[nm]) (q.map (·.2)++[x]).length=true:=by
  rw[lS]
  refine⟨by simp,?_,λs hs=>?_⟩
  ·rw[List.nodup_append]
   refine⟨eZ hq.rise,by simp,λa ha b hb=>?_⟩
   simp only[mem_singleton]at hb
   subst hb
   rintro rfl;exact hn ha
  ·rcases List.mem_append.1 hs with hs | hs
   ·obtain⟨z,hz,rfl⟩:=List.mem_map.1 hs
    exact hq.utf z hz
   ·simp only[mem_singleton]at hs
    subst hs;exact hu
 have hz:(q.map (·.1)++[nm]).zip (q.map (·.2)++[x])=q++[(nm,x)]:=by
  rw[List.zip_append (by simp),tN];rfl
 refine⟨hok,?_⟩
 have:=DX hok (nK nm x q hq.rise hn) λz=>by rw[fw,hz];simp[or_comm]
 rw[zU,if_pos hok,←this]
theorem Mj(v:Vl)(nm:List UInt8)(x:Vl)(hr:Rt v)(hk:aN v=6)(hl:v.length≤100000)(hu:utf nm=true)(hx:Rt x)(hxl:x.length≤100000)(hs:nm.length≤4611686018427387904)(hvs:∀n∈v,n.name.length≤4611686018427387904):av Tryz.prog 39 [aj v,.str nm,aj x] [] (aj (gT v nm x)) []:=by
 refine BI.bR (T:=bA Tryz.prog [(59,oq),(62,pK),(40,pM),(63,oo)]) 1 hD (ay (af Dy (af EP (af EQ (af Du au))))) bE (by decide) λQ hQ=>?_
 obtain⟨h1,h2,h3,h4⟩:=lH nm hr hk
 obtain⟨hq,hmk,hN,hP⟩:=bV h1 h2
 obtain⟨p1,p2,p3,p4⟩:=bD h1
 rw[h4]at hq hN hP
 obtain⟨hok,hov⟩:=ZR (x:=x) hq (pF _ nm) hu
 have ho:=h1.one
 have hne:∀p∈(gW (jm v) nm).map (·.2)++[x],p≠[]:=λp hp=>by
  rcases List.mem_append.1 hp with hp | hp
  ·obtain⟨y,hy,rfl⟩:=List.mem_map.1 hp
   exact (hq.rt y hy).one.ne
  ·simp only[mem_singleton]at hp
   subst hp;exact hx.one.ne
 have hnl:∀s∈(gW (jm v) nm).map (·.1)++[nm],s.length≤4611686018427387904:=λs hs'=>by
  rcases List.mem_append.1 hs' with hs' | hs'
  ·obtain⟨y,hy,rfl⟩:=List.mem_map.1 hs'
   have h5:=lG hr hvs y.1 (by rw[(bV hr hk).2.2.1];exact List.mem_map.2 ⟨y,(jK.1 hy).1,rfl⟩)
   omega
  ·simp only[mem_singleton]at hs'
   subst hs';omega
 rw[hN]at p2;rw[hP]at p1 p3
 have hw:gT v nm x=JD (nJ nm x (gW (jm v) nm)):=rfl
 rw[←hw]at hov
 generalize gT v nm x=W at *
 generalize gW (jm v) nm=q at *
 have e1:List.map PV.str (q.map (·.1))++[.str nm]=List.map PV.str (q.map (·.1)++[nm]):=by simp
 have e2:List.map aj (q.map (·.2))++[aj x]=List.map aj (q.map (·.2)++[x]):=by simp
 rw[length_map]at p1 p2
 have hok':dY (q.map (·.1)++[nm]) (q.length+1)=true:=by rw[←hok];simp
 have hfl:(q.map (·.2)++[x]).flatten.length≤1000000:=by rw[List.flatten_append,length_append];simp only[flatten_cons,List.flatten_nil,List.append_nil];omega
 (conv=>arg 4;cbv);simp (maxSteps:=400000) only[↓aG,aH,BEq.rfl,seval,hQ,↓oq,↓pK,↓pM,hN,hP,GI,yZ,e1,e2,↓oo,Mc,GR,hok',ab6,bW,hov]
 exact⟨hr,hk,by omega,ho,by omega,by omega,by omega,ho,by omega,by omega,by omega,by omega,by omega,hfl,hne,hnl,(O6 _ _ _).symm⟩
def uV:d9:=λargs objs K=>match args with
 | [a0,.str nm,a2]=>gD aj a0 (HK.mk:HK λv=>gD aj a2 (HK.mk:HK λx=>(Rt v)∧(aN v=6)∧(v.length≤100000)∧(utf nm=true)∧(Rt x)∧(x.length≤100000)∧(nm.length≤4611686018427387904)∧(∀n∈v,n.name.length≤4611686018427387904)∧K (aj (gT v nm x)) objs 0))
 | _=>False
theorem Jf:aR Tryz.prog 39 (uV):=by
 intro args objs K h
 unfold uV at h
 split at h
 ·rename_i a0 nm a2
  obtain⟨v,rfl,x,rfl,h1,h2,h3,h4,h5,h6,h7,h8,hk⟩:=h
  exact⟨_,_,_,.pure _ rfl (Mj v nm x h1 h2 h3 h4 h5 h6 h7 h8),hk⟩
 ·exact h.elim
end Lp
namespace Lp
open Go Go.Proofs
def vS(names:List (List UInt8))(nm:List UInt8):Nat:=(names.takeWhile λs=>Op.bytesLess s nm).length
theorem TR(names:List (List UInt8))(nm:List UInt8):vS names nm≤names.length:=by
 induction names with
 | nil=>exact Nat.le_refl _
 | cons s t ih=>
  unfold vS at *
  rw[List.takeWhile_cons]
  split
  ·simp only[List.length_cons];omega
  ·simp
theorem ZT{names:List (List UInt8)}{nm:List UInt8}(hr:ou names):∀{j:Nat}{s:List UInt8},names[j]?=some s→(Op.bytesLess s nm=true↔j<vS names nm):=by
 induction names with
 | nil=>intro j s h;simp at h
 | cons x t ih=>
  obtain⟨h1,h2⟩:=List.pairwise_cons.1 hr
  intro j s h
  unfold vS
  rw[List.takeWhile_cons]
  cases hx:Op.bytesLess x nm with
  | true=>
   cases j with
   | zero=>simp at h;subst h;simp[hx]
   | succ j=>
    have:=ih h2 (j:=j) (s:=s) (by simpa using h)
    unfold vS at this
    simp only[if_true,List.length_cons]
    rw[this];omega
  | false=>
   simp only[Bool.false_eq_true,if_false,List.length_nil,Nat.not_lt_zero,iff_false]
   intro hs
   cases j with
   | zero=>simp at h;subst h;rw[hx]at hs;cases hs
   | succ j=>
    have h3:=h1 s (List.mem_of_getElem? (by simpa using h))
    rw[kR _ _ _ h3 hs]at hx;cases hx
theorem G8(nm:List UInt8)(x:Vl):∀l:mq,nJ nm x l=l.take (vS (l.map (·.1)) nm)++(nm,x)::l.drop (vS (l.map (·.1)) nm)
 | []=>rfl
 | y::ys=>by
  have ih:=G8 nm x ys
  unfold vS at *
  rw[nJ,List.map_cons,List.takeWhile_cons]
  split
  ·rename_i h;simp only[h,if_true,List.length_cons,List.take_succ_cons,List.drop_succ_cons,List.cons_append];rw[←ih]
  ·rename_i h;simp[h]
theorem Ml(x:List UInt8):av Tryz.prog 125 [.str x] [] (.bool false) []:=by
 refine yU.bR (T:=bA Tryz.prog []) 0 hD (ay au) bE (by decide) λQ hQ=>?_
 (conv=>arg 4;cbv);simp (maxSteps:=400000) only[↓aG,aH,BEq.rfl,seval,hQ]
def Fe:d9:=λargs objs K=>match args with
 | [.str _x]=>K (.bool false) objs 0
 | _=>False
theorem R_:aR Tryz.prog 125 (Fe):=by
 intro args objs K h
 unfold Fe at h
 split at h
 ·rename_i _x
  have hk:=h
  exact⟨_,_,_,.pure _ rfl (Ml _x),hk⟩
 ·exact h.elim
theorem Jg(x:List UInt8):av Tryz.prog 104 [.str x] [] (.bool false) []:=by
 refine uJ.bR (T:=bA Tryz.prog []) 0 hD (ay au) bE (by decide) λQ hQ=>?_
 (conv=>arg 4;cbv);simp (maxSteps:=400000) only[↓aG,aH,BEq.rfl,seval,hQ]
def BZ:d9:=λargs objs K=>match args with
 | [.str _x]=>K (.bool false) objs 0
 | _=>False
theorem Sb:aR Tryz.prog 104 (BZ):=by
 intro args objs K h
 unfold BZ at h
 split at h
 ·rename_i _x
  have hk:=h
  exact⟨_,_,_,.pure _ rfl (Jg _x),hk⟩
 ·exact h.elim
theorem cvU(objs:List Obj)(K:KT):(∀x,qR D 3 122 (.int .i64 x) objs K=K (.int .u64 (IntKind.u64.wrap x)) objs 0)∧(∀x,qR D 122 3 (.int .u64 x) objs K=K (.int .i64 (IntKind.i64.wrap x)) objs 0):=by
 refine⟨λx=>?_,λx=>?_⟩
 all_goals simp[qR,qf,dX]
theorem shU(a:Int)(K:PV→Prop):rH .shr .u64 .u64 a 1 K=K (.int .u64 (a.fdiv 2)):=by
 have:min 1 IntKind.u64.bits=1:=rfl
 simp[rH,this]
theorem Jh(x y:List UInt8):av Tryz.prog 103 [.str x,.str y] [] (.bool (Op.bytesLess x y)) []:=by
 refine Ah.bR (T:=bA Tryz.prog [(125,Fe)]) 0 hD (ay (af R_ au)) bE (by decide) λQ hQ=>?_
 (conv=>arg 4;cbv);simp (maxSteps:=400000) only[↓aG,aH,BEq.rfl,seval,hQ,↓Fe]
def w9:d9:=λargs objs K=>match args with
 | [.str x,.str y]=>K (.bool (Op.bytesLess x y)) objs 0
 | _=>False
theorem O7:aR Tryz.prog 103 (w9):=by
 intro args objs K h
 unfold w9 at h
 split at h
 ·rename_i x y
  have hk:=h
  exact⟨_,_,_,.pure _ rfl (Jh x y),hk⟩
 ·exact h.elim
theorem Mq(names:List (List UInt8))(nm:List UInt8)(hr:ou names)(hl:names.length≤1000000):av Tryz.prog 77 [jT names,.str nm] [] (.bY [.int .i64 (vS names nm),.bool (decide (names[vS names nm]?=some nm))]) []:=by
 refine jU.jS (T:=bA Tryz.prog [(103,w9),(104,BZ)]) 0 hD (ay (af O7 (af Sb au))) bE (by decide) (by decide) λQ hQ=>?_
 have hle:=TR names nm
 (conv=>arg 4;cbv);simp (maxSteps:=400000) only[↓aG,aH,BEq.rfl,seval,hQ]
 refine aQ (λm S=>∃i j:Nat,i+m=j∧i≤vS names nm∧vS names nm≤j∧j≤names.length∧S=⟨dD 54 [(0,jT names),(1,.str nm),(6,.int .i64 names.length),(7,.int .i64 i),(8,.int .i64 j)],[]⟩) names.length ⟨0,names.length,by omega,Nat.zero_le _,hle,Nat.le_refl _,?_⟩ ?_
 ·simp only[cB,keepR,Nat.reduceAdd,oO,Nat.reduceBEq,List.map_nil]
  rfl
 rintro m S ⟨i,j,him,h1,h2,h3,rfl⟩
 rcases Nat.lt_or_ge i j with h | h
 ·have hlt:((i:Int)<(j:Int))=True:=eq_true (by omega)
  obtain⟨h,hh⟩:∃h,h=(i+j) / 2:=⟨_,rfl⟩
  have hhl:h<names.length:=by omega
  have w1:IntKind.u64.wrap ((i:Int)+j)=(i:Int)+j:=by rw[IntKind.wrap_u64];omega
  have w2:((i:Int)+j).fdiv 2=(h:Int):=by
   rw[Int.fdiv_eq_ediv_of_nonneg _ (by omega),hh];omega
  have w3:IntKind.i64.wrap (h:Int)=(h:Int):=by rw[IntKind.wrap_i64];omega
  have zh:(0≤(h:Int))=True:=eq_true (by omega)
  have hgh:=List.getElem?_eq_getElem hhl
  have hiff:=ZT (nm:=nm) hr hgh
  generalize names[h]=s at hgh hiff
  cases hb:Op.bytesLess s nm
  ·simp (maxSteps:=400000) only[↓aG,aH,BEq.rfl,seval,hQ,hlt,↓w9,↓cvU,↓shU,w1,w2,w3,zh,hgh,hb]
   have hnb:¬ h<vS names nm:=λe=>by rw[hiff.2 e]at hb;cases hb
   exact⟨⟨by omega,by omega⟩,h-i,by omega,i,h,by omega,h1,by omega,by omega,rfl⟩
  ·simp (maxSteps:=400000) only[↓aG,aH,BEq.rfl,seval,hQ,hlt,↓w9,↓cvU,↓shU,w1,w2,w3,zh,hgh,hb]
   have hnb:h<vS names nm:=hiff.1 hb
   exact⟨⟨by omega,by omega⟩,⟨by omega,by omega⟩,j-(h+1),by omega,h+1,j,by omega,by omega,h2,h3,rfl⟩
 ·have hlt:((i:Int)<(j:Int))=False:=eq_false (by omega)
  have hij:vS names nm=i:=by omega
  rcases Nat.lt_or_ge i names.length with h | h
  ·have hlt2:((i:Int)<(names.length:Int))=True:=eq_true (by omega)
   have zi:(0≤(i:Int))=True:=eq_true (by omega)
   have hgi:=List.getElem?_eq_getElem h
   generalize names[i]=s at hgi
   rcases tf (s=nm) with he | he
   ·simp (maxSteps:=400000) only[↓aG,aH,BEq.rfl,seval,hQ,hlt,hlt2,zi,hgi,he,↓BZ]
    rw[hij,hgi];simp[he]
   ·simp (maxSteps:=400000) only[↓aG,aH,BEq.rfl,seval,hQ,hlt,hlt2,zi,hgi,he,↓BZ]
    rw[hij,hgi]
    have:decide (some s=some nm)=false:=decide_eq_false λe=>(of_eq_false he) (Option.some.inj e)
    rw[this]
  ·have hlt2:((i:Int)<(names.length:Int))=False:=eq_false (by omega)
   simp (maxSteps:=400000) only[↓aG,aH,BEq.rfl,seval,hQ,hlt,hlt2]
   rw[hij,List.getElem?_eq_none h];rfl
def uW:d9:=λargs objs K=>match args with
 | [a,.str nm]=>sQ .str 1 a objs (HK.mk:HK λnames=>ou names∧names.length≤1000000∧K (.bY [.int .i64 (vS names nm),.bool (decide (names[vS names nm]?=some nm))]) objs 1)
 | _=>False
theorem Ji:aR Tryz.prog 77 uW:=by
 intro args objs K h
 unfold uW at h
 split at h
 ·rename_i a nm
  obtain⟨names,a',l1,t1,h1,h2,h3⟩:=iV strCells h
  exact⟨_,_,_,.WK _ [a',.str nm] ⟨l1,⟨rfl,rfl⟩,trivial⟩ rfl ((Mq names nm h1 h2).arg rfl (sS t1 (.refl _))),h3⟩
 ·exact h.elim
end Lp
namespace Lp
open Go Go.Proofs Go.Lib Go.RowKit
open Nat (mul_le_mul_right one_mul succ_mul)
section
variable {P:Program}
def spl(cur:Array Value)(o:Nat)(vs:List Value):Array Value:=(cur.toList.take o++vs++cur.toList.drop (o+vs.length)).toArray
def mid(cur:Array Value)(i n z:Nat):List Value:=(cur.toList.take (n*z)).drop (i*z)
theorem yx{cur:Array Value}{o:Nat}{vs:List Value}(hl:o+vs.length≤cur.size)(q:Nat) :
  (spl cur o vs)[q]?=if q<o then cur[q]? else if q<o+vs.length then vs[q-o]? else cur[q]?:=by
 have hlen:(cur.toList.take o).length=o:=by simp;omega
 simp only[spl,List.getElem?_toArray,List.append_assoc]
 rw[List.getElem?_append,hlen]
 split
 ·rename_i h;rw[List.getElem?_take,if_pos h];simp
 ·rename_i h
  rw[List.getElem?_append]
  split
  ·rename_i h2;rw[if_pos (by omega)]
  ·rename_i h2
   rw[if_neg (by omega),List.getElem?_drop,show o+vs.length+(q-o-vs.length)=q by omega];simp
theorem jX{cur:Array Value}{o:Nat}{vs:List Value}(hl:o+vs.length≤cur.size):(spl cur o vs).size=cur.size:=by
 simp[spl];omega
theorem fI(w:World)(dT sT ty elem:TypeId)(inf:TypeInfo)(g o dLen dCap:Nat)(a:Addr)(sLen sCap n:Nat)(cur:Array Value)(t:TypeId)(cs:List Value)
  (hu:P.underlying dT=some (.slice elem)) (hi:P.info? elem=some inf) (hg:w.heap[g]?=some (.cells cur t (0,0))) (hn:n=Nat.min sLen dLen) (hl:cs.length=n*inf.size)
  (hsrc:∀j v,cs[j]?=some v→w.cell? (a.add j)=some v) (hfit:o+cs.length≤cur.size) (h1:∀v∈cs,v.oneCell'=true) :
  (Builtin.copy_ #[dT,sT] ty #[.slice (some ⟨g,o,none⟩) dLen dCap,.slice (some a) sLen sCap]).run P w=
   .ok (goInt n) (w.setRow g (spl cur o cs)):=by
 have h2:=run_loadCells_list (P:=P) w a cs hsrc
 have hst:=run_storeCells_at P g o t cs 0 cur w hg (by simpa using hfit) h1
 rw[hl]at h2
 rw[hn]at h2
 simp only[Nat.min_def]at h2
 simp[Builtin.copy_,run_underlying hu,Builtin.lenOf,Builtin.firstCells,Go.sizeOf,typeInfo,hi,hn,Nat.min_def,h2,hst,spl]
theorem rz{w:World}{g:Nat}{cur:Array Value}{t:TypeId}(hg:w.heap[g]?=some (.cells cur t (0,0)))(o:Nat):w.frozen? ⟨g,o,none⟩=false:=by
 simp[World.frozen?,hg]
theorem XV{α:Type}(xs:List α)(x:α)(i m:Nat)(hi:i≤xs.length):(xs.take i++[x]++xs.drop i)[m]?=if m<i then xs[m]? else if m=i then some x else xs[m-1]?:=by
 have ht:(xs.take i).length=i:=by simp;omega
 rw[List.append_assoc,List.getElem?_append,ht]
 split
 ·rename_i h;rw[List.getElem?_take,if_pos h]
 ·rename_i h
  rw[List.getElem?_append]
  split
  ·rename_i h2
   have:m=i:=by simp at h2;omega
   rw[if_pos this,this];simp
  ·rename_i h2
   simp at h2
   rw[if_neg (by omega),List.getElem?_drop]
   congr 1;simp;omega
theorem aX.adC {R:PV→Value→Prop}{z:Nat}{xs:List PV}{c c':Array Value}{x:PV}{s:List Value}{i:Nat}(h:aX R z c xs)(hs:aX R z ⟨s⟩ [x])(hi:i≤xs.length)
  (h1:∀q,q<i*z→c'[q]?=c[q]?) (h2:∀q,q<z→c'[i*z+q]?=s[q]?) (h3:∀q,i*z≤q→q<xs.length*z→c'[q+z]?=c[q]?) :
  aX R z c' (xs.take i++[x]++xs.drop i):=by
 intro m y hy
 rw[XV xs x i m hi]at hy
 have hlt:∀{u:PV}{j:Nat}{p:PV},u.cells.length=z→u.cells[j]?=some p→j<z:=λh1 h2=>by rw[←h1];exact (List.getElem?_eq_some_iff.1 h2).1
 split at hy
 ·rename_i hm
  obtain⟨z1,z2⟩:=h m y hy
  refine⟨z1,λj p hp=>?_⟩
  have hj:=hlt z1 hp
  have hmz:(m+1)*z≤i*z:=mul_le_mul_right _ hm
  rw[succ_mul]at hmz
  obtain⟨v,u1,u2⟩:=z2 j p hp
  exact⟨v,by rw[h1 _ (by omega)];exact u1,u2⟩
 ·split at hy
  ·rename_i hm
   cases hy
   obtain⟨z1,z2⟩:=hs 0 x rfl
   refine⟨z1,λj p hp=>?_⟩
   have hj:=hlt z1 hp
   obtain⟨v,u1,u2⟩:=z2 j p hp
   rw[Nat.zero_mul,Nat.zero_add]at u1
   exact⟨v,by rw[hm,h2 _ hj];simpa using u1,u2⟩
  ·rename_i hm1 hm2
   obtain⟨z1,z2⟩:=h (m-1) y hy
   have hml:m-1<xs.length:=(List.getElem?_eq_some_iff.1 hy).1
   refine⟨z1,λj p hp=>?_⟩
   have hj:=hlt z1 hp
   obtain⟨v,u1,u2⟩:=z2 j p hp
   have e0:m=(m-1)+1:=by omega
   have e:m*z+j=((m-1)*z+j)+z:=by rw[e0,succ_mul,Nat.add_sub_cancel];omega
   have g1:i*z≤(m-1)*z:=mul_le_mul_right _ (by omega)
   have g2:(m-1+1)*z≤xs.length*z:=mul_le_mul_right _ hml
   rw[succ_mul]at g2
   exact⟨v,by rw[e,h3 _ (by omega) (by omega)];exact u1,u2⟩
structure ZU (P:Program) (f:FuncId) (sT uT ty:TypeId) (z by':Nat):Prop where
 ent:Enters P f
 shift:∀(g n c i vb voff vc:Nat) (cur B_:Array Value) (tv:TypeId) (ss:List Value) (w:World),i<n→n+1≤c→c≤9223372036854775807→
  w.heap[g]?=some (.cells cur ty (0,0))→cur.size=c*z→w.heap[vb]?=some (.cells B_ tv (0,0))→vb≠g→ss.length=z→
  (∀j v,ss[j]?=some v→w.cell? ⟨vb,voff+j,none⟩=some v)→(∀v∈ss,v.oneCell'=true)→(∀v∈mid cur i n z,v.oneCell'=true)→
  Calls P f #[.slice (some ⟨g,0,none⟩) n c,.int .i64 i,.slice (some ⟨vb,voff,none⟩) 1 vc] w λe w'=>
   e=.returned (.slice (some ⟨g,0,none⟩) (n+1) c)∧w'=(w.drew.setRow g (spl cur ((i+1)*z) (mid cur i n z))).setRow g (spl (spl cur ((i+1)*z) (mid cur i n z)) (i*z) ss)
 fin:∀(base:Option Addr) (n c vb voff vc:Nat) (w w':World) (v':Value),(base=none→n=0∧c=0)→n≤c→c≤9223372036854775807→
  (∀ty',(Builtin.append_ #[sT,uT] ty' #[.slice base n c,.slice (some ⟨vb,voff,none⟩) 1 vc]).run P w=.ok v' w')→
  Calls P f #[.slice base n c,.int .i64 n,.slice (some ⟨vb,voff,none⟩) 1 vc] w λe w1=>e=.returned v'∧w1=w'
 grow:∀(g n c i vb voff vc:Nat) (cur:Array Value) (ss:List Value) (w:World),i<n→n≤c→c<n+1→(n+1)*by'≤140737488355328→
  w.heap[g]?=some (.cells cur ty (0,0))→cur.size=c*z→vb<w.heap.size→ss.length=z→
  (∀j v,ss[j]?=some v→w.cell? ⟨vb,voff+j,none⟩=some v)→(∀v∈ss,v.oneCell'=true)→(∀v∈mid cur i n z,v.oneCell'=true)→
  ∃row:Array Value,row.size=grownCap w (n+1) c ty*z∧(∀q,q<i*z→row[q]?=cur[q]?)∧
   Calls P f #[.slice (some ⟨g,0,none⟩) n c,.int .i64 i,.slice (some ⟨vb,voff,none⟩) 1 vc] w λe w'=>
    e=.returned (.slice (some ⟨w.heap.size,0,none⟩) (n+1) (grownCap w (n+1) c ty))∧
    w'=((((w.drew.alloc (.cells row ty)).setRow w.heap.size (spl row (i*z) ss)).drew).setRow w.heap.size (spl (spl row (i*z) ss) ((i+1)*z) (mid cur i n z)))
variable {base ah:Nat→Prop}{w0:Wz}{blk:Nat→Option Nat}{a:Act}{w:World}
structure Kw (ty:TypeId) (z:Nat) (R:PV→Value→Prop) (old:Option Nat) (w:World) (ys:List PV) (v':Value) (w':World) (gb:Nat):Prop where
 size:w.heap.size≤w'.heap.size
 sm:Sm w w'
 kept:∀b y,old≠some b→w.heap[b]?=some y→w'.heap[b]?=some y
 at':old=some gb∨w.heap.size≤gb
 cells:∃cap c,v'=.slice (some ⟨gb,0,none⟩) ys.length cap∧w'.heap[gb]?=some (.cells c ty (0,0))∧ys.length≤cap∧cap≤maxLen∧c.size=cap*z∧aX R z c ys
theorem Kw.rel {tmps:List PV}{objs:List Obj}{k ver:Nat}{ob:Obj}{ys:List PV}{v':Value}{w':World}{gb:Nat}(R:Rel base ah w0 ⟨tmps,objs⟩ blk a w)(h1:objs[k]?=some ob)(h2:ob.live=true)(h3:ob.ver=ver)
  (hM:ob.ty≠MT) (L:Kw ob.ty ob.sz (aV w (aZ base objs blk) objs blk) (blk k) w ys v' w' gb) :
  Rel base ah w0 ⟨tmps,objs.set k { ob with xs:=ys,ver:=ver+1 }⟩ (aF blk k (some gb)) a w'∧
  aO w' (aZ base (objs.set k { ob with xs:=ys,ver:=ver+1 }) (aF blk k (some gb))) (objs.set k { ob with xs:=ys,ver:=ver+1 }) (aF blk k (some gb)) (.aS k (ver+1)) v':=by
 obtain⟨cap,c,hv,z1,z2,z3,z4,z5⟩:=L.cells
 have hb:aF blk k (some gb) k=some gb:=by unfold aF;rw[if_pos rfl]
 constructor
 ·refine R.setObj L.sm (o':={ ob with xs:=ys,ver:=ver+1 }) h1 h2 h2 L.size L.kept (λg hg=>by cases hg;exact L.at') (by simp;omega) (λhv=>by simp at hv;omega) (λhr=>?_)
  refine JQ (gb:=some gb) (R:=aV w (aZ base objs blk) objs blk) hb ?_ hM hr
  exact⟨cap,c,z1,z2,z4,z5⟩
 ·refine⟨by rw[hv];rfl,{ ob with xs:=ys,ver:=ver+1 },?_,Nat.le_refl _,λ_ _=>⟨hM,?_⟩⟩
  ·rw[List.getElem?_set];simp[(List.getElem?_eq_some_iff.1 h1).1]
  ·unfold vL
   rw[hb]
   exact⟨cap,c,hv,z1,z2,z3,z4⟩
theorem XW{R:PV→Value→Prop}{p q r:PV}{vs:List Value}(h:bG R [p,q,r] vs):∃u v x,vs=[u,v,x]∧R p u∧R q v∧R r x:=by
 obtain⟨hl,h⟩:=h
 match vs,hl with
 | [u,v,x],_=>exact⟨u,v,x,rfl,h 0 _ _ rfl rfl,h 1 _ _ rfl rfl,h 2 _ _ rfl rfl⟩
theorem Ca{α:Type}(x:Option α):x=none∨∃g,x=some g:=by cases x with
 | none=>exact .inl rfl
 | some g=>exact .inr ⟨g,rfl⟩
def Sc(z:Nat)(x:PV):Prop:=x.cells.length=z∧x.cells.all PV.storable=true
theorem Vy{f:FuncId}{sT uT:TypeId}{ti:aD}{by':Nat}{objs:List Obj}{k ver:Nat}{ob:Obj}{x:PV}{k2 G9:Nat}{TS:Obj}{i:Nat}{tmps:List PV}(W:ZU P f sT uT ob.ty ob.sz by')(hu:P.underlying sT=some (.slice ob.ty))(hu2:P.underlying uT=some (.slice ob.ty))(hD:fB P ob.ty ti)(hk:ti.kind≠.none)
  (hzl:(aL ti).cells.length=ti.size) (hzs:(aL ti).cells.all PV.storable=true) (hsz:ti.size=ob.sz) (hby:ti.bytes=by')
  (R:Rel base ah w0 ⟨tmps,objs⟩ blk a w) (h1:objs[k]?=some ob) (h2:ob.live=true) (h3:ob.ver=ver)
  (g1:objs[k2]?=some TS) (g2:TS.live=true) (g3:TS.ver=G9) (g4:TS.sz=ob.sz) (g5:TS.xs=[x]) (hkk:k2≠k)
  (hall:∀y∈ob.xs,Sc ob.sz y) (hx:Sc ob.sz x) (hi:i≤ob.xs.length) (hb:(ob.xs.length+1)*by'≤140737488355328) (hbm:ob.xs.length+1≤1000000000){v0 v2:Value}
  (r0:aO w (aZ base objs blk) objs blk (.aS k ver) v0) (r2:aO w (aZ base objs blk) objs blk (.aS k2 G9) v2) :
  Calls P f #[v0,.int .i64 i,v2] w λe w'=>∃v' gb,e=.returned v'∧Kw ob.ty ob.sz (aV w (aZ base objs blk) objs blk) (blk k) w (ob.xs.take i++[x]++ob.xs.drop i) v' w' gb:=by
 have hty:=r0.tX h1 h2 h3
 have aeC:=r2.tX g1 g2 g3
 have hh:=r0.aS h1 h2 h3
 have hone:∀y,Sc ob.sz y→∀p∈y.cells,∀v,aV w (aZ base objs blk) objs blk p v→v.oneCell'=true:=λy hy p hp v hv=>(ku hv (List.all_eq_true.1 hy.2 p hp)).1
 obtain⟨vb,vc,B_,rfl,hgv,hbk2,hvs,hvc,hcs⟩:∃vb vc B_,v2=.slice (some ⟨vb,0,none⟩) 1 vc∧w.heap[vb]?=some (.cells B_ TS.ty (0,0))∧blk k2=some vb∧B_.size=vc*ob.sz∧1≤vc∧aX (aV w (aZ base objs blk) objs blk) ob.sz B_ [x]:=by
  have hr:=r2.aS g1 g2 g3
  unfold vL at hr
  rcases Ca (blk k2) with hbk | ⟨g,hbk⟩
  ·rw[hbk]at hr;rw[g5]at hr;exact absurd hr.2 (by simp)
  ·rw[hbk]at hr
   obtain⟨cap,c,rfl,x1,x2,x3,x4⟩:=hr
   obtain⟨c',y1,y2,y3⟩:=kz R g1 g2 hbk aeC
   rw[x1]at y1;cases y1
   rw[g4]at x4 y3
   rw[g5]at y3 x2 ⊢
   exact⟨g,cap,c,rfl,x1,hbk,x4,x2,y3⟩
 have aeD:vb<w.heap.size:=(Array.getElem?_eq_some_iff.1 hgv).1
 obtain⟨ss,hss⟩:∃ss,ss=B_.toList.take ob.sz:=⟨_,rfl⟩
 have Vz:ss.length=ob.sz:=by
  rw[hss,List.length_take,Array.length_toList,hvs]
  have:=mul_le_mul_right ob.sz hvc
  rw[one_mul]at this
  omega
 have hcell:∀j v,ss[j]?=some v→w.cell? ⟨vb,0+j,none⟩=some v:=λj v hj=>by
  rw[hss,List.getElem?_take]at hj
  split at hj
  ·simp only[World.cell?,hgv,Nat.zero_add]
   simpa using hj
  ·cases hj
 have hcx:aX (aV w (aZ base objs blk) objs blk) ob.sz ⟨ss⟩ [x]:=by
  have:=aX.take hcs
  rw[show [x].length*ob.sz=ob.sz from one_mul _,←hss]at this
  exact this
 have hso:∀v∈ss,v.oneCell'=true:=cells_one hcx (by rw[Vz];exact (one_mul _).symm) (λy hy=>hone y (by rw[List.mem_singleton.1 hy];exact hx))
 by_cases hin:i=ob.xs.length
 ·subst hin
  have hfin:ob.xs.take ob.xs.length++[x]++ob.xs.drop ob.xs.length=ob.xs++[x]:=by simp
  rw[hfin]
  obtain⟨v',w',gb,q1,q2,q3,q4,q5⟩:=vZ (ty:=sT) (R:=aV w (aZ base objs blk) objs blk) (gOld:=blk k) (v:=v0) (x:=.slice (some ⟨vb,0,none⟩) 1 vc) (xs:=ob.xs) (ys:=[x]) (news:=ss) hu hD hk hzl hzs (by
   unfold vL at hh
   rcases Ca (blk k) with hbk | ⟨g,hbk⟩
   ·rw[hbk]at hh ⊢;exact hh
   ·rw[hbk]at hh ⊢
    obtain⟨cap,c,hv,x1,x2,x3,x4⟩:=hh
    obtain⟨c',y1,y2,y3⟩:=kz R h1 h2 hbk hty
    rw[x1]at y1;cases y1
    exact⟨cap,c,hv,x1,x2,x3,by rw[hsz];exact x4,by rw[hsz];exact y3⟩) (by rw[hsz];exact Src.ofSlice w hu2 ⟨vb,0,none⟩ 1 vc ss (by rw[Vz];exact (one_mul _).symm) (λj u hj=>by rw[Addr.add_lit];exact hcell j u hj) hso) (by rw[hsz];exact hcx) (by rw[hby];exact hb) (by simp;omega)
  have hnn:ob.xs++[x]≠[]:=by simp
  have hL:∃gb,Kw ob.ty ob.sz (aV w (aZ base objs blk) objs blk) (blk k) w (ob.xs++[x]) v' w' gb:=by
   cases gb with
   | none=>exact absurd q5.2 hnn
   | some g=>exact⟨g,q2.1,q2.2,q3,q4 g rfl,by rw[hsz]at q5;exact q5⟩
  obtain⟨gb',hL⟩:=hL
  have fin:∀base' n c,v0=.slice base' n c→n=ob.xs.length→(base'=none→n=0∧c=0)→n≤c→c≤9223372036854775807→
      Calls P f #[v0,.int .i64 ob.xs.length,.slice (some ⟨vb,0,none⟩) 1 vc] w λe w'=>∃v' gb,e=.returned v'∧Kw ob.ty ob.sz (aV w (aZ base objs blk) objs blk) (blk k) w (ob.xs++[x]) v' w' gb:=by
   intro base' n c ev en hn hnc hc
   subst ev;subst en
   refine (W.fin base' _ c vb 0 vc w w' v' hn hnc hc λty'=>q1).mono λe w1 ⟨e1,e2⟩=>?_
   subst e2
   exact⟨v',gb',e1,hL⟩
  unfold vL at hh
  rcases Ca (blk k) with hbk | ⟨g,hbk⟩
  ·rw[hbk]at hh;exact fin none 0 0 hh.1 (by rw[hh.2];rfl) (λ_=>⟨rfl,rfl⟩) (Nat.le_refl _) (by decide)
  ·rw[hbk]at hh
   obtain⟨cap,c,hv,x1,x2,x3,x4⟩:=hh
   exact fin _ _ _ hv rfl (λh=>by cases h) x2 (by unfold maxLen at x3;omega)
 ·have hlt:i<ob.xs.length:=by omega
  unfold vL at hh
  rcases Ca (blk k) with hbk | ⟨g,hbk⟩
  ·rw[hbk]at hh;rw[hh.2]at hlt;simp at hlt
  ·rw[hbk]at hh
   obtain⟨cap,c,rfl,x1,x2,x3,x4⟩:=hh
   obtain⟨c',y1,y2,y3⟩:=kz R h1 h2 hbk hty
   rw[x1]at y1;cases y1
   have hc63:cap≤9223372036854775807:=by unfold maxLen at x3;omega
   have hvg:vb≠g:=λe=>R.objs.zV k2 k TS ob vb hkk g1 g2 h1 h2 hbk2 (by rw[hbk,e])
   have m1:(i+1)*ob.sz≤ob.xs.length*ob.sz:=mul_le_mul_right _ hlt
   have m2:ob.xs.length*ob.sz≤cap*ob.sz:=mul_le_mul_right _ x2
   have e1:=succ_mul i ob.sz
   have e2:=succ_mul ob.xs.length ob.sz
   rw[e1]at m1
   have hml:(mid c i ob.xs.length ob.sz).length=ob.xs.length*ob.sz-i*ob.sz:=by
    unfold mid
    rw[List.length_drop,List.length_take,Array.length_toList,x4]
    omega
   have hoc:∀v∈c.toList.take (ob.xs.length*ob.sz),v.oneCell'=true:=by
    refine cells_one (aX.take y3) ?_ (λy hy=>hone y (hall y hy))
    rw[List.length_take,Array.length_toList,x4]
    omega
   have adD:∀v∈mid c i ob.xs.length ob.sz,v.oneCell'=true:=λv hv=>hoc v (List.mem_of_mem_drop hv)
   have hdg:∀q,i*ob.sz≤q→q<ob.xs.length*ob.sz→(mid c i ob.xs.length ob.sz)[q-i*ob.sz]?=c[q]?:=λq hq1 hq2=>by
    unfold mid
    rw[List.getElem?_drop,List.getElem?_take,show i*ob.sz+(q-i*ob.sz)=q by omega,if_pos hq2];simp
   have hyl:(ob.xs.take i++[x]++ob.xs.drop i).length=ob.xs.length+1:=by simp;omega
   have hmax:ob.xs.length+1≤maxLen:=by unfold maxLen;omega
   by_cases hroom:ob.xs.length+1≤cap
   ·have m3:(ob.xs.length+1)*ob.sz≤cap*ob.sz:=mul_le_mul_right _ hroom
    rw[e2]at m3
    refine (W.shift g ob.xs.length cap i vb 0 vc c B_ TS.ty ss w hlt hroom hc63 x1 x4 hgv hvg Vz hcell hso adD).mono λe w' ⟨he,hw⟩=>?_
    refine⟨_,g,he,?_⟩
    rw[e1]at hw
    have hf1:i*ob.sz+ob.sz+(mid c i ob.xs.length ob.sz).length≤c.size:=by rw[hml,x4];omega
    generalize O8:spl c (i*ob.sz+ob.sz) (mid c i ob.xs.length ob.sz)=bQ at hw
    have hs1:bQ.size=c.size:=by rw[←O8];exact jX hf1
    have hg1:=λq=>O8 ▸ yx hf1 q
    have hf2:i*ob.sz+ss.length≤bQ.size:=by rw[hs1,x4,Vz];omega
    generalize O9:spl bQ (i*ob.sz) ss=cur2 at hw
    have hs2:cur2.size=bQ.size:=by rw[←O9];exact jX hf2
    have hg2:=λq=>O9 ▸ yx hf2 q
    subst hw
    have hgd:w.drew.heap[g]?=some (.cells c ob.ty (0,0)):=x1
    have hh1:(w.drew.setRow g bQ).heap[g]?=some (.cells bQ ob.ty (0,0)):=setRow_heap w.drew g c bQ ob.ty (0,0) hgd
    refine⟨by rw[setRow_size,setRow_size];exact Nat.le_refl _,⟨rfl,rfl⟩,λb y hb hy=>?_,.inl hbk,cap,cur2,by rw[hyl],setRow_heap _ g bQ cur2 ob.ty (0,0) hh1,by rw[hyl];exact hroom,x3,by rw[hs2,hs1,x4],?_⟩
    ·have hbg:b≠g:=λe=>hb (by rw[hbk,e])
     rw[setRow_other _ g b _ hbg,setRow_other _ g b _ hbg];exact hy
    ·refine aX.adC y3 hcx hi (λq hq=>?_) (λq hq=>?_) (λq hq1 hq2=>?_)
     ·rw[hg2,if_pos hq,hg1,if_pos (by omega)]
     ·rw[hg2,if_neg (by omega),if_pos (by omega),Nat.add_sub_cancel_left]
     ·rw[hg2,if_neg (by omega),if_neg (by omega),hg1,if_neg (by omega),if_pos (by omega)]
      rw[←hdg q hq1 hq2];congr 1;omega
   ·obtain⟨row,hrs,hrg,hC⟩:=W.grow g ob.xs.length cap i vb 0 vc c ss w hlt x2 (by omega) hb x1 x4 aeD Vz hcell hso adD
    refine hC.mono λe w' ⟨he,hw⟩=>?_
    refine⟨_,w.heap.size,he,?_⟩
    have hGn:=grownCap_ge w (ob.xs.length+1) cap ob.ty
    have hGm:=grownCap_le_maxLen w (ob.xs.length+1) cap ob.ty hmax
    generalize grownCap w (ob.xs.length+1) cap ob.ty=G at hrs hGn hGm ⊢
    have m3:(ob.xs.length+1)*ob.sz≤G*ob.sz:=mul_le_mul_right _ hGn
    rw[e2]at m3
    rw[e1]at hw
    have hf1:i*ob.sz+ss.length≤row.size:=by rw[hrs,Vz];omega
    generalize O8:spl row (i*ob.sz) ss=bQ at hw
    have hs1:bQ.size=row.size:=by rw[←O8];exact jX hf1
    have hg1:=λq=>O8 ▸ yx hf1 q
    have hf2:i*ob.sz+ob.sz+(mid c i ob.xs.length ob.sz).length≤bQ.size:=by rw[hml,hs1,hrs];omega
    generalize O9:spl bQ (i*ob.sz+ob.sz) (mid c i ob.xs.length ob.sz)=cur2 at hw
    have hs2:cur2.size=bQ.size:=by rw[←O9];exact jX hf2
    have hg2:=λq=>O9 ▸ yx hf2 q
    subst hw
    have hN:(w.drew.alloc (.cells row ob.ty)).heap[w.heap.size]?=some (.cells row ob.ty (0,0)):=heap_alloc_new w.drew _
    have hN1:(((w.drew.alloc (.cells row ob.ty)).setRow w.heap.size bQ).drew).heap[w.heap.size]?=some (.cells bQ ob.ty (0,0)):=setRow_heap _ w.heap.size row bQ ob.ty (0,0) hN
    have hgr:kr w (w.drew.alloc (.cells row ob.ty)):=.push rfl
    refine⟨by rw[setRow_size];show w.heap.size≤((w.drew.alloc (.cells row ob.ty)).setRow w.heap.size bQ).heap.size;rw[setRow_size];exact hgr.1,hgr.2.2,λb y hb hy=>?_,.inr (Nat.le_refl _),G,cur2,by rw[hyl],setRow_heap _ w.heap.size bQ cur2 ob.ty (0,0) hN1,by rw[hyl];exact hGn,hGm,by rw[hs2,hs1,hrs],?_⟩
    ·have hbs:b≠w.heap.size:=by have:=(Array.getElem?_eq_some_iff.1 hy).1;omega
     rw[setRow_other _ w.heap.size b _ hbs]
     show ((w.drew.alloc (.cells row ob.ty)).setRow w.heap.size bQ).heap[b]?=some y
     rw[setRow_other _ w.heap.size b _ hbs]
     exact hgr.2.1 b y hy
    ·refine aX.adC y3 hcx hi (λq hq=>?_) (λq hq=>?_) (λq hq1 hq2=>?_)
     ·rw[hg2,if_pos (by omega),hg1,if_pos hq,hrg q hq]
     ·rw[hg2,if_pos (by omega),hg1,if_neg (by omega),if_pos (by omega),Nat.add_sub_cancel_left]
     ·rw[hg2,if_neg (by omega),if_pos (by omega),←hdg q hq1 hq2]
      congr 1;omega
theorem O_{f:FuncId}{sT uT:TypeId}{ti:aD}{by':Nat}{objs:List Obj}{k ver:Nat}{ob:Obj}{x:PV}{k2 G9:Nat}{TS:Obj}{i:Nat}(W:ZU P f sT uT ob.ty ob.sz by')(hu:P.underlying sT=some (.slice ob.ty))(hu2:P.underlying uT=some (.slice ob.ty))(hD:fB P ob.ty ti)(hk:ti.kind≠.none)
  (hzl:(aL ti).cells.length=ti.size) (hzs:(aL ti).cells.all PV.storable=true) (hsz:ti.size=ob.sz) (hby:ti.bytes=by')
  (h1:objs[k]?=some ob) (h2:ob.live=true) (h3:ob.ver=ver)
  (g1:objs[k2]?=some TS) (g2:TS.live=true) (g3:TS.ver=G9) (g4:TS.sz=ob.sz) (g5:TS.xs=[x]) (hkk:k2≠k)
  (hall:∀y∈ob.xs,Sc ob.sz y) (hx:Sc ob.sz x) (hi:i≤ob.xs.length) (hb:(ob.xs.length+1)*by'≤140737488355328) (hbm:ob.xs.length+1≤1000000000) :
  FW P f [.aS k ver,.int .i64 i,.aS k2 G9] objs (.aS k (ver+1)) (objs.set k { ob with xs:=ob.xs.take i++[x]++ob.xs.drop i,ver:=ver+1 }):=by
 refine⟨W.ent,by simp,λbase ah w0 tmps blk a w vs R hargs=>?_⟩
 obtain⟨v0,v1,v2,rfl,r0,r1,r2⟩:=XW hargs
 have e1:=r1.int
 subst e1
 refine (Vy W hu hu2 hD hk hzl hzs hsz hby R h1 h2 h3 g1 g2 g3 g4 g5 hkk hall hx hi hb hbm r0 r2).mono λe w' ⟨v',gb,he,L⟩=>?_
 obtain⟨e3,e4⟩:=L.rel R h1 h2 h3 (r0.tX h1 h2 h3)
 exact⟨v',_,he,e3,e4⟩
end
end Lp
namespace Lp
open Go Go.Proofs Go.Lib Go.RowKit
theorem Pb:Tryz.prog.underlying 75=some (.slice 9):=by kernel_rfl
theorem adE:∃inf,Tryz.prog.info? 9=some inf∧inf.zero=some (Value.string ⟨#[]⟩)∧inf.size=1∧inf.bytes=16:=⟨_,rfl,rfl,rfl,rfl⟩
theorem jN(g n c i vb voff vc:Nat)(cur B_:Array Value)(tv:TypeId)(ss:List Value)(w:World)(hi:i<n)(hroom:n+1≤c)(hc63:c≤9223372036854775807)
  (hg:w.heap[g]?=some (.cells cur 9 (0,0))) (hcur:cur.size=c*1) (hgv:w.heap[vb]?=some (.cells B_ tv (0,0))) (hvb:vb≠g) (hsl:ss.length=1)
  (hx:∀j v,ss[j]?=some v→w.cell? ⟨vb,voff+j,none⟩=some v) (os:∀v∈ss,v.oneCell'=true) (oc:∀v∈mid cur i n 1,v.oneCell'=true) :
  Calls Tryz.prog 79 #[.slice (some ⟨g,0,none⟩) n c,.int .i64 i,.slice (some ⟨vb,voff,none⟩) 1 vc] w λe w'=>
   e=.returned (.slice (some ⟨g,0,none⟩) (n+1) c)∧w'=(w.drew.setRow g (spl cur ((i+1)*1) (mid cur i n 1))).setRow g (spl (spl cur ((i+1)*1) (mid cur i n 1)) (i*1) ss):=by
 have mixed:Tryz.prog.follows .mixedOrders=true:=by kernel_rfl
 have hml:(mid cur i n 1).length=(n-i)*1:=by simp[mid,hcur];omega
 have hz2:¬ ((i:Int)=(n:Int)):=by omega
 simp only[Nat.mul_one]at *
 have hov:∀off lb cb,(callFunc 105 #[.slice (some ⟨vb,voff,none⟩) 1 vc,.slice (some ⟨g,off,none⟩) lb cb]).run Tryz.prog w=.ok (.value (.bool false)) w:=λoff lb cb=>by
  rw[run_callFunc_extern Tryz.func105 (by kernel_rfl) (by kernel_rfl) (by kernel_rfl) (e:=Extern.SlicesOverlaps.overlaps #[75,75] #[4]) (by kernel_rfl),
   Lib.run_overlaps_apart w 75 4 9 Pb 1 Tryz.sizeOf9 ⟨vb,voff,none⟩ ⟨g,off,none⟩ 1 vc lb cb hvb tv 9 B_.size cur.size (by simp[World.shape?,hgv]) (by simp[World.shape?,hg]) (by omega) (rz hgv _) (rz hgv _)]
  rfl
 obtain⟨inf,hi0,hz0,hzs,hzb⟩:=adE
 have hg':w.drew.heap[g]?=some (.cells cur 9 (0,0)):=hg
 have hcp1:∀ty dc sc,(Builtin.copy_ #[75,75] ty #[.slice (some ⟨g,i+1,none⟩) (n-i) dc,.slice (some ⟨g,i,none⟩) (n+1-i) sc]).run Tryz.prog w.drew=.ok (goInt (n-i:Nat)) (w.drew.setRow g (spl cur (i+1) (mid cur i n 1))):=λty dc sc=>by
  refine fI w.drew 75 75 ty 9 inf g (i+1) (n-i) dc ⟨g,i,none⟩ (n+1-i) sc (n-i) cur 9 _ Pb hi0 hg' (by simp only[Nat.min_def];split<;>omega) (by rw[hzs];omega) (λj v hj=>?_) (by omega) oc
  rw[Addr.add_lit]
  simp only[World.cell?,hg']
  unfold mid at hj
  rw[List.getElem?_drop,List.getElem?_take]at hj
  split at hj
  ·simpa using hj
  ·cases hj
 have Cb:(spl cur (i+1) (mid cur i n 1)).size=c*1:=by rw[jX (by omega)];omega
 generalize spl cur (i+1) (mid cur i n 1)=bQ at hcp1 Cb ⊢
 have hg1:(w.drew.setRow g bQ).heap[g]?=some (.cells bQ 9 (0,0)):=setRow_heap w.drew g cur bQ 9 (0,0) hg'
 have hcp2:∀ty dc,(Builtin.copy_ #[75,75] ty #[.slice (some ⟨g,i,none⟩) (n+1-i) dc,.slice (some ⟨vb,voff,none⟩) 1 vc]).run Tryz.prog (w.drew.setRow g bQ)=.ok (goInt (1:Nat)) ((w.drew.setRow g bQ).setRow g (spl bQ (i) ss)):=λty dc=>by
  refine fI _ 75 75 ty 9 inf g (i) (n+1-i) dc ⟨vb,voff,none⟩ 1 vc 1 bQ 9 ss Pb hi0 hg1 (by simp only[Nat.min_def];split<;>omega) (by rw[hzs];omega) (λj v hj=>?_) (by omega) os
  rw[Addr.add_lit]
  have e:(w.drew.setRow g bQ).heap[vb]?=w.heap[vb]?:=setRow_other w.drew g vb bQ hvb
  have:(w.drew.setRow g bQ).cell? ⟨vb,voff+j,none⟩=w.cell? ⟨vb,voff+j,none⟩:=by simp only[World.cell?,e]
  rw[this]
  exact hx j v hj
 generalize spl bQ (i) ss=cur2 at hcp2 ⊢
 have hw1:IntKind.i64.wrap ((i:Int)+1)=(i:Int)+1:=by rw[IntKind.wrap_i64];omega
 have hb1:(0:Int)≤(i:Int)+1:=by omega
 have hin:i≤n:=by omega
 have htn:((i:Int)+1).toNat=i+1:=by omega
 have hb2:¬ (c=i+1):=by omega
 have hb3:(i:Int)≤(n:Int)+1:=by omega
 have hb4:¬ (c=i):=by omega
 have hb5:n+1-(i+1)=n-i:=by omega
 clear hml Cb hsl
 go_enter Tryz.func79,Tryz.ntmps79
 go_wp2_with (simp only[hov])
 go_region_law_o (refine step_copy_runI rfl _ _ 75 75 rfl _ _ (by simp[Act.eval,Act.put]) (by simp[Act.eval,Act.put]) (hcp1 _ _ _) ?_)
 go_wp2_with (at_builtin;refine wpList_copy_runI _ rfl _ _ 75 75 rfl _ _ rfl rfl (hcp2 _ _) ?_)
 go_ret
 exact⟨rfl,rfl⟩
theorem aeE(base:Option Addr)(n c vb voff vc:Nat)(w w':World)(v':Value)(hnil:base=none→n=0∧c=0)(hnc:n≤c)(hc63:c≤9223372036854775807)
  (hrun:∀ty,(Builtin.append_ #[75,75] ty #[.slice base n c,.slice (some ⟨vb,voff,none⟩) 1 vc]).run Tryz.prog w=.ok v' w') :
  Calls Tryz.prog 79 #[.slice base n c,.int .i64 n,.slice (some ⟨vb,voff,none⟩) 1 vc] w λe w1=>e=.returned v'∧w1=w':=by
 have mixed:Tryz.prog.follows .mixedOrders=true:=by kernel_rfl
 cases base with
 | none=>
  obtain⟨rfl,rfl⟩:=hnil rfl
  go_enter Tryz.func79,Tryz.ntmps79
  go_wp2_with (at_builtin;refine Lib.wpList_append_run _ rfl _ _ _ _ rfl _ _ rfl rfl _ _ (hrun _) ?_)
  go_ret
  exact⟨rfl,rfl⟩
 | some a=>
  obtain⟨ab,ao,asp⟩:=a
  clear hnil
  go_enter Tryz.func79,Tryz.ntmps79
  go_wp2_with (at_builtin;refine Lib.wpList_append_run _ rfl _ _ _ _ rfl _ _ rfl rfl _ _ (hrun _) ?_)
  all_goals (go_ret;exact⟨rfl,rfl⟩)
theorem adF(g n c i vb voff vc:Nat)(cur:Array Value)(ss:List Value)(w:World)(hi:i<n)(hnc:n≤c)(hroom:c<n+1)(hbig:(n+1)*16≤140737488355328)
  (hg:w.heap[g]?=some (.cells cur 9 (0,0))) (hcur:cur.size=c*1) (hvb:vb<w.heap.size) (hsl:ss.length=1)
  (hx:∀j v,ss[j]?=some v→w.cell? ⟨vb,voff+j,none⟩=some v) (os:∀v∈ss,v.oneCell'=true) (oc:∀v∈mid cur i n 1,v.oneCell'=true) :
  ∃row:Array Value,row.size=grownCap w (n+1) c 9*1∧(∀q,q<i*1→row[q]?=cur[q]?)∧
   Calls Tryz.prog 79 #[.slice (some ⟨g,0,none⟩) n c,.int .i64 i,.slice (some ⟨vb,voff,none⟩) 1 vc] w λe w'=>
    e=.returned (.slice (some ⟨w.heap.size,0,none⟩) (n+1) (grownCap w (n+1) c 9))∧
    w'=((((w.drew.alloc (.cells row 9)).setRow w.heap.size (spl row (i*1) ss)).drew).setRow w.heap.size (spl (spl row (i*1) ss) ((i+1)*1) (mid cur i n 1))):=by
 have mixed:Tryz.prog.follows .mixedOrders=true:=by kernel_rfl
 obtain⟨inf,hi0,hz0,hzs,hzb⟩:=adE
 have hgw:g<w.heap.size:=(Array.getElem?_eq_some_iff.1 hg).1
 have hz2:¬ ((i:Int)=(n:Int)):=by omega
 have hz3:(c:Int)<(n:Int)+1:=by omega
 have hik:i+(n+1-i)=n+1:=by omega
 have hkk:(n:Int)+1-(i:Int)=((n+1-i:Nat):Int):=by omega
 have hold:(Builtin.firstCells inf.size i (.slice (some ⟨g,0,none⟩) i c)).run Tryz.prog w.drew=.ok (cur.toList.take (i*1)).toArray w.drew:=by
  rw[hzs]
  refine run_firstCells_some w.drew 1 i ⟨g,0,none⟩ i c (cur.toList.take (i*1)) (by rw[List.length_take,Array.length_toList,hcur];omega) (λj v hj=>?_)
  rw[List.getElem?_take]at hj
  split at hj
  ·rw[add_lit]
   have:(w.drew.heap)[g]?=some (.cells cur 9 (0,0)):=hg
   simp only[World.cell?,this]
   simpa using hj
  ·cases hj
 have hGn:n+1≤grownCap w (n+1) c 9:=grownCap_ge w _ _ _
 have hG63:grownCap w (n+1) c 9≤9223372036854775807:=by
  have:=grownCap_le_maxLen w (n+1) c 9 (by unfold maxLen;omega)
  unfold maxLen at this
  omega
 have hrz:∀ty,(Builtin.append_ #[75,3] ty #[.slice (some ⟨g,0,none⟩) i c,.int .i64 ((n:Int)+1-(i:Int))]).run Tryz.prog w=
     .ok (.slice (some ⟨w.heap.size,0,none⟩) (n+1) (grownCap w (n+1) c 9)) (w.drew.alloc (.cells ((cur.toList.take (i*1)).toArray++Builtin.zeroCells (Value.string ⟨#[]⟩).cells (n+1-i)++Builtin.zeroCells (Value.string ⟨#[]⟩).cells (grownCap w (n+1) c 9-(n+1))) 9)):=λty=>by
  have h:=Lib.run_append_grow_zeros (P:=Tryz.prog) w 75 3 ty 9 inf _ .i64 .i64 Pb (by kernel_rfl) hi0 hz0 (some ⟨g,0,none⟩) i c (cur.toList.take (i*1)) hold (n+1-i) (by omega) (by omega) (by omega) (by omega) (by rw[hzb];omega) (by rw[hzb,hik];exact growslice_fits hroom hbig)
  rw[hik]at h
  rw[hkk]
  exact h
 generalize grownCap w (n+1) c 9=G at *
 have hrg:∀q,q<i*1→((cur.toList.take (i*1)).toArray++Builtin.zeroCells (Value.string ⟨#[]⟩).cells (n+1-i)++Builtin.zeroCells (Value.string ⟨#[]⟩).cells (G-(n+1)))[q]?=cur[q]?:=λq hq=>by
  rw[Array.getElem?_append_left (by simp[Builtin.zeroCells,Value.cells,hcur];omega),Array.getElem?_append_left (by simp[hcur];omega)]
  rw[List.getElem?_toArray,List.getElem?_take,if_pos hq];simp
 have hrs:((cur.toList.take (i*1)).toArray++Builtin.zeroCells (Value.string ⟨#[]⟩).cells (n+1-i)++Builtin.zeroCells (Value.string ⟨#[]⟩).cells (G-(n+1))).size=G*1:=by
  simp[Builtin.zeroCells,Value.cells,hcur]
  omega
 generalize (cur.toList.take (i*1)).toArray++Builtin.zeroCells (Value.string ⟨#[]⟩).cells (n+1-i)++Builtin.zeroCells (Value.string ⟨#[]⟩).cells (G-(n+1))=row at hrz hrg hrs
 refine⟨row,hrs,hrg,?_⟩
 have hml:(mid cur i n 1).length=(n-i)*1:=by simp[mid,hcur];omega
 obtain⟨W1,hW1⟩:∃W1,W1=w.drew.alloc (.cells row 9):=⟨_,rfl⟩
 have hN:W1.heap[w.heap.size]?=some (.cells row 9 (0,0)):=by rw[hW1];exact heap_alloc_new w.drew _
 have hO:∀b,b<w.heap.size→W1.heap[b]?=w.heap[b]?:=λb hb=>by
  rw[hW1]
  show (w.drew.heap.push _)[b]?=_
  rw[Array.getElem?_push,if_neg (show ¬ b=w.drew.heap.size from by show ¬ b=w.heap.size;omega)]
  rfl
 rw[←hW1]at hrz ⊢
 simp only[Nat.mul_one]at *
 have hcpA:∀ty dc,(Builtin.copy_ #[75,75] ty #[.slice (some ⟨w.heap.size,i,none⟩) (n+1-i) dc,.slice (some ⟨vb,voff,none⟩) 1 vc]).run Tryz.prog W1=.ok (goInt (1:Nat)) (W1.setRow w.heap.size (spl row (i) ss)):=λty dc=>by
  refine fI _ 75 75 ty 9 inf w.heap.size (i) (n+1-i) dc ⟨vb,voff,none⟩ 1 vc 1 row 9 ss Pb hi0 hN (by simp only[Nat.min_def];split<;>omega) (by rw[hzs];omega) (λj v hj=>?_) (by omega) os
  rw[Addr.add_lit]
  have:W1.cell? ⟨vb,voff+j,none⟩=w.cell? ⟨vb,voff+j,none⟩:=by simp only[World.cell?,hO vb hvb]
  rw[this]
  exact hx j v hj
 have Cb:(spl row (i) ss).size=G*1:=by rw[jX (by omega)];omega
 generalize spl row (i) ss=bQ at hcpA Cb ⊢
 have hN1:((W1.setRow w.heap.size bQ).drew).heap[w.heap.size]?=some (.cells bQ 9 (0,0)):=setRow_heap W1 w.heap.size row bQ 9 (0,0) hN
 have hcpB:∀ty dc sc,(Builtin.copy_ #[75,75] ty #[.slice (some ⟨w.heap.size,i+1,none⟩) (n-i) dc,.slice (some ⟨g,i,none⟩) (n-i) sc]).run Tryz.prog ((W1.setRow w.heap.size bQ).drew)=.ok (goInt (n-i:Nat)) (((W1.setRow w.heap.size bQ).drew).setRow w.heap.size (spl bQ (i+1) (mid cur i n 1))):=λty dc sc=>by
  refine fI _ 75 75 ty 9 inf w.heap.size (i+1) (n-i) dc ⟨g,i,none⟩ (n-i) sc (n-i) bQ 9 _ Pb hi0 hN1 (by simp) (by rw[hzs];omega) (λj v hj=>?_) (by omega) oc
  rw[Addr.add_lit]
  have e:((W1.setRow w.heap.size bQ).drew).heap[g]?=some (.cells cur 9 (0,0)):=by
   have:((W1.setRow w.heap.size bQ).drew).heap[g]?=W1.heap[g]?:=setRow_other W1 w.heap.size g bQ (by omega)
   rw[this,hO g hgw];exact hg
  simp only[World.cell?,e]
  unfold mid at hj
  rw[List.getElem?_drop,List.getElem?_take]at hj
  split at hj
  ·simpa using hj
  ·cases hj
 generalize spl bQ (i+1) (mid cur i n 1)=cur2 at hcpB ⊢
 have hGi:¬ (G=i):=by omega
 have hGim:¬ (G=i+1):=by omega
 have hci:¬ (c=i):=by omega
 have hw1:IntKind.i64.wrap ((i:Int)+1)=(i:Int)+1:=by rw[IntKind.wrap_i64];omega
 have hw2:IntKind.i64.wrap ((n:Int)+1)=(n:Int)+1:=by rw[IntKind.wrap_i64];omega
 have hw3:IntKind.i64.wrap ((n:Int)+1-(i:Int))=(n:Int)+1-(i:Int):=by rw[IntKind.wrap_i64];omega
 have hb1:(0:Int)≤(i:Int)+1:=by omega
 have hin:i≤n:=by omega
 have htn:((i:Int)+1).toNat=i+1:=by omega
 have hb3:(i:Int)≤(n:Int):=by omega
 have hb5:n+1-(i+1)=n-i:=by omega
 clear hkk hik hold hrs hrg hml Cb hW1 hN hN1 hO hsl
 go_enter Tryz.func79,Tryz.ntmps79
 go_wp2_with (first
  | (at_builtin;refine Lib.wpList_append_run _ rfl _ _ _ _ rfl _ _ rfl rfl _ _ (hrz _) ?_)
  | (at_builtin;refine wpList_copy_runI _ rfl _ _ 75 75 rfl _ _ rfl rfl (hcpA _ _) ?_))
 go_region_law_o (refine step_copy_runI rfl _ _ 75 75 rfl _ _ (by simp[Act.eval,Act.put]) (by simp[Act.eval,Act.put]) (hcpB _ _ _) ?_)
 go_wp2
 go_ret
 exact⟨rfl,rfl⟩
theorem adG:ZU Tryz.prog 79 75 75 9 1 16:=⟨⟨_,Tryz.func79,by kernel_rfl,by kernel_rfl⟩,jN,aeE,adF⟩
end Lp
namespace Lp
open Go Go.Proofs Go.Lib Go.RowKit
theorem G_:Tryz.prog.underlying 64=some (.slice 23):=by kernel_rfl
theorem adH:∃inf,Tryz.prog.info? 23=some inf∧inf.zero=some (Value.slice none 0 0)∧inf.size=1∧inf.bytes=24:=⟨_,rfl,rfl,rfl,rfl⟩
theorem ab_(g n c i vb voff vc:Nat)(cur B_:Array Value)(tv:TypeId)(ss:List Value)(w:World)(hi:i<n)(hroom:n+1≤c)(hc63:c≤9223372036854775807)
  (hg:w.heap[g]?=some (.cells cur 23 (0,0))) (hcur:cur.size=c*1) (hgv:w.heap[vb]?=some (.cells B_ tv (0,0))) (hvb:vb≠g) (hsl:ss.length=1)
  (hx:∀j v,ss[j]?=some v→w.cell? ⟨vb,voff+j,none⟩=some v) (os:∀v∈ss,v.oneCell'=true) (oc:∀v∈mid cur i n 1,v.oneCell'=true) :
  Calls Tryz.prog 54 #[.slice (some ⟨g,0,none⟩) n c,.int .i64 i,.slice (some ⟨vb,voff,none⟩) 1 vc] w λe w'=>
   e=.returned (.slice (some ⟨g,0,none⟩) (n+1) c)∧w'=(w.drew.setRow g (spl cur ((i+1)*1) (mid cur i n 1))).setRow g (spl (spl cur ((i+1)*1) (mid cur i n 1)) (i*1) ss):=by
 have mixed:Tryz.prog.follows .mixedOrders=true:=by kernel_rfl
 have hml:(mid cur i n 1).length=(n-i)*1:=by simp[mid,hcur];omega
 have hz2:¬ ((i:Int)=(n:Int)):=by omega
 simp only[Nat.mul_one]at *
 have hov:∀off lb cb,(callFunc 82 #[.slice (some ⟨vb,voff,none⟩) 1 vc,.slice (some ⟨g,off,none⟩) lb cb]).run Tryz.prog w=.ok (.value (.bool false)) w:=λoff lb cb=>by
  rw[run_callFunc_extern Tryz.func82 (by kernel_rfl) (by kernel_rfl) (by kernel_rfl) (e:=Extern.SlicesOverlaps.overlaps #[64,64] #[4]) (by kernel_rfl),
   Lib.run_overlaps_apart w 64 4 23 G_ 1 Tryz.sizeOf23 ⟨vb,voff,none⟩ ⟨g,off,none⟩ 1 vc lb cb hvb tv 23 B_.size cur.size (by simp[World.shape?,hgv]) (by simp[World.shape?,hg]) (by omega) (rz hgv _) (rz hgv _)]
  rfl
 obtain⟨inf,hi0,hz0,hzs,hzb⟩:=adH
 have hg':w.drew.heap[g]?=some (.cells cur 23 (0,0)):=hg
 have hcp1:∀ty dc sc,(Builtin.copy_ #[64,64] ty #[.slice (some ⟨g,i+1,none⟩) (n-i) dc,.slice (some ⟨g,i,none⟩) (n+1-i) sc]).run Tryz.prog w.drew=.ok (goInt (n-i:Nat)) (w.drew.setRow g (spl cur (i+1) (mid cur i n 1))):=λty dc sc=>by
  refine fI w.drew 64 64 ty 23 inf g (i+1) (n-i) dc ⟨g,i,none⟩ (n+1-i) sc (n-i) cur 23 _ G_ hi0 hg' (by simp only[Nat.min_def];split<;>omega) (by rw[hzs];omega) (λj v hj=>?_) (by omega) oc
  rw[Addr.add_lit]
  simp only[World.cell?,hg']
  unfold mid at hj
  rw[List.getElem?_drop,List.getElem?_take]at hj
  split at hj
  ·simpa using hj
  ·cases hj
 have Cb:(spl cur (i+1) (mid cur i n 1)).size=c*1:=by rw[jX (by omega)];omega
 generalize spl cur (i+1) (mid cur i n 1)=bQ at hcp1 Cb ⊢
 have hg1:(w.drew.setRow g bQ).heap[g]?=some (.cells bQ 23 (0,0)):=setRow_heap w.drew g cur bQ 23 (0,0) hg'
 have hcp2:∀ty dc,(Builtin.copy_ #[64,64] ty #[.slice (some ⟨g,i,none⟩) (n+1-i) dc,.slice (some ⟨vb,voff,none⟩) 1 vc]).run Tryz.prog (w.drew.setRow g bQ)=.ok (goInt (1:Nat)) ((w.drew.setRow g bQ).setRow g (spl bQ (i) ss)):=λty dc=>by
  refine fI _ 64 64 ty 23 inf g (i) (n+1-i) dc ⟨vb,voff,none⟩ 1 vc 1 bQ 23 ss G_ hi0 hg1 (by simp only[Nat.min_def];split<;>omega) (by rw[hzs];omega) (λj v hj=>?_) (by omega) os
  rw[Addr.add_lit]
  have e:(w.drew.setRow g bQ).heap[vb]?=w.heap[vb]?:=setRow_other w.drew g vb bQ hvb
  have:(w.drew.setRow g bQ).cell? ⟨vb,voff+j,none⟩=w.cell? ⟨vb,voff+j,none⟩:=by simp only[World.cell?,e]
  rw[this]
  exact hx j v hj
 generalize spl bQ (i) ss=cur2 at hcp2 ⊢
 have hw1:IntKind.i64.wrap ((i:Int)+1)=(i:Int)+1:=by rw[IntKind.wrap_i64];omega
 have hb1:(0:Int)≤(i:Int)+1:=by omega
 have hin:i≤n:=by omega
 have htn:((i:Int)+1).toNat=i+1:=by omega
 have hb2:¬ (c=i+1):=by omega
 have hb3:(i:Int)≤(n:Int)+1:=by omega
 have hb4:¬ (c=i):=by omega
 have hb5:n+1-(i+1)=n-i:=by omega
 clear hml Cb hsl
 go_enter Tryz.func54,Tryz.ntmps54
 go_wp2_with (simp only[hov])
 go_region_law_o (refine step_copy_runI rfl _ _ 64 64 rfl _ _ (by simp[Act.eval,Act.put]) (by simp[Act.eval,Act.put]) (hcp1 _ _ _) ?_)
 go_wp2_with (at_builtin;refine wpList_copy_runI _ rfl _ _ 64 64 rfl _ _ rfl rfl (hcp2 _ _) ?_)
 go_ret
 exact⟨rfl,rfl⟩
theorem aeF(base:Option Addr)(n c vb voff vc:Nat)(w w':World)(v':Value)(hnil:base=none→n=0∧c=0)(hnc:n≤c)(hc63:c≤9223372036854775807)
  (hrun:∀ty,(Builtin.append_ #[64,64] ty #[.slice base n c,.slice (some ⟨vb,voff,none⟩) 1 vc]).run Tryz.prog w=.ok v' w') :
  Calls Tryz.prog 54 #[.slice base n c,.int .i64 n,.slice (some ⟨vb,voff,none⟩) 1 vc] w λe w1=>e=.returned v'∧w1=w':=by
 have mixed:Tryz.prog.follows .mixedOrders=true:=by kernel_rfl
 cases base with
 | none=>
  obtain⟨rfl,rfl⟩:=hnil rfl
  go_enter Tryz.func54,Tryz.ntmps54
  go_wp2_with (at_builtin;refine Lib.wpList_append_run _ rfl _ _ _ _ rfl _ _ rfl rfl _ _ (hrun _) ?_)
  go_ret
  exact⟨rfl,rfl⟩
 | some a=>
  obtain⟨ab,ao,asp⟩:=a
  clear hnil
  go_enter Tryz.func54,Tryz.ntmps54
  go_wp2_with (at_builtin;refine Lib.wpList_append_run _ rfl _ _ _ _ rfl _ _ rfl rfl _ _ (hrun _) ?_)
  all_goals (go_ret;exact⟨rfl,rfl⟩)
theorem adI(g n c i vb voff vc:Nat)(cur:Array Value)(ss:List Value)(w:World)(hi:i<n)(hnc:n≤c)(hroom:c<n+1)(hbig:(n+1)*24≤140737488355328)
  (hg:w.heap[g]?=some (.cells cur 23 (0,0))) (hcur:cur.size=c*1) (hvb:vb<w.heap.size) (hsl:ss.length=1)
  (hx:∀j v,ss[j]?=some v→w.cell? ⟨vb,voff+j,none⟩=some v) (os:∀v∈ss,v.oneCell'=true) (oc:∀v∈mid cur i n 1,v.oneCell'=true) :
  ∃row:Array Value,row.size=grownCap w (n+1) c 23*1∧(∀q,q<i*1→row[q]?=cur[q]?)∧
   Calls Tryz.prog 54 #[.slice (some ⟨g,0,none⟩) n c,.int .i64 i,.slice (some ⟨vb,voff,none⟩) 1 vc] w λe w'=>
    e=.returned (.slice (some ⟨w.heap.size,0,none⟩) (n+1) (grownCap w (n+1) c 23))∧
    w'=((((w.drew.alloc (.cells row 23)).setRow w.heap.size (spl row (i*1) ss)).drew).setRow w.heap.size (spl (spl row (i*1) ss) ((i+1)*1) (mid cur i n 1))):=by
 have mixed:Tryz.prog.follows .mixedOrders=true:=by kernel_rfl
 obtain⟨inf,hi0,hz0,hzs,hzb⟩:=adH
 have hgw:g<w.heap.size:=(Array.getElem?_eq_some_iff.1 hg).1
 have hz2:¬ ((i:Int)=(n:Int)):=by omega
 have hz3:(c:Int)<(n:Int)+1:=by omega
 have hik:i+(n+1-i)=n+1:=by omega
 have hkk:(n:Int)+1-(i:Int)=((n+1-i:Nat):Int):=by omega
 have hold:(Builtin.firstCells inf.size i (.slice (some ⟨g,0,none⟩) i c)).run Tryz.prog w.drew=.ok (cur.toList.take (i*1)).toArray w.drew:=by
  rw[hzs]
  refine run_firstCells_some w.drew 1 i ⟨g,0,none⟩ i c (cur.toList.take (i*1)) (by rw[List.length_take,Array.length_toList,hcur];omega) (λj v hj=>?_)
  rw[List.getElem?_take]at hj
  split at hj
  ·rw[add_lit]
   have:(w.drew.heap)[g]?=some (.cells cur 23 (0,0)):=hg
   simp only[World.cell?,this]
   simpa using hj
  ·cases hj
 have hGn:n+1≤grownCap w (n+1) c 23:=grownCap_ge w _ _ _
 have hG63:grownCap w (n+1) c 23≤9223372036854775807:=by
  have:=grownCap_le_maxLen w (n+1) c 23 (by unfold maxLen;omega)
  unfold maxLen at this
  omega
 have hrz:∀ty,(Builtin.append_ #[64,3] ty #[.slice (some ⟨g,0,none⟩) i c,.int .i64 ((n:Int)+1-(i:Int))]).run Tryz.prog w=
     .ok (.slice (some ⟨w.heap.size,0,none⟩) (n+1) (grownCap w (n+1) c 23)) (w.drew.alloc (.cells ((cur.toList.take (i*1)).toArray++Builtin.zeroCells (Value.slice none 0 0).cells (n+1-i)++Builtin.zeroCells (Value.slice none 0 0).cells (grownCap w (n+1) c 23-(n+1))) 23)):=λty=>by
  have h:=Lib.run_append_grow_zeros (P:=Tryz.prog) w 64 3 ty 23 inf _ .i64 .i64 G_ (by kernel_rfl) hi0 hz0 (some ⟨g,0,none⟩) i c (cur.toList.take (i*1)) hold (n+1-i) (by omega) (by omega) (by omega) (by omega) (by rw[hzb];omega) (by rw[hzb,hik];exact growslice_fits hroom hbig)
  rw[hik]at h
  rw[hkk]
  exact h
 generalize grownCap w (n+1) c 23=G at *
 have hrg:∀q,q<i*1→((cur.toList.take (i*1)).toArray++Builtin.zeroCells (Value.slice none 0 0).cells (n+1-i)++Builtin.zeroCells (Value.slice none 0 0).cells (G-(n+1)))[q]?=cur[q]?:=λq hq=>by
  rw[Array.getElem?_append_left (by simp[Builtin.zeroCells,Value.cells,hcur];omega),Array.getElem?_append_left (by simp[hcur];omega)]
  rw[List.getElem?_toArray,List.getElem?_take,if_pos hq];simp
 have hrs:((cur.toList.take (i*1)).toArray++Builtin.zeroCells (Value.slice none 0 0).cells (n+1-i)++Builtin.zeroCells (Value.slice none 0 0).cells (G-(n+1))).size=G*1:=by
  simp[Builtin.zeroCells,Value.cells,hcur]
  omega
 generalize (cur.toList.take (i*1)).toArray++Builtin.zeroCells (Value.slice none 0 0).cells (n+1-i)++Builtin.zeroCells (Value.slice none 0 0).cells (G-(n+1))=row at hrz hrg hrs
 refine⟨row,hrs,hrg,?_⟩
 have hml:(mid cur i n 1).length=(n-i)*1:=by simp[mid,hcur];omega
 obtain⟨W1,hW1⟩:∃W1,W1=w.drew.alloc (.cells row 23):=⟨_,rfl⟩
 have hN:W1.heap[w.heap.size]?=some (.cells row 23 (0,0)):=by rw[hW1];exact heap_alloc_new w.drew _
 have hO:∀b,b<w.heap.size→W1.heap[b]?=w.heap[b]?:=λb hb=>by
  rw[hW1]
  show (w.drew.heap.push _)[b]?=_
  rw[Array.getElem?_push,if_neg (show ¬ b=w.drew.heap.size from by show ¬ b=w.heap.size;omega)]
  rfl
 rw[←hW1]at hrz ⊢
 simp only[Nat.mul_one]at *
 have hcpA:∀ty dc,(Builtin.copy_ #[64,64] ty #[.slice (some ⟨w.heap.size,i,none⟩) (n+1-i) dc,.slice (some ⟨vb,voff,none⟩) 1 vc]).run Tryz.prog W1=.ok (goInt (1:Nat)) (W1.setRow w.heap.size (spl row (i) ss)):=λty dc=>by
  refine fI _ 64 64 ty 23 inf w.heap.size (i) (n+1-i) dc ⟨vb,voff,none⟩ 1 vc 1 row 23 ss G_ hi0 hN (by simp only[Nat.min_def];split<;>omega) (by rw[hzs];omega) (λj v hj=>?_) (by omega) os
  rw[Addr.add_lit]
  have:W1.cell? ⟨vb,voff+j,none⟩=w.cell? ⟨vb,voff+j,none⟩:=by simp only[World.cell?,hO vb hvb]
  rw[this]
  exact hx j v hj
 have Cb:(spl row (i) ss).size=G*1:=by rw[jX (by omega)];omega
 generalize spl row (i) ss=bQ at hcpA Cb ⊢
 have hN1:((W1.setRow w.heap.size bQ).drew).heap[w.heap.size]?=some (.cells bQ 23 (0,0)):=setRow_heap W1 w.heap.size row bQ 23 (0,0) hN
 have hcpB:∀ty dc sc,(Builtin.copy_ #[64,64] ty #[.slice (some ⟨w.heap.size,i+1,none⟩) (n-i) dc,.slice (some ⟨g,i,none⟩) (n-i) sc]).run Tryz.prog ((W1.setRow w.heap.size bQ).drew)=.ok (goInt (n-i:Nat)) (((W1.setRow w.heap.size bQ).drew).setRow w.heap.size (spl bQ (i+1) (mid cur i n 1))):=λty dc sc=>by
  refine fI _ 64 64 ty 23 inf w.heap.size (i+1) (n-i) dc ⟨g,i,none⟩ (n-i) sc (n-i) bQ 23 _ G_ hi0 hN1 (by simp) (by rw[hzs];omega) (λj v hj=>?_) (by omega) oc
  rw[Addr.add_lit]
  have e:((W1.setRow w.heap.size bQ).drew).heap[g]?=some (.cells cur 23 (0,0)):=by
   have:((W1.setRow w.heap.size bQ).drew).heap[g]?=W1.heap[g]?:=setRow_other W1 w.heap.size g bQ (by omega)
   rw[this,hO g hgw];exact hg
  simp only[World.cell?,e]
  unfold mid at hj
  rw[List.getElem?_drop,List.getElem?_take]at hj
  split at hj
  ·simpa using hj
  ·cases hj
 generalize spl bQ (i+1) (mid cur i n 1)=cur2 at hcpB ⊢
 have hGi:¬ (G=i):=by omega
 have hGim:¬ (G=i+1):=by omega
 have hci:¬ (c=i):=by omega
 have hw1:IntKind.i64.wrap ((i:Int)+1)=(i:Int)+1:=by rw[IntKind.wrap_i64];omega
 have hw2:IntKind.i64.wrap ((n:Int)+1)=(n:Int)+1:=by rw[IntKind.wrap_i64];omega
 have hw3:IntKind.i64.wrap ((n:Int)+1-(i:Int))=(n:Int)+1-(i:Int):=by rw[IntKind.wrap_i64];omega
 have hb1:(0:Int)≤(i:Int)+1:=by omega
 have hin:i≤n:=by omega
 have htn:((i:Int)+1).toNat=i+1:=by omega
 have hb3:(i:Int)≤(n:Int):=by omega
 have hb5:n+1-(i+1)=n-i:=by omega
 clear hkk hik hold hrs hrg hml Cb hW1 hN hN1 hO hsl
 go_enter Tryz.func54,Tryz.ntmps54
 go_wp2_with (first
  | (at_builtin;refine Lib.wpList_append_run _ rfl _ _ _ _ rfl _ _ rfl rfl _ _ (hrz _) ?_)
  | (at_builtin;refine wpList_copy_runI _ rfl _ _ 64 64 rfl _ _ rfl rfl (hcpA _ _) ?_))
 go_region_law_o (refine step_copy_runI rfl _ _ 64 64 rfl _ _ (by simp[Act.eval,Act.put]) (by simp[Act.eval,Act.put]) (hcpB _ _ _) ?_)
 go_wp2
 go_ret
 exact⟨rfl,rfl⟩
theorem adJ:ZU Tryz.prog 54 64 64 23 1 24:=⟨⟨_,Tryz.func54,by kernel_rfl,by kernel_rfl⟩,ab_,aeF,adI⟩
end Lp
namespace Lp
open Go Go.Proofs
open List (length_map map_append mem_cons mem_singleton not_mem_nil)
theorem av.adK {f:FuncId}{args:List PV}{ty:TypeId}{sz s:Nat}(h:av Tryz.prog f args [] (.sl s [] (some true)) [])(hty:ty≠MT):av Tryz.prog f args [] (.aS 0 0) [⟨ty,sz,[],true,0⟩]:=by
 refine⟨h.1,λw blk vs base hb R ha=>(h.2 w blk vs base hb R ha).mono ?_⟩
 rintro e w' ⟨v,ak,h1,h2,h3,h4⟩
 have hv:v=.slice none 0 0:=by
  have:=qx h3
  cases this with
  | slnil _ _ _=>rfl
  | FL _ _ hq=>exact absurd rfl hq
  | sl _ _ _ hq=>exact absurd rfl hq
 subst hv
 refine⟨_,λ_=>none,h1,⟨λk o ho _=>?_,λk k' o o' g _ _ _ _ _ hx=>(by cases hx),λk o g _ _ hx=>(by cases hx)⟩,⟨rfl,_,rfl,Nat.le_refl _,λ_ _=>⟨hty,rfl,rfl⟩⟩,h4⟩
 match k,ho with
 | 0,ho=>cases ho;rfl
 | _+1,ho=>simp at ho
def adL(done:List Vl)(O:List Obj):Prop:=(done=[]∧O=[⟨64,1,[.sl 0 [] (some true)],true,1⟩])∨(done≠[]∧∃ver,O=[⟨64,1,[.aS 1 ver],true,1⟩,⟨23,1,done.map aj,true,ver⟩])
def adM(done:List (List UInt8))(O:List Obj):Prop:=(done=[]∧O=[⟨75,1,[.sl 0 [] (some true)],true,1⟩])∨(done≠[]∧∃ver,O=[⟨75,1,[.aS 1 ver],true,1⟩,⟨9,1,done.map .str,true,ver⟩])
theorem ZV{done:List Vl}{O:List Obj}(h:adL done O):1≤O.length∧bI O:=by
 rcases h with ⟨_,rfl⟩ | ⟨_,ver,rfl⟩
 ·refine⟨by simp,λo ho x hx c hc=>?_⟩
  simp only[mem_singleton]at ho;subst ho
  simp only[mem_singleton]at hx;subst hx
  simp only[PV.cells,mem_singleton]at hc;subst hc;rfl
 ·refine⟨by simp,λo ho x hx c hc=>?_⟩
  simp only[mem_cons,not_mem_nil,or_false]at ho
  rcases ho with rfl | rfl
  ·simp only[mem_singleton]at hx;subst hx
   simp only[PV.cells,mem_singleton]at hc;subst hc;rfl
  ·obtain⟨y,_,rfl⟩:=List.mem_map.1 hx
   simp only[aj,PV.cells,mem_singleton]at hc;subst hc;rfl
theorem ZW{done:List (List UInt8)}{O:List Obj}(h:adM done O):1≤O.length∧bI O:=by
 rcases h with ⟨_,rfl⟩ | ⟨_,ver,rfl⟩
 ·refine⟨by simp,λo ho x hx c hc=>?_⟩
  simp only[mem_singleton]at ho;subst ho
  simp only[mem_singleton]at hx;subst hx
  simp only[PV.cells,mem_singleton]at hc;subst hc;rfl
 ·refine⟨by simp,λo ho x hx c hc=>?_⟩
  simp only[mem_cons,not_mem_nil,or_false]at ho
  rcases ho with rfl | rfl
  ·simp only[mem_singleton]at hx;subst hx
   simp only[PV.cells,mem_singleton]at hc;subst hc;rfl
  ·obtain⟨y,_,rfl⟩:=List.mem_map.1 hx
   simp only[PV.cells,mem_singleton]at hc;subst hc;rfl
theorem zK{α β:Type}{f:α→β}{l:List α}{i:Nat}{x:α}(h:l[i]?=some x):(l.take (i+1)).map f=(l.take i).map f++[f x]:=by
 rw[List.take_add_one,h];simp
theorem Sd(v:Vl)(hr:Rt v)(hl:v.length≤1000000):av Tryz.prog 52 [aj v] [] (.aS 0 0) [yZ (ax v) 0]:=by
 obtain⟨ps,hP,ab3,hpl,hnm,hgv⟩:=uM v hr hl
 by_cases h0:ps=[]
 ·obtain⟨n,r,hv,_⟩:=bS hr.name hr.one.ne
  subst hv
  obtain⟨h1,h2,ps',h3,_,_,_,_⟩:=hr.parts
  have hp':ps'=[]:=by
   have e:ax (n::r)=ps'.map gI:=by simp only[ax,(dB h3).1]
   rw[hP,h0]at e
   exact List.map_eq_nil_iff.1 e.symm
  have h:=Eh (n::r) n r ps' rfl (by omega) h2 h3
  rw[if_pos hp']at h
  rw[hP,h0]
  exact h.adK (by decide)
 refine Eg.Ej (T:=bA Tryz.prog [(80,kU)]) 2 hD (ay (af rq au)) bE λQ hQ=>?_
 (conv=>arg 4;cbv);simp (maxSteps:=400000) only[↓aG,aH,BEq.rfl,seval,hQ,↓kU]
 refine z_ 107 [.addr (aj v)] (ps.map rowOf) (λi O=>adL ((ps.take i).map gI) O∧i≤ps.length) rfl rfl rfl trivial hgv (yo ps) ⟨.inl ⟨by simp,rfl⟩,Nat.zero_le _⟩ (λi O h=>ZV h.1) ?_ ?_
 ·rintro i args O ⟨hO,hi⟩ ha
  obtain⟨p,hpi,rfl⟩:=yt ha
  have hil:=(List.getElem?_eq_some_iff.1 hpi).1
  have htk:=zK (f:=gI) hpi
  have hkl:((ps.take i).map gI).length≤i:=by simp;omega
  generalize (ps.take i).map gI=kept at *
  rcases hO with ⟨rfl,rfl⟩ | ⟨h1,ver,rfl⟩
  ·simp (maxSteps:=400000) only[↓aG,aH,BEq.rfl,seval,hQ,jH,Wl]
   exact⟨.inr ⟨by rw[htk];simp,1,by rw[htk];rfl⟩,by omega⟩
  ·simp (maxSteps:=400000) only[↓aG,aH,BEq.rfl,seval,hQ,jH,Wl]
   exact⟨by omega,by omega,.inr ⟨by rw[htk];simp,ver+1,by rw[htk,map_append];rfl⟩,by omega⟩
 ·rintro O ⟨hO,_⟩
  rw[length_map,List.take_length]at hO
  rcases hO with ⟨h1,rfl⟩ | ⟨h1,ver,rfl⟩
  ·exact absurd (List.map_eq_nil_iff.1 h1) h0
  ·simp (maxSteps:=400000) only[↓aG,aH,BEq.rfl,seval,hQ]
   rw[hP]
   exact I4 (k:=1) (ver:=ver) rfl rfl rfl rfl (congrArg (λo:Obj=>{ o with ver:=0 }) (Ko 2 2 _ 23 1 _ ver)) (sP _ 0)
theorem Sg(v:Vl)(hr:Rt v)(hk:aN v=6)(hl:v.length≤1000000):av Tryz.prog 76 [aj v] [] (.aS 0 0) [GI (aJ v) 0]:=by
 obtain⟨ps,hP,ab3,hpl,hnm,hgv⟩:=uM v hr hl
 obtain⟨n,r,hv,_⟩:=bS hr.name hr.one.ne
 have Rs:n.kind=6:=by rw[hv]at hk;exact hk
 have hN:aJ v=ps.map nameOf:=by
  rcases hnm with h | ⟨n',r',h1,h2⟩
  ·exact h
  ·rw[hv]at h1;cases h1;exact absurd Rs h2
 by_cases h0:ps=[]
 ·subst hv
  obtain⟨h1,h2,ps',h3,_,_,_,_⟩:=hr.parts
  have hp':ps'=[]:=by
   have e:ax (n::r)=ps'.map gI:=by simp only[ax,(dB h3).1]
   rw[hP,h0]at e
   exact List.map_eq_nil_iff.1 e.symm
  have h:=Ei (n::r) n r ps' rfl (by omega) h2 h3
  rw[if_neg (λh=>h.2 hp')]at h
  rw[hN,h0]
  exact h.adK (by decide)
 have hg0:v[0]?=some n:=by rw[hv];rfl
 have k6:(n.kind=6)=True:=eq_true Rs
 refine Ef.Ej (T:=bA Tryz.prog [(80,kU)]) 2 hD (ay (af rq au)) bE λQ hQ=>?_
 (conv=>arg 4;cbv);simp (maxSteps:=400000) only[↓aG,aH,BEq.rfl,seval,hQ,hg0,k6,↓kU]
 refine z_ 107 [.addr (aj v)] (ps.map rowOf) (λi O=>adM ((ps.take i).map nameOf) O∧i≤ps.length) rfl rfl rfl trivial hgv (yo ps) ⟨.inl ⟨by simp,rfl⟩,Nat.zero_le _⟩ (λi O h=>ZW h.1) ?_ ?_
 ·rintro i args O ⟨hO,hi⟩ ha
  obtain⟨p,hpi,rfl⟩:=yt ha
  have hil:=(List.getElem?_eq_some_iff.1 hpi).1
  have htk:=zK (f:=nameOf) hpi
  have hkl:((ps.take i).map nameOf).length≤i:=by simp;omega
  generalize (ps.take i).map nameOf=kept at *
  rcases hO with ⟨rfl,rfl⟩ | ⟨h1,ver,rfl⟩
  ·simp (maxSteps:=400000) only[↓aG,aH,BEq.rfl,seval,hQ,jH,Wl]
   exact⟨.inr ⟨by rw[htk];simp,1,by rw[htk];rfl⟩,by omega⟩
  ·simp (maxSteps:=400000) only[↓aG,aH,BEq.rfl,seval,hQ,jH,Wl]
   exact⟨by omega,by omega,.inr ⟨by rw[htk];simp,ver+1,by rw[htk,map_append];rfl⟩,by omega⟩
 ·rintro O ⟨hO,_⟩
  rw[length_map,List.take_length]at hO
  rcases hO with ⟨h1,rfl⟩ | ⟨h1,ver,rfl⟩
  ·exact absurd (List.map_eq_nil_iff.1 h1) h0
  ·simp (maxSteps:=400000) only[↓aG,aH,BEq.rfl,seval,hQ]
   rw[hN]
   exact I4 (k:=1) (ver:=ver) rfl rfl rfl rfl (congrArg (λo:Obj=>{ o with ver:=0 }) (Dp 2 2 _ 9 1 _ ver)) (p9 _ 0)
def yA:d9:=λargs objs K=>match args with
 | [a]=>gD aj a (HK.mk:HK λv=>Rt v∧aN v=6∧v.length≤1000000∧K (.aS objs.length 0) (objs++[GI (aJ v) 0]) 2)
 | _=>False
theorem Mr:aR Tryz.prog 76 yA:=by
 intro args objs K h
 unfold yA at h
 split at h
 ·obtain⟨v,rfl,h1,h2,h3,h4⟩:=h
  exact⟨_,_,_,.made (.aS 0 0) _ rfl (p9 _ 0) (Sg v h1 h2 h3),by simpa[PV.shift,PV.jN] using h4⟩
 ·exact h.elim
def iG:d9:=λargs objs K=>match args with
 | [a]=>gD aj a (HK.mk:HK λv=>Rt v∧v.length≤1000000∧K (.aS objs.length 0) (objs++[yZ (ax v) 0]) 2)
 | _=>False
theorem uX:aR Tryz.prog 52 iG:=by
 intro args objs K h
 unfold iG at h
 split at h
 ·obtain⟨v,rfl,h1,h3,h4⟩:=h
  exact⟨_,_,_,.made (.aS 0 0) _ rfl (sP _ 0) (Sd v h1 h3),by simpa[PV.shift,PV.jN] using h4⟩
 ·exact h.elim
def adN(nm:List UInt8)(kept:mq)(O:List Obj):Prop:=(kept=[]∧O=[⟨9,1,[.str nm],true,1⟩,⟨75,1,[.sl 0 [] (some true)],true,1⟩,⟨64,1,[.sl 0 [] (some true)],true,1⟩])∨
 (kept≠[]∧∃v1 v2,O=[⟨9,1,[.str nm],true,1⟩,⟨75,1,[.aS 3 v1],true,1⟩,⟨64,1,[.aS 4 v2],true,1⟩,⟨9,1,(kept.map (·.1)).map .str,true,v1⟩,⟨23,1,(kept.map (·.2)).map aj,true,v2⟩])
theorem ZX{nm:List UInt8}{kept:mq}{O:List Obj}(h:adN nm kept O):3≤O.length∧bI O:=by
 rcases h with ⟨_,rfl⟩ | ⟨_,v1,v2,rfl⟩
 ·refine⟨by simp,λo ho x hx c hc=>?_⟩
  simp only[mem_cons,not_mem_nil,or_false]at ho
  rcases ho with rfl | rfl | rfl
  all_goals
   simp only[mem_singleton]at hx;subst hx
   simp only[PV.cells,mem_singleton]at hc;subst hc;rfl
 ·refine⟨by simp,λo ho x hx c hc=>?_⟩
  simp only[mem_cons,not_mem_nil,or_false]at ho
  rcases ho with rfl | rfl | rfl | rfl | rfl
  ·simp only[mem_singleton]at hx;subst hx
   simp only[PV.cells,mem_singleton]at hc;subst hc;rfl
  ·simp only[mem_singleton]at hx;subst hx
   simp only[PV.cells,mem_singleton]at hc;subst hc;rfl
  ·simp only[mem_singleton]at hx;subst hx
   simp only[PV.cells,mem_singleton]at hc;subst hc;rfl
  ·obtain⟨y,_,rfl⟩:=List.mem_map.1 hx
   simp only[PV.cells,mem_singleton]at hc;subst hc;rfl
  ·obtain⟨y,_,rfl⟩:=List.mem_map.1 hx
   simp only[aj,PV.cells,mem_singleton]at hc;subst hc;rfl
theorem sU{objs:List Obj}{k:Nat}{v:Vl}(h:objs[k]?=some (wT v 0)):fA 1 0 objs (.aS k 0)=aj v:=by
 simp only[fA,Nat.not_lt_zero,if_false,kD,h,Nat.zero_le,decide_true,Bool.true_and,beq_self_eq_true,if_true,wT]
 rw[GU aM λ_=>rfl];rfl
theorem Ms(v:Vl)(nm:List UInt8)(hr:Rt v)(hk:aN v=6)(hl:v.length≤1000000):av Tryz.prog 57 [aj v,.str nm] [] (aj (dm v nm)) []:=by
 obtain⟨ps,hP,ab3,hpl,hnm,hgv⟩:=uM v hr hl
 obtain⟨n,r,hv,_⟩:=bS hr.name hr.one.ne
 obtain⟨p1,p2,p3,p4⟩:=bD hr
 have Rs:n.kind=6:=by rw[hv]at hk;exact hk
 have hN:aJ v=ps.map nameOf:=by
  rcases hnm with h | ⟨n',r',h1,h2⟩
  ·exact h
  ·rw[hv]at h1;cases h1;exact absurd Rs h2
 have Md:jm v=ps.map λp=>(nameOf p,gI p):=by rw[jm,hN,hP,A8]
 obtain⟨hq,_,_,hP2⟩:=bV hr hk
 obtain⟨q,hqe⟩:∃q,q=jm v:=⟨_,rfl⟩
 rw[←hqe]at Md hq hP2
 rw[hP2]at p3
 have JI:q.length=ps.length:=by rw[Md,length_map]
 have ZQ:FE ((gW q nm).map (·.1)) ((gW q nm).map (·.2))=dm v nm:=by rw[A7,dm,hqe]
 refine IV.bR (T:=bA Tryz.prog [(80,kU),(78,qD)]) 1 hD (ay (af rq (af Es au))) bE (by decide) λQ hQ=>?_
 (conv=>arg 4;cbv);simp (maxSteps:=400000) only[↓aG,aH,BEq.rfl,seval,hQ,↓kU]
 refine z_ 107 [.addr (aj v)] (ps.map rowOf) (λi O=>adN nm (gW (q.take i) nm) O∧i≤ps.length) rfl rfl rfl trivial hgv (yo ps) ⟨.inl ⟨by simp[gW],rfl⟩,Nat.zero_le _⟩ (λi O h=>ZX h.1) ?_ ?_
 ·rintro i args O ⟨hO,hi⟩ ha
  obtain⟨p,hpi,rfl⟩:=yt ha
  have hil:=(List.getElem?_eq_some_iff.1 hpi).1
  have hqi:q[i]?=some (nameOf p,gI p):=by rw[Md,List.getElem?_map,hpi];rfl
  have hdt:=Kv hqi nm
  have hkl:(gW (q.take i) nm).length≤i:=by have:=(wZ (q.take i) nm).1;rw[List.length_take]at this;omega
  generalize gW (q.take i) nm=kept at *
  rcases tf (nameOf p=nm) with he | he
  ·rw[if_pos (of_eq_true he),List.append_nil]at hdt
   rcases hO with ⟨rfl,rfl⟩ | ⟨h1,v1,v2,rfl⟩
   ·simp (maxSteps:=400000) only[↓aG,aH,BEq.rfl,seval,hQ,jH,Wl,he]
    exact⟨.inl ⟨hdt,rfl⟩,by omega⟩
   ·simp (maxSteps:=400000) only[↓aG,aH,BEq.rfl,seval,hQ,jH,Wl,he]
    exact⟨.inr ⟨by rw[hdt];exact h1,v1,v2,by rw[hdt];rfl⟩,by omega⟩
  ·rw[if_neg (of_eq_false he)]at hdt
   rcases hO with ⟨rfl,rfl⟩ | ⟨h1,v1,v2,rfl⟩
   ·simp (maxSteps:=400000) only[↓aG,aH,BEq.rfl,seval,hQ,jH,Wl,he]
    exact⟨by decide,.inr ⟨by rw[hdt];simp,1,1,by rw[hdt];rfl⟩,by omega⟩
   ·simp (maxSteps:=400000) only[↓aG,aH,BEq.rfl,seval,hQ,jH,Wl,he]
    exact⟨by omega,by omega,by omega,by omega,by decide,.inr ⟨by rw[hdt];simp,v1+1,v2+1,by rw[hdt];simp only[map_append,List.map_cons,List.map_nil];rfl⟩,by omega⟩
 ·rintro O ⟨hO,_⟩
  rw[length_map,List.take_of_length_le (by omega)]at hO
  have hd:=wZ q nm
  have hne:∀p∈(gW q nm).map (·.2),p≠[]:=λp hp=>by
   obtain⟨x,hx,rfl⟩:=List.mem_map.1 hp
   exact (hq.rt x (jK.1 hx).1).one.ne
  rcases hO with ⟨h1,rfl⟩ | ⟨h1,v1,v2,rfl⟩
  ·simp (maxSteps:=400000) only[↓aG,aH,BEq.rfl,seval,hQ,↓qD,Mc,GR]
   exact⟨by simp,by simp,by rw[←ZQ,h1];exact (sU rfl).symm⟩
  ·simp (maxSteps:=400000) only[↓aG,aH,BEq.rfl,seval,hQ,↓qD,Mc,GR]
   exact⟨by omega,by omega,hne,by rw[ZQ];exact (sU rfl).symm⟩
def nU:d9:=λargs objs K=>match args with
 | [a0,.str nm]=>gD aj a0 (HK.mk:HK λv=>(Rt v)∧(aN v=6)∧(v.length≤1000000)∧K (aj (dm v nm)) objs 0)
 | _=>False
theorem zM:aR Tryz.prog 57 (nU):=by
 intro args objs K h
 unfold nU at h
 split at h
 ·rename_i a0 nm
  obtain⟨v,rfl,h1,h2,h3,hk⟩:=h
  exact⟨_,_,_,.pure _ rfl (Ms v nm h1 h2 h3),hk⟩
 ·exact h.elim
def Ff:d9:=λargs objs K=>match args with
 | [.aS k ver,.int .i64 i,.aS k2 G9]=>∃o,objs[k]?=some o∧o.live=true∧o.ver=ver∧o.sz=1∧o.ty=9∧Nl .str o.xs (HK.mk:HK λl=>∃o2,objs[k2]?=some o2∧o2.live=true∧o2.ver=G9∧o2.sz=1∧¬ k2=k∧Nl .str o2.xs (HK.mk:HK λfs=>∃f,fs=[f]∧
     0≤i∧i.toNat≤l.length∧l.length≤1000000∧K (.aS k (ver+1)) (objs.set k ⟨9,1,(l.take i.toNat++[f]++l.drop i.toNat).map .str,true,ver+1⟩) 2))
 | _=>False
def yB:d9:=λargs objs K=>match args with
 | [.aS k ver,.int .i64 i,.aS k2 G9]=>∃o,objs[k]?=some o∧o.live=true∧o.ver=ver∧o.sz=1∧o.ty=23∧Nl aj o.xs (HK.mk:HK λl=>∃o2,objs[k2]?=some o2∧o2.live=true∧o2.ver=G9∧o2.sz=1∧¬ k2=k∧Nl aj o2.xs (HK.mk:HK λfs=>∃f,fs=[f]∧
     0≤i∧i.toNat≤l.length∧l.length≤1000000∧K (.aS k (ver+1)) (objs.set k ⟨23,1,(l.take i.toNat++[f]++l.drop i.toNat).map aj,true,ver+1⟩) 2))
 | _=>False
theorem Si:aR Tryz.prog 79 Ff:=by
 intro args objs K h
 unfold Ff at h
 split at h
 ·rename_i k ver i k2 G9
  obtain⟨o,h1,h2,h3,h4,h5,l,h6,o2,g1,g2,g3,g4,hkk,fs,g5,f,rfl,h7,h8,h9,h10⟩:=h
  obtain⟨n,rfl⟩:∃n:Nat,i=n:=⟨i.toNat,by omega⟩
  rw[Int.toNat_natCast]at h8 h10
  obtain⟨ty,sz,xs,live,vr⟩:=o
  simp only[]at h2 h3 h4 h5 h6
  subst h2;subst h3;subst h4;subst h5;subst h6
  have hu:=O_ (x:=.str f) (i:=n) (ti:=D 9) (by':=16) adG Pb Pb (hD _) (by intro h;cases h) rfl rfl rfl rfl h1 rfl rfl g1 g2 g3 g4 g5 hkk (λy hy=>by obtain⟨s,_,rfl⟩:=List.mem_map.1 hy;exact⟨rfl,rfl⟩) ⟨rfl,rfl⟩ (by simpa using h8) (by rw[length_map];omega) (by rw[length_map];omega)
  refine⟨_,_,_,.used _ _ hu,?_⟩
  have e:(l.map PV.str).take n++[.str f]++(l.map PV.str).drop n=(l.take n++[f]++l.drop n).map .str:=by simp
  rw[e]
  exact h10
 ·exact h.elim
theorem He:aR Tryz.prog 54 yB:=by
 intro args objs K h
 unfold yB at h
 split at h
 ·rename_i k ver i k2 G9
  obtain⟨o,h1,h2,h3,h4,h5,l,h6,o2,g1,g2,g3,g4,hkk,fs,g5,f,rfl,h7,h8,h9,h10⟩:=h
  obtain⟨n,rfl⟩:∃n:Nat,i=n:=⟨i.toNat,by omega⟩
  rw[Int.toNat_natCast]at h8 h10
  obtain⟨ty,sz,xs,live,vr⟩:=o
  simp only[]at h2 h3 h4 h5 h6
  subst h2;subst h3;subst h4;subst h5;subst h6
  have hu:=O_ (x:=aj f) (i:=n) (ti:=D 23) (by':=24) adJ G_ G_ (hD _) (by intro h;cases h) rfl rfl rfl rfl h1 rfl rfl g1 g2 g3 g4 g5 hkk (λy hy=>by obtain⟨s,_,rfl⟩:=List.mem_map.1 hy;exact⟨rfl,rfl⟩) ⟨rfl,rfl⟩ (by simpa using h8) (by rw[length_map];omega) (by rw[length_map];omega)
  refine⟨_,_,_,.used _ _ hu,?_⟩
  have e:(l.map aj).take n++[aj f]++(l.map aj).drop n=(l.take n++[f]++l.drop n).map aj:=by simp
  rw[e]
  exact h10
 ·exact h.elim
theorem acd:(∀(K:List (List UInt8)→Prop) a,Nl .str [.str a] (HK.mk:HK K)=K [a])∧(∀(K:List Vl→Prop) a,Nl aj [aj a] (HK.mk:HK K)=K [a]):=⟨λK a=>GQ str_inj K [a],λK a=>GQ mQ K [a]⟩
theorem VA(v:Vl)(nm:List UInt8)(x:Vl)(hr:Rt v)(hk:aN v=6)(hl:v.length≤100000)(hu:utf nm=true)(hx:Rt x)(hxl:x.length≤100000):av Tryz.prog 51 [aj v,.str nm,aj x] [] (aj (gT v nm x)) []:=by
 refine Rm.bR (T:=bA Tryz.prog [(57,nU),(76,yA),(52,iG),(77,uW),(79,Ff),(54,yB),(78,qD)]) 1 hD (ay (af zM (af Mr (af uX (af Ji (af Si (af He (af Es au)))))))) bE (by decide) λQ hQ=>?_
 obtain⟨h1,h2,h3,h4⟩:=lH nm hr hk
 obtain⟨hq,hmk,hN,hP⟩:=bV h1 h2
 obtain⟨p1,p2,p3,p4⟩:=bD h1
 rw[h4]at hq hN hP
 have hput:=KU hq (pF _ nm) hu hx
 rw[hN]at p2;rw[hP]at p1 p3
 have hlb:=TR ((gW (jm v) nm).map (·.1)) nm
 rw[length_map]at p1 p2 hlb
 have hsp:=G8 nm x (gW (jm v) nm)
 have hw:gT v nm x=JD (nJ nm x (gW (jm v) nm)):=rfl
 have hris:=hq.rise
 generalize gW (jm v) nm=q at *
 generalize hlo:vS (q.map (·.1)) nm=k at *
 (conv=>arg 4;cbv);simp (maxSteps:=400000) only[↓aG,aH,BEq.rfl,seval,hQ,↓nU,↓yA,↓iG,hN,hP,GI,yZ,↓uW,Mc,GR,hlo,↓Ff,↓yB,↓qD,bW,acd]
 have e1:(q.map (·.1)).take k++[nm]++(q.map (·.1)).drop k=(nJ nm x q).map (·.1):=by rw[hsp];simp
 have e2:(q.map (·.2)).take k++[x]++(q.map (·.2)).drop k=(nJ nm x q).map (·.2):=by rw[hsp];simp
 have hfl:((nJ nm x q).map (·.2)).flatten.length≤1000000:=by
  have:=xM ((r_ nm x q).map (·.2))
  rw[this]
  simp only[List.map_cons,List.flatten_cons,List.length_append]
  omega
 have hne:∀p∈(nJ nm x q).map (·.2),p≠[]:=λp hp=>by
  obtain⟨y,hy,rfl⟩:=List.mem_map.1 hp
  exact (hput.rt y hy).one.ne
 refine⟨hr,hk,by omega,h1,h2,by omega,h1,by omega,hris,by omega,nm,rfl,by omega,by omega,by omega,x,rfl,by omega,by omega,by omega,by simp,by simp;omega,?_,?_,?_⟩
 ·rw[e2];exact hfl
 ·rw[e2];exact hne
 ·rw[e1,e2,A7,hw];exact (sU rfl).symm
def nV:d9:=λargs objs K=>match args with
 | [a0,.str nm,a2]=>gD aj a0 (HK.mk:HK λv=>gD aj a2 (HK.mk:HK λx=>(Rt v)∧(aN v=6)∧(v.length≤100000)∧(utf nm=true)∧(Rt x)∧(x.length≤100000)∧K (aj (gT v nm x)) objs 0))
 | _=>False
theorem zN:aR Tryz.prog 51 (nV):=by
 intro args objs K h
 unfold nV at h
 split at h
 ·rename_i a0 nm a2
  obtain⟨v,rfl,x,rfl,h1,h2,h3,h4,h5,h6,hk⟩:=h
  exact⟨_,_,_,.pure _ rfl (VA v nm x h1 h2 h3 h4 h5 h6),hk⟩
 ·exact h.elim
end Lp
namespace Lp
open Go Go.Proofs
def zO(l:List Vl):List (List PV):=(List.range l.length).map λj=>[.int .i64 ((l.length-1-j:Nat):Int),aj (l.getD (l.length-1-j) [])]
theorem p_(l:List Vl):(zO l).length=l.length:=by simp[zO]
theorem Dz(l:List Vl):∀y∈zO l,y.length=2:=by
 intro y hy
 obtain⟨j,_,rfl⟩:=List.mem_map.1 hy
 rfl
theorem Ky{l:List Vl}{j:Nat}(h:j<l.length):(zO l)[j]?=some [.int .i64 ((l.length-1-j:Nat):Int),aj (l.getD (l.length-1-j) [])]:=by
 simp only[zO,List.getElem?_map,List.getElem?_range h,Option.map_some]
theorem Hf{l:List Vl}{j:Nat}{args:List PV}(h:(zO l)[j]?=some args):j<l.length∧args=[.int .i64 ((l.length-1-j:Nat):Int),aj (l.getD (l.length-1-j) [])]:=by
 have hj:j<l.length:=by rw[←p_ l];exact (List.getElem?_eq_some_iff.1 h).1
 rw[Ky hj]at h
 exact⟨hj,(Option.some.inj h).symm⟩
theorem Jj(l:List Vl):av Tryz.prog 95 [bT l] [] (.fn 120 [] [.addr (bT l)]) []:=by
 refine kP.bR (T:=bA Tryz.prog []) 1 hD (ay au) bE (by decide) λQ hQ=>?_
 (conv=>arg 4;cbv);simp (maxSteps:=400000) only[↓aA,aB,BEq.rfl,seval,hQ]
 rfl
def gU:d9:=λargs objs K=>match args with
 | [a0]=>gD bT a0 (HK.mk:HK λl=>K (.fn 120 [] [.addr (bT l)]) objs 0)
 | _=>False
theorem w_:aR Tryz.prog 95 (gU):=by
 intro args objs K h
 unfold gU at h
 split at h
 ·rename_i a0
  obtain⟨l,rfl,hk⟩:=h
  exact⟨_,_,_,.pure _ rfl (Jj l),hk⟩
 ·exact h.elim
theorem oZ(l:List Vl)(hl:l.length≤1000000):Gives Tryz.prog 120 [.addr (bT l)] (zO l):=by
 refine jV.gives (fnT:=lu []) hD au bE ?_
 intro I J objs y hI je jB
 (conv=>arg 4;cbv);simp (maxSteps:=400000) only[↓aA,aB,BEq.rfl,seval]
 refine⟨⟨by omega,by omega⟩,?_⟩
 refine aQ (λm S=>∃(i:Nat) (j:Int) (O:List Obj),i+m=l.length∧j=(l.length:Int)-1-i∧I i O∧S=⟨dD 19 [(0,.qI y),(1,.addr (bT l)),(3,.int .i64 j)],O⟩) l.length ⟨0,_,objs,by omega,rfl,hI,?_⟩ ?_
 ·simp only[cB,keepR,Nat.reduceAdd,oO,Nat.reduceBEq,List.map_nil]
  simp
 rintro m S ⟨i,j,O,him,hj,hIi,rfl⟩
 rcases Nat.lt_or_ge i l.length with h | h
 ·have h1:(0≤j)=True:=eq_true (by omega)
  have h3:j.toNat=l.length-1-i:=by omega
  have h4:l[l.length-1-i]?=some (l.getD (l.length-1-i) []):=by
   rw[List.getElem?_eq_getElem (by omega),List.getD_eq_getElem?_getD,List.getElem?_eq_getElem (by omega)];rfl
  have h5:=Ky h
  generalize hv:l.getD (l.length-1-i) []=v at h4 h5
  simp (maxSteps:=400000) only[↓aA,aB,BEq.rfl,seval,h1,h3,h4,Iq]
  rw[show ((l.length-1-i:Nat):Int)=j by omega]at h5
  refine⟨rfl,i,hIi,h5,λO' hI'=>?_,λO' hJ'=>⟨.inr rfl,.inr ⟨i,by rw[p_];exact h,hJ'⟩⟩⟩
  exact⟨⟨by omega,by omega⟩,m-1,by omega,i+1,_,O',by omega,by omega,hI',rfl⟩
 ·have h1:(0≤j)=False:=eq_false (by omega)
  simp (maxSteps:=400000) only[↓aA,aB,BEq.rfl,seval,h1]
  exact⟨.inl rfl,.inl (by rw[p_,show l.length=i by omega];exact hIi)⟩
end Lp
namespace Lp
open Go
def fQ(x:Vl):List Vl→List Int→List Int
 | [],_=>[0]
 | y::ys,nx=>(if x=y then nx.getD 1 0+1 else max (nx.getD 0 0) ((fQ x ys nx.tail).getD 0 0))::fQ x ys nx.tail
def a_:List Vl→List Vl→List (List Int)
 | [],now=>[List.replicate (now.length+1) 0]
 | x::xs,now=>fQ x now ((a_ xs now).headD [])::a_ xs now
theorem lI(x:Vl):∀(now:List Vl) (nx:List Int),(fQ x now nx).length=now.length+1
 | [],_=>rfl
 | y::ys,nx=>by simp[fQ,lI x ys]
theorem jY:∀old now:List Vl,(a_ old now).length=old.length+1
 | [],_=>rfl
 | x::xs,now=>by simp[a_,jY xs]
theorem rC:∀old now:List Vl,∃r rs,a_ old now=r::rs∧r.length=now.length+1
 | [],now=>⟨_,_,rfl,by simp⟩
 | x::xs,now=>⟨_,_,rfl,lI ..⟩
theorem uY:∀(old now:List Vl) (r:List Int),r∈a_ old now→r.length=now.length+1
 | [],now,r,h=>by simp[a_]at h;subst h;simp
 | x::xs,now,r,h=>by
  simp only[a_,List.mem_cons]at h
  rcases h with rfl | h
  ·exact lI ..
  ·exact uY xs now r h
theorem jZ:∀(old now:List Vl) (i:Nat),i≤old.length→(a_ old now).drop i=a_ (old.drop i) now
 | [],now,i,h=>by simp at h;subst h;rfl
 | x::xs,now,0,h=>rfl
 | x::xs,now,i+1,h=>by
  simp only[List.length_cons]at h
  simp only[a_,List.drop_succ_cons]
  exact jZ xs now i (by omega)
def Le(b:Int)(l:List Int):Prop:=∀x∈l,0≤x∧x≤b
theorem Le.getD {b:Int}{l:List Int}(h:Le b l)(hb:0≤b)(i:Nat):0≤l.getD i 0∧l.getD i 0≤b:=by
 rw[List.getD_eq_getElem?_getD]
 cases hx:l[i]? with
 | none=>exact⟨Int.le_refl _,hb⟩
 | some x=>exact h x (List.mem_of_getElem? hx)
theorem DC(x:Vl){b:Int}(hb:0≤b):∀(now:List Vl) (nx:List Int),Le b nx→Le (b+1) (fQ x now nx)
 | [],_,_=>by intro z hz;simp[fQ]at hz;subst hz;omega
 | y::ys,nx,h=>by
  have ht:Le b nx.tail:=λz hz=>h z (List.mem_of_mem_tail hz)
  have hr:=DC x hb ys nx.tail ht
  intro z hz
  simp only[fQ,List.mem_cons]at hz
  rcases hz with rfl | hz
  ·have h0:=h.getD hb 0
   have h1:=h.getD hb 1
   have h2:=hr.getD (by omega) 0
   split<;>omega
  ·exact hr z hz
theorem yC:∀(old now:List Vl) (r:List Int),r∈a_ old now→Le old.length r
 | [],now,r,h=>by
  simp only[a_,List.mem_singleton]at h
  subst h
  intro z hz
  rw[List.mem_replicate]at hz
  simp[hz.2]
 | x::xs,now,r,h=>by
  simp only[a_,List.mem_cons]at h
  rcases h with rfl | h
  ·obtain⟨r0,rs,e,_⟩:=rC xs now
   have h0:=yC xs now r0 (by rw[e];exact List.mem_cons_self ..)
   rw[e]
   have:=DC x (Int.natCast_nonneg xs.length) now r0 h0
   intro z hz
   have:=this z hz
   simp only[List.length_cons]
   omega
  ·intro z hz
   have:=yC xs now r h z hz
   simp only[List.length_cons]
   omega
def ni:Nat→List Int→Nat→Nat→Nat→List Int
 | 0,out,_,_,_=>out
 | m+1,out,i,k,a=>if i<a then ni m (out.set k i) (i+1) (k+1) a else out
theorem qE:∀(m:Nat) (out:List Int) (i k a:Nat),(ni m out i k a).length=out.length
 | 0,_,_,_,_=>rfl
 | m+1,out,i,k,a=>by
  simp only[ni]
  split
  ·rw[qE m];simp
  ·rfl
def rD(t:List (List Int))(a b:Nat):Int:=(t.getD a []).getD b 0
def kI(old now:List Vl):Nat→Nat→Nat→Nat→Nat→List Int→List Int×Nat×Nat
 | 0,_,_,i,k,R=>(R,i,k)
 | f+1,a,b,i,k,R=>
  if a<old.length∧b<now.length then
   if old.getD a []=now.getD b [] then kI old now f (a+1) (b+1) (a+1) (b+1) ((ni (b-k) R i k a).set b a)
   else if rD (a_ old now) a (b+1)≤rD (a_ old now) (a+1) b then kI old now f (a+1) b i k R
   else kI old now f a (b+1) i k R
  else (R,i,k)
theorem yD{old now:List Vl}:∀(f g:Nat){a b i k:Nat}{R:List Int},(old.length-a)+(now.length-b)≤f→(old.length-a)+(now.length-b)≤g→kI old now f a b i k R=kI old now g a b i k R
 | 0,0,a,b,i,k,R,_,_=>rfl
 | 0,g+1,a,b,i,k,R,h,_=>by rw[kI,kI,if_neg (by omega)]
 | f+1,0,a,b,i,k,R,_,h=>by rw[kI,kI,if_neg (by omega)]
 | f+1,g+1,a,b,i,k,R,h1,h2=>by
  rw[kI,kI]
  split
  ·split
   ·exact yD f g (by omega) (by omega)
   ·split
    ·exact yD f g (by omega) (by omega)
    ·exact yD f g (by omega) (by omega)
  ·rfl
def dR(old now:List Vl):List Int:=
 match kI old now (old.length+now.length) 0 0 0 0 (List.replicate now.length (-1)) with
 | (R,i,k)=>ni (now.length-k) R i k old.length
theorem Cc{old now:List Vl}:∀(f a b i k:Nat) (R:List Int),(kI old now f a b i k R).1.length=R.length
 | 0,_,_,_,_,_=>rfl
 | f+1,a,b,i,k,R=>by
  rw[kI]
  split
  ·split
   ·rw[Cc f,List.length_set,qE]
   ·split
    ·exact Cc f ..
    ·exact Cc f ..
  ·rfl
theorem sV(old now:List Vl):(dR old now).length=now.length:=by
 have h:=Cc (old:=old) (now:=now) (old.length+now.length) 0 0 0 0 (List.replicate now.length (-1))
 rw[dR]
 generalize kI old now (old.length+now.length) 0 0 0 0 (List.replicate now.length (-1))=x at h
 obtain⟨R,i,k⟩:=x
 show (ni _ R i k _).length=_
 rw[qE]
 simpa using h
def InP(n:Nat)(R:List Int):Prop:=∀z∈R,-1≤z∧z<n
theorem InP.set {n:Nat}{R:List Int}(h:InP n R){k i:Nat}(hi:i<n):InP n (R.set k i):=λz hz=>by
 rcases List.mem_or_eq_of_mem_set hz with h1 | h1
 ·exact h z h1
 ·subst h1;omega
theorem Mt{n:Nat}:∀(m:Nat){R:List Int}(i k:Nat){a:Nat},InP n R→a≤n→InP n (ni m R i k a)
 | 0,_,_,_,_,h,_=>h
 | m+1,R,i,k,a,h,ha=>by
  rw[ni]
  split
  ·exact Mt m _ _ (h.set (by omega)) ha
  ·exact h
theorem Fg{old now:List Vl}:∀(f a b i k:Nat){R:List Int},InP old.length R→InP old.length (kI old now f a b i k R).1
 | 0,_,_,_,_,_,h=>h
 | f+1,a,b,i,k,R,h=>by
  rw[kI]
  split
  ·rename_i hab
   split
   ·exact Fg f _ _ _ _ ((Mt _ _ _ h (by omega)).set (by omega))
   ·split
    ·exact Fg f _ _ _ _ h
    ·exact Fg f _ _ _ _ h
  ·exact h
theorem sW(old now:List Vl):InP old.length (dR old now):=by
 have h:=Fg (old:=old) (now:=now) (old.length+now.length) 0 0 0 0 (R:=List.replicate now.length (-1)) λz hz=>by
  rw[(List.mem_replicate.1 hz).2];omega
 rw[dR]
 generalize kI old now (old.length+now.length) 0 0 0 0 (List.replicate now.length (-1))=x at h
 obtain⟨R,i,k⟩:=x
 exact Mt _ _ _ h (Nat.le_refl _)
end Lp
namespace Lp
open Go Go.Proofs
open List (length_drop length_replicate map_nil map_set mem_singleton replicate_succ')
open Nat (sub_self zero_le)
theorem xg:(∀z xs q v,(PV.sl z xs q).putCells 0 [v]=v)∧(∀k u v,(PV.aS k u).putCells 0 [v]=v)∧(∀k n v,(PV.int k n).putCells 0 [v]=v):=⟨λ_ _ _ _=>rfl,λ_ _ _=>rfl,λ_ _ _=>rfl⟩
theorem adO{d n k v i f:Nat}{O:List Obj}(h:k<n):fA d n O (.bf k v i f)=.bf k v i f:=by simp only[fA,if_pos h]
theorem Pf{d n k v:Nat}{O:List Obj}(h:k<n):fA d n O (.aS k v)=.aS k v:=by simp only[fA,if_pos h]
theorem ZY{U:List PV}(hU:∀x∈U,∃z xs q,x=.sl z xs q)(p:Nat){n k v:Nat}{row:List Int}{O:List Obj}{ty:TypeId}(hk:n≤k)(ho:O[k]?=some ⟨ty,1,row.map (.int .i64),true,v⟩) :
  (U.set p (.aS k v)).map (PV.bJ (fA 1 n O))=U.set p (encI row):=by
 rw[map_set]
 have h1:U.map (PV.bJ (fA 1 n O))=U:=by
  conv=>rhs;rw[←List.map_id U]
  refine List.map_congr_left λx hx=>?_
  obtain⟨z,xs,q,rfl⟩:=hU x hx
  rfl
 have h2:PV.bJ (fA 1 n O) (.aS k v)=encI row:=by
  show fA 1 n O (.aS k v)=_
  simp only[fA,if_neg (Nat.not_lt.2 hk),kD,ho,hk,decide_true,Bool.and_self,BEq.rfl,if_true,List.map_map]
  unfold encI
  congr 1
 rw[h1,h2]
theorem Ce{U:List PV}(hU:∀x∈U,∃z xs q,x=.sl z xs q)(p:Nat){n k v:Nat}{row:List Int}{O:List Obj}{ty:TypeId}(hk:n≤k)(ho:O[k]?=some ⟨ty,1,row.map (.int .i64),true,v⟩)(a b:Nat) :
  eO 1 n O ⟨a,b,U.set p (.aS k v),true,1⟩=⟨a,b,U.set p (encI row),true,1⟩:=by
 simp only[eO,ZY hU p hk ho]
theorem XY{d n:Nat}{O:List Obj}(t:TypeId)(l:List Vl):eO d n O ⟨t,1,[bT l],true,1⟩=⟨t,1,[bT l],true,1⟩:=rfl
theorem TT{d n k v:Nat}{O:List Obj}(t:TypeId)(h:k<n):eO d n O ⟨t,1,[.aS k v],true,1⟩=⟨t,1,[.aS k v],true,1⟩:=by
 simp only[eO,List.map_cons,map_nil,PV.bJ,fA,if_pos h]
theorem Fh(n:Nat):∀x∈List.replicate n (PV.sl 0 [] (some true)),∃z xs q,x=PV.sl z xs q:=λx hx=>⟨_,_,_,(List.mem_replicate.1 hx).2⟩
def uZ(old now:List Vl)(N i:Nat):List PV:=List.replicate (N-(i+1)) (.sl 0 [] (some true))++((a_ old now).drop (N-(i+1))).map encI
def XZ(U:List PV)(now:List Vl):List Obj:=[⟨64,1,[bT now],true,1⟩,⟨80,1,U,true,1⟩,⟨114,1,[.aS 1 1],true,1⟩]
theorem TU(old now:List Vl)(N i:Nat):∀x∈uZ old now N i,∃z xs q,x=PV.sl z xs q:=by
 intro x hx
 rcases List.mem_append.1 hx with h | h
 ·exact Fh _ x h
 ·obtain⟨r,_,rfl⟩:=List.mem_map.1 h
  exact⟨_,_,_,rfl⟩
theorem Z0{U:List PV}(now:List Vl)(h:∀x∈U,∃z xs q,x=PV.sl z xs q):bI (XZ U now):=by
 intro o ho x hx c hc
 simp only[XZ,List.mem_cons,List.not_mem_nil,or_false]at ho
 rcases ho with rfl | rfl | rfl
 ·simp only[mem_singleton]at hx;subst hx
  simp only[bT,PV.cells,mem_singleton]at hc;subst hc;rfl
 ·obtain⟨z,xs,q,rfl⟩:=h x hx
  simp only[PV.cells,mem_singleton]at hc;subst hc;rfl
 ·simp only[mem_singleton]at hx;subst hx
  simp only[PV.cells,mem_singleton]at hc;subst hc;rfl
def oI(x:Vl)(now:List Vl)(nx:List Int)(q:Nat):List Int:=List.replicate q 0++fQ x (now.drop q) (nx.drop q)
theorem Pg(x:Vl)(now:List Vl)(nx:List Int){q:Nat}(h:q≤now.length):(oI x now nx q).length=now.length+1:=by
 simp only[oI,List.length_append,length_replicate,lI,length_drop];omega
theorem Ph(x:Vl)(now:List Vl)(nx:List Int):oI x now nx now.length=List.replicate (now.length+1) 0:=by
 simp only[oI,List.drop_length,fQ]
 rw[replicate_succ']
theorem Kz(x y:Vl){now:List Vl}{nx:List Int}{q:Nat}(hy:now[q]?=some y){b:Int}(hb:0≤b)(hn:Le b nx):∃c,(oI x now nx (q+1))[q]?=some 0∧(oI x now nx (q+1))[q+1]?=some c∧0≤c∧c≤b+1∧
  (oI x now nx (q+1)).set q (if x=y then nx.getD (q+1) 0+1 else max (nx.getD q 0) c)=oI x now nx q:=by
 have hq:q<now.length:=(List.getElem?_eq_some_iff.1 hy).1
 have hd:now.drop q=y::now.drop (q+1):=by
  rw[List.drop_eq_getElem_cons hq,(List.getElem?_eq_some_iff.1 hy).2]
 have hr:(fQ x (now.drop (q+1)) (nx.drop (q+1))).length=now.length-q:=by
  rw[lI,length_drop];omega
 have hle:=DC x hb (now.drop (q+1)) (nx.drop (q+1)) λz hz=>hn z (List.mem_of_mem_drop hz)
 have hc:=hle.getD (by omega) 0
 refine⟨(fQ x (now.drop (q+1)) (nx.drop (q+1))).getD 0 0,?_,?_,hc.1,hc.2,?_⟩
 ·rw[oI,List.getElem?_append_left (by simp),List.getElem?_replicate,if_pos (by omega)]
 ·rw[oI,List.getElem?_append_right (by simp),length_replicate,sub_self,List.getD_eq_getElem?_getD,List.getElem?_eq_getElem (by omega)];rfl
 ·have e1:(nx.drop q).getD 1 0=nx.getD (q+1) 0:=by simp[List.getD_eq_getElem?_getD]
  have e0:(nx.drop q).getD 0 0=nx.getD q 0:=by simp[List.getD_eq_getElem?_getD]
  have et:(nx.drop q).tail=nx.drop (q+1):=by rw[List.tail_drop]
  rw[oI,oI,hd,fQ,e1,e0,et,replicate_succ',List.append_assoc,List.set_append_right _ _ (by simp),length_replicate,sub_self]
  rfl
def Jk(W:List PV)(now:List Vl)(p:Int)(x:Vl)(R:List Int):List Obj:=[⟨64,1,[bT now],true,1⟩,⟨80,1,W,true,1⟩,⟨114,1,[.aS 1 1],true,1⟩,⟨3,1,[.int .i64 p],true,1⟩,⟨23,1,[aj x],true,1⟩,⟨3,1,R.map (.int .i64),true,1⟩]
theorem adP(l:List (FuncId×d9))(n m:Nat):((((bA Tryz.prog l).inner n).inner m).fn=lu l)∧((((bA Tryz.prog l).inner n).inner m).QW.fn=lu l)∧((((bA Tryz.prog l).inner n).inner m).nx=m):=⟨rfl,rfl,rfl⟩
theorem X0(old now:List Vl){i:Nat}(hi:i≤old.length):(uZ old now (old.length+1) i).length=old.length+1:=by
 simp only[uZ,List.length_append,length_replicate,List.length_map,length_drop,jY];omega
theorem VB(old now:List Vl):uZ old now (old.length+1) 0=(List.replicate (old.length+1) (PV.sl 0 [] (some true))).set old.length (encI (List.replicate (now.length+1) 0)):=by
 rw[uZ,show old.length+1-(0+1)=old.length by omega,jZ _ _ _ (Nat.le_refl _),List.drop_length,replicate_succ',List.set_append_right _ _ (by simp),length_replicate,sub_self]
 rfl
theorem X3(old now:List Vl):uZ old now (old.length+1) old.length=(a_ old now).map encI:=by
 rw[uZ,sub_self];rfl
theorem VD(old now:List Vl){i p:Nat}(hi:i<old.length)(hp:p=old.length-1-i):(uZ old now (old.length+1) i)[p]?=some (.sl 0 [] (some true))∧∃nx,(uZ old now (old.length+1) i)[p+1]?=some (encI nx)∧nx.length=now.length+1∧Le old.length nx∧
  (uZ old now (old.length+1) i).set p (encI (oI (old.getD p []) now nx 0))=uZ old now (old.length+1) (i+1):=by
 have h1:old.length+1-(i+1)=p+1:=by omega
 have h2:old.length+1-(i+1+1)=p:=by omega
 obtain⟨nx,rs,e,hl⟩:=rC (old.drop (p+1)) now
 have e':(a_ old now).drop (p+1)=nx::rs:=by rw[jZ _ _ _ (by omega),e]
 have hm:nx∈a_ old now:=List.mem_of_mem_drop (by rw[e'];exact List.mem_cons_self ..)
 have hx:old.drop p=old.getD p []::old.drop (p+1):=by
  rw[List.drop_eq_getElem_cons (by omega),List.getD_eq_getElem?_getD,List.getElem?_eq_getElem (by omega)];rfl
 have e2:(a_ old now).drop p=fQ (old.getD p []) now nx::nx::rs:=by
  rw[jZ _ _ _ (by omega),hx,a_,e];rfl
 refine⟨?_,nx,?_,hl,yC _ _ _ hm,?_⟩
 ·rw[uZ,h1,List.getElem?_append_left (by simp),List.getElem?_replicate,if_pos (by omega)]
 ·rw[uZ,h1,e',List.getElem?_append_right (by simp),length_replicate,sub_self];rfl
 ·rw[uZ,uZ,h1,h2,e',e2,replicate_succ',List.append_assoc,List.set_append_right _ _ (by simp),length_replicate,sub_self]
  simp only[oI,List.drop_zero,List.replicate_zero,List.nil_append,List.map_cons]
  rfl
theorem Z4{W:List PV}(now:List Vl)(p:Int)(x:Vl)(R:List Int)(h:∀y∈W,(∃z xs q,y=PV.sl z xs q)∨y=.aS 5 1):bI (Jk W now p x R):=by
 intro o ho y hy c hc
 simp only[Jk,List.mem_cons,List.not_mem_nil,or_false]at ho
 rcases ho with rfl | rfl | rfl | rfl | rfl | rfl
 ·simp only[mem_singleton]at hy;subst hy
  simp only[bT,PV.cells,mem_singleton]at hc;subst hc;rfl
 ·rcases h y hy with ⟨z,xs,q,rfl⟩ | rfl
  all_goals simp only[PV.cells,mem_singleton]at hc;subst hc;rfl
 ·simp only[mem_singleton]at hy;subst hy
  simp only[PV.cells,mem_singleton]at hc;subst hc;rfl
 ·simp only[mem_singleton]at hy;subst hy
  simp only[PV.cells,mem_singleton]at hc;subst hc;rfl
 ·simp only[mem_singleton]at hy;subst hy
  simp only[aj,PV.cells,mem_singleton]at hc;subst hc;rfl
 ·obtain⟨z,_,rfl⟩:=List.mem_map.1 hy
  simp only[PV.cells,mem_singleton]at hc;subst hc;rfl
theorem Sj(old now:List Vl)(ho:old.length≤1000000)(hn:now.length≤1000000)(hlo:∀v∈old,v.length≤1000000)(hln:∀v∈now,v.length≤1000000) :
  av Tryz.prog 119 [bT old,bT now] [] (yY (a_ old now)) []:=by
 obtain⟨N,hN⟩:∃N,N=old.length+1:=⟨_,rfl⟩
 obtain⟨M,hM⟩:∃M,M=now.length+1:=⟨_,rfl⟩
 have hN1:((old.length:Int)+1).toNat=N:=by omega
 have hM1:((now.length:Int)+1).toNat=M:=by omega
 have z1:(0≤(old.length:Int))=True:=eq_true (by omega)
 have hlt:((old.length:Int)<(N:Int))=True:=eq_true (by omega)
 have hg:(List.replicate N (PV.sl 0 [] (some true)))[old.length]?=some (.sl 0 [] (some true)):=by rw[List.getElem?_replicate,if_pos (by omega)]
 refine IW.bR (T:=bA Tryz.prog [(95,gU),(65,dF)]) 1 hD (ay (af w_ (af rQ au))) bE (by decide) λQ hQ=>?_
 (conv=>arg 4;cbv);simp (maxSteps:=400000) only[↓aA,aB,BEq.rfl,seval,hQ,↓gU,xg,hN1,hM1,z1,hlt,hg,length_replicate]
 refine⟨⟨by omega,by omega⟩,by omega,by omega,by omega,by omega,⟨by omega,by omega⟩,by omega,by omega,by omega,by omega,by decide,?_⟩
 refine bg _ (Weak.norm [true,false,false,true,false,true] (some (1,3)) (zero_le _) _) ?_
 simp only[cB,keepR,Nat.reduceAdd,oO,Nat.reduceBEq,map_nil]
 have hr0:List.replicate M (PV.int .i64 0)=(List.replicate M (0:Int)).map (.int .i64):=by rw[List.map_replicate]
 rw[hr0]
 have hfr:=Ce (Fh N) old.length (n:=3) (k:=3) (v:=1) (row:=List.replicate M (0:Int)) (O:=[⟨64,1,[bT now],true,1⟩,⟨80,1,(List.replicate N (PV.sl 0 [] (some true))).set old.length (.aS 3 1),true,1⟩,⟨114,1,[PV.aS 1 1],true,1⟩,⟨3,1,(List.replicate M (0:Int)).map (.int .i64),true,1⟩]) (ty:=3) (Nat.le_refl _) rfl 80 1
 simp (maxSteps:=400000) only[↓aA,aB,BEq.rfl,seval,hQ,↓gU,adO,Pf,List.take_succ_cons,hfr,XY,TT]
 have X4:uZ old now N 0=(List.replicate N (PV.sl 0 [] (some true))).set old.length (encI (List.replicate M 0)):=by
  rw[hN,hM];exact VB old now
 refine z_ 120 [.addr (bT old)] (zO old) (λi O=>i≤old.length∧O=XZ (uZ old now N i) now) rfl rfl rfl (Nat.le_refl _) (oZ old ho) (Dz old) ⟨zero_le _,by rw[X4];rfl⟩ ?_ ?_ ?_
 ·rintro i O ⟨_,rfl⟩
  exact⟨Nat.le_refl _,Z0 now (TU _ _ _ _)⟩
 ·rintro i args O ⟨hi,rfl⟩ ha
  obtain⟨hil,rfl⟩:=Hf ha
  obtain⟨p,hp⟩:∃p,p=old.length-1-i:=⟨_,rfl⟩
  rw[←hp]
  have hxm:old.getD p []∈old:=by
   rw[List.getD_eq_getElem?_getD,List.getElem?_eq_getElem (by omega)];exact List.getElem_mem _
  have hUs:=TU old now N i
  have hUl:(uZ old now N i).length=N:=by rw[hN];exact X0 old now hi
  obtain⟨X4,VE⟩:=VD old now hil hp
  rw[←hN]at X4 VE
  generalize hxe:old.getD p []=x at hxm VE
  obtain⟨nx,VE,hnl,hnb,hUe⟩:=VE
  have hxl:=hlo x hxm
  have hnb':Le 1000000 nx:=λz hz=>⟨(hnb z hz).1,by have:=(hnb z hz).2;omega⟩
  generalize uZ old now N i=U at hUs hUl X4 VE hUe
  have hpl:((p:Int)<(N:Int))=True:=eq_true (by omega)
  have zp:(0≤(p:Int))=True:=eq_true (by omega)
  simp (maxSteps:=400000) only[↓aA,aB,BEq.rfl,seval,hQ,jH,Wl,XZ,↓gU,hM1,zp,hpl,X4,hUl,xg,Int.toNat_natCast]
  refine⟨⟨by omega,by omega⟩,by omega,by omega,by omega,by omega,by decide,?_⟩
  have hW0:(U.set p (.aS 5 1))[p]?=some (.aS 5 1):=by rw[List.getElem?_set_self (by omega)]
  have hW1:(U.set p (.aS 5 1))[p+1]?=some (encI nx):=by rw[List.getElem?_set_ne (by omega)];exact VE
  have hWl:(U.set p (.aS 5 1)).length=N:=by rw[List.length_set];exact hUl
  have hWs:∀y∈U.set p (.aS 5 1),(∃z xs q,y=PV.sl z xs q)∨y=.aS 5 1:=λy hy=>by
   rcases List.mem_or_eq_of_mem_set hy with h | h
   ·exact .inl (hUs y h)
   ·exact .inr h
  have X5:((p:Int)+1<(N:Int))=True:=eq_true (by omega)
  have zp1:(0≤(p:Int)+1)=True:=eq_true (by omega)
  have hp1:((p:Int)+1).toNat=p+1:=by omega
  refine z_ 120 [.addr (bT now)] (zO now) (λk O=>k≤now.length∧O=Jk (U.set p (.aS 5 1)) now p x (oI x now nx (now.length-k))) rfl rfl rfl trivial (oZ now hn) (Dz now) ⟨zero_le _,by rw[Nat.sub_zero,Ph,←hM,Jk,List.map_replicate]⟩ ?_ ?_ ?_
  ·rintro k O ⟨_,rfl⟩
   exact⟨by simp[Jk],Z4 _ _ _ _ hWs⟩
  ·generalize U.set p (.aS 5 1)=W at hW0 hW1 hWl
   rintro k args O ⟨hk,rfl⟩ ha
   obtain⟨hkl,rfl⟩:=Hf ha
   obtain⟨q,hq⟩:∃q,q=now.length-1-k:=⟨_,rfl⟩
   rw[←hq]
   have hq1:now.length-k=q+1:=by omega
   have hq2:now.length-(k+1)=q:=by omega
   rw[hq1]
   have hy:now[q]?=some (now.getD q []):=by
    rw[List.getD_eq_getElem?_getD,List.getElem?_eq_getElem (by omega)];rfl
   have hym:now.getD q []∈now:=List.mem_of_getElem? hy
   generalize now.getD q []=y at hy hym
   have hyl:=hln y hym
   obtain⟨c,hR0,Nj,hc0,hc1,hRs⟩:=Kz x y (nx:=nx) hy (by decide:(0:Int)≤1000000) hnb'
   have hRl:=Pg x now nx (q:=q+1) (by omega)
   have g0:nx[q]?=some (nx.getD q 0):=by
    rw[List.getD_eq_getElem?_getD,List.getElem?_eq_getElem (by omega)];rfl
   have g1:nx[q+1]?=some (nx.getD (q+1) 0):=by
    rw[List.getD_eq_getElem?_getD,List.getElem?_eq_getElem (by omega)];rfl
   have ha0:=hnb'.getD (by decide) q
   have ha1:=hnb'.getD (by decide) (q+1)
   have JI:((q:Int)<((now.length+1:Nat):Int))=True:=eq_true (by omega)
   have X6:((q:Int)+1<((now.length+1:Nat):Int))=True:=eq_true (by omega)
   have zq:(0≤(q:Int))=True:=eq_true (by omega)
   have zq1:(0≤(q:Int)+1)=True:=eq_true (by omega)
   have hq3:((q:Int)+1).toNat=q+1:=by omega
   generalize nx.getD q 0=a0 at g0 ha0 hRs
   generalize nx.getD (q+1) 0=a1 at g1 ha1 hRs
   generalize hRg:oI x now nx (q+1)=R at hR0 Nj hRs hRl
   by_cases hxy:x=y
   ·have hxy':=eq_true hxy
    rw[if_pos hxy]at hRs
    simp (maxSteps:=400000) only[↓aA,aB,BEq.rfl,seval,hQ,jH,adP,Jk,↓dF,hxy',zp,zp1,hp1,hpl,X5,hWl,hW0,hW1,zq,zq1,hq3,JI,X6,hR0,Nj,hRl,g0,g1,xg,Int.toNat_natCast]
    refine⟨hxl,hyl,⟨by omega,by omega⟩,⟨by omega,by omega⟩,⟨by omega,by omega⟩,by decide,by omega,?_⟩
    show _=(_:List Obj)
    rw[hq2,←hRs,map_set]
    rfl
   ·have hxy':=eq_false hxy
    rw[if_neg hxy]at hRs
    simp (maxSteps:=400000) only[↓aA,aB,BEq.rfl,seval,hQ,jH,adP,Jk,↓dF,hxy',zp,zp1,hp1,hpl,X5,hWl,hW0,hW1,zq,zq1,hq3,JI,X6,hR0,Nj,hRl,g0,g1,xg,Int.toNat_natCast]
    refine⟨hxl,hyl,⟨by omega,by omega⟩,⟨by omega,by omega⟩,by decide,by omega,?_⟩
    show _=(_:List Obj)
    rw[hq2,←hRs,map_set]
    have hmx:(if c > a0 then c else a0)=max a0 c:=by split<;>omega
    rw[hmx]
    rfl
  ·rintro O ⟨_,rfl⟩
   rw[p_,sub_self]
   have hfr:=Ce hUs p (n:=3) (k:=5) (v:=1) (row:=oI x now nx 0) (O:=Jk (U.set p (.aS 5 1)) now p x (oI x now nx 0)) (ty:=3) (by omega) rfl 80 1
   simp only[Jk]at hfr
   simp (maxSteps:=400000) only[↓aA,aB,BEq.rfl,seval,hQ,Jk,List.take_succ_cons,hfr,XY,TT]
   refine⟨by omega,?_⟩
   show [eO 1 3 _ _,eO 1 3 _ _,eO 1 3 _ _]=_
   rw[XY,TT _ (by decide)]
   exact congrArg (λz=>[_,z,_]) (hfr.trans (by rw[hUe]))
 ·rintro O ⟨_,rfl⟩
  rw[p_,hN,X3]
  simp (maxSteps:=400000) only[↓aA,aB,BEq.rfl,seval,hQ,XZ,(iE hG inG).2.1]
def Cf:d9:=λargs objs K=>match args with
 | [a0,a1]=>gD bT a0 (HK.mk:HK λa=>gD bT a1 (HK.mk:HK λb=>(a.length≤1000000)∧(b.length≤1000000)∧(∀v∈a,v.length≤1000000)∧(∀v∈b,v.length≤1000000)∧K (yY (a_ a b)) objs 0))
 | _=>False
theorem Pj:aR Tryz.prog 119 (Cf):=by
 intro args objs K h
 unfold Cf at h
 split at h
 ·rename_i a0 a1
  obtain⟨a,rfl,b,rfl,h1,h2,h3,h4,hk⟩:=h
  exact⟨_,_,_,.pure _ rfl (Sj a b h1 h2 h3 h4),hk⟩
 ·exact h.elim
end Lp
namespace Lp
open Go
def zP:List Int→Prop
 | []=>False
 | [a]=>a=0
 | a::b::l=>b≤a∧a≤b+1∧zP (b::l)
theorem u6(x:Vl):∀(now:List Vl) (nx:List Int),nx.length=now.length+1→zP nx→
  zP (fQ x now nx)∧nx.getD 0 0≤(fQ x now nx).getD 0 0∧(fQ x now nx).getD 0 0≤nx.getD 0 0+1
 | [],nx,hl,hs=>by
  match nx,hl,hs with
  | [a],_,hs=>
   have:a=0:=hs
   subst this
   exact⟨rfl,by simp[fQ],by simp[fQ]⟩
 | y::ys,nx,hl,hs=>by
  match nx,hl,hs with
  | [_],hl,_=>simp at hl
  | a::b::r,hl,hs=>
   obtain⟨h1,h2,h3⟩:=hs
   obtain⟨i1,i2,i3⟩:=u6 x ys (b::r) (by simpa using hl) h3
   have hlen:=lI x ys (b::r)
   rw[fQ,List.tail_cons]
   match hR:fQ x ys (b::r),hlen with
   | t::T,_=>
    rw[hR]at i1 i2 i3
    simp only[List.getD_cons_zero,List.getD_cons_succ]at i2 i3 ⊢
    refine⟨⟨?_,?_,i1⟩,?_,?_⟩
    all_goals split<;>omega
theorem u7:∀(old now:List Vl) (r:List Int),r∈a_ old now→zP r
 | [],now,r,h=>by
  simp only[a_,List.mem_singleton]at h
  subst h
  generalize now.length=n
  induction n with
  | zero=>rfl
  | succ n ih=>exact⟨Int.le_refl _,by decide,ih⟩
 | x::xs,now,r,h=>by
  simp only[a_,List.mem_cons]at h
  rcases h with rfl | h
  ·obtain⟨r0,rs,e,hl⟩:=rC xs now
   rw[e]
   exact (u6 x now r0 hl (u7 xs now r0 (by rw[e];exact List.mem_cons_self ..))).1
  ·exact u7 xs now r h
theorem zP.drop {l:List Int}:∀(k:Nat),k<l.length→zP l→zP (l.drop k)
 | 0,_,h=>h
 | k+1,hk,h=>by
  match l,hk,h with
  | [a],hk,_=>simp at hk
  | a::b::l,hk,h=>exact zP.drop (l:=b::l) k (by simpa using hk) h.2.2
end Lp
namespace Lp
open Go Go.Proofs
theorem VF:aW Tryz.prog 50 43 [.tmp 4,.tmp 5] (gen [] [] [1] Tryz.f50):=bP Tryz.func50 rfl (by kernel_rfl)
theorem Sk:aW Tryz.prog 29 28 [.tmp 4,.tmp 5] (gen [] [(7170,some (1,0))] [] Tryz.f29):=bP Tryz.func29 rfl (by kernel_rfl)
theorem Hg:aW Tryz.prog 28 61 [.tmp 6,.tmp 7] (gen [] [] [] Tryz.f28):=bP Tryz.func28 rfl (by kernel_rfl)
theorem Mv:aW Tryz.prog 48 13 [.tmp 2] (gen [] [] [] Tryz.f48):=bP Tryz.func48 rfl (by kernel_rfl)
theorem Hl:aW Tryz.prog 70 27 [.tmp 2] (gen [] [] [1] Tryz.f70):=bP Tryz.func70 rfl (by kernel_rfl)
theorem jq:aW Tryz.prog 72 9 [.tmp 4] (gen [] [] [] Tryz.f72):=bP Tryz.func72 rfl (by kernel_rfl)
theorem kJ:aW Tryz.prog 100 19 [.tmp 4] (gen [] [(387,none)] [] Tryz.f100):=bP Tryz.func100 rfl (by kernel_rfl)
theorem Ho:aW Tryz.prog 27 32 [.tmp 2] (gen [] [] [1] Tryz.f27):=bP Tryz.func27 rfl (by kernel_rfl)
theorem Mw:aW Tryz.prog 31 43 [.tmp 6,.tmp 7] (gen [] [] [1] Tryz.f31):=bP Tryz.func31 rfl (by kernel_rfl)
theorem Pk:aW Tryz.prog 30 48 [.tmp 6,.tmp 7] (gen [34] [] [1] Tryz.f30):=bP Tryz.func30 rfl (by kernel_rfl)
theorem lJ:aW Tryz.prog 17 75 [.tmp 4,.tmp 5] (gen [] [] [1,10] Tryz.f17):=bP Tryz.func17 rfl (by kernel_rfl)
theorem Mx:aW Tryz.prog 14 28 [.tmp 4,.tmp 5] (gen [] [(7169,some (1,0))] [] Tryz.f14):=bP Tryz.func14 rfl (by kernel_rfl)
end Lp
namespace Lp
open Go Go.Proofs
theorem Aq:aW Tryz.prog 9 69 [.tmp 0] (gen [] [] [2] Tryz.f9):=bP Tryz.func9 rfl (by kernel_rfl)
theorem u_:aW Tryz.prog 3 24 [.tmp 4] (gen [] [] [] Tryz.f3):=bP Tryz.func3 rfl (by kernel_rfl)
end Lp
namespace Lp
open Go Go.Proofs
theorem Ar:aW Tryz.prog 42 27 [.tmp 4] (gen [] [(35,none)] [] Tryz.f42):=bP Tryz.func42 rfl (by kernel_rfl)
theorem Cg:aW Tryz.prog 23 16 [.tmp 4] (gen [] [] [] Tryz.f23):=bP Tryz.func23 rfl (by kernel_rfl)
end Lp
namespace Lp
open Go Go.Proofs
theorem Au:aW Tryz.prog 97 85 [.tmp 4] (gen [] [(99,some (1,1)),(483,none)] [] Tryz.f97):=bP Tryz.func97 rfl (by kernel_rfl)
theorem y7:aW Tryz.prog 98 51 [.tmp 6] (gen [10] [(390,none),(902,none)] [] Tryz.f98):=bP Tryz.func98 rfl (by kernel_rfl)
theorem xh:aW Tryz.prog 69 91 [.tmp 4] (gen [13] [(995,none),(995,none)] [11] Tryz.f69):=bP Tryz.func69 rfl (by kernel_rfl)
theorem Ch:aW Tryz.prog 68 11 [.tmp 4] (gen [5] [] [1] Tryz.f68):=bP Tryz.func68 rfl (by kernel_rfl)
theorem xk:aW Tryz.prog 46 96 [.tmp 6] (gen [17] [(1927,none),(2695,none)] [] Tryz.f46):=bP Tryz.func46 rfl (by kernel_rfl)
theorem Av:aW Tryz.prog 47 96 [.tmp 6] (gen [16] [(3969,none),(16257,none),(18305,none)] [] Tryz.f47):=bP Tryz.func47 rfl (by kernel_rfl)
theorem iy:aW Tryz.prog 26 58 [.tmp 6] (gen [] [] [] Tryz.f26):=bP Tryz.func26 rfl (by kernel_rfl)
theorem Ci:aW Tryz.prog 12 9 [.tmp 4] (gen [] [] [] Tryz.f12):=bP Tryz.func12 rfl (by kernel_rfl)
theorem Cj:aW Tryz.prog 10 56 [.tmp 4] (gen [] [(35,none)] [] Tryz.f10):=bP Tryz.func10 rfl (by kernel_rfl)
end Lp
namespace Lp
open Go Go.Proofs
open List (length_replicate map_nil map_set take_succ_cons take_zero)
def nW(old now:List Vl)(m:Nat):List PV:=List.replicate m (.sl 0 [] (some true))++((a_ old now).drop m).map encI
theorem Z5(old now:List Vl)(m:Nat):∀x∈nW old now m,∃z xs q,x=PV.sl z xs q:=by
 intro x hx
 rcases List.mem_append.1 hx with h | h
 ·exact Fh _ x h
 ·obtain⟨r,_,rfl⟩:=List.mem_map.1 h
  exact⟨_,_,_,rfl⟩
theorem X7(old now:List Vl){m:Nat}(h:m≤old.length+1):(nW old now m).length=old.length+1:=by
 simp only[nW,List.length_append,length_replicate,List.length_map,List.length_drop,jY];omega
theorem Aw(old now:List Vl):nW old now (old.length+1)=List.replicate (old.length+1) (.sl 0 [] (some true)):=by
 rw[nW,List.drop_eq_nil_of_le (by rw[jY];omega)];simp
theorem X8(old now:List Vl):nW old now 0=(a_ old now).map encI:=by simp[nW]
theorem VG(old now:List Vl):(nW old now (old.length+1)).set old.length (encI (List.replicate (now.length+1) 0))=nW old now old.length:=by
 rw[Aw,nW,jZ _ _ _ (Nat.le_refl _),List.drop_length,List.replicate_succ',List.set_append_right _ _ (by simp),length_replicate,Nat.sub_self]
 rfl
theorem VH(old now:List Vl){p:Nat}(hp:p<old.length):(nW old now (p+1))[p]?=some (.sl 0 [] (some true))∧∃nx,(nW old now (p+1))[p+1]?=some (encI nx)∧nx.length=now.length+1∧Le old.length nx∧zP nx∧
  (nW old now (p+1)).set p (encI (oI (old.getD p []) now nx 0))=nW old now p:=by
 obtain⟨nx,rs,e,hl⟩:=rC (old.drop (p+1)) now
 have e':(a_ old now).drop (p+1)=nx::rs:=by rw[jZ _ _ _ (by omega),e]
 have hm:nx∈a_ old now:=List.mem_of_mem_drop (by rw[e'];exact List.mem_cons_self ..)
 have hx:old.drop p=old.getD p []::old.drop (p+1):=by
  rw[List.drop_eq_getElem_cons (by omega),List.getD_eq_getElem?_getD,List.getElem?_eq_getElem (by omega)];rfl
 have e2:(a_ old now).drop p=fQ (old.getD p []) now nx::nx::rs:=by
  rw[jZ _ _ _ (by omega),hx,a_,e];rfl
 refine⟨?_,nx,?_,hl,yC _ _ _ hm,u7 _ _ _ hm,?_⟩
 ·rw[nW,List.getElem?_append_left (by simp),List.getElem?_replicate,if_pos (by omega)]
 ·rw[nW,e',List.getElem?_append_right (by simp),length_replicate,Nat.sub_self];rfl
 ·rw[nW,nW,e',e2,List.replicate_succ',List.append_assoc,List.set_append_right _ _ (by simp),length_replicate,Nat.sub_self]
  simp only[oI,List.drop_zero,List.replicate_zero,List.nil_append,List.map_cons]
  rfl
theorem X9(x:Vl){now:List Vl}{nx:List Int}{q:Nat}{c:Int}(hq:q<now.length)(hl:nx.length=now.length+1)(hs:zP nx)(hc:(oI x now nx (q+1))[q+1]?=some c):nx.getD q 0≤nx.getD (q+1) 0+1∧c≤nx.getD (q+1) 0+1:=by
 have e0:(nx.drop (q+1)).getD 0 0=nx.getD (q+1) 0:=by simp[List.getD_eq_getElem?_getD]
 obtain⟨_,_,h3⟩:=u6 x (now.drop (q+1)) (nx.drop (q+1)) (by simp only[List.length_drop];omega) (hs.drop (q+1) (by omega))
 have hr:=lI x (now.drop (q+1)) (nx.drop (q+1))
 rw[oI,List.getElem?_append_right (by simp),length_replicate,Nat.sub_self,List.getElem?_eq_getElem (by omega)]at hc
 have hc':(fQ x (now.drop (q+1)) (nx.drop (q+1))).getD 0 0=c:=by
  rw[List.getD_eq_getElem?_getD,List.getElem?_eq_getElem (by omega)];exact Option.some.inj hc
 rw[hc',e0]at h3
 refine⟨?_,h3⟩
 have hd:=hs.drop q (by omega)
 rw[List.drop_eq_getElem_cons (by omega),List.drop_eq_getElem_cons (by omega)]at hd
 obtain⟨_,h,_⟩:=hd
 rw[List.getD_eq_getElem?_getD,List.getD_eq_getElem?_getD,List.getElem?_eq_getElem (by omega),List.getElem?_eq_getElem (by omega)]
 exact h
theorem Z6{U:List PV}(hU:∀x∈U,∃z xs q,x=PV.sl z xs q)(d n:Nat)(O:List Obj)(a b v:Nat):eO d n O ⟨a,b,U,true,v⟩=⟨a,b,U,true,v⟩:=by
 have h1:U.map (PV.bJ (fA d n O))=U:=by
  conv=>rhs;rw[←List.map_id U]
  refine List.map_congr_left λx hx=>?_
  obtain⟨z,xs,q,rfl⟩:=hU x hx
  rfl
 simp only[eO,h1]
theorem MB(old now:List Vl)(ho:old.length≤1000000)(hn:now.length≤1000000)(hlo:∀v∈old,v.length≤1000000)(hln:∀v∈now,v.length≤1000000) :
  av Tryz.prog 97 [bT old,bT now] [] (yY (a_ old now)) []:=by
 obtain⟨N,hN⟩:∃N,N=old.length+1:=⟨_,rfl⟩
 obtain⟨M,hM⟩:∃M,M=now.length+1:=⟨_,rfl⟩
 have hN1:((old.length:Int)+1).toNat=N:=by omega
 have hM1:((now.length:Int)+1).toNat=M:=by omega
 have hr0:List.replicate M (PV.int .i64 0)=(List.replicate M (0:Int)).map (.int .i64):=by rw[List.map_replicate]
 refine Au.bR (T:=bA Tryz.prog [(16,dL)]) 1 hD (ay (af jW au)) bE (by decide) λQ hQ=>?_
 (conv=>arg 4;cbv);simp (maxSteps:=400000) only[↓aA,aB,BEq.rfl,seval,hQ,hN1]
 refine⟨⟨by omega,by omega⟩,by omega,by omega,by omega,by omega,?_⟩
 refine aQ (hz:=Nat.zero_le _) (λm S=>∃i:Int,i+1=(m:Int)∧m≤N∧S=⟨dD 85 [(0,bT old),(1,bT now),(5,.aS 0 1),(6,.int .i64 i)],[⟨80,1,nW old now m,true,1⟩]⟩) N ⟨(old.length:Int),by omega,Nat.le_refl _,?_⟩ ?_
 ·rw[show nW old now N=List.replicate N (.sl 0 [] (some true)) by rw[hN,Aw]]
  simp (maxSteps:=400000) only[↓aA,aB,BEq.rfl,seval,Pf,take_succ_cons,take_zero,Z6 (Fh N)]
 rintro m S ⟨i,him,hmN,rfl⟩
 match m,him,hmN with
 | 0,him,_=>
  have z:(0≤i)=False:=eq_false (by omega)
  simp (maxSteps:=400000) only[↓aA,aB,BEq.rfl,seval,hQ,z,X8,(iE hG inG).2.1]
 | p+1,him,hmN=>
  obtain rfl:i=(p:Int):=by omega
  have z:(0≤(p:Int))=True:=eq_true (by omega)
  have hUl:=X7 old now (m:=p+1) (by omega)
  have hUs:=Z5 old now (p+1)
  rcases Nat.lt_or_ge p old.length with hp | hp
  rotate_left 1
  ·obtain rfl:p=old.length:=by omega
   have hlt:((old.length:Int)<(old.length:Int))=False:=eq_false (by omega)
   simp (maxSteps:=400000) only[↓aA,aB,BEq.rfl,seval,hQ,z,hM1]
   refine⟨⟨by omega,by omega⟩,by omega,by omega,by omega,by omega,⟨by omega,by omega⟩,?_⟩
   refine aQ (λm S=>S=⟨dD 85 [(0,bT old),(1,bT now),(5,.aS 0 1),(6,.int .i64 old.length),(7,.aS 1 1),(8,.int .i64 ((now.length:Int)-1))],[⟨80,1,nW old now (old.length+1),true,1⟩,⟨3,1,List.replicate M (.int .i64 0),true,1⟩]⟩) 0 ?_ ?_
   ·simp only[cB,keepR,Nat.reduceAdd,oO,Nat.reduceBEq,map_nil]
   rintro m S rfl
   have hpl:((old.length:Int)<((nW old now (old.length+1)).length:Int))=True:=eq_true (by omega)
   have hfr:=Ce hUs old.length (n:=1) (k:=1) (v:=1) (row:=List.replicate M (0:Int)) (O:=[⟨80,1,(nW old now (old.length+1)).set old.length (.aS 1 1),true,1⟩,⟨3,1,(List.replicate M (0:Int)).map (.int .i64),true,1⟩]) (ty:=3) (Nat.le_refl _) rfl 80 1
   have hlast:(nW old now (old.length+1)).set old.length (encI (List.replicate M 0))=nW old now old.length:=by rw[hM];exact VG old now
   rw[hlast,←hr0]at hfr
   have X4:(nW old now (old.length+1))[old.length]?=some (.sl 0 [] (some true)):=by
    rw[Aw,List.getElem?_replicate,if_pos (by omega)]
   by_cases hk:0≤(now.length:Int)-1
   ·have hk':=eq_true hk
    simp (maxSteps:=400000) only[↓aA,aB,BEq.rfl,seval,hQ,z,hlt,hk',hpl,X4,xg,hfr,Pf,take_succ_cons,take_zero]
    exact⟨⟨by omega,by omega⟩,old.length,by omega,_,by omega,by omega,rfl⟩
   ·have hk':=eq_false hk
    simp (maxSteps:=400000) only[↓aA,aB,BEq.rfl,seval,hQ,z,hlt,hk',hpl,X4,xg,hfr,Pf,take_succ_cons,take_zero]
    exact⟨⟨by omega,by omega⟩,old.length,by omega,_,by omega,by omega,rfl⟩
  ·obtain⟨X4,VE⟩:=VH old now hp
   have hxm:old.getD p []∈old:=by
    rw[List.getD_eq_getElem?_getD,List.getElem?_eq_getElem (by omega)];exact List.getElem_mem _
   have hxe:old[p]?=some (old.getD p []):=by
    rw[List.getD_eq_getElem?_getD,List.getElem?_eq_getElem (by omega)];rfl
   generalize old.getD p []=x at hxm hxe VE
   obtain⟨nx,VE,hnl,hnb,hst,hUe⟩:=VE
   have hxl:=hlo x hxm
   have hnb':Le 1000000 nx:=λz hz=>⟨(hnb z hz).1,by have:=(hnb z hz).2;omega⟩
   generalize hUg:nW old now (p+1)=U at hUl hUs X4 VE hUe
   have hpl:((p:Int)<(U.length:Int))=True:=eq_true (by omega)
   have X5:((p:Int)+1<(U.length:Int))=True:=eq_true (by omega)
   have zp1:(0≤(p:Int)+1)=True:=eq_true (by omega)
   have hp1:((p:Int)+1).toNat=p+1:=by omega
   have hlt:((p:Int)<(old.length:Int))=True:=eq_true (by omega)
   simp (maxSteps:=400000) only[↓aA,aB,BEq.rfl,seval,hQ,z,hM1]
   refine⟨⟨by omega,by omega⟩,by omega,by omega,by omega,by omega,⟨by omega,by omega⟩,?_⟩
   refine aQ (λm S=>∃j:Int,j+1=(m:Int)∧m≤now.length∧S=⟨dD 85 [(0,bT old),(1,bT now),(5,.aS 0 1),(6,.int .i64 p),(7,.aS 1 1),(8,.int .i64 j)],[⟨80,1,U,true,1⟩,⟨3,1,(oI x now nx m).map (.int .i64),true,1⟩]⟩) now.length ⟨(now.length:Int)-1,by omega,Nat.le_refl _,?_⟩ ?_
   ·rw[Ph,←hM,←hr0]
    simp only[cB,keepR,Nat.reduceAdd,oO,Nat.reduceBEq,map_nil]
   rintro m2 S ⟨j,hjm,hm2,rfl⟩
   match m2,hjm,hm2 with
   | 0,hjm,_=>
    have zj:(0≤j)=False:=eq_false (by omega)
    have hfr:=Ce hUs p (n:=1) (k:=1) (v:=1) (row:=oI x now nx 0) (O:=[⟨80,1,U.set p (.aS 1 1),true,1⟩,⟨3,1,(oI x now nx 0).map (.int .i64),true,1⟩]) (ty:=3) (Nat.le_refl _) rfl 80 1
    rw[hUe]at hfr
    simp (maxSteps:=400000) only[↓aA,aB,BEq.rfl,seval,hQ,z,hlt,zj,hpl,X4,xg,hfr,Pf,take_succ_cons,take_zero]
    exact⟨⟨by omega,by omega⟩,p,by omega,_,by omega,by omega,rfl⟩
   | q+1,hjm,hm2=>
    obtain rfl:j=(q:Int):=by omega
    have zq:(0≤(q:Int))=True:=eq_true (by omega)
    have hy:now[q]?=some (now.getD q []):=by
     rw[List.getD_eq_getElem?_getD,List.getElem?_eq_getElem (by omega)];rfl
    have hym:now.getD q []∈now:=List.mem_of_getElem? hy
    generalize now.getD q []=y at hy hym
    have hyl:=hln y hym
    obtain⟨c,hR0,Nj,hc0,hc1,hRs⟩:=Kz x y (nx:=nx) hy (by decide:(0:Int)≤1000000) hnb'
    obtain⟨hd0,hd1⟩:=X9 x (by omega) hnl hst Nj
    have hRl:=Pg x now nx (q:=q+1) (by omega)
    have g0:nx[q]?=some (nx.getD q 0):=by
     rw[List.getD_eq_getElem?_getD,List.getElem?_eq_getElem (by omega)];rfl
    have g1:nx[q+1]?=some (nx.getD (q+1) 0):=by
     rw[List.getD_eq_getElem?_getD,List.getElem?_eq_getElem (by omega)];rfl
    have ha0:=hnb'.getD (by decide) q
    have ha1:=hnb'.getD (by decide) (q+1)
    have JI:((q:Int)<((now.length+1:Nat):Int))=True:=eq_true (by omega)
    have X6:((q:Int)+1<((now.length+1:Nat):Int))=True:=eq_true (by omega)
    have zq1:(0≤(q:Int)+1)=True:=eq_true (by omega)
    have hq3:((q:Int)+1).toNat=q+1:=by omega
    generalize nx.getD q 0=a0 at g0 ha0 hRs hd0
    generalize nx.getD (q+1) 0=a1 at g1 ha1 hRs hd0 hd1
    generalize hRg:oI x now nx (q+1)=R at hR0 Nj hRs hRl
    have hmx:(if c > a0 then c else a0)=max a0 c:=by split<;>omega
    have hR2:(R.set q (max a0 c))[q]?=some (max a0 c):=by rw[List.getElem?_set_self (by omega)]
    have ace:c≤a1+1→a0≤a1+1→(if 1+a1 > max a0 c then 1+a1 else max a0 c)=a1+1:=λh1 h2=>by split<;>omega
    have ace:=ace hd1 hd0
    have hset:(R.map (PV.int .i64)).set q (.int .i64 (max a0 c))=(R.set q (max a0 c)).map (.int .i64):=by rw[map_set]
    by_cases hxy:x=y
    ·have hxy':=eq_true hxy
     rw[if_pos hxy]at hRs
     simp (maxSteps:=400000) only[↓aA,aB,BEq.rfl,seval,hQ,z,hlt,zq,zp1,hp1,X5,VE,hxe,hy,↓dL,hxy',zq1,hq3,JI,X6,hR0,Nj,hRl,hnl,g0,g1,xg,hmx,hset,hR2,List.length_set,ace]
     refine⟨⟨by omega,by omega⟩,⟨by omega,by omega⟩,by decide,hxl,hyl,⟨by omega,by omega⟩,⟨by omega,by omega⟩,⟨by omega,by omega⟩,by decide,⟨by omega,by omega⟩,q,by omega,(q:Int)-1,by omega,by omega,?_⟩
     rw[←hRs,map_set,map_set,List.set_set]
    ·have hxy':=eq_false hxy
     rw[if_neg hxy]at hRs
     simp (maxSteps:=400000) only[↓aA,aB,BEq.rfl,seval,hQ,z,hlt,zq,zp1,hp1,X5,VE,hxe,hy,↓dL,hxy',zq1,hq3,JI,X6,hR0,Nj,hRl,hnl,g0,g1,xg,hmx]
     refine⟨⟨by omega,by omega⟩,⟨by omega,by omega⟩,by decide,hxl,hyl,⟨by omega,by omega⟩,q,by omega,(q:Int)-1,by omega,by omega,?_⟩
     rw[←hRs,map_set]
def ve:d9:=λargs objs K=>match args with
 | [a0,a1]=>gD bT a0 (HK.mk:HK λa=>gD bT a1 (HK.mk:HK λb=>(a.length≤1000000)∧(b.length≤1000000)∧(∀v∈a,v.length≤1000000)∧(∀v∈b,v.length≤1000000)∧K (yY (a_ a b)) objs 0))
 | _=>False
theorem Jl:aR Tryz.prog 97 (ve):=by
 intro args objs K h
 unfold ve at h
 split at h
 ·rename_i a0 a1
  obtain⟨a,rfl,b,rfl,h1,h2,h3,h4,hk⟩:=h
  exact⟨_,_,_,.pure _ rfl (MB a b h1 h2 h3 h4),hk⟩
 ·exact h.elim
end Lp
namespace Lp
open Go
def iH(l:List Int):Nat:=(l.reverse.dropWhile λx=>decide (x<0)).length
theorem Ay{l:List Int}{x:Int}(h:x<0):iH (l++[x])=iH l:=by
 simp[iH,h]
theorem Hq{l:List Int}{x:Int}(h:0≤x):iH (l++[x])=l.length+1:=by
 have:¬ x<0:=by omega
 simp[iH,this]
theorem KA(l:List Int):iH l≤l.length:=by
 unfold iH
 have:=(List.dropWhile_sublist (λx:Int=>decide (x<0)) (l:=l.reverse)).length_le
 simpa using this
theorem Pm{l:List Int}{k:Nat}{x:Int}(hx:l[k]?=some x):iH (l.take (k+1))=if x<0 then iH (l.take k) else k+1:=by
 have hk:k<l.length:=(List.getElem?_eq_some_iff.1 hx).1
 have e:l.take (k+1)=l.take k++[x]:=by rw[List.take_add_one,hx];rfl
 rw[e]
 split
 ·rename_i h;exact Ay h
 ·rename_i h
  rw[Hq (by omega),List.length_take];omega
def sZ(l:List Int)(f t:Nat):List Int:=ni (l.length-iH l) l f (iH l) t
theorem DF(l:List Int)(f t:Nat):(sZ l f t).length=l.length:=qE ..
theorem Pn(X:List Int):∀(m:Nat){out:List Int}{i k a:Nat},k+m≤out.length→ni m (out++X) i k a=ni m out i k a++X
 | 0,_,_,_,_,_=>rfl
 | m+1,out,i,k,a,h=>by
  rw[ni,ni]
  split
  ·rw[List.set_append_left _ _ (by omega)]
   exact Pn X m (by simp;omega)
  ·rfl
structure y8 (old now:List Vl) (a b i:Nat) (out:List Int):Prop where
 len:out.length=b
 hb:b≤now.length
 ha:a≤old.length
 hi:i≤a
 rest:∃f,(old.length-a)+(now.length-b)≤f∧dR old now=match kI old now f a b i (iH out) (out++List.replicate (now.length-b) (-1)) with
  | (R,i,k)=>ni (now.length-k) R i k old.length
theorem y8.start (old now:List Vl):y8 old now 0 0 0 []:=
 ⟨rfl,Nat.zero_le _,Nat.zero_le _,Nat.le_refl _,old.length+now.length,by omega,by rw[dR];simp[iH]⟩
variable {old now:List Vl}{a b i:Nat}{out:List Int}
theorem y8.skip (h:y8 old now a b i out)(ha:a<old.length)(hb:b<now.length)(hn:¬ old.getD a []=now.getD b [])(hl:rD (a_ old now) a (b+1)≤rD (a_ old now) (a+1) b):y8 old now (a+1) b i out:=by
 obtain⟨f,h1,h2⟩:=h.rest
 refine⟨h.len,h.hb,by omega,by have:=h.hi;omega,f-1,by omega,?_⟩
 obtain⟨g,rfl⟩:∃g,f=g+1:=⟨f-1,by omega⟩
 rw[h2,kI,if_pos ⟨ha,hb⟩,if_neg hn,if_pos hl]
 rfl
theorem Hr{n b:Nat}(hb:b<n)(out:List Int):out++List.replicate (n-b) (-1)=(out++[-1])++List.replicate (n-(b+1)) (-1:Int):=by
 rw[show n-b=(n-(b+1))+1 by omega,List.replicate_succ];simp
theorem y8.none (h:y8 old now a b i out)(hb:b<now.length)(hn:a<old.length→¬ old.getD a []=now.getD b []∧¬ rD (a_ old now) a (b+1)≤rD (a_ old now) (a+1) b):y8 old now a (b+1) i (out++[-1]):=by
 obtain⟨f,h1,h2⟩:=h.rest
 have hl:=h.len
 by_cases ha:a<old.length
 ·obtain⟨n1,n2⟩:=hn ha
  refine⟨by simp[hl],by omega,h.ha,h.hi,f-1,by omega,?_⟩
  obtain⟨g,rfl⟩:∃g,f=g+1:=⟨f-1,by omega⟩
  rw[h2,kI,if_pos ⟨ha,hb⟩,if_neg n1,if_neg n2,Ay (by decide),Hr hb]
  rfl
 ·refine⟨by simp[hl],by omega,h.ha,h.hi,f,by omega,?_⟩
  rw[h2,Ay (by decide),←Hr hb]
  have key:∀b i k R,kI old now f a b i k R=(R,i,k):=by
   intro b i k R
   cases f with
   | zero=>rfl
   | succ g=>rw[kI,if_neg (by omega)]
  rw[key,key]
theorem y8.pair (h:y8 old now a b i out)(ha:a<old.length)(hb:b<now.length)(he:old.getD a []=now.getD b []):y8 old now (a+1) (b+1) (a+1) (sZ out i a++[(a:Int)]):=by
 obtain⟨f,h1,h2⟩:=h.rest
 have hl:=h.len
 have hf:=KA out
 refine⟨by simp[DF,hl],by omega,by omega,Nat.le_refl _,f-1,by omega,?_⟩
 obtain⟨g,rfl⟩:∃g,f=g+1:=⟨f-1,by omega⟩
 rw[h2,kI,if_pos ⟨ha,hb⟩,if_pos he,Hq (by omega),DF,hl]
 have e:(ni (b-iH out) (out++List.replicate (now.length-b) (-1)) i (iH out) a).set b (a:Int)=(sZ out i a++[(a:Int)])++List.replicate (now.length-(b+1)) (-1):=by
  rw[Pn _ _ (by omega),sZ,hl,show now.length-b=(now.length-(b+1))+1 by omega,List.replicate_succ,List.set_append_right _ _ (by rw[qE];omega),qE,hl,Nat.sub_self]
  simp
 rw[e]
 rfl
theorem y8.done (h:y8 old now a b i out)(hb:b=now.length):dR old now=sZ out i old.length:=by
 obtain⟨f,h1,h2⟩:=h.rest
 have hl:=h.len
 have key:∀k R,kI old now f a b i k R=(R,i,k):=by
  intro k R
  cases f with
  | zero=>rfl
  | succ g=>rw[kI,if_neg (by omega)]
 rw[h2,key,sZ,hl,hb,Nat.sub_self]
 simp
end Lp
namespace Lp
open Go
section
variable {base ah:Nat→Prop}{w0:Wz}{blk:Nat→Option Nat}{a:Act}{w:World}
def X_(k N v u:Nat):PV→PV
 | .aS j ver=>if j<N then .aS j ver else if j=N∧ver=v then .aS k u else .dead
 | p=>if p.lt N then p else .dead
theorem Rel.sup {tm:List PV}{O:List Obj}{o1 ok:Obj}{k u:Nat}(R:Rel base ah w0 ⟨tm,O++[o1]⟩ blk a w)(hk:O[k]?=some ok)(hl:o1.live=true)(hv:ok.ver<u)(hm:w0.nx≤O.length)
  (hO:∀o∈O,∀x∈o.xs,∀p∈x.cells,p.mE O.length=true) (h1:∀x∈o1.xs,∀p∈x.cells,p.mE O.length=true) :
  ∃dI,Rel base ah w0 ⟨tm.map (X_ k O.length o1.ver u),O.set k { o1 with ver:=u }⟩ dI a w:=by
 have hkl:=(List.getElem?_eq_some_iff.1 hk).1
 obtain⟨o2,ho2⟩:∃o2:Obj,o2={ o1 with ver:=u }:=⟨_,rfl⟩
 have hu2:o2.ver=u:=by rw[ho2]
 have hx2:o2.xs=o1.xs:=by rw[ho2]
 have hl2:o2.live=true:=by rw[ho2];exact hl
 obtain⟨dI,hb2⟩:∃dI:Nat→Option Nat,dI=λj=>if j=k then blk O.length else blk j:=⟨_,rfl⟩
 have bk:dI k=blk O.length:=by rw[hb2];simp
 have bo:∀j,j≠k→dI j=blk j:=λj hj=>by rw[hb2];simp[hj]
 rw[←ho2]
 have IE:(O++[o1])[O.length]?=some o1:=by simp
 have UY:∀j o,O[j]?=some o→(O++[o1])[j]?=some o:=λj o h=>by
  rw[List.getElem?_append_left (List.getElem?_eq_some_iff.1 h).1];exact h
 have gk:(O.set k o2)[k]?=some o2:=by rw[List.getElem?_set];simp[hkl]
 have go:∀j,j≠k→(O.set k o2)[j]?=O[j]?:=λj hj=>by rw[List.getElem?_set,if_neg (λe=>hj e.symm)]
 have hlive:∀(j:Nat) (o:Obj),(O.set k o2)[j]?=some o→o.live=true→(j=k∧o=o2)∨(j≠k∧O[j]?=some o):=by
  intro j o h1 h2
  by_cases hj:j=k
  ·subst hj
   rw[gk]at h1;cases h1
   exact .inl ⟨rfl,rfl⟩
  ·rw[go j hj]at h1
   exact .inr ⟨hj,h1⟩
 have hnl:∀b,aK (O++[o1]) blk b→aK (O.set k o2) dI b:=by
  intro b h j o h1 h2 h3
  rcases hlive j o h1 h2 with ⟨rfl,rfl⟩ | ⟨hj,g⟩
  ·rw[bk]at h3
   exact h O.length o1 IE hl h3
  ·rw[bo j hj]at h3
   exact h j o (UY j o g) h2 h3
 have hok:∀b,aZ base (O++[o1]) blk b→aZ base (O.set k o2) dI b:=λb h=>⟨h.1,hnl b h.2⟩
 have hm':∀(q:PV) (u:Value),cu w (aZ base (O++[o1]) blk) q u→cu w (aZ base (O.set k o2) dI) q u:=λq u hq=>hq.mono (Nat.le_refl _) (λb _ hb=>hok b hb) (λ_ _ _ h=>h)
 have hS:∀(p:PV) (y:Value),p.mE O.length=true→aV w (aZ base (O++[o1]) blk) (O++[o1]) blk p y→aV w (aZ base (O.set k o2) dI) (O.set k o2) dI p y:=by
  intro p y hp h
  cases p with
  | aS j ver=>
   have hj:j<O.length:=by simpa[PV.mE] using hp
   obtain⟨h0,o,g1,g2,g3⟩:=h
   rw[List.getElem?_append_left hj]at g1
   by_cases hjk:j=k
   ·subst hjk
    rw[hk]at g1;cases g1
    exact⟨h0,o2,gk,by omega,λ_ e=>by omega⟩
   ·refine⟨h0,o,by rw[go j hjk];exact g1,g2,λe1 e2=>?_⟩
    obtain⟨hM,this⟩:=g3 e1 e2
    refine⟨hM,?_⟩
    unfold vL at this ⊢
    rw[bo j hjk];exact this
  | bf j ver i f=>
   have hj:j<O.length:=by simpa[PV.mE] using hp
   obtain⟨h0,o,g1,g2,g3⟩:=h
   rw[List.getElem?_append_left hj]at g1
   by_cases hjk:j=k
   ·subst hjk
    rw[hk]at g1;cases g1
    exact⟨h0,o2,gk,by omega,λ_ e=>by omega⟩
   ·refine⟨h0,o,by rw[go j hjk];exact g1,g2,λe1 e2=>?_⟩
    rw[bo j hjk];exact g3 e1 e2
  | fM j ver=>
   have hj:j<O.length:=by simpa[PV.mE] using hp
   obtain⟨h0,o,g1,g2,g3⟩:=h
   rw[List.getElem?_append_left hj]at g1
   by_cases hjk:j=k
   ·subst hjk
    rw[hk]at g1;cases g1
    exact⟨h0,o2,gk,by omega,λ_ e=>by omega⟩
   ·refine⟨h0,o,by rw[go j hjk];exact g1,g2,λe1 e2=>?_⟩
    rw[bo j hjk];exact g3 e1 e2
  | _=>exact hm' _ _ h
 have Ze:∀(cs:List PV) (us:List Value),cs.all (PV.mE O.length)=true→bG (aV w (aZ base (O++[o1]) blk) (O++[o1]) blk) cs us→bG (aV w (aZ base (O.set k o2) dI) (O.set k o2) dI) cs us:=
  λcs us hc h=>⟨h.1,λi p u h1 h2=>hS p u (List.all_eq_true.1 hc p (List.mem_of_getElem? h1)) (h.2 i p u h1 h2)⟩
 have hT:∀(p:PV) (y:Value),p.lt O.length=true→aO w (aZ base (O++[o1]) blk) (O++[o1]) blk p y→aO w (aZ base (O.set k o2) dI) (O.set k o2) dI p y:=by
  intro p y hp h
  cases p with
  | fn f a c=>
   simp only[PV.lt,Bool.and_eq_true]at hp
   obtain⟨va,vc,rfl,h1,h2⟩:=h
   exact⟨va,vc,rfl,Ze _ _ hp.1 h1,Ze _ _ hp.2 h2⟩
  | bY cs=>obtain⟨us,rfl,h1⟩:=h;exact⟨us,rfl,Ze _ _ hp h1⟩
  | agg cs=>obtain⟨us,rfl,h1⟩:=h;exact⟨us,rfl,Ze _ _ hp h1⟩
  | aS j ver=>exact hS (.aS j ver) y hp h
  | bf j ver i f=>exact hS (.bf j ver i f) y hp h
  | fM j ver=>exact hS (.fM j ver) y hp h
  | _=>exact .dS (hS _ y rfl (by exact h))
 have hP:∀(p:PV) (y:Value),aO w (aZ base (O++[o1]) blk) (O++[o1]) blk p y→aO w (aZ base (O.set k o2) dI) (O.set k o2) dI (X_ k O.length o1.ver u p) y:=by
  intro p y h
  have hgen:∀p,aO w (aZ base (O++[o1]) blk) (O++[o1]) blk p y→aO w (aZ base (O.set k o2) dI) (O.set k o2) dI (if p.lt O.length then p else .dead) y:=λp h=>by
   split
   ·rename_i hp;exact hT p y hp h
   ·exact .dead y
  cases p with
  | aS j ver=>
   simp only[X_]
   by_cases hj:j<O.length
   ·rw[if_pos hj]
    exact hT _ _ (by simpa[PV.lt,PV.mE] using hj) h
   ·rw[if_neg hj]
    split
    ·rename_i e
     obtain⟨rfl,rfl⟩:=e
     obtain⟨h0,o,g1,g2,g3⟩:=h
     rw[IE]at g1;cases g1
     obtain⟨hM,hh⟩:=g3 hl rfl
     refine⟨h0,o2,gk,by omega,λ_ _=>⟨by rw[ho2];exact hM,?_⟩⟩
     unfold vL at hh ⊢
     rw[bk,hx2]
     cases hb:blk O.length with
     | none=>rw[hb]at hh;exact hh
     | some g=>rw[hb]at hh;rw[ho2];exact hh
    ·exact .dead y
  | _=>exact hgen _ h
 have tZ:∀(j j':Nat) (o o':Obj),o'.xs=o.xs→o'.ty=o.ty→o'.sz=o.sz→bB w (aZ base (O++[o1]) blk) (O++[o1]) blk j' o→blk j'=dI j→(∀x∈o.xs,∀p∈x.cells,p.mE O.length=true)→
     bB w (aZ base (O.set k o2) dI) (O.set k o2) dI j o':=by
  intro j j' o o' e1 e2 e3 h e ht
  unfold bB at h ⊢
  rw[←e]
  cases hb:blk j' with
  | none=>rw[hb]at h;simpa[e1] using h
  | some g=>
   rw[hb]at h
   obtain⟨c,x1,x2,x3⟩:=h
   refine⟨c,by rw[e2,e3];exact x1,by unfold fits at x2 ⊢;rw[e1,e2,e3];exact x2,λi x hx=>?_⟩
   rw[e1]at hx
   refine⟨by rw[e3];exact (x3 i x hx).1,λq p hp=>?_⟩
   obtain⟨u,y1,y2⟩:=(x3 i x hx).2 q p hp
   exact⟨u,by rw[e3];exact y1,hS p u (ht x (List.mem_of_getElem? hx) p (List.mem_of_getElem? hp)) y2⟩
 refine⟨dI,⟨R.oC.mono (λb _ h=>⟨hok b h.1,h.2⟩) (λ_ _ _ h=>h),by simpa using R.EB,λt p hp=>?_,⟨?_,?_,?_⟩,R.pr,R.fr,R.gr,R.pb,λx hx=>hT _ _ (mM hm (R.yQ x hx)) (R.ext x hx),R.yQ,R.sm,R.gl⟩⟩
 ·simp only[List.getElem?_map]at hp
  cases ht:tm[t]? with
  | none=>rw[ht]at hp;cases hp
  | some q=>
   rw[ht]at hp;cases hp
   exact hP q _ (R.tm t q ht)
 ·intro j o g1 g2
  rcases hlive j o g1 g2 with ⟨rfl,rfl⟩ | ⟨hj,g⟩
  ·exact tZ _ O.length o1 _ hx2 (by rw[ho2]) (by rw[ho2]) (R.objs.ob _ _ IE hl) bk.symm h1
  ·exact tZ j j o o rfl rfl rfl (R.objs.ob j o (UY j o g) g2) (bo j hj).symm (hO o (List.mem_of_getElem? g))
 ·intro j1 j2 q1 q2 g hne g1 g2 g3 g4 g5
  have key:∀j q,(O.set k o2)[j]?=some q→q.live=true→∃i q',(O++[o1])[i]?=some q'∧q'.live=true∧blk i=dI j∧((j=k∧i=O.length)∨(j≠k∧i=j∧j<O.length)):=λj q h1 h2=>by
   rcases hlive j q h1 h2 with ⟨rfl,rfl⟩ | ⟨hj,g⟩
   ·exact⟨_,_,IE,hl,bk.symm,.inl ⟨rfl,rfl⟩⟩
   ·exact⟨_,_,UY j q g,h2,(bo j hj).symm,.inr ⟨hj,rfl,(List.getElem?_eq_some_iff.1 g).1⟩⟩
  obtain⟨i1,q1',a1,a2,a3,a4⟩:=key j1 q1 g1 g2
  obtain⟨i2,q2',b1,b2,b3,b4⟩:=key j2 q2 g3 g4
  rw[←a3]at g5
  rw[←b3]
  refine R.objs.zV i1 i2 q1' q2' g ?_ a1 a2 b1 b2 g5
  rcases a4 with ⟨rfl,rfl⟩ | ⟨_,rfl,_⟩<;>rcases b4 with ⟨rfl,rfl⟩ | ⟨_,rfl,_⟩<;>first | exact absurd rfl hne | omega
 ·intro j o g g1 g2 g3
  rcases hlive j o g1 g2 with ⟨rfl,rfl⟩ | ⟨hj,g'⟩
  ·rw[bk]at g3;exact R.objs.np _ _ g IE hl g3
  ·rw[bo j hj]at g3;exact R.objs.np j o g (UY j o g') g2 g3
end
theorem Weak.sup {m n:Nat}{l l':List (Nat×PV)}{O:List Obj}{o1:Obj}(k u:Nat){ok:Obj}(hk:O[k]?=some ok)(hl:o1.live=true)(hv:ok.ver<u)(hm:m≤O.length)
  (hO:∀o∈O,∀x∈o.xs,∀p∈x.cells,p.mE O.length=true) (h1:∀x∈o1.xs,∀p∈x.cells,p.mE O.length=true) (he:l'=l.map λx=>(x.1,X_ k O.length o1.ver u x.2)) :
  Weak m ⟨dD n l,O++[o1]⟩ ⟨dD n l',O.set k { o1 with ver:=u }⟩:=by
 intro base ah w0 blk a w hw R
 have h:=R.sup hk hl hv (Nat.le_trans hw hm) hO h1
 have e:(dD n l).map (X_ k O.length o1.ver u)=dD n l':=by
  subst he
  refine x9 (by simp[lD]) λi hi=>?_
  rw[List.getElem?_map,uH,if_pos hi]
  simp only[Option.map_some]
  congr 1
  clear h R hl hv h1 hO hk
  induction l with
  | nil=>rfl
  | cons x l ih=>
   simp only[qK,List.map_cons]
   split
   ·rfl
   ·exact ih
 rw[e]at h
 exact h
end Lp
namespace Lp
open Go Go.Proofs
def Sl(l:List Int)(v:Nat):Obj:=⟨3,1,l.map (.int .i64),true,v⟩
theorem Po(l:List Int)(v:Nat):bC [Sl l v]:=by
 intro o ho x hx c hc
 simp only[List.mem_singleton]at ho;subst ho
 obtain⟨y,_,rfl⟩:=List.mem_map.1 hx
 simp only[PV.cells,List.mem_singleton]at hc
 subst hc;rfl
theorem TV(d n:Nat)(O:List Obj)(l:List Int)(v:Nat):eO d n O (Sl l v)=Sl l v:=by
 have:(l.map (PV.int .i64)).map (PV.bJ (fA d n O))=l.map (.int .i64):=by
  rw[List.map_map]
  exact List.map_congr_left λx _=>rfl
 simp only[eO,Sl,this]
theorem Pp(l:List Int)(f t:Nat)(hl:l.length≤1000000)(hf:f≤1000000)(ht:t≤1000000):av Tryz.prog 98 [encI l,.int .i64 f,.int .i64 t] [] (.aS 0 0) [Sl (sZ l f t) 0]:=by
 refine y7.Ej (T:=bA Tryz.prog []) 1 hD (ay au) bE λQ hQ=>?_
 (conv=>arg 4;cbv);simp (maxSteps:=400000) only[↓aA,aB,BEq.rfl,seval,hQ]
 refine⟨by omega,by omega,?_⟩
 refine aQ (λm S=>∃k:Nat,m=k∧k≤l.length∧iH (l.take k)=iH l∧S=⟨dD 51 [(1,.int .i64 f),(2,.int .i64 t),(7,.aS 0 2),(8,.int .i64 k)],[⟨3,1,l.map (.int .i64),true,2⟩]⟩) l.length ⟨_,rfl,Nat.le_refl _,by rw[List.take_length],?_⟩ ?_
 ·simp only[cB,keepR,Nat.reduceAdd,oO,Nat.reduceBEq,List.map_nil]
 rintro m S ⟨k,rfl,hkl,hfk,rfl⟩
 have hx:((0<(m:Int))=False∧iH l=m)∨∃(j:Nat) (x:Int),(0<(m:Int))=True∧(m:Int)-1=(j:Int)∧j+1=m∧l[j]?=some x∧iH l=if x<0 then iH (l.take j) else m:=by
  cases m with
  | zero=>exact .inl ⟨eq_false (by omega),by rw[←hfk];rfl⟩
  | succ j=>
   have hj:=List.getElem?_eq_getElem (show j<l.length by omega)
   exact .inr ⟨j,l[j],eq_true (by omega),by omega,rfl,hj,by rw[←hfk,Pm hj]⟩
 have hL:=KA l
 rcases hx with ⟨z0,hfm⟩ | ⟨j,x,z0,z1,hj,hlj,hfm⟩
 rotate_left 1
 have zj:(0≤(j:Int))=True:=eq_true (by omega)
 have zl:((j:Int)<(l.length:Int))=True:=eq_true (by omega)
 rcases tf (x<0) with hx0 | hx0
 ·simp (maxSteps:=400000) only[↓aA,aB,BEq.rfl,seval,hQ,z0,z1,zj,zl,hlj,hx0]
  rw[if_pos (of_eq_true hx0)]at hfm
  exact⟨⟨by omega,by omega⟩,⟨by omega,by omega⟩,j,by omega,j,rfl,by omega,hfm.symm,rfl⟩
 rw[if_neg (of_eq_false hx0)]at hfm
 simp (maxSteps:=400000) only[↓aA,aB,BEq.rfl,seval,hQ,z0,z1,zj,zl,hlj,hx0]
 refine⟨⟨by omega,by omega⟩,?_⟩
 rotate_left 1
 simp (maxSteps:=400000) only[↓aA,aB,BEq.rfl,seval,hQ,z0]
 all_goals
  refine aQ (λq S=>∃(n:Nat) (R:List Int),n+q=l.length-m∧R.length=l.length∧sZ l f t=ni q R (f+n) (m+n) t∧S=⟨dD 51 [(1,.int .i64 f),(2,.int .i64 t),(7,.aS 0 2),(8,.int .i64 m),(9,.int .i64 n)],[⟨3,1,R.map (.int .i64),true,2⟩]⟩) (l.length-m) ⟨0,l,by omega,rfl,by rw[sZ,hfm];rfl,?_⟩ ?_
  ·simp only[cB,keepR,Nat.reduceAdd,oO,Nat.reduceBEq,List.map_nil]
   rfl
  rintro q S ⟨n,R,hnq,hRl,hp,rfl⟩
  have hmn:((m:Int)+(n:Int)).toNat=m+n:=by omega
  have zmn:(0≤(m:Int)+(n:Int))=True:=eq_true (by omega)
  cases q with
  | zero=>
   have hlt:((m:Int)+(n:Int)<(l.length:Int))=False:=eq_false (by omega)
   rw[ni]at hp
   simp (maxSteps:=400000) only[↓aA,aB,BEq.rfl,seval,hQ,hlt,hRl]
   refine⟨⟨by omega,by omega⟩,?_⟩
   rw[hp]
   exact I4 (k:=0) (ver:=2) rfl rfl rfl rfl (congrArg (λo:Obj=>{ o with ver:=0 }) (TV 1 1 _ R 2)) (Po _ 0)
  | succ q=>
   have hlt:((m:Int)+(n:Int)<(l.length:Int))=True:=eq_true (by omega)
   rw[ni]at hp
   rcases tf ((f:Int)+(n:Int)<(t:Int)) with hft | hft
   ·rw[if_pos (by have:=of_eq_true hft;omega)]at hp
    have hRg:=List.getElem?_eq_getElem (show m+n<R.length by omega)
    generalize R[m+n]=z at hRg
    simp (maxSteps:=400000) only[↓aA,aB,BEq.rfl,seval,hQ,hlt,hRl,hft,hmn,zmn,hRg,xg]
    refine⟨⟨by omega,by omega⟩,⟨by omega,by omega⟩,⟨by omega,by omega⟩,⟨by omega,by omega⟩,⟨by omega,by omega⟩,q,by omega,n+1,R.set (m+n) ((f+n:Nat):Int),by omega,by rw[List.length_set,hRl],hp,?_⟩
    rw[List.map_set]
    rfl
   ·rw[if_neg (by have:=of_eq_false hft;omega)]at hp
    simp (maxSteps:=400000) only[↓aA,aB,BEq.rfl,seval,hQ,hlt,hRl,hft]
    refine⟨⟨by omega,by omega⟩,⟨by omega,by omega⟩,?_⟩
    rw[hp]
    exact I4 (k:=0) (ver:=2) rfl rfl rfl rfl (congrArg (λo:Obj=>{ o with ver:=0 }) (TV 1 1 _ R 2)) (Po _ 0)
theorem VI(l:List Int)(v:Nat):∀x∈(Sl l v).xs,∀p∈x.cells,p.atom=true:=by
 intro x hx c hc
 obtain⟨y,_,rfl⟩:=List.mem_map.1 hx
 simp only[PV.cells,List.mem_singleton]at hc
 subst hc;rfl
theorem intCells:∀x:Int,∀c∈(PV.int .i64 x).cells,c.ref=false:=by
 intro x c hc
 simp only[PV.cells,List.mem_singleton]at hc
 subst hc;rfl
def tq:d9:=λargs objs K=>match args with
 | [a,.int .i64 f,.int .i64 t]=>sQ (.int .i64) 1 a objs (HK.mk:HK λl=>l.length≤1000000∧(0≤f∧f≤1000000)∧(0≤t∧t≤1000000)∧K (.aS objs.length 0) (objs++[Sl (sZ l f.toNat t.toNat) 0]) 2)
 | _=>False
theorem MC:aR Tryz.prog 98 tq:=by
 intro args objs K h
 unfold tq at h
 split at h
 ·rename_i a f t
  obtain⟨l,a',l1,t1,h1,⟨h2,h2'⟩,⟨h3,h3'⟩,h4⟩:=iV intCells h
  have hs:=Pp l f.toNat t.toNat h1 (by omega) (by omega)
  rw[Int.toNat_of_nonneg h2,Int.toNat_of_nonneg h3]at hs
  refine⟨_,_,_,.FX 0 _ [a',.int .i64 f,.int .i64 t] ⟨l1,⟨rfl,rfl⟩,⟨rfl,rfl⟩,trivial⟩ (VI _ _) (hs.arg rfl λi x y hx hy=>?_),h4⟩
  match i with
  | 0=>cases hx;cases hy;exact t1
  | 1=>cases hx;cases hy;exact .refl _
  | 2=>cases hx;cases hy;exact .refl _
  | _+3=>simp at hx
 ·exact h.elim
theorem int_inj:∀a b:Int,PV.int .i64 a=.int .i64 b→a=b:=λa b h=>by cases h;rfl
theorem adQ:∀(K:List Int→Prop) l,Nl (PV.int .i64) (l.map (.int .i64)) (HK.mk:HK K)=K l:=GQ int_inj
theorem abe(objs:List Obj):(∀(K:List Int→Prop) k ver,sQ (PV.int .i64) 1 (.aS k ver) objs (HK.mk:HK K)=∃o,objs[k]?=some o∧o.live=true∧o.ver=ver∧o.sz=1∧Nl (.int .i64) o.xs (HK.mk:HK K)):=λK k ver=>rfl
end Lp
namespace Lp
open Go Go.Proofs
theorem Ya(old now:List Vl){a b:Nat}(ha:a≤old.length)(hb:b≤now.length):∃r,(a_ old now)[a]?=some r∧r.length=now.length+1∧r[b]?=some (rD (a_ old now) a b):=by
 have hl:=jY old now
 have h:=List.getElem?_eq_getElem (show a<(a_ old now).length by omega)
 have hr:=uY old now _ (List.getElem_mem (show a<(a_ old now).length by omega))
 refine⟨_,h,hr,?_⟩
 have e:(a_ old now).getD a []=(a_ old now)[a]'(by omega):=by rw[List.getD_eq_getElem?_getD,h];rfl
 rw[rD,e,List.getD_eq_getElem?_getD,List.getElem?_eq_getElem (by omega)]
 rfl
theorem Z7(o:Obj)(l:List Int)(v:Nat):fA 1 0 [o,Sl l v] (.aS 1 v)=encI l:=by
 simp only[fA,Nat.not_lt_zero,if_false,kD,List.getElem?_cons_succ,List.getElem?_cons_zero,Sl,Nat.zero_le,decide_true,Bool.and_self,BEq.rfl,if_true,encI,List.map_map]
 congr 1
theorem Yb(l:List Int)(v n:Nat):∀x∈(Sl l v).xs,∀p∈x.cells,p.mE n=true:=by
 intro x hx c hc
 obtain⟨y,_,rfl⟩:=List.mem_map.1 hx
 simp only[PV.cells,List.mem_singleton]at hc
 subst hc;rfl
theorem Ht(old now:List Vl)(ho:old.length≤1000000)(hn:now.length≤1000000)(hlo:∀v∈old,v.length≤1000000)(hln:∀v∈now,v.length≤1000000) :
  av Tryz.prog 69 [bT old,bT now] [] (encI (dR old now)) []:=by
 refine xh.bR (T:=bA Tryz.prog [(97,ve),(16,dL),(98,tq)]) 1 hD (ay (af Jl (af jW (af MC au)))) bE (by decide) λQ hQ=>?_
 (conv=>arg 4;cbv);simp (maxSteps:=400000) only[↓aA,aB,BEq.rfl,seval,hQ,↓ve]
 refine⟨ho,hn,hlo,hln,?_⟩
 refine aQ (λm S=>∃(a b i v:Nat) (out:List Int),b+m=now.length∧y8 old now a b i out∧S=⟨dD 91 [(0,bT old),(1,bT now),(5,yY (a_ old now)),(6,.aS 0 v),(7,.int .i64 a),(8,.int .i64 i),(9,.int .i64 b)],[⟨3,1,out.map (.int .i64),true,v⟩]⟩) now.length ⟨0,0,0,1,[],by omega,y8.start old now,?_⟩ ?_
 ·simp only[cB,keepR,Nat.reduceAdd,oO,Nat.reduceBEq,List.map_nil]
  rfl
 rintro m S ⟨a,b,i,v,out,hbm,hI,rfl⟩
 have hol:=hI.len
 have hil:=hI.hi
 rcases Nat.lt_or_ge b now.length with hb | hb
 rotate_left 1
 ·have hbe:b=now.length:=by omega
  have hlt:((b:Int)<(now.length:Int))=False:=eq_false (by omega)
  have hdn:=hI.done hbe
  have hal:=hI.ha
  simp (maxSteps:=400000) only[↓aA,aB,BEq.rfl,seval,hQ,hlt,↓tq,abe,adQ]
  refine⟨by omega,⟨by omega,by omega⟩,⟨by omega,by omega⟩,?_⟩
  rw[hdn]
  exact (Z7 _ _ _).symm
 have hlt:((b:Int)<(now.length:Int))=True:=eq_true (by omega)
 have hy:now[b]?=some (now.getD b []):=by
  rw[List.getD_eq_getElem?_getD,List.getElem?_eq_getElem (by omega)];rfl
 have hym:now.getD b []∈now:=List.mem_of_getElem? hy
 have zb:(0≤(b:Int))=True:=eq_true (by omega)
 have zb1:(0≤(b:Int)+1)=True:=eq_true (by omega)
 have hb1:((b:Int)+1).toNat=b+1:=by omega
 simp (maxSteps:=400000) only[↓aA,aB,BEq.rfl,seval,hQ,hlt]
 refine aQ (λm S=>∃(a:Nat),a+m=old.length∧y8 old now a b i out∧S=⟨dD 91 [(0,bT old),(1,bT now),(5,yY (a_ old now)),(6,.aS 0 v),(7,.int .i64 a),(8,.int .i64 i),(9,.int .i64 b)],[⟨3,1,out.map (.int .i64),true,v⟩]⟩) (old.length-a) ⟨a,by have:=hI.ha;omega,hI,?_⟩ ?_
 ·simp only[cB,keepR,Nat.reduceAdd,oO,Nat.reduceBEq,List.map_nil]
 clear hI hil
 rintro m2 S ⟨a,ham,hI,rfl⟩
 have hil:=hI.hi
 have za:(0≤(a:Int))=True:=eq_true (by omega)
 have za1:(0≤(a:Int)+1)=True:=eq_true (by omega)
 have ha1:((a:Int)+1).toNat=a+1:=by omega
 rcases Nat.lt_or_ge a old.length with ha | ha
 rotate_left 1
 ·have hla:((a:Int)<(old.length:Int))=False:=eq_false (by omega)
  have hnx:=hI.none hb λh=>absurd h (by omega)
  simp (maxSteps:=400000) only[↓aA,aB,BEq.rfl,seval,hQ,hla]
  refine⟨by omega,by omega,⟨by omega,by omega⟩,m-1,by omega,a,b+1,i,v+1,_,by omega,hnx,?_⟩
  rw[List.map_append]
  rfl
 have hla:((a:Int)<(old.length:Int))=True:=eq_true (by omega)
 have hx:old[a]?=some (old.getD a []):=by
  rw[List.getD_eq_getElem?_getD,List.getElem?_eq_getElem (by omega)];rfl
 have hxm:old.getD a []∈old:=List.mem_of_getElem? hx
 have hxl:=hlo _ hxm
 have hyl:=hln _ hym
 obtain⟨r1,t1,s1,u1⟩:=Ya old now (a:=a+1) (b:=b) (by omega) (by omega)
 obtain⟨r0,t0,s0,u0⟩:=Ya old now (a:=a) (b:=b+1) (by omega) (by omega)
 have htl:=jY old now
 have w1:((a:Int)+1<((old.length+1:Nat):Int))=True:=eq_true (by omega)
 have w0:((a:Int)<((old.length+1:Nat):Int))=True:=eq_true (by omega)
 have x1:((b:Int)+1<((now.length+1:Nat):Int))=True:=eq_true (by omega)
 have x0:((b:Int)<((now.length+1:Nat):Int))=True:=eq_true (by omega)
 rcases tf (old.getD a []=now.getD b []) with he | he
 ·have hnx:=hI.pair ha hb (of_eq_true he)
  simp (maxSteps:=400000) only[↓aA,aB,BEq.rfl,seval,hQ,hla,za,hx,zb,hlt,hy,↓dL,he,↓tq,abe,adQ]
  refine⟨hxl,hyl,hxl,hyl,by omega,⟨by omega,by omega⟩,by omega,?_⟩
  refine bg ⟨dD 91 [(0,bT old),(1,bT now),(5,yY (a_ old now)),(6,.aS 0 (v+1)),(7,.int .i64 a),(8,.int .i64 i),(9,.int .i64 b)],[Sl (sZ out i a) (v+1)]⟩ ?_ ?_
  ·refine (Weak.norm [true,true,false,false,false,true,true,true,true,true] none trivial _).trans ?_
   simp only[cB,keepR,Nat.reduceAdd,oO,Nat.reduceBEq,List.map_nil]
   exact Weak.sup (O:=[Sl out v]) (o1:=Sl (sZ out i a) 0) 0 (v+1) rfl rfl (Nat.lt_succ_self v) (show (0:Nat)≤1 by decide) (λo ho=>by rw[List.mem_singleton]at ho;subst ho;exact Yb out v 1) (Yb _ _ _) rfl
  simp (maxSteps:=400000) only[↓aA,aB,BEq.rfl,seval,hQ]
  have hpl:(Sl (sZ out i a) (v+1)).xs.length=b:=by simp[Sl,DF,hol]
  refine⟨rfl,rfl,rfl,rfl,by omega,by omega,⟨by omega,by omega⟩,⟨by omega,by omega⟩,m-1,by omega,a+1,b+1,a+1,v+1+1,_,by omega,hnx,?_⟩
  rw[List.map_append]
  rfl
 rcases tf (rD (a_ old now) a (b+1)≤rD (a_ old now) (a+1) b) with hg | hg
 ·have hnx:=hI.skip ha hb (of_eq_false he) (of_eq_true hg)
  simp (maxSteps:=400000) only[↓aA,aB,BEq.rfl,seval,hQ,hla,za,hx,zb,hlt,hy,↓dL,he,za1,ha1,zb1,hb1,t1,t0,s1,s0,u1,u0,htl,w1,w0,x1,x0,hg]
  exact⟨hxl,hyl,⟨by omega,by omega⟩,⟨by omega,by omega⟩,⟨by omega,by omega⟩,m2-1,by omega,a+1,by omega,hnx,rfl⟩
 ·have hnx:=hI.none hb λ_=>⟨of_eq_false he,of_eq_false hg⟩
  simp (maxSteps:=400000) only[↓aA,aB,BEq.rfl,seval,hQ,hla,za,hx,zb,hlt,hy,↓dL,he,za1,ha1,zb1,hb1,t1,t0,s1,s0,u1,u0,htl,w1,w0,x1,x0,hg]
  refine⟨hxl,hyl,⟨by omega,by omega⟩,⟨by omega,by omega⟩,hxl,hyl,by omega,by omega,⟨by omega,by omega⟩,m-1,by omega,a,b+1,i,v+1,_,by omega,hnx,?_⟩
  rw[List.map_append]
  rfl
def pO:d9:=λargs objs K=>match args with
 | [a0,a1]=>gD bT a0 (HK.mk:HK λa=>gD bT a1 (HK.mk:HK λb=>(a.length≤1000000)∧(b.length≤1000000)∧(∀v∈a,v.length≤1000000)∧(∀v∈b,v.length≤1000000)∧K (encI (dR a b)) objs 0))
 | _=>False
theorem ER:aR Tryz.prog 69 (pO):=by
 intro args objs K h
 unfold pO at h
 split at h
 ·rename_i a0 a1
  obtain⟨a,rfl,b,rfl,h1,h2,h3,h4,hk⟩:=h
  exact⟨_,_,_,.pure _ rfl (Ht a b h1 h2 h3 h4),hk⟩
 ·exact h.elim
end Lp
namespace Lp
open Go Go.Proofs Go.Sort Go.RowKit
theorem Hu(n:Nat)(hn:n≤1000000):bits BinOp.and IntKind.u64 (n:Int) 4294967295=n:=by
 have h1:(BitVec.ofInt 64 (n:Int))=BitVec.ofNat 64 n:=by simp
 have h2:(BitVec.ofInt 64 4294967295)=BitVec.ofNat 64 4294967295:=by rfl
 show IntKind.u64.wrap ((BitVec.ofInt 64 (n:Int) &&& BitVec.ofInt 64 4294967295).toNat:Int)=n
 rw[h1,h2]
 have h3:(BitVec.ofNat 64 n &&& BitVec.ofNat 64 4294967295).toNat=n:=by
  rw[BitVec.toNat_and,BitVec.toNat_ofNat,BitVec.toNat_ofNat,Nat.mod_eq_of_lt (by omega:n<2 ^ 64),show (4294967295 % 2 ^ 64)=2 ^ 32-1 from rfl,Nat.and_two_pow_sub_one_eq_mod,Nat.mod_eq_of_lt (by omega)]
 rw[h3]
 exact iA (k:=.u64) ⟨by omega,by omega⟩
def fD(n k:Nat):List Value:=List.replicate k (.int .i64 (-1))++List.replicate (n-k) (.int .i64 0)
theorem vg{n k:Nat}(h:k≤n):(fD n k).length=n:=by simp[fD];omega
theorem Hw{n k j:Nat}(h:j<k):(fD n k)[j]?=some (.int .i64 (-1)):=by
 rw[fD,List.getElem?_append_left (by simpa using h),List.getElem?_replicate,if_pos h]
theorem Et{n k m:Nat}(h:k+m≤n):(fD n k).take k++List.replicate m (.int .i64 (-1))++(fD n k).drop (k+m)=fD n (k+m):=by
 simp only[fD]
 rw[List.take_left' (by simp),List.drop_append,List.drop_replicate,List.drop_replicate,List.length_replicate,←List.replicate_append_replicate]
 have e1:k-(k+m)=0:=by omega
 have e2:n-k-(k+m-k)=n-(k+m):=by omega
 rw[e1,e2];simp
theorem Pq{w:World}(o:Go.Obj){b:Nat}(hb:b<w.heap.size):(w.alloc o).heap[b]?=w.heap[b]?:=by
 have h:kr w (w.alloc o):=.push rfl
 rw[Array.getElem?_eq_getElem hb]
 exact h.2.1 b _ (Array.getElem?_eq_getElem hb)
def iOf:Value→Int
 | .int _ q=>q
 | _=>0
set_option maxRecDepth 1000000 in
set_option maxHeartbeats 4000000 in
theorem Ps(n:Nat)(hn:n≤1000000)(w:World)(xb xo xc:Nat)(hx:w.cell? ⟨xb,xo,none⟩=some (.int .i64 (-1)))(hxb:xb<w.heap.size):Calls Tryz.prog 117 #[.slice (some ⟨xb,xo,none⟩) 1 xc,.int .i64 n] w λe w'=>
  e=.returned (.slice (some ⟨w.heap.size,0,none⟩) n n)∧w'.heap[w.heap.size]?=some (.cells (fD n n).toArray 3 (0,0))∧(∀b,b<w.heap.size→w'.heap[b]?=w.heap[b]?)∧w.heap.size≤w'.heap.size∧Sm w w':=by
 have mixed:Tryz.prog.follows .mixedOrders=true:=by kernel_rfl
 have b1:bits BinOp.and IntKind.u64 1 4294967295=1:=Hu 1 (by omega)
 have b0:bits BinOp.and IntKind.u64 0 4294967295=0:=Hu 0 (by omega)
 have bn:=Hu n hn
 have dn:(n:Int) / 4294967296=0:=by omega
 have wn:IntKind.u64.wrap (n:Int)=n:=iA (k:=.u64) ⟨by omega,by omega⟩
 have wi:IntKind.i64.wrap (n:Int)=n:=iA (k:=.i64) ⟨by omega,by omega⟩
 have w0:IntKind.u64.wrap 0=0:=iA (k:=.u64) ⟨by omega,by omega⟩
 have w1:IntKind.u64.wrap 1=1:=iA (k:=.u64) ⟨by omega,by omega⟩
 have uL:Tryz.prog.underlying 80=some (.slice 3):=by kernel_rfl
 obtain⟨inf,hi,hz,hs,hb⟩:∃inf,Tryz.prog.info? 3=some inf∧inf.zero=some (.int .i64 0)∧inf.size=1∧inf.bytes=8:=⟨_,rfl,rfl,rfl,rfl⟩
 have hsz:(Tryz.prog.info? 3).map (·.size)=some 1:=by rw[hi];simp[hs]
 have hmk:=run_make (P:=Tryz.prog) w 80 3 inf (.int .i64 0) uL hi hz .i64 .i64 n n (by omega) (Int.le_refl _) (by rw[hb];omega) (by omega)
 have hmc:madeCells (Value.int .i64 0).cells ((n:Int).toNat*inf.size)=(fD n 0).toArray:=by
  rw[hs,Int.toNat_natCast,Nat.mul_one]
  apply Array.ext'
  simp[madeCells,fD,Value.cells,Nat.mod_one,List.map_const']
 rw[hmc]at hmk
 simp only[Int.toNat_natCast]at hmk
 have hg0:(w.alloc (.cells (fD n 0).toArray 3)).heap[w.heap.size]?=some (.cells (fD n 0).toArray 3 (0,0)):=World.alloc_heap_new w _
 have hcp1:∀ty dc sc,(Builtin.copy_ #[80,80] ty #[.slice (some ⟨w.heap.size,0,none⟩) n dc,.slice (some ⟨xb,xo,none⟩) 1 sc]).run Tryz.prog (w.alloc (.cells (fD n 0).toArray 3))=.ok (goInt (min 1 n:Nat)) ((w.alloc (.cells (fD n 0).toArray 3)).setRow w.heap.size (fD n (min 1 n)).toArray):=λty dc sc=>by
  have hcl:(List.replicate (min 1 n) (Value.int .i64 (-1))).length=min 1 n:=by simp
  have h:=run_copy_row (P:=Tryz.prog) (w.alloc (.cells (fD n 0).toArray 3)) 80 80 ty 3 w.heap.size 0 n dc ⟨xb,xo,none⟩ 1 sc (fD n 0).toArray 3 (List.replicate (min 1 n) (.int .i64 (-1))) uL hsz hg0 hcl (λj v hj=>by
   rw[List.getElem?_replicate]at hj
   split at hj
   ·rename_i hj1
    have:j=0:=by omega
    subst this
    cases hj
    rw[Addr.add_lit]
    exact cell_of_heap hx λx hx' _=>by rw[Pq _ hxb];exact hx'
   ·cases hj) (by rw[hcl];simp[vg (Nat.zero_le n)];omega) (λv hv=>by rw[(List.mem_replicate.1 hv).2];rfl)
  rw[h,hcl]
  have e:=Et (n:=n) (k:=0) (m:=min 1 n) (by omega)
  simp only[Nat.zero_add]at e ⊢
  rw[e]
 go_enter Tryz.func117,Tryz.ntmps117
 go_wp2
 go_loopw [8] (λi wr=>∃k:Nat,k≤n∧(k=0→n=0)∧i=.int .i64 k∧wr.heap[w.heap.size]?=some (.cells (fD n k).toArray 3 (0,0))∧(∀b,b<w.heap.size→wr.heap[b]?=w.heap[b]?)∧wr.heap.size=w.heap.size+1∧Sm w wr) (λi _=>n-(iOf i).toNat)
 case atStart=>
  refine⟨min 1 n,by omega,by omega,rfl,?_,λb hb=>?_,?_,⟨rfl,rfl⟩⟩
  ·exact setRow_heap _ _ _ _ _ _ hg0
  ·rw[setRow_other _ _ b _ (by omega)];exact Pq _ hb
  ·rw[setRow_size];exact World.size_alloc _ _
 case round=>
  obtain⟨k,hk,hk0,rfl,hr1,hr2,hr3,hr4⟩:=hrel
  by_cases hkn:k<n
  ·have hnk:¬ n=k:=by omega
   have hcp2:∀ty dc sc,(Builtin.copy_ #[80,80] ty #[.slice (some ⟨w.heap.size,k,none⟩) (n-k) dc,.slice (some ⟨w.heap.size,0,none⟩) k sc]).run Tryz.prog wr.drew=.ok (goInt (min k (n-k):Nat)) (wr.drew.setRow w.heap.size (fD n (k+min k (n-k))).toArray):=λty dc sc=>by
    have hcl:(List.replicate (min k (n-k)) (Value.int .i64 (-1))).length=min k (n-k):=by simp
    have h:=run_copy_row (P:=Tryz.prog) wr.drew 80 80 ty 3 w.heap.size k (n-k) dc ⟨w.heap.size,0,none⟩ k sc (fD n k).toArray 3 (List.replicate (min k (n-k)) (.int .i64 (-1))) uL hsz hr1 hcl (λj v hj=>by
     rw[List.getElem?_replicate]at hj
     split at hj
     ·rename_i hj1
      cases hj
      have hh:wr.drew.heap[w.heap.size]?=some (.cells (fD n k).toArray 3 (0,0)):=hr1
      rw[Addr.add_lit]
      simp only[World.cell?,hh,Nat.zero_add,List.getElem?_toArray]
      exact Hw (by omega)
     ·cases hj) (by rw[hcl];simp[vg hk];omega) (λv hv=>by rw[(List.mem_replicate.1 hv).2];rfl)
    rw[h,hcl]
    rw[Et (by omega)]
   have hwr:IntKind.i64.wrap ((k:Int)+((min k (n-k):Nat):Int))=((k+min k (n-k):Nat):Int):=by rw[iA (k:=.i64) ⟨by omega,by omega⟩];omega
   have hki:0<k:=by omega
   go_wp2
   go_region_law_o (refine step_copy_runI rfl _ _ 80 80 rfl _ _ (by simp[Act.eval,Act.put]) (by simp[Act.eval,Act.put]) (hcp2 _ _ _) ?_)
   simp only[Act.put,List.getElem_toArray,List.getElem_cons_succ,List.getElem_cons_zero,List.setIfInBounds_toArray,List.set_cons_succ,List.set_cons_zero]
   go_wp2
   refine⟨⟨_,_,_,_,_,_,_,_,_,_,_,_,_,_,⟨k+min k (n-k),by omega,by omega,by rw[Int.natCast_add],?_,λb hb=>?_,?_,hr4⟩,rfl⟩,?_⟩
   ·exact setRow_heap _ _ _ _ _ _ hr1
   ·rw[setRow_other _ _ b _ (by omega)];exact hr2 b hb
   ·rw[setRow_size];exact hr3
   ·show n-((k:Int)+((min k (n-k):Nat):Int)).toNat<n-((k:Int)).toNat
    omega
  ·obtain rfl:k=n:=by omega
   go_wp2
   go_ret
   exact⟨rfl,hr1,hr2,by omega,hr4⟩
def Sn(n:Nat):List PV:=(List.replicate n (-1:Int)).map (.int .i64)
theorem Pt(n:Nat)(hn:n≤1000000):av Tryz.prog 117 [.sl 1 [.int .i64 (-1)] none,.int .i64 n] [] (.aS 0 0) [⟨3,1,Sn n,true,0⟩]:=by
 refine⟨⟨_,Tryz.func117,by kernel_rfl,by kernel_rfl⟩,λw blk vs base hbase _ hargs=>?_⟩
 have hargs':bG (cu w (aZ base [] blk)) [.sl 1 [.int .i64 (-1)] none,.int .i64 n] vs:=⟨hargs.1,λi p v hp hv=>qx (hargs.2 i p v hp hv)⟩
 obtain⟨u,v,rfl,h1,h2⟩:=ZM hargs'
 cases GN h2
 cases h1 with
 | sl _ _ _ _ b off cap vv hok hlen hcap hsz hcell hrep=>
 have hc:=hcell 0 (.int .i64 (-1)) 0 (.int .i64 (-1)) rfl rfl
 have hr:=hrep 0 (.int .i64 (-1)) 0 (.int .i64 (-1)) rfl rfl
 rw[GN hr]at hc
 have hb:=(hok (by simp)).2
 have e0:off+0*1+0=off:=by omega
 rw[e0]at hc
 refine (Ps n hn w b off cap hc hb).mono ?_
 rintro e w' ⟨rfl,k1,k2,k3,k4⟩
 have hsize:w.heap.size<w'.heap.size:=(Array.getElem?_eq_some_iff.1 k1).1
 refine⟨_,λk=>if k=0 then some w.heap.size else none,rfl,⟨λk o hk hl=>?_,λk k' o o' g hkk hk hl hk' hl' hg=>?_,λk o g hk hl hg hp=>?_⟩,?_,λb hb _=>k2 b hb,k3,k4⟩
 ·match k,hk with
  | 0,hk=>
   cases hk
   refine⟨(fD n n).toArray,?_,qQ (show 3≠MT by decide) (by simp[Sn,vg]),λi x hx=>?_⟩
   ·rw[jv (show 3≠MT by decide)];exact k1
   ·rw[Sn,List.getElem?_map,List.getElem?_replicate]at hx
    split at hx
    ·rename_i hi
     cases hx
     refine⟨rfl,λj p hp=>?_⟩
     match j,hp with
     | 0,hp=>
      cases hp
      refine⟨.int .i64 (-1),?_,.aI (.int _ _)⟩
      rw[List.getElem?_toArray,Nat.add_zero,Nat.mul_one];exact Hw hi
    ·cases hx
 ·match k,k',hk,hk' with
  | 0,0,_,_=>exact absurd rfl hkk
 ·match k,hk with
  | 0,hk=>
   simp only[if_true,Option.some.injEq]at hg
   omega
 ·refine .dS ?_
  refine⟨rfl,_,rfl,Nat.le_refl _,λ_ _=>⟨(show 3≠MT by decide),n,(fD n n).toArray,?_,k1,?_,?_,?_⟩⟩
  ·simp[Sn]
  ·simp[Sn]
  ·simp[maxLen];omega
  ·simp[vg]
theorem Z8(n:Nat){ver:Nat}:bC [⟨3,1,Sn n,true,ver⟩]:=by
 intro o ho x hx c hc
 simp only[List.mem_singleton]at ho;subst ho
 obtain⟨p,_,rfl⟩:=List.mem_map.1 hx
 simp only[PV.cells,List.mem_singleton]at hc;subst hc;rfl
def yE:d9:=λargs objs K=>match args with
 | [x,.int .i64 n]=>gD encI x (HK.mk:HK λl=>l=[-1]∧0≤n∧n≤1000000∧K (.aS objs.length 0) (objs++[⟨3,1,Sn n.toNat,true,0⟩]) 2)
 | _=>False
theorem ME:aR Tryz.prog 117 yE:=by
 intro args objs K h
 unfold yE at h
 split at h
 ·rename_i x n
  obtain⟨l,rfl,rfl,h1,h2,hk⟩:=h
  have hs:=Pt n.toNat (by omega)
  rw[Int.toNat_of_nonneg h1]at hs
  exact⟨_,_,_,mI.made (objs:=objs) _ _ rfl (Z8 n.toNat) hs,by simpa[PV.shift,PV.jN] using hk⟩
 ·exact h.elim
end Lp
namespace Lp
open Go
open List (append_nil length_append set_append_right)
variable {P:Program}{D:TypeId→aD}{T:Know}
def Jm(P:Program)(l:List (FuncId×d9)):Know:={ bA P l with fa:=jA P }
theorem Yc{l:List (FuncId×d9)}(h:jP P (lu l)):tL P none sJ (Jm P l):=.ac6 h rfl (λ_ _ _ h=>h) (λ_ _ _ h=>h) rfl (λ_ _ _ h=>h.elim) λ_ _ _ _ h=>h
theorem Hy{l:List (FuncId×d9)}(h:jP P (lu l))(n:Nat):tL P none (LW n) ((Jm P l).use n):=.use h rfl (λ_ _ _ h=>h) (λ_ _ _ h=>h) rfl (λ_ _ _ h=>h.elim) λ_ _ _ _ h=>h
theorem vk{ev:Operand→PV}{g:FuncId}{first args cap:List PV}{objs:List Obj}{K:KT}(hr:T.rg=true)(hf:T.fa=jA P)(h:jA P g (first++args++cap) objs K):Kk T ev (.fn g first cap) args objs (U8.mk:U8 K):=by
 refine .inr ⟨hr,?_⟩
 show T.fa _ _ _ _
 rw[hf];exact h
theorem jA.mono {f:FuncId}{args:List PV}{objs:List Obj}{K K':KT}(h:jA P f args objs K)(hk:∀r o t,K r o t→K' r o t):jA P f args objs K':=
 ⟨h.1,λbase ah w0 tmps blk a w vs R ha=>(h.2 base ah w0 tmps blk a w vs R ha).mono λ_ _ ⟨v,r,o,b,h1,h2,h3⟩=>⟨v,r,o,b,h1,hk _ _ _ h2,h3⟩⟩
theorem tu{O X:List Obj}{n:Nat}(h:O.length=n):(O++X).take n=O:=by rw[←h,List.take_left]
theorem xq{O X:List Obj}{n:Nat}(h:O.length=n):(O++X).drop n=X:=by rw[←h,List.drop_left]
theorem Yd{O:List Obj}{n:Nat}(h:O.length=n)(hl:bI O):∀o∈O,o.live=true→∀x∈o.xs,∀p∈x.cells,p.mE n=true:=λo ho _ x hx p hp=>by
 have:=hl o ho x hx p hp
 rwa[h]at this
def geA(n:Nat)(l:List (Nat×PV)):Bool:=l.all λx=>x.2.ge n
theorem nX{n m:Nat}{l:List (Nat×PV)}{ob:List Obj}(h:geA n l=true)(t:Nat):((St.mk (dD m l) ob).ev (.tmp t)).ge n=true:=by
 show ((dD m l).getD t .dead).ge n=true
 rcases Nat.lt_or_ge t m with ht | ht
 ·rw[uI.2.1 m l t ht]
  induction l with
  | nil=>rfl
  | cons x l ih=>
   obtain⟨i,p⟩:=x
   simp only[geA,List.all_cons,Bool.and_eq_true]at h
   by_cases e:t=i
   ·subst e
    rw[oO.1];exact h.1
   ·rw[oO.2.1 t i p l (by simpa using e)]
    exact ih h.2
 ·rw[List.getD_eq_getElem?_getD,List.getElem?_eq_none (by rw[lD];exact ht)];rfl
theorem VJ(n:Nat):(geA n []=true)∧(∀i p l,geA n ((i,p)::l)=(p.ge n && geA n l))∧(∀k m,PV.ge n (.int k m)=true)∧(∀b,PV.ge n (.bool b)=true)∧(∀s,PV.ge n (.str s)=true)∧(∀z x q,PV.ge n (.sl z x q)=true)∧(∀x,PV.ge n (.addr x)=true)∧
  (∀l,PV.ge n (.qI l)=true)∧(∀k v i f,PV.ge n (.bf (n+k) v i f)=true)∧(∀v i f,PV.ge n (.bf n v i f)=true)∧(∀k v,PV.ge n (.fM (n+k) v)=true)∧(∀v,PV.ge n (.fM n v)=true)∧(∀f x,PV.ge n (.fn f [] [.addr x])=true)∧(PV.ge n (.bY [])=true)∧(PV.ge n .dead=true)∧
  (∀k v,PV.ge n (.aS (n+k) v)=true)∧(∀v,PV.ge n (.aS n v)=true)∧(∀f k v i e,PV.ge n (.fn f [] [.bf (n+k) v i e])=true):=
 ⟨rfl,λ_ _ _=>rfl,λ_ _=>rfl,λ_=>rfl,λ_=>rfl,λ_ _ _=>rfl,λ_=>rfl,λ_=>rfl,λ_ _ _ _=>by simp[PV.ge,PV.Ea],λ_ _ _=>by simp[PV.ge,PV.Ea],λ_ _=>by simp[PV.ge,PV.Ea],λ_=>by simp[PV.ge,PV.Ea],λ_ _=>rfl,rfl,rfl,
  λ_ _=>by simp[PV.ge,PV.Ea],λ_=>by simp[PV.ge,PV.Ea],λ_ _ _ _ _=>by simp[PV.ge,PV.Ea]⟩
theorem Ck{ev:Operand→PV}{ys:List (List PV)}{I J:Nat→List Obj→Prop}{n i:Nat}{l:Nat}{args:List PV}{O X:List Obj}{K:KT}(hb:T.bb=true)(hn:T.bn=n)(hY:T.YB=Iq ys I J)(hl:l=T.y)
  (je:∀i O,I i O→O.length=n∧bI O) (jB:∀i O,J i O→O.length=n∧bI O∧bC O) (hev:∀t,(ev (.tmp t)).ge n=true) (hX:Zh n X) (hp:args.all PV.pure=true) (hI:I i O) (hy:ys[i]?=some args)
  (h1:∀O',I (i+1) O'→K (.bool true) (O'++X) 2) (h2:∀O',J i O'→K (.bool false) (O'++X) 2):Kk T ev (.qI l) args (O++X) (U8.mk:U8 K):=by
 obtain⟨ho,hlt⟩:=je i O hI
 refine .inl ⟨hb,?_,?_,?_,?_,hl,hp,?_⟩
 ·rw[hn,length_append];omega
 ·rw[hn,tu ho];exact Yd ho hlt
 ·rw[hn];exact hev
 ·rw[hn,xq ho];exact hX
 ·rw[hY,hn,tu ho,xq ho]
  exact⟨i,hI,hy,λO' h=>⟨(je _ _ h).1,h1 O' h⟩,λO' h=>⟨(jB _ _ h).1,h2 O' h⟩⟩
theorem MF{ev:Operand→PV}{g:FuncId}{ys qs:List (List PV)}{I J:Nat→List Obj→Prop}{n i:Nat}{args bargs:List PV}{O X:List Obj}{K:KT}(hb:T.bb=true)(hn:T.bn=n)(hY:T.YB=Iq ys I J)(hg:T.gb=fC P)
  (je:∀i O,I i O→O.length=n∧bI O) (jB:∀i O,J i O→O.length=n∧bI O∧bC O) (hev:∀t,(ev (.tmp t)).ge n=true) (hX:Zh n X) (he:args=bargs++[.qI T.y]) (hp:bargs.all PV.pure=true) (hG:fC P g bargs qs) (hI:I i O)
  (hy:∀j a,qs[j]?=some a→ys[i+j]?=some a) (h1:∀O',I (i+qs.length) O'→K (.bool true) (O'++X) 2) (h2:∀j O',j<qs.length→J (i+j) O'→K (.bool false) (O'++X) 2):Kk T ev (.fn g [] []) args (O++X) (U8.mk:U8 K):=by
 obtain⟨ho,hlt⟩:=je i O hI
 refine .inl ⟨hb,?_,?_,?_,?_,bargs,qs,λj=>I (i+j),λj=>J (i+j),by simpa using he,hp,by rw[hg];exact hG,?_,?_,λj O h=>?_,λj O h=>?_,λO' h=>?_,λj O' hj h=>?_⟩
 ·rw[hn,length_append];omega
 ·rw[hn,tu ho];exact Yd ho hlt
 ·rw[hn];exact hev
 ·rw[hn,xq ho];exact hX
 ·rintro a O1 K1 ⟨j,q1,q2,q3,q4⟩
  rw[hY]
  exact⟨i+j,q1,hy j a q2,q3,q4⟩
 ·rw[hn,tu ho];exact hI
 ·rw[hn];exact je _ _ h
 ·rw[hn];exact jB _ _ h
 ·rw[hn,xq ho];exact h1 O' h
 ·rw[hn,xq ho];exact h2 j O' hj h
theorem Hz{ev:Operand→PV}{ys:List (List PV)}{I J:Nat→List Obj→Prop}{n i:Nat}{l:Nat}{args:List PV}{O:List Obj}{K:KT}(hb:T.bb=true)(hn:T.bn=n)(hY:T.YB=Iq ys I J)(hl:l=T.y)
  (je:∀i O,I i O→O.length=n∧bI O) (jB:∀i O,J i O→O.length=n∧bI O∧bC O) (hev:∀t,(ev (.tmp t)).ge n=true) (hp:args.all PV.pure=true) (hI:I i O) (hy:ys[i]?=some args)
  (h1:∀O',I (i+1) O'→K (.bool true) O' 2) (h2:∀O',J i O'→K (.bool false) O' 2):Kk T ev (.qI l) args O (U8.mk:U8 K):=by
 have h:=Ck (X:=[]) (K:=K) (ev:=ev) (args:=args) (O:=O) hb hn hY hl je jB hev (λo ho=>by cases ho) hp hI hy (λO' h=>by rw[append_nil];exact h1 O' h) λO' h=>by rw[append_nil];exact h2 O' h
 rwa[append_nil]at h
theorem HV{ev:Operand→PV}{g:FuncId}{ys qs:List (List PV)}{I J:Nat→List Obj→Prop}{n i:Nat}{args bargs:List PV}{O:List Obj}{K:KT}(hb:T.bb=true)(hn:T.bn=n)(hY:T.YB=Iq ys I J)(hg:T.gb=fC P)
  (je:∀i O,I i O→O.length=n∧bI O) (jB:∀i O,J i O→O.length=n∧bI O∧bC O) (hev:∀t,(ev (.tmp t)).ge n=true) (he:args=bargs++[.qI T.y]) (hp:bargs.all PV.pure=true) (hG:fC P g bargs qs) (hI:I i O)
  (hy:∀j a,qs[j]?=some a→ys[i+j]?=some a) (h1:∀O',I (i+qs.length) O'→K (.bool true) O' 2) (h2:∀j O',j<qs.length→J (i+j) O'→K (.bool false) O' 2):Kk T ev (.fn g [] []) args O (U8.mk:U8 K):=by
 have h:=MF (X:=[]) (K:=K) (ev:=ev) (args:=args) (O:=O) hb hn hY hg je jB hev (λo ho=>by cases ho) he hp hG hI hy (λO' h=>by rw[append_nil];exact h1 O' h) λj O' hj h=>by rw[append_nil];exact h2 j O' hj h
 rwa[append_nil]at h
theorem HY{O:List Obj}{n:Nat}(h:O.length=n) :
  (∀a X,(O++a::X)[n]?=some a)∧(∀a X (j:Nat),(O++a::X)[n+(j+1)]?=X[j]?)∧(∀a b X,(O++a::X).set n b=O++b::X)∧(∀a b X (j:Nat),(O++a::X).set (n+(j+1)) b=O++a::X.set j b)∧
  (∀X,(O++X).length=n+X.length):=by
 subst h
 refine⟨λa X=>?_,λa X j=>?_,λa b X=>?_,λa b X j=>?_,λX=>length_append⟩
 ·rw[List.getElem?_append_right (Nat.le_refl _),Nat.sub_self];rfl
 ·rw[List.getElem?_append_right (by omega),show O.length+(j+1)-O.length=j+1 by omega];rfl
 ·rw[set_append_right _ _ (Nat.le_refl _),Nat.sub_self];rfl
 ·rw[set_append_right _ _ (by omega),show O.length+(j+1)-O.length=j+1 by omega];rfl
theorem o5(n:Nat)(O:List Obj):(n+1+1=n+2)∧(n+2+1=n+3)∧(n+3+1=n+4)∧(n+4+1=n+5)∧(n+5+1=n+6)∧(n+6+1=n+7)∧
  (∀X Y,(O++X)++Y=O++(X++Y))∧(∀(a:Obj) X,(a::X)[0]?=some a)∧(∀(a:Obj) X (j:Nat),(a::X)[j+1]?=X[j]?):=
 ⟨rfl,rfl,rfl,rfl,rfl,rfl,λ_ _=>List.append_assoc ..,λ_ _=>rfl,λ_ _ _=>rfl⟩
theorem ntS(k:Nat)(l:List Nat):noTwo ((4+2*k)::l)=noTwo l:=by simp[noTwo,aaD]
theorem ES(fn:Ni)(y:Nat)(YB:YT)(n:Nat):((nC P fn y YB n).fn=fn)∧((nC P fn y YB n).QW.fn=fn)∧((nC P fn y YB n).rg=true)∧((nC P fn y YB n).nx=n):=
 ⟨rfl,rfl,rfl,rfl⟩
theorem kbI(fn:Ni)(y:Nat)(YB:YT)(n m:Nat):(((nC P fn y YB n).oV m).fn=fn)∧(((nC P fn y YB n).oV m).QW.fn=fn)∧(((nC P fn y YB n).oV m).rg=true)∧(((nC P fn y YB n).oV m).nx=m):=
 ⟨rfl,rfl,rfl,rfl⟩
theorem aW.abf {f:FuncId}{n:Nat}{C:LC}{args:List PV}{objs:List Obj}{K:KT}(h:aW P f n [] C)(hD:∀t,fB P t (D t))(hT:tL P none (LW objs.length) T)(hm:P.follows .mixedOrders=true)
  (hw:∀Q:Exit→St→Prop,(∀tm ob,Q .ret ⟨tm,ob⟩=K (.bY []) ob 2)→(∀tm ob,Q .normal ⟨tm,ob⟩=K (.bY []) ob 2)→iK P D T C Q ⟨(aY args n).tmps,objs⟩):jA P f args objs K:=by
 refine h.ads hD hT hm (Nat.zero_le _) (hw _ (λtm ob=>?_) λtm ob=>?_)<;>simp[ZJ,kT,fU]
theorem aW.adR {f:FuncId}{n t:Nat}{C:LC}{args:List PV}{objs:List Obj}{K:KT}(h:aW P f n [.tmp t] C)(hD:∀t,fB P t (D t))(hT:tL P none (LW objs.length) T)(hm:P.follows .mixedOrders=true)(ht:t<n)
  (hw:∀Q:Exit→St→Prop,(∀l ob,Q .ret ⟨dD n l,ob⟩=K (qK l t) ob 2)→iK P D T C Q ⟨(aY args n).tmps,objs⟩):jA P f args objs K:=by
 refine h.ads hD hT hm (Nat.le_refl _) (hw _ λl ob=>?_)
 show ((_∨_)∧K (fU [(dD n l).getD t .dead]) ob 2)=_
 rw[uI.2.1 n l t ht]
 simp[fU]
structure VK (I J:Nat→List Obj→Prop) (n len:Nat) (p:PV) (ob:List Obj):Prop where
 h:∃b,p=.bool b∧((b=true∧I len (ob.take n))∨(b=false∧∃i,i<len∧J i (ob.take n)))
theorem DI{I J:Nat→List Obj→Prop}{n len:Nat}{O X:List Obj}(h:I len O)(hl:O.length=n):VK I J n len (.bool true) (O++X):=⟨true,rfl,.inl ⟨rfl,by rw[tu hl];exact h⟩⟩
theorem lK{I J:Nat→List Obj→Prop}{n len i:Nat}{O X:List Obj}(hi:i<len)(h:J i O)(hl:O.length=n):VK I J n len (.bool false) (O++X):=⟨false,rfl,.inr ⟨rfl,i,hi,by rw[tu hl];exact h⟩⟩
theorem nY{I J:Nat→List Obj→Prop}{n len:Nat}{O:List Obj}(h:I len O)(hl:O.length=n):VK I J n len (.bool true) O:=by
 have:=DI (J:=J) (X:=[]) h hl
 rwa[append_nil]at this
theorem oJ{I J:Nat→List Obj→Prop}{n len i:Nat}{O:List Obj}(hi:i<len)(h:J i O)(hl:O.length=n):VK I J n len (.bool false) O:=by
 have:=lK (I:=I) (X:=[]) hi h hl
 rwa[append_nil]at this
theorem aW.TW {f:FuncId}{n t:Nat}{C:LC}{bargs:List PV}{ys:List (List PV)}{fnT:Ni}(h:aW P f n [.tmp t] C)(hD:∀t,fB P t (D t))(hT:jP P fnT)(hm:P.follows .mixedOrders=true)(ht:t<n)
  (hw:∀(I J:Nat→List Obj→Prop) (objs:List Obj) (y:Nat) (Q:Exit→St→Prop),I 0 objs→(∀i O,I i O→O.length=objs.length∧bI O)→(∀i O,J i O→O.length=objs.length∧bI O∧bC O)→
   (∀l ob,Q .ret ⟨dD n l,ob⟩=VK I J objs.length ys.length (qK l t) ob)→iK P D (nC P fnT y (Iq ys I J) objs.length) C Q ⟨(aY (bargs++[.qI y]) n).tmps,objs⟩):fC P f bargs ys:=by
 refine h.Xk hD hT hm (by simp) λI J objs y h0 je jB=>hw I J objs y _ h0 je jB λl ob=>?_
 refine propext ⟨λ⟨_,b,h1,h2⟩=>⟨b,?_,h2⟩,λ⟨b,h1,h2⟩=>⟨.inr rfl,b,?_,h2⟩⟩
 ·simp only[kT,List.cons.injEq,and_true]at h1
  rw[←h1];exact (uI.2.1 n l t ht).symm
 ·simp only[kT,List.cons.injEq,and_true]
  rw[←h1];exact uI.2.1 n l t ht
theorem aW.Z9 {f:FuncId}{n t:Nat}{ty:TypeId}{C:LC}{bargs:List PV}{ys:List (List PV)}{fnT:Ni}(h:aW P f n [.cell t ty] C)(hD:∀t,fB P t (D t))(hT:jP P fnT)(hm:P.follows .mixedOrders=true)(ht:t<n)
  (hw:∀(I J:Nat→List Obj→Prop) (objs:List Obj) (y:Nat) (Q:Exit→St→Prop),I 0 objs→(∀i O,I i O→O.length=objs.length∧bI O)→(∀i O,J i O→O.length=objs.length∧bI O∧bC O)→
   (∀l ob,Q .ret ⟨dD n l,ob⟩=eD (D ty) (qK l t) ob λp _ _=>VK I J objs.length ys.length p ob)→iK P D (nC P fnT y (Iq ys I J) objs.length) C Q ⟨(aY (bargs++[.qI y]) n).tmps,objs⟩):fC P f bargs ys:=by
 refine h.Xk hD hT hm (by simp) λI J objs y h0 je jB=>hw I J objs y _ h0 je jB λl ob=>?_
 have key:∀(K:PV→Prop) (p:PV),(eD (D ty) p ob λp _ _=>K p)→∃q,(∀K':PV→Prop,K' q→eD (D ty) p ob λp _ _=>K' p)∧K q:=by
  intro K p h
  unfold eD at h
  split at h
  ·obtain⟨a,b,c,d⟩:=h
   exact⟨_,λK' hk=>⟨a,b,c,hk⟩,d⟩
  ·obtain⟨o,e,a1,a2,a3,a4,a5,a6,a7,a8,d⟩:=h
   exact⟨_,λK' hk=>⟨o,e,a1,a2,a3,a4,a5,a6,a7,a8,hk⟩,d⟩
  ·exact h.elim
 have ht':(dD n l).getD t .dead=qK l t:=uI.2.1 n l t ht
 refine propext ⟨λ⟨_,b,h1,h2⟩=>?_,λh1=>?_⟩
 ·change eD (D ty) ((dD n l).getD t .dead) ob (λp _ _=>[p]=[.bool b]) at h1
  rw[ht']at h1
  obtain⟨q,hq,hb⟩:=key _ _ h1
  exact hq _ ⟨b,by simpa using hb,h2⟩
 ·obtain⟨q,hq,b,hb,h2⟩:=key _ _ h1
  refine⟨.inr rfl,b,?_,h2⟩
  show eD (D ty) ((dD n l).getD t .dead) ob (λp _ _=>[p]=[.bool b])
  rw[ht']
  exact hq (λp=>[p]=[.bool b]) (by rw[hb])
theorem acf{n m:Nat}{l:List (Nat×PV)}(h:geA n l=true):∀p∈dD m l,p.ge n=true:=by
 intro p hp
 obtain⟨i,hi,rfl⟩:=List.mem_iff_getElem.1 hp
 have:=nX (m:=m) (ob:=[]) h i
 change ((dD m l).getD i .dead).ge n=true at this
 rwa[List.getD_eq_getElem?_getD,List.getElem?_eq_getElem hi]at this
theorem Ye{O X:List Obj}{n k:Nat}(hO:O.length=n)(hl:bI O)(hX:bC X)(hk:k=n+X.length):Gh k (O++X++[vU,hole]):=by
 subst hk
 have hl2:(O++X).length=n+X.length:=by rw[length_append,hO]
 refine⟨by simp[hO];omega,λo ho x hx c hc=>?_,?_,?_⟩
 ·rcases List.mem_append.1 ho with ho | ho
  ·rcases List.mem_append.1 ho with ho | ho
   ·exact Gd (by simp) (hl o ho x hx c hc)
   ·have:=hX o ho x hx c hc
    cases c<;>first | rfl | (simp[PV.ref]at this)
  ·simp only[List.mem_cons,List.not_mem_nil,or_false]at ho
   rcases ho with rfl | rfl<;>cases hx
 ·rw[←hl2,List.getElem?_append_right (Nat.le_refl _),Nat.sub_self];rfl
 ·rw[←hl2,List.getElem?_append_right (by omega),Nat.add_sub_cancel_left];rfl
theorem Sq{O X:List Obj}(hO:bC O)(hX:bC X):bC (O++X++[vU,hole]):=by
 intro o ho x hx c hc
 rcases List.mem_append.1 ho with ho | ho
 ·rcases List.mem_append.1 ho with ho | ho
  ·exact hO o ho x hx c hc
  ·exact hX o ho x hx c hc
 ·simp only[List.mem_cons,List.not_mem_nil,or_false]at ho
  rcases ho with rfl | rfl<;>cases hx
theorem Yf{O X:List Obj}{k:Nat}(h:k=O.length+X.length):fF k (O++X++[vU,hole])=O++(X++[hole,vU]):=by
 have hl2:(O++X).length=k:=by rw[length_append,h]
 rw[fF,set_append_right _ _ (by omega),hl2,Nat.sub_self,set_append_right _ _ (by omega),hl2,Nat.add_sub_cancel_left,←List.append_assoc]
 rfl
theorem MG{X:List Obj}(h:bC X)(n:Nat):Zh n X:=λo ho x hx c hc=>kE (h o ho x hx c hc)
end Lp
namespace Lp
open Go Go.Proofs
open Int (natCast_add toNat_natCast)
def y9(R:List Int)(v:Nat)(i k:Int):List Obj:=[⟨3,1,R.map (.int .i64),true,v⟩,⟨80,1,[.aS 0 v],true,1⟩,⟨3,1,[.int .i64 i],true,1⟩,⟨3,1,[.int .i64 k],true,1⟩]
theorem Z_(l:List (FuncId×d9)):((Jm Tryz.prog l).fn=lu l)∧((Jm Tryz.prog l).QW.fn=lu l)∧((Jm Tryz.prog l).nx=0)∧((Jm Tryz.prog l).rg=true):=⟨rfl,rfl,rfl,rfl⟩
theorem acg(l:List (FuncId×d9))(n:Nat):(((Jm Tryz.prog l).use n).fn=lu l)∧(((Jm Tryz.prog l).use n).QW.fn=lu l)∧(((Jm Tryz.prog l).use n).nx=n):=⟨rfl,rfl,rfl⟩
theorem HZ(R:List Int)(v a b i k:Nat)(K:KT)(ha:a≤1000000)(hb:b≤R.length)(hR:R.length≤1000000)(hi:i≤1000000)(hk:K (.bY []) (y9 (ni (b-k) R i k a) v a b) 2)(hkk:k≤1000000) :
  jA Tryz.prog 118 [.int .i64 a,.int .i64 b,.bf 2 1 0 0,.bf 3 1 0 0,.bf 1 1 0 0] (y9 R v i k) K:=by
 refine BJ.abf hD (Hy au 4) bE λQ hQ hQn=>?_
 (conv=>arg 4;cbv);simp (maxSteps:=400000) only[↓aA,aB,BEq.rfl,seval,hQ,y9]
 refine aQ (λm S=>∃(i' k':Nat) (R':List Int),m=b-k'∧i'≤1000000∧k'≤1000000∧R'.length=R.length∧ni (b-k') R' i' k' a=ni (b-k) R i k a∧
  S=⟨dD 25 [(0,.int .i64 a),(1,.int .i64 b),(2,.bf 2 1 0 0),(3,.bf 3 1 0 0),(4,.bf 1 1 0 0)],y9 R' v i' k'⟩) (b-k) ⟨i,k,R,rfl,hi,hkk,rfl,rfl,?_⟩ ?_
 ·simp only[cB,keepR,Nat.reduceAdd,oO,Nat.reduceBEq,List.map_nil]
  rfl
 rintro m S ⟨i',k',R',rfl,hi',hk',hR',hg,rfl⟩
 rcases Nat.lt_or_ge i' a with h1 | h1
 ·have h1':((i':Int)<(a:Int))=True:=eq_true (by omega)
  rcases Nat.lt_or_ge k' b with h2 | h2
  ·have h2':((k':Int)<(b:Int))=True:=eq_true (by omega)
   have hkl:((k':Int)<(R'.length:Int))=True:=eq_true (by omega)
   have zk:(0≤(k':Int))=True:=eq_true (by omega)
   have hgk:R'[k']?=some (R'.getD k' 0):=by
    rw[List.getD_eq_getElem?_getD,List.getElem?_eq_getElem (by omega)];rfl
   generalize R'.getD k' 0=z at hgk
   simp (maxSteps:=400000) only[↓aA,aB,BEq.rfl,seval,hQ,y9,acg,h1',h2',hkl,zk,hgk,xg,toNat_natCast]
   refine⟨⟨by omega,by omega⟩,⟨by omega,by omega⟩,by decide,b-(k'+1),by omega,i'+1,k'+1,R'.set k' i',rfl,by omega,by omega,by rw[List.length_set];exact hR',?_,?_⟩
   ·rw[show b-k'=(b-(k'+1))+1 by omega,ni,if_pos h1]at hg
    exact hg
   ·rw[List.map_set,natCast_add,natCast_add];rfl
  ·have h2':((k':Int)<(b:Int))=False:=eq_false (by omega)
   simp (maxSteps:=400000) only[↓aA,aB,BEq.rfl,seval,hQ,y9,acg,h1',h2',xg,hQn]
   rw[show b-k'=0 by omega]at hg
   rw[←hg]at hk
   exact hk
 ·have h1':((i':Int)<(a:Int))=False:=eq_false (by omega)
  simp (maxSteps:=400000) only[↓aA,aB,BEq.rfl,seval,hQ,y9,acg,h1',xg,hQn]
  have:ni (b-k') R' i' k' a=R':=by
   cases hm:b-k' with
   | zero=>rfl
   | succ m=>rw[ni,if_neg (by omega)]
  rw[this]at hg
  rw[←hg]at hk
  exact hk
theorem MH(old now:List Vl)(ho:old.length≤1000000)(hn:now.length≤1000000)(hlo:∀v∈old,v.length≤1000000)(hln:∀v∈now,v.length≤1000000) :
  av Tryz.prog 94 [bT old,bT now] [] (encI (dR old now)) []:=by
 refine EK.bR (T:=Jm Tryz.prog [(117,yE),(119,Cf),(65,dF)]) 1 hD (Yc (af ME (af Pj (af rQ au)))) bE (by decide) λQ hQ=>?_
 (conv=>arg 4;cbv);simp (maxSteps:=400000) only[↓aA,aB,BEq.rfl,seval,hQ,Z_,↓yE,↓Cf,xg,toNat_natCast]
 refine⟨by omega,by omega,ho,hn,hlo,hln,?_⟩
 refine aQ (λm S=>∃(a b i k:Nat) (R:List Int),m=(old.length-a)+(now.length-b)∧a≤old.length∧b≤now.length∧i≤1000000∧k≤1000000∧R.length=now.length∧
   kI old now m a b i k R=kI old now (old.length+now.length) 0 0 0 0 (List.replicate now.length (-1))∧
   S=⟨dD 83 [(0,bT old),(1,bT now),(5,.bf 1 1 0 0),(6,.bf 2 1 0 0),(7,.bf 3 1 0 0),(8,.fn 118 [] [.bf 2 1 0 0,.bf 3 1 0 0,.bf 1 1 0 0]),(9,yY (a_ old now)),(10,.int .i64 a),(11,.int .i64 b)],y9 R 0 i k⟩)
  (old.length+now.length) ⟨0,0,0,0,List.replicate now.length (-1),by omega,by omega,by omega,by omega,by omega,by simp,rfl,?_⟩ ?_
 ·simp only[cB,keepR,Nat.reduceAdd,oO,Nat.reduceBEq,List.map_nil]
  rfl
 rintro m S ⟨a,b,i,k,R,rfl,hal,hbl,hi,hk,hR,Az,rfl⟩
 have hend:¬ (a<old.length∧b<now.length)→(ni (now.length-k) R i k old.length)=dR old now:=λh=>by
  rw[dR,←Az]
  cases hm:old.length-a+(now.length-b) with
  | zero=>rfl
  | succ m=>rw[kI,if_neg h]
 by_cases hab:a<old.length∧b<now.length
 ·obtain⟨ha,hb⟩:=hab
  have ha':((a:Int)<(old.length:Int))=True:=eq_true (by omega)
  have hb':((b:Int)<(now.length:Int))=True:=eq_true (by omega)
  have zaI:(0≤(a:Int))=True:=eq_true (by omega)
  have zbI:(0≤(b:Int))=True:=eq_true (by omega)
  have hx:old[a]?=some (old.getD a []):=by
   rw[List.getD_eq_getElem?_getD,List.getElem?_eq_getElem ha];rfl
  have hy:now[b]?=some (now.getD b []):=by
   rw[List.getD_eq_getElem?_getD,List.getElem?_eq_getElem hb];rfl
  have hxl:=hlo _ (List.mem_of_getElem? hx)
  have hyl:=hln _ (List.mem_of_getElem? hy)
  have hm:old.length-a+(now.length-b)=(old.length-a+(now.length-b)-1)+1:=by omega
  rw[hm,kI,if_pos ⟨ha,hb⟩]at Az
  generalize old.getD a []=x at hx hxl Az
  generalize now.getD b []=y at hy hyl Az
  by_cases hxy:x=y
  ·have hxy':=eq_true hxy
   rw[if_pos hxy]at Az
   simp (maxSteps:=400000) only[↓aA,aB,BEq.rfl,seval,hQ,y9]
   refine bg _ (Weak.refl _ _) ?_
   simp (maxSteps:=400000) only[↓aA,aB,BEq.rfl,seval,hQ,Z_,ha',hb',zaI,zbI,hx,hy,hxy',↓dF,toNat_natCast]
   refine⟨hxl,hyl,vk rfl rfl (HZ R 0 a b i k _ (by omega) (by omega) (by omega) hi ?_ hk)⟩
   have hGl:=qE (b-k) R i k a
   generalize ni (b-k) R i k a=G at hGl Az
   have hgb:G[b]?=some (G.getD b 0):=by
    rw[List.getD_eq_getElem?_getD,List.getElem?_eq_getElem (by omega)];rfl
   generalize G.getD b 0=z at hgb
   have hbG:((b:Int)<(G.length:Int))=True:=eq_true (by omega)
   simp (maxSteps:=400000) only[↓aA,aB,BEq.rfl,seval,hQ,Z_,y9,zaI,zbI,hgb,hbG,xg,toNat_natCast]
   refine⟨⟨by omega,by omega⟩,⟨by omega,by omega⟩,old.length-a+(now.length-b)-2,by omega,a+1,b+1,a+1,b+1,G.set b a,by omega,by omega,by omega,by omega,by omega,by rw[List.length_set];omega,?_,?_⟩
   ·rw[←Az];exact yD _ _ (by omega) (by omega)
   ·rw[List.map_set,natCast_add,natCast_add];rfl
  ·have hxy':=eq_false hxy
   rw[if_neg hxy]at Az
   obtain⟨r1,hg1,e1⟩:∃r,(a_ old now)[a+1]?=some r∧(a_ old now).getD (a+1) []=r:=by
    rw[List.getD_eq_getElem?_getD,List.getElem?_eq_getElem (by rw[jY];omega)];exact⟨_,rfl,rfl⟩
   obtain⟨r0,hg0,e0⟩:∃r,(a_ old now)[a]?=some r∧(a_ old now).getD a []=r:=by
    rw[List.getD_eq_getElem?_getD,List.getElem?_eq_getElem (by rw[jY];omega)];exact⟨_,rfl,rfl⟩
   have hl1:=uY _ _ _ (List.mem_of_getElem? hg1)
   have hl0:=uY _ _ _ (List.mem_of_getElem? hg0)
   have f1:rD (a_ old now) (a+1) b=r1.getD b 0:=by rw[rD,e1]
   have f0:rD (a_ old now) a (b+1)=r0.getD (b+1) 0:=by rw[rD,e0]
   rw[f0,f1]at Az
   have hq1:r1[b]?=some (r1.getD b 0):=by
    rw[List.getD_eq_getElem?_getD,List.getElem?_eq_getElem (by omega)];rfl
   have hq0:r0[b+1]?=some (r0.getD (b+1) 0):=by
    rw[List.getD_eq_getElem?_getD,List.getElem?_eq_getElem (by omega)];rfl
   generalize r1.getD b 0=p at hq1 Az
   generalize r0.getD (b+1) 0=q at hq0 Az
   have za1:(0≤(a:Int)+1)=True:=eq_true (by omega)
   have zb1:(0≤(b:Int)+1)=True:=eq_true (by omega)
   have ta1:((a:Int)+1).toNat=a+1:=by omega
   have tb1:((b:Int)+1).toNat=b+1:=by omega
   by_cases hpq:q≤p
   ·have ach:=eq_true hpq
    rw[if_pos hpq]at Az
    simp (maxSteps:=400000) only[↓aA,aB,BEq.rfl,seval,hQ,y9]
    refine bg _ (Weak.refl _ _) ?_
    simp (maxSteps:=400000) only[↓aA,aB,BEq.rfl,seval,hQ,Z_,ha',hb',zaI,zbI,hx,hy,hxy',↓dF,toNat_natCast,za1,zb1,ta1,tb1,hg1,hg0,hq1,hq0,ach]
    refine⟨hxl,hyl,⟨by omega,by omega⟩,⟨by omega,by omega⟩,⟨by omega,by omega⟩,old.length-a+(now.length-b)-1,by omega,a+1,b,i,k,R,by omega,by omega,by omega,hi,hk,hR,Az,by rw[natCast_add];rfl⟩
   ·have ach:=eq_false hpq
    rw[if_neg hpq]at Az
    simp (maxSteps:=400000) only[↓aA,aB,BEq.rfl,seval,hQ,y9]
    refine bg _ (Weak.refl _ _) ?_
    simp (maxSteps:=400000) only[↓aA,aB,BEq.rfl,seval,hQ,Z_,ha',hb',zaI,zbI,hx,hy,hxy',↓dF,toNat_natCast,za1,zb1,ta1,tb1,hg1,hg0,hq1,hq0,ach]
    refine⟨hxl,hyl,⟨by omega,by omega⟩,⟨by omega,by omega⟩,⟨by omega,by omega⟩,old.length-a+(now.length-b)-1,by omega,a,b+1,i,k,R,by omega,by omega,by omega,hi,hk,hR,Az,by rw[natCast_add];rfl⟩
 ·have he:=hend hab
  rcases Nat.lt_or_ge a old.length with ha | ha
  ·have ha':((a:Int)<(old.length:Int))=True:=eq_true (by omega)
   have hb':((b:Int)<(now.length:Int))=False:=eq_false (by omega)
   simp (maxSteps:=400000) only[↓aA,aB,BEq.rfl,seval,hQ,y9]
   refine bg _ (Weak.refl _ _) ?_
   simp (maxSteps:=400000) only[↓aA,aB,BEq.rfl,seval,hQ,Z_,ha',hb']
   refine vk rfl rfl (HZ R 0 old.length now.length i k _ ho (by omega) (by omega) hi ?_ hk)
   rw[he]
   simp (maxSteps:=400000) only[↓aA,aB,BEq.rfl,seval,hQ,Z_,y9]
  ·have ha':((a:Int)<(old.length:Int))=False:=eq_false (by omega)
   simp (maxSteps:=400000) only[↓aA,aB,BEq.rfl,seval,hQ,y9]
   refine bg _ (Weak.refl _ _) ?_
   simp (maxSteps:=400000) only[↓aA,aB,BEq.rfl,seval,hQ,Z_,ha']
   refine vk rfl rfl (HZ R 0 old.length now.length i k _ ho (by omega) (by omega) hi ?_ hk)
   rw[he]
   simp (maxSteps:=400000) only[↓aA,aB,BEq.rfl,seval,hQ,Z_,y9]
def vo:d9:=λargs objs K=>match args with
 | [a0,a1]=>gD bT a0 (HK.mk:HK λa=>gD bT a1 (HK.mk:HK λb=>(a.length≤1000000)∧(b.length≤1000000)∧(∀v∈a,v.length≤1000000)∧(∀v∈b,v.length≤1000000)∧K (encI (dR a b)) objs 0))
 | _=>False
theorem Jo:aR Tryz.prog 94 (vo):=by
 intro args objs K h
 unfold vo at h
 split at h
 ·rename_i a0 a1
  obtain⟨a,rfl,b,rfl,h1,h2,h3,h4,hk⟩:=h
  exact⟨_,_,_,.pure _ rfl (MH a b h1 h2 h3 h4),hk⟩
 ·exact h.elim
end Lp
namespace Lp
open Go Go.Proofs
theorem Pv(l:List Int)(x:Int)(hl:l.length≤4611686018427387904):av Tryz.prog 121 [encI l,.int .i64 x] [] (.int .i64 (idxOf (λy=>decide (x=y)) l)) []:=by
 refine qM.bR (T:=bA Tryz.prog []) 0 hD (ay au) bE (by decide) λQ hQ=>?_
 (conv=>arg 4;cbv);simp (maxSteps:=400000) only[↓aA,aB,BEq.rfl,seval,hQ]
 refine aQ (λm S=>∃i:Nat,i+m=l.length∧(∀(j:Nat) y,j<i→l[j]?=some y→decide (x=y)=false)∧S=⟨dD 19 [(0,encI l),(1,.int .i64 x),(7,.int .i64 l.length),(8,.int .i64 i)],[]⟩) l.length ⟨0,by omega,λj y h=>absurd h (Nat.not_lt_zero j),?_⟩ ?_
 ·simp only[cB,keepR,Nat.reduceAdd,oO,Nat.reduceBEq,List.map_nil]
  rfl
 rintro m S ⟨i,him,hb,rfl⟩
 rcases Nat.lt_or_ge i l.length with h | h
 rotate_left 1
 ·have hlt:((i:Int)<(l.length:Int))=False:=eq_false (by omega)
  have hr:=Ao (l:=l) λj y hj=>hb j y (by have:=(List.getElem?_eq_some_iff.1 hj).1;omega) hj
  simp (maxSteps:=400000) only[↓aA,aB,BEq.rfl,seval,hQ,hlt,hr]
 have hlt:((i:Int)<(l.length:Int))=True:=eq_true (by omega)
 have zi:(0≤(i:Int))=True:=eq_true (by omega)
 have hgi:=List.getElem?_eq_getElem h
 generalize l[i]=o at hgi
 by_cases hp:x=o
 ·have hr:idxOf (λy=>decide (x=y)) l=i:=idxOf_hit hgi (decide_eq_true hp) hb
  have hp':=eq_true hp
  simp (maxSteps:=400000) only[↓aA,aB,BEq.rfl,seval,hQ,hlt,zi,hgi,hp',hr]
 ·have hp':=eq_false hp
  simp (maxSteps:=400000) only[↓aA,aB,BEq.rfl,seval,hQ,hlt,zi,hgi,hp']
  refine⟨⟨by omega,by omega⟩,m-1,by omega,i+1,by omega,λj y hj hy=>?_,rfl⟩
  rcases Nat.lt_or_ge j i with g | g
  ·exact hb j y g hy
  ·have:j=i:=by omega
   subst this
   rw[hgi]at hy;cases hy
   exact decide_eq_false hp
def yF:d9:=λargs objs K=>match args with
 | [a0,.int .i64 x]=>gD encI a0 (HK.mk:HK λl=>(l.length≤4611686018427387904)∧K (.int .i64 (idxOf (λy=>decide (x=y)) l)) objs 0)
 | _=>False
theorem MI:aR Tryz.prog 121 (yF):=by
 intro args objs K h
 unfold yF at h
 split at h
 ·rename_i a0 x
  obtain⟨l,rfl,h1,hk⟩:=h
  exact⟨_,_,_,.pure _ rfl (Pv l x h1),hk⟩
 ·exact h.elim
theorem Pw(l:List Int)(x:Int)(hl:l.length≤4611686018427387904):av Tryz.prog 96 [encI l,.int .i64 x] [] (.bool (l.any λy=>decide (x=y))) []:=by
 refine oW.bR (T:=bA Tryz.prog [(121,yF)]) 0 hD (ay (af MI au)) bE (by decide) λQ hQ=>?_
 (conv=>arg 4;cbv);simp (maxSteps:=400000) only[↓aA,aB,BEq.rfl,seval,hQ,↓yF,Dw]
 exact hl
def tC:d9:=λargs objs K=>match args with
 | [a0,.int .i64 x]=>gD encI a0 (HK.mk:HK λl=>(l.length≤4611686018427387904)∧K (.bool (l.any λy=>decide (x=y))) objs 0)
 | _=>False
theorem MJ:aR Tryz.prog 96 (tC):=by
 intro args objs K h
 unfold tC at h
 split at h
 ·rename_i a0 x
  obtain⟨l,rfl,h1,hk⟩:=h
  exact⟨_,_,_,.pure _ rfl (Pw l x h1),hk⟩
 ·exact h.elim
def Jp(v:List Stp):Obj:=⟨43,3,v.map encS,true,0⟩
theorem xu(v:List Stp):bC [Jp v]:=by
 intro o ho x hx p hp
 simp only[List.mem_singleton]at ho
 subst ho
 simp only[Jp,List.mem_map]at hx
 obtain⟨n,_,rfl⟩:=hx
 simp only[encS,PV.cells,List.mem_cons,List.not_mem_nil,or_false]at hp
 rcases hp with rfl | rfl | rfl<;>rfl
theorem Yg(d n:Nat)(objs:List Obj)(v:List Stp):(v.map encS).map (PV.bJ (fA d n objs))=v.map encS:=by
 rw[List.map_map]
 exact List.map_congr_left λx _=>rfl
theorem H6(sz:Nat):av Tryz.prog 116 [.sl sz [] (some true)] [] (.aS 0 0) [Jp []]:=by
 refine fV.made (T:=bA Tryz.prog []) 0 hD (ay au) bE ?_
 (conv=>arg 4;cbv);simp only[↓Nk,U9,↓Qs,↓Ki,↓Qt,Kj,↓yS,↓vR,Kl,Rh,Nat.reduceAdd,Nat.reduceSub,Da,fgR,dX,Wj,TA,Gs,gy,forall_const,reduceCtorEq,false_imp_iff,and_true,TK.slice.injEq,exists_eq',true_and]
 exact⟨_,0,0,_,Weak.J5 2 43 3 rfl (by decide),rfl,rfl,rfl,rfl,rfl,xu []⟩
theorem Px(v:List Stp)(hv:v.length≤1099511627776):av Tryz.prog 116 [.sl 3 (v.map encS) (some false)] [] (.aS 0 0) [Jp v]:=by
 refine fV.made (T:=bA Tryz.prog []) 0 hD (ay au) bE ?_
 (conv=>arg 4;cbv);simp only[↓Nk,U9,↓Qs,↓Ki,↓Qt,Kj,↓yS,↓vR,Kl,Rh,Nat.reduceAdd,Nat.reduceSub,Da,fgR,dX,Wj,TA,Gs,gy,forall_const,reduceCtorEq,false_imp_iff,and_true,TK.slice.injEq,exists_eq',true_and]
 simp only[bL,dK,ng,newObj,iC,dX,ne_eq,reduceCtorEq,not_false_eq_true,true_and,if_true,List.all_nil,Nat.zero_mul,Nat.zero_le,List.nil_append,List.length_nil,List.getElem?_cons_zero,Option.some.injEq]
 refine⟨rfl,rfl,rfl,rfl,?_,_,rfl,rfl,rfl,rfl,rfl,?_,?_,λ_ _ h=>h.elim,_,0,2,_,Weak.refl _ _,rfl,rfl,rfl,rfl,?_,xu v⟩
 ·intro y hy
  obtain⟨n,_,rfl⟩:=List.mem_map.1 hy
  exact⟨rfl,rfl⟩
 ·simp;omega
 ·simp;omega
 ·simp only[eO,Jp,List.replicate_zero,List.nil_append,Yg]
theorem Py(v:List Stp)(hv:v.length≤1099511627776):av Tryz.prog 116 [aT v] [] (.aS 0 0) [Jp v]:=
 av.split (pre:=[]) (post:=[]) (λh=>by
  have:v=[]:=by simpa using h
  subst this
  exact H6 3) (Px v hv)
def b_(p:List Stp):PV:=if p=[] then .sl 0 [] (some true) else aT p
theorem Pz(p:List Stp):fG (b_ p) (aT p):=by
 unfold b_
 split
 ·rename_i h;subst h;exact gF 0 3
 ·exact .refl _
def AA:d9:=λargs objs K=>∃p:List Stp,args=[b_ p]∧p.length≤1000000∧K (.aS objs.length 0) (objs++[Jp p]) 2
theorem Jq:aR Tryz.prog 116 AA:=by
 rintro args objs K ⟨p,rfl,hp,hk⟩
 have hs:av Tryz.prog 116 [b_ p] [] (.aS 0 0) [Jp p]:=by
  unfold b_
  split
  ·rename_i h;subst h;exact H6 0
  ·exact Py p (by omega)
 exact⟨_,_,_,mI.made (objs:=objs) _ _ (by unfold b_;split<;>rfl) (xu p) hs,by simpa[PV.shift,PV.jN] using hk⟩
theorem mV(x:Stp):fA 1 0 [⟨43,3,[encS x],true,1⟩] (.bf 0 1 0 0)=.addr (encS x):=rfl
theorem PD:PV.vM (.agg ⟨[.bool false,.string ⟨⟨[]⟩⟩,.int .i64 0]⟩)=encS ⟨false,[],0⟩:=rfl
theorem adS(l:List Stp)(x:Stp):l.map encS++[encS x]=(l++[x]).map encS:=by simp
theorem yG(p:List Stp):(b_ p).pure=true∧(∀d m O,jG d m O (b_ p)=b_ p)∧(∀d m O,fA d m O (b_ p)=b_ p)∧(b_ p).cells=[b_ p]∧(b_ p).isAgg=false∧(b_ p).ref=false∧(b_ p).mD=true∧(b_ p).storable=true:=by
 unfold b_
 split
 all_goals exact⟨rfl,λ_ _ _=>rfl,λ_ _ _=>rfl,rfl,rfl,rfl,rfl,rfl⟩
theorem pqL(p:List Stp)(objs:List Obj)(K:KT):qL D 36 (b_ p) objs K=K (.int .i64 p.length) objs 0:=by
 unfold b_
 split
 ·rename_i h;subst h;simp only[qL,dX];rfl
 ·simp only[qL,aT,dX,List.length_map]
theorem pqB(p:List Stp)(objs:List Obj)(K:KT):AA [b_ p] objs K=(p.length≤1000000∧K (.aS objs.length 0) (objs++[Jp p]) 2):=by
 refine propext ⟨λ⟨q,he,h⟩=>?_,λh=>⟨p,rfl,h⟩⟩
 have:p=q:=by
  simp only[List.cons.injEq,and_true]at he
  unfold b_ at he
  split at he<;>split at he
  ·rename_i h1 h2;rw[h1,h2]
  ·simp[aT]at he
  ·simp[aT]at he
  ·exact lW _ _ he
 subst this
 exact h
theorem VL(p:List Stp)(x:Stp)(hp:p.length≤1000):av Tryz.prog 93 [b_ p,encS x] [] (aT (p++[x])) []:=by
 refine Ou.bR (T:=bA Tryz.prog [(116,AA)]) 1 hD (ay (af Jq au)) bE (by decide) λQ hQ=>?_
 (conv=>arg 4;cbv);simp (maxSteps:=400000) only[↓aA,aB,BEq.rfl,seval,hQ,yG]
 refine bg _ (Weak.freeze 1 0 (Nat.zero_le _) _) ?_
 simp (maxSteps:=400000) only[↓aA,aB,BEq.rfl,seval,hQ,pqB,yG,Jp,mV,PD,adS]
 exact⟨by omega,by omega,by omega,by decide⟩
def Cm:d9:=λargs objs K=>∃(p:List Stp) (x:Stp),args=[b_ p,encS x]∧p.length≤1000∧K (aT (p++[x])) objs 0
theorem Eu:aR Tryz.prog 93 Cm:=by
 rintro args objs K ⟨p,x,rfl,hp,hk⟩
 exact⟨_,_,_,.pure _ (by simp[(yG p).1];rfl) (VL p x hp),hk⟩
theorem VN{p q:List Stp}(he:b_ p=b_ q):p=q:=by
 unfold b_ at he
 split at he<;>split at he
 ·rename_i h1 h2;rw[h1,h2]
 ·simp[aT]at he
 ·simp[aT]at he
 ·exact lW _ _ he
theorem spB(p:List Stp)(x:Stp)(objs:List Obj)(K:KT):Cm [b_ p,encS x] objs K=(p.length≤1000∧K (aT (p++[x])) objs 0):=by
 refine propext ⟨λ⟨q,y,he,h⟩=>?_,λh=>⟨p,x,rfl,h⟩⟩
 simp only[List.cons.injEq,and_true]at he
 obtain⟨h1,h2⟩:=he
 obtain rfl:=VN h1
 obtain rfl:=sK _ _ h2
 exact h
def mg(k:Int)(p v:PV):PV:=.agg [.int .i64 k,p,v]
theorem qF(objs:List Obj)(K:KT) :
  (∀b k,dh D 43 [(0,.bool b),(2,.int .i64 k)] objs K=K (encS ⟨b,[],k⟩) objs 0)∧
  (∀s,dh D 43 [(1,.str s)] objs K=K (encS ⟨false,s,0⟩) objs 0)∧
  (∀k p,dh D 38 [(0,.int .i64 k),(1,aT p)] objs K=K (mg k (aT p) (.sl 0 [] (some true))) objs 0)∧
  (∀k p v,dh D 38 [(0,.int .i64 k),(1,aT p),(2,aj v)] objs K=K (mg k (aT p) (aj v)) objs 0)∧
  (∀k p v,dh D 38 [(0,.int .i64 k),(1,b_ p),(2,aj v)] objs K=K (mg k (b_ p) (aj v)) objs 0):=by
 have z:aL (D 43)=encS ⟨false,[],0⟩:=by kernel_rfl
 have a:(D 43).agg=true:=by kernel_rfl
 have z2:aL (D 38)=.agg [.int .i64 0,.sl 0 [] (some true),.sl 0 [] (some true)]:=by kernel_rfl
 have a2:(D 38).agg=true:=by kernel_rfl
 simp only[dX]at z a z2 a2
 refine⟨λb k=>?_,λs=>?_,λk p=>?_,λk p v=>?_,λk p v=>?_⟩
 ·simp[dh,nN,a,z,dX,oD,encS,PV.isAgg,uf,PV.cells,PV.storable,PV.mD,PV.pure]
 ·simp[dh,nN,a,z,dX,oD,encS,PV.isAgg,uf,PV.cells,PV.storable,PV.mD,PV.pure]
 ·simp[dh,nN,a2,z2,dX,oD,mg,aT,aj,uf,PV.cells,PV.isAgg,PV.storable,PV.mD,PV.pure]
 ·simp[dh,nN,a2,z2,dX,oD,mg,aT,aj,uf,PV.cells,PV.isAgg,PV.storable,PV.mD,PV.pure]
 ·unfold b_
  split
  all_goals simp[dh,nN,a2,z2,dX,oD,mg,aT,aj,uf,PV.cells,PV.isAgg,PV.storable,PV.mD,PV.pure]
end Lp
namespace Lp
open Go
def j3(a b:Vl):List (List UInt8):=nD (aJ a++(aJ b).filter λx=>!(aJ a).contains x)
def kV(g:List Stp→Vl→Vl→List Ed)(p:List Stp)(a b:Vl)(nm:List UInt8):List Ed:=
 if eY b nm then
  if eY a nm then g (p++[⟨false,nm,0⟩]) (bN a nm) (bN b nm)
  else [⟨1,p++[⟨false,nm,0⟩],bN b nm⟩]
 else [⟨2,p++[⟨false,nm,0⟩],[]⟩]
def eU(p:List Stp)(n:Nat)(at':List Int)(k:Nat):List Ed:=
 ((List.range k).map λj=>n-1-j).flatMap λ(k:Nat)=>if (at'.any λy=>decide ((k:Int)=y)) then [] else [⟨2,p++[⟨true,[],k⟩],[]⟩]
def iI(p:List Stp)(n:Nat)(at':List Int):List Ed:=eU p n at' n
theorem oK(p:List Stp)(n:Nat)(at':List Int)(k:Nat) :
  eU p n at' (k+1)=eU p n at' k++if (at'.any λy=>decide (((n-1-k:Nat):Int)=y)) then [] else [⟨2,p++[⟨true,[],(n-1-k:Nat)⟩],[]⟩]:=by
 simp only[eU,List.range_succ,List.map_append,List.flatMap_append,List.map_cons,List.map_nil,List.flatMap_cons,List.flatMap_nil,List.append_nil]
theorem H7(p:List Stp)(n:Nat)(at':List Int){k:Nat}(h:k≤n):∃l,iI p n at'=eU p n at' k++l:=by
 have key:∀(m:Nat),∃l,eU p n at' (k+m)=eU p n at' k++l:=by
  intro m
  induction m with
  | zero=>exact⟨[],by simp⟩
  | succ m ih=>
   obtain⟨l,hl⟩:=ih
   exact⟨_,by rw[←Nat.add_assoc,oK,hl,List.append_assoc]⟩
 obtain⟨l,hl⟩:=key (n-k)
 rw[show k+(n-k)=n by omega]at hl
 exact⟨l,hl⟩
def y_(g:List Stp→Vl→Vl→List Ed)(p:List Stp)(old now:List Vl)(at':List Int)(i:Nat):List Ed:=
 if 0≤at'.getD i 0 then g (p++[⟨true,[],i⟩]) (old.getD (at'.getD i 0).toNat []) (now.getD i [])
 else [⟨1,p++[⟨true,[],i⟩],now.getD i []⟩]
def j4(g:List Stp→Vl→Vl→List Ed)(p:List Stp)(old now:List Vl):List Ed:=
 iI p old.length (dR old now)++(List.range now.length).flatMap (y_ g p old now (dR old now))
def aC:Nat→List Stp→Vl→Vl→List Ed
 | 0,p,a,b=>if a=b then [] else [⟨0,p,b⟩]
 | f+1,p,a,b=>
  if a=b then []
  else if aN a=6∧aN b=6 then (j3 a b).flatMap (kV (aC f) p a b)
  else if aN a=5∧aN b=5 then j4 (aC f) p (ax a) (ax b)
  else [⟨0,p,b⟩]
def o6(e:Ed):PV:=mg e.kind (b_ e.p) (if e.kind=2 then .sl 0 [] (some true) else aj e.v)
def jD(l:List Ed):List (List PV):=l.map λe=>[o6 e]
theorem PE(p:List Stp)(x:Stp)(v:Vl):o6 ⟨1,p++[x],v⟩=mg 1 (aT (p++[x])) (aj v):=by
 simp[o6,b_]
theorem Yh(p:List Stp)(v:Vl):o6 ⟨0,p,v⟩=mg 0 (b_ p) (aj v):=by simp[o6]
theorem KC(p:List Stp)(x:Stp)(v:Vl):o6 ⟨2,p++[x],v⟩=mg 2 (aT (p++[x])) (.sl 0 [] (some true)):=by
 simp[o6,b_]
theorem yH(k:Int)(p v:PV)(h1:p.ref=false)(h2:v.ref=false):(mg k p v).pure=true:=by
 show ((!PV.ref (.int .i64 k)) && ((!p.ref) && ((!v.ref) && true)))=true
 rw[h1,h2];rfl
theorem Cn{l1 l2 l3:List Ed}{e:Ed}:(jD (l1++(e::l2++l3)))[l1.length]?=some [o6 e]:=by
 simp[jD]
theorem KD{l1 l2 l3:List Ed}{j:Nat}{x:List PV}(h:(jD l2)[j]?=some x):(jD (l1++(l2++l3)))[l1.length+j]?=some x:=by
 have hj:j<l2.length:=by
  have:=(List.getElem?_eq_some_iff.1 h).1
  simpa[jD] using this
 simp only[jD,List.map_append]
 rw[List.getElem?_append_right (by simp),List.length_map,Nat.add_sub_cancel_left,List.getElem?_append_left (by simpa using hj)]
 exact h
theorem gG(l:List Ed):(jD l).length=l.length:=by simp[jD]
def h_(g:List Stp→Vl→Vl→List Ed)(p:List Stp)(old now:List Vl)(at':List Int)(i:Nat):List Ed:=(List.range i).flatMap (y_ g p old now at')
theorem vw(g:List Stp→Vl→Vl→List Ed)(p:List Stp)(old now:List Vl)(at':List Int)(i:Nat):h_ g p old now at' (i+1)=h_ g p old now at' i++y_ g p old now at' i:=by
 simp only[h_,List.range_succ,List.flatMap_append,List.flatMap_cons,List.flatMap_nil,List.append_nil]
theorem KE(g:List Stp→Vl→Vl→List Ed)(p:List Stp)(old now:List Vl)(at':List Int){i n:Nat}(h:i≤n):∃l,h_ g p old now at' n=h_ g p old now at' i++l:=by
 have key:∀(m:Nat),∃l,h_ g p old now at' (i+m)=h_ g p old now at' i++l:=by
  intro m
  induction m with
  | zero=>exact⟨[],by simp⟩
  | succ m ih=>
   obtain⟨l,hl⟩:=ih
   exact⟨_,by rw[←Nat.add_assoc,vw,hl,List.append_assoc]⟩
 obtain⟨l,hl⟩:=key (n-i)
 rw[show i+(n-i)=n by omega]at hl
 exact⟨l,hl⟩
end Lp
namespace Lp
open Go Go.Proofs
open List (drop_zero length_append mem_singleton take_zero)
theorem aac:D 55=⟨.other,1,8,.nilFunc⟩:=by kernel_rfl
theorem aad(y:Nat):(PV.qI y).cells=[.qI y]∧(PV.qI y).isAgg=false∧(PV.qI y).storable=true:=⟨rfl,rfl,rfl⟩
structure rE (v:Vl):Prop where
 rt:Rt v
 len:v.length≤1000000
 nm:∀n∈v,n.name.length≤1000000
theorem rE.parts {v:Vl}(h:rE v):(ax v).length≤1000000∧∀x∈ax v,rE x:=by
 have hf:=bD h.rt
 refine⟨by have:=h.len;omega,λx hx=>?_⟩
 have h1:=bU h.rt hx
 exact⟨h1.1,by have:=h.len;omega,uS h.rt (q:=λn=>n.name.length≤1000000) (λn _=>by simp) h.nm x hx⟩
def vT(p:List Stp)(y:Nat)(at':List Int):List Obj:=[⟨36,1,[b_ p],true,1⟩,⟨55,1,[.qI y],true,1⟩,⟨4,1,[.bool false],true,1⟩,⟨80,1,[encI at'],true,1⟩]
theorem TY(p:List Stp)(n:Nat):(b_ p).ge n=true∧(b_ p).Ea n=true:=⟨Tw (yG p).1,kE (yG p).2.2.2.2.2.1⟩
theorem VO(n:Nat):(∀v,(aj v).ge n=true)∧(∀v,(bT v).ge n=true)∧(∀v,(encI v).ge n=true)∧(∀v,(encS v).ge n=true)∧(∀v,(aT v).ge n=true)∧(∀v,(jT v).ge n=true)∧(∀k p v,(mg k (aT p) (aj v)).ge n=true)∧(∀k p z x q,(mg k (aT p) (.sl z x q)).ge n=true)∧(∀k p v,(mg k (b_ p) (aj v)).ge n=true):=
 ⟨λ_=>rfl,λ_=>rfl,λ_=>rfl,λ_=>rfl,λ_=>rfl,λ_=>rfl,λ_ _ _=>rfl,λ_ _ _ _ _=>rfl,λk p v=>by
  show ((PV.Ea n (.int .i64 k)) && ((b_ p).Ea n && ((aj v).Ea n && true)))=true
  rw[(TY p n).2];rfl⟩
theorem Fj(p:List Stp)(y:Nat)(at':List Int):bC (vT p y at'):=by
 intro o ho x hx c hc
 simp only[vT,List.mem_cons,List.not_mem_nil,or_false]at ho
 rcases ho with rfl | rfl | rfl | rfl
 ·simp only[mem_singleton]at hx;subst hx
  rw[(yG p).2.2.2.1,mem_singleton]at hc;subst hc;exact (yG p).2.2.2.2.2.1
 ·simp only[mem_singleton]at hx;subst hx
  simp only[PV.cells,mem_singleton]at hc;subst hc;rfl
 ·simp only[mem_singleton]at hx;subst hx
  simp only[PV.cells,mem_singleton]at hc;subst hc;rfl
 ·simp only[mem_singleton]at hx;subst hx
  simp only[encI,PV.cells,mem_singleton]at hc;subst hc;rfl
theorem MK(p:List Stp)(y:Nat)(at':List Int)(n:Nat)(a b:Obj)(ha:a=vU∨a=hole)(hb:b=vU∨b=hole):Zh n (vT p y at'++[a,b]):=by
 intro o ho x hx c hc
 rcases List.mem_append.1 ho with ho | ho
 ·exact MG (Fj p y at') n o ho x hx c hc
 ·simp only[List.mem_cons,List.not_mem_nil,or_false]at ho
  rcases ho with rfl | rfl
  ·rcases ha with rfl | rfl<;>cases hx
  ·rcases hb with rfl | rfl<;>cases hx
theorem T9(b:Bool)(v:PV):(PV.bool b).putCells 0 [v]=v:=rfl
theorem pqS(p:List Stp)(x:Stp):b_ (p++[x])=aT (p++[x]):=by simp[b_]
def Yi(f:Nat):Prop:=∀(q:List Stp) (x y:Vl),q.length+f=20→rE x→rE y→fC Tryz.prog 45 [b_ q,aj x,aj y] (jD (aC f q x y))
theorem PG{f:Nat}(hs:Yi f)(p:List Stp)(a b:Vl)(hp:p.length+f+1=20)(ha:rE a)(hb:rE b) :
  fC Tryz.prog 67 [b_ p,aj a,aj b] (jD (j4 (aC f) p (ax a) (ax b))):=by
 refine LK.Z9 (fnT:=lu [(52,oH),(94,vo),(95,gU),(96,tC),(93,Cm)]) hD
  (af wY (af Jo (af w_ (af MJ (af Eu au))))) bE (by decide) λI J objs y Q hI je jB hQ=>?_
 obtain⟨N,hN⟩:∃N,objs.length=N:=⟨_,rfl⟩
 rw[hN]at je jB hQ ⊢
 have hG:=HY hN
 (conv=>arg 4;cbv);simp (maxSteps:=400000) only[↓aA,aB,BEq.rfl,seval,hQ,ES,hG,hN,o5 N,aac,aad,yG,↓oH,↓vo,↓gU,xg]
 have hpa:=rE.parts ha
 have hpb:=rE.parts hb
 refine⟨by have:=ha.len;omega,ha.rt.one,by have:=hb.len;omega,hb.rt.one,hpa.1,hpb.1,λv hv=>(hpa.2 v hv).len,λv hv=>(hpb.2 v hv).len,?_⟩
 generalize ax a=old at hpa hQ ⊢
 generalize ax b=now at hpb hQ ⊢
 refine bg _ (Weak.refl _ _) ?_
 simp (maxSteps:=400000) only[↓aA,aB,BEq.rfl,seval,hQ,ES,↓gU]
 obtain⟨ys,hys⟩:∃ys,ys=j4 (aC f) p old now:=⟨_,rfl⟩
 rw[←hys]at hQ ⊢
 obtain⟨at',hat⟩:∃at',dR old now=at':=⟨_,rfl⟩
 have hlen:(dR old now).length=now.length:=sV old now
 rw[hat]at hlen ⊢
 have hN':objs.length=N:=hN
 refine ZE 120 [.addr (bT old)] (zO old)
  (λk O'=>k≤old.length∧∃O,I (eU p old.length at' k).length O∧O'=O++vT p y at'++[vU,hole])
  (λk O'=>∃i O,i<ys.length∧J i O∧O'=O++vT p y at'++[vU,hole]) .ret rfl rfl rfl ?_ ?_ ?_ rfl rfl trivial (oZ old hpa.1) (Dz old) ?_ ?_ ?_ ?_ ?_ ?_
 ·show N≤(objs++vT p y at').length
  rw[length_append];omega
 ·exact acf (n:=N) (by simp only[VJ,VO,TY,Bool.and_self])
 ·show N≤(objs++vT p y at').length
  rw[length_append];omega
 ·exact⟨Nat.zero_le _,objs,hI,rfl⟩
 ·rintro k O' ⟨_,O,Fp,rfl⟩
  exact Ye (je _ _ Fp).1 (je _ _ Fp).2 (Fj p y at') (by rw[length_append,hN];rfl)
 ·rintro k O' ⟨i,O,_,hJO,rfl⟩
  exact⟨Ye (jB _ _ hJO).1 (jB _ _ hJO).2.1 (Fj p y at') (by rw[length_append,hN];rfl),Sq (jB _ _ hJO).2.2 (Fj p y at')⟩
 ·rintro k args O' ⟨hk,O,Fp,rfl⟩ PI
  obtain⟨hkl,rfl⟩:=Hf PI
  have hO:=(je _ _ Fp).1
  have hG:=HY hO
  obtain⟨q,hq⟩:∃q,q=old.length-1-k:=⟨_,rfl⟩
  rw[←hq]
  cases hin:at'.any λy=>decide ((q:Int)=y) with
  | true=>
   simp (maxSteps:=400000) only[↓aA,aB,BEq.rfl,seval,hQ,jH,kbI,vT,hG,o5 N,yG,↓tC,hin,ntS,ntR,List.take_succ_cons,List.drop_succ_cons,take_zero,drop_zero,↓abL]
   refine⟨by decide,by omega,?_⟩
   refine And.intro (by omega) (Exists.intro O (And.intro ?_ rfl))
   rw[oK,←hq,hin]
   simpa using Fp
  | false=>
   have hdk:=oK p old.length at' k
   rw[←hq,hin,if_neg (by decide)]at hdk
   have hdl:(eU p old.length at' (k+1)).length=(eU p old.length at' k).length+1:=by rw[hdk];simp
   obtain⟨l3,hl3⟩:=H7 p old.length at' (k:=k+1) (by omega)
   have hyq:(jD ys)[(eU p old.length at' k).length]?=some [o6 ⟨2,p++[⟨true,[],(q:Nat)⟩],[]⟩]:=by
    rw[hys,j4,hat,hl3,hdk,List.append_assoc,List.append_assoc]
    exact Cn
   have hil:(eU p old.length at' k).length<ys.length:=by
    have:=(List.getElem?_eq_some_iff.1 hyq).1
    rwa[gG]at this
   simp (maxSteps:=400000) only[↓aA,aB,BEq.rfl,seval,hQ,jH,kbI,vT,hG,o5 N,yG,↓tC,hin,aac,aad,qF,spB,ntS,ntR,List.take_succ_cons,List.drop_succ_cons,take_zero,drop_zero,↓abL]
   refine⟨by decide,by omega,by omega,Ck (n:=N) rfl rfl rfl rfl je jB (nX (by simp only[VJ,VO,TY,Bool.and_self])) (MK p y at' N _ _ (.inl rfl) (.inr rfl)) (by simp[mg,PV.pure,aT,PV.ref]) Fp (by rw[KC]at hyq;exact hyq) (λO1 hI1=>?_) λO1 vz=>?_⟩
   ·simp (maxSteps:=400000) only[↓aA,aB,BEq.rfl,seval,hQ]
    refine And.intro (by omega) (Exists.intro O1 (And.intro ?_ rfl))
    rw[hdl];exact hI1
   ·simp (maxSteps:=400000) only[↓aA,aB,BEq.rfl,seval,hQ,vT,HY (jB _ _ vz).1,o5 N,T9]
    exact And.intro rfl (Exists.intro _ (Exists.intro O1 (And.intro hil (And.intro vz rfl))))
 ·rintro O' ⟨hk,O,Fp,rfl⟩
  rw[p_]at Fp
  have hO:=(je _ _ Fp).1
  have hG:=HY hO
  simp (maxSteps:=400000) only[↓aA,aB,BEq.rfl,seval,hQ,ES,vT,hG,o5 N]
  have hD0:eU p old.length at' old.length=iI p old.length at':=rfl
  rw[hD0]at Fp
  refine aQ (λm S=>∃(i:Nat) (O:List Obj),i+m=now.length∧I ((iI p old.length at').length+(h_ (aC f) p old now at' i).length) O∧
   S=⟨dD 75 [(4,.bf N 1 0 0),(7,.bf (N+1) 1 0 0),(8,.bf (N+2) 1 0 0),(9,bT old),(11,.bf (N+3) 1 0 0),(42,bT now),(43,.int .i64 now.length),(44,.int .i64 i)],O++(vT p y at'++[vU,hole])⟩)
   now.length ⟨0,O,by omega,Fp,?_⟩ ?_
  ·simp only[cB,keepR,Nat.reduceAdd,oO,Nat.reduceBEq,List.map_nil]
   rfl
  clear Fp hO hG
  rintro m S ⟨i,O,him,Fp,rfl⟩
  have hO:=(je _ _ Fp).1
  have hG:=HY hO
  rcases Nat.lt_or_ge i now.length with h | h
  rotate_left 1
  ·have hlt:((i:Int)<(now.length:Int))=False:=eq_false (by omega)
   simp (maxSteps:=400000) only[↓aA,aB,BEq.rfl,seval,hQ,hlt,ES,vT,hG,o5 N,T9]
   obtain rfl:i=now.length:=by omega
   refine DI ?_ hO
   rw[gG,hys,j4,hat,length_append]
   exact Fp
  have hlt:((i:Int)<(now.length:Int))=True:=eq_true (by omega)
  have zi:(0≤(i:Int))=True:=eq_true (by omega)
  have hx:now[i]?=some (now.getD i []):=by
   rw[List.getD_eq_getElem?_getD,List.getElem?_eq_getElem h];rfl
  have hz:at'[i]?=some (at'.getD i 0):=by
   rw[List.getD_eq_getElem?_getD,List.getElem?_eq_getElem (by omega)];rfl
  have hzi:=sW old now _ (by rw[hat];exact List.mem_of_getElem? hz)
  have hvy:=hpb.2 _ (List.mem_of_getElem? hx)
  have hst:=vw (aC f) p old now at' i
  obtain⟨l3,hl3⟩:=KE (aC f) p old now at' (i:=i+1) (n:=now.length) (by omega)
  have VP:ys=(iI p old.length at'++h_ (aC f) p old now at' i)++(y_ (aC f) p old now at' i++l3):=by
   rw[hys,j4,hat]
   show iI p old.length at'++h_ (aC f) p old now at' now.length=_
   rw[hl3,hst];simp
  by_cases hk0:0≤at'.getD i 0
  ·have hk0':=eq_true hk0
   have hadd:y_ (aC f) p old now at' i=aC f (p++[⟨true,[],i⟩]) (old.getD (at'.getD i 0).toNat []) (now.getD i []):=by
    rw[y_,if_pos hk0]
   generalize at'.getD i 0=z at hz hzi hk0 hk0' hadd
   have hw:old[z.toNat]?=some (old.getD z.toNat []):=by
    rw[List.getD_eq_getElem?_getD,List.getElem?_eq_getElem (by omega)];rfl
   have hvx:=hpa.2 _ (List.mem_of_getElem? hw)
   generalize old.getD z.toNat []=x at hw hvx hadd
   generalize now.getD i []=v at hx hvy hadd
   simp (maxSteps:=400000) only[↓aA,aB,BEq.rfl,seval,hQ,hlt,zi,ES,vT,hG,o5 N,aac,aad,hx,hz,hw,hk0',spB,qF,yG,ntS,ntR,List.take_succ_cons,List.drop_succ_cons,take_zero,drop_zero,↓abL,Int.toNat_natCast]
   have hcall:=hs (p++[⟨true,[],i⟩]) x v (by simp;omega) hvx hvy
   rw[pqS]at hcall
   have hln:(h_ (aC f) p old now at' (i+1)).length=(h_ (aC f) p old now at' i).length+(jD (aC f (p++[⟨true,[],i⟩]) x v)).length:=by rw[hst,hadd,length_append,gG]
   have hyl:ys.length=(iI p old.length at').length+(h_ (aC f) p old now at' (i+1)).length+l3.length:=by rw[VP,hst];simp;omega
   rw[hadd]at VP
   refine⟨by omega,by decide,MF (n:=N) (bargs:=[aT (p++[⟨true,[],i⟩]),aj x,aj v]) rfl rfl rfl rfl je jB (nX (by simp only[VJ,VO,TY,Bool.and_self])) (MK p y at' N _ _ (.inl rfl) (.inr rfl)) rfl rfl hcall Fp
    (λj a hj=>by rw[VP,←length_append];exact KD hj) (λO1 hI1=>?_) λj O1 hj vz=>?_⟩
   ·simp (maxSteps:=400000) only[↓aA,aB,BEq.rfl,seval,hQ]
    refine⟨⟨by omega,by omega⟩,m-1,by omega,i+1,O1,by omega,?_,by rw[Int.natCast_add];rfl⟩
    rw[hln,←Nat.add_assoc];exact hI1
   ·simp (maxSteps:=400000) only[↓aA,aB,BEq.rfl,seval,hQ,vT,HY (jB _ _ vz).1,o5 N,T9]
    refine lK ?_ vz (jB _ _ vz).1
    rw[gG];omega
  ·have hk0':=eq_false hk0
   have hadd:y_ (aC f) p old now at' i=[⟨1,p++[⟨true,[],i⟩],now.getD i []⟩]:=by
    rw[y_,if_neg hk0]
   generalize at'.getD i 0=z at hz hzi hk0 hk0' hadd
   generalize now.getD i []=v at hx hvy hadd
   simp (maxSteps:=400000) only[↓aA,aB,BEq.rfl,seval,hQ,hlt,zi,ES,vT,hG,o5 N,aac,aad,hx,hz,hk0',spB,qF,yG,ntS,ntR,Int.toNat_natCast]
   have hln:(h_ (aC f) p old now at' (i+1)).length=(h_ (aC f) p old now at' i).length+1:=by rw[hst,hadd];simp
   have hyl:ys.length=(iI p old.length at').length+(h_ (aC f) p old now at' (i+1)).length+l3.length:=by rw[VP,hst];simp;omega
   rw[hadd]at VP
   have hyq:(jD ys)[(iI p old.length at').length+(h_ (aC f) p old now at' i).length]?=some [mg 1 (aT (p++[⟨true,[],i⟩])) (aj v)]:=by
    rw[←PE,VP,←length_append]
    exact Cn (l2:=[])
   refine⟨by omega,Ck (n:=N) rfl rfl rfl rfl je jB (nX (by simp only[VJ,VO,TY,Bool.and_self])) (MK p y at' N _ _ (.inl rfl) (.inr rfl)) rfl Fp hyq (λO1 hI1=>?_) λO1 vz=>?_⟩
   ·simp (maxSteps:=400000) only[↓aA,aB,BEq.rfl,seval,hQ]
    refine⟨⟨by omega,by omega⟩,m-1,by omega,i+1,O1,by omega,?_,by rw[Int.natCast_add];rfl⟩
    rw[hln,←Nat.add_assoc];exact hI1
   ·simp (maxSteps:=400000) only[↓aA,aB,BEq.rfl,seval,hQ,vT,HY (jB _ _ vz).1,o5 N,T9]
    refine lK ?_ vz (jB _ _ vz).1
    rw[gG];omega
 ·rintro k O' hk ⟨i,O,hi,hJO,rfl⟩
  have hO:=(jB _ _ hJO).1
  rw[Yf (show (objs++_).length=_ by rw[length_append,hN,hO];rfl)]
  simp (maxSteps:=400000) only[↓aA,aB,BEq.rfl,seval,hQ,vT,HY hO,o5 N]
  exact lK (by rw[gG];exact hi) hJO hO
end Lp
namespace Lp
open Go
variable {P:Program}{D:TypeId→aD}{T:Know}
def Yj(d:Nat)(t:Nat)(o':Obj)(e:Exit)(S:St):Prop:=
 (e=.normal∨e=.ret)∧∃S' k ver o,Weak 0 S S'∧S'.tmps.getD t .dead=.fM k ver∧S'.objs[k]?=some o∧o.live=true∧o.ver=ver∧jR d k S' o=o'∧bC [o']
theorem Sr{base ah:Nat→Prop}{w0:Wz}{S':St}{ak:Nat→Option Nat}{a:Act}{w':World}{d k:Nat}{o:Obj}(R':Rel base ah w0 S' ak a w')(ho:S'.objs[k]?=some o)(hlv:o.live=true)(hnr:bC [jR d k S' o]) :
  cO base ah [jR d k S' o] (λj=>if j=0 then ak k else none) w'∧
  ∀v,aV w' (aZ base S'.objs ak) S'.objs ak (.fM k o.ver) v→aV w' (aZ base [jR d k S' o] (λj=>if j=0 then ak k else none)) [jR d k S' o] (λj=>if j=0 then ak k else none) (.fM 0 0) v:=by
 refine⟨(C9 R' ho hlv hnr).1,λv hx=>?_⟩
 obtain⟨h0,o1,h1,h2,h3⟩:=hx
 rw[ho]at h1
 cases h1
 obtain⟨hM,g,hg,hv⟩:=h3 hlv rfl
 exact⟨h0,_,rfl,Nat.le_refl _,λ_ _=>⟨hM,g,by simp only[if_true];exact hg,hv⟩⟩
theorem av.Sv {f:FuncId}{fn:Func}{c:Code}{C:LC}{args:List PV}{o':Obj}(d:Nat){t n:Nat}(hD:∀t,fB P t (D t))(hT:tL P none sJ T)(hm:P.follows .mixedOrders=true)
  (hf:P.funcs[f]?=some fn) (hname:(fn.name== "runtime.NumGoroutine")=false) (hb:fn.body=some c) (hn:fn.ntmps=n) (hr:fn.results=#[.tmp t]) (hC:strip C=comp c)
  (h:iK P D T C (Yj d t o') (aY args n)):av P f args [] (.fM 0 0) [o']:=by
 refine⟨⟨fn,hf,hname,by rw[hb];rfl⟩,λw blk vs base hbase _ hargs=>?_⟩
 have hpw:PW P none sJ c (Yj d t o') (aY args n):=kG hD hm C _ _ _ c _ _ hT hC h
 have R:=xZ hbase hargs n
 have hw:=hpw _ _ (λx=>(⟨w.heap,[],0,w⟩:Wz)=x) (by rintro z rfl;exact⟨rfl,rfl⟩) _ _ _ ⟨_,rfl,R⟩
 rw[←callsIn_wide (n:=0)]
 refine callsIn_of_wp_marks hf hb trivial ?_
 rw[hn]
 refine wpIn_mono hw ?_
 rintro e a' w' ⟨S0,Xa,⟨he,S',k,ver,o,hwk,ht,ho,hlv,hv,rfl,hnr⟩,_,rfl,R0⟩
 obtain⟨ak,R'⟩:=hwk _ _ _ _ _ _ (Nat.le_refl _) R0
 have key:∀w',Rel base (λb=>b<w.heap.size∧aK [] blk b) ⟨w.heap,[],0,w⟩ S' ak { a' with defers:=[] } w'→∃v,(results fn a'.tmps).run P w'=.ok v w'∧(∃v' jc,Ending.returned v=.returned v'∧
     cO base (λb=>b<w.heap.size∧aK [] blk b) [jR d k S' o] jc w'∧
     aO w' (aZ base [jR d k S' o] jc) [jR d k S' o] jc (.fM 0 0) v'∧(∀b,b<w.heap.size→aK [] blk b→w'.heap[b]?=w.heap[b]?)∧w.heap.size≤w'.heap.size∧Sm w w'):=by
  intro w' R'
  have hx:=R'.ev (.tmp t)
  change aO w' _ _ ak (S'.tmps.getD t .dead) (a'.tmps.getD t undef) at hx
  rw[ht,←hv]at hx
  obtain⟨c1,c2⟩:=Sr (d:=d) R' ho hlv hnr
  exact⟨_,results_tmp hr _ _ _,a'.tmps.getD t undef,_,rfl,c1,c2 _ hx,λb hb1 hb2=>R'.fr b ⟨hb1,hb2⟩,R'.gr,R'.sm⟩
 rcases he with rfl | rfl<;>exact jk _ _ R' key
structure abg (d t:Nat) (o':Obj) (S:St):Prop where
 h:Yj d t o' .ret S
theorem adT{d t n:Nat}{o':Obj}{l:List (Nat×PV)}{ob:List Obj}{k ver:Nat}{o:Obj}(h1:(dD n l).getD t .dead=.fM k ver)(h2:ob[k]?=some o)(h3:o.live=true)(h4:o.ver=ver)(h5:{ eO d (k+1) ob o with ver:=0 }=o')(h6:bC [o']):abg d t o' ⟨dD n l,ob⟩:=
 ⟨.inr rfl,_,k,ver,o,Weak.refl _ _,h1,h2,h3,h4,h5,h6⟩
theorem aW.aci {f:FuncId}{n t:Nat}{C:LC}{args:List PV}{o':Obj}(h:aW P f n [.tmp t] C)(d:Nat)(hD:∀t,fB P t (D t))(hT:tL P none sJ T)(hm:P.follows .mixedOrders=true)
  (hw:∀Q:Exit→St→Prop,(∀l ob,Q .ret ⟨dD n l,ob⟩=abg d t o' ⟨dD n l,ob⟩)→iK P D T C Q (aY args n)):av P f args [] (.fM 0 0) [o']:=by
 obtain⟨fn,c,h1,h2,h3,h4,h5,h6⟩:=h
 exact av.Sv d hD hT hm h1 h2 h3 h4 h5 h6 (hw _ λl ob=>propext ⟨λh=>⟨h⟩,λh=>h.h⟩)
theorem aae{k kv n k' kv' n':Nat}{seen seen':List Nat}{i i' v v':Nat}(h:rU k kv n (seen++[i]) v=rU k' kv' n' (seen'++[i']) v'):k=k'∧kv=kv'∧n=n'∧i=i':=by
 simp only[rU,Obj.mk.injEq,List.cons.injEq,PV.fM.injEq,PV.int.injEq,true_and,List.map_append,List.map_cons,List.map_nil]at h
 obtain⟨⟨⟨h1,h2⟩,h3,h4⟩,_⟩:=h
 obtain⟨_,h5⟩:=List.append_inj' h4 rfl
 simp only[List.cons.injEq,PV.int.injEq,true_and,and_true]at h5
 exact⟨h1,h2,by omega,by omega⟩
theorem acj{objs:List Obj}{j ver k kv n i:Nat}{seen:List Nat}{mo:Obj}{key v:PV}(h1:objs[j]?=some (rU k kv n (seen++[i]) ver))(h2:objs[k]?=some mo)(h3:mo.live=true)(h4:mo.ver=kv)(h5:mo.sz=2)(h6:mo.xs.length=n)(h7:mo.xs[i]?=some (.agg [key,v]))(K:KT) :
  uj (.fM j ver) objs K=K (.bY [key,v]) objs 1:=by
 refine propext ⟨λh=>?_,λh=>⟨k,kv,n,seen,i,mo,key,v,h1,h2,h3,h4,h5,h6,h7,h⟩⟩
 obtain⟨k',kv',n',seen',i',mo',key',v',g1,g2,_,_,_,_,g7,hk⟩:=h
 rw[h1]at g1
 obtain⟨rfl,rfl,rfl,rfl⟩:=aae (Option.some.inj g1)
 rw[h2]at g2;cases g2
 rw[h7]at g7
 cases g7
 exact hk
end Lp
namespace Lp
open Go Go.Proofs
open List (map_append map_cons map_nil map_set)
def l5(p:List UInt8×Vl):PV:=.agg [.str p.1,aj p.2]
def bZ(l:List (List UInt8×Vl))(v:Nat):Obj:=⟨MT,2,l.map l5,true,v⟩
theorem KF{α:Type}(enc:α→PV)(nm:List UInt8):∀(l:List (List UInt8×α)) (i:Nat),(∀p∈l,p.1≠nm)→lT .str (.str nm) (l.map λp=>.agg [.str p.1,enc p.2]) i=some none
 | [],_,_=>rfl
 | p::l,i,h=>by
  have h1:(decide (nm=p.1))=false:=decide_eq_false λe=>h p (List.mem_cons_self ..) e.symm
  simp only[map_cons,lT,QF,h1]
  exact KF enc nm l (i+1) λq hq=>h q (List.mem_cons_of_mem _ hq)
theorem Yk(d n:Nat)(objs:List Obj)(l:List (List UInt8×Vl)):(l.map l5).map (PV.bJ (fA d n objs))=l.map l5:=by
 rw[List.map_map]
 refine List.map_congr_left λx _=>?_
 have h:fA d n objs (aj x.2)=aj x.2:=by cases d<;>rfl
 show PV.agg [fA d n objs (.str x.1),fA d n objs (aj x.2)]=l5 x
 rw[h]
 cases d<;>rfl
theorem lM(l:List (List UInt8×Vl))(v:Nat):bC [bZ l v]:=by
 intro o ho x hx p hp
 simp only[List.mem_singleton]at ho
 subst ho
 simp only[bZ,List.mem_map]at hx
 obtain⟨n,_,rfl⟩:=hx
 simp only[l5,PV.cells,List.mem_cons,List.not_mem_nil,or_false]at hp
 rcases hp with rfl | rfl<;>rfl
theorem Jr{α β:Type}{a:List α}{b:List β}{i:Nat}{x:α}{y:β}(h1:a[i]?=some x)(h2:b[i]?=some y):(a.zip b).take (i+1)=(a.zip b).take i++[(x,y)]:=by
 have:(a.zip b)[i]?=some (x,y):=by rw[List.getElem?_zip_eq_some];exact⟨h1,h2⟩
 rw[List.take_add_one,this];rfl
theorem DJ{v:Vl}(h:rE v)(hk:aN v=6):(aJ v).Nodup∧(aJ v).length=(ax v).length∧(aJ v).length≤1000000∧(aJ v).zip (ax v)=jm v:=by
 obtain⟨h1,_,h2,h3⟩:=bV h.rt hk
 have hf:=bD h.rt
 refine⟨by rw[h2];exact eZ h1.rise,by rw[h2,h3,List.length_map,List.length_map],by have:=h.len;omega,rfl⟩
theorem PK(v:Vl)(hv:rE v)(hk:aN v=6):av Tryz.prog 88 [aj v] [] (.fM 0 0) [bZ (jm v) 0]:=by
 refine IY.aci (T:=bA Tryz.prog [(52,oH),(76,BX)]) 0 hD (ay (af wY (af O3 au))) bE λQ hQ=>?_
 obtain⟨hn,hl,hln,hz⟩:=DJ hv hk
 (conv=>arg 4;cbv);simp (maxSteps:=400000) only[↓aA,aB,BEq.rfl,seval,hQ,↓I9,mH,↓oH,↓BX]
 refine⟨by have:=hv.len;omega,hv.rt.one,by have:=hv.len;omega,hv.rt.one,?_⟩
 refine aQ (λm S=>∃i:Nat,i+m=(aJ v).length∧S=⟨dD 26 [(3,.fM 0 1),(4,bT (ax v)),(11,jT (aJ v)),(12,.int .i64 (aJ v).length),(13,.int .i64 i)],[bZ ((jm v).take i) 1]⟩) (aJ v).length ⟨0,by omega,?_⟩ ?_
 ·simp only[cB,keepR,Nat.reduceAdd,oO,Nat.reduceBEq,map_nil]
  rfl
 rintro m S ⟨i,him,rfl⟩
 rcases Nat.lt_or_ge i (aJ v).length with h | h
 ·have hlt:((i:Int)<((aJ v).length:Int))=True:=eq_true (by omega)
  have zi:(0≤(i:Int))=True:=eq_true (by omega)
  have hgn:=List.getElem?_eq_getElem h
  have Qz:=List.getElem?_eq_getElem (show i<(ax v).length by omega)
  generalize (aJ v)[i]=nm at hgn
  generalize (ax v)[i]=x at Qz
  have ht2:=Jr hgn Qz
  rw[hz]at ht2
  have hmf:lT .str (.str nm) (((jm v).take i).map l5) 0=some none:=KF aj nm _ 0 λp hp e=>by
   obtain⟨j,hj⟩:=List.mem_iff_getElem?.1 hp
   rw[List.getElem?_take]at hj
   split at hj
   ·rename_i hji
    rw[←hz,List.getElem?_zip_eq_some]at hj
    have h1:=hj.1
    rw[e,←hgn]at h1
    have hjl:=(List.getElem?_eq_some_iff.1 hj.1).1
    have:=(List.getElem?_inj hjl hn).1 h1
    omega
   ·cases hj
  unfold bZ
  simp (maxSteps:=400000) only[↓aA,aB,BEq.rfl,seval,hQ,hlt,zi,hgn,Qz,↓I9,fe,Int.toNat_natCast]
  refine⟨.inl trivial,none,hmf,⟨by omega,by omega⟩,m-1,by omega,i+1,by omega,?_⟩
  rw[ht2]
  simp only[CU,map_append,map_cons,map_nil,List.length_append]
  rfl
 ·have hlt:((i:Int)<((aJ v).length:Int))=False:=eq_false (by omega)
  have hi:(jm v).take i=jm v:=List.take_of_length_le (by rw[←hz,List.length_zip];omega)
  unfold bZ
  simp (maxSteps:=400000) only[↓aA,aB,BEq.rfl,seval,hQ,hlt]
  rw[hi]
  exact adT (k:=0) (ver:=1) rfl rfl rfl rfl (by simp only[eO,Yk];rfl) (lM _ 0)
set_option maxRecDepth 1000000 in
theorem Sw(b:Nat)(es:Array MapEntry)(clock:Nat)(w:World)(hb:w.heap[b]?=some (.map es clock)) :
  Calls Tryz.prog 89 #[.map (some b)] w λe w'=>e=.returned (.map (some w.heap.size))∧w'=w.alloc (.map es clock):=by
 have mixed:Tryz.prog.follows .mixedOrders=true:=by kernel_rfl
 have um:Tryz.prog.underlying 102=some (.map 9 23):=by kernel_rfl
 have hq:=λw=>run_eql_map_nil_sl (P:=Tryz.prog) w 102 _ _ (some b) um
 go_enter Tryz.func89,Tryz.ntmps89
 go_wp2
 rw[run_callFunc_extern Tryz.func112 (by kernel_rfl) (by kernel_rfl) (by kernel_rfl) (e:=Extern.MapsClone.clone) (by kernel_rfl),run_maps_clone_sl w 102 hb]
 simp only[Result.andThen]
 rw[Oper.upon_value]
 go_wp2
 rw[run_typeAssert_map_sl _ 102 _ _ _ _ um]
 simp only[Result.andThen]
 rw[Oper.upon_value]
 go_wp2
 go_ret
 exact⟨rfl,rfl⟩
theorem PL{objs:List Obj}{k v:Nat}{l:List (List UInt8×Vl)}{K:KT}(hk:objs[k]?=some (bZ l v))(hK:K (.fM objs.length 1) (objs++[bZ l 1]) 2) :
  jA Tryz.prog 89 [.fM k v] objs K:=by
 refine⟨⟨_,Tryz.func89,by kernel_rfl,by kernel_rfl⟩,λbase ah w0 tmps blk a w vs R hargs=>?_⟩
 obtain⟨hl,hh⟩:=hargs
 match vs,hl with
 | [u],_=>
 have hu:aV w (aZ base objs blk) objs blk (.fM k v) u:=hh 0 _ _ rfl rfl
 obtain⟨_,o,ho,_,hlive⟩:=hu
 rw[hk]at ho
 cases ho
 obtain⟨_,g,hg,rfl⟩:=hlive rfl rfl
 have tZ:=R.objs.ob k _ hk rfl
 unfold bB at tZ
 rw[hg]at tZ
 obtain⟨c,c1,c2,c3⟩:=tZ
 have hcell:w.heap[g]?=some (.map (mapOf c) (c.size / 2)):=by
  rw[c1];simp[m_,bZ]
 show Calls Tryz.prog _ ⟨[.map (some g)]⟩ w _
 refine (Sw g (mapOf c) (c.size / 2) w hcell).mono ?_
 rintro e w' ⟨rfl,rfl⟩
 have hgr:kr w (w.alloc (.map (mapOf c) (c.size / 2))):=.push rfl
 have hnew:(w.alloc (.map (mapOf c) (c.size / 2))).heap[w.heap.size]?=some (.map (mapOf c) (c.size / 2)):=World.alloc_heap_new w _
 have aeG:cO (qh base ⟨tmps,objs⟩ blk w) (λb=>b<w.heap.size∧aK [] blk b) [bZ l 1] (λj=>if j=0 then some w.heap.size else none) (w.alloc (.map (mapOf c) (c.size / 2))):=by
  refine⟨λj o hj _=>?_,λj j' o o' g' hjj hj _ hj' _ hg'=>?_,λj o g' hj _ hg' hp=>?_⟩
  ·match j,hj with
   | 0,hj=>
    cases hj
    refine⟨c,by rw[hnew];simp[m_,bZ],c2,λi x hx=>?_⟩
    obtain⟨d1,d2⟩:=c3 i x hx
    refine⟨d1,λq p hp=>?_⟩
    obtain⟨v',v1,v2⟩:=d2 q p hp
    have hnr:p.ref=false:=lM l v _ (List.mem_singleton.2 rfl) x (List.mem_of_getElem? hx) p (List.mem_of_getElem? hp)
    refine⟨v',v1,.aI ((v2.zo hnr).mono hgr.1 (λb hb hok=>?_) λb x _ hx=>hgr.2.1 b x hx)⟩
    refine⟨.inl hok,λj' o' hj' _=>?_⟩
    match j',hj' with
    | 0,hj'=>simp;omega
  ·match j,j',hj,hj' with
   | 0,0,_,_=>exact absurd rfl hjj
  ·match j,hj with
   | 0,hj=>
    simp only[if_true,Option.some.injEq]at hg'
    omega
 have R2:=R.made (S:=⟨tmps,objs⟩) hgr (lM l 1) aeG
 refine⟨_,_,_,_,rfl,hK,R2,?_⟩
 refine .dS ⟨rfl,bZ l 1,by simp,Nat.le_refl _,λ_ _=>⟨rfl,w.heap.size,?_,rfl⟩⟩
 simp[aF]
theorem Ev(nm:List UInt8):∀(l:List (List UInt8×Vl)) (i:Nat),(lT .str (.str nm) (l.map l5) i=some none∧∀p∈l,p.1≠nm)∨∃j x,lT .str (.str nm) (l.map l5) i=some (some (i+j,aj x))∧l[j]?=some (nm,x)
 | [],_=>.inl ⟨rfl,λp hp=>by cases hp⟩
 | (k,v)::l,i=>by
  by_cases h:nm=k
  ·subst h
   exact .inr ⟨0,v,by simp[lT,l5,QF],rfl⟩
  ·have h1:decide (nm=k)=false:=decide_eq_false h
   have hm:∀z,lT .str (.str nm) (((k,v)::l).map l5) i=z↔lT .str (.str nm) (l.map l5) (i+1)=z:=λz=>by
    simp only[map_cons,l5,lT,QF,h1]
   rcases Ev nm l (i+1) with ⟨h2,h3⟩ | ⟨j,x,h2,h3⟩
   ·refine .inl ⟨(hm _).2 h2,λp hp=>?_⟩
    rcases List.mem_cons.1 hp with rfl | hp
    ·exact λe=>h e.symm
    ·exact h3 p hp
   ·exact .inr ⟨j+1,x,by rw[(hm _).2 h2];congr 3;omega,h3⟩
theorem aaf{l:List (List UInt8×Vl)}{i:Nat}{key v:PV}(h:(l.map l5)[i]?=some (.agg [key,v])):∃p,l[i]?=some p∧key=.str p.1∧v=aj p.2:=by
 rw[List.getElem?_map]at h
 cases hp:l[i]? with
 | none=>rw[hp]at h;cases h
 | some p=>
  rw[hp]at h
  simp only[Option.map_some,Option.some.injEq,l5,PV.agg.injEq,List.cons.injEq,and_true]at h
  exact⟨p,rfl,h.1.symm,h.2.symm⟩
theorem Co(l:List (List UInt8×Vl))(v:Nat):(bZ l v).live=true∧(bZ l v).ver=v∧(bZ l v).sz=2∧(bZ l v).ty=MT∧(bZ l v).xs=l.map l5:=⟨rfl,rfl,rfl,rfl,rfl⟩
def Yl(la lb l':List (List UInt8×Vl))(seen:List Nat):Prop:=(l'.map (·.1)).Nodup∧∀k,k∈l'.map (·.1)↔k∈la.map (·.1)∨∃j∈seen,∃p,lb[j]?=some p∧p.1=k
theorem H8{la lb l' l2:List (List UInt8×Vl)}{seen:List Nat}(h:Yl la lb l' seen){i:Nat}{p:List UInt8×Vl}(hp:lb[i]?=some p)(h2:(l2=l'++[p]∧p.1 ∉ l'.map (·.1))∨∃j x,l'[j]?=some (p.1,x)∧l2=l'.set j p):Yl la lb l2 (seen++[i]):=by
 have hx:∀k,(∃j∈seen++[i],∃q,lb[j]?=some q∧q.1=k)↔(∃j∈seen,∃q,lb[j]?=some q∧q.1=k)∨k=p.1:=λk=>by
  constructor
  ·rintro⟨j,hj,q,hq,e⟩
   rcases List.mem_append.1 hj with hj | hj
   ·exact .inl ⟨j,hj,q,hq,e⟩
   ·rw[List.mem_singleton]at hj;subst hj
    rw[hp]at hq;cases hq;exact .inr e.symm
  ·rintro (⟨j,hj,q,hq,e⟩ | rfl)
   ·exact⟨j,List.mem_append_left _ hj,q,hq,e⟩
   ·exact⟨i,by simp,p,hp,rfl⟩
 rcases h2 with ⟨rfl,hn⟩ | ⟨j,x,hj,rfl⟩
 ·refine⟨?_,λk=>?_⟩
  ·rw[map_append,List.nodup_append]
   refine⟨h.1,by simp,λa ha b hb e=>?_⟩
   simp only[map_cons,map_nil,List.mem_singleton]at hb
   subst e;subst hb;exact hn ha
  ·rw[hx,←or_assoc,←h.2]
   simp
 ·have hk:(l'.set j p).map (·.1)=l'.map (·.1):=by
    rw[map_set]
    have hjl:=(List.getElem?_eq_some_iff.1 hj).1
    apply List.ext_getElem?
    intro q
    by_cases e:j=q
    ·subst e
     rw[List.getElem?_set_self (by simpa using hjl),List.getElem?_map,hj];rfl
    ·rw[List.getElem?_set_ne e]
  refine⟨by rw[hk];exact h.1,λk=>?_⟩
  rw[hk,hx,←or_assoc,←h.2]
  refine⟨.inl,λh=>h.elim id λe=>?_⟩
  rw[e]
  exact List.mem_map.2 ⟨_,List.mem_of_getElem? hj,rfl⟩
theorem Sy{O:List Obj}{N:Nat}(hO:O.length=N){la lb:List (List UInt8×Vl)}{K:KT}(hla:(la.map (·.1)).Nodup)(hK:∀l' seen,(l'.map (·.1)).Nodup→(∀k,k∈l'.map (·.1)↔k∈la.map (·.1)∨k∈lb.map (·.1))→K (.bY []) (O++[bZ la 0,bZ lb 0,bZ l' 1,rU (N+1) 0 lb.length seen 1]) 2) :
  jA Tryz.prog 90 [.fM (N+2) 1,.fM (N+1) 0] (O++[bZ la 0,bZ lb 0,bZ la 1]) K:=by
 refine dO.abf hD (Hy au _) bE λQ hQ hQn=>?_
 have hG:=HY hO
 (conv=>arg 4;cbv);simp (maxSteps:=400000) only[↓aA,aB,BEq.rfl,seval,hQ,hG,o5 N,↓ZH,uh,Co]
 refine aQ (λm S=>∃(l':List (List UInt8×Vl)) (seen rem:List Nat),rem.length=m∧(∀j,j<lb.length→j∈seen∨j∈rem)∧Yl la lb l' seen∧
  S=⟨dD 16 [(0,.fM (N+2) 1),(7,.fM (N+3) 1)],O++[bZ la 0,bZ lb 0,bZ l' 1,rU (N+1) 0 lb.length seen 1]⟩) lb.length ⟨la,[],List.range lb.length,by simp,λj hj=>.inr (List.mem_range.2 hj),⟨hla,λk=>⟨.inl,λh=>h.elim id λ⟨j,hj,_⟩=>by cases hj⟩⟩,?_⟩ ?_
 ·simp only[cB,keepR,Nat.reduceAdd,oO,Nat.reduceBEq,map_nil]
 rintro m S ⟨l',seen,rem,hrm,hsr,hC,rfl⟩
 simp (maxSteps:=400000) only[↓aA,aB,BEq.rfl,seval,hQ,↓ZH]
 refine⟨rfl,N+1,0,_,seen,bZ lb 0,hG.2.1 _ _ 2,hG.2.1 _ _ 0,rfl,rfl,rfl,by simp[bZ],λhall=>?_,λi key v hns hx=>?_⟩
 ·simp (maxSteps:=400000) only[↓aA,aB,BEq.rfl,seval,hQ,bW,hQn]
  refine hK l' seen hC.1 λk=>?_
  rw[hC.2]
  refine or_congr_right ⟨λ⟨j,_,p,hp,e⟩=>e ▸ List.mem_map_of_mem (List.mem_of_getElem? hp),λh=>?_⟩
  obtain⟨p,hp,rfl⟩:=List.mem_map.1 h
  obtain⟨j,hj⟩:=List.mem_iff_getElem?.1 hp
  exact⟨j,hall j (List.getElem?_eq_some_iff.1 hj).1,p,hj,rfl⟩
 ·have hx':(lb.map l5)[i]?=some (.agg [key,v]):=hx
  obtain⟨p,hp,rfl,rfl⟩:=aaf hx'
  have hil:=(List.getElem?_eq_some_iff.1 hp).1
  have hset:(O++[bZ la 0,bZ lb 0,bZ l' 1,rU (N+1) 0 lb.length seen 1]).set (N+3) (rU (N+1) 0 lb.length (seen++[i]) 1)=O++[bZ la 0,bZ lb 0,bZ l' 1,rU (N+1) 0 lb.length (seen++[i]) 1]:=by
   rw[hG.2.2.2.1];rfl
  have he:∀K,uj (.fM (N+3) 1) (O++[bZ la 0,bZ lb 0,bZ l' 1,rU (N+1) 0 lb.length (seen++[i]) 1]) K=K (.bY [.str p.1,aj p.2]) (O++[bZ la 0,bZ lb 0,bZ l' 1,rU (N+1) 0 lb.length (seen++[i]) 1]) 1:=λK=>
   acj (mo:=bZ lb 0) (hG.2.1 _ _ 2) (hG.2.1 _ _ 0) rfl rfl rfl (by simp[bZ]) hx' K
  rw[hset]
  have adU:i∈rem:=(hsr i hil).resolve_left hns
  have hrl:(rem.erase i).length+1=rem.length:=by
   rw[List.length_erase_of_mem adU]
   have:=List.length_pos_of_mem adU
   omega
  have adV:∀j,j<lb.length→j∈seen++[i]∨j∈rem.erase i:=λj hj=>by
   by_cases e:j=i
   ·exact .inl (by simp[e])
   ·rcases hsr j hj with h | h
    ·exact .inl (by simp[h])
    ·exact .inr ((List.mem_erase_of_ne e).2 h)
  rcases Ev p.1 l' 0 with ⟨hm,hno⟩ | ⟨j,x,hm,hj⟩
  ·simp (maxSteps:=400000) only[↓aA,aB,BEq.rfl,seval,hQ,bW,↓ZH,↓he,↓I9,fe,hG,o5 N,Co,hm]
   refine⟨.inl trivial,(rem.erase i).length,by omega,l'++[p],seen++[i],rem.erase i,rfl,adV,H8 hC hp ?_,?_⟩
   ·exact .inl ⟨rfl,λh=>by
      obtain⟨q,hq,e⟩:=List.mem_map.1 h
      exact hno q hq e⟩
   ·simp only[CU,bZ,map_append,map_cons,map_nil];rfl
  ·simp (maxSteps:=400000) only[↓aA,aB,BEq.rfl,seval,hQ,bW,↓ZH,↓he,↓I9,fe,hG,o5 N,Co,hm]
   refine⟨.inl trivial,(rem.erase i).length,by omega,l'.set j p,seen++[i],rem.erase i,rfl,adV,H8 hC hp ?_,?_⟩
   ·exact .inr ⟨j,x,hj,rfl⟩
   ·simp only[CU,bZ,map_set,Nat.zero_add];rfl
theorem aeH(k v:Nat):(PV.fM k v).cells=[.fM k v]∧(PV.fM k v).isAgg=false∧(PV.fM k v).storable=true∧(PV.fM k v).ref=true:=⟨rfl,rfl,rfl,rfl⟩
def VQ(k v:Nat):Obj:=⟨102,1,[.fM k v],true,1⟩
theorem Sz{objs:List Obj}{k v:Nat}{K:KT}(hK:K (.fn 115 [] [.bf objs.length 1 0 0]) (objs++[VQ k v]) 2):jA Tryz.prog 92 [.fM k v] objs K:=by
 refine gY.adR hD (Hy au _) bE (by decide) λQ hQ=>?_
 (conv=>arg 4;cbv);simp (maxSteps:=400000) only[↓aA,aB,BEq.rfl,seval,hQ,aeH]
 exact hK
end Lp
namespace Go.Proofs
open Go.Shelf
def Tryz.Ew:Go.Shelf.Ren:=⟨λ| 7=>92 | 10=>115 | n=>n,λ| 23=>102 | 26=>9 | 3=>23 | 28=>108 | 0=>0 | 27=>107 | 33=>61 | 4=>4 | n=>n,λ| n=>n⟩
theorem Tryz.aag:Go.Proofs.SlLaysZ.n7 Tryz.prog Tryz.Ew:={
 mixed:=by kernel_rfl
 f7:=⟨Tryz.f92.name,by decide,Tryz.func92.trans (congrArg some (by kernel_rfl))⟩
 f10:=⟨Tryz.f115.name,by decide,Tryz.func115.trans (congrArg some (by kernel_rfl))⟩
 t0:=Tryz.underlying0
 a0:=Tryz.isAgg0
 z0:=Tryz.sizeOf0
 v0:=Tryz.zeroValue0
 t4:=Tryz.underlying4
 a4:=Tryz.isAgg4
 z4:=Tryz.sizeOf4
 v4:=Tryz.zeroValue4
 t23:=Tryz.underlying102
 a23:=Tryz.isAgg102
 z23:=Tryz.sizeOf102
 v23:=Tryz.zeroValue102
 t26:=Tryz.underlying9
 a26:=Tryz.isAgg9
 z26:=Tryz.sizeOf9
 v26:=Tryz.zeroValue9
 t27:=Tryz.underlying107
 a27:=Tryz.isAgg107
 z27:=Tryz.sizeOf107
 v27:=Tryz.zeroValue107
 t28:=Tryz.underlying108
 a28:=Tryz.isAgg108
 z28:=Tryz.sizeOf108
 v28:=Tryz.zeroValue108
 t33:=Tryz.underlying61
 a33:=Tryz.isAgg61
 z33:=Tryz.sizeOf61
 v33:=Tryz.zeroValue61 }
def Tryz.zQ:Go.Shelf.Ren:=⟨λ| 6=>91 | 8=>113 | 9=>114 | 11=>128 | 13=>130 | 12=>129 | 23=>150 | 24=>151 | 14=>142 | 15=>143 | 16=>144 | 17=>145 | 18=>146 | 19=>147 | 20=>103 | 21=>148 | 22=>149 | 25=>160 | 26=>161 | 27=>162 | 28=>163 | 29=>164 | 30=>125 | 31=>170 | n=>n,λ| 26=>9 | 28=>108 | 24=>75 | 0=>0 | 3=>3 | 37=>122 | 48=>164 | 50=>138 | 4=>4 | 40=>158 | 39=>157 | 45=>90 | 5=>5 | 9=>9 | 51=>174 | 55=>178 | 57=>182 | 58=>183 | 33=>61 | n=>n,λ| n=>n⟩
theorem Tryz.VR:Go.Proofs.SlLaysZ.n6 Tryz.prog Tryz.zQ:={
 mixed:=by kernel_rfl
 f6:=⟨Tryz.f91.name,by decide,Tryz.func91.trans (congrArg some (by kernel_rfl))⟩
 f8:=⟨Tryz.f113.name,by decide,Tryz.func113.trans (congrArg some (by kernel_rfl))⟩
 f11:=⟨Tryz.f128.name,by decide,Tryz.func128.trans (congrArg some (by kernel_rfl))⟩
 t0:=Tryz.underlying0
 a0:=Tryz.isAgg0
 z0:=Tryz.sizeOf0
 v0:=Tryz.zeroValue0
 t24:=Tryz.underlying75
 a24:=Tryz.isAgg75
 z24:=Tryz.sizeOf75
 v24:=Tryz.zeroValue75
 t26:=Tryz.underlying9
 a26:=Tryz.isAgg9
 z26:=Tryz.sizeOf9
 v26:=Tryz.zeroValue9
 t28:=Tryz.underlying108
 a28:=Tryz.isAgg108
 z28:=Tryz.sizeOf108
 v28:=Tryz.zeroValue108
 i26:=by kernel_rfl }
end Go.Proofs
namespace Lp
open Go Go.Proofs Go.RowKit Go.Maps Go.Sort Go.WideElems
open List (length_map map_map)
theorem ack(m:Nat):AnyZ.SortsIn Tryz.prog Tryz.zQ Fence.wide m:=
 ⟨λblk off cap ss W hH hblk hsz=>callsIn_wide.2 (Any.slices_Sort_string Tryz.TM blk off cap ss W hH hblk hsz),
  λp cap W=>callsIn_wide.2 (Any.slices_Sort_string_none Tryz.TM p cap W)⟩
theorem PN(b nn Bm:Nat)(D0:DataW Unit)(R:Value→Option (DataW Unit×List MemPlace))(w:World)(hBm:Bm<w.heap.size)(hm:w.cell? ⟨Bm,0,none⟩=some (.map (some b)))(hown:w.ownsMap Tryz.prog 9 R b nn D0)(hmax:Maps.size D0≤2000000) :
  Calls Tryz.prog 91 #[.func (.func 115) #[] #[.pointer (some ⟨Bm,0,none⟩)]] w λe w'=>∃(v:Value) (ss:List (List UInt8)),e=.returned v∧ss.Perm (strKeys D0)∧
   w'.ownsRow w.heap.size 9 1 v ss.length ((ss.mergeSort (λx y=>decide (x≤y))).map encStr)∧(v=.slice none 0 0↔ss=[])∧Below w.heap.size w w':=by
 refine (callsIn_wide (n:=5)).1 ?_
 have hseq:SeqGives Fence.wide 2 Tryz.prog 115 #[.pointer (some ⟨Bm,0,none⟩)] encStr (λss=>ss.Perm (strKeys D0)) (Maps.size D0) w:=
  AnyZ.keys_gives (ρ:=Tryz.Ew) { Tryz.aag with } Fence.wide _ trivial rfl (by omega) Bm b nn D0 _ hBm hm hown
 exact AnyZ.sorted_in Tryz.VR Fence.wide 5 trivial trivial trivial trivial rfl (by omega) (ack _) (enters_of Tryz.func114 (by kernel_rfl) rfl) 115 #[.pointer (some ⟨Bm,0,none⟩)] trivial (enters_of Tryz.func115 (by kernel_rfl) rfl) _ _ (by simp[maxLen];omega) (by omega) _ hseq
theorem SA{w w':World}(h:Below w.heap.size w w'):kr w w':=
 ⟨h.size,λb x hx=>by rw[h.block b (Array.getElem?_eq_some_iff.1 hx).1];exact hx,h.os,h.output⟩
theorem Ym{w:World}{b:Nat}{c:Array Value}{l:List (List UInt8×Vl)}(hb:w.heap[b]?=some (.map (mapOf c) (c.size / 2)))(hc:c.size=l.length*2)(hl:l.length≤2000000)(hn:(l.map (·.1)).Nodup)
  (hk:∀(i:Nat) p,l[i]?=some p→c[i*2]?=some (.string ⟨⟨p.1⟩⟩)∧p.1.length≤1000000) :
  ∃D0:DataW Unit,w.ownsMap Tryz.prog 9 (λ_=>some (.nil,[])) b l.length D0∧Maps.size D0=l.length∧(strKeys D0).Perm (l.map (·.1)):=by
 have us:Tryz.prog.underlying 9=some .string:=by kernel_rfl
 have hsz:(mapOf c).size=l.length:=by rw[gX];omega
 have hget:∀i (p:List UInt8×Vl),l[i]?=some p→∃e:MapEntry,(mapOf c).toList[i]?=some e∧e.key=.string ⟨⟨p.1⟩⟩∧e.born=i:=λi p hp=>by
  have hi:=(List.getElem?_eq_some_iff.1 hp).1
  refine⟨_,by rw[Array.getElem?_toList];exact gu c i (by omega),?_,rfl⟩
  show c.getD (2*i) undef=_
  rw[Array.getD_eq_getD_getElem?,Nat.mul_comm,(hk i p hp).1];rfl
 have hlen:(mapOf c).toList.length=l.length:=by rw[Array.length_toList];exact hsz
 have hkeys:(mapOf c).toList.map (·.key)=(l.map (·.1)).map λk=>Value.string ⟨⟨k⟩⟩:=by
  apply List.ext_getElem?
  intro i
  rcases Nat.lt_or_ge i l.length with h | h
  ·obtain⟨e,he,hke,_⟩:=hget i _ (List.getElem?_eq_getElem h)
   rw[List.getElem?_map,he,List.getElem?_map,List.getElem?_map,List.getElem?_eq_getElem h,Option.map_some,hke];rfl
  ·rw[List.getElem?_eq_none (by simpa[hlen] using h),List.getElem?_eq_none (by simpa using h)]
 have hborn:(mapOf c).toList.map (·.born)=List.range l.length:=by
  apply List.ext_getElem?
  intro i
  rcases Nat.lt_or_ge i l.length with h | h
  ·obtain⟨e,he,_,YP⟩:=hget i _ (List.getElem?_eq_getElem h)
   rw[List.getElem?_map,he,Option.map_some,YP,List.getElem?_range h]
  ·rw[List.getElem?_eq_none (by simpa[hlen] using h),List.getElem?_eq_none (by simpa using h)]
 have hrd:∀x∈(mapOf c).toList,∃k:List UInt8,x.key=.string ⟨⟨k⟩⟩∧rd (H:=Unit) Tryz.prog 9 (λ_=>some (.nil,[])) x=some (.string k,.nil):=λx hx=>by
  obtain⟨i,hi⟩:=List.mem_iff_getElem?.1 hx
  have hil:=(List.getElem?_eq_some_iff.1 hi).1
  rw[hlen]at hil
  obtain⟨e,he,hke,_⟩:=hget i _ (List.getElem?_eq_getElem hil)
  rw[hi]at he;cases he
  refine⟨_,hke,?_⟩
  have h2:=(hk i _ (List.getElem?_eq_getElem hil)).2
  have h3:keyOf Tryz.prog 9 x.key=some (.string l[i].1):=by
   rw[hke];exact Go.WideMaps.keyOf_string_mk us (by show List.length _≤_;simp[maxLen];omega)
  simp only[WideElems.rd,h3]
  rfl
 refine⟨_,⟨mapOf c,c.size / 2,hb,⟨by simp[hsz,maxLen];omega,⟨λx hx=>?_,?_,?_⟩,λx hx=>?_⟩,by omega,rfl⟩,?_,?_⟩
 ·have:x.born∈(mapOf c).toList.map (·.born):=List.mem_map_of_mem hx
  rw[hborn,List.mem_range]at this
  omega
 ·rw[hborn];exact List.nodup_range
 ·rw[hkeys]
  refine List.Pairwise.map _ (λa b hab e=>hab ?_) hn
  simpa using e
 ·obtain⟨k,_,h⟩:=hrd x hx
  exact⟨_,h⟩
 ·refine (WideShapes.sorted_perm (H:=Unit) _).length_eq.trans ?_
  rw[length_map,hlen]
 ·show ((List.foldr DataW.insert [] _).map λp=>strOf p.1).Perm _
  refine ((WideShapes.sorted_perm (H:=Unit) _).map _).trans ?_
  have:((mapOf c).toList.map (rg (H:=Unit) Tryz.prog 9 λ_=>some (.nil,[]))).map (λp=>strOf p.1)=l.map (·.1):=by
   rw[map_map]
   have e:(mapOf c).toList.map ((λp:Lit×DataW Unit=>strOf p.1) ∘ rg (H:=Unit) Tryz.prog 9 λ_=>some (.nil,[]))=((mapOf c).toList.map (·.key)).map (λv=>match v with | .string s=>s.data.toList | _=>[]):=by
    rw[map_map]
    refine List.map_congr_left λx hx=>?_
    obtain⟨k,h1,h2⟩:=hrd x hx
    simp only[Function.comp_apply,rg,h2,Option.getD_some,strOf,h1]
   rw[e,hkeys,map_map]
   conv=>rhs;rw[←List.map_id (l.map (·.1))]
   rfl
  rw[this]
theorem ML{objs:List Obj}{kb km:Nat}{l:List (List UInt8×Vl)}{K:KT}(h1:objs[kb]?=some (VQ km 1))(h2:objs[km]?=some (bZ l 1))(hn:(l.map (·.1)).Nodup)(hl:l.length≤2000000)(hkl:∀k∈l.map (·.1),k.length≤1000000)
  (hK:K (jT (nD (l.map (·.1)))) objs 2):jA Tryz.prog 91 [.fn 115 [] [.bf kb 1 0 0]] objs K:=by
 refine⟨⟨_,Tryz.func91,by kernel_rfl,by kernel_rfl⟩,λbase ah w0 tmps blk a w vs R hargs=>?_⟩
 obtain⟨hvl,hh⟩:=hargs
 match vs,hvl with
 | [u],_=>
 obtain⟨va,vc,rfl,⟨ha,_⟩,hc,hcr⟩:=hh 0 _ _ rfl rfl
 match va,ha,vc,hc with
 | [],_,[p],_=>
 have hp:aV w (aZ base objs blk) objs blk (.bf kb 1 0 0) p:=hcr 0 _ _ rfl rfl
 obtain⟨_,o,ho,_,hlive⟩:=hp
 rw[h1]at ho
 cases ho
 obtain⟨_,Bm,hBm,rfl⟩:=hlive rfl rfl
 have tZ:=R.objs.ob kb _ h1 rfl
 unfold bB at tZ
 rw[hBm]at tZ
 obtain⟨c,c1,_,c3⟩:=tZ
 rw[jv (show (VQ km 1).ty≠MT by show 102≠MT;decide)]at c1
 obtain⟨v0,v1,v2⟩:=(c3 0 (.fM km 1) rfl).2 0 (.fM km 1) rfl
 obtain⟨_,om,hom,_,hml⟩:=v2
 rw[h2]at hom
 cases hom
 obtain⟨_,g,hg,rfl⟩:=hml rfl rfl
 have acn:=R.objs.ob km _ h2 rfl
 unfold bB at acn
 rw[hg]at acn
 obtain⟨cm,m1,m2,m3⟩:=acn
 have hheap:w.heap[g]?=some (.map (mapOf cm) (cm.size / 2)):=by rw[m1];simp[m_,bZ]
 have hcsz:cm.size=l.length*2:=by
  have:=m2.2 rfl
  simpa[bZ] using this
 have hcell:w.cell? ⟨Bm,0,none⟩=some (.map (some g)):=by
  simp only[World.cell?,c1]
  simpa[VQ,Nu,bZ] using v1
 have hBl:Bm<w.heap.size:=(Array.getElem?_eq_some_iff.1 c1).1
 obtain⟨D0,hown,hsz,hperm⟩:=Ym hheap hcsz hl hn λi q hq=>by
  have hx:(bZ l 1).xs[i]?=some (l5 q):=by simp[bZ,hq]
  obtain⟨w1,w2,w3⟩:=(m3 i _ hx).2 0 (.str q.1) rfl
  have w4:=wS (w3.zo rfl)
  subst w4
  exact⟨by simpa[bZ] using w2,hkl _ (List.mem_map_of_mem (List.mem_of_getElem? hq))⟩
 show Calls Tryz.prog _ ⟨[.func (.func 115) #[] #[.pointer (some ⟨Bm,0*1+0,none⟩)]]⟩ w _
 refine (PN g l.length Bm D0 _ w hBl hcell hown (by omega)).mono ?_
 rintro e w' ⟨v,ss,rfl,hss,hrow,hnil,hB⟩
 have hgr:=SA hB
 have hsort:(ss.mergeSort λx y=>decide (x≤y))=nD (l.map (·.1)):=mergeSort_of_perm (hss.trans hperm)
 have adW:ss.length=l.length:=by rw[(hss.trans hperm).length_eq,length_map]
 rw[hsort]at hrow
 refine⟨v,_,objs,blk,rfl,hK,R.grew hgr,.aI ?_⟩
 obtain⟨r1,r2⟩:=hrow
 have hsl:(nD (l.map (·.1))).length=ss.length:=by rw[BU,length_map,adW]
 rcases r2 with ⟨rfl,hz⟩ | ⟨gb,cap,cur,rfl,hbase,hgb,q1,q2,q3,q4⟩
 ·have:nD (l.map (·.1))=[]:=List.eq_nil_of_length_eq_zero (by omega)
  rw[this]
  exact .slnil 1 none (by decide)
 ·have hok:aZ base objs blk gb:=by
    refine⟨R.bs gb (Nat.le_trans R.gr hbase),λk o hk hlo hb=>?_⟩
    have tZ:=R.objs.ob k o hk hlo
    unfold bB at tZ
    rw[hb]at tZ
    obtain⟨_,x1,_⟩:=tZ
    have:=(Array.getElem?_eq_some_iff.1 x1).1
    omega
  have hgs:gb<w'.heap.size:=(Array.getElem?_eq_some_iff.1 hgb).1
  have hel:∀(i:Nat) (s:List UInt8),(nD (l.map (·.1)))[i]?=some s→cur[i]?=some (.string ⟨⟨s⟩⟩):=λi s hs=>by
   have hil:=(List.getElem?_eq_some_iff.1 hs).1
   have:(cur.toList.take (ss.length*1))[i]?=some (encStr s):=by rw[q4,List.getElem?_map,hs];rfl
   rw[List.getElem?_take]at this
   split at this
   ·simpa[encStr] using this
   ·cases this
  have hlen:(jT (nD (l.map (·.1))))=.sl 1 ((nD (l.map (·.1))).map .str) none:=rfl
  rw[hlen,←hsl,←length_map (f:=PV.str)]
  refine .sl 1 _ none (by decide) gb 0 cap (λi _=>.string ⟨⟨(nD (l.map (·.1))).getD i []⟩⟩) (λ_=>⟨hok,hgs⟩) (by rw[length_map,hsl];exact q1) q2 (λi x hx=>?_) (λi x j p hx hp=>?_) λi x j p hx hp=>?_
  all_goals
   rw[List.getElem?_map]at hx
   cases hs:(nD (l.map (·.1)))[i]? with
   | none=>rw[hs]at hx;cases hx
   | some s=>
    rw[hs]at hx
    cases hx
    first
    | rfl
    | (match j,hp with
       | 0,hp=>
        cases hp
        have hd:(nD (l.map (·.1))).getD i []=s:=by rw[List.getD_eq_getElem?_getD,hs];rfl
        first
        | (rw[hd];exact .str s)
        | (rw[hd]
           simp only[World.cell?,hgb,Nat.zero_add,Nat.mul_one,Nat.add_zero]
           exact hel i s hs))
end Lp
namespace Lp
open Go Go.Proofs
open Option (map_none map_some)
def vC:d9:=λargs objs K=>match args with
 | [a]=>gD aj a (HK.mk:HK λt=>rE t∧aN t=6∧K (.fM objs.length 0) (objs++[bZ (jm t) 0]) 2)
 | _=>False
theorem Js:aR Tryz.prog 88 vC:=by
 intro args objs K h
 unfold vC at h
 split at h
 ·obtain⟨t,rfl,h1,h2,hk⟩:=h
  have h:=mI.made (P:=Tryz.prog) (objs:=objs) _ _ rfl (lM (jm t) 0) (PK t h1 h2)
  exact⟨_,_,_,h,by simpa[PV.shift,PV.jN] using hk⟩
 ·exact h.elim
theorem H9(nm:List UInt8):∀(l:mq) (i:Nat),∃j,lT .str (.str nm) (l.map l5) i=some ((iZ l nm).map λx=>(j,aj x))
 | [],i=>⟨0,rfl⟩
 | (k,v)::l,i=>by
  by_cases h:k=nm
  ·subst h
   exact⟨i,by simp[lT,l5,QF,iZ]⟩
  ·obtain⟨j,hj⟩:=H9 nm l (i+1)
   have h1:decide (nm=k)=false:=decide_eq_false λe=>h e.symm
   have h2:decide (k=nm)=false:=decide_eq_false h
   exact⟨j,by simp only[List.map_cons,lT,l5,QF,h1];rw[show iZ ((k,v)::l) nm=iZ l nm by simp[iZ,List.find?_cons,h2]];exact hj⟩
def MN(la lb l':mq)(N:Nat)(seen:List Nat):List Obj:=[bZ la 0,bZ lb 0,bZ l' 1,rU (N+1) 0 lb.length seen 1,VQ (N+2) 1]
theorem MO(la lb l':mq)(N:Nat)(seen:List Nat):Zh N (MN la lb l' N seen):=by
 intro o ho x hx c hc
 simp only[MN,List.mem_cons,List.not_mem_nil,or_false]at ho
 rcases ho with rfl | rfl | rfl | rfl | rfl
 ·exact kE (lM la 0 _ (List.mem_singleton.2 rfl) x hx c hc)
 ·exact kE (lM lb 0 _ (List.mem_singleton.2 rfl) x hx c hc)
 ·exact kE (lM l' 1 _ (List.mem_singleton.2 rfl) x hx c hc)
 ·simp only[rU,List.mem_cons,List.mem_map]at hx
  rcases hx with rfl | rfl | ⟨i,_,rfl⟩
  ·simp only[PV.cells,List.mem_singleton]at hc;subst hc;simp[PV.Ea]
  ·simp only[PV.cells,List.mem_singleton]at hc;subst hc;rfl
  ·simp only[PV.cells,List.mem_singleton]at hc;subst hc;rfl
 ·simp only[VQ,List.mem_singleton]at hx;subst hx
  simp only[PV.cells,List.mem_singleton]at hc;subst hc;simp[PV.Ea]
theorem geT(n:Nat):(∀x b,(PV.bY [aj x,.bool b]).ge n=true)∧(∀z x q b,(PV.bY [.sl z x q,.bool b]).ge n=true):=⟨λ_ _=>rfl,λ_ _ _ _=>rfl⟩
theorem KG{l:mq}{nm:List UInt8}(h:iZ l nm=none):nm ∉ l.map (·.1):=by
 intro hm
 obtain⟨q,hq,rfl⟩:=List.mem_map.1 hm
 simp only[iZ,Option.map_eq_none_iff,List.find?_eq_none]at h
 exact absurd (h q hq) (by simp)
theorem KH{l:mq}{nm:List UInt8}{x:Vl}(h:iZ l nm=some x):(nm,x)∈l:=by
 simp only[iZ,Option.map_eq_some_iff]at h
 obtain⟨q,hq,rfl⟩:=h
 have h1:=List.find?_some hq
 have h2:=List.mem_of_find?_eq_some hq
 simp only[decide_eq_true_eq]at h1
 rw[←h1];exact h2
theorem Jt{f:Nat}(hs:Yi f)(p:List Stp)(a b:Vl)(hp:p.length+f+1=20)(ha:rE a)(hb:rE b)(ka:aN a=6)(kb:aN b=6) :
  fC Tryz.prog 66 [b_ p,aj a,aj b] (jD ((j3 a b).flatMap (kV (aC f) p a b))):=by
 refine Gx.TW (fnT:=lu [(88,vC),(93,Cm)]) hD (af Js (af Eu au)) bE (by decide) λI J objs y Q hI je jB hQ=>?_
 obtain⟨N,hN⟩:∃N,objs.length=N:=⟨_,rfl⟩
 rw[hN]at je jB hQ ⊢
 have hG:=HY hN
 obtain⟨na,la,lna,hza⟩:=DJ ha ka
 obtain⟨nb,lb,lnb,hzb⟩:=DJ hb kb
 obtain⟨pa1,_,pa2,pa3⟩:=bV ha.rt ka
 obtain⟨pb1,_,pb2,pb3⟩:=bV hb.rt kb
 (conv=>arg 4;cbv);simp (maxSteps:=400000) only[↓aA,aB,BEq.rfl,seval,hQ,ES,hG,hN,o5 N,yG,↓vC]
 refine⟨ha,ka,hb,kb,?_⟩
 refine vk rfl rfl (PL (hG.1 _ _) ?_)
 simp (maxSteps:=400000) only[↓aA,aB,BEq.rfl,seval,hQ,ES,hG,hN,o5 N]
 refine vk rfl rfl (Sy hN (by rw[←pa2];exact na) λl' seen hn' hk'=>?_)
 simp (maxSteps:=400000) only[↓aA,aB,BEq.rfl,seval,hQ,ES,hG,hN,o5 N]
 refine vk rfl rfl (Sz ?_)
 simp (maxSteps:=400000) only[↓aA,aB,BEq.rfl,seval,hQ,ES,hG,hN,o5 N]
 rw[←pa2,←pb2]at hk'
 have hperm:(l'.map (·.1)).Perm (aJ a++(aJ b).filter λx=>!(aJ a).contains x):=by
  refine (List.perm_ext_iff_of_nodup hn' ?_).2 λk=>?_
  ·rw[List.nodup_append]
   refine⟨na,nb.filter _,λx hx z hz e=>?_⟩
   subst e
   have:=(List.mem_filter.1 hz).2
   simp[hx]at this
  ·rw[hk',List.mem_append,List.mem_filter]
   by_cases h:k∈aJ a<;>simp[h]
 have hlen:l'.length≤2000000:=by
  have h1:=hperm.length_eq
  rw[List.length_map,List.length_append]at h1
  have h2:=List.length_filter_le (λx=>!(aJ a).contains x) (aJ b)
  omega
 have hkl:∀k∈l'.map (·.1),k.length≤1000000:=λk hk=>by
  rcases (hk' k).1 hk with h | h
  ·exact lG ha.rt ha.nm k h
  ·exact lG hb.rt hb.nm k h
 refine vk rfl rfl (ML (km:=N+2) (l:=l') (hG.2.1 _ _ 3) (hG.2.1 _ _ 1) hn' hlen hkl ?_)
 have hnu:nD (l'.map (·.1))=j3 a b:=Go.mergeSort_of_perm hperm
 rw[hnu]
 simp (maxSteps:=400000) only[↓aA,aB,BEq.rfl,seval,hQ,ES,hG,hN,o5 N]
 obtain⟨nE,hnm⟩:∃nE,j3 a b=nE:=⟨_,rfl⟩
 have hnl:nE.length≤2000000:=by rw[←hnm,←hnu,BU,List.length_map];exact hlen
 have hmem:∀k∈nE,k∈aJ a∨k∈aJ b:=λk hk=>by
  rw[←hnm,←hnu]at hk
  exact (hk' k).1 ((List.mergeSort_perm _ _).mem_iff.1 hk)
 obtain⟨g,hg⟩:∃g,kV (aC f) p a b=g:=⟨_,rfl⟩
 rw[hnm]at hQ ⊢
 rw[hg]at hQ ⊢
 refine aQ (λm S=>∃(i:Nat) (O:List Obj),i+m=nE.length∧I ((nE.take i).flatMap g).length O∧
  S=⟨dD 76 [(0,b_ p),(3,.qI y),(9,.fM N 0),(10,.fM (N+1) 0),(31,jT nE),(32,.int .i64 nE.length),(33,.int .i64 i)],O++MN (jm a) (jm b) l' N seen⟩)
  nE.length ⟨0,objs,by omega,hI,?_⟩ ?_
 ·simp only[cB,keepR,Nat.reduceAdd,oO,Nat.reduceBEq,List.map_nil]
  rfl
 clear hG hN hI
 rintro m S ⟨i,O,him,Fp,rfl⟩
 have hO:=(je _ _ Fp).1
 have hG:=HY hO
 rcases Nat.lt_or_ge i nE.length with h | h
 rotate_left 1
 ·have hlt:((i:Int)<(nE.length:Int))=False:=eq_false (by omega)
  simp (maxSteps:=400000) only[↓aA,aB,BEq.rfl,seval,hQ,hlt,ES]
  obtain rfl:i=nE.length:=by omega
  rw[List.take_length]at Fp
  exact DI (by rw[gG];exact Fp) hO
 have hlt:((i:Int)<(nE.length:Int))=True:=eq_true (by omega)
 have zi:(0≤(i:Int))=True:=eq_true (by omega)
 have hgn:=List.getElem?_eq_getElem h
 have htk:nE.take (i+1)=nE.take i++[nE[i]]:=by rw[List.take_add_one,hgn];rfl
 have hsplit:nE=nE.take i++(nE[i]::nE.drop (i+1)):=by rw[←List.drop_eq_getElem_cons h,List.take_append_drop]
 have hkm:=hmem _ (List.getElem_mem h)
 generalize nE[i]=nm at hgn htk hsplit hkm
 have hys:nE.flatMap g=(nE.take i).flatMap g++(g nm++(nE.drop (i+1)).flatMap g):=by
  conv=>lhs;rw[hsplit]
  rw[List.flatMap_append,List.flatMap_cons]
 have htl:((nE.take (i+1)).flatMap g).length=((nE.take i).flatMap g).length+(g nm).length:=by
  rw[htk,List.flatMap_append,List.length_append];simp
 have hyl:(nE.flatMap g).length=((nE.take i).flatMap g).length+(g nm).length+((nE.drop (i+1)).flatMap g).length:=by rw[hys];simp;omega
 obtain⟨ja,hja⟩:=H9 nm (jm a) 0
 obtain⟨jb,hjb⟩:=H9 nm (jm b) 0
 have hoa:gP a nm=iZ (jm a) nm:=by rw[gP,if_pos ka]
 have tZ:gP b nm=iZ (jm b) nm:=by rw[gP,if_pos kb]
 cases hvb:iZ (jm b) nm with
 | none=>
  have hgm:g nm=[⟨2,p++[⟨false,nm,0⟩],[]⟩]:=by
   rw[←hg,kV,if_neg (by simp[eY,tZ,hvb])]
  rw[hvb]at hjb
  simp only[map_none]at hjb
  cases hva:iZ (jm a) nm with
  | none=>
   rcases hkm with hk | hk
   ·rw[pa2]at hk;exact absurd hk (KG hva)
   ·rw[pb2]at hk;exact absurd hk (KG hvb)
  | some x=>
   rw[hva]at hja
   simp only[map_some]at hja
   have hyq:(jD (nE.flatMap g))[((nE.take i).flatMap g).length]?=some [mg 2 (aT (p++[⟨false,nm,0⟩])) (.sl 0 [] (some true))]:=by
    rw[←KC p _ [],hys,hgm]
    exact Cn (l2:=[])
   have hg1:(g nm).length=1:=by rw[hgm];rfl
   simp (maxSteps:=400000) only[↓aA,aB,BEq.rfl,seval,hQ,hlt,zi,ES,MN,hG,o5 N,hgn,spB,qF,yG,↓I9,jy,Co,hja,hjb,Dt,bW,Int.toNat_natCast]
   refine bg _ (Weak.refl _ _) ?_
   simp (maxSteps:=400000) only[↓aA,aB,BEq.rfl,seval,hQ,hlt,zi,ES,MN,hG,o5 N,hgn,spB,qF,yG,↓I9,jy,Co,hja,hjb,Dt,bW,Int.toNat_natCast]
   refine⟨by omega,.inl trivial,.inl trivial,Ck (n:=N) rfl rfl rfl rfl je jB (nX (by simp only[VJ,VO,geT,TY,Bool.and_self])) (MO (jm a) (jm b) l' N seen) rfl Fp hyq (λO1 hI1=>?_) λO1 vz=>?_⟩
   ·simp (maxSteps:=400000) only[↓aA,aB,BEq.rfl,seval,hQ]
    refine⟨⟨by omega,by omega⟩,m-1,by omega,i+1,O1,by omega,?_,by rw[Int.natCast_add];rfl⟩
    rw[htl,hg1];exact hI1
   ·simp (maxSteps:=400000) only[↓aA,aB,BEq.rfl,seval,hQ]
    exact lK (by rw[gG];omega) vz (jB _ _ vz).1
 | some z=>
  rw[hvb]at hjb
  simp only[map_some]at hjb
  have hfb:bN b nm=z:=by rw[bN,tZ,hvb];rfl
  have hzk:rE z:=(rE.parts hb).2 z (by rw[pb3];exact List.mem_map.2 ⟨_,KH hvb,rfl⟩)
  cases hva:iZ (jm a) nm with
  | none=>
   have hgm:g nm=[⟨1,p++[⟨false,nm,0⟩],z⟩]:=by
    rw[←hg,kV,if_pos (by simp[eY,tZ,hvb]),if_neg (by simp[eY,hoa,hva]),hfb]
   rw[hva]at hja
   simp only[map_none]at hja
   have hyq:(jD (nE.flatMap g))[((nE.take i).flatMap g).length]?=some [mg 1 (aT (p++[⟨false,nm,0⟩])) (aj z)]:=by
    rw[←PE,hys,hgm]
    exact Cn (l2:=[])
   have hg1:(g nm).length=1:=by rw[hgm];rfl
   simp (maxSteps:=400000) only[↓aA,aB,BEq.rfl,seval,hQ,hlt,zi,ES,MN,hG,o5 N,hgn,spB,qF,yG,↓I9,jy,Co,hja,hjb,Dt,bW,Int.toNat_natCast]
   refine bg _ (Weak.refl _ _) ?_
   simp (maxSteps:=400000) only[↓aA,aB,BEq.rfl,seval,hQ,hlt,zi,ES,MN,hG,o5 N,hgn,spB,qF,yG,↓I9,jy,Co,hja,hjb,Dt,bW,Int.toNat_natCast]
   refine⟨by omega,.inl trivial,.inl trivial,Ck (n:=N) rfl rfl rfl rfl je jB (nX (by simp only[VJ,VO,geT,TY,Bool.and_self])) (MO (jm a) (jm b) l' N seen) rfl Fp hyq (λO1 hI1=>?_) λO1 vz=>?_⟩
   ·simp (maxSteps:=400000) only[↓aA,aB,BEq.rfl,seval,hQ]
    refine⟨⟨by omega,by omega⟩,m-1,by omega,i+1,O1,by omega,?_,by rw[Int.natCast_add];rfl⟩
    rw[htl,hg1];exact hI1
   ·simp (maxSteps:=400000) only[↓aA,aB,BEq.rfl,seval,hQ]
    exact lK (by rw[gG];omega) vz (jB _ _ vz).1
  | some x=>
   have hfa:bN a nm=x:=by rw[bN,hoa,hva];rfl
   have hxk:rE x:=(rE.parts ha).2 x (by rw[pa3];exact List.mem_map.2 ⟨_,KH hva,rfl⟩)
   have hgm:g nm=aC f (p++[⟨false,nm,0⟩]) x z:=by
    rw[←hg,kV,if_pos (by simp[eY,tZ,hvb]),if_pos (by simp[eY,hoa,hva]),hfb,hfa]
   rw[hva]at hja
   simp only[map_some]at hja
   have hcall:=hs (p++[⟨false,nm,0⟩]) x z (by simp;omega) hxk hzk
   rw[pqS]at hcall
   have hgl:(g nm).length=(jD (aC f (p++[⟨false,nm,0⟩]) x z)).length:=by rw[hgm,gG]
   simp (maxSteps:=400000) only[↓aA,aB,BEq.rfl,seval,hQ,hlt,zi,ES,MN,hG,o5 N,hgn,spB,qF,yG,↓I9,jy,Co,hja,hjb,Dt,bW,Int.toNat_natCast]
   refine bg _ (Weak.refl _ _) ?_
   simp (maxSteps:=400000) only[↓aA,aB,BEq.rfl,seval,hQ,hlt,zi,ES,MN,hG,o5 N,hgn,spB,qF,yG,↓I9,jy,Co,hja,hjb,Dt,bW,Int.toNat_natCast]
   refine⟨by omega,.inl trivial,.inl trivial,MF (n:=N) (bargs:=[aT (p++[⟨false,nm,0⟩]),aj x,aj z]) rfl rfl rfl rfl je jB (nX (by simp only[VJ,VO,geT,TY,Bool.and_self])) (MO (jm a) (jm b) l' N seen) rfl rfl hcall Fp
    (λj c hj=>by rw[hys,hgm];exact KD hj) (λO1 hI1=>?_) λj O1 hj vz=>?_⟩
   ·simp (maxSteps:=400000) only[↓aA,aB,BEq.rfl,seval,hQ]
    refine⟨⟨by omega,by omega⟩,m-1,by omega,i+1,O1,by omega,?_,by rw[Int.natCast_add];rfl⟩
    rw[htl,hgl];exact hI1
   ·simp (maxSteps:=400000) only[↓aA,aB,BEq.rfl,seval,hQ]
    exact lK (by rw[gG];omega) vz (jB _ _ vz).1
end Lp
