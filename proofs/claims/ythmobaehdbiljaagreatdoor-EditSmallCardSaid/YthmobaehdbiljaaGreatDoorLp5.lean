/-
  Part 5 of what the statement rests on: LpD9, LpD10, LpD11, LpD12, LpX2, LpD7, LpD8, LpD13, LpD3, LpRd, LpMf, LpX3, LpB1, LpIns0, LpInsS, LpInsV, LpX4, LpEd1, LpZ0, LpEd2, LpEd3, LpOwn, LpEd4, LpEd5, LpEp, LpZ1, LpEk1, LpEm0, LpEk3, LpC16, LpEm1, LpEm2, LpEm3, LpEm4, LpEd6. No condition.
-/
import Derived.Test.YthmobaehdbiljaaGreatDoorLp4
import Derived.Laws.CopyRow
import Derived.Shelf.Spec.SlicesInsertGrow
import Derived.Lib.Overlaps
import Derived.Lib.JoinLaws
import Derived.Lib.AppendZeros
import Derived.Laws.LoneSync
import Derived.WalkKit
import Derived.Sort.Row
import Derived.Shelf.Spec.SlicesInsert
import Derived.Laws.MakeOwn

set_option linter.all false
set_option maxHeartbeats 8000000
set_option maxRecDepth 100000
namespace Lp
open Go Go.Proofs
open List (mem_singleton)
theorem aW.abN {P:Program}{D:TypeId→aC}{T:Know}{f:FuncId}{n t u:Nat}{ty uy:TypeId}{C:LC}{args:List PV}{r:PV}(h:aW P f n [.cell t ty,.cell u uy] C)(d:Nat)(hD:∀t,fI P t (D t))(hT:tZ P none sQ T)(hm:P.follows .mixedOrders=true)(ht:t<n)(hu:u<n)
  (hw:∀Q:Exit→St→Prop,(∀l ob,Q .ret ⟨dR n l,ob⟩=fq (D ty) (qQ l t) ob λp _ _=>fq (D uy) (qQ l u) ob λq _ _=>r=.bI [jP d 0 ob p,jP d 0 ob q])→iT P D T C Q (a_ args n)):av P f args [] r []:=by
 refine h.pure d hD hT hm (by simp) (hw _ λl ob=>?_)
 simp only[BL,kX,uP.2.1 n l t ht,uP.2.1 n l u hu,List.map_cons,List.map_nil,gJ]
def aO:Vl→Int
 | []=>0
 | n::_=>n.kind
def fM(v:Vl)(nm:List UInt8):Option Vl:=if aO v=6 then jh (jC v) nm else none
def bH(v:Vl)(nm:List UInt8):Vl:=(fM v nm).getD []
def dS(v:Vl)(nm:List UInt8):Bool:=(fM v nm).isSome
def jL(v:Vl)(nm:List UInt8):PV:=match fM v nm with
 | some x=>.bI [aj x,.bool true]
 | none=>.bI [.sl 0 [] (some true),.bool false]
theorem XG{ps:List Vl}{nm:List UInt8}{i:Nat}{p:Vl}(h:ps[i]?=some p)(hp:nameOf p=nm)(hb:∀(j:Nat) q,j<i→ps[j]?=some q→nameOf q≠nm):jh (ps.map λp=>(nameOf p,gV p)) nm=some (gV p):=by
 have:(ps.map λp=>(nameOf p,gV p)).find? (λx=>decide (x.1=nm))=some (nameOf p,gV p):=by
  rw[List.find?_eq_some_iff_getElem]
  obtain⟨hi,he⟩:=List.getElem?_eq_some_iff.1 h
  refine⟨by simp[hp],i,by simpa using hi,by simp[he],λj hj=>?_⟩
  have:=hb j _ hj (List.getElem?_eq_getElem (by omega))
  simpa using this
 simp[jh,this]
theorem Vo{ps:List Vl}{nm:List UInt8}(hb:∀(j:Nat) q,ps[j]?=some q→nameOf q≠nm):jh (ps.map λp=>(nameOf p,gV p)) nm=none:=by
 rw[nO]
 intro h
 simp only[List.map_map,List.mem_map,Function.comp]at h
 obtain⟨p,hp,rfl⟩:=h
 obtain⟨i,hi⟩:=List.mem_iff_getElem?.1 hp
 exact hb i p hi rfl
def OX(nm:List UInt8)(x:PV)(b:Bool):List Obj:=[⟨9,1,[.str nm],true,1⟩,⟨23,1,[x],true,1⟩,⟨4,1,[.bool b],true,1⟩]
theorem bD.lt {O:List Obj}(h:bD O):bJ O:=λo ho x hx c hc=>by
 have:=h o ho x hx c hc
 cases c<;>first | rfl | (simp[PV.ref]at this)
theorem KH(nm:List UInt8){x:PV}(b:Bool)(h1:x.cells=[x])(h2:x.ref=false):bD (OX nm x b++[wC,hole]):=by
 intro o ho y hy c hc
 simp only[OX,List.cons_append,List.nil_append,List.mem_cons,List.not_mem_nil,or_false]at ho
 rcases ho with rfl | rfl | rfl | rfl | rfl
 ·simp only[mem_singleton]at hy;subst hy
  simp only[PV.cells,mem_singleton]at hc;subst hc;rfl
 ·simp only[mem_singleton]at hy;subst hy
  rw[h1]at hc
  simp only[mem_singleton]at hc;subst hc;exact h2
 ·simp only[mem_singleton]at hy;subst hy
  simp only[PV.cells,mem_singleton]at hc;subst hc;rfl
 ·cases hy
 ·cases hy
theorem TI(nm:List UInt8){x:PV}(b:Bool)(h1:x.cells=[x])(h2:x.ref=false):Gh 3 (OX nm x b++[wC,hole]):=⟨Nat.le_refl _,(KH nm b h1 h2).lt,rfl,rfl⟩
theorem RL(v:Vl)(nm:List UInt8)(hr:Rt v)(hl:v.length≤1000000):av Tryz.prog 56 [aj v,.str nm] [] (jL v nm) []:=by
 refine Ow.abN (T:=bg Tryz.prog [(80,kY)]) 1 hD (ay (af rF ak)) bC (by decide) (by decide) λQ hQ=>?_
 obtain⟨n,r,rfl,_⟩:=bO hr.name hr.one.ne
 generalize hv:n::r=v at *
 have hg0:v[0]?=some n:=by rw[←hv];rfl
 have hkv:aO v=n.kind:=by rw[←hv];rfl
 by_cases hk:n.kind=6
 rotate_left 1
 ·have k6:(n.kind=6)=False:=eq_false hk
  have hres:jL v nm=.bI [.sl 0 [] (some true),.bool false]:=by simp[jL,fM,hkv,hk]
  (conv=>arg 4;cbv);simp (maxSteps:=400000) only[↓aF,aG,BEq.rfl,seval,hQ,hg0,k6]
  exact⟨by decide,rfl,by decide,rfl,by rw[hres];rfl⟩
 have k6:(n.kind=6)=True:=eq_true hk
 obtain⟨ps,hP,abO,hpl,hnm,hgv⟩:=uV v hr hl
 have abP:aK v=ps.map nameOf:=by
  rcases hnm with h | ⟨n',r',h1,h2⟩
  ·exact h
  ·rw[←hv]at h1;cases h1;exact absurd hk h2
 have Mq:jC v=ps.map λp=>(nameOf p,gV p):=by rw[jC,abP,hP,Bl]
 (conv=>arg 4;cbv);simp (maxSteps:=400000) only[↓aF,aG,BEq.rfl,seval,hQ,hg0,k6,↓kY]
 refine Zn 107 [.addr (aj v)] (ps.map rowOf)
  (λi O=>(∀(j:Nat) q,j<i→ps[j]?=some q→nameOf q≠nm)∧i≤ps.length∧O=OX nm (.sl 0 [] (some true)) false++[wC,hole])
  (λi O=>∃p,ps[i]?=some p∧nameOf p=nm∧(∀(j:Nat) q,j<i→ps[j]?=some q→nameOf q≠nm)∧O=OX nm (aj (gV p)) true++[wC,hole]) .ret rfl rfl rfl rfl trivial hgv (yN ps) ⟨λj q h=>absurd h (Nat.not_lt_zero j),Nat.zero_le _,rfl⟩ ?_ ?_ ?_ ?_ ?_
 ·rintro i O ⟨_,_,rfl⟩
  exact TI nm false rfl rfl
 ·rintro i O ⟨p,_,_,_,rfl⟩
  exact⟨TI nm true rfl rfl,KH nm true rfl rfl⟩
 ·rintro i args O ⟨hb,hi,rfl⟩ ha
  obtain⟨p,hpi,rfl⟩:=yO ha
  have hil:=(List.getElem?_eq_some_iff.1 hpi).1
  unfold OX
  by_cases he:nameOf p=nm
  ·have he':(nameOf p=nm)=True:=eq_true he
   simp (maxSteps:=400000) only[↓aF,aG,BEq.rfl,seval,hQ,jQ,V6,he']
   exact⟨rfl,p,hpi,he,hb,rfl⟩
  ·have he':(nameOf p=nm)=False:=eq_false he
   simp (maxSteps:=400000) only[↓aF,aG,BEq.rfl,seval,hQ,jQ,V6,he']
   refine⟨λj q hj hq=>?_,by omega,rfl⟩
   rcases Nat.lt_or_ge j i with g | g
   ·exact hb j q g hq
   ·have:j=i:=by omega
    subst this
    rw[hpi]at hq;cases hq;exact he
 ·rintro O ⟨hb,hi,rfl⟩
  unfold OX
  simp (maxSteps:=400000) only[↓aF,aG,BEq.rfl,seval,hQ]
  have hres:jL v nm=.bI [.sl 0 [] (some true),.bool false]:=by
   have:jh (jC v) nm=none:=by
    rw[Mq]
    refine Vo λj q hq=>hb j q ?_ hq
    rw[List.length_map]
    exact (List.getElem?_eq_some_iff.1 hq).1
   simp[jL,fM,this]
  exact⟨by decide,rfl,by decide,rfl,by rw[hres];rfl⟩
 ·rintro i O hi ⟨p,hpi,he,hb,rfl⟩
  unfold OX
  simp (maxSteps:=400000) only[↓aF,aG,BEq.rfl,seval,hQ]
  have hres:jL v nm=.bI [aj (gV p),.bool true]:=by
   have:jh (jC v) nm=some (gV p):=by rw[Mq];exact XG hpi he hb
   simp[jL,fM,hkv,hk,this]
  rw[hres]
  exact⟨_,_,rfl,rfl,rfl,rfl,Nat.le_refl _,rfl,_,_,rfl,rfl,rfl,rfl,Nat.le_refl _,rfl,rfl⟩
theorem zS(v:Vl)(nm:List UInt8):gD (jL v nm) (.bI [aj (bH v nm),.bool (dS v nm)]):=by
 unfold jL bH dS
 split
 ·rename_i x h;rw[h];exact .refl _
 ·rename_i h;rw[h];exact DC (.inr rfl) (jv 0 6) (.refl _)
theorem OY(v:Vl)(nm:List UInt8)(hr:Rt v)(hl:v.length≤1000000):av Tryz.prog 56 [aj v,.str nm] [] (.bI [aj (bH v nm),.bool (dS v nm)]) []:=(RL v nm hr hl).res (zS v nm)
def fU:eX:=λargs objs K=>match args with
 | [a0,.str nm]=>gy aj a0 (HK.mk:HK λv=>(Rt v)∧(v.length≤1000000)∧K (.bI [aj (bH v nm),.bool (dS v nm)]) objs 0)
 | _=>False
theorem xG:aQ Tryz.prog 56 (fU):=by
 intro args objs K h
 unfold fU at h
 split at h
 ·rename_i a0 nm
  obtain⟨v,rfl,h1,h2,hk⟩:=h
  exact⟨_,_,_,.pure _ rfl (OY v nm h1 h2),hk⟩
 ·exact h.elim
end Lp
namespace Lp
open Go Go.Proofs Go.RowKit Go.Sort
def rG(ss:List (List UInt8)):List (List UInt8):=ss.mergeSort λx y=>decide (x≤y)
theorem Ck(ss:List (List UInt8)):(rG ss).length=ss.length:=List.length_mergeSort _
end Lp
namespace Lp
open Go Go.Proofs Go.RowKit
end Lp
namespace Lp
open Go Go.Proofs
theorem Jl(P:Program)(D:TypeId→aC)(T:Know)(w pt:Bool)(ev:Operand→PV)(objs:List Obj)(K:KT) :
  (∀t x ix ok,lg P D T w pt ev objs (.lookup t x ix ok) K=jH D t (ev x) (ev ix) ok objs K)∧
  (∀t x y z,lg P D T w pt ev objs (.mapUpdate t x y z) K=fF D t (ev x) (ev y) (ev z) objs K)∧
  (∀t,lg P D T w pt ev objs (.makeMap t none) K=mM D t objs K):=⟨λ_ _ _ _=>rfl,λ_ _ _ _=>rfl,λ_=>rfl⟩
theorem DJ(ti:aC):(∀i v,found ti (some (i,v)) true=.bI [v,.bool true])∧(∀i v,found ti (some (i,v)) false=v)∧(found ti none true=.bI [aL ti,.bool false])∧(found ti none false=aL ti):=⟨λ_ _=>rfl,λ_ _=>rfl,rfl,rfl⟩
end Lp
namespace Lp
open Go Go.Proofs
structure HKT (K:KT):Type where
def abQ{K:KT}(b:Bool)(v:Vl)(objs:List Obj)(_h:HKT K):Prop:=match b with
 | true=>K (.bI [.aZ objs.length 0,.int .i64 0]) (objs++[xD v 0]) 2
 | false=>K (.bI [.sl 0 [] (some true),.int .i64 4]) objs 1
theorem abR(v:Vl)(objs:List Obj)(K:KT):(abQ true v objs (HKT.mk:HKT K)=K (.bI [.aZ objs.length 0,.int .i64 0]) (objs++[xD v 0]) 2)∧(abQ false v objs (HKT.mk:HKT K)=K (.bI [.sl 0 [] (some true),.int .i64 4]) objs 1):=⟨rfl,rfl⟩
def oz:eX:=λargs objs K=>match args with
 | [a,b]=>vZ .str 1 a objs (HK.mk:HK λnames=>vZ aj 1 b objs (HK.mk:HK λl=>names.length≤1000000∧l.length≤1000000∧l.flatten.length≤1000000∧(∀v∈l,v≠[])∧(∀s∈names,s.length≤4611686018427387904)∧abQ (eT names l.length) (Aa names l) objs (HKT.mk:HKT K)))
 | _=>False
theorem DK:aQ Tryz.prog 63 oz:=by
 intro args objs K h
 unfold oz at h
 split at h
 ·obtain⟨names,a',l1,t1,h⟩:=j5 strCells h
  obtain⟨l,b',l2,t2,h1,h1',h2,h3,h4,h5⟩:=j5 Cj h
  cases hok:eT names l.length<;>rw[hok]at h5
  ·exact⟨_,_,_,.Wx _ [a',b'] ⟨l1,l2,trivial⟩ rfl ((Jk names l hok h1 h1' h2 h3 h4).arg rfl (tF t1 t2)),h5⟩
  ·exact⟨_,_,_,.Nv 0 (.int .i64 0) _ [a',b'] ⟨l1,l2,trivial⟩ (qC _ _) rfl ((Hg names l hok h1 h1' h2 h3 h4).arg rfl (tF t1 t2)),h5⟩
 ·exact h.elim
end Lp
namespace Lp
open Go Go.Proofs
open Int (reduceEq)
def E8(m e:Int):Bool:=decide (-1000≤e) && decide (e≤1000) && decide (m+e≤1000)
theorem Mr(m e:Int)(hm:0≤m∧m≤1000000):av Tryz.prog 122 [.int .i64 m,.int .i64 e] [] (.bool (E8 m e)) []:=by
 refine I9.bY (T:=bg Tryz.prog []) 0 hD (ay ak) bC (by decide) λQ hQ=>?_
 rcases tf (-1000≤e) with h1 | h1
 rotate_left 1
 ·have hr:E8 m e=false:=by have:¬ (-1000≤e):=λh=>by rw[h1]at h;exact h
                           simp[E8,this]
  (conv=>arg 4;cbv);simp (maxSteps:=400000) only[↓aF,aG,BEq.rfl,seval,hQ,h1,hr]
 rcases tf (e≤1000) with h2 | h2
 rotate_left 1
 ·have hr:E8 m e=false:=by have:¬ (e≤1000):=λh=>by rw[h2]at h;exact h
                           simp[E8,this]
  (conv=>arg 4;cbv);simp (maxSteps:=400000) only[↓aF,aG,BEq.rfl,seval,hQ,h1,h2,hr]
 have h1':=of_eq_true h1
 have h2':=of_eq_true h2
 have hr:E8 m e=decide (m+e≤1000):=by simp[E8,h1',h2']
 (conv=>arg 4;cbv);simp (maxSteps:=400000) only[↓aF,aG,BEq.rfl,seval,hQ,h1,h2,hr]
 exact⟨by omega,by omega⟩
def lJ:eX:=λargs objs K=>match args with
 | [.int .i64 m,.int .i64 e]=>(0≤m∧m≤1000000)∧K (.bool (E8 m e)) objs 0
 | _=>False
theorem Jm:aQ Tryz.prog 122 (lJ):=by
 intro args objs K h
 unfold lJ at h
 split at h
 ·rename_i m e
  obtain⟨h1,hk⟩:=h
  exact⟨_,_,_,.pure _ rfl (Mr m e h1),hk⟩
 ·exact h.elim
theorem Hl(s:List UInt8)(hs:s.length≤4611686018427387904):av Tryz.prog 123 [.str s] [] (.bool (vX s)) []:=by
 refine EX.bY (T:=bg Tryz.prog [(132,uW)]) 0 hD (ay (af Ji ak)) bC (by decide) λQ hQ=>?_
 have hf:=RA s
 (conv=>arg 4;cbv);simp (maxSteps:=400000) only[↓aF,aG,BEq.rfl,seval,hQ,↓uW]
 refine⟨hs,?_⟩
 rw[Bool.eq_iff_iff,←hf,decide_eq_true_iff]
 constructor
 ·intro h;rw[h]
 ·intro h
  generalize Lib.trimF mr ⟨⟨s⟩⟩=t at h
  obtain⟨⟨t⟩⟩:=t
  have h':t=[]:=h
  rw[h']
def kL:eX:=λargs objs K=>match args with
 | [.str s]=>(s.length≤4611686018427387904)∧K (.bool (vX s)) objs 0
 | _=>False
theorem E9:aQ Tryz.prog 123 (kL):=by
 intro args objs K h
 unfold kL at h
 split at h
 ·rename_i s
  obtain⟨h1,hk⟩:=h
  exact⟨_,_,_,.pure _ rfl (Hl s h1),hk⟩
 ·exact h.elim
theorem Vp(n:Nd)(hk:n.kind=3)(hn:n.name=[])(hs:n.s.length≤4611686018427387904):av Tryz.prog 101 [aM n] [] (.bool (Be n)) []:=by
 refine Ou.bY (T:=bg Tryz.prog [(122,lJ),(123,kL),(124,Cg)]) 0 hD (ay (af Jm (af E9 (af OP ak)))) bC (by decide) λQ hQ=>?_
 (conv=>arg 4;cbv);simp (maxSteps:=400000) only[↓aF,aG,BEq.rfl,seval,hQ]
 refine aT _ (Weak.freeze 1 0 (Nat.le_refl _) _) ?_
 have key:=Cc n
 have hpw:∀b,E8 n.s.length n.e=b→(b=true↔-1000≤n.e∧n.e≤1000∧n.s.length+n.e≤1000):=λb hb=>by
  rw[←hb];simp[E8,and_assoc]
 cases hp:E8 n.s.length n.e
 ·have hr:Be n=false:=iO λh=>by
    have g:=(hpw _ hp).2 ⟨(key.1 h).2.2.2.1,(key.1 h).2.2.2.2.1,(key.1 h).2.2.2.2.2.1⟩
    cases g
  simp (maxSteps:=400000) only[↓aF,aG,BEq.rfl,seval,hQ,qA,↓lJ,hk,hn,reduceEq,hp,hr]
  refine λh0 h1=>⟨by omega,by omega⟩
 have XH:=(hpw _ hp).1 rfl
 cases hf:vX n.s
 ·have hr:Be n=false:=iO λh=>by have:=(key.1 h).2.1;rw[hf]at this;cases this
  simp (maxSteps:=400000) only[↓aF,aG,BEq.rfl,seval,hQ,qA,↓lJ,↓kL,hk,hn,reduceEq,hp,hf,hr]
  refine λh0 h1=>⟨⟨by omega,by omega⟩,hs⟩
 by_cases hz:n.s=[]
 ·rw[if_pos hz]at key
  have hf0:vX []=true:=rfl
  rw[hz]at hp key
  have hp0:E8 0 n.e=true:=hp
  simp (maxSteps:=400000) only[↓aF,aG,BEq.rfl,seval,hQ,qA,↓lJ,↓kL,hk,hn,reduceEq,hp0,hf0,hz]
  refine⟨λh0=>⟨λhng=>?_,λhng=>?_⟩,λh0=>iO λhb=>h0 (key.1 hb).1⟩
  ·exact iO λhb=>by have:=(key.1 hb).2.2.2.2.2.2.1;rw[hng]at this;cases this
  ·rw[Bool.eq_iff_iff,decide_eq_true_iff,key]
   refine⟨λh=>h.2.2.2.2.2.2.2,λh=>⟨h0,rfl,by simp,XH.1,XH.2.1,by simp;omega,by simpa using hng,h⟩⟩
 ·rw[if_neg hz]at key
  have htr:=RB n.s 48
  have hz':(n.s=[])=False:=eq_false hz
  simp (maxSteps:=400000) only[↓aF,aG,BEq.rfl,seval,hQ,qA,↓lJ,↓kL,↓Cg,hk,hn,reduceEq,hp,hf,hz']
  refine⟨λh0=>⟨λh=>iO λhb=>?_,λh1=>⟨⟨by omega,by omega⟩,hs,hs,?_⟩⟩,λh0=>iO λhb=>h0 (key.1 hb).1⟩
  ·have:=key.1 hb;omega
  ·rw[Bool.eq_iff_iff,decide_eq_true_iff,key,htr]
   exact⟨λh=>h.2.2.2.2.2.2,λh=>⟨h0,hf,by omega,XH.1,XH.2.1,XH.2.2,h⟩⟩
def mY:eX:=λargs objs K=>match args with
 | [a0]=>gy aM a0 (HK.mk:HK λn=>(n.kind=3)∧(n.name=[])∧(n.s.length≤4611686018427387904)∧K (.bool (Be n)) objs 0)
 | _=>False
theorem RN:aQ Tryz.prog 101 (mY):=by
 intro args objs K h
 unfold mY at h
 split at h
 ·rename_i a0
  obtain⟨n,rfl,h1,h2,h3,hk⟩:=h
  exact⟨_,_,_,.pure _ rfl (Vp n h1 h2 h3),hk⟩
 ·exact h.elim
theorem Ms(n:Nd)(hl:n.s.length≤4611686018427387904):av Tryz.prog 73 [aM n] [] (.bool (bQ n)) []:=by
 refine I8.bY (T:=bg Tryz.prog [(71,dh),(101,mY)]) 0 hD (ay (af uX (af RN ak))) bC (by decide) λQ hQ=>?_
 (conv=>arg 4;cbv);simp (maxSteps:=400000) only[↓aF,aG,BEq.rfl,seval,hQ,nmP,adi]
 refine aT _ (Weak.freeze 1 0 (Nat.le_refl _) _) ?_
 have hn0:∀h,gq 1 0 [⟨46,6,[aM { kind:=n.kind,many:=n.many,name:=[],s:=n.s,neg:=n.neg,e:=n.e }],true,1⟩] (.bq 0 1 0 0)=h→.addr (aM ⟨n.kind,n.many,[],n.s,n.neg,n.e⟩)=h:=λ_ h=>h
 have h8:n.kind=0∨n.kind=1∨n.kind=2∨n.kind=3∨n.kind=4∨n.kind=5∨n.kind=6∨(n.kind≠0∧n.kind≠1∧n.kind≠2∧n.kind≠3∧n.kind≠4∧n.kind≠5∧n.kind≠6):=by omega
 rcases h8 with hk | hk | hk | hk | hk | hk | hk | ⟨k0,k1,k2,k3,k4,k5,k6⟩
 ·simp (maxSteps:=400000) only[↓aF,aG,BEq.rfl,seval,hQ,qA,↓dh,↓mY,hk,reduceEq]
  rw[Bool.eq_iff_iff]
  simp[bQ,hk,and_assoc]
 ·simp (maxSteps:=400000) only[↓aF,aG,BEq.rfl,seval,hQ,qA,↓dh,↓mY,hk,reduceEq]
  rw[Bool.eq_iff_iff]
  simp[bQ,hk,and_assoc]
 ·simp (maxSteps:=400000) only[↓aF,aG,BEq.rfl,seval,hQ,qA,↓dh,↓mY,hk,reduceEq]
  rw[Bool.eq_iff_iff]
  simp[bQ,hk,and_assoc]
 ·simp (maxSteps:=400000) only[↓aF,aG,BEq.rfl,seval,hQ,qA,↓dh,↓mY,hk,reduceEq]
  refine⟨hl,?_⟩
  simp[bQ,hk,Be]
 ·simp (maxSteps:=400000) only[↓aF,aG,BEq.rfl,seval,hQ,qA,↓dh,↓mY,hk,reduceEq]
  refine⟨hl,?_⟩
  cases hu:utf n.s
  ·simp[Ai,bQ,hk,hu]
  ·simp only[ifR]
   rw[Bool.eq_iff_iff]
   simp[bQ,hk,hu,and_assoc]
 ·simp (maxSteps:=400000) only[↓aF,aG,BEq.rfl,seval,hQ,qA,↓dh,↓mY,hk,reduceEq]
  refine⟨λhm=>?_,λhm=>?_⟩
  ·rw[Bool.eq_iff_iff]
   simp[bQ,hk,hm,and_assoc]
  ·simp[bQ,hk,hm]
 ·simp (maxSteps:=400000) only[↓aF,aG,BEq.rfl,seval,hQ,qA,↓dh,↓mY,hk,reduceEq]
  refine⟨λhm=>?_,λhm=>?_⟩
  ·rw[Bool.eq_iff_iff]
   simp[bQ,hk,hm,and_assoc]
  ·simp[bQ,hk,hm]
 ·simp (maxSteps:=400000) only[↓aF,aG,BEq.rfl,seval,hQ,qA,↓dh,↓mY,k0,k1,k2,k3,k4,k5,k6]
  simp[bQ,k0,k1,k2,k3,k4,k5,k6]
def fG:eX:=λargs objs K=>match args with
 | [a0]=>gy aM a0 (HK.mk:HK λn=>(n.s.length≤4611686018427387904)∧K (.bool (bQ n)) objs 0)
 | _=>False
theorem Jo:aQ Tryz.prog 73 (fG):=by
 intro args objs K h
 unfold fG at h
 split at h
 ·rename_i a0
  obtain⟨n,rfl,h1,hk⟩:=h
  exact⟨_,_,_,.pure _ rfl (Ms n h1),hk⟩
 ·exact h.elim
end Lp
namespace Lp
open Go Go.Proofs
open List (length_reverse map_cons map_map map_nil take_zero)
def g_(o:Bc):PV:=.agg [.int .i64 o.kind,.int .i64 o.left,.bool o.first,.str o.last]
def Cm(l:List Bc):PV:=.sl 4 (l.map g_) none
theorem Ho:∀a b,g_ a=g_ b→a=b:=by
 intro a b h
 cases a;cases b
 simp only[g_,PV.agg.injEq,List.cons.injEq,PV.int.injEq,PV.str.injEq,PV.bool.injEq,true_and,and_true]at h
 obtain⟨rfl,rfl,rfl,rfl⟩:=h
 rfl
theorem DL :
  (∀o,(g_ o).cells=[.int .i64 o.kind,.int .i64 o.left,.bool o.first,.str o.last])∧(∀o,(g_ o).isAgg=true)∧(∀o,(g_ o).pure=true)∧(∀d m O o,gq d m O (g_ o)=g_ o)∧(∀d m O o,jP d m O (g_ o)=g_ o)∧type_of% (bB Ho):=
 ⟨λ_=>rfl,λ_=>rfl,λ_=>rfl,λ_ _ _ _=>rfl,λ_ _ _ _=>rfl,bB Ho⟩
theorem hO:∀l,Cm l=.sl 4 (l.map g_) none:=λ_=>rfl
theorem KI:∀a b,Cm a=Cm b→a=b:=rC hO Ho
theorem inO:zP g_:=by intro d n o x;cases d<;>rfl
theorem XI:type_of% DL∧type_of% (zx hO)∧type_of% (mh hO)∧type_of% (zy hO)∧type_of% (bB KI)∧type_of% (jd hO inO):=
 ⟨DL,zx hO,mh hO,zy hO,bB KI,jd hO inO⟩
def xH(o:Bc):Bool:=decide (0<o.left)
theorem RO(o:Bc):av Tryz.prog 75 [g_ o] [] (.bool (xH o)) []:=by
 unfold xH
 refine I_.bY (T:=bg Tryz.prog []) 0 hD (ay ak) bC (by decide) λQ hQ=>?_
 (conv=>arg 4;cbv);simp (maxSteps:=400000) only[↓aF,aG,BEq.rfl,seval,hQ,g_]
def xI:eX:=λargs objs K=>match args with
 | [a0]=>gy g_ a0 (HK.mk:HK λo=>K (.bool (xH o)) objs 0)
 | _=>False
theorem OZ:aQ Tryz.prog 75 (xI):=by
 intro args objs K h
 unfold xI at h
 split at h
 ·rename_i a0
  obtain⟨o,rfl,hk⟩:=h
  exact⟨_,_,_,.pure _ rfl (RO o),hk⟩
 ·exact h.elim
def idxOf{α:Type}(p:α→Bool)(l:List α):Int:=match l.findIdx? p with
 | some i=>i
 | none=>-1
theorem idxOf_hit{α:Type}{p:α→Bool}{l:List α}{i:Nat}{x:α}(h:l[i]?=some x)(hx:p x=true)(hb:∀(j:Nat) y,j<i→l[j]?=some y→p y=false):idxOf p l=i:=by
 have:l.findIdx? p=some i:=by
  rw[List.findIdx?_eq_some_iff_getElem]
  obtain⟨hi,he⟩:=List.getElem?_eq_some_iff.1 h
  refine⟨hi,by rw[he];exact hx,λj hj=>?_⟩
  have:=hb j _ hj (List.getElem?_eq_getElem (by omega))
  simp[this]
 simp[idxOf,this]
theorem AB{α:Type}{p:α→Bool}{l:List α}(hb:∀(j:Nat) y,l[j]?=some y→p y=false):idxOf p l=-1:=by
 have:l.findIdx? p=none:=by
  rw[List.findIdx?_eq_none_iff]
  intro x hx
  obtain⟨i,hi⟩:=List.mem_iff_getElem?.1 hx
  exact hb i x hi
 simp[idxOf,this]
theorem DN{α:Type}(p:α→Bool)(l:List α):decide (0≤idxOf p l)=l.any p:=by
 rw[Bool.eq_iff_iff,decide_eq_true_iff]
 cases h:l.findIdx? p with
 | none=>
  rw[List.findIdx?_eq_none_iff]at h
  have:l.any p=false:=by rw[List.any_eq_false];intro x hx;simp[h x hx]
  simp[idxOf,List.findIdx?_eq_none_iff.2 h,this]
 | some i=>
  have h':=h
  rw[List.findIdx?_eq_some_iff_getElem]at h'
  obtain⟨hi,hp,_⟩:=h'
  have:l.any p=true:=List.any_eq_true.2 ⟨_,List.getElem_mem hi,hp⟩
  simp[idxOf,h,this]
theorem Mt(l:List Bc)(hl:l.length≤4611686018427387904):av Tryz.prog 102 [Cm l,.fn 75 [] []] [] (.int .i64 (idxOf xH l)) []:=by
 refine jR.bY (T:=bg Tryz.prog [(75,xI)]) 0 hD (ay (af OZ ak)) bC (by decide) λQ hQ=>?_
 (conv=>arg 4;cbv);simp (maxSteps:=400000) only[↓aF,aG,BEq.rfl,seval,hQ,XI]
 refine aU (λm S=>∃i:Nat,i+m=l.length∧(∀(j:Nat) y,j<i→l[j]?=some y→xH y=false)∧S=⟨dR 19 [(0,Cm l),(1,.fn 75 [] []),(7,.int .i64 l.length),(8,.int .i64 i)],[]⟩) l.length ⟨0,by omega,λj y h=>absurd h (Nat.not_lt_zero j),?_⟩ ?_
 ·simp only[dw,keepR,Nat.reduceAdd,pX,Nat.reduceBEq,map_nil]
  rfl
 rintro m S ⟨i,him,hb,rfl⟩
 rcases Nat.lt_or_ge i l.length with h | h
 rotate_left 1
 ·have hlt:((i:Int)<(l.length:Int))=False:=eq_false (by omega)
  have hr:=AB (l:=l) λj y hj=>hb j y (by have:=(List.getElem?_eq_some_iff.1 hj).1;omega) hj
  simp (maxSteps:=400000) only[↓aF,aG,BEq.rfl,seval,hQ,hlt,hr]
 have hlt:((i:Int)<(l.length:Int))=True:=eq_true (by omega)
 have zi:(0≤(i:Int))=True:=eq_true (by omega)
 have hgi:=List.getElem?_eq_getElem h
 generalize l[i]=o at hgi
 cases hp:xH o
 rotate_left 1
 ·have hr:idxOf xH l=i:=idxOf_hit hgi hp hb
  simp (maxSteps:=400000) only[↓aF,aG,BEq.rfl,seval,hQ,hlt,zi,XI,hgi,↓xI,hp,hr]
 ·simp (maxSteps:=400000) only[↓aF,aG,BEq.rfl,seval,hQ,hlt,zi,XI,hgi,↓xI,hp]
  refine⟨⟨by omega,by omega⟩,m-1,by omega,i+1,by omega,λj y hj hy=>?_,rfl⟩
  rcases Nat.lt_or_ge j i with g | g
  ·exact hb j y g hy
  ·have:j=i:=by omega
   subst this
   rw[hgi]at hy;cases hy
   exact hp
def uZ:eX:=λargs objs K=>match args with
 | [a0,a1]=>gy Cm a0 (HK.mk:HK λl=>a1=(.fn 75 [] [])∧(l.length≤4611686018427387904)∧K (.int .i64 (idxOf xH l)) objs 0)
 | _=>False
theorem Jp:aQ Tryz.prog 102 (uZ):=by
 intro args objs K h
 unfold uZ at h
 split at h
 ·rename_i a0 a1
  obtain⟨l,rfl,rfl,h1,hk⟩:=h
  exact⟨_,_,_,.pure _ rfl (Mt l h1),hk⟩
 ·exact h.elim
theorem Mv(l:List Bc)(hl:l.length≤4611686018427387904):av Tryz.prog 74 [Cm l,.fn 75 [] []] [] (.bool (l.any xH)) []:=by
 refine je.bY (T:=bg Tryz.prog [(102,uZ)]) 0 hD (ay (af Jp ak)) bC (by decide) λQ hQ=>?_
 (conv=>arg 4;cbv);simp (maxSteps:=400000) only[↓aF,aG,BEq.rfl,seval,hQ,XI,↓uZ,DN]
 exact hl
def u6:eX:=λargs objs K=>match args with
 | [a0,a1]=>gy Cm a0 (HK.mk:HK λl=>a1=(.fn 75 [] [])∧(l.length≤4611686018427387904)∧K (.bool (l.any xH)) objs 0)
 | _=>False
theorem Jq:aQ Tryz.prog 74 (u6):=by
 intro args objs K h
 unfold u6 at h
 split at h
 ·rename_i a0 a1
  obtain⟨l,rfl,rfl,h1,hk⟩:=h
  exact⟨_,_,_,.pure _ rfl (Mv l h1),hk⟩
 ·exact h.elim
theorem oG(objs:List Obj)(K:KT) :
  (∀k m,dH D 85 [(0,.int .i64 k),(1,.int .i64 m)] objs K=K (g_ ⟨k,m,false,[]⟩) objs 0)∧
  (∀k m b,dH D 85 [(0,.int .i64 k),(1,.int .i64 m),(2,.bool b)] objs K=K (g_ ⟨k,m,b,[]⟩) objs 0):=by
 have z:aL (D 85)=g_ ⟨0,0,false,[]⟩:=by kernel_rfl
 have a:(D 85).agg=true:=by kernel_rfl
 simp only[fu]at z a
 refine⟨λk m=>?_,λk m b=>?_⟩
 all_goals
  simp[dH,oO,a,z,fu,o8,g_,PV.isAgg,wJ,PV.cells,PV.storable,PV.nH,PV.pure]
theorem zOl:(PV.yo (Value.agg { toList:=[Value.int IntKind.i64 0,Value.int IntKind.i64 0,Value.bool false,Value.string { data:={ toList:=[] } }] })).cells.length=4:=rfl
theorem zOs:(PV.yo (Value.agg { toList:=[Value.int IntKind.i64 0,Value.int IntKind.i64 0,Value.bool false,Value.string { data:={ toList:=[] } }] })).cells.all PV.storable=true:=rfl
def O0(s:List Bc)(ver:Nat):Obj:=⟨85,4,s.reverse.map g_,true,ver⟩
theorem AJ:(∀(o:Bc) (m:Int),(g_ o).putCells 1 [.int .i64 m]=g_ { o with left:=m })∧(∀(o:Bc) (b:Bool),(g_ o).putCells 2 [.bool b]=g_ { o with first:=b })∧(∀(o:Bc) (t:List UInt8),(g_ o).putCells 3 [.str t]=g_ { o with last:=t }):=⟨λ_ _=>rfl,λ_ _=>rfl,λ_ _=>rfl⟩
theorem Hq(d n:Nat)(O:List Obj)(t:TypeId)(sz:Nat)(l:List Bc)(ver:Nat):fJ d n O ⟨t,sz,l.map g_,true,ver⟩=⟨t,sz,l.map g_,true,ver⟩:=by
 have:(l.map g_).map (PV.bU (gq d n O))=l.map g_:=by
  rw[map_map]
  exact List.map_congr_left λx _=>rfl
 simp only[fJ,this]
theorem Jr(v:Vl)(hs:Small v):av Tryz.prog 49 [aj v] [] (.bool (bR v)) []:=by
 have hl:=hs.len
 refine Ov.bY (T:=bg Tryz.prog [(73,fG),(71,dh),(74,u6)]) 1 hD (ay (af Jo (af uX (af Jq ak)))) bC (by decide) λQ hQ=>?_
 (conv=>arg 4;cbv);simp (maxSteps:=400000) only[↓aF,aG,BEq.rfl,seval,hQ,XA,XB,oG,zOl,zOs,DL]
 refine aU (λm S=>∃(s:List Bc) (i ver:Nat),i+m=v.length∧FV v.length s (v.drop i)=bR v∧s.length≤i+1∧(∀o∈s,0≤o.left∧o.left≤1000000)∧S=⟨dR 123 [(0,aj v),(3,.aZ 0 ver),(10,aj v),(11,.int .i64 v.length),(12,.int .i64 i)],[O0 s ver]⟩) v.length
  ⟨[⟨5,1,false,[]⟩],0,1,by omega,Qs v,by simp,by simp,?_⟩ ?_ (hz:=Nat.zero_le _)
 ·simp only[dw,keepR,Nat.reduceAdd,pX,Nat.reduceBEq,map_nil]
  rfl
 rintro m S ⟨s,i,ver,him,hrun,hsl,hle,rfl⟩
 rcases Nat.lt_or_ge i v.length with h | h
 rotate_left 1
 ·have hlt:((i:Int)<(v.length:Int))=False:=eq_false (by omega)
  have hr:bR v=Bool.not (s.any xH):=by
   rw[←hrun,List.drop_eq_nil_of_le h,FV];rfl
  have hf:gq 1 0 [⟨85,4,s.reverse.map g_,true,ver⟩] (.aZ 0 ver)=Cm s.reverse:=by
   simp only[gq,Nat.not_lt_zero,if_false,lF,List.getElem?_cons_zero,Nat.le_refl,decide_true,Bool.true_and,beq_self_eq_true,if_true]
   rw[map_map]
   rfl
  unfold O0
  simp (maxSteps:=400000) only[↓aF,aG,BEq.rfl,seval,hQ,hlt]
  refine aT _ (Weak.freeze 1 0 (Nat.zero_le _) _) ?_
  rcases Nat.eq_zero_or_pos v.length with h0 | h0
  ·have h0':((0:Int)<(v.length:Int))=False:=eq_false (by omega)
   have hrf:bR v=false:=by
    have:v=[]:=List.length_eq_zero_iff.1 h0
    rw[this];rfl
   simp (maxSteps:=400000) only[↓aF,aG,BEq.rfl,seval,hQ,h0',hrf]
  ·have h0':((0:Int)<(v.length:Int))=True:=eq_true (by omega)
   simp (maxSteps:=400000) only[↓aF,aG,BEq.rfl,seval,hQ,h0',hf,XI,↓u6]
   exact⟨by rw[length_reverse];omega,by rw[hr,List.any_reverse]⟩
 have hlt:((i:Int)<(v.length:Int))=True:=eq_true (by omega)
 have zi:(0≤(i:Int))=True:=eq_true (by omega)
 have hgi:=List.getElem?_eq_getElem h
 have hdi:=List.drop_eq_getElem_cons h
 have htx:=hs.txt _ (List.getElem_mem h)
 generalize v[i]=n at hgi hdi htx
 simp (maxSteps:=400000) only[↓aF,aG,BEq.rfl,seval,hQ,hlt,zi,hgi,XA,XB,TB,TD]
 rw[hdi]at hrun
 have hll:(n.many≤(v.length:Int))=(n.many≤(v.length:Int)):=rfl
 refine aU (λm' S=>∃(s':List Bc) (RP:Nat),s'.length=m'∧s'.dropWhile (λo=>o.left==0)=s.dropWhile (λo=>o.left==0)∧s'.length≤i+1∧(∀o∈s',0≤o.left∧o.left≤1000000)∧
  S=⟨dR 123 [(0,aj v),(3,.aZ 0 RP),(5,.bq 1 1 0 0),(10,aj v),(11,.int .i64 v.length),(12,.int .i64 i)],[O0 s' RP,⟨46,6,[aM n],true,1⟩]⟩) s.length ⟨s,ver,rfl,rfl,hsl,hle,?_⟩ ?_
 ·simp only[dw,keepR,Nat.reduceAdd,pX,Nat.reduceBEq,map_nil]
 rintro m' S ⟨s',RP,hm',hdw,aej,hle',rfl⟩
 cases s' with
 | nil=>
  have h00:((0:Int)<((0:Nat):Int))=False:=eq_false (by omega)
  have h01:(((0:Nat):Int)=0)=True:=eq_true rfl
  have hr:bR v=false:=by rw[←hrun,FV,←hdw];rfl
  unfold O0
  simp (maxSteps:=400000) only[↓aF,aG,BEq.rfl,seval,hQ,h00,h01,hr,List.reverse_nil]
 | cons o t=>
 have hst:∀w,O0 (o::t) w=⟨85,4,t.reverse.map g_++[g_ o],true,w⟩:=λw=>by simp[O0]
 have hget:∀x:PV,(t.reverse.map g_++[x])[t.length]?=some x:=λx=>by rw[List.getElem?_append_right (by simp)];simp
 have hset:∀x y:PV,(t.reverse.map g_++[x]).set t.length y=t.reverse.map g_++[y]:=λx y=>by rw[List.set_append_right _ _ (by simp)];simp
 have hpos:((0:Int)<((t.length+1:Nat):Int))=True:=eq_true (by omega)
 have hne0:(((t.length+1:Nat):Int)=0)=False:=eq_false (by omega)
 have t1:(((t.length+1:Nat):Int)-1).toNat=t.length:=by omega
 have z1:(0≤((t.length+1:Nat):Int)-1)=True:=eq_true (by omega)
 have YF:(((t.length+1:Nat):Int)-1<((t.length+1:Nat):Int))=True:=eq_true (by omega)
 have YG:(((t.length+1:Nat):Int)-1≤((t.length+1:Nat):Int))=True:=eq_true (by omega)
 simp only[List.length_cons]at aej hm'
 have i1:(-9223372036854775808≤((t.length+1:Nat):Int)-1∧((t.length+1:Nat):Int)-1≤9223372036854775807)=True:=eq_true ⟨by omega,by omega⟩
 have hlo:=hle' o (by simp)
 by_cases h0:o.left=0
 ·have h0':(o.left=0)=True:=eq_true h0
  rw[hst]
  simp (maxSteps:=400000) only[↓aF,aG,BEq.rfl,seval,hQ,hpos,t1,z1,YF,YG,i1,hget,hset,h0',DL,length_reverse]
  refine⟨m'-1,by omega,t,RP+1,by omega,?_,by omega,λx hx=>hle' x (List.mem_cons_of_mem _ hx),?_⟩
  ·rw[←hdw];exact (List.dropWhile_cons_of_pos (by simpa using h0)).symm
  ·rw[List.take_left' (by simp)];rfl
 have h0':(o.left=0)=False:=eq_false h0
 have aek:s.dropWhile (λo=>o.left==0)=o::t:=by rw[←hdw];exact List.dropWhile_cons_of_neg (by simpa using h0)
 have hstep:bR v=(bQ n && decide (n.many≤v.length) && fw o n.name && FV v.length (⟨n.kind,n.many,true,[]⟩::⟨o.kind,o.left-1,false,n.name⟩::t) (v.drop (i+1))):=by
  rw[←hrun,FV,aek]
 rw[hst]
 cases hpl:bQ n
 ·have hr:bR v=false:=by rw[hstep,hpl];rfl
  simp (maxSteps:=400000) only[↓aF,aG,BEq.rfl,seval,hQ,hpos,hne0,t1,z1,YF,YG,i1,hget,hset,h0',DL,length_reverse,↓fG,hpl,hr]
  exact htx.1
 by_cases hmL:n.many≤v.length
 rotate_left 1
 ·have Mw:((v.length:Int)<n.many)=True:=eq_true (by omega)
  have hr:bR v=false:=by rw[hstep,decide_eq_false hmL];simp
  simp (maxSteps:=400000) only[↓aF,aG,BEq.rfl,seval,hQ,hpos,hne0,t1,z1,YF,YG,i1,hget,hset,h0',DL,length_reverse,↓fG,hpl,Mw,hr]
  exact htx.1
 have Mw:((v.length:Int)<n.many)=False:=eq_false (by omega)
 have hm0:0≤n.many:=by
  by_cases hk:n.kind=5∨n.kind=6
  ·exact (sD hpl hk).1
  ·rw[ug hpl hk];exact Int.le_refl 0
 have hA:∀x y:Bc,t.reverse.map g_++[g_ x]++[g_ y]=(t.reverse++[x,y]).map g_:=λx y=>by simp
 have fin:∀hn:fw o n.name=true,∃adl,adl<m∧∃(s:List Bc) (i_1 ver:Nat),i_1+adl=v.length∧FV v.length s (v.drop i_1)=bR v∧s.length≤i_1+1∧(∀o∈s,0≤o.left∧o.left≤1000000)∧
     (⟨dR 123 [(0,aj v),(3,.aZ 0 (RP+1)),(10,aj v),(11,.int .i64 v.length),(12,.int .i64 ((i:Int)+1))],[⟨85,4,t.reverse.map g_++[g_ ⟨o.kind,o.left-1,false,n.name⟩]++[g_ ⟨n.kind,n.many,true,[]⟩],true,RP+1⟩]⟩:St)=
     ⟨dR 123 [(0,aj v),(3,.aZ 0 ver),(10,aj v),(11,.int .i64 v.length),(12,.int .i64 i_1)],[O0 s ver]⟩:=λhn=>by
  refine⟨m-1,by omega,⟨n.kind,n.many,true,[]⟩::⟨o.kind,o.left-1,false,n.name⟩::t,i+1,RP+1,by omega,?_,by simp only[List.length_cons];omega,λx hx=>?_,?_⟩
  ·rw[hstep,hpl,hn,decide_eq_true hmL];simp
  ·rcases List.mem_cons.1 hx with rfl | hx
   ·exact⟨hm0,by simp only;omega⟩
   ·rcases List.mem_cons.1 hx with rfl | hx
    ·simp only;omega
    ·exact hle' x (List.mem_cons_of_mem _ hx)
  ·simp[O0]
 by_cases k6:o.kind=6
 rotate_left 1
 ·have k6':(o.kind=6)=False:=eq_false k6
  by_cases hnm:n.name=[]
  rotate_left 1
  ·have hnm':(n.name=[])=False:=eq_false hnm
   have hr:bR v=false:=by
    have:fw o n.name=false:=by simp[fw,k6,hnm]
    rw[hstep,this];simp
   simp (maxSteps:=400000) only[↓aF,aG,BEq.rfl,seval,hQ,hpos,hne0,t1,z1,YF,YG,i1,hget,hset,h0',DL,length_reverse,↓fG,hpl,Mw,k6',dx,AJ,oG,zOl,zOs,hnm',hr]
   exact htx.1
  ·have hnm':(n.name=[])=True:=eq_true hnm
   simp (maxSteps:=400000) only[↓aF,aG,BEq.rfl,seval,hQ,hpos,hne0,t1,z1,YF,YG,i1,hget,hset,h0',DL,length_reverse,↓fG,hpl,Mw,k6',dx,AJ,oG,zOl,zOs,hnm']
   have hn:fw o n.name=true:=by simp[fw,k6,hnm]
   obtain⟨m1,e0,s1,j1,w1,e1,e2,e3,e4,e5⟩:=fin hn
   refine⟨htx.1,⟨by omega,by omega⟩,rfl,by omega,by omega,⟨by omega,by omega⟩,m1,e0,s1,j1,w1,e1,e2,e3,e4,?_⟩
   rw[←e5]
   simp only[hA,List.take_succ_cons,take_zero,map_cons (f:=fJ _ _ _),map_nil,Hq]
   rfl
 have k6':(o.kind=6)=True:=eq_true k6
 cases hu:utf n.name
 ·have hr:bR v=false:=by
    have:fw o n.name=false:=by simp[fw,k6,hu]
    rw[hstep,this];simp
  simp (maxSteps:=400000) only[↓aF,aG,BEq.rfl,seval,hQ,hpos,hne0,t1,z1,YF,YG,i1,hget,hset,h0',DL,length_reverse,↓fG,hpl,Mw,k6',dx,AJ,oG,zOl,zOs,↓dh,hu,hr]
  exact⟨htx.1,htx.2⟩
 cases hfst:o.first
 rotate_left 1
 ·have hn:fw o n.name=true:=by simp[fw,k6,hu,hfst]
  simp (maxSteps:=400000) only[↓aF,aG,BEq.rfl,seval,hQ,hpos,hne0,t1,z1,YF,YG,i1,hget,hset,h0',DL,length_reverse,↓fG,hpl,Mw,k6',dx,AJ,oG,zOl,zOs,↓dh,hu,hfst]
  obtain⟨m1,e0,s1,j1,w1,e1,e2,e3,e4,e5⟩:=fin hn
  refine⟨htx.1,htx.2,⟨by omega,by omega⟩,rfl,by omega,by omega,⟨by omega,by omega⟩,m1,e0,s1,j1,w1,e1,e2,e3,e4,?_⟩
  rw[←e5]
  simp only[hA,List.take_succ_cons,take_zero,map_cons (f:=fJ _ _ _),map_nil,Hq]
  rfl
 cases hbl:Op.bytesLess n.name o.last
 rotate_left 1
 ·have hr:bR v=false:=by
    have:fw o n.name=false:=by simp[fw,k6,hu,hfst,Nr _ _ hbl]
    rw[hstep,this];simp
  simp (maxSteps:=400000) only[↓aF,aG,BEq.rfl,seval,hQ,hpos,hne0,t1,z1,YF,YG,i1,hget,hset,h0',DL,length_reverse,↓fG,hpl,Mw,k6',dx,AJ,oG,zOl,zOs,↓dh,hu,hfst,hbl,hr]
  exact⟨htx.1,htx.2⟩
 by_cases heq:n.name=o.last
 ·have heq':(n.name=o.last)=True:=eq_true heq
  have hr:bR v=false:=by
   have:fw o n.name=false:=by simp[fw,k6,hu,hfst,heq,lT]
   rw[hstep,this];simp
  simp (maxSteps:=400000) only[↓aF,aG,BEq.rfl,seval,hQ,hpos,hne0,t1,z1,YF,YG,i1,hget,hset,h0',DL,length_reverse,↓fG,hpl,Mw,k6',dx,AJ,oG,zOl,zOs,↓dh,hu,hfst,hbl,heq',hr]
  exact⟨htx.1,htx.2⟩
 ·have heq':(n.name=o.last)=False:=eq_false heq
  have hn:fw o n.name=true:=by
   have:Op.bytesLess o.last n.name=true:=by
    rcases K5 o.last n.name with g | g | g
    ·exact g
    ·exact absurd g.symm heq
    ·rw[g]at hbl;cases hbl
   simp[fw,k6,hu,this]
  simp (maxSteps:=400000) only[↓aF,aG,BEq.rfl,seval,hQ,hpos,hne0,t1,z1,YF,YG,i1,hget,hset,h0',DL,length_reverse,↓fG,hpl,Mw,k6',dx,AJ,oG,zOl,zOs,↓dh,hu,hfst,hbl,heq']
  obtain⟨m1,e0,s1,j1,w1,e1,e2,e3,e4,e5⟩:=fin hn
  refine⟨htx.1,htx.2,⟨by omega,by omega⟩,rfl,by omega,by omega,⟨by omega,by omega⟩,m1,e0,s1,j1,w1,e1,e2,e3,e4,?_⟩
  rw[←e5]
  simp only[hA,List.take_succ_cons,take_zero,map_cons (f:=fJ _ _ _),map_nil,Hq]
  rfl
def lZ:eX:=λargs objs K=>match args with
 | [a0]=>gy aj a0 (HK.mk:HK λv=>(Small v)∧K (.bool (bR v)) objs 0)
 | _=>False
theorem Hr:aQ Tryz.prog 49 (lZ):=by
 intro args objs K h
 unfold lZ at h
 split at h
 ·rename_i a0
  obtain⟨v,rfl,h1,hk⟩:=h
  exact⟨_,_,_,.pure _ rfl (Jr v h1),hk⟩
 ·exact h.elim
end Lp
namespace Lp
open Go Go.Proofs
end Lp
namespace Lp
open Go Go.Proofs
theorem O3(v:Vl)(hl:v.length≤1099511627776)(ho:One v):av Tryz.prog 52 [aj v] [] (dP (ax v)) []:=by
 cases v with
 | nil=>exact absurd rfl ho.ne
 | cons n r=>
  obtain⟨hm,ps,h1,_,_⟩:=ho.parts
  have:=Rk (n::r) n r ps rfl hl hm h1
  rw[ax,dP,(dD h1).1,List.map_map]
  exact this
theorem O4(v:Vl)(hl:v.length≤1099511627776)(ho:One v):av Tryz.prog 76 [aj v] [] (kT (aK v)) []:=by
 cases v with
 | nil=>exact absurd rfl ho.ne
 | cons n r=>
  obtain⟨hm,ps,h1,_,_⟩:=ho.parts
  have:=Rl (n::r) n r ps rfl hl hm h1
  rw[K4]at this
  rw[aK,kT,(dD h1).2]
  exact this
def oH:eX:=λargs objs K=>match args with
 | [a0]=>gy aj a0 (HK.mk:HK λv=>(v.length≤1099511627776)∧(One v)∧K (dP (ax v)) objs 0)
 | _=>False
theorem xJ:aQ Tryz.prog 52 (oH):=by
 intro args objs K h
 unfold oH at h
 split at h
 ·rename_i a0
  obtain⟨v,rfl,h1,h2,hk⟩:=h
  exact⟨_,_,_,.pure _ rfl (O3 v h1 h2),hk⟩
 ·exact h.elim
def Cn:eX:=λargs objs K=>match args with
 | [a0]=>gy aj a0 (HK.mk:HK λv=>(v.length≤1099511627776)∧(One v)∧K (kT (aK v)) objs 0)
 | _=>False
theorem O5:aQ Tryz.prog 76 (Cn):=by
 intro args objs K h
 unfold Cn at h
 split at h
 ·rename_i a0
  obtain⟨v,rfl,h1,h2,hk⟩:=h
  exact⟨_,_,_,.pure _ rfl (O4 v h1 h2),hk⟩
 ·exact h.elim
end Lp
namespace Lp
open Go Go.Proofs
instance :Inhabited Nd:=⟨⟨0,0,[],[],false,0⟩⟩
structure adm (n:Nd):Prop where
 kind:JX .i64 n.kind
 many:JX .i64 n.many
 name:n.name.length≤reachBytes
 s:n.s.length≤reachBytes
 e:JX .i64 n.e
theorem one_cell{t:TypeId}(hc:Tryz.prog.cellsOf t=1){cs:List Value}{off:Nat}{v:Value}(h:cs[off]?=some v):(cs.drop off).take (Tryz.prog.cellsOf t)=[v]:=by
 rw[hc]
 have hl:=(List.getElem?_eq_some_iff.1 h).1
 rw[show (cs.drop off)=cs[off]::cs.drop (off+1) from List.drop_eq_getElem_cons hl]
 rw[List.getElem?_eq_getElem hl]at h
 cases h
 rw[List.take_succ_cons,List.take_zero]
theorem O6:Tryz.prog.underlying 3=some (.int .i64):=by kernel_rfl
theorem Ht:Tryz.prog.underlying 9=some .string:=by kernel_rfl
theorem XJ:Tryz.prog.underlying 4=some .bool:=by kernel_rfl
theorem adn:Tryz.prog.underlying 23=some (.slice 46):=by kernel_rfl
theorem O7:Tryz.prog.cellsOf 3=1:=by kernel_rfl
theorem Hu:Tryz.prog.cellsOf 9=1:=by kernel_rfl
theorem XK:Tryz.prog.cellsOf 4=1:=by kernel_rfl
theorem abS:∃fs:Array Field,Tryz.prog.underlying 46=some (.struct fs)∧fs.toList.map (λf=>(f.offset,f.type))=[(0,3),(1,3),(2,9),(3,9),(4,4),(5,3)]:=
 ⟨Tryz.prog.fieldsOf 46,by kernel_rfl,by kernel_rfl⟩
theorem ZA:Rd Tryz.prog 46 aM adm:=by
 intro H eh w fuel cs x h hw
 obtain⟨fs,ht,hfs⟩:=abS
 obtain⟨hl,hp⟩:=uS ht h hw
 rw[hfs]at hp
 have hc:Tryz.prog.cellsOf 46=6:=by kernel_rfl
 rw[hc]at hl
 match cs,hl with
 | [v0,v1,v2,v3,v4,v5],_=>
  obtain⟨n0,y0,a0,b0⟩:=hp 0 0 3 rfl
  obtain⟨n1,y1,a1,b1⟩:=hp 1 1 3 rfl
  obtain⟨n2,y2,a2,b2⟩:=hp 2 2 9 rfl
  obtain⟨n3,y3,a3,b3⟩:=hp 3 3 9 rfl
  obtain⟨n4,y4,a4,b4⟩:=hp 4 4 4 rfl
  obtain⟨n5,y5,a5,b5⟩:=hp 5 5 3 rfl
  rw[one_cell O7 (v:=v0) rfl]at a0
  rw[one_cell O7 (v:=v1) rfl]at a1
  rw[one_cell Hu (v:=v2) rfl]at a2
  rw[one_cell Hu (v:=v3) rfl]at a3
  rw[one_cell XK (v:=v4) rfl]at a4
  rw[one_cell O7 (v:=v5) rfl]at a5
  obtain⟨k,g0,r0⟩:=Rd.int O6 eh w n0 _ _ a0 b0
  obtain⟨m,g1,r1⟩:=Rd.int O6 eh w n1 _ _ a1 b1
  obtain⟨nm,g2,r2⟩:=Rd.str Ht eh w n2 _ _ a2 b2
  obtain⟨s,g3,r3⟩:=Rd.str Ht eh w n3 _ _ a3 b3
  obtain⟨g,_,r4⟩:=Rd.bool XJ eh w n4 _ _ a4 b4
  obtain⟨e,g5,r5⟩:=Rd.int O6 eh w n5 _ _ a5 b5
  refine⟨⟨k,m,nm,s,g,e⟩,⟨g0,g1,g2,g3,g5⟩,rfl,λi p v h1 h2=>?_⟩
  match i with
  | 0=>simp[aM,PV.cells]at h1 h2;subst h1;subst h2;exact r0.2 0 _ _ rfl rfl
  | 1=>simp[aM,PV.cells]at h1 h2;subst h1;subst h2;exact r1.2 0 _ _ rfl rfl
  | 2=>simp[aM,PV.cells]at h1 h2;subst h1;subst h2;exact r2.2 0 _ _ rfl rfl
  | 3=>simp[aM,PV.cells]at h1 h2;subst h1;subst h2;exact r3.2 0 _ _ rfl rfl
  | 4=>simp[aM,PV.cells]at h1 h2;subst h1;subst h2;exact r4.2 0 _ _ rfl rfl
  | 5=>simp[aM,PV.cells]at h1 h2;subst h1;subst h2;exact r5.2 0 _ _ rfl rfl
  | i+6=>simp[aM,PV.cells]at h1
structure Big (v:Vl):Prop where
 len:v.length≤1152921504606846976
 txt:∀n∈v,n.s.length≤4611686018427387904∧n.name.length≤4611686018427387904
 nd:∀n∈v,adm n
theorem rd_val:Rd Tryz.prog 23 aj Big:=by
 intro H eh w fuel cs x h hw
 obtain⟨v,⟨h1,h2⟩,h3⟩:=Rd.slice (sz:=6) adn ZA (by kernel_rfl) (by decide) (λ_=>rfl) eh w fuel cs x h hw
 have hb:Tryz.prog.bytesOf 46=64:=by kernel_rfl
 rw[hb,reachBytes]at h1
 refine⟨v,⟨by omega,λn hn=>?_,h2⟩,h3⟩
 have g:=h2 n hn
 have g1:=g.name
 have g2:=g.s
 rw[reachBytes]at g1 g2
 exact⟨by omega,by omega⟩
structure ado (l:List Vl):Prop where
 len:l.length≤1152921504606846976
 all:∀v∈l,Big v
theorem ael{t e:TypeId}{α:Type}{enc:α→PV}{good:α→Prop}(hu:Tryz.prog.underlying t=some (.slice e))(hr:Rd Tryz.prog t enc good)(h1:∀a,(enc a).cells=[enc a]){H:Type}{eh:TypeId×Value→H}{w:World}{base:Nat}{v:Value}{d:DataW H}{p:List MemPlace}
  (hv:Value.okWide Tryz.prog w .any base t v) (h:DataW.Trod eh Tryz.prog w 0 (λ_=>true) true t v d p) (hw:∀n∈DataW.weights Tryz.prog t d,n≤reachBytes):∃a:α,good a∧cu w (λ_=>True) (enc a) v:=by
 obtain⟨ad,len,cap,rfl⟩:=Go.WideShapes.okWide_slice hu hv
 obtain⟨fuel,h⟩:=h
 obtain⟨a,g,r⟩:=hr eh w fuel _ _ h hw
 rw[h1 a]at r
 exact⟨a,g,r.2 0 _ _ rfl rfl⟩
theorem p9{R:PV→Value→Prop}{p:PV}{ps:List PV}{v:Value}{vs:List Value}(h:R p v)(hs:bG R ps vs):bG R (p::ps) (v::vs):=
 ⟨by simp[hs.1],λi q u h1 h2=>by
  cases i with
  | zero=>simp at h1 h2;subst h1;subst h2;exact h
  | succ i=>exact hs.2 i q u (by simpa using h1) (by simpa using h2)⟩
theorem O8{R:PV→Value→Prop}:bG R [] []:=⟨rfl,λi q u h1=>by simp at h1⟩
end Lp
namespace Lp
open Go Go.Proofs
theorem Big.small {v:Vl}(h:Big v)(hl:v.length≤1000000):Small v:=⟨hl,h.txt⟩
theorem bK{v:Vl}(hr:Rt v):(ax v).length≤v.length∧(aK v).length≤v.length∧(ax v).flatten.length≤v.length∧∀p∈ax v,p.length≤v.length:=by
 obtain⟨n,r,rfl,_⟩:=bO hr.name hr.one.ne
 obtain⟨h1,h2,ps,h3,h4,h5,h6,h7⟩:=hr.parts
 obtain⟨q1,q2⟩:=dD h3
 have h8:=eF _ _ _ h3
 have h9:=jg _ _ _ h3
 have hfl:(ps.map gV).flatten.length=r.length:=by
  rw[←h4,List.length_flatten,List.length_flatten,List.map_map]
  congr 1
  exact List.map_congr_left λp _=>lq p
 refine⟨?_,?_,?_,λp hp=>Nat.le_of_lt (cZ hr hp).2⟩
 ·simp only[ax,q1,List.length_map,List.length_cons];omega
 ·simp only[aK,q2]
  split
  ·simp only[List.length_map,List.length_cons];omega
  ·simp
 ·simp only[ax,q1,hfl,List.length_cons];omega
theorem AL{v:Vl}{k:Nat}(h:rQ v k=true):Rt v∧v.length≤k:=by
 simp only[rQ,Bool.and_eq_true,decide_eq_true_eq]at h
 exact⟨pO h.2,h.1.1⟩
theorem ado.txt {l:List Vl}(h:ado l):∀v∈l,v.length≤1152921504606846976∧∀n∈v,n.s.length≤4611686018427387904∧n.name.length≤4611686018427387904:=λv hv=>⟨(h.all v hv).len,(h.all v hv).txt⟩
theorem DR(l:List Vl):(dQ l).length=l.flatten.length+1:=rfl
theorem u7{v:Vl}(hr:Rt v){q:Nd→Prop}(hq:∀n,q n→q { n with name:=[] })(hv:∀n∈v,q n):∀p∈ax v,∀n∈p,q n:=by
 obtain⟨n,r,rfl,_⟩:=bO hr.name hr.one.ne
 obtain⟨h1,h2,ps,h3,h4,_,_,_⟩:=hr.parts
 simp only[ax,(dD h3).1]
 intro p hp m hm
 obtain⟨p',hp',rfl⟩:=List.mem_map.1 hp
 have hin:∀x∈p',q x:=λx hx=>hv x (List.mem_cons_of_mem _ (by rw[←h4];exact List.mem_flatten.2 ⟨p',hp',hx⟩))
 cases p' with
 | nil=>cases hm
 | cons a t=>
  rcases List.mem_cons.1 hm with rfl | hm
  ·exact hq a (hin a (by simp))
  ·exact hin m (List.mem_cons_of_mem _ hm)
theorem u_{v:Vl}(hr:Rt v){k:Nat}(hv:∀n∈v,n.name.length≤k):∀s∈aK v,s.length≤k:=by
 obtain⟨n,r,rfl,_⟩:=bO hr.name hr.one.ne
 obtain⟨h1,h2,ps,h3,h4,_,h6,_⟩:=hr.parts
 simp only[aK,(dD h3).2]
 split
 ·intro s hs
  obtain⟨p,hp,rfl⟩:=List.mem_map.1 hs
  cases p with
  | nil=>simp[nameOf]
  | cons a t=>exact hv a (List.mem_cons_of_mem _ (by rw[←h4];exact List.mem_flatten.2 ⟨_,hp,by simp⟩))
 ·intro s hs;cases hs
end Lp
namespace Lp
open Go Go.Proofs
open List (flatten_cons length_append length_map map_cons map_nil mem_singleton)
def cO(v:Vl)(nm:List UInt8):Vl:=JN (ig (jC v) nm)
def gL(v:Vl)(nm:List UInt8)(x:Vl):Vl:=JN (nM nm x (ig (jC v) nm))
theorem dz{v:Vl}(hr:Rt v)(hk:aO v=6):jF (jC v)∧JN (jC v)=v∧aK v=(jC v).map (·.1)∧ax v=(jC v).map (·.2):=by
 obtain⟨n,r,rfl,_⟩:=bO hr.name hr.one.ne
 exact aa3 hr hk
theorem ve(l:mG):(JN l).length=(l.map (·.2)).flatten.length+1:=by
 have h2:∀q:mG,(q.map λx=>kR x.1 x.2).flatten.length=(q.map (·.2)).flatten.length:=by
  intro q
  induction q with
  | nil=>rfl
  | cons x q ih=>simp only[map_cons,flatten_cons,length_append,Ee,ih]
 simp only[JN,List.length_cons,h2]
theorem xK(l:mG)(nm:List UInt8):(ig l nm).length≤l.length∧((ig l nm).map (·.2)).flatten.length≤(l.map (·.2)).flatten.length:=by
 unfold ig
 refine⟨List.length_filter_le _ _,?_⟩
 induction l with
 | nil=>simp
 | cons x l ih=>
  rw[List.filter_cons]
  split
  ·simp only[map_cons,flatten_cons,length_append];omega
  ·simp only[map_cons,flatten_cons,length_append];omega
theorem Js(v:Vl)(nm:List UInt8)(hr:Rt v)(hl:v.length≤1000000):av Tryz.prog 58 [aj v,.str nm] [] (jL v nm) []:=by
 refine Ar.eH (T:=bg Tryz.prog [(62,jy),(40,bW)]) 0 hD (ay (af tu (af mX ak))) bC (by decide) (by decide) λQ hQ=>?_
 obtain⟨n,r,hv,_⟩:=bO hr.name hr.one.ne
 obtain⟨p1,p2,p3,p4⟩:=bK hr
 have hnp:aO v=6∨aK v=[]:=by
  by_cases hk:n.kind=6
  ·left;rw[hv];exact hk
  ·right;rw[hv];simp[aK,hk]
 have hpn:aO v=6→(aK v).length=(ax v).length:=λhk=>by
  obtain⟨_,_,h3,h4⟩:=dz hr hk
  rw[h3,h4];simp
 have ho:=hr.one
 (conv=>arg 4;cbv);simp (maxSteps:=400000) only[↓aF,aG,BEq.rfl,seval,hQ,↓jy]
 refine⟨ho,hl,?_⟩
 refine aU (λm S=>∃i:Nat,i+m=(aK v).length∧(∀(j:Nat) s,j<i→(aK v)[j]?=some s→s≠nm)∧S=⟨dR 27 [(0,aj v),(1,.str nm),(6,kT (aK v)),(7,.int .i64 i)],[]⟩) (aK v).length ⟨0,by omega,λj s h=>absurd h (Nat.not_lt_zero j),?_⟩ ?_
 ·simp only[dw,keepR,Nat.reduceAdd,pX,Nat.reduceBEq,map_nil]
  rfl
 rintro m S ⟨i,him,hb,rfl⟩
 have Mq:jC v=(aK v).zip (ax v):=rfl
 rcases Nat.lt_or_ge i (aK v).length with h | h
 ·have hlt:((i:Int)<((aK v).length:Int))=True:=eq_true (by omega)
  have zi:(0≤(i:Int))=True:=eq_true (by omega)
  have hk:aO v=6:=hnp.resolve_right λh0=>by rw[h0]at h;simp at h
  have hpl:=hpn hk
  have hgi:=List.getElem?_eq_getElem h
  have Qt:(ax v)[i]?=some ((ax v)[i]'(by omega)):=List.getElem?_eq_getElem _
  generalize (aK v)[i]=s at hgi
  generalize (ax v)[i]'(by omega)=p at Qt
  by_cases he:s=nm
  ·have he':(s=nm)=True:=eq_true he
   have hres:jL v nm=.bI [aj p,.bool true]:=by
    have hm:(nm,p)∈jC v:=by
     rw[Mq]
     refine List.mem_iff_getElem?.2 ⟨i,?_⟩
     rw[List.getElem?_zip_eq_some]
     exact⟨by rw[←he];exact hgi,Qt⟩
    have:=oD (fE (dz hr hk).1.rise) hm
    simp[jL,fM,hk,this]
   simp (maxSteps:=400000) only[↓aF,aG,BEq.rfl,seval,hQ,hlt,zi,hgi,he',↓bW,Qt]
   exact⟨ho,hl,hres⟩
  ·have he':(s=nm)=False:=eq_false he
   simp (maxSteps:=400000) only[↓aF,aG,BEq.rfl,seval,hQ,hlt,zi,hgi,he']
   refine⟨⟨by omega,by omega⟩,m-1,by omega,i+1,by omega,λj s' hj hs=>?_,rfl⟩
   rcases Nat.lt_or_ge j i with g | g
   ·exact hb j s' g hs
   ·have:j=i:=by omega
    subst this
    rw[hgi]at hs;cases hs;exact he
 ·have hlt:((i:Int)<((aK v).length:Int))=False:=eq_false (by omega)
  have hres:jL v nm=.bI [.sl 0 [] (some true),.bool false]:=by
   have:jh (jC v) nm=none:=by
    rw[nO,Mq]
    intro hm
    obtain⟨x,hx,rfl⟩:=List.mem_map.1 hm
    obtain⟨j,hj,e⟩:=List.mem_iff_getElem.1 (List.of_mem_zip hx).1
    exact hb j x.1 (by omega) (by rw[List.getElem?_eq_getElem hj,e]) rfl
   simp[jL,fM,this]
  simp (maxSteps:=400000) only[↓aF,aG,BEq.rfl,seval,hQ,hlt]
  exact hres
theorem Hw(v:Vl)(nm:List UInt8)(hr:Rt v)(hl:v.length≤1000000):av Tryz.prog 58 [aj v,.str nm] [] (.bI [aj (bH v nm),.bool (dS v nm)]) []:=(Js v nm hr hl).res (zS v nm)
def dJ:eX:=λargs objs K=>match args with
 | [a0,.str nm]=>gy aj a0 (HK.mk:HK λv=>(Rt v)∧(v.length≤1000000)∧K (.bI [aj (bH v nm),.bool (dS v nm)]) objs 0)
 | _=>False
theorem xL:aQ Tryz.prog 58 (dJ):=by
 intro args objs K h
 unfold dJ at h
 split at h
 ·rename_i a0 nm
  obtain⟨v,rfl,h1,h2,hk⟩:=h
  exact⟨_,_,_,.pure _ rfl (Hw v nm h1 h2),hk⟩
 ·exact h.elim
theorem O9(x y:Obj)(v:Vl):gq 1 0 [x,y,xD v 0] (.aZ 2 0)=aj v:=by
 simp only[gq,Nat.not_lt_zero,if_false,lF,List.getElem?_cons_succ,List.getElem?_cons_zero,Nat.zero_le,decide_true,Bool.true_and,beq_self_eq_true,if_true,xD]
 rw[Hf aM λ_=>rfl];rfl
theorem KJ{q:mG}{i:Nat}{x:List UInt8×Vl}(h:q[i]?=some x)(nm:List UInt8):ig (q.take (i+1)) nm=ig (q.take i) nm++(if x.1=nm then [] else [x]):=by
 rw[List.take_add_one,h]
 unfold ig
 rw[List.filter_append]
 by_cases e:x.1=nm<;>simp[e]
theorem E_(v:Vl)(nm:List UInt8)(hr:Rt v)(hk:aO v=6)(hl:v.length≤1000000):av Tryz.prog 59 [aj v,.str nm] [] (aj (cO v nm)) []:=by
 refine xh.bY (T:=bg Tryz.prog [(62,jy),(40,bW),(84,lY)]) 1 hD (ay (af tu (af mX (af uY ak)))) bC (by decide) λQ hQ=>?_
 obtain⟨p1,p2,p3,p4⟩:=bK hr
 obtain⟨hq,hmk,hN,hP⟩:=dz hr hk
 have ho:=hr.one
 obtain⟨q,hqe⟩:∃q,q=jC v:=⟨_,rfl⟩
 rw[←hqe]at hq hmk hN hP
 have IG:q.length≤v.length:=by rw[hP,length_map]at p1;exact p1
 have hqf:(q.map (·.2)).flatten.length≤v.length:=by rw[hP]at p3;exact p3
 have hnl:(q.map (·.1)).length=q.length:=length_map ..
 (conv=>arg 4;cbv);simp (maxSteps:=400000) only[↓aF,aG,BEq.rfl,seval,hQ,↓jy,↓bW,hN,hP]
 refine⟨ho,hl,ho,hl,?_⟩
 refine aU (λm S=>∃i v1 v2:Nat,i+m=q.length∧S=⟨dR 45 [(1,.str nm),(5,kT (q.map (·.1))),(6,dP (q.map (·.2))),(7,.aZ 0 v1),(8,.aZ 1 v2),(9,.int .i64 i)],[G7 ((ig (q.take i) nm).map (·.1)) v1,xw ((ig (q.take i) nm).map (·.2)) v2]⟩) q.length ⟨0,1,1,by omega,?_⟩ ?_
 ·simp only[dw,keepR,Nat.reduceAdd,pX,Nat.reduceBEq,map_nil]
  rfl
 rintro m S ⟨i,v1,v2,him,rfl⟩
 rcases Nat.lt_or_ge i q.length with h | h
 ·have hlt:((i:Int)<(q.length:Int))=True:=eq_true (by omega)
  have zi:(0≤(i:Int))=True:=eq_true (by omega)
  have hgi:=List.getElem?_eq_getElem h
  generalize q[i]=x at hgi
  have hg1:(q.map (·.1))[i]?=some x.1:=by rw[List.getElem?_map,hgi];rfl
  have hg2:(q.map (·.2))[i]?=some x.2:=by rw[List.getElem?_map,hgi];rfl
  have hdt:=KJ hgi nm
  have hdl:=(xK (q.take i) nm).1
  rw[List.length_take]at hdl
  by_cases he:x.1=nm
  ·have he':(x.1=nm)=True:=eq_true he
   rw[if_pos he,List.append_nil]at hdt
   simp (maxSteps:=400000) only[↓aF,aG,BEq.rfl,seval,hQ,hlt,zi,hnl,hg1,he']
   exact⟨⟨by omega,by omega⟩,m-1,by omega,i+1,v1,v2,by omega,by rw[hdt];rfl⟩
  ·have he':(x.1=nm)=False:=eq_false he
   rw[if_neg he]at hdt
   generalize ig (q.take i) nm=kept at hdt hdl
   unfold G7 xw
   simp (maxSteps:=400000) only[↓aF,aG,BEq.rfl,seval,hQ,hlt,zi,hnl,hg1,hg2,he']
   refine⟨by omega,by omega,by omega,by omega,⟨by omega,by omega⟩,m-1,by omega,i+1,v1+1,v2+1,by omega,?_⟩
   rw[hdt]
   simp[G7,xw]
 ·have hlt:((i:Int)<(q.length:Int))=False:=eq_false (by omega)
  rw[List.take_of_length_le h]
  have hd:=xK q nm
  have hne:∀p∈(ig q nm).map (·.2),p≠[]:=λp hp=>by
   obtain⟨x,hx,rfl⟩:=List.mem_map.1 hp
   exact (hq.rt x (mH.1 hx).1).one.ne
  have ZB:FU ((ig q nm).map (·.1)) ((ig q nm).map (·.2))=cO v nm:=by rw[Bj,cO,hqe]
  unfold G7 xw
  simp (maxSteps:=400000) only[↓aF,aG,BEq.rfl,seval,hQ,hlt,hnl,↓lY,Jj,E5]
  exact⟨by omega,by omega,hne,by rw[ZB];exact (O9 _ _ _).symm⟩
def jA:eX:=λargs objs K=>match args with
 | [a0,.str nm]=>gy aj a0 (HK.mk:HK λv=>(Rt v)∧(aO v=6)∧(v.length≤1000000)∧K (aj (cO v nm)) objs 0)
 | _=>False
theorem tH:aQ Tryz.prog 59 (jA):=by
 intro args objs K h
 unfold jA at h
 split at h
 ·rename_i a0 nm
  obtain⟨v,rfl,h1,h2,h3,hk⟩:=h
  exact⟨_,_,_,.pure _ rfl (E_ v nm h1 h2 h3),hk⟩
 ·exact h.elim
theorem nW{v:Vl}(nm:List UInt8)(hr:Rt v)(hk:aO v=6):Rt (cO v nm)∧aO (cO v nm)=6∧(cO v nm).length≤v.length∧jC (cO v nm)=ig (jC v) nm:=by
 obtain⟨hq,hmk,hN,hP⟩:=dz hr hk
 have hd:=Fh hq nm
 refine⟨Wd hd,rfl,?_,SX hd.rt⟩
 have h1:=ve (jC v)
 rw[hmk]at h1
 have h2:=(xK (jC v) nm).2
 rw[cO,ve]
 omega
def pK:eX:=λargs objs K=>match args with
 | [a]=>gy aj a (HK.mk:HK λv=>One v∧v.length≤1000000∧K (.aZ objs.length 0) (objs++[G7 (aK v) 0]) 2)
 | _=>False
theorem Fa:aQ Tryz.prog 62 pK:=by
 intro args objs K h
 unfold pK at h
 split at h
 ·obtain⟨v,rfl,h1,h2,h3⟩:=h
  exact⟨_,_,_,.made (.aZ 0 0) _ rfl (p8 _ 0) (vT v h1 h2),by simpa[PV.shift,PV.jV] using h3⟩
 ·exact h.elim
def kM:eX:=λargs objs K=>match args with
 | [a]=>gy aj a (HK.mk:HK λv=>One v∧v.length≤1000000∧K (.aZ objs.length 0) (objs++[xw (ax v) 0]) 2)
 | _=>False
theorem vU:aQ Tryz.prog 40 kM:=by
 intro args objs K h
 unfold kM at h
 split at h
 ·obtain⟨v,rfl,h1,h2,h3⟩:=h
  exact⟨_,_,_,.made (.aZ 0 0) _ rfl (tq _ 0) (zR v h1 h2),by simpa[PV.shift,PV.jV] using h3⟩
 ·exact h.elim
theorem ZC{q:mG}(hq:jF q){nm:List UInt8}{x:Vl}(hn:nm ∉ q.map (·.1))(hu:utf nm=true) :
  eT (q.map (·.1)++[nm]) (q.map (·.2)++[x]).length=true∧Aa (q.map (·.1)++[nm]) (q.map (·.2)++[x])=JN (nM nm x q):=by
 have hok:eT (q.map (·.1)++[nm]) (q.map (·.2)++[x]).length=true:=by
  rw[lU]
  refine⟨by simp,?_,λs hs=>?_⟩
  ·rw[List.nodup_append]
   refine⟨fE hq.rise,by simp,λa ha b hb=>?_⟩
   simp only[mem_singleton]at hb
   subst hb
   rintro rfl;exact hn ha
  ·rcases List.mem_append.1 hs with hs | hs
   ·obtain⟨z,hz,rfl⟩:=List.mem_map.1 hs
    exact hq.utf z hz
   ·simp only[mem_singleton]at hs
    subst hs;exact hu
 have hz:(q.map (·.1)++[nm]).zip (q.map (·.2)++[x])=q++[(nm,x)]:=by
  rw[List.zip_append (by simp),uf];rfl
 refine⟨hok,?_⟩
 have:=Ef hok (nN nm x q hq.rise hn) λz=>by rw[ji,hz];simp[or_comm]
 rw[Aa,if_pos hok,←this]
theorem Mx(v:Vl)(nm:List UInt8)(x:Vl)(hr:Rt v)(hk:aO v=6)(hl:v.length≤100000)(hu:utf nm=true)(hx:Rt x)(hxl:x.length≤100000)(hs:nm.length≤4611686018427387904)(hvs:∀n∈v,n.name.length≤4611686018427387904):av Tryz.prog 39 [aj v,.str nm,aj x] [] (aj (gL v nm x)) []:=by
 refine BZ.bY (T:=bg Tryz.prog [(59,jA),(62,pK),(40,kM),(63,oz)]) 1 hD (ay (af tH (af Fa (af vU (af DK ak))))) bC (by decide) λQ hQ=>?_
 obtain⟨h1,h2,h3,h4⟩:=nW nm hr hk
 obtain⟨hq,hmk,hN,hP⟩:=dz h1 h2
 obtain⟨p1,p2,p3,p4⟩:=bK h1
 rw[h4]at hq hN hP
 obtain⟨hok,hov⟩:=ZC (x:=x) hq (pF _ nm) hu
 have ho:=h1.one
 have hne:∀p∈(ig (jC v) nm).map (·.2)++[x],p≠[]:=λp hp=>by
  rcases List.mem_append.1 hp with hp | hp
  ·obtain⟨y,hy,rfl⟩:=List.mem_map.1 hp
   exact (hq.rt y hy).one.ne
  ·simp only[mem_singleton]at hp
   subst hp;exact hx.one.ne
 have hnl:∀s∈(ig (jC v) nm).map (·.1)++[nm],s.length≤4611686018427387904:=λs hs'=>by
  rcases List.mem_append.1 hs' with hs' | hs'
  ·obtain⟨y,hy,rfl⟩:=List.mem_map.1 hs'
   have h5:=u_ hr hvs y.1 (by rw[(dz hr hk).2.2.1];exact List.mem_map.2 ⟨y,(mH.1 hy).1,rfl⟩)
   omega
  ·simp only[mem_singleton]at hs'
   subst hs';omega
 rw[hN]at p2;rw[hP]at p1 p3
 have hw:gL v nm x=JN (nM nm x (ig (jC v) nm)):=rfl
 rw[←hw]at hov
 generalize gL v nm x=W at *
 generalize ig (jC v) nm=q at *
 have e1:List.map PV.str (q.map (·.1))++[.str nm]=List.map PV.str (q.map (·.1)++[nm]):=by simp
 have e2:List.map aj (q.map (·.2))++[aj x]=List.map aj (q.map (·.2)++[x]):=by simp
 rw[length_map]at p1 p2
 have hok':eT (q.map (·.1)++[nm]) (q.length+1)=true:=by rw[←hok];simp
 have hfl:(q.map (·.2)++[x]).flatten.length≤1000000:=by rw[List.flatten_append,length_append];simp only[flatten_cons,List.flatten_nil,List.append_nil];omega
 (conv=>arg 4;cbv);simp (maxSteps:=400000) only[↓aF,aG,BEq.rfl,seval,hQ,↓jA,↓pK,↓kM,hN,hP,G7,xw,e1,e2,↓oz,Jj,E5,hok',abR,bT,hov]
 exact⟨hr,hk,by omega,ho,by omega,by omega,by omega,ho,by omega,by omega,by omega,by omega,by omega,hfl,hne,hnl,(O9 _ _ _).symm⟩
def nX:eX:=λargs objs K=>match args with
 | [a0,.str nm,a2]=>gy aj a0 (HK.mk:HK λv=>gy aj a2 (HK.mk:HK λx=>(Rt v)∧(aO v=6)∧(v.length≤100000)∧(utf nm=true)∧(Rt x)∧(x.length≤100000)∧(nm.length≤4611686018427387904)∧(∀n∈v,n.name.length≤4611686018427387904)∧K (aj (gL v nm x)) objs 0))
 | _=>False
theorem zT:aQ Tryz.prog 39 (nX):=by
 intro args objs K h
 unfold nX at h
 split at h
 ·rename_i a0 nm a2
  obtain⟨v,rfl,x,rfl,h1,h2,h3,h4,h5,h6,h7,h8,hk⟩:=h
  exact⟨_,_,_,.pure _ rfl (Mx v nm x h1 h2 h3 h4 h5 h6 h7 h8),hk⟩
 ·exact h.elim
end Lp
namespace Lp
open Go Go.Proofs
def v_(names:List (List UInt8))(nm:List UInt8):Nat:=(names.takeWhile λs=>Op.bytesLess s nm).length
theorem TJ(names:List (List UInt8))(nm:List UInt8):v_ names nm≤names.length:=by
 induction names with
 | nil=>exact Nat.le_refl _
 | cons s t ih=>
  unfold v_ at *
  rw[List.takeWhile_cons]
  split
  ·simp only[List.length_cons];omega
  ·simp
theorem ZE{names:List (List UInt8)}{nm:List UInt8}(hr:qc names):∀{j:Nat}{s:List UInt8},names[j]?=some s→(Op.bytesLess s nm=true↔j<v_ names nm):=by
 induction names with
 | nil=>intro j s h;simp at h
 | cons x t ih=>
  obtain⟨h1,h2⟩:=List.pairwise_cons.1 hr
  intro j s h
  unfold v_
  rw[List.takeWhile_cons]
  cases hx:Op.bytesLess x nm with
  | true=>
   cases j with
   | zero=>simp at h;subst h;simp[hx]
   | succ j=>
    have:=ih h2 (j:=j) (s:=s) (by simpa using h)
    unfold v_ at this
    simp only[if_true,List.length_cons]
    rw[this];omega
  | false=>
   simp only[Bool.false_eq_true,if_false,List.length_nil,Nat.not_lt_zero,iff_false]
   intro hs
   cases j with
   | zero=>simp at h;subst h;rw[hx]at hs;cases hs
   | succ j=>
    have h3:=h1 s (List.mem_of_getElem? (by simpa using h))
    rw[mF _ _ _ h3 hs]at hx;cases hx
theorem Hy(nm:List UInt8)(x:Vl):∀l:mG,nM nm x l=l.take (v_ (l.map (·.1)) nm)++(nm,x)::l.drop (v_ (l.map (·.1)) nm)
 | []=>rfl
 | y::ys=>by
  have ih:=Hy nm x ys
  unfold v_ at *
  rw[nM,List.map_cons,List.takeWhile_cons]
  split
  ·rename_i h;simp only[h,if_true,List.length_cons,List.take_succ_cons,List.drop_succ_cons,List.cons_append];rw[←ih]
  ·rename_i h;simp[h]
theorem MB(x:List UInt8):av Tryz.prog 125 [.str x] [] (.bool false) []:=by
 refine zw.bY (T:=bg Tryz.prog []) 0 hD (ay ak) bC (by decide) λQ hQ=>?_
 (conv=>arg 4;cbv);simp (maxSteps:=400000) only[↓aF,aG,BEq.rfl,seval,hQ]
def FB:eX:=λargs objs K=>match args with
 | [.str _x]=>K (.bool false) objs 0
 | _=>False
theorem RQ:aQ Tryz.prog 125 (FB):=by
 intro args objs K h
 unfold FB at h
 split at h
 ·rename_i _x
  have hk:=h
  exact⟨_,_,_,.pure _ rfl (MB _x),hk⟩
 ·exact h.elim
theorem Jt(x:List UInt8):av Tryz.prog 104 [.str x] [] (.bool false) []:=by
 refine uQ.bY (T:=bg Tryz.prog []) 0 hD (ay ak) bC (by decide) λQ hQ=>?_
 (conv=>arg 4;cbv);simp (maxSteps:=400000) only[↓aF,aG,BEq.rfl,seval,hQ]
def Co:eX:=λargs objs K=>match args with
 | [.str _x]=>K (.bool false) objs 0
 | _=>False
theorem RS:aQ Tryz.prog 104 (Co):=by
 intro args objs K h
 unfold Co at h
 split at h
 ·rename_i _x
  have hk:=h
  exact⟨_,_,_,.pure _ rfl (Jt _x),hk⟩
 ·exact h.elim
theorem cvU(objs:List Obj)(K:KT):(∀x,qX D 3 122 (.int .i64 x) objs K=K (.int .u64 (IntKind.u64.wrap x)) objs 0)∧(∀x,qX D 122 3 (.int .u64 x) objs K=K (.int .i64 (IntKind.i64.wrap x)) objs 0):=by
 refine⟨λx=>?_,λx=>?_⟩
 all_goals simp[qX,qg,fu]
theorem shU(a:Int)(K:PV→Prop):rR .shr .u64 .u64 a 1 K=K (.int .u64 (a.fdiv 2)):=by
 have:min 1 IntKind.u64.bits=1:=rfl
 simp[rR,this]
theorem Ju(x y:List UInt8):av Tryz.prog 103 [.str x,.str y] [] (.bool (Op.bytesLess x y)) []:=by
 refine Aq.bY (T:=bg Tryz.prog [(125,FB)]) 0 hD (ay (af RQ ak)) bC (by decide) λQ hQ=>?_
 (conv=>arg 4;cbv);simp (maxSteps:=400000) only[↓aF,aG,BEq.rfl,seval,hQ,↓FB]
def xM:eX:=λargs objs K=>match args with
 | [.str x,.str y]=>K (.bool (Op.bytesLess x y)) objs 0
 | _=>False
theorem O_:aQ Tryz.prog 103 (xM):=by
 intro args objs K h
 unfold xM at h
 split at h
 ·rename_i x y
  have hk:=h
  exact⟨_,_,_,.pure _ rfl (Ju x y),hk⟩
 ·exact h.elim
theorem MC(names:List (List UInt8))(nm:List UInt8)(hr:qc names)(hl:names.length≤1000000):av Tryz.prog 77 [kT names,.str nm] [] (.bI [.int .i64 (v_ names nm),.bool (decide (names[v_ names nm]?=some nm))]) []:=by
 refine j3.eH (T:=bg Tryz.prog [(103,xM),(104,Co)]) 0 hD (ay (af O_ (af RS ak))) bC (by decide) (by decide) λQ hQ=>?_
 have hle:=TJ names nm
 (conv=>arg 4;cbv);simp (maxSteps:=400000) only[↓aF,aG,BEq.rfl,seval,hQ]
 refine aU (λm S=>∃i j:Nat,i+m=j∧i≤v_ names nm∧v_ names nm≤j∧j≤names.length∧S=⟨dR 54 [(0,kT names),(1,.str nm),(6,.int .i64 names.length),(7,.int .i64 i),(8,.int .i64 j)],[]⟩) names.length ⟨0,names.length,by omega,Nat.zero_le _,hle,Nat.le_refl _,?_⟩ ?_
 ·simp only[dw,keepR,Nat.reduceAdd,pX,Nat.reduceBEq,List.map_nil]
  rfl
 rintro m S ⟨i,j,him,h1,h2,h3,rfl⟩
 rcases Nat.lt_or_ge i j with h | h
 ·have hlt:((i:Int)<(j:Int))=True:=eq_true (by omega)
  obtain⟨h,hh⟩:∃h,h=(i+j) / 2:=⟨_,rfl⟩
  have hhl:h<names.length:=by omega
  have w1:IntKind.u64.wrap ((i:Int)+j)=(i:Int)+j:=by rw[IntKind.wrap_u64];omega
  have w2:((i:Int)+j).fdiv 2=(h:Int):=by
   rw[Int.fdiv_eq_ediv_of_nonneg _ (by omega),hh];omega
  have w3:IntKind.i64.wrap (h:Int)=(h:Int):=by rw[IntKind.wrap_i64];omega
  have zh:(0≤(h:Int))=True:=eq_true (by omega)
  have hgh:=List.getElem?_eq_getElem hhl
  have hiff:=ZE (nm:=nm) hr hgh
  generalize names[h]=s at hgh hiff
  cases hb:Op.bytesLess s nm
  ·simp (maxSteps:=400000) only[↓aF,aG,BEq.rfl,seval,hQ,hlt,↓xM,↓cvU,↓shU,w1,w2,w3,zh,hgh,hb]
   have hnb:¬ h<v_ names nm:=λe=>by rw[hiff.2 e]at hb;cases hb
   exact⟨⟨by omega,by omega⟩,h-i,by omega,i,h,by omega,h1,by omega,by omega,rfl⟩
  ·simp (maxSteps:=400000) only[↓aF,aG,BEq.rfl,seval,hQ,hlt,↓xM,↓cvU,↓shU,w1,w2,w3,zh,hgh,hb]
   have hnb:h<v_ names nm:=hiff.1 hb
   exact⟨⟨by omega,by omega⟩,⟨by omega,by omega⟩,j-(h+1),by omega,h+1,j,by omega,by omega,h2,h3,rfl⟩
 ·have hlt:((i:Int)<(j:Int))=False:=eq_false (by omega)
  have hij:v_ names nm=i:=by omega
  rcases Nat.lt_or_ge i names.length with h | h
  ·have hlt2:((i:Int)<(names.length:Int))=True:=eq_true (by omega)
   have zi:(0≤(i:Int))=True:=eq_true (by omega)
   have hgi:=List.getElem?_eq_getElem h
   generalize names[i]=s at hgi
   rcases tf (s=nm) with he | he
   ·simp (maxSteps:=400000) only[↓aF,aG,BEq.rfl,seval,hQ,hlt,hlt2,zi,hgi,he,↓Co]
    rw[hij,hgi];simp[he]
   ·simp (maxSteps:=400000) only[↓aF,aG,BEq.rfl,seval,hQ,hlt,hlt2,zi,hgi,he,↓Co]
    rw[hij,hgi]
    have:decide (some s=some nm)=false:=decide_eq_false λe=>(of_eq_false he) (Option.some.inj e)
    rw[this]
  ·have hlt2:((i:Int)<(names.length:Int))=False:=eq_false (by omega)
   simp (maxSteps:=400000) only[↓aF,aG,BEq.rfl,seval,hQ,hlt,hlt2]
   rw[hij,List.getElem?_eq_none h];rfl
def vg:eX:=λargs objs K=>match args with
 | [a,.str nm]=>vZ .str 1 a objs (HK.mk:HK λnames=>qc names∧names.length≤1000000∧K (.bI [.int .i64 (v_ names nm),.bool (decide (names[v_ names nm]?=some nm))]) objs 1)
 | _=>False
theorem Jv:aQ Tryz.prog 77 vg:=by
 intro args objs K h
 unfold vg at h
 split at h
 ·rename_i a nm
  obtain⟨names,a',l1,t1,h1,h2,h3⟩:=j5 strCells h
  exact⟨_,_,_,.Wx _ [a',.str nm] ⟨l1,⟨rfl,rfl⟩,trivial⟩ rfl ((MC names nm h1 h2).arg rfl (tF t1 (.refl _))),h3⟩
 ·exact h.elim
end Lp
namespace Lp
open Go Go.Proofs Go.Lib Go.RowKit
open Nat (mul_le_mul_right one_mul succ_mul)
section
variable {P:Program}
def spl(cur:Array Value)(o:Nat)(vs:List Value):Array Value:=(cur.toList.take o++vs++cur.toList.drop (o+vs.length)).toArray
def mid(cur:Array Value)(i n z:Nat):List Value:=(cur.toList.take (n*z)).drop (i*z)
theorem yR{cur:Array Value}{o:Nat}{vs:List Value}(hl:o+vs.length≤cur.size)(q:Nat) :
  (spl cur o vs)[q]?=if q<o then cur[q]? else if q<o+vs.length then vs[q-o]? else cur[q]?:=by
 have hlen:(cur.toList.take o).length=o:=by simp;omega
 simp only[spl,List.getElem?_toArray,List.append_assoc]
 rw[List.getElem?_append,hlen]
 split
 ·rename_i h;rw[List.getElem?_take,if_pos h];simp
 ·rename_i h
  rw[List.getElem?_append]
  split
  ·rename_i h2;rw[if_pos (by omega)]
  ·rename_i h2
   rw[if_neg (by omega),List.getElem?_drop,show o+vs.length+(q-o-vs.length)=q by omega];simp
theorem j6{cur:Array Value}{o:Nat}{vs:List Value}(hl:o+vs.length≤cur.size):(spl cur o vs).size=cur.size:=by
 simp[spl];omega
theorem fV(w:World)(dT sT ty elem:TypeId)(inf:TypeInfo)(g o dLen dCap:Nat)(a:Addr)(sLen sCap n:Nat)(cur:Array Value)(t:TypeId)(cs:List Value)
  (hu:P.underlying dT=some (.slice elem)) (hi:P.info? elem=some inf) (hg:w.heap[g]?=some (.cells cur t (0,0))) (hn:n=Nat.min sLen dLen) (hl:cs.length=n*inf.size)
  (hsrc:∀j v,cs[j]?=some v→w.cell? (a.add j)=some v) (hfit:o+cs.length≤cur.size) (h1:∀v∈cs,v.oneCell'=true) :
  (Builtin.copy_ #[dT,sT] ty #[.slice (some ⟨g,o,none⟩) dLen dCap,.slice (some a) sLen sCap]).run P w=
   .ok (goInt n) (w.setRow g (spl cur o cs)):=by
 have h2:=run_loadCells_list (P:=P) w a cs hsrc
 have hst:=run_storeCells_at P g o t cs 0 cur w hg (by simpa using hfit) h1
 rw[hl]at h2
 rw[hn]at h2
 simp only[Nat.min_def]at h2
 simp[Builtin.copy_,run_underlying hu,Builtin.lenOf,Builtin.firstCells,Go.sizeOf,typeInfo,hi,hn,Nat.min_def,h2,hst,spl]
theorem rH{w:World}{g:Nat}{cur:Array Value}{t:TypeId}(hg:w.heap[g]?=some (.cells cur t (0,0)))(o:Nat):w.frozen? ⟨g,o,none⟩=false:=by
 simp[World.frozen?,hg]
theorem XL{α:Type}(xs:List α)(x:α)(i m:Nat)(hi:i≤xs.length):(xs.take i++[x]++xs.drop i)[m]?=if m<i then xs[m]? else if m=i then some x else xs[m-1]?:=by
 have ht:(xs.take i).length=i:=by simp;omega
 rw[List.append_assoc,List.getElem?_append,ht]
 split
 ·rename_i h;rw[List.getElem?_take,if_pos h]
 ·rename_i h
  rw[List.getElem?_append]
  split
  ·rename_i h2
   have:m=i:=by simp at h2;omega
   rw[if_pos this,this];simp
  ·rename_i h2
   simp at h2
   rw[if_neg (by omega),List.getElem?_drop]
   congr 1;simp;omega
theorem aX.adp {R:PV→Value→Prop}{z:Nat}{xs:List PV}{c c':Array Value}{x:PV}{s:List Value}{i:Nat}(h:aX R z c xs)(hs:aX R z ⟨s⟩ [x])(hi:i≤xs.length)
  (h1:∀q,q<i*z→c'[q]?=c[q]?) (h2:∀q,q<z→c'[i*z+q]?=s[q]?) (h3:∀q,i*z≤q→q<xs.length*z→c'[q+z]?=c[q]?) :
  aX R z c' (xs.take i++[x]++xs.drop i):=by
 intro m y hy
 rw[XL xs x i m hi]at hy
 have hlt:∀{u:PV}{j:Nat}{p:PV},u.cells.length=z→u.cells[j]?=some p→j<z:=λh1 h2=>by rw[←h1];exact (List.getElem?_eq_some_iff.1 h2).1
 split at hy
 ·rename_i hm
  obtain⟨z1,z2⟩:=h m y hy
  refine⟨z1,λj p hp=>?_⟩
  have hj:=hlt z1 hp
  have hmz:(m+1)*z≤i*z:=mul_le_mul_right _ hm
  rw[succ_mul]at hmz
  obtain⟨v,u1,u2⟩:=z2 j p hp
  exact⟨v,by rw[h1 _ (by omega)];exact u1,u2⟩
 ·split at hy
  ·rename_i hm
   cases hy
   obtain⟨z1,z2⟩:=hs 0 x rfl
   refine⟨z1,λj p hp=>?_⟩
   have hj:=hlt z1 hp
   obtain⟨v,u1,u2⟩:=z2 j p hp
   rw[Nat.zero_mul,Nat.zero_add]at u1
   exact⟨v,by rw[hm,h2 _ hj];simpa using u1,u2⟩
  ·rename_i hm1 hm2
   obtain⟨z1,z2⟩:=h (m-1) y hy
   have hml:m-1<xs.length:=(List.getElem?_eq_some_iff.1 hy).1
   refine⟨z1,λj p hp=>?_⟩
   have hj:=hlt z1 hp
   obtain⟨v,u1,u2⟩:=z2 j p hp
   have e0:m=(m-1)+1:=by omega
   have e:m*z+j=((m-1)*z+j)+z:=by rw[e0,succ_mul,Nat.add_sub_cancel];omega
   have g1:i*z≤(m-1)*z:=mul_le_mul_right _ (by omega)
   have g2:(m-1+1)*z≤xs.length*z:=mul_le_mul_right _ hml
   rw[succ_mul]at g2
   exact⟨v,by rw[e,h3 _ (by omega) (by omega)];exact u1,u2⟩
structure ZF (P:Program) (f:FuncId) (sT uT ty:TypeId) (z by':Nat):Prop where
 ent:Enters P f
 shift:∀(g n c i vb voff vc:Nat) (cur Cq:Array Value) (tv:TypeId) (ss:List Value) (w:World),i<n→n+1≤c→c≤9223372036854775807→
  w.heap[g]?=some (.cells cur ty (0,0))→cur.size=c*z→w.heap[vb]?=some (.cells Cq tv (0,0))→vb≠g→ss.length=z→
  (∀j v,ss[j]?=some v→w.cell? ⟨vb,voff+j,none⟩=some v)→(∀v∈ss,v.oneCell'=true)→(∀v∈mid cur i n z,v.oneCell'=true)→
  Calls P f #[.slice (some ⟨g,0,none⟩) n c,.int .i64 i,.slice (some ⟨vb,voff,none⟩) 1 vc] w λe w'=>
   e=.returned (.slice (some ⟨g,0,none⟩) (n+1) c)∧w'=(w.drew.setRow g (spl cur ((i+1)*z) (mid cur i n z))).setRow g (spl (spl cur ((i+1)*z) (mid cur i n z)) (i*z) ss)
 fin:∀(base:Option Addr) (n c vb voff vc:Nat) (w w':World) (v':Value),(base=none→n=0∧c=0)→n≤c→c≤9223372036854775807→
  (∀ty',(Builtin.append_ #[sT,uT] ty' #[.slice base n c,.slice (some ⟨vb,voff,none⟩) 1 vc]).run P w=.ok v' w')→
  Calls P f #[.slice base n c,.int .i64 n,.slice (some ⟨vb,voff,none⟩) 1 vc] w λe w1=>e=.returned v'∧w1=w'
 grow:∀(g n c i vb voff vc:Nat) (cur:Array Value) (ss:List Value) (w:World),i<n→n≤c→c<n+1→(n+1)*by'≤140737488355328→
  w.heap[g]?=some (.cells cur ty (0,0))→cur.size=c*z→vb<w.heap.size→ss.length=z→
  (∀j v,ss[j]?=some v→w.cell? ⟨vb,voff+j,none⟩=some v)→(∀v∈ss,v.oneCell'=true)→(∀v∈mid cur i n z,v.oneCell'=true)→
  ∃row:Array Value,row.size=grownCap w (n+1) c ty*z∧(∀q,q<i*z→row[q]?=cur[q]?)∧
   Calls P f #[.slice (some ⟨g,0,none⟩) n c,.int .i64 i,.slice (some ⟨vb,voff,none⟩) 1 vc] w λe w'=>
    e=.returned (.slice (some ⟨w.heap.size,0,none⟩) (n+1) (grownCap w (n+1) c ty))∧
    w'=((((w.drew.alloc (.cells row ty)).setRow w.heap.size (spl row (i*z) ss)).drew).setRow w.heap.size (spl (spl row (i*z) ss) ((i+1)*z) (mid cur i n z)))
variable {base ah:Nat→Prop}{w0:Wz}{blk:Nat→Option Nat}{a:Act}{w:World}
structure KL (ty:TypeId) (z:Nat) (R:PV→Value→Prop) (old:Option Nat) (w:World) (ys:List PV) (v':Value) (w':World) (gb:Nat):Prop where
 size:w.heap.size≤w'.heap.size
 sm:Sm w w'
 kept:∀b y,old≠some b→w.heap[b]?=some y→w'.heap[b]?=some y
 at':old=some gb∨w.heap.size≤gb
 cells:∃cap c,v'=.slice (some ⟨gb,0,none⟩) ys.length cap∧w'.heap[gb]?=some (.cells c ty (0,0))∧ys.length≤cap∧cap≤maxLen∧c.size=cap*z∧aX R z c ys
theorem KL.rel {tmps:List PV}{objs:List Obj}{k ver:Nat}{ob:Obj}{ys:List PV}{v':Value}{w':World}{gb:Nat}(R:Rel base ah w0 ⟨tmps,objs⟩ blk a w)(h1:objs[k]?=some ob)(h2:ob.live=true)(h3:ob.ver=ver)
  (hM:ob.ty≠MT) (L:KL ob.ty ob.sz (aY w (bA base objs blk) objs blk) (blk k) w ys v' w' gb) :
  Rel base ah w0 ⟨tmps,objs.set k { ob with xs:=ys,ver:=ver+1 }⟩ (aD blk k (some gb)) a w'∧
  aR w' (bA base (objs.set k { ob with xs:=ys,ver:=ver+1 }) (aD blk k (some gb))) (objs.set k { ob with xs:=ys,ver:=ver+1 }) (aD blk k (some gb)) (.aZ k (ver+1)) v':=by
 obtain⟨cap,c,hv,z1,z2,z3,z4,z5⟩:=L.cells
 have hb:aD blk k (some gb) k=some gb:=by unfold aD;rw[if_pos rfl]
 constructor
 ·refine R.setObj L.sm (o':={ ob with xs:=ys,ver:=ver+1 }) h1 h2 h2 L.size L.kept (λg hg=>by cases hg;exact L.at') (by simp;omega) (λhv=>by simp at hv;omega) (λhr=>?_)
  refine J3 (gb:=some gb) (R:=aY w (bA base objs blk) objs blk) hb ?_ hM hr
  exact⟨cap,c,z1,z2,z4,z5⟩
 ·refine⟨by rw[hv];rfl,{ ob with xs:=ys,ver:=ver+1 },?_,Nat.le_refl _,λ_ _=>⟨hM,?_⟩⟩
  ·rw[List.getElem?_set];simp[(List.getElem?_eq_some_iff.1 h1).1]
  ·unfold wB
   rw[hb]
   exact⟨cap,c,hv,z1,z2,z3,z4⟩
theorem XM{R:PV→Value→Prop}{p q r:PV}{vs:List Value}(h:bG R [p,q,r] vs):∃u v x,vs=[u,v,x]∧R p u∧R q v∧R r x:=by
 obtain⟨hl,h⟩:=h
 match vs,hl with
 | [u,v,x],_=>exact⟨u,v,x,rfl,h 0 _ _ rfl rfl,h 1 _ _ rfl rfl,h 2 _ _ rfl rfl⟩
theorem Cr{α:Type}(x:Option α):x=none∨∃g,x=some g:=by cases x with
 | none=>exact .inl rfl
 | some g=>exact .inr ⟨g,rfl⟩
def RU(z:Nat)(x:PV):Prop:=x.cells.length=z∧x.cells.all PV.storable=true
theorem Vq{f:FuncId}{sT uT:TypeId}{ti:aC}{by':Nat}{objs:List Obj}{k ver:Nat}{ob:Obj}{x:PV}{k2 Hz:Nat}{TL:Obj}{i:Nat}{tmps:List PV}(W:ZF P f sT uT ob.ty ob.sz by')(hu:P.underlying sT=some (.slice ob.ty))(hu2:P.underlying uT=some (.slice ob.ty))(hD:fI P ob.ty ti)(hk:ti.kind≠.none)
  (hzl:(aL ti).cells.length=ti.size) (hzs:(aL ti).cells.all PV.storable=true) (hsz:ti.size=ob.sz) (hby:ti.bytes=by')
  (R:Rel base ah w0 ⟨tmps,objs⟩ blk a w) (h1:objs[k]?=some ob) (h2:ob.live=true) (h3:ob.ver=ver)
  (g1:objs[k2]?=some TL) (g2:TL.live=true) (g3:TL.ver=Hz) (g4:TL.sz=ob.sz) (g5:TL.xs=[x]) (hkk:k2≠k)
  (hall:∀y∈ob.xs,RU ob.sz y) (hx:RU ob.sz x) (hi:i≤ob.xs.length) (hb:(ob.xs.length+1)*by'≤140737488355328) (hbm:ob.xs.length+1≤1000000000){v0 v2:Value}
  (r0:aR w (bA base objs blk) objs blk (.aZ k ver) v0) (r2:aR w (bA base objs blk) objs blk (.aZ k2 Hz) v2) :
  Calls P f #[v0,.int .i64 i,v2] w λe w'=>∃v' gb,e=.returned v'∧KL ob.ty ob.sz (aY w (bA base objs blk) objs blk) (blk k) w (ob.xs.take i++[x]++ob.xs.drop i) v' w' gb:=by
 have hty:=r0.uo h1 h2 h3
 have aem:=r2.uo g1 g2 g3
 have hh:=r0.aZ h1 h2 h3
 have hone:∀y,RU ob.sz y→∀p∈y.cells,∀v,aY w (bA base objs blk) objs blk p v→v.oneCell'=true:=λy hy p hp v hv=>(kE hv (List.all_eq_true.1 hy.2 p hp)).1
 obtain⟨vb,vc,Cq,rfl,hgv,hbk2,hvs,hvc,hcs⟩:∃vb vc Cq,v2=.slice (some ⟨vb,0,none⟩) 1 vc∧w.heap[vb]?=some (.cells Cq TL.ty (0,0))∧blk k2=some vb∧Cq.size=vc*ob.sz∧1≤vc∧aX (aY w (bA base objs blk) objs blk) ob.sz Cq [x]:=by
  have hr:=r2.aZ g1 g2 g3
  unfold wB at hr
  rcases Cr (blk k2) with hbk | ⟨g,hbk⟩
  ·rw[hbk]at hr;rw[g5]at hr;exact absurd hr.2 (by simp)
  ·rw[hbk]at hr
   obtain⟨cap,c,rfl,x1,x2,x3,x4⟩:=hr
   obtain⟨c',y1,y2,y3⟩:=kF R g1 g2 hbk aem
   rw[x1]at y1;cases y1
   rw[g4]at x4 y3
   rw[g5]at y3 x2 ⊢
   exact⟨g,cap,c,rfl,x1,hbk,x4,x2,y3⟩
 have aen:vb<w.heap.size:=(Array.getElem?_eq_some_iff.1 hgv).1
 obtain⟨ss,hss⟩:∃ss,ss=Cq.toList.take ob.sz:=⟨_,rfl⟩
 have Vr:ss.length=ob.sz:=by
  rw[hss,List.length_take,Array.length_toList,hvs]
  have:=mul_le_mul_right ob.sz hvc
  rw[one_mul]at this
  omega
 have hcell:∀j v,ss[j]?=some v→w.cell? ⟨vb,0+j,none⟩=some v:=λj v hj=>by
  rw[hss,List.getElem?_take]at hj
  split at hj
  ·simp only[World.cell?,hgv,Nat.zero_add]
   simpa using hj
  ·cases hj
 have hcx:aX (aY w (bA base objs blk) objs blk) ob.sz ⟨ss⟩ [x]:=by
  have:=aX.take hcs
  rw[show [x].length*ob.sz=ob.sz from one_mul _,←hss]at this
  exact this
 have hso:∀v∈ss,v.oneCell'=true:=cells_one hcx (by rw[Vr];exact (one_mul _).symm) (λy hy=>hone y (by rw[List.mem_singleton.1 hy];exact hx))
 by_cases hin:i=ob.xs.length
 ·subst hin
  have hfin:ob.xs.take ob.xs.length++[x]++ob.xs.drop ob.xs.length=ob.xs++[x]:=by simp
  rw[hfin]
  obtain⟨v',w',gb,q1,q2,q3,q4,q5⟩:=wI (ty:=sT) (R:=aY w (bA base objs blk) objs blk) (gOld:=blk k) (v:=v0) (x:=.slice (some ⟨vb,0,none⟩) 1 vc) (xs:=ob.xs) (ys:=[x]) (news:=ss) hu hD hk hzl hzs (by
   unfold wB at hh
   rcases Cr (blk k) with hbk | ⟨g,hbk⟩
   ·rw[hbk]at hh ⊢;exact hh
   ·rw[hbk]at hh ⊢
    obtain⟨cap,c,hv,x1,x2,x3,x4⟩:=hh
    obtain⟨c',y1,y2,y3⟩:=kF R h1 h2 hbk hty
    rw[x1]at y1;cases y1
    exact⟨cap,c,hv,x1,x2,x3,by rw[hsz];exact x4,by rw[hsz];exact y3⟩) (by rw[hsz];exact Src.ofSlice w hu2 ⟨vb,0,none⟩ 1 vc ss (by rw[Vr];exact (one_mul _).symm) (λj u hj=>by rw[Addr.add_lit];exact hcell j u hj) hso) (by rw[hsz];exact hcx) (by rw[hby];exact hb) (by simp;omega)
  have hnn:ob.xs++[x]≠[]:=by simp
  have hL:∃gb,KL ob.ty ob.sz (aY w (bA base objs blk) objs blk) (blk k) w (ob.xs++[x]) v' w' gb:=by
   cases gb with
   | none=>exact absurd q5.2 hnn
   | some g=>exact⟨g,q2.1,q2.2,q3,q4 g rfl,by rw[hsz]at q5;exact q5⟩
  obtain⟨gb',hL⟩:=hL
  have fin:∀base' n c,v0=.slice base' n c→n=ob.xs.length→(base'=none→n=0∧c=0)→n≤c→c≤9223372036854775807→
      Calls P f #[v0,.int .i64 ob.xs.length,.slice (some ⟨vb,0,none⟩) 1 vc] w λe w'=>∃v' gb,e=.returned v'∧KL ob.ty ob.sz (aY w (bA base objs blk) objs blk) (blk k) w (ob.xs++[x]) v' w' gb:=by
   intro base' n c ev en hn hnc hc
   subst ev;subst en
   refine (W.fin base' _ c vb 0 vc w w' v' hn hnc hc λty'=>q1).mono λe w1 ⟨e1,e2⟩=>?_
   subst e2
   exact⟨v',gb',e1,hL⟩
  unfold wB at hh
  rcases Cr (blk k) with hbk | ⟨g,hbk⟩
  ·rw[hbk]at hh;exact fin none 0 0 hh.1 (by rw[hh.2];rfl) (λ_=>⟨rfl,rfl⟩) (Nat.le_refl _) (by decide)
  ·rw[hbk]at hh
   obtain⟨cap,c,hv,x1,x2,x3,x4⟩:=hh
   exact fin _ _ _ hv rfl (λh=>by cases h) x2 (by unfold maxLen at x3;omega)
 ·have hlt:i<ob.xs.length:=by omega
  unfold wB at hh
  rcases Cr (blk k) with hbk | ⟨g,hbk⟩
  ·rw[hbk]at hh;rw[hh.2]at hlt;simp at hlt
  ·rw[hbk]at hh
   obtain⟨cap,c,rfl,x1,x2,x3,x4⟩:=hh
   obtain⟨c',y1,y2,y3⟩:=kF R h1 h2 hbk hty
   rw[x1]at y1;cases y1
   have hc63:cap≤9223372036854775807:=by unfold maxLen at x3;omega
   have hvg:vb≠g:=λe=>R.objs.Bd k2 k TL ob vb hkk g1 g2 h1 h2 hbk2 (by rw[hbk,e])
   have m1:(i+1)*ob.sz≤ob.xs.length*ob.sz:=mul_le_mul_right _ hlt
   have m2:ob.xs.length*ob.sz≤cap*ob.sz:=mul_le_mul_right _ x2
   have e1:=succ_mul i ob.sz
   have e2:=succ_mul ob.xs.length ob.sz
   rw[e1]at m1
   have hml:(mid c i ob.xs.length ob.sz).length=ob.xs.length*ob.sz-i*ob.sz:=by
    unfold mid
    rw[List.length_drop,List.length_take,Array.length_toList,x4]
    omega
   have hoc:∀v∈c.toList.take (ob.xs.length*ob.sz),v.oneCell'=true:=by
    refine cells_one (aX.take y3) ?_ (λy hy=>hone y (hall y hy))
    rw[List.length_take,Array.length_toList,x4]
    omega
   have adq:∀v∈mid c i ob.xs.length ob.sz,v.oneCell'=true:=λv hv=>hoc v (List.mem_of_mem_drop hv)
   have hdg:∀q,i*ob.sz≤q→q<ob.xs.length*ob.sz→(mid c i ob.xs.length ob.sz)[q-i*ob.sz]?=c[q]?:=λq hq1 hq2=>by
    unfold mid
    rw[List.getElem?_drop,List.getElem?_take,show i*ob.sz+(q-i*ob.sz)=q by omega,if_pos hq2];simp
   have hyl:(ob.xs.take i++[x]++ob.xs.drop i).length=ob.xs.length+1:=by simp;omega
   have hmax:ob.xs.length+1≤maxLen:=by unfold maxLen;omega
   by_cases hroom:ob.xs.length+1≤cap
   ·have m3:(ob.xs.length+1)*ob.sz≤cap*ob.sz:=mul_le_mul_right _ hroom
    rw[e2]at m3
    refine (W.shift g ob.xs.length cap i vb 0 vc c Cq TL.ty ss w hlt hroom hc63 x1 x4 hgv hvg Vr hcell hso adq).mono λe w' ⟨he,hw⟩=>?_
    refine⟨_,g,he,?_⟩
    rw[e1]at hw
    have hf1:i*ob.sz+ob.sz+(mid c i ob.xs.length ob.sz).length≤c.size:=by rw[hml,x4];omega
    generalize Pb:spl c (i*ob.sz+ob.sz) (mid c i ob.xs.length ob.sz)=bS at hw
    have hs1:bS.size=c.size:=by rw[←Pb];exact j6 hf1
    have hg1:=λq=>Pb ▸ yR hf1 q
    have hf2:i*ob.sz+ss.length≤bS.size:=by rw[hs1,x4,Vr];omega
    generalize Pf:spl bS (i*ob.sz) ss=cur2 at hw
    have hs2:cur2.size=bS.size:=by rw[←Pf];exact j6 hf2
    have hg2:=λq=>Pf ▸ yR hf2 q
    subst hw
    have hgd:w.drew.heap[g]?=some (.cells c ob.ty (0,0)):=x1
    have hh1:(w.drew.setRow g bS).heap[g]?=some (.cells bS ob.ty (0,0)):=setRow_heap w.drew g c bS ob.ty (0,0) hgd
    refine⟨by rw[setRow_size,setRow_size];exact Nat.le_refl _,⟨rfl,rfl⟩,λb y hb hy=>?_,.inl hbk,cap,cur2,by rw[hyl],setRow_heap _ g bS cur2 ob.ty (0,0) hh1,by rw[hyl];exact hroom,x3,by rw[hs2,hs1,x4],?_⟩
    ·have hbg:b≠g:=λe=>hb (by rw[hbk,e])
     rw[setRow_other _ g b _ hbg,setRow_other _ g b _ hbg];exact hy
    ·refine aX.adp y3 hcx hi (λq hq=>?_) (λq hq=>?_) (λq hq1 hq2=>?_)
     ·rw[hg2,if_pos hq,hg1,if_pos (by omega)]
     ·rw[hg2,if_neg (by omega),if_pos (by omega),Nat.add_sub_cancel_left]
     ·rw[hg2,if_neg (by omega),if_neg (by omega),hg1,if_neg (by omega),if_pos (by omega)]
      rw[←hdg q hq1 hq2];congr 1;omega
   ·obtain⟨row,hrs,hrg,hC⟩:=W.grow g ob.xs.length cap i vb 0 vc c ss w hlt x2 (by omega) hb x1 x4 aen Vr hcell hso adq
    refine hC.mono λe w' ⟨he,hw⟩=>?_
    refine⟨_,w.heap.size,he,?_⟩
    have hGn:=grownCap_ge w (ob.xs.length+1) cap ob.ty
    have hGm:=grownCap_le_maxLen w (ob.xs.length+1) cap ob.ty hmax
    generalize grownCap w (ob.xs.length+1) cap ob.ty=G at hrs hGn hGm ⊢
    have m3:(ob.xs.length+1)*ob.sz≤G*ob.sz:=mul_le_mul_right _ hGn
    rw[e2]at m3
    rw[e1]at hw
    have hf1:i*ob.sz+ss.length≤row.size:=by rw[hrs,Vr];omega
    generalize Pb:spl row (i*ob.sz) ss=bS at hw
    have hs1:bS.size=row.size:=by rw[←Pb];exact j6 hf1
    have hg1:=λq=>Pb ▸ yR hf1 q
    have hf2:i*ob.sz+ob.sz+(mid c i ob.xs.length ob.sz).length≤bS.size:=by rw[hml,hs1,hrs];omega
    generalize Pf:spl bS (i*ob.sz+ob.sz) (mid c i ob.xs.length ob.sz)=cur2 at hw
    have hs2:cur2.size=bS.size:=by rw[←Pf];exact j6 hf2
    have hg2:=λq=>Pf ▸ yR hf2 q
    subst hw
    have hN:(w.drew.alloc (.cells row ob.ty)).heap[w.heap.size]?=some (.cells row ob.ty (0,0)):=heap_alloc_new w.drew _
    have hN1:(((w.drew.alloc (.cells row ob.ty)).setRow w.heap.size bS).drew).heap[w.heap.size]?=some (.cells bS ob.ty (0,0)):=setRow_heap _ w.heap.size row bS ob.ty (0,0) hN
    have hgr:kD w (w.drew.alloc (.cells row ob.ty)):=.push rfl
    refine⟨by rw[setRow_size];show w.heap.size≤((w.drew.alloc (.cells row ob.ty)).setRow w.heap.size bS).heap.size;rw[setRow_size];exact hgr.1,hgr.2.2,λb y hb hy=>?_,.inr (Nat.le_refl _),G,cur2,by rw[hyl],setRow_heap _ w.heap.size bS cur2 ob.ty (0,0) hN1,by rw[hyl];exact hGn,hGm,by rw[hs2,hs1,hrs],?_⟩
    ·have hbs:b≠w.heap.size:=by have:=(Array.getElem?_eq_some_iff.1 hy).1;omega
     rw[setRow_other _ w.heap.size b _ hbs]
     show ((w.drew.alloc (.cells row ob.ty)).setRow w.heap.size bS).heap[b]?=some y
     rw[setRow_other _ w.heap.size b _ hbs]
     exact hgr.2.1 b y hy
    ·refine aX.adp y3 hcx hi (λq hq=>?_) (λq hq=>?_) (λq hq1 hq2=>?_)
     ·rw[hg2,if_pos (by omega),hg1,if_pos hq,hrg q hq]
     ·rw[hg2,if_pos (by omega),hg1,if_neg (by omega),if_pos (by omega),Nat.add_sub_cancel_left]
     ·rw[hg2,if_neg (by omega),if_pos (by omega),←hdg q hq1 hq2]
      congr 1;omega
theorem Pg{f:FuncId}{sT uT:TypeId}{ti:aC}{by':Nat}{objs:List Obj}{k ver:Nat}{ob:Obj}{x:PV}{k2 Hz:Nat}{TL:Obj}{i:Nat}(W:ZF P f sT uT ob.ty ob.sz by')(hu:P.underlying sT=some (.slice ob.ty))(hu2:P.underlying uT=some (.slice ob.ty))(hD:fI P ob.ty ti)(hk:ti.kind≠.none)
  (hzl:(aL ti).cells.length=ti.size) (hzs:(aL ti).cells.all PV.storable=true) (hsz:ti.size=ob.sz) (hby:ti.bytes=by')
  (h1:objs[k]?=some ob) (h2:ob.live=true) (h3:ob.ver=ver)
  (g1:objs[k2]?=some TL) (g2:TL.live=true) (g3:TL.ver=Hz) (g4:TL.sz=ob.sz) (g5:TL.xs=[x]) (hkk:k2≠k)
  (hall:∀y∈ob.xs,RU ob.sz y) (hx:RU ob.sz x) (hi:i≤ob.xs.length) (hb:(ob.xs.length+1)*by'≤140737488355328) (hbm:ob.xs.length+1≤1000000000) :
  Gb P f [.aZ k ver,.int .i64 i,.aZ k2 Hz] objs (.aZ k (ver+1)) (objs.set k { ob with xs:=ob.xs.take i++[x]++ob.xs.drop i,ver:=ver+1 }):=by
 refine⟨W.ent,by simp,λbase ah w0 tmps blk a w vs R hargs=>?_⟩
 obtain⟨v0,v1,v2,rfl,r0,r1,r2⟩:=XM hargs
 have e1:=r1.int
 subst e1
 refine (Vq W hu hu2 hD hk hzl hzs hsz hby R h1 h2 h3 g1 g2 g3 g4 g5 hkk hall hx hi hb hbm r0 r2).mono λe w' ⟨v',gb,he,L⟩=>?_
 obtain⟨e3,e4⟩:=L.rel R h1 h2 h3 (r0.uo h1 h2 h3)
 exact⟨v',_,he,e3,e4⟩
end
end Lp
namespace Lp
open Go Go.Proofs Go.Lib Go.RowKit
theorem Ph:Tryz.prog.underlying 75=some (.slice 9):=by kernel_rfl
theorem adr:∃inf,Tryz.prog.info? 9=some inf∧inf.zero=some (Value.string ⟨#[]⟩)∧inf.size=1∧inf.bytes=16:=⟨_,rfl,rfl,rfl,rfl⟩
theorem jV(g n c i vb voff vc:Nat)(cur Cq:Array Value)(tv:TypeId)(ss:List Value)(w:World)(hi:i<n)(hroom:n+1≤c)(hc63:c≤9223372036854775807)
  (hg:w.heap[g]?=some (.cells cur 9 (0,0))) (hcur:cur.size=c*1) (hgv:w.heap[vb]?=some (.cells Cq tv (0,0))) (hvb:vb≠g) (hsl:ss.length=1)
  (hx:∀j v,ss[j]?=some v→w.cell? ⟨vb,voff+j,none⟩=some v) (os:∀v∈ss,v.oneCell'=true) (oc:∀v∈mid cur i n 1,v.oneCell'=true) :
  Calls Tryz.prog 79 #[.slice (some ⟨g,0,none⟩) n c,.int .i64 i,.slice (some ⟨vb,voff,none⟩) 1 vc] w λe w'=>
   e=.returned (.slice (some ⟨g,0,none⟩) (n+1) c)∧w'=(w.drew.setRow g (spl cur ((i+1)*1) (mid cur i n 1))).setRow g (spl (spl cur ((i+1)*1) (mid cur i n 1)) (i*1) ss):=by
 have mixed:Tryz.prog.follows .mixedOrders=true:=by kernel_rfl
 have hml:(mid cur i n 1).length=(n-i)*1:=by simp[mid,hcur];omega
 have hz2:¬ ((i:Int)=(n:Int)):=by omega
 simp only[Nat.mul_one]at *
 have hov:∀off lb cb,(callFunc 105 #[.slice (some ⟨vb,voff,none⟩) 1 vc,.slice (some ⟨g,off,none⟩) lb cb]).run Tryz.prog w=.ok (.value (.bool false)) w:=λoff lb cb=>by
  rw[run_callFunc_extern Tryz.func105 (by kernel_rfl) (by kernel_rfl) (by kernel_rfl) (e:=Extern.SlicesOverlaps.overlaps #[75,75] #[4]) (by kernel_rfl),
   Lib.run_overlaps_apart w 75 4 9 Ph 1 Tryz.sizeOf9 ⟨vb,voff,none⟩ ⟨g,off,none⟩ 1 vc lb cb hvb tv 9 Cq.size cur.size (by simp[World.shape?,hgv]) (by simp[World.shape?,hg]) (by omega) (rH hgv _) (rH hgv _)]
  rfl
 obtain⟨inf,hi0,hz0,hzs,hzb⟩:=adr
 have hg':w.drew.heap[g]?=some (.cells cur 9 (0,0)):=hg
 have hcp1:∀ty dc sc,(Builtin.copy_ #[75,75] ty #[.slice (some ⟨g,i+1,none⟩) (n-i) dc,.slice (some ⟨g,i,none⟩) (n+1-i) sc]).run Tryz.prog w.drew=.ok (goInt (n-i:Nat)) (w.drew.setRow g (spl cur (i+1) (mid cur i n 1))):=λty dc sc=>by
  refine fV w.drew 75 75 ty 9 inf g (i+1) (n-i) dc ⟨g,i,none⟩ (n+1-i) sc (n-i) cur 9 _ Ph hi0 hg' (by simp only[Nat.min_def];split<;>omega) (by rw[hzs];omega) (λj v hj=>?_) (by omega) oc
  rw[Addr.add_lit]
  simp only[World.cell?,hg']
  unfold mid at hj
  rw[List.getElem?_drop,List.getElem?_take]at hj
  split at hj
  ·simpa using hj
  ·cases hj
 have Cs:(spl cur (i+1) (mid cur i n 1)).size=c*1:=by rw[j6 (by omega)];omega
 generalize spl cur (i+1) (mid cur i n 1)=bS at hcp1 Cs ⊢
 have hg1:(w.drew.setRow g bS).heap[g]?=some (.cells bS 9 (0,0)):=setRow_heap w.drew g cur bS 9 (0,0) hg'
 have hcp2:∀ty dc,(Builtin.copy_ #[75,75] ty #[.slice (some ⟨g,i,none⟩) (n+1-i) dc,.slice (some ⟨vb,voff,none⟩) 1 vc]).run Tryz.prog (w.drew.setRow g bS)=.ok (goInt (1:Nat)) ((w.drew.setRow g bS).setRow g (spl bS (i) ss)):=λty dc=>by
  refine fV _ 75 75 ty 9 inf g (i) (n+1-i) dc ⟨vb,voff,none⟩ 1 vc 1 bS 9 ss Ph hi0 hg1 (by simp only[Nat.min_def];split<;>omega) (by rw[hzs];omega) (λj v hj=>?_) (by omega) os
  rw[Addr.add_lit]
  have e:(w.drew.setRow g bS).heap[vb]?=w.heap[vb]?:=setRow_other w.drew g vb bS hvb
  have:(w.drew.setRow g bS).cell? ⟨vb,voff+j,none⟩=w.cell? ⟨vb,voff+j,none⟩:=by simp only[World.cell?,e]
  rw[this]
  exact hx j v hj
 generalize spl bS (i) ss=cur2 at hcp2 ⊢
 have hw1:IntKind.i64.wrap ((i:Int)+1)=(i:Int)+1:=by rw[IntKind.wrap_i64];omega
 have hb1:(0:Int)≤(i:Int)+1:=by omega
 have hin:i≤n:=by omega
 have htn:((i:Int)+1).toNat=i+1:=by omega
 have hb2:¬ (c=i+1):=by omega
 have hb3:(i:Int)≤(n:Int)+1:=by omega
 have hb4:¬ (c=i):=by omega
 have hb5:n+1-(i+1)=n-i:=by omega
 clear hml Cs hsl
 go_enter Tryz.func79,Tryz.ntmps79
 go_wp2_with (simp only[hov])
 go_region_law_o (refine step_copy_runI rfl _ _ 75 75 rfl _ _ (by simp[Act.eval,Act.put]) (by simp[Act.eval,Act.put]) (hcp1 _ _ _) ?_)
 go_wp2_with (at_builtin;refine wpList_copy_runI _ rfl _ _ 75 75 rfl _ _ rfl rfl (hcp2 _ _) ?_)
 go_ret
 exact⟨rfl,rfl⟩
theorem aeo(base:Option Addr)(n c vb voff vc:Nat)(w w':World)(v':Value)(hnil:base=none→n=0∧c=0)(hnc:n≤c)(hc63:c≤9223372036854775807)
  (hrun:∀ty,(Builtin.append_ #[75,75] ty #[.slice base n c,.slice (some ⟨vb,voff,none⟩) 1 vc]).run Tryz.prog w=.ok v' w') :
  Calls Tryz.prog 79 #[.slice base n c,.int .i64 n,.slice (some ⟨vb,voff,none⟩) 1 vc] w λe w1=>e=.returned v'∧w1=w':=by
 have mixed:Tryz.prog.follows .mixedOrders=true:=by kernel_rfl
 cases base with
 | none=>
  obtain⟨rfl,rfl⟩:=hnil rfl
  go_enter Tryz.func79,Tryz.ntmps79
  go_wp2_with (at_builtin;refine Lib.wpList_append_run _ rfl _ _ _ _ rfl _ _ rfl rfl _ _ (hrun _) ?_)
  go_ret
  exact⟨rfl,rfl⟩
 | some a=>
  obtain⟨ab,ao,asp⟩:=a
  clear hnil
  go_enter Tryz.func79,Tryz.ntmps79
  go_wp2_with (at_builtin;refine Lib.wpList_append_run _ rfl _ _ _ _ rfl _ _ rfl rfl _ _ (hrun _) ?_)
  all_goals (go_ret;exact⟨rfl,rfl⟩)
theorem ads(g n c i vb voff vc:Nat)(cur:Array Value)(ss:List Value)(w:World)(hi:i<n)(hnc:n≤c)(hroom:c<n+1)(hbig:(n+1)*16≤140737488355328)
  (hg:w.heap[g]?=some (.cells cur 9 (0,0))) (hcur:cur.size=c*1) (hvb:vb<w.heap.size) (hsl:ss.length=1)
  (hx:∀j v,ss[j]?=some v→w.cell? ⟨vb,voff+j,none⟩=some v) (os:∀v∈ss,v.oneCell'=true) (oc:∀v∈mid cur i n 1,v.oneCell'=true) :
  ∃row:Array Value,row.size=grownCap w (n+1) c 9*1∧(∀q,q<i*1→row[q]?=cur[q]?)∧
   Calls Tryz.prog 79 #[.slice (some ⟨g,0,none⟩) n c,.int .i64 i,.slice (some ⟨vb,voff,none⟩) 1 vc] w λe w'=>
    e=.returned (.slice (some ⟨w.heap.size,0,none⟩) (n+1) (grownCap w (n+1) c 9))∧
    w'=((((w.drew.alloc (.cells row 9)).setRow w.heap.size (spl row (i*1) ss)).drew).setRow w.heap.size (spl (spl row (i*1) ss) ((i+1)*1) (mid cur i n 1))):=by
 have mixed:Tryz.prog.follows .mixedOrders=true:=by kernel_rfl
 obtain⟨inf,hi0,hz0,hzs,hzb⟩:=adr
 have hgw:g<w.heap.size:=(Array.getElem?_eq_some_iff.1 hg).1
 have hz2:¬ ((i:Int)=(n:Int)):=by omega
 have hz3:(c:Int)<(n:Int)+1:=by omega
 have hik:i+(n+1-i)=n+1:=by omega
 have hkk:(n:Int)+1-(i:Int)=((n+1-i:Nat):Int):=by omega
 have hold:(Builtin.firstCells inf.size i (.slice (some ⟨g,0,none⟩) i c)).run Tryz.prog w.drew=.ok (cur.toList.take (i*1)).toArray w.drew:=by
  rw[hzs]
  refine run_firstCells_some w.drew 1 i ⟨g,0,none⟩ i c (cur.toList.take (i*1)) (by rw[List.length_take,Array.length_toList,hcur];omega) (λj v hj=>?_)
  rw[List.getElem?_take]at hj
  split at hj
  ·rw[add_lit]
   have:(w.drew.heap)[g]?=some (.cells cur 9 (0,0)):=hg
   simp only[World.cell?,this]
   simpa using hj
  ·cases hj
 have hGn:n+1≤grownCap w (n+1) c 9:=grownCap_ge w _ _ _
 have hG63:grownCap w (n+1) c 9≤9223372036854775807:=by
  have:=grownCap_le_maxLen w (n+1) c 9 (by unfold maxLen;omega)
  unfold maxLen at this
  omega
 have hrz:∀ty,(Builtin.append_ #[75,3] ty #[.slice (some ⟨g,0,none⟩) i c,.int .i64 ((n:Int)+1-(i:Int))]).run Tryz.prog w=
     .ok (.slice (some ⟨w.heap.size,0,none⟩) (n+1) (grownCap w (n+1) c 9)) (w.drew.alloc (.cells ((cur.toList.take (i*1)).toArray++Builtin.zeroCells (Value.string ⟨#[]⟩).cells (n+1-i)++Builtin.zeroCells (Value.string ⟨#[]⟩).cells (grownCap w (n+1) c 9-(n+1))) 9)):=λty=>by
  have h:=Lib.run_append_grow_zeros (P:=Tryz.prog) w 75 3 ty 9 inf _ .i64 .i64 Ph (by kernel_rfl) hi0 hz0 (some ⟨g,0,none⟩) i c (cur.toList.take (i*1)) hold (n+1-i) (by omega) (by omega) (by omega) (by omega) (by rw[hzb];omega) (by rw[hzb,hik];exact growslice_fits hroom hbig)
  rw[hik]at h
  rw[hkk]
  exact h
 generalize grownCap w (n+1) c 9=G at *
 have hrg:∀q,q<i*1→((cur.toList.take (i*1)).toArray++Builtin.zeroCells (Value.string ⟨#[]⟩).cells (n+1-i)++Builtin.zeroCells (Value.string ⟨#[]⟩).cells (G-(n+1)))[q]?=cur[q]?:=λq hq=>by
  rw[Array.getElem?_append_left (by simp[Builtin.zeroCells,Value.cells,hcur];omega),Array.getElem?_append_left (by simp[hcur];omega)]
  rw[List.getElem?_toArray,List.getElem?_take,if_pos hq];simp
 have hrs:((cur.toList.take (i*1)).toArray++Builtin.zeroCells (Value.string ⟨#[]⟩).cells (n+1-i)++Builtin.zeroCells (Value.string ⟨#[]⟩).cells (G-(n+1))).size=G*1:=by
  simp[Builtin.zeroCells,Value.cells,hcur]
  omega
 generalize (cur.toList.take (i*1)).toArray++Builtin.zeroCells (Value.string ⟨#[]⟩).cells (n+1-i)++Builtin.zeroCells (Value.string ⟨#[]⟩).cells (G-(n+1))=row at hrz hrg hrs
 refine⟨row,hrs,hrg,?_⟩
 have hml:(mid cur i n 1).length=(n-i)*1:=by simp[mid,hcur];omega
 obtain⟨W1,hW1⟩:∃W1,W1=w.drew.alloc (.cells row 9):=⟨_,rfl⟩
 have hN:W1.heap[w.heap.size]?=some (.cells row 9 (0,0)):=by rw[hW1];exact heap_alloc_new w.drew _
 have hO:∀b,b<w.heap.size→W1.heap[b]?=w.heap[b]?:=λb hb=>by
  rw[hW1]
  show (w.drew.heap.push _)[b]?=_
  rw[Array.getElem?_push,if_neg (show ¬ b=w.drew.heap.size from by show ¬ b=w.heap.size;omega)]
  rfl
 rw[←hW1]at hrz ⊢
 simp only[Nat.mul_one]at *
 have hcpA:∀ty dc,(Builtin.copy_ #[75,75] ty #[.slice (some ⟨w.heap.size,i,none⟩) (n+1-i) dc,.slice (some ⟨vb,voff,none⟩) 1 vc]).run Tryz.prog W1=.ok (goInt (1:Nat)) (W1.setRow w.heap.size (spl row (i) ss)):=λty dc=>by
  refine fV _ 75 75 ty 9 inf w.heap.size (i) (n+1-i) dc ⟨vb,voff,none⟩ 1 vc 1 row 9 ss Ph hi0 hN (by simp only[Nat.min_def];split<;>omega) (by rw[hzs];omega) (λj v hj=>?_) (by omega) os
  rw[Addr.add_lit]
  have:W1.cell? ⟨vb,voff+j,none⟩=w.cell? ⟨vb,voff+j,none⟩:=by simp only[World.cell?,hO vb hvb]
  rw[this]
  exact hx j v hj
 have Cs:(spl row (i) ss).size=G*1:=by rw[j6 (by omega)];omega
 generalize spl row (i) ss=bS at hcpA Cs ⊢
 have hN1:((W1.setRow w.heap.size bS).drew).heap[w.heap.size]?=some (.cells bS 9 (0,0)):=setRow_heap W1 w.heap.size row bS 9 (0,0) hN
 have hcpB:∀ty dc sc,(Builtin.copy_ #[75,75] ty #[.slice (some ⟨w.heap.size,i+1,none⟩) (n-i) dc,.slice (some ⟨g,i,none⟩) (n-i) sc]).run Tryz.prog ((W1.setRow w.heap.size bS).drew)=.ok (goInt (n-i:Nat)) (((W1.setRow w.heap.size bS).drew).setRow w.heap.size (spl bS (i+1) (mid cur i n 1))):=λty dc sc=>by
  refine fV _ 75 75 ty 9 inf w.heap.size (i+1) (n-i) dc ⟨g,i,none⟩ (n-i) sc (n-i) bS 9 _ Ph hi0 hN1 (by simp) (by rw[hzs];omega) (λj v hj=>?_) (by omega) oc
  rw[Addr.add_lit]
  have e:((W1.setRow w.heap.size bS).drew).heap[g]?=some (.cells cur 9 (0,0)):=by
   have:((W1.setRow w.heap.size bS).drew).heap[g]?=W1.heap[g]?:=setRow_other W1 w.heap.size g bS (by omega)
   rw[this,hO g hgw];exact hg
  simp only[World.cell?,e]
  unfold mid at hj
  rw[List.getElem?_drop,List.getElem?_take]at hj
  split at hj
  ·simpa using hj
  ·cases hj
 generalize spl bS (i+1) (mid cur i n 1)=cur2 at hcpB ⊢
 have hGi:¬ (G=i):=by omega
 have hGim:¬ (G=i+1):=by omega
 have hci:¬ (c=i):=by omega
 have hw1:IntKind.i64.wrap ((i:Int)+1)=(i:Int)+1:=by rw[IntKind.wrap_i64];omega
 have hw2:IntKind.i64.wrap ((n:Int)+1)=(n:Int)+1:=by rw[IntKind.wrap_i64];omega
 have hw3:IntKind.i64.wrap ((n:Int)+1-(i:Int))=(n:Int)+1-(i:Int):=by rw[IntKind.wrap_i64];omega
 have hb1:(0:Int)≤(i:Int)+1:=by omega
 have hin:i≤n:=by omega
 have htn:((i:Int)+1).toNat=i+1:=by omega
 have hb3:(i:Int)≤(n:Int):=by omega
 have hb5:n+1-(i+1)=n-i:=by omega
 clear hkk hik hold hrs hrg hml Cs hW1 hN hN1 hO hsl
 go_enter Tryz.func79,Tryz.ntmps79
 go_wp2_with (first
  | (at_builtin;refine Lib.wpList_append_run _ rfl _ _ _ _ rfl _ _ rfl rfl _ _ (hrz _) ?_)
  | (at_builtin;refine wpList_copy_runI _ rfl _ _ 75 75 rfl _ _ rfl rfl (hcpA _ _) ?_))
 go_region_law_o (refine step_copy_runI rfl _ _ 75 75 rfl _ _ (by simp[Act.eval,Act.put]) (by simp[Act.eval,Act.put]) (hcpB _ _ _) ?_)
 go_wp2
 go_ret
 exact⟨rfl,rfl⟩
theorem adt:ZF Tryz.prog 79 75 75 9 1 16:=⟨⟨_,Tryz.func79,by kernel_rfl,by kernel_rfl⟩,jV,aeo,ads⟩
end Lp
namespace Lp
open Go Go.Proofs Go.Lib Go.RowKit
theorem HV:Tryz.prog.underlying 64=some (.slice 23):=by kernel_rfl
theorem adu:∃inf,Tryz.prog.info? 23=some inf∧inf.zero=some (Value.slice none 0 0)∧inf.size=1∧inf.bytes=24:=⟨_,rfl,rfl,rfl,rfl⟩
theorem abT(g n c i vb voff vc:Nat)(cur Cq:Array Value)(tv:TypeId)(ss:List Value)(w:World)(hi:i<n)(hroom:n+1≤c)(hc63:c≤9223372036854775807)
  (hg:w.heap[g]?=some (.cells cur 23 (0,0))) (hcur:cur.size=c*1) (hgv:w.heap[vb]?=some (.cells Cq tv (0,0))) (hvb:vb≠g) (hsl:ss.length=1)
  (hx:∀j v,ss[j]?=some v→w.cell? ⟨vb,voff+j,none⟩=some v) (os:∀v∈ss,v.oneCell'=true) (oc:∀v∈mid cur i n 1,v.oneCell'=true) :
  Calls Tryz.prog 54 #[.slice (some ⟨g,0,none⟩) n c,.int .i64 i,.slice (some ⟨vb,voff,none⟩) 1 vc] w λe w'=>
   e=.returned (.slice (some ⟨g,0,none⟩) (n+1) c)∧w'=(w.drew.setRow g (spl cur ((i+1)*1) (mid cur i n 1))).setRow g (spl (spl cur ((i+1)*1) (mid cur i n 1)) (i*1) ss):=by
 have mixed:Tryz.prog.follows .mixedOrders=true:=by kernel_rfl
 have hml:(mid cur i n 1).length=(n-i)*1:=by simp[mid,hcur];omega
 have hz2:¬ ((i:Int)=(n:Int)):=by omega
 simp only[Nat.mul_one]at *
 have hov:∀off lb cb,(callFunc 82 #[.slice (some ⟨vb,voff,none⟩) 1 vc,.slice (some ⟨g,off,none⟩) lb cb]).run Tryz.prog w=.ok (.value (.bool false)) w:=λoff lb cb=>by
  rw[run_callFunc_extern Tryz.func82 (by kernel_rfl) (by kernel_rfl) (by kernel_rfl) (e:=Extern.SlicesOverlaps.overlaps #[64,64] #[4]) (by kernel_rfl),
   Lib.run_overlaps_apart w 64 4 23 HV 1 Tryz.sizeOf23 ⟨vb,voff,none⟩ ⟨g,off,none⟩ 1 vc lb cb hvb tv 23 Cq.size cur.size (by simp[World.shape?,hgv]) (by simp[World.shape?,hg]) (by omega) (rH hgv _) (rH hgv _)]
  rfl
 obtain⟨inf,hi0,hz0,hzs,hzb⟩:=adu
 have hg':w.drew.heap[g]?=some (.cells cur 23 (0,0)):=hg
 have hcp1:∀ty dc sc,(Builtin.copy_ #[64,64] ty #[.slice (some ⟨g,i+1,none⟩) (n-i) dc,.slice (some ⟨g,i,none⟩) (n+1-i) sc]).run Tryz.prog w.drew=.ok (goInt (n-i:Nat)) (w.drew.setRow g (spl cur (i+1) (mid cur i n 1))):=λty dc sc=>by
  refine fV w.drew 64 64 ty 23 inf g (i+1) (n-i) dc ⟨g,i,none⟩ (n+1-i) sc (n-i) cur 23 _ HV hi0 hg' (by simp only[Nat.min_def];split<;>omega) (by rw[hzs];omega) (λj v hj=>?_) (by omega) oc
  rw[Addr.add_lit]
  simp only[World.cell?,hg']
  unfold mid at hj
  rw[List.getElem?_drop,List.getElem?_take]at hj
  split at hj
  ·simpa using hj
  ·cases hj
 have Cs:(spl cur (i+1) (mid cur i n 1)).size=c*1:=by rw[j6 (by omega)];omega
 generalize spl cur (i+1) (mid cur i n 1)=bS at hcp1 Cs ⊢
 have hg1:(w.drew.setRow g bS).heap[g]?=some (.cells bS 23 (0,0)):=setRow_heap w.drew g cur bS 23 (0,0) hg'
 have hcp2:∀ty dc,(Builtin.copy_ #[64,64] ty #[.slice (some ⟨g,i,none⟩) (n+1-i) dc,.slice (some ⟨vb,voff,none⟩) 1 vc]).run Tryz.prog (w.drew.setRow g bS)=.ok (goInt (1:Nat)) ((w.drew.setRow g bS).setRow g (spl bS (i) ss)):=λty dc=>by
  refine fV _ 64 64 ty 23 inf g (i) (n+1-i) dc ⟨vb,voff,none⟩ 1 vc 1 bS 23 ss HV hi0 hg1 (by simp only[Nat.min_def];split<;>omega) (by rw[hzs];omega) (λj v hj=>?_) (by omega) os
  rw[Addr.add_lit]
  have e:(w.drew.setRow g bS).heap[vb]?=w.heap[vb]?:=setRow_other w.drew g vb bS hvb
  have:(w.drew.setRow g bS).cell? ⟨vb,voff+j,none⟩=w.cell? ⟨vb,voff+j,none⟩:=by simp only[World.cell?,e]
  rw[this]
  exact hx j v hj
 generalize spl bS (i) ss=cur2 at hcp2 ⊢
 have hw1:IntKind.i64.wrap ((i:Int)+1)=(i:Int)+1:=by rw[IntKind.wrap_i64];omega
 have hb1:(0:Int)≤(i:Int)+1:=by omega
 have hin:i≤n:=by omega
 have htn:((i:Int)+1).toNat=i+1:=by omega
 have hb2:¬ (c=i+1):=by omega
 have hb3:(i:Int)≤(n:Int)+1:=by omega
 have hb4:¬ (c=i):=by omega
 have hb5:n+1-(i+1)=n-i:=by omega
 clear hml Cs hsl
 go_enter Tryz.func54,Tryz.ntmps54
 go_wp2_with (simp only[hov])
 go_region_law_o (refine step_copy_runI rfl _ _ 64 64 rfl _ _ (by simp[Act.eval,Act.put]) (by simp[Act.eval,Act.put]) (hcp1 _ _ _) ?_)
 go_wp2_with (at_builtin;refine wpList_copy_runI _ rfl _ _ 64 64 rfl _ _ rfl rfl (hcp2 _ _) ?_)
 go_ret
 exact⟨rfl,rfl⟩
theorem aep(base:Option Addr)(n c vb voff vc:Nat)(w w':World)(v':Value)(hnil:base=none→n=0∧c=0)(hnc:n≤c)(hc63:c≤9223372036854775807)
  (hrun:∀ty,(Builtin.append_ #[64,64] ty #[.slice base n c,.slice (some ⟨vb,voff,none⟩) 1 vc]).run Tryz.prog w=.ok v' w') :
  Calls Tryz.prog 54 #[.slice base n c,.int .i64 n,.slice (some ⟨vb,voff,none⟩) 1 vc] w λe w1=>e=.returned v'∧w1=w':=by
 have mixed:Tryz.prog.follows .mixedOrders=true:=by kernel_rfl
 cases base with
 | none=>
  obtain⟨rfl,rfl⟩:=hnil rfl
  go_enter Tryz.func54,Tryz.ntmps54
  go_wp2_with (at_builtin;refine Lib.wpList_append_run _ rfl _ _ _ _ rfl _ _ rfl rfl _ _ (hrun _) ?_)
  go_ret
  exact⟨rfl,rfl⟩
 | some a=>
  obtain⟨ab,ao,asp⟩:=a
  clear hnil
  go_enter Tryz.func54,Tryz.ntmps54
  go_wp2_with (at_builtin;refine Lib.wpList_append_run _ rfl _ _ _ _ rfl _ _ rfl rfl _ _ (hrun _) ?_)
  all_goals (go_ret;exact⟨rfl,rfl⟩)
theorem adv(g n c i vb voff vc:Nat)(cur:Array Value)(ss:List Value)(w:World)(hi:i<n)(hnc:n≤c)(hroom:c<n+1)(hbig:(n+1)*24≤140737488355328)
  (hg:w.heap[g]?=some (.cells cur 23 (0,0))) (hcur:cur.size=c*1) (hvb:vb<w.heap.size) (hsl:ss.length=1)
  (hx:∀j v,ss[j]?=some v→w.cell? ⟨vb,voff+j,none⟩=some v) (os:∀v∈ss,v.oneCell'=true) (oc:∀v∈mid cur i n 1,v.oneCell'=true) :
  ∃row:Array Value,row.size=grownCap w (n+1) c 23*1∧(∀q,q<i*1→row[q]?=cur[q]?)∧
   Calls Tryz.prog 54 #[.slice (some ⟨g,0,none⟩) n c,.int .i64 i,.slice (some ⟨vb,voff,none⟩) 1 vc] w λe w'=>
    e=.returned (.slice (some ⟨w.heap.size,0,none⟩) (n+1) (grownCap w (n+1) c 23))∧
    w'=((((w.drew.alloc (.cells row 23)).setRow w.heap.size (spl row (i*1) ss)).drew).setRow w.heap.size (spl (spl row (i*1) ss) ((i+1)*1) (mid cur i n 1))):=by
 have mixed:Tryz.prog.follows .mixedOrders=true:=by kernel_rfl
 obtain⟨inf,hi0,hz0,hzs,hzb⟩:=adu
 have hgw:g<w.heap.size:=(Array.getElem?_eq_some_iff.1 hg).1
 have hz2:¬ ((i:Int)=(n:Int)):=by omega
 have hz3:(c:Int)<(n:Int)+1:=by omega
 have hik:i+(n+1-i)=n+1:=by omega
 have hkk:(n:Int)+1-(i:Int)=((n+1-i:Nat):Int):=by omega
 have hold:(Builtin.firstCells inf.size i (.slice (some ⟨g,0,none⟩) i c)).run Tryz.prog w.drew=.ok (cur.toList.take (i*1)).toArray w.drew:=by
  rw[hzs]
  refine run_firstCells_some w.drew 1 i ⟨g,0,none⟩ i c (cur.toList.take (i*1)) (by rw[List.length_take,Array.length_toList,hcur];omega) (λj v hj=>?_)
  rw[List.getElem?_take]at hj
  split at hj
  ·rw[add_lit]
   have:(w.drew.heap)[g]?=some (.cells cur 23 (0,0)):=hg
   simp only[World.cell?,this]
   simpa using hj
  ·cases hj
 have hGn:n+1≤grownCap w (n+1) c 23:=grownCap_ge w _ _ _
 have hG63:grownCap w (n+1) c 23≤9223372036854775807:=by
  have:=grownCap_le_maxLen w (n+1) c 23 (by unfold maxLen;omega)
  unfold maxLen at this
  omega
 have hrz:∀ty,(Builtin.append_ #[64,3] ty #[.slice (some ⟨g,0,none⟩) i c,.int .i64 ((n:Int)+1-(i:Int))]).run Tryz.prog w=
     .ok (.slice (some ⟨w.heap.size,0,none⟩) (n+1) (grownCap w (n+1) c 23)) (w.drew.alloc (.cells ((cur.toList.take (i*1)).toArray++Builtin.zeroCells (Value.slice none 0 0).cells (n+1-i)++Builtin.zeroCells (Value.slice none 0 0).cells (grownCap w (n+1) c 23-(n+1))) 23)):=λty=>by
  have h:=Lib.run_append_grow_zeros (P:=Tryz.prog) w 64 3 ty 23 inf _ .i64 .i64 HV (by kernel_rfl) hi0 hz0 (some ⟨g,0,none⟩) i c (cur.toList.take (i*1)) hold (n+1-i) (by omega) (by omega) (by omega) (by omega) (by rw[hzb];omega) (by rw[hzb,hik];exact growslice_fits hroom hbig)
  rw[hik]at h
  rw[hkk]
  exact h
 generalize grownCap w (n+1) c 23=G at *
 have hrg:∀q,q<i*1→((cur.toList.take (i*1)).toArray++Builtin.zeroCells (Value.slice none 0 0).cells (n+1-i)++Builtin.zeroCells (Value.slice none 0 0).cells (G-(n+1)))[q]?=cur[q]?:=λq hq=>by
  rw[Array.getElem?_append_left (by simp[Builtin.zeroCells,Value.cells,hcur];omega),Array.getElem?_append_left (by simp[hcur];omega)]
  rw[List.getElem?_toArray,List.getElem?_take,if_pos hq];simp
 have hrs:((cur.toList.take (i*1)).toArray++Builtin.zeroCells (Value.slice none 0 0).cells (n+1-i)++Builtin.zeroCells (Value.slice none 0 0).cells (G-(n+1))).size=G*1:=by
  simp[Builtin.zeroCells,Value.cells,hcur]
  omega
 generalize (cur.toList.take (i*1)).toArray++Builtin.zeroCells (Value.slice none 0 0).cells (n+1-i)++Builtin.zeroCells (Value.slice none 0 0).cells (G-(n+1))=row at hrz hrg hrs
 refine⟨row,hrs,hrg,?_⟩
 have hml:(mid cur i n 1).length=(n-i)*1:=by simp[mid,hcur];omega
 obtain⟨W1,hW1⟩:∃W1,W1=w.drew.alloc (.cells row 23):=⟨_,rfl⟩
 have hN:W1.heap[w.heap.size]?=some (.cells row 23 (0,0)):=by rw[hW1];exact heap_alloc_new w.drew _
 have hO:∀b,b<w.heap.size→W1.heap[b]?=w.heap[b]?:=λb hb=>by
  rw[hW1]
  show (w.drew.heap.push _)[b]?=_
  rw[Array.getElem?_push,if_neg (show ¬ b=w.drew.heap.size from by show ¬ b=w.heap.size;omega)]
  rfl
 rw[←hW1]at hrz ⊢
 simp only[Nat.mul_one]at *
 have hcpA:∀ty dc,(Builtin.copy_ #[64,64] ty #[.slice (some ⟨w.heap.size,i,none⟩) (n+1-i) dc,.slice (some ⟨vb,voff,none⟩) 1 vc]).run Tryz.prog W1=.ok (goInt (1:Nat)) (W1.setRow w.heap.size (spl row (i) ss)):=λty dc=>by
  refine fV _ 64 64 ty 23 inf w.heap.size (i) (n+1-i) dc ⟨vb,voff,none⟩ 1 vc 1 row 23 ss HV hi0 hN (by simp only[Nat.min_def];split<;>omega) (by rw[hzs];omega) (λj v hj=>?_) (by omega) os
  rw[Addr.add_lit]
  have:W1.cell? ⟨vb,voff+j,none⟩=w.cell? ⟨vb,voff+j,none⟩:=by simp only[World.cell?,hO vb hvb]
  rw[this]
  exact hx j v hj
 have Cs:(spl row (i) ss).size=G*1:=by rw[j6 (by omega)];omega
 generalize spl row (i) ss=bS at hcpA Cs ⊢
 have hN1:((W1.setRow w.heap.size bS).drew).heap[w.heap.size]?=some (.cells bS 23 (0,0)):=setRow_heap W1 w.heap.size row bS 23 (0,0) hN
 have hcpB:∀ty dc sc,(Builtin.copy_ #[64,64] ty #[.slice (some ⟨w.heap.size,i+1,none⟩) (n-i) dc,.slice (some ⟨g,i,none⟩) (n-i) sc]).run Tryz.prog ((W1.setRow w.heap.size bS).drew)=.ok (goInt (n-i:Nat)) (((W1.setRow w.heap.size bS).drew).setRow w.heap.size (spl bS (i+1) (mid cur i n 1))):=λty dc sc=>by
  refine fV _ 64 64 ty 23 inf w.heap.size (i+1) (n-i) dc ⟨g,i,none⟩ (n-i) sc (n-i) bS 23 _ HV hi0 hN1 (by simp) (by rw[hzs];omega) (λj v hj=>?_) (by omega) oc
  rw[Addr.add_lit]
  have e:((W1.setRow w.heap.size bS).drew).heap[g]?=some (.cells cur 23 (0,0)):=by
   have:((W1.setRow w.heap.size bS).drew).heap[g]?=W1.heap[g]?:=setRow_other W1 w.heap.size g bS (by omega)
   rw[this,hO g hgw];exact hg
  simp only[World.cell?,e]
  unfold mid at hj
  rw[List.getElem?_drop,List.getElem?_take]at hj
  split at hj
  ·simpa using hj
  ·cases hj
 generalize spl bS (i+1) (mid cur i n 1)=cur2 at hcpB ⊢
 have hGi:¬ (G=i):=by omega
 have hGim:¬ (G=i+1):=by omega
 have hci:¬ (c=i):=by omega
 have hw1:IntKind.i64.wrap ((i:Int)+1)=(i:Int)+1:=by rw[IntKind.wrap_i64];omega
 have hw2:IntKind.i64.wrap ((n:Int)+1)=(n:Int)+1:=by rw[IntKind.wrap_i64];omega
 have hw3:IntKind.i64.wrap ((n:Int)+1-(i:Int))=(n:Int)+1-(i:Int):=by rw[IntKind.wrap_i64];omega
 have hb1:(0:Int)≤(i:Int)+1:=by omega
 have hin:i≤n:=by omega
 have htn:((i:Int)+1).toNat=i+1:=by omega
 have hb3:(i:Int)≤(n:Int):=by omega
 have hb5:n+1-(i+1)=n-i:=by omega
 clear hkk hik hold hrs hrg hml Cs hW1 hN hN1 hO hsl
 go_enter Tryz.func54,Tryz.ntmps54
 go_wp2_with (first
  | (at_builtin;refine Lib.wpList_append_run _ rfl _ _ _ _ rfl _ _ rfl rfl _ _ (hrz _) ?_)
  | (at_builtin;refine wpList_copy_runI _ rfl _ _ 64 64 rfl _ _ rfl rfl (hcpA _ _) ?_))
 go_region_law_o (refine step_copy_runI rfl _ _ 64 64 rfl _ _ (by simp[Act.eval,Act.put]) (by simp[Act.eval,Act.put]) (hcpB _ _ _) ?_)
 go_wp2
 go_ret
 exact⟨rfl,rfl⟩
theorem adw:ZF Tryz.prog 54 64 64 23 1 24:=⟨⟨_,Tryz.func54,by kernel_rfl,by kernel_rfl⟩,abT,aep,adv⟩
end Lp
namespace Lp
open Go Go.Proofs
open List (length_map map_append mem_cons mem_singleton not_mem_nil)
theorem av.adx {f:FuncId}{args:List PV}{ty:TypeId}{sz s:Nat}(h:av Tryz.prog f args [] (.sl s [] (some true)) [])(hty:ty≠MT):av Tryz.prog f args [] (.aZ 0 0) [⟨ty,sz,[],true,0⟩]:=by
 refine⟨h.1,λw blk vs base hb R ha=>(h.2 w blk vs base hb R ha).mono ?_⟩
 rintro e w' ⟨v,au,h1,h2,h3,h4⟩
 have hv:v=.slice none 0 0:=by
  have:=qy h3
  cases this with
  | slnil _ _ _=>rfl
  | FZ _ _ hq=>exact absurd rfl hq
  | sl _ _ _ hq=>exact absurd rfl hq
 subst hv
 refine⟨_,λ_=>none,h1,⟨λk o ho _=>?_,λk k' o o' g _ _ _ _ _ hx=>(by cases hx),λk o g _ _ hx=>(by cases hx)⟩,⟨rfl,_,rfl,Nat.le_refl _,λ_ _=>⟨hty,rfl,rfl⟩⟩,h4⟩
 match k,ho with
 | 0,ho=>cases ho;rfl
 | _+1,ho=>simp at ho
def ady(done:List Vl)(O:List Obj):Prop:=(done=[]∧O=[⟨64,1,[.sl 0 [] (some true)],true,1⟩])∨(done≠[]∧∃ver,O=[⟨64,1,[.aZ 1 ver],true,1⟩,⟨23,1,done.map aj,true,ver⟩])
def adz(done:List (List UInt8))(O:List Obj):Prop:=(done=[]∧O=[⟨75,1,[.sl 0 [] (some true)],true,1⟩])∨(done≠[]∧∃ver,O=[⟨75,1,[.aZ 1 ver],true,1⟩,⟨9,1,done.map .str,true,ver⟩])
theorem ZG{done:List Vl}{O:List Obj}(h:ady done O):1≤O.length∧bJ O:=by
 rcases h with ⟨_,rfl⟩ | ⟨_,ver,rfl⟩
 ·refine⟨by simp,λo ho x hx c hc=>?_⟩
  simp only[mem_singleton]at ho;subst ho
  simp only[mem_singleton]at hx;subst hx
  simp only[PV.cells,mem_singleton]at hc;subst hc;rfl
 ·refine⟨by simp,λo ho x hx c hc=>?_⟩
  simp only[mem_cons,not_mem_nil,or_false]at ho
  rcases ho with rfl | rfl
  ·simp only[mem_singleton]at hx;subst hx
   simp only[PV.cells,mem_singleton]at hc;subst hc;rfl
  ·obtain⟨y,_,rfl⟩:=List.mem_map.1 hx
   simp only[aj,PV.cells,mem_singleton]at hc;subst hc;rfl
theorem ZH{done:List (List UInt8)}{O:List Obj}(h:adz done O):1≤O.length∧bJ O:=by
 rcases h with ⟨_,rfl⟩ | ⟨_,ver,rfl⟩
 ·refine⟨by simp,λo ho x hx c hc=>?_⟩
  simp only[mem_singleton]at ho;subst ho
  simp only[mem_singleton]at hx;subst hx
  simp only[PV.cells,mem_singleton]at hc;subst hc;rfl
 ·refine⟨by simp,λo ho x hx c hc=>?_⟩
  simp only[mem_cons,not_mem_nil,or_false]at ho
  rcases ho with rfl | rfl
  ·simp only[mem_singleton]at hx;subst hx
   simp only[PV.cells,mem_singleton]at hc;subst hc;rfl
  ·obtain⟨y,_,rfl⟩:=List.mem_map.1 hx
   simp only[PV.cells,mem_singleton]at hc;subst hc;rfl
theorem zU{α β:Type}{f:α→β}{l:List α}{i:Nat}{x:α}(h:l[i]?=some x):(l.take (i+1)).map f=(l.take i).map f++[f x]:=by
 rw[List.take_add_one,h];simp
theorem RV(v:Vl)(hr:Rt v)(hl:v.length≤1000000):av Tryz.prog 52 [aj v] [] (.aZ 0 0) [xw (ax v) 0]:=by
 obtain⟨ps,hP,abO,hpl,hnm,hgv⟩:=uV v hr hl
 by_cases h0:ps=[]
 ·obtain⟨n,r,hv,_⟩:=bO hr.name hr.one.ne
  subst hv
  obtain⟨h1,h2,ps',h3,_,_,_,_⟩:=hr.parts
  have hp':ps'=[]:=by
   have e:ax (n::r)=ps'.map gV:=by simp only[ax,(dD h3).1]
   rw[hP,h0]at e
   exact List.map_eq_nil_iff.1 e.symm
  have h:=Ew (n::r) n r ps' rfl (by omega) h2 h3
  rw[if_pos hp']at h
  rw[hP,h0]
  exact h.adx (by decide)
 refine Ev.G5 (T:=bg Tryz.prog [(80,kY)]) 2 hD (ay (af rF ak)) bC λQ hQ=>?_
 (conv=>arg 4;cbv);simp (maxSteps:=400000) only[↓aF,aG,BEq.rfl,seval,hQ,↓kY]
 refine Ah 107 [.addr (aj v)] (ps.map rowOf) (λi O=>ady ((ps.take i).map gV) O∧i≤ps.length) rfl rfl rfl trivial hgv (yN ps) ⟨.inl ⟨by simp,rfl⟩,Nat.zero_le _⟩ (λi O h=>ZG h.1) ?_ ?_
 ·rintro i args O ⟨hO,hi⟩ ha
  obtain⟨p,hpi,rfl⟩:=yO ha
  have hil:=(List.getElem?_eq_some_iff.1 hpi).1
  have htk:=zU (f:=gV) hpi
  have hkl:((ps.take i).map gV).length≤i:=by simp;omega
  generalize (ps.take i).map gV=kept at *
  rcases hO with ⟨rfl,rfl⟩ | ⟨h1,ver,rfl⟩
  ·simp (maxSteps:=400000) only[↓aF,aG,BEq.rfl,seval,hQ,jQ,V6]
   exact⟨.inr ⟨by rw[htk];simp,1,by rw[htk];rfl⟩,by omega⟩
  ·simp (maxSteps:=400000) only[↓aF,aG,BEq.rfl,seval,hQ,jQ,V6]
   exact⟨by omega,by omega,.inr ⟨by rw[htk];simp,ver+1,by rw[htk,map_append];rfl⟩,by omega⟩
 ·rintro O ⟨hO,_⟩
  rw[length_map,List.take_length]at hO
  rcases hO with ⟨h1,rfl⟩ | ⟨h1,ver,rfl⟩
  ·exact absurd (List.map_eq_nil_iff.1 h1) h0
  ·simp (maxSteps:=400000) only[↓aF,aG,BEq.rfl,seval,hQ]
   rw[hP]
   exact OG (k:=1) (ver:=ver) rfl rfl rfl rfl (congrArg (λo:Obj=>{ o with ver:=0 }) (KD 2 2 _ 23 1 _ ver)) (tq _ 0)
theorem RX(v:Vl)(hr:Rt v)(hk:aO v=6)(hl:v.length≤1000000):av Tryz.prog 76 [aj v] [] (.aZ 0 0) [G7 (aK v) 0]:=by
 obtain⟨ps,hP,abO,hpl,hnm,hgv⟩:=uV v hr hl
 obtain⟨n,r,hv,_⟩:=bO hr.name hr.one.ne
 have IL:n.kind=6:=by rw[hv]at hk;exact hk
 have hN:aK v=ps.map nameOf:=by
  rcases hnm with h | ⟨n',r',h1,h2⟩
  ·exact h
  ·rw[hv]at h1;cases h1;exact absurd IL h2
 by_cases h0:ps=[]
 ·subst hv
  obtain⟨h1,h2,ps',h3,_,_,_,_⟩:=hr.parts
  have hp':ps'=[]:=by
   have e:ax (n::r)=ps'.map gV:=by simp only[ax,(dD h3).1]
   rw[hP,h0]at e
   exact List.map_eq_nil_iff.1 e.symm
  have h:=Ey (n::r) n r ps' rfl (by omega) h2 h3
  rw[if_neg (λh=>h.2 hp')]at h
  rw[hN,h0]
  exact h.adx (by decide)
 have hg0:v[0]?=some n:=by rw[hv];rfl
 have k6:(n.kind=6)=True:=eq_true IL
 refine Eu.G5 (T:=bg Tryz.prog [(80,kY)]) 2 hD (ay (af rF ak)) bC λQ hQ=>?_
 (conv=>arg 4;cbv);simp (maxSteps:=400000) only[↓aF,aG,BEq.rfl,seval,hQ,hg0,k6,↓kY]
 refine Ah 107 [.addr (aj v)] (ps.map rowOf) (λi O=>adz ((ps.take i).map nameOf) O∧i≤ps.length) rfl rfl rfl trivial hgv (yN ps) ⟨.inl ⟨by simp,rfl⟩,Nat.zero_le _⟩ (λi O h=>ZH h.1) ?_ ?_
 ·rintro i args O ⟨hO,hi⟩ ha
  obtain⟨p,hpi,rfl⟩:=yO ha
  have hil:=(List.getElem?_eq_some_iff.1 hpi).1
  have htk:=zU (f:=nameOf) hpi
  have hkl:((ps.take i).map nameOf).length≤i:=by simp;omega
  generalize (ps.take i).map nameOf=kept at *
  rcases hO with ⟨rfl,rfl⟩ | ⟨h1,ver,rfl⟩
  ·simp (maxSteps:=400000) only[↓aF,aG,BEq.rfl,seval,hQ,jQ,V6]
   exact⟨.inr ⟨by rw[htk];simp,1,by rw[htk];rfl⟩,by omega⟩
  ·simp (maxSteps:=400000) only[↓aF,aG,BEq.rfl,seval,hQ,jQ,V6]
   exact⟨by omega,by omega,.inr ⟨by rw[htk];simp,ver+1,by rw[htk,map_append];rfl⟩,by omega⟩
 ·rintro O ⟨hO,_⟩
  rw[length_map,List.take_length]at hO
  rcases hO with ⟨h1,rfl⟩ | ⟨h1,ver,rfl⟩
  ·exact absurd (List.map_eq_nil_iff.1 h1) h0
  ·simp (maxSteps:=400000) only[↓aF,aG,BEq.rfl,seval,hQ]
   rw[hN]
   exact OG (k:=1) (ver:=ver) rfl rfl rfl rfl (congrArg (λo:Obj=>{ o with ver:=0 }) (DF 2 2 _ 9 1 _ ver)) (p8 _ 0)
def yS:eX:=λargs objs K=>match args with
 | [a]=>gy aj a (HK.mk:HK λv=>Rt v∧aO v=6∧v.length≤1000000∧K (.aZ objs.length 0) (objs++[G7 (aK v) 0]) 2)
 | _=>False
theorem ME:aQ Tryz.prog 76 yS:=by
 intro args objs K h
 unfold yS at h
 split at h
 ·obtain⟨v,rfl,h1,h2,h3,h4⟩:=h
  exact⟨_,_,_,.made (.aZ 0 0) _ rfl (p8 _ 0) (RX v h1 h2 h3),by simpa[PV.shift,PV.jV] using h4⟩
 ·exact h.elim
def iP:eX:=λargs objs K=>match args with
 | [a]=>gy aj a (HK.mk:HK λv=>Rt v∧v.length≤1000000∧K (.aZ objs.length 0) (objs++[xw (ax v) 0]) 2)
 | _=>False
theorem vk:aQ Tryz.prog 52 iP:=by
 intro args objs K h
 unfold iP at h
 split at h
 ·obtain⟨v,rfl,h1,h3,h4⟩:=h
  exact⟨_,_,_,.made (.aZ 0 0) _ rfl (tq _ 0) (RV v h1 h3),by simpa[PV.shift,PV.jV] using h4⟩
 ·exact h.elim
def adA(nm:List UInt8)(kept:mG)(O:List Obj):Prop:=(kept=[]∧O=[⟨9,1,[.str nm],true,1⟩,⟨75,1,[.sl 0 [] (some true)],true,1⟩,⟨64,1,[.sl 0 [] (some true)],true,1⟩])∨
 (kept≠[]∧∃v1 v2,O=[⟨9,1,[.str nm],true,1⟩,⟨75,1,[.aZ 3 v1],true,1⟩,⟨64,1,[.aZ 4 v2],true,1⟩,⟨9,1,(kept.map (·.1)).map .str,true,v1⟩,⟨23,1,(kept.map (·.2)).map aj,true,v2⟩])
theorem ZI{nm:List UInt8}{kept:mG}{O:List Obj}(h:adA nm kept O):3≤O.length∧bJ O:=by
 rcases h with ⟨_,rfl⟩ | ⟨_,v1,v2,rfl⟩
 ·refine⟨by simp,λo ho x hx c hc=>?_⟩
  simp only[mem_cons,not_mem_nil,or_false]at ho
  rcases ho with rfl | rfl | rfl
  all_goals
   simp only[mem_singleton]at hx;subst hx
   simp only[PV.cells,mem_singleton]at hc;subst hc;rfl
 ·refine⟨by simp,λo ho x hx c hc=>?_⟩
  simp only[mem_cons,not_mem_nil,or_false]at ho
  rcases ho with rfl | rfl | rfl | rfl | rfl
  ·simp only[mem_singleton]at hx;subst hx
   simp only[PV.cells,mem_singleton]at hc;subst hc;rfl
  ·simp only[mem_singleton]at hx;subst hx
   simp only[PV.cells,mem_singleton]at hc;subst hc;rfl
  ·simp only[mem_singleton]at hx;subst hx
   simp only[PV.cells,mem_singleton]at hc;subst hc;rfl
  ·obtain⟨y,_,rfl⟩:=List.mem_map.1 hx
   simp only[PV.cells,mem_singleton]at hc;subst hc;rfl
  ·obtain⟨y,_,rfl⟩:=List.mem_map.1 hx
   simp only[aj,PV.cells,mem_singleton]at hc;subst hc;rfl
theorem tJ{objs:List Obj}{k:Nat}{v:Vl}(h:objs[k]?=some (xD v 0)):gq 1 0 objs (.aZ k 0)=aj v:=by
 simp only[gq,Nat.not_lt_zero,if_false,lF,h,Nat.zero_le,decide_true,Bool.true_and,beq_self_eq_true,if_true,xD]
 rw[Hf aM λ_=>rfl];rfl
theorem MF(v:Vl)(nm:List UInt8)(hr:Rt v)(hk:aO v=6)(hl:v.length≤1000000):av Tryz.prog 57 [aj v,.str nm] [] (aj (cO v nm)) []:=by
 obtain⟨ps,hP,abO,hpl,hnm,hgv⟩:=uV v hr hl
 obtain⟨n,r,hv,_⟩:=bO hr.name hr.one.ne
 obtain⟨p1,p2,p3,p4⟩:=bK hr
 have IL:n.kind=6:=by rw[hv]at hk;exact hk
 have hN:aK v=ps.map nameOf:=by
  rcases hnm with h | ⟨n',r',h1,h2⟩
  ·exact h
  ·rw[hv]at h1;cases h1;exact absurd IL h2
 have Mq:jC v=ps.map λp=>(nameOf p,gV p):=by rw[jC,hN,hP,Bl]
 obtain⟨hq,_,_,hP2⟩:=dz hr hk
 obtain⟨q,hqe⟩:∃q,q=jC v:=⟨_,rfl⟩
 rw[←hqe]at Mq hq hP2
 rw[hP2]at p3
 have IG:q.length=ps.length:=by rw[Mq,length_map]
 have ZB:FU ((ig q nm).map (·.1)) ((ig q nm).map (·.2))=cO v nm:=by rw[Bj,cO,hqe]
 refine Ja.bY (T:=bg Tryz.prog [(80,kY),(78,qE)]) 1 hD (ay (af rF (af EH ak))) bC (by decide) λQ hQ=>?_
 (conv=>arg 4;cbv);simp (maxSteps:=400000) only[↓aF,aG,BEq.rfl,seval,hQ,↓kY]
 refine Ah 107 [.addr (aj v)] (ps.map rowOf) (λi O=>adA nm (ig (q.take i) nm) O∧i≤ps.length) rfl rfl rfl trivial hgv (yN ps) ⟨.inl ⟨by simp[ig],rfl⟩,Nat.zero_le _⟩ (λi O h=>ZI h.1) ?_ ?_
 ·rintro i args O ⟨hO,hi⟩ ha
  obtain⟨p,hpi,rfl⟩:=yO ha
  have hil:=(List.getElem?_eq_some_iff.1 hpi).1
  have hqi:q[i]?=some (nameOf p,gV p):=by rw[Mq,List.getElem?_map,hpi];rfl
  have hdt:=KJ hqi nm
  have hkl:(ig (q.take i) nm).length≤i:=by have:=(xK (q.take i) nm).1;rw[List.length_take]at this;omega
  generalize ig (q.take i) nm=kept at *
  rcases tf (nameOf p=nm) with he | he
  ·rw[if_pos (of_eq_true he),List.append_nil]at hdt
   rcases hO with ⟨rfl,rfl⟩ | ⟨h1,v1,v2,rfl⟩
   ·simp (maxSteps:=400000) only[↓aF,aG,BEq.rfl,seval,hQ,jQ,V6,he]
    exact⟨.inl ⟨hdt,rfl⟩,by omega⟩
   ·simp (maxSteps:=400000) only[↓aF,aG,BEq.rfl,seval,hQ,jQ,V6,he]
    exact⟨.inr ⟨by rw[hdt];exact h1,v1,v2,by rw[hdt];rfl⟩,by omega⟩
  ·rw[if_neg (of_eq_false he)]at hdt
   rcases hO with ⟨rfl,rfl⟩ | ⟨h1,v1,v2,rfl⟩
   ·simp (maxSteps:=400000) only[↓aF,aG,BEq.rfl,seval,hQ,jQ,V6,he]
    exact⟨by decide,.inr ⟨by rw[hdt];simp,1,1,by rw[hdt];rfl⟩,by omega⟩
   ·simp (maxSteps:=400000) only[↓aF,aG,BEq.rfl,seval,hQ,jQ,V6,he]
    exact⟨by omega,by omega,by omega,by omega,by decide,.inr ⟨by rw[hdt];simp,v1+1,v2+1,by rw[hdt];simp only[map_append,List.map_cons,List.map_nil];rfl⟩,by omega⟩
 ·rintro O ⟨hO,_⟩
  rw[length_map,List.take_of_length_le (by omega)]at hO
  have hd:=xK q nm
  have hne:∀p∈(ig q nm).map (·.2),p≠[]:=λp hp=>by
   obtain⟨x,hx,rfl⟩:=List.mem_map.1 hp
   exact (hq.rt x (mH.1 hx).1).one.ne
  rcases hO with ⟨h1,rfl⟩ | ⟨h1,v1,v2,rfl⟩
  ·simp (maxSteps:=400000) only[↓aF,aG,BEq.rfl,seval,hQ,↓qE,Jj,E5]
   exact⟨by simp,by simp,by rw[←ZB,h1];exact (tJ rfl).symm⟩
  ·simp (maxSteps:=400000) only[↓aF,aG,BEq.rfl,seval,hQ,↓qE,Jj,E5]
   exact⟨by omega,by omega,hne,by rw[ZB];exact (tJ rfl).symm⟩
def nY:eX:=λargs objs K=>match args with
 | [a0,.str nm]=>gy aj a0 (HK.mk:HK λv=>(Rt v)∧(aO v=6)∧(v.length≤1000000)∧K (aj (cO v nm)) objs 0)
 | _=>False
theorem zV:aQ Tryz.prog 57 (nY):=by
 intro args objs K h
 unfold nY at h
 split at h
 ·rename_i a0 nm
  obtain⟨v,rfl,h1,h2,h3,hk⟩:=h
  exact⟨_,_,_,.pure _ rfl (MF v nm h1 h2 h3),hk⟩
 ·exact h.elim
def FC:eX:=λargs objs K=>match args with
 | [.aZ k ver,.int .i64 i,.aZ k2 Hz]=>∃o,objs[k]?=some o∧o.live=true∧o.ver=ver∧o.sz=1∧o.ty=9∧Qn .str o.xs (HK.mk:HK λl=>∃o2,objs[k2]?=some o2∧o2.live=true∧o2.ver=Hz∧o2.sz=1∧¬ k2=k∧Qn .str o2.xs (HK.mk:HK λfs=>∃f,fs=[f]∧
     0≤i∧i.toNat≤l.length∧l.length≤1000000∧K (.aZ k (ver+1)) (objs.set k ⟨9,1,(l.take i.toNat++[f]++l.drop i.toNat).map .str,true,ver+1⟩) 2))
 | _=>False
def yT:eX:=λargs objs K=>match args with
 | [.aZ k ver,.int .i64 i,.aZ k2 Hz]=>∃o,objs[k]?=some o∧o.live=true∧o.ver=ver∧o.sz=1∧o.ty=23∧Qn aj o.xs (HK.mk:HK λl=>∃o2,objs[k2]?=some o2∧o2.live=true∧o2.ver=Hz∧o2.sz=1∧¬ k2=k∧Qn aj o2.xs (HK.mk:HK λfs=>∃f,fs=[f]∧
     0≤i∧i.toNat≤l.length∧l.length≤1000000∧K (.aZ k (ver+1)) (objs.set k ⟨23,1,(l.take i.toNat++[f]++l.drop i.toNat).map aj,true,ver+1⟩) 2))
 | _=>False
theorem RY:aQ Tryz.prog 79 FC:=by
 intro args objs K h
 unfold FC at h
 split at h
 ·rename_i k ver i k2 Hz
  obtain⟨o,h1,h2,h3,h4,h5,l,h6,o2,g1,g2,g3,g4,hkk,fs,g5,f,rfl,h7,h8,h9,h10⟩:=h
  obtain⟨n,rfl⟩:∃n:Nat,i=n:=⟨i.toNat,by omega⟩
  rw[Int.toNat_natCast]at h8 h10
  obtain⟨ty,sz,xs,live,vr⟩:=o
  simp only[]at h2 h3 h4 h5 h6
  subst h2;subst h3;subst h4;subst h5;subst h6
  have hu:=Pg (x:=.str f) (i:=n) (ti:=D 9) (by':=16) adt Ph Ph (hD _) (by intro h;cases h) rfl rfl rfl rfl h1 rfl rfl g1 g2 g3 g4 g5 hkk (λy hy=>by obtain⟨s,_,rfl⟩:=List.mem_map.1 hy;exact⟨rfl,rfl⟩) ⟨rfl,rfl⟩ (by simpa using h8) (by rw[length_map];omega) (by rw[length_map];omega)
  refine⟨_,_,_,.used _ _ hu,?_⟩
  have e:(l.map PV.str).take n++[.str f]++(l.map PV.str).drop n=(l.take n++[f]++l.drop n).map .str:=by simp
  rw[e]
  exact h10
 ·exact h.elim
theorem HY:aQ Tryz.prog 54 yT:=by
 intro args objs K h
 unfold yT at h
 split at h
 ·rename_i k ver i k2 Hz
  obtain⟨o,h1,h2,h3,h4,h5,l,h6,o2,g1,g2,g3,g4,hkk,fs,g5,f,rfl,h7,h8,h9,h10⟩:=h
  obtain⟨n,rfl⟩:∃n:Nat,i=n:=⟨i.toNat,by omega⟩
  rw[Int.toNat_natCast]at h8 h10
  obtain⟨ty,sz,xs,live,vr⟩:=o
  simp only[]at h2 h3 h4 h5 h6
  subst h2;subst h3;subst h4;subst h5;subst h6
  have hu:=Pg (x:=aj f) (i:=n) (ti:=D 23) (by':=24) adw HV HV (hD _) (by intro h;cases h) rfl rfl rfl rfl h1 rfl rfl g1 g2 g3 g4 g5 hkk (λy hy=>by obtain⟨s,_,rfl⟩:=List.mem_map.1 hy;exact⟨rfl,rfl⟩) ⟨rfl,rfl⟩ (by simpa using h8) (by rw[length_map];omega) (by rw[length_map];omega)
  refine⟨_,_,_,.used _ _ hu,?_⟩
  have e:(l.map aj).take n++[aj f]++(l.map aj).drop n=(l.take n++[f]++l.drop n).map aj:=by simp
  rw[e]
  exact h10
 ·exact h.elim
theorem abU:(∀(K:List (List UInt8)→Prop) a,Qn .str [.str a] (HK.mk:HK K)=K [a])∧(∀(K:List Vl→Prop) a,Qn aj [aj a] (HK.mk:HK K)=K [a]):=⟨λK a=>Ml str_inj K [a],λK a=>Ml mV K [a]⟩
theorem Vs(v:Vl)(nm:List UInt8)(x:Vl)(hr:Rt v)(hk:aO v=6)(hl:v.length≤100000)(hu:utf nm=true)(hx:Rt x)(hxl:x.length≤100000):av Tryz.prog 51 [aj v,.str nm,aj x] [] (aj (gL v nm x)) []:=by
 refine Rf.bY (T:=bg Tryz.prog [(57,nY),(76,yS),(52,iP),(77,vg),(79,FC),(54,yT),(78,qE)]) 1 hD (ay (af zV (af ME (af vk (af Jv (af RY (af HY (af EH ak)))))))) bC (by decide) λQ hQ=>?_
 obtain⟨h1,h2,h3,h4⟩:=nW nm hr hk
 obtain⟨hq,hmk,hN,hP⟩:=dz h1 h2
 obtain⟨p1,p2,p3,p4⟩:=bK h1
 rw[h4]at hq hN hP
 have hput:=K6 hq (pF _ nm) hu hx
 rw[hN]at p2;rw[hP]at p1 p3
 have hlb:=TJ ((ig (jC v) nm).map (·.1)) nm
 rw[length_map]at p1 p2 hlb
 have hsp:=Hy nm x (ig (jC v) nm)
 have hw:gL v nm x=JN (nM nm x (ig (jC v) nm)):=rfl
 have hris:=hq.rise
 generalize ig (jC v) nm=q at *
 generalize hlo:v_ (q.map (·.1)) nm=k at *
 (conv=>arg 4;cbv);simp (maxSteps:=400000) only[↓aF,aG,BEq.rfl,seval,hQ,↓nY,↓yS,↓iP,hN,hP,G7,xw,↓vg,Jj,E5,hlo,↓FC,↓yT,↓qE,bT,abU]
 have e1:(q.map (·.1)).take k++[nm]++(q.map (·.1)).drop k=(nM nm x q).map (·.1):=by rw[hsp];simp
 have e2:(q.map (·.2)).take k++[x]++(q.map (·.2)).drop k=(nM nm x q).map (·.2):=by rw[hsp];simp
 have hfl:((nM nm x q).map (·.2)).flatten.length≤1000000:=by
  have:=yj ((sF nm x q).map (·.2))
  rw[this]
  simp only[List.map_cons,List.flatten_cons,List.length_append]
  omega
 have hne:∀p∈(nM nm x q).map (·.2),p≠[]:=λp hp=>by
  obtain⟨y,hy,rfl⟩:=List.mem_map.1 hp
  exact (hput.rt y hy).one.ne
 refine⟨hr,hk,by omega,h1,h2,by omega,h1,by omega,hris,by omega,nm,rfl,by omega,by omega,by omega,x,rfl,by omega,by omega,by omega,by simp,by simp;omega,?_,?_,?_⟩
 ·rw[e2];exact hfl
 ·rw[e2];exact hne
 ·rw[e1,e2,Bj,hw];exact (tJ rfl).symm
def nZ:eX:=λargs objs K=>match args with
 | [a0,.str nm,a2]=>gy aj a0 (HK.mk:HK λv=>gy aj a2 (HK.mk:HK λx=>(Rt v)∧(aO v=6)∧(v.length≤100000)∧(utf nm=true)∧(Rt x)∧(x.length≤100000)∧K (aj (gL v nm x)) objs 0))
 | _=>False
theorem zW:aQ Tryz.prog 51 (nZ):=by
 intro args objs K h
 unfold nZ at h
 split at h
 ·rename_i a0 nm a2
  obtain⟨v,rfl,x,rfl,h1,h2,h3,h4,h5,h6,hk⟩:=h
  exact⟨_,_,_,.pure _ rfl (Vs v nm x h1 h2 h3 h4 h5 h6),hk⟩
 ·exact h.elim
end Lp
namespace Lp
open Go Go.Proofs
def zX(l:List Vl):List (List PV):=(List.range l.length).map λj=>[.int .i64 ((l.length-1-j:Nat):Int),aj (l.getD (l.length-1-j) [])]
theorem p_(l:List Vl):(zX l).length=l.length:=by simp[zX]
theorem DT(l:List Vl):∀y∈zX l,y.length=2:=by
 intro y hy
 obtain⟨j,_,rfl⟩:=List.mem_map.1 hy
 rfl
theorem KM{l:List Vl}{j:Nat}(h:j<l.length):(zX l)[j]?=some [.int .i64 ((l.length-1-j:Nat):Int),aj (l.getD (l.length-1-j) [])]:=by
 simp only[zX,List.getElem?_map,List.getElem?_range h,Option.map_some]
theorem HZ{l:List Vl}{j:Nat}{args:List PV}(h:(zX l)[j]?=some args):j<l.length∧args=[.int .i64 ((l.length-1-j:Nat):Int),aj (l.getD (l.length-1-j) [])]:=by
 have hj:j<l.length:=by rw[←p_ l];exact (List.getElem?_eq_some_iff.1 h).1
 rw[KM hj]at h
 exact⟨hj,(Option.some.inj h).symm⟩
theorem Jw(l:List Vl):av Tryz.prog 95 [dP l] [] (.fn 120 [] [.addr (dP l)]) []:=by
 refine kU.bY (T:=bg Tryz.prog []) 1 hD (ay ak) bC (by decide) λQ hQ=>?_
 (conv=>arg 4;cbv);simp (maxSteps:=400000) only[↓aA,aB,BEq.rfl,seval,hQ]
 rfl
def h_:eX:=λargs objs K=>match args with
 | [a0]=>gy dP a0 (HK.mk:HK λl=>K (.fn 120 [] [.addr (dP l)]) objs 0)
 | _=>False
theorem xN:aQ Tryz.prog 95 (h_):=by
 intro args objs K h
 unfold h_ at h
 split at h
 ·rename_i a0
  obtain⟨l,rfl,hk⟩:=h
  exact⟨_,_,_,.pure _ rfl (Jw l),hk⟩
 ·exact h.elim
theorem oV(l:List Vl)(hl:l.length≤1000000):Gives Tryz.prog 120 [.addr (dP l)] (zX l):=by
 refine j4.gives (fnT:=lH []) hD ak bC ?_
 intro I J objs y hI jm jJ
 (conv=>arg 4;cbv);simp (maxSteps:=400000) only[↓aA,aB,BEq.rfl,seval]
 refine⟨⟨by omega,by omega⟩,?_⟩
 refine aU (λm S=>∃(i:Nat) (j:Int) (O:List Obj),i+m=l.length∧j=(l.length:Int)-1-i∧I i O∧S=⟨dR 19 [(0,.qN y),(1,.addr (dP l)),(3,.int .i64 j)],O⟩) l.length ⟨0,_,objs,by omega,rfl,hI,?_⟩ ?_
 ·simp only[dw,keepR,Nat.reduceAdd,pX,Nat.reduceBEq,List.map_nil]
  simp
 rintro m S ⟨i,j,O,him,hj,hIi,rfl⟩
 rcases Nat.lt_or_ge i l.length with h | h
 ·have h1:(0≤j)=True:=eq_true (by omega)
  have h3:j.toNat=l.length-1-i:=by omega
  have h4:l[l.length-1-i]?=some (l.getD (l.length-1-i) []):=by
   rw[List.getElem?_eq_getElem (by omega),List.getD_eq_getElem?_getD,List.getElem?_eq_getElem (by omega)];rfl
  have h5:=KM h
  generalize hv:l.getD (l.length-1-i) []=v at h4 h5
  simp (maxSteps:=400000) only[↓aA,aB,BEq.rfl,seval,h1,h3,h4,IK]
  rw[show ((l.length-1-i:Nat):Int)=j by omega]at h5
  refine⟨rfl,i,hIi,h5,λO' hI'=>?_,λO' hJ'=>⟨.inr rfl,.inr ⟨i,by rw[p_];exact h,hJ'⟩⟩⟩
  exact⟨⟨by omega,by omega⟩,m-1,by omega,i+1,_,O',by omega,by omega,hI',rfl⟩
 ·have h1:(0≤j)=False:=eq_false (by omega)
  simp (maxSteps:=400000) only[↓aA,aB,BEq.rfl,seval,h1]
  exact⟨.inl rfl,.inl (by rw[p_,show l.length=i by omega];exact hIi)⟩
end Lp
namespace Lp
open Go
def mZ(x:Vl):List Vl→List Int→List Int
 | [],_=>[0]
 | y::ys,nx=>(if x=y then nx.getD 1 0+1 else max (nx.getD 0 0) ((mZ x ys nx.tail).getD 0 0))::mZ x ys nx.tail
def dU:List Vl→List Vl→List (List Int)
 | [],now=>[List.replicate (now.length+1) 0]
 | x::xs,now=>mZ x now ((dU xs now).headD [])::dU xs now
theorem qF(x:Vl):∀(now:List Vl) (nx:List Int),(mZ x now nx).length=now.length+1
 | [],_=>rfl
 | y::ys,nx=>by simp[mZ,qF x ys]
theorem vo:∀old now:List Vl,(dU old now).length=old.length+1
 | [],_=>rfl
 | x::xs,now=>by simp[dU,vo xs]
theorem EI:∀old now:List Vl,∃r rs,dU old now=r::rs∧r.length=now.length+1
 | [],now=>⟨_,_,rfl,by simp⟩
 | x::xs,now=>⟨_,_,rfl,qF ..⟩
theorem AO:∀(old now:List Vl) (r:List Int),r∈dU old now→r.length=now.length+1
 | [],now,r,h=>by simp[dU]at h;subst h;simp
 | x::xs,now,r,h=>by
  simp only[dU,List.mem_cons]at h
  rcases h with rfl | h
  ·exact qF ..
  ·exact AO xs now r h
theorem rJ:∀(old now:List Vl) (i:Nat),i≤old.length→(dU old now).drop i=dU (old.drop i) now
 | [],now,i,h=>by simp at h;subst h;rfl
 | x::xs,now,0,h=>rfl
 | x::xs,now,i+1,h=>by
  simp only[List.length_cons]at h
  simp only[dU,List.drop_succ_cons]
  exact rJ xs now i (by omega)
def Le(b:Int)(l:List Int):Prop:=∀x∈l,0≤x∧x≤b
theorem Le.getD {b:Int}{l:List Int}(h:Le b l)(hb:0≤b)(i:Nat):0≤l.getD i 0∧l.getD i 0≤b:=by
 rw[List.getD_eq_getElem?_getD]
 cases hx:l[i]? with
 | none=>exact⟨Int.le_refl _,hb⟩
 | some x=>exact h x (List.mem_of_getElem? hx)
theorem DU(x:Vl){b:Int}(hb:0≤b):∀(now:List Vl) (nx:List Int),Le b nx→Le (b+1) (mZ x now nx)
 | [],_,_=>by intro z hz;simp[mZ]at hz;subst hz;omega
 | y::ys,nx,h=>by
  have ht:Le b nx.tail:=λz hz=>h z (List.mem_of_mem_tail hz)
  have hr:=DU x hb ys nx.tail ht
  intro z hz
  simp only[mZ,List.mem_cons]at hz
  rcases hz with rfl | hz
  ·have h0:=h.getD hb 0
   have h1:=h.getD hb 1
   have h2:=hr.getD (by omega) 0
   split<;>omega
  ·exact hr z hz
theorem DV:∀(old now:List Vl) (r:List Int),r∈dU old now→Le old.length r
 | [],now,r,h=>by
  simp only[dU,List.mem_singleton]at h
  subst h
  intro z hz
  rw[List.mem_replicate]at hz
  simp[hz.2]
 | x::xs,now,r,h=>by
  simp only[dU,List.mem_cons]at h
  rcases h with rfl | h
  ·obtain⟨r0,rs,e,_⟩:=EI xs now
   have h0:=DV xs now r0 (by rw[e];exact List.mem_cons_self ..)
   rw[e]
   have:=DU x (Int.natCast_nonneg xs.length) now r0 h0
   intro z hz
   have:=this z hz
   simp only[List.length_cons]
   omega
  ·intro z hz
   have:=DV xs now r h z hz
   simp only[List.length_cons]
   omega
def wh:Nat→List Int→Nat→Nat→Nat→List Int
 | 0,out,_,_,_=>out
 | m+1,out,i,k,a=>if i<a then wh m (out.set k i) (i+1) (k+1) a else out
theorem Ct:∀(m:Nat) (out:List Int) (i k a:Nat),(wh m out i k a).length=out.length
 | 0,_,_,_,_=>rfl
 | m+1,out,i,k,a=>by
  simp only[wh]
  split
  ·rw[Ct m];simp
  ·rfl
def KN(t:List (List Int))(a b:Nat):Int:=(t.getD a []).getD b 0
def oI(old now:List Vl):Nat→Nat→Nat→Nat→Nat→List Int→List Int×Nat×Nat
 | 0,_,_,i,k,R=>(R,i,k)
 | f+1,a,b,i,k,R=>
  if a<old.length∧b<now.length then
   if old.getD a []=now.getD b [] then oI old now f (a+1) (b+1) (a+1) (b+1) ((wh (b-k) R i k a).set b a)
   else if KN (dU old now) a (b+1)≤KN (dU old now) (a+1) b then oI old now f (a+1) b i k R
   else oI old now f a (b+1) i k R
  else (R,i,k)
theorem yU{old now:List Vl}:∀(f g:Nat){a b i k:Nat}{R:List Int},(old.length-a)+(now.length-b)≤f→(old.length-a)+(now.length-b)≤g→oI old now f a b i k R=oI old now g a b i k R
 | 0,0,a,b,i,k,R,_,_=>rfl
 | 0,g+1,a,b,i,k,R,h,_=>by rw[oI,oI,if_neg (by omega)]
 | f+1,0,a,b,i,k,R,_,h=>by rw[oI,oI,if_neg (by omega)]
 | f+1,g+1,a,b,i,k,R,h1,h2=>by
  rw[oI,oI]
  split
  ·split
   ·exact yU f g (by omega) (by omega)
   ·split
    ·exact yU f g (by omega) (by omega)
    ·exact yU f g (by omega) (by omega)
  ·rfl
def fD(old now:List Vl):List Int:=
 match oI old now (old.length+now.length) 0 0 0 0 (List.replicate now.length (-1)) with
 | (R,i,k)=>wh (now.length-k) R i k old.length
theorem Cu{old now:List Vl}:∀(f a b i k:Nat) (R:List Int),(oI old now f a b i k R).1.length=R.length
 | 0,_,_,_,_,_=>rfl
 | f+1,a,b,i,k,R=>by
  rw[oI]
  split
  ·split
   ·rw[Cu f,List.length_set,Ct]
   ·split
    ·exact Cu f ..
    ·exact Cu f ..
  ·rfl
theorem yV(old now:List Vl):(fD old now).length=now.length:=by
 have h:=Cu (old:=old) (now:=now) (old.length+now.length) 0 0 0 0 (List.replicate now.length (-1))
 rw[fD]
 generalize oI old now (old.length+now.length) 0 0 0 0 (List.replicate now.length (-1))=x at h
 obtain⟨R,i,k⟩:=x
 show (wh _ R i k _).length=_
 rw[Ct]
 simpa using h
def InP(n:Nat)(R:List Int):Prop:=∀z∈R,-1≤z∧z<n
theorem InP.set {n:Nat}{R:List Int}(h:InP n R){k i:Nat}(hi:i<n):InP n (R.set k i):=λz hz=>by
 rcases List.mem_or_eq_of_mem_set hz with h1 | h1
 ·exact h z h1
 ·subst h1;omega
theorem MG{n:Nat}:∀(m:Nat){R:List Int}(i k:Nat){a:Nat},InP n R→a≤n→InP n (wh m R i k a)
 | 0,_,_,_,_,h,_=>h
 | m+1,R,i,k,a,h,ha=>by
  rw[wh]
  split
  ·exact MG m _ _ (h.set (by omega)) ha
  ·exact h
theorem FD{old now:List Vl}:∀(f a b i k:Nat){R:List Int},InP old.length R→InP old.length (oI old now f a b i k R).1
 | 0,_,_,_,_,_,h=>h
 | f+1,a,b,i,k,R,h=>by
  rw[oI]
  split
  ·rename_i hab
   split
   ·exact FD f _ _ _ _ ((MG _ _ _ h (by omega)).set (by omega))
   ·split
    ·exact FD f _ _ _ _ h
    ·exact FD f _ _ _ _ h
  ·exact h
theorem xO(old now:List Vl):InP old.length (fD old now):=by
 have h:=FD (old:=old) (now:=now) (old.length+now.length) 0 0 0 0 (R:=List.replicate now.length (-1)) λz hz=>by
  rw[(List.mem_replicate.1 hz).2];omega
 rw[fD]
 generalize oI old now (old.length+now.length) 0 0 0 0 (List.replicate now.length (-1))=x at h
 obtain⟨R,i,k⟩:=x
 exact MG _ _ _ h (Nat.le_refl _)
end Lp
namespace Lp
open Go Go.Proofs
open List (length_drop length_replicate map_nil map_set mem_singleton replicate_succ')
open Nat (sub_self zero_le)
theorem H6:(∀z xs q v,(PV.sl z xs q).putCells 0 [v]=v)∧(∀k u v,(PV.aZ k u).putCells 0 [v]=v)∧(∀k n v,(PV.int k n).putCells 0 [v]=v):=⟨λ_ _ _ _=>rfl,λ_ _ _=>rfl,λ_ _ _=>rfl⟩
theorem adB{d n k v i f:Nat}{O:List Obj}(h:k<n):gq d n O (.bq k v i f)=.bq k v i f:=by simp only[gq,if_pos h]
theorem adC{d n k v:Nat}{O:List Obj}(h:k<n):gq d n O (.aZ k v)=.aZ k v:=by simp only[gq,if_pos h]
theorem ZJ{U:List PV}(hU:∀x∈U,∃z xs q,x=.sl z xs q)(p:Nat){n k v:Nat}{row:List Int}{O:List Obj}{ty:TypeId}(hk:n≤k)(ho:O[k]?=some ⟨ty,1,row.map (.int .i64),true,v⟩) :
  (U.set p (.aZ k v)).map (PV.bU (gq 1 n O))=U.set p (encI row):=by
 rw[map_set]
 have h1:U.map (PV.bU (gq 1 n O))=U:=by
  conv=>rhs;rw[←List.map_id U]
  refine List.map_congr_left λx hx=>?_
  obtain⟨z,xs,q,rfl⟩:=hU x hx
  rfl
 have h2:PV.bU (gq 1 n O) (.aZ k v)=encI row:=by
  show gq 1 n O (.aZ k v)=_
  simp only[gq,if_neg (Nat.not_lt.2 hk),lF,ho,hk,decide_true,Bool.and_self,BEq.rfl,if_true,List.map_map]
  unfold encI
  congr 1
 rw[h1,h2]
theorem Pj{U:List PV}(hU:∀x∈U,∃z xs q,x=.sl z xs q)(p:Nat){n k v:Nat}{row:List Int}{O:List Obj}{ty:TypeId}(hk:n≤k)(ho:O[k]?=some ⟨ty,1,row.map (.int .i64),true,v⟩)(a b:Nat) :
  fJ 1 n O ⟨a,b,U.set p (.aZ k v),true,1⟩=⟨a,b,U.set p (encI row),true,1⟩:=by
 simp only[fJ,ZJ hU p hk ho]
theorem XO{d n:Nat}{O:List Obj}(t:TypeId)(l:List Vl):fJ d n O ⟨t,1,[dP l],true,1⟩=⟨t,1,[dP l],true,1⟩:=rfl
theorem TM{d n k v:Nat}{O:List Obj}(t:TypeId)(h:k<n):fJ d n O ⟨t,1,[.aZ k v],true,1⟩=⟨t,1,[.aZ k v],true,1⟩:=by
 simp only[fJ,List.map_cons,map_nil,PV.bU,gq,if_pos h]
theorem TN(n:Nat):∀x∈List.replicate n (PV.sl 0 [] (some true)),∃z xs q,x=PV.sl z xs q:=λx hx=>⟨_,_,_,(List.mem_replicate.1 hx).2⟩
def vw(old now:List Vl)(N i:Nat):List PV:=List.replicate (N-(i+1)) (.sl 0 [] (some true))++((dU old now).drop (N-(i+1))).map encI
def XP(U:List PV)(now:List Vl):List Obj:=[⟨64,1,[dP now],true,1⟩,⟨80,1,U,true,1⟩,⟨114,1,[.aZ 1 1],true,1⟩]
theorem TP(old now:List Vl)(N i:Nat):∀x∈vw old now N i,∃z xs q,x=PV.sl z xs q:=by
 intro x hx
 rcases List.mem_append.1 hx with h | h
 ·exact TN _ x h
 ·obtain⟨r,_,rfl⟩:=List.mem_map.1 h
  exact⟨_,_,_,rfl⟩
theorem ZK{U:List PV}(now:List Vl)(h:∀x∈U,∃z xs q,x=PV.sl z xs q):bJ (XP U now):=by
 intro o ho x hx c hc
 simp only[XP,List.mem_cons,List.not_mem_nil,or_false]at ho
 rcases ho with rfl | rfl | rfl
 ·simp only[mem_singleton]at hx;subst hx
  simp only[dP,PV.cells,mem_singleton]at hc;subst hc;rfl
 ·obtain⟨z,xs,q,rfl⟩:=h x hx
  simp only[PV.cells,mem_singleton]at hc;subst hc;rfl
 ·simp only[mem_singleton]at hx;subst hx
  simp only[PV.cells,mem_singleton]at hc;subst hc;rfl
def wm(x:Vl)(now:List Vl)(nx:List Int)(q:Nat):List Int:=List.replicate q 0++mZ x (now.drop q) (nx.drop q)
theorem XQ(x:Vl)(now:List Vl)(nx:List Int){q:Nat}(h:q≤now.length):(wm x now nx q).length=now.length+1:=by
 simp only[wm,List.length_append,length_replicate,qF,length_drop];omega
theorem XR(x:Vl)(now:List Vl)(nx:List Int):wm x now nx now.length=List.replicate (now.length+1) 0:=by
 simp only[wm,List.drop_length,mZ]
 rw[replicate_succ']
theorem Vt(x y:Vl){now:List Vl}{nx:List Int}{q:Nat}(hy:now[q]?=some y){b:Int}(hb:0≤b)(hn:Le b nx):∃c,(wm x now nx (q+1))[q]?=some 0∧(wm x now nx (q+1))[q+1]?=some c∧0≤c∧c≤b+1∧
  (wm x now nx (q+1)).set q (if x=y then nx.getD (q+1) 0+1 else max (nx.getD q 0) c)=wm x now nx q:=by
 have hq:q<now.length:=(List.getElem?_eq_some_iff.1 hy).1
 have hd:now.drop q=y::now.drop (q+1):=by
  rw[List.drop_eq_getElem_cons hq,(List.getElem?_eq_some_iff.1 hy).2]
 have hr:(mZ x (now.drop (q+1)) (nx.drop (q+1))).length=now.length-q:=by
  rw[qF,length_drop];omega
 have hle:=DU x hb (now.drop (q+1)) (nx.drop (q+1)) λz hz=>hn z (List.mem_of_mem_drop hz)
 have hc:=hle.getD (by omega) 0
 refine⟨(mZ x (now.drop (q+1)) (nx.drop (q+1))).getD 0 0,?_,?_,hc.1,hc.2,?_⟩
 ·rw[wm,List.getElem?_append_left (by simp),List.getElem?_replicate,if_pos (by omega)]
 ·rw[wm,List.getElem?_append_right (by simp),length_replicate,sub_self,List.getD_eq_getElem?_getD,List.getElem?_eq_getElem (by omega)];rfl
 ·have e1:(nx.drop q).getD 1 0=nx.getD (q+1) 0:=by simp[List.getD_eq_getElem?_getD]
  have e0:(nx.drop q).getD 0 0=nx.getD q 0:=by simp[List.getD_eq_getElem?_getD]
  have et:(nx.drop q).tail=nx.drop (q+1):=by rw[List.tail_drop]
  rw[wm,wm,hd,mZ,e1,e0,et,replicate_succ',List.append_assoc,List.set_append_right _ _ (by simp),length_replicate,sub_self]
  rfl
def Jy(W:List PV)(now:List Vl)(p:Int)(x:Vl)(R:List Int):List Obj:=[⟨64,1,[dP now],true,1⟩,⟨80,1,W,true,1⟩,⟨114,1,[.aZ 1 1],true,1⟩,⟨3,1,[.int .i64 p],true,1⟩,⟨23,1,[aj x],true,1⟩,⟨3,1,R.map (.int .i64),true,1⟩]
theorem adD(l:List (FuncId×eX))(n m:Nat):((((bg Tryz.prog l).inner n).inner m).fn=lH l)∧((((bg Tryz.prog l).inner n).inner m).QO.fn=lH l)∧((((bg Tryz.prog l).inner n).inner m).nx=m):=⟨rfl,rfl,rfl⟩
theorem XT(old now:List Vl){i:Nat}(hi:i≤old.length):(vw old now (old.length+1) i).length=old.length+1:=by
 simp only[vw,List.length_append,length_replicate,List.length_map,length_drop,vo];omega
theorem Vu(old now:List Vl):vw old now (old.length+1) 0=(List.replicate (old.length+1) (PV.sl 0 [] (some true))).set old.length (encI (List.replicate (now.length+1) 0)):=by
 rw[vw,show old.length+1-(0+1)=old.length by omega,rJ _ _ _ (Nat.le_refl _),List.drop_length,replicate_succ',List.set_append_right _ _ (by simp),length_replicate,sub_self]
 rfl
theorem XU(old now:List Vl):vw old now (old.length+1) old.length=(dU old now).map encI:=by
 rw[vw,sub_self];rfl
theorem Vv(old now:List Vl){i p:Nat}(hi:i<old.length)(hp:p=old.length-1-i):(vw old now (old.length+1) i)[p]?=some (.sl 0 [] (some true))∧∃nx,(vw old now (old.length+1) i)[p+1]?=some (encI nx)∧nx.length=now.length+1∧Le old.length nx∧
  (vw old now (old.length+1) i).set p (encI (wm (old.getD p []) now nx 0))=vw old now (old.length+1) (i+1):=by
 have h1:old.length+1-(i+1)=p+1:=by omega
 have h2:old.length+1-(i+1+1)=p:=by omega
 obtain⟨nx,rs,e,hl⟩:=EI (old.drop (p+1)) now
 have e':(dU old now).drop (p+1)=nx::rs:=by rw[rJ _ _ _ (by omega),e]
 have hm:nx∈dU old now:=List.mem_of_mem_drop (by rw[e'];exact List.mem_cons_self ..)
 have hx:old.drop p=old.getD p []::old.drop (p+1):=by
  rw[List.drop_eq_getElem_cons (by omega),List.getD_eq_getElem?_getD,List.getElem?_eq_getElem (by omega)];rfl
 have e2:(dU old now).drop p=mZ (old.getD p []) now nx::nx::rs:=by
  rw[rJ _ _ _ (by omega),hx,dU,e];rfl
 refine⟨?_,nx,?_,hl,DV _ _ _ hm,?_⟩
 ·rw[vw,h1,List.getElem?_append_left (by simp),List.getElem?_replicate,if_pos (by omega)]
 ·rw[vw,h1,e',List.getElem?_append_right (by simp),length_replicate,sub_self];rfl
 ·rw[vw,vw,h1,h2,e',e2,replicate_succ',List.append_assoc,List.set_append_right _ _ (by simp),length_replicate,sub_self]
  simp only[wm,List.drop_zero,List.replicate_zero,List.nil_append,List.map_cons]
  rfl
theorem ZL{W:List PV}(now:List Vl)(p:Int)(x:Vl)(R:List Int)(h:∀y∈W,(∃z xs q,y=PV.sl z xs q)∨y=.aZ 5 1):bJ (Jy W now p x R):=by
 intro o ho y hy c hc
 simp only[Jy,List.mem_cons,List.not_mem_nil,or_false]at ho
 rcases ho with rfl | rfl | rfl | rfl | rfl | rfl
 ·simp only[mem_singleton]at hy;subst hy
  simp only[dP,PV.cells,mem_singleton]at hc;subst hc;rfl
 ·rcases h y hy with ⟨z,xs,q,rfl⟩ | rfl
  all_goals simp only[PV.cells,mem_singleton]at hc;subst hc;rfl
 ·simp only[mem_singleton]at hy;subst hy
  simp only[PV.cells,mem_singleton]at hc;subst hc;rfl
 ·simp only[mem_singleton]at hy;subst hy
  simp only[PV.cells,mem_singleton]at hc;subst hc;rfl
 ·simp only[mem_singleton]at hy;subst hy
  simp only[aj,PV.cells,mem_singleton]at hc;subst hc;rfl
 ·obtain⟨z,_,rfl⟩:=List.mem_map.1 hy
  simp only[PV.cells,mem_singleton]at hc;subst hc;rfl
theorem RZ(old now:List Vl)(ho:old.length≤1000000)(hn:now.length≤1000000)(hlo:∀v∈old,v.length≤1000000)(hln:∀v∈now,v.length≤1000000) :
  av Tryz.prog 119 [dP old,dP now] [] (GQ (dU old now)) []:=by
 obtain⟨N,hN⟩:∃N,N=old.length+1:=⟨_,rfl⟩
 obtain⟨M,hM⟩:∃M,M=now.length+1:=⟨_,rfl⟩
 have hN1:((old.length:Int)+1).toNat=N:=by omega
 have hM1:((now.length:Int)+1).toNat=M:=by omega
 have z1:(0≤(old.length:Int))=True:=eq_true (by omega)
 have hlt:((old.length:Int)<(N:Int))=True:=eq_true (by omega)
 have hg:(List.replicate N (PV.sl 0 [] (some true)))[old.length]?=some (.sl 0 [] (some true)):=by rw[List.getElem?_replicate,if_pos (by omega)]
 refine Jb.bY (T:=bg Tryz.prog [(95,h_),(65,dF)]) 1 hD (ay (af xN (af rX ak))) bC (by decide) λQ hQ=>?_
 (conv=>arg 4;cbv);simp (maxSteps:=400000) only[↓aA,aB,BEq.rfl,seval,hQ,↓h_,H6,hN1,hM1,z1,hlt,hg,length_replicate]
 refine⟨⟨by omega,by omega⟩,by omega,by omega,by omega,by omega,⟨by omega,by omega⟩,by omega,by omega,by omega,by omega,by decide,?_⟩
 refine aT _ (Weak.norm [true,false,false,true,false,true] (some (1,3)) (zero_le _) _) ?_
 simp only[dw,keepR,Nat.reduceAdd,pX,Nat.reduceBEq,map_nil]
 have hr0:List.replicate M (PV.int .i64 0)=(List.replicate M (0:Int)).map (.int .i64):=by rw[List.map_replicate]
 rw[hr0]
 have hfr:=Pj (TN N) old.length (n:=3) (k:=3) (v:=1) (row:=List.replicate M (0:Int)) (O:=[⟨64,1,[dP now],true,1⟩,⟨80,1,(List.replicate N (PV.sl 0 [] (some true))).set old.length (.aZ 3 1),true,1⟩,⟨114,1,[PV.aZ 1 1],true,1⟩,⟨3,1,(List.replicate M (0:Int)).map (.int .i64),true,1⟩]) (ty:=3) (Nat.le_refl _) rfl 80 1
 simp (maxSteps:=400000) only[↓aA,aB,BEq.rfl,seval,hQ,↓h_,adB,adC,List.take_succ_cons,hfr,XO,TM]
 have hU0:vw old now N 0=(List.replicate N (PV.sl 0 [] (some true))).set old.length (encI (List.replicate M 0)):=by
  rw[hN,hM];exact Vu old now
 refine Ah 120 [.addr (dP old)] (zX old) (λi O=>i≤old.length∧O=XP (vw old now N i) now) rfl rfl rfl (Nat.le_refl _) (oV old ho) (DT old) ⟨zero_le _,by rw[hU0];rfl⟩ ?_ ?_ ?_
 ·rintro i O ⟨_,rfl⟩
  exact⟨Nat.le_refl _,ZK now (TP _ _ _ _)⟩
 ·rintro i args O ⟨hi,rfl⟩ ha
  obtain⟨hil,rfl⟩:=HZ ha
  obtain⟨p,hp⟩:∃p,p=old.length-1-i:=⟨_,rfl⟩
  rw[←hp]
  have hxm:old.getD p []∈old:=by
   rw[List.getD_eq_getElem?_getD,List.getElem?_eq_getElem (by omega)];exact List.getElem_mem _
  have hUs:=TP old now N i
  have hUl:(vw old now N i).length=N:=by rw[hN];exact XT old now hi
  obtain⟨hU0,hU1⟩:=Vv old now hil hp
  rw[←hN]at hU0 hU1
  generalize hxe:old.getD p []=x at hxm hU1
  obtain⟨nx,hU1,hnl,hnb,hUe⟩:=hU1
  have hxl:=hlo x hxm
  have hnb':Le 1000000 nx:=λz hz=>⟨(hnb z hz).1,by have:=(hnb z hz).2;omega⟩
  generalize vw old now N i=U at hUs hUl hU0 hU1 hUe
  have hpl:((p:Int)<(N:Int))=True:=eq_true (by omega)
  have zp:(0≤(p:Int))=True:=eq_true (by omega)
  simp (maxSteps:=400000) only[↓aA,aB,BEq.rfl,seval,hQ,jQ,V6,XP,↓h_,hM1,zp,hpl,hU0,hUl,H6,Int.toNat_natCast]
  refine⟨⟨by omega,by omega⟩,by omega,by omega,by omega,by omega,by decide,?_⟩
  have hW0:(U.set p (.aZ 5 1))[p]?=some (.aZ 5 1):=by rw[List.getElem?_set_self (by omega)]
  have hW1:(U.set p (.aZ 5 1))[p+1]?=some (encI nx):=by rw[List.getElem?_set_ne (by omega)];exact hU1
  have hWl:(U.set p (.aZ 5 1)).length=N:=by rw[List.length_set];exact hUl
  have hWs:∀y∈U.set p (.aZ 5 1),(∃z xs q,y=PV.sl z xs q)∨y=.aZ 5 1:=λy hy=>by
   rcases List.mem_or_eq_of_mem_set hy with h | h
   ·exact .inl (hUs y h)
   ·exact .inr h
  have adE:((p:Int)+1<(N:Int))=True:=eq_true (by omega)
  have zp1:(0≤(p:Int)+1)=True:=eq_true (by omega)
  have hp1:((p:Int)+1).toNat=p+1:=by omega
  refine Ah 120 [.addr (dP now)] (zX now) (λk O=>k≤now.length∧O=Jy (U.set p (.aZ 5 1)) now p x (wm x now nx (now.length-k))) rfl rfl rfl trivial (oV now hn) (DT now) ⟨zero_le _,by rw[Nat.sub_zero,XR,←hM,Jy,List.map_replicate]⟩ ?_ ?_ ?_
  ·rintro k O ⟨_,rfl⟩
   exact⟨by simp[Jy],ZL _ _ _ _ hWs⟩
  ·generalize U.set p (.aZ 5 1)=W at hW0 hW1 hWl
   rintro k args O ⟨hk,rfl⟩ ha
   obtain⟨hkl,rfl⟩:=HZ ha
   obtain⟨q,hq⟩:∃q,q=now.length-1-k:=⟨_,rfl⟩
   rw[←hq]
   have hq1:now.length-k=q+1:=by omega
   have hq2:now.length-(k+1)=q:=by omega
   rw[hq1]
   have hy:now[q]?=some (now.getD q []):=by
    rw[List.getD_eq_getElem?_getD,List.getElem?_eq_getElem (by omega)];rfl
   have hym:now.getD q []∈now:=List.mem_of_getElem? hy
   generalize now.getD q []=y at hy hym
   have hyl:=hln y hym
   obtain⟨c,hR0,UR,hc0,hc1,hRs⟩:=Vt x y (nx:=nx) hy (by decide:(0:Int)≤1000000) hnb'
   have hRl:=XQ x now nx (q:=q+1) (by omega)
   have g0:nx[q]?=some (nx.getD q 0):=by
    rw[List.getD_eq_getElem?_getD,List.getElem?_eq_getElem (by omega)];rfl
   have g1:nx[q+1]?=some (nx.getD (q+1) 0):=by
    rw[List.getD_eq_getElem?_getD,List.getElem?_eq_getElem (by omega)];rfl
   have ha0:=hnb'.getD (by decide) q
   have ha1:=hnb'.getD (by decide) (q+1)
   have IG:((q:Int)<((now.length+1:Nat):Int))=True:=eq_true (by omega)
   have adF:((q:Int)+1<((now.length+1:Nat):Int))=True:=eq_true (by omega)
   have zq:(0≤(q:Int))=True:=eq_true (by omega)
   have zq1:(0≤(q:Int)+1)=True:=eq_true (by omega)
   have hq3:((q:Int)+1).toNat=q+1:=by omega
   generalize nx.getD q 0=a0 at g0 ha0 hRs
   generalize nx.getD (q+1) 0=a1 at g1 ha1 hRs
   generalize hRg:wm x now nx (q+1)=R at hR0 UR hRs hRl
   by_cases hxy:x=y
   ·have hxy':=eq_true hxy
    rw[if_pos hxy]at hRs
    simp (maxSteps:=400000) only[↓aA,aB,BEq.rfl,seval,hQ,jQ,adD,Jy,↓dF,hxy',zp,zp1,hp1,hpl,adE,hWl,hW0,hW1,zq,zq1,hq3,IG,adF,hR0,UR,hRl,g0,g1,H6,Int.toNat_natCast]
    refine⟨hxl,hyl,⟨by omega,by omega⟩,⟨by omega,by omega⟩,⟨by omega,by omega⟩,by decide,by omega,?_⟩
    show _=(_:List Obj)
    rw[hq2,←hRs,map_set]
    rfl
   ·have hxy':=eq_false hxy
    rw[if_neg hxy]at hRs
    simp (maxSteps:=400000) only[↓aA,aB,BEq.rfl,seval,hQ,jQ,adD,Jy,↓dF,hxy',zp,zp1,hp1,hpl,adE,hWl,hW0,hW1,zq,zq1,hq3,IG,adF,hR0,UR,hRl,g0,g1,H6,Int.toNat_natCast]
    refine⟨hxl,hyl,⟨by omega,by omega⟩,⟨by omega,by omega⟩,by decide,by omega,?_⟩
    show _=(_:List Obj)
    rw[hq2,←hRs,map_set]
    have hmx:(if c > a0 then c else a0)=max a0 c:=by split<;>omega
    rw[hmx]
    rfl
  ·rintro O ⟨_,rfl⟩
   rw[p_,sub_self]
   have hfr:=Pj hUs p (n:=3) (k:=5) (v:=1) (row:=wm x now nx 0) (O:=Jy (U.set p (.aZ 5 1)) now p x (wm x now nx 0)) (ty:=3) (by omega) rfl 80 1
   simp only[Jy]at hfr
   simp (maxSteps:=400000) only[↓aA,aB,BEq.rfl,seval,hQ,Jy,List.take_succ_cons,hfr,XO,TM]
   refine⟨by omega,?_⟩
   show [fJ 1 3 _ _,fJ 1 3 _ _,fJ 1 3 _ _]=_
   rw[XO,TM _ (by decide)]
   exact congrArg (λz=>[_,z,_]) (hfr.trans (by rw[hUe]))
 ·rintro O ⟨_,rfl⟩
  rw[p_,hN,XU]
  simp (maxSteps:=400000) only[↓aA,aB,BEq.rfl,seval,hQ,XP,(jd hG inG).2.1]
def Cv:eX:=λargs objs K=>match args with
 | [a0,a1]=>gy dP a0 (HK.mk:HK λa=>gy dP a1 (HK.mk:HK λb=>(a.length≤1000000)∧(b.length≤1000000)∧(∀v∈a,v.length≤1000000)∧(∀v∈b,v.length≤1000000)∧K (GQ (dU a b)) objs 0))
 | _=>False
theorem Pk:aQ Tryz.prog 119 (Cv):=by
 intro args objs K h
 unfold Cv at h
 split at h
 ·rename_i a0 a1
  obtain⟨a,rfl,b,rfl,h1,h2,h3,h4,hk⟩:=h
  exact⟨_,_,_,.pure _ rfl (RZ a b h1 h2 h3 h4),hk⟩
 ·exact h.elim
end Lp
namespace Lp
open Go Go.Proofs Go.Sort Go.RowKit
theorem H7(n:Nat)(hn:n≤1000000):bits BinOp.and IntKind.u64 (n:Int) 4294967295=n:=by
 have h1:(BitVec.ofInt 64 (n:Int))=BitVec.ofNat 64 n:=by simp
 have h2:(BitVec.ofInt 64 4294967295)=BitVec.ofNat 64 4294967295:=by rfl
 show IntKind.u64.wrap ((BitVec.ofInt 64 (n:Int) &&& BitVec.ofInt 64 4294967295).toNat:Int)=n
 rw[h1,h2]
 have h3:(BitVec.ofNat 64 n &&& BitVec.ofNat 64 4294967295).toNat=n:=by
  rw[BitVec.toNat_and,BitVec.toNat_ofNat,BitVec.toNat_ofNat,Nat.mod_eq_of_lt (by omega:n<2 ^ 64),show (4294967295 % 2 ^ 64)=2 ^ 32-1 from rfl,Nat.and_two_pow_sub_one_eq_mod,Nat.mod_eq_of_lt (by omega)]
 rw[h3]
 exact iJ (k:=.u64) ⟨by omega,by omega⟩
def fO(n k:Nat):List Value:=List.replicate k (.int .i64 (-1))++List.replicate (n-k) (.int .i64 0)
theorem vz{n k:Nat}(h:k≤n):(fO n k).length=n:=by simp[fO];omega
theorem H8{n k j:Nat}(h:j<k):(fO n k)[j]?=some (.int .i64 (-1)):=by
 rw[fO,List.getElem?_append_left (by simpa using h),List.getElem?_replicate,if_pos h]
theorem EJ{n k m:Nat}(h:k+m≤n):(fO n k).take k++List.replicate m (.int .i64 (-1))++(fO n k).drop (k+m)=fO n (k+m):=by
 simp only[fO]
 rw[List.take_left' (by simp),List.drop_append,List.drop_replicate,List.drop_replicate,List.length_replicate,←List.replicate_append_replicate]
 have e1:k-(k+m)=0:=by omega
 have e2:n-k-(k+m-k)=n-(k+m):=by omega
 rw[e1,e2];simp
theorem Pm{w:World}(o:Go.Obj){b:Nat}(hb:b<w.heap.size):(w.alloc o).heap[b]?=w.heap[b]?:=by
 have h:kD w (w.alloc o):=.push rfl
 rw[Array.getElem?_eq_getElem hb]
 exact h.2.1 b _ (Array.getElem?_eq_getElem hb)
def iOf:Value→Int
 | .int _ q=>q
 | _=>0
set_option maxRecDepth 1000000 in
set_option maxHeartbeats 4000000 in
theorem Pn(n:Nat)(hn:n≤1000000)(w:World)(xb xo xc:Nat)(hx:w.cell? ⟨xb,xo,none⟩=some (.int .i64 (-1)))(hxb:xb<w.heap.size):Calls Tryz.prog 117 #[.slice (some ⟨xb,xo,none⟩) 1 xc,.int .i64 n] w λe w'=>
  e=.returned (.slice (some ⟨w.heap.size,0,none⟩) n n)∧w'.heap[w.heap.size]?=some (.cells (fO n n).toArray 3 (0,0))∧(∀b,b<w.heap.size→w'.heap[b]?=w.heap[b]?)∧w.heap.size≤w'.heap.size∧Sm w w':=by
 have mixed:Tryz.prog.follows .mixedOrders=true:=by kernel_rfl
 have b1:bits BinOp.and IntKind.u64 1 4294967295=1:=H7 1 (by omega)
 have b0:bits BinOp.and IntKind.u64 0 4294967295=0:=H7 0 (by omega)
 have bn:=H7 n hn
 have dn:(n:Int) / 4294967296=0:=by omega
 have wn:IntKind.u64.wrap (n:Int)=n:=iJ (k:=.u64) ⟨by omega,by omega⟩
 have wi:IntKind.i64.wrap (n:Int)=n:=iJ (k:=.i64) ⟨by omega,by omega⟩
 have w0:IntKind.u64.wrap 0=0:=iJ (k:=.u64) ⟨by omega,by omega⟩
 have w1:IntKind.u64.wrap 1=1:=iJ (k:=.u64) ⟨by omega,by omega⟩
 have uL:Tryz.prog.underlying 80=some (.slice 3):=by kernel_rfl
 obtain⟨inf,hi,hz,hs,hb⟩:∃inf,Tryz.prog.info? 3=some inf∧inf.zero=some (.int .i64 0)∧inf.size=1∧inf.bytes=8:=⟨_,rfl,rfl,rfl,rfl⟩
 have hsz:(Tryz.prog.info? 3).map (·.size)=some 1:=by rw[hi];simp[hs]
 have hmk:=run_make (P:=Tryz.prog) w 80 3 inf (.int .i64 0) uL hi hz .i64 .i64 n n (by omega) (Int.le_refl _) (by rw[hb];omega) (by omega)
 have hmc:madeCells (Value.int .i64 0).cells ((n:Int).toNat*inf.size)=(fO n 0).toArray:=by
  rw[hs,Int.toNat_natCast,Nat.mul_one]
  apply Array.ext'
  simp[madeCells,fO,Value.cells,Nat.mod_one,List.map_const']
 rw[hmc]at hmk
 simp only[Int.toNat_natCast]at hmk
 have hg0:(w.alloc (.cells (fO n 0).toArray 3)).heap[w.heap.size]?=some (.cells (fO n 0).toArray 3 (0,0)):=World.alloc_heap_new w _
 have hcp1:∀ty dc sc,(Builtin.copy_ #[80,80] ty #[.slice (some ⟨w.heap.size,0,none⟩) n dc,.slice (some ⟨xb,xo,none⟩) 1 sc]).run Tryz.prog (w.alloc (.cells (fO n 0).toArray 3))=.ok (goInt (min 1 n:Nat)) ((w.alloc (.cells (fO n 0).toArray 3)).setRow w.heap.size (fO n (min 1 n)).toArray):=λty dc sc=>by
  have hcl:(List.replicate (min 1 n) (Value.int .i64 (-1))).length=min 1 n:=by simp
  have h:=run_copy_row (P:=Tryz.prog) (w.alloc (.cells (fO n 0).toArray 3)) 80 80 ty 3 w.heap.size 0 n dc ⟨xb,xo,none⟩ 1 sc (fO n 0).toArray 3 (List.replicate (min 1 n) (.int .i64 (-1))) uL hsz hg0 hcl (λj v hj=>by
   rw[List.getElem?_replicate]at hj
   split at hj
   ·rename_i hj1
    have:j=0:=by omega
    subst this
    cases hj
    rw[Addr.add_lit]
    exact cell_of_heap hx λx hx' _=>by rw[Pm _ hxb];exact hx'
   ·cases hj) (by rw[hcl];simp[vz (Nat.zero_le n)];omega) (λv hv=>by rw[(List.mem_replicate.1 hv).2];rfl)
  rw[h,hcl]
  have e:=EJ (n:=n) (k:=0) (m:=min 1 n) (by omega)
  simp only[Nat.zero_add]at e ⊢
  rw[e]
 go_enter Tryz.func117,Tryz.ntmps117
 go_wp2
 go_loopw [8] (λi wr=>∃k:Nat,k≤n∧(k=0→n=0)∧i=.int .i64 k∧wr.heap[w.heap.size]?=some (.cells (fO n k).toArray 3 (0,0))∧(∀b,b<w.heap.size→wr.heap[b]?=w.heap[b]?)∧wr.heap.size=w.heap.size+1∧Sm w wr) (λi _=>n-(iOf i).toNat)
 case atStart=>
  refine⟨min 1 n,by omega,by omega,rfl,?_,λb hb=>?_,?_,⟨rfl,rfl⟩⟩
  ·exact setRow_heap _ _ _ _ _ _ hg0
  ·rw[setRow_other _ _ b _ (by omega)];exact Pm _ hb
  ·rw[setRow_size];exact World.size_alloc _ _
 case round=>
  obtain⟨k,hk,hk0,rfl,hr1,hr2,hr3,hr4⟩:=hrel
  by_cases hkn:k<n
  ·have hnk:¬ n=k:=by omega
   have hcp2:∀ty dc sc,(Builtin.copy_ #[80,80] ty #[.slice (some ⟨w.heap.size,k,none⟩) (n-k) dc,.slice (some ⟨w.heap.size,0,none⟩) k sc]).run Tryz.prog wr.drew=.ok (goInt (min k (n-k):Nat)) (wr.drew.setRow w.heap.size (fO n (k+min k (n-k))).toArray):=λty dc sc=>by
    have hcl:(List.replicate (min k (n-k)) (Value.int .i64 (-1))).length=min k (n-k):=by simp
    have h:=run_copy_row (P:=Tryz.prog) wr.drew 80 80 ty 3 w.heap.size k (n-k) dc ⟨w.heap.size,0,none⟩ k sc (fO n k).toArray 3 (List.replicate (min k (n-k)) (.int .i64 (-1))) uL hsz hr1 hcl (λj v hj=>by
     rw[List.getElem?_replicate]at hj
     split at hj
     ·rename_i hj1
      cases hj
      have hh:wr.drew.heap[w.heap.size]?=some (.cells (fO n k).toArray 3 (0,0)):=hr1
      rw[Addr.add_lit]
      simp only[World.cell?,hh,Nat.zero_add,List.getElem?_toArray]
      exact H8 (by omega)
     ·cases hj) (by rw[hcl];simp[vz hk];omega) (λv hv=>by rw[(List.mem_replicate.1 hv).2];rfl)
    rw[h,hcl]
    rw[EJ (by omega)]
   have hwr:IntKind.i64.wrap ((k:Int)+((min k (n-k):Nat):Int))=((k+min k (n-k):Nat):Int):=by rw[iJ (k:=.i64) ⟨by omega,by omega⟩];omega
   have hki:0<k:=by omega
   go_wp2
   go_region_law_o (refine step_copy_runI rfl _ _ 80 80 rfl _ _ (by simp[Act.eval,Act.put]) (by simp[Act.eval,Act.put]) (hcp2 _ _ _) ?_)
   simp only[Act.put,List.getElem_toArray,List.getElem_cons_succ,List.getElem_cons_zero,List.setIfInBounds_toArray,List.set_cons_succ,List.set_cons_zero]
   go_wp2
   refine⟨⟨_,_,_,_,_,_,_,_,_,_,_,_,_,_,⟨k+min k (n-k),by omega,by omega,by rw[Int.natCast_add],?_,λb hb=>?_,?_,hr4⟩,rfl⟩,?_⟩
   ·exact setRow_heap _ _ _ _ _ _ hr1
   ·rw[setRow_other _ _ b _ (by omega)];exact hr2 b hb
   ·rw[setRow_size];exact hr3
   ·show n-((k:Int)+((min k (n-k):Nat):Int)).toNat<n-((k:Int)).toNat
    omega
  ·obtain rfl:k=n:=by omega
   go_wp2
   go_ret
   exact⟨rfl,hr1,hr2,by omega,hr4⟩
def R7(n:Nat):List PV:=(List.replicate n (-1:Int)).map (.int .i64)
theorem Po(n:Nat)(hn:n≤1000000):av Tryz.prog 117 [.sl 1 [.int .i64 (-1)] none,.int .i64 n] [] (.aZ 0 0) [⟨3,1,R7 n,true,0⟩]:=by
 refine⟨⟨_,Tryz.func117,by kernel_rfl,by kernel_rfl⟩,λw blk vs base hbase _ hargs=>?_⟩
 have hargs':bG (cu w (bA base [] blk)) [.sl 1 [.int .i64 (-1)] none,.int .i64 n] vs:=⟨hargs.1,λi p v hp hv=>qy (hargs.2 i p v hp hv)⟩
 obtain⟨u,v,rfl,h1,h2⟩:=Zx hargs'
 cases He h2
 cases h1 with
 | sl _ _ _ _ b off cap vv hok hlen hcap hsz hcell hrep=>
 have hc:=hcell 0 (.int .i64 (-1)) 0 (.int .i64 (-1)) rfl rfl
 have hr:=hrep 0 (.int .i64 (-1)) 0 (.int .i64 (-1)) rfl rfl
 rw[He hr]at hc
 have hb:=(hok (by simp)).2
 have e0:off+0*1+0=off:=by omega
 rw[e0]at hc
 refine (Pn n hn w b off cap hc hb).mono ?_
 rintro e w' ⟨rfl,k1,k2,k3,k4⟩
 have hsize:w.heap.size<w'.heap.size:=(Array.getElem?_eq_some_iff.1 k1).1
 refine⟨_,λk=>if k=0 then some w.heap.size else none,rfl,⟨λk o hk hl=>?_,λk k' o o' g hkk hk hl hk' hl' hg=>?_,λk o g hk hl hg hp=>?_⟩,?_,λb hb _=>k2 b hb,k3,k4⟩
 ·match k,hk with
  | 0,hk=>
   cases hk
   refine⟨(fO n n).toArray,?_,qW (show 3≠MT by decide) (by simp[R7,vz]),λi x hx=>?_⟩
   ·rw[jG (show 3≠MT by decide)];exact k1
   ·rw[R7,List.getElem?_map,List.getElem?_replicate]at hx
    split at hx
    ·rename_i hi
     cases hx
     refine⟨rfl,λj p hp=>?_⟩
     match j,hp with
     | 0,hp=>
      cases hp
      refine⟨.int .i64 (-1),?_,.aI (.int _ _)⟩
      rw[List.getElem?_toArray,Nat.add_zero,Nat.mul_one];exact H8 hi
    ·cases hx
 ·match k,k',hk,hk' with
  | 0,0,_,_=>exact absurd rfl hkk
 ·match k,hk with
  | 0,hk=>
   simp only[if_true,Option.some.injEq]at hg
   omega
 ·refine .eU ?_
  refine⟨rfl,_,rfl,Nat.le_refl _,λ_ _=>⟨(show 3≠MT by decide),n,(fO n n).toArray,?_,k1,?_,?_,?_⟩⟩
  ·simp[R7]
  ·simp[R7]
  ·simp[maxLen];omega
  ·simp[vz]
theorem ZM(n:Nat){ver:Nat}:bD [⟨3,1,R7 n,true,ver⟩]:=by
 intro o ho x hx c hc
 simp only[List.mem_singleton]at ho;subst ho
 obtain⟨p,_,rfl⟩:=List.mem_map.1 hx
 simp only[PV.cells,List.mem_singleton]at hc;subst hc;rfl
def yX:eX:=λargs objs K=>match args with
 | [x,.int .i64 n]=>gy encI x (HK.mk:HK λl=>l=[-1]∧0≤n∧n≤1000000∧K (.aZ objs.length 0) (objs++[⟨3,1,R7 n.toNat,true,0⟩]) 2)
 | _=>False
theorem MH:aQ Tryz.prog 117 yX:=by
 intro args objs K h
 unfold yX at h
 split at h
 ·rename_i x n
  obtain⟨l,rfl,rfl,h1,h2,hk⟩:=h
  have hs:=Po n.toNat (by omega)
  rw[Int.toNat_of_nonneg h1]at hs
  exact⟨_,_,_,mO.made (objs:=objs) _ _ rfl (ZM n.toNat) hs,by simpa[PV.shift,PV.jV] using hk⟩
 ·exact h.elim
end Lp
namespace Lp
open Go
open List (append_nil length_append set_append_right)
variable {P:Program}{D:TypeId→aC}{T:Know}
def Jz(P:Program)(l:List (FuncId×eX)):Know:={ bg P l with fa:=jI P }
theorem XV{l:List (FuncId×eX)}(h:jX P (lH l)):tZ P none sQ (Jz P l):=.acU h rfl (λ_ _ _ h=>h) (λ_ _ _ h=>h) rfl (λ_ _ _ h=>h.elim) λ_ _ _ _ h=>h
theorem H9{l:List (FuncId×eX)}(h:jX P (lH l))(n:Nat):tZ P none (Ma n) ((Jz P l).use n):=.use h rfl (λ_ _ _ h=>h) (λ_ _ _ h=>h) rfl (λ_ _ _ h=>h.elim) λ_ _ _ _ h=>h
theorem vC{ev:Operand→PV}{g:FuncId}{first args cap:List PV}{objs:List Obj}{K:KT}(hr:T.rg=true)(hf:T.fa=jI P)(h:jI P g (first++args++cap) objs K):Ky T ev (.fn g first cap) args objs (U1.mk:U1 K):=by
 refine .inr ⟨hr,?_⟩
 show T.fa _ _ _ _
 rw[hf];exact h
theorem jI.mono {f:FuncId}{args:List PV}{objs:List Obj}{K K':KT}(h:jI P f args objs K)(hk:∀r o t,K r o t→K' r o t):jI P f args objs K':=
 ⟨h.1,λbase ah w0 tmps blk a w vs R ha=>(h.2 base ah w0 tmps blk a w vs R ha).mono λ_ _ ⟨v,r,o,b,h1,h2,h3⟩=>⟨v,r,o,b,h1,hk _ _ _ h2,h3⟩⟩
theorem tK{O X:List Obj}{n:Nat}(h:O.length=n):(O++X).take n=O:=by rw[←h,List.take_left]
theorem xP{O X:List Obj}{n:Nat}(h:O.length=n):(O++X).drop n=X:=by rw[←h,List.drop_left]
theorem XW{O:List Obj}{n:Nat}(h:O.length=n)(hl:bJ O):∀o∈O,o.live=true→∀x∈o.xs,∀p∈x.cells,p.qd n=true:=λo ho _ x hx p hp=>by
 have:=hl o ho x hx p hp
 rwa[h]at this
def geA(n:Nat)(l:List (Nat×PV)):Bool:=l.all λx=>x.2.ge n
theorem n_{n m:Nat}{l:List (Nat×PV)}{ob:List Obj}(h:geA n l=true)(t:Nat):((St.mk (dR m l) ob).ev (.tmp t)).ge n=true:=by
 show ((dR m l).getD t .dead).ge n=true
 rcases Nat.lt_or_ge t m with ht | ht
 ·rw[uP.2.1 m l t ht]
  induction l with
  | nil=>rfl
  | cons x l ih=>
   obtain⟨i,p⟩:=x
   simp only[geA,List.all_cons,Bool.and_eq_true]at h
   by_cases e:t=i
   ·subst e
    rw[pX.1];exact h.1
   ·rw[pX.2.1 t i p l (by simpa using e)]
    exact ih h.2
 ·rw[List.getD_eq_getElem?_getD,List.getElem?_eq_none (by rw[nV];exact ht)];rfl
theorem Vw(n:Nat):(geA n []=true)∧(∀i p l,geA n ((i,p)::l)=(p.ge n && geA n l))∧(∀k m,PV.ge n (.int k m)=true)∧(∀b,PV.ge n (.bool b)=true)∧(∀s,PV.ge n (.str s)=true)∧(∀z x q,PV.ge n (.sl z x q)=true)∧(∀x,PV.ge n (.addr x)=true)∧
  (∀l,PV.ge n (.qN l)=true)∧(∀k v i f,PV.ge n (.bq (n+k) v i f)=true)∧(∀v i f,PV.ge n (.bq n v i f)=true)∧(∀k v,PV.ge n (.gI (n+k) v)=true)∧(∀v,PV.ge n (.gI n v)=true)∧(∀f x,PV.ge n (.fn f [] [.addr x])=true)∧(PV.ge n (.bI [])=true)∧(PV.ge n .dead=true)∧
  (∀k v,PV.ge n (.aZ (n+k) v)=true)∧(∀v,PV.ge n (.aZ n v)=true)∧(∀f k v i e,PV.ge n (.fn f [] [.bq (n+k) v i e])=true):=
 ⟨rfl,λ_ _ _=>rfl,λ_ _=>rfl,λ_=>rfl,λ_=>rfl,λ_ _ _=>rfl,λ_=>rfl,λ_=>rfl,λ_ _ _ _=>by simp[PV.ge,PV.Ep],λ_ _ _=>by simp[PV.ge,PV.Ep],λ_ _=>by simp[PV.ge,PV.Ep],λ_=>by simp[PV.ge,PV.Ep],λ_ _=>rfl,rfl,rfl,
  λ_ _=>by simp[PV.ge,PV.Ep],λ_=>by simp[PV.ge,PV.Ep],λ_ _ _ _ _=>by simp[PV.ge,PV.Ep]⟩
theorem Cw{ev:Operand→PV}{ys:List (List PV)}{I J:Nat→List Obj→Prop}{n i:Nat}{l:Nat}{args:List PV}{O X:List Obj}{K:KT}(hb:T.bb=true)(hn:T.bn=n)(hY:T.YB=IK ys I J)(hl:l=T.y)
  (jm:∀i O,I i O→O.length=n∧bJ O) (jJ:∀i O,J i O→O.length=n∧bJ O∧bD O) (hev:∀t,(ev (.tmp t)).ge n=true) (hX:Y5 n X) (hp:args.all PV.pure=true) (hI:I i O) (hy:ys[i]?=some args)
  (h1:∀O',I (i+1) O'→K (.bool true) (O'++X) 2) (h2:∀O',J i O'→K (.bool false) (O'++X) 2):Ky T ev (.qN l) args (O++X) (U1.mk:U1 K):=by
 obtain⟨ho,hlt⟩:=jm i O hI
 refine .inl ⟨hb,?_,?_,?_,?_,hl,hp,?_⟩
 ·rw[hn,length_append];omega
 ·rw[hn,tK ho];exact XW ho hlt
 ·rw[hn];exact hev
 ·rw[hn,xP ho];exact hX
 ·rw[hY,hn,tK ho,xP ho]
  exact⟨i,hI,hy,λO' h=>⟨(jm _ _ h).1,h1 O' h⟩,λO' h=>⟨(jJ _ _ h).1,h2 O' h⟩⟩
theorem MI{ev:Operand→PV}{g:FuncId}{ys qs:List (List PV)}{I J:Nat→List Obj→Prop}{n i:Nat}{args bargs:List PV}{O X:List Obj}{K:KT}(hb:T.bb=true)(hn:T.bn=n)(hY:T.YB=IK ys I J)(hg:T.gb=fK P)
  (jm:∀i O,I i O→O.length=n∧bJ O) (jJ:∀i O,J i O→O.length=n∧bJ O∧bD O) (hev:∀t,(ev (.tmp t)).ge n=true) (hX:Y5 n X) (he:args=bargs++[.qN T.y]) (hp:bargs.all PV.pure=true) (hG:fK P g bargs qs) (hI:I i O)
  (hy:∀j a,qs[j]?=some a→ys[i+j]?=some a) (h1:∀O',I (i+qs.length) O'→K (.bool true) (O'++X) 2) (h2:∀j O',j<qs.length→J (i+j) O'→K (.bool false) (O'++X) 2):Ky T ev (.fn g [] []) args (O++X) (U1.mk:U1 K):=by
 obtain⟨ho,hlt⟩:=jm i O hI
 refine .inl ⟨hb,?_,?_,?_,?_,bargs,qs,λj=>I (i+j),λj=>J (i+j),by simpa using he,hp,by rw[hg];exact hG,?_,?_,λj O h=>?_,λj O h=>?_,λO' h=>?_,λj O' hj h=>?_⟩
 ·rw[hn,length_append];omega
 ·rw[hn,tK ho];exact XW ho hlt
 ·rw[hn];exact hev
 ·rw[hn,xP ho];exact hX
 ·rintro a O1 K1 ⟨j,q1,q2,q3,q4⟩
  rw[hY]
  exact⟨i+j,q1,hy j a q2,q3,q4⟩
 ·rw[hn,tK ho];exact hI
 ·rw[hn];exact jm _ _ h
 ·rw[hn];exact jJ _ _ h
 ·rw[hn,xP ho];exact h1 O' h
 ·rw[hn,xP ho];exact h2 j O' hj h
theorem H_{ev:Operand→PV}{ys:List (List PV)}{I J:Nat→List Obj→Prop}{n i:Nat}{l:Nat}{args:List PV}{O:List Obj}{K:KT}(hb:T.bb=true)(hn:T.bn=n)(hY:T.YB=IK ys I J)(hl:l=T.y)
  (jm:∀i O,I i O→O.length=n∧bJ O) (jJ:∀i O,J i O→O.length=n∧bJ O∧bD O) (hev:∀t,(ev (.tmp t)).ge n=true) (hp:args.all PV.pure=true) (hI:I i O) (hy:ys[i]?=some args)
  (h1:∀O',I (i+1) O'→K (.bool true) O' 2) (h2:∀O',J i O'→K (.bool false) O' 2):Ky T ev (.qN l) args O (U1.mk:U1 K):=by
 have h:=Cw (X:=[]) (K:=K) (ev:=ev) (args:=args) (O:=O) hb hn hY hl jm jJ hev (λo ho=>by cases ho) hp hI hy (λO' h=>by rw[append_nil];exact h1 O' h) λO' h=>by rw[append_nil];exact h2 O' h
 rwa[append_nil]at h
theorem Ia{ev:Operand→PV}{g:FuncId}{ys qs:List (List PV)}{I J:Nat→List Obj→Prop}{n i:Nat}{args bargs:List PV}{O:List Obj}{K:KT}(hb:T.bb=true)(hn:T.bn=n)(hY:T.YB=IK ys I J)(hg:T.gb=fK P)
  (jm:∀i O,I i O→O.length=n∧bJ O) (jJ:∀i O,J i O→O.length=n∧bJ O∧bD O) (hev:∀t,(ev (.tmp t)).ge n=true) (he:args=bargs++[.qN T.y]) (hp:bargs.all PV.pure=true) (hG:fK P g bargs qs) (hI:I i O)
  (hy:∀j a,qs[j]?=some a→ys[i+j]?=some a) (h1:∀O',I (i+qs.length) O'→K (.bool true) O' 2) (h2:∀j O',j<qs.length→J (i+j) O'→K (.bool false) O' 2):Ky T ev (.fn g [] []) args O (U1.mk:U1 K):=by
 have h:=MI (X:=[]) (K:=K) (ev:=ev) (args:=args) (O:=O) hb hn hY hg jm jJ hev (λo ho=>by cases ho) he hp hG hI hy (λO' h=>by rw[append_nil];exact h1 O' h) λj O' hj h=>by rw[append_nil];exact h2 j O' hj h
 rwa[append_nil]at h
theorem Ib{O:List Obj}{n:Nat}(h:O.length=n) :
  (∀a X,(O++a::X)[n]?=some a)∧(∀a X (j:Nat),(O++a::X)[n+(j+1)]?=X[j]?)∧(∀a b X,(O++a::X).set n b=O++b::X)∧(∀a b X (j:Nat),(O++a::X).set (n+(j+1)) b=O++a::X.set j b)∧
  (∀X,(O++X).length=n+X.length):=by
 subst h
 refine⟨λa X=>?_,λa X j=>?_,λa b X=>?_,λa b X j=>?_,λX=>length_append⟩
 ·rw[List.getElem?_append_right (Nat.le_refl _),Nat.sub_self];rfl
 ·rw[List.getElem?_append_right (by omega),show O.length+(j+1)-O.length=j+1 by omega];rfl
 ·rw[set_append_right _ _ (Nat.le_refl _),Nat.sub_self];rfl
 ·rw[set_append_right _ _ (by omega),show O.length+(j+1)-O.length=j+1 by omega];rfl
theorem oW(n:Nat)(O:List Obj):(n+1+1=n+2)∧(n+2+1=n+3)∧(n+3+1=n+4)∧(n+4+1=n+5)∧(n+5+1=n+6)∧(n+6+1=n+7)∧
  (∀X Y,(O++X)++Y=O++(X++Y))∧(∀(a:Obj) X,(a::X)[0]?=some a)∧(∀(a:Obj) X (j:Nat),(a::X)[j+1]?=X[j]?):=
 ⟨rfl,rfl,rfl,rfl,rfl,rfl,λ_ _=>List.append_assoc ..,λ_ _=>rfl,λ_ _ _=>rfl⟩
theorem ntS(k:Nat)(l:List Nat):noTwo ((4+2*k)::l)=noTwo l:=by simp[noTwo,aao]
theorem Fb(fn:Np)(y:Nat)(YB:YT)(n:Nat):((nI P fn y YB n).fn=fn)∧((nI P fn y YB n).QO.fn=fn)∧((nI P fn y YB n).rg=true)∧((nI P fn y YB n).nx=n):=
 ⟨rfl,rfl,rfl,rfl⟩
theorem kbI(fn:Np)(y:Nat)(YB:YT)(n m:Nat):(((nI P fn y YB n).oQ m).fn=fn)∧(((nI P fn y YB n).oQ m).QO.fn=fn)∧(((nI P fn y YB n).oQ m).rg=true)∧(((nI P fn y YB n).oQ m).nx=m):=
 ⟨rfl,rfl,rfl,rfl⟩
theorem aW.aaX {f:FuncId}{n:Nat}{C:LC}{args:List PV}{objs:List Obj}{K:KT}(h:aW P f n [] C)(hD:∀t,fI P t (D t))(hT:tZ P none (Ma objs.length) T)(hm:P.follows .mixedOrders=true)
  (hw:∀Q:Exit→St→Prop,(∀tm ob,Q .ret ⟨tm,ob⟩=K (.bI []) ob 2)→(∀tm ob,Q .normal ⟨tm,ob⟩=K (.bI []) ob 2)→iT P D T C Q ⟨(a_ args n).tmps,objs⟩):jI P f args objs K:=by
 refine h.adg hD hT hm (Nat.zero_le _) (hw _ (λtm ob=>?_) λtm ob=>?_)<;>simp[Zw,kX,gJ]
theorem aW.adG {f:FuncId}{n t:Nat}{C:LC}{args:List PV}{objs:List Obj}{K:KT}(h:aW P f n [.tmp t] C)(hD:∀t,fI P t (D t))(hT:tZ P none (Ma objs.length) T)(hm:P.follows .mixedOrders=true)(ht:t<n)
  (hw:∀Q:Exit→St→Prop,(∀l ob,Q .ret ⟨dR n l,ob⟩=K (qQ l t) ob 2)→iT P D T C Q ⟨(a_ args n).tmps,objs⟩):jI P f args objs K:=by
 refine h.adg hD hT hm (Nat.le_refl _) (hw _ λl ob=>?_)
 show ((_∨_)∧K (gJ [(dR n l).getD t .dead]) ob 2)=_
 rw[uP.2.1 n l t ht]
 simp[gJ]
structure Vx (I J:Nat→List Obj→Prop) (n len:Nat) (p:PV) (ob:List Obj):Prop where
 h:∃b,p=.bool b∧((b=true∧I len (ob.take n))∨(b=false∧∃i,i<len∧J i (ob.take n)))
theorem DW{I J:Nat→List Obj→Prop}{n len:Nat}{O X:List Obj}(h:I len O)(hl:O.length=n):Vx I J n len (.bool true) (O++X):=⟨true,rfl,.inl ⟨rfl,by rw[tK hl];exact h⟩⟩
theorem lK{I J:Nat→List Obj→Prop}{n len i:Nat}{O X:List Obj}(hi:i<len)(h:J i O)(hl:O.length=n):Vx I J n len (.bool false) (O++X):=⟨false,rfl,.inr ⟨rfl,i,hi,by rw[tK hl];exact h⟩⟩
theorem og{I J:Nat→List Obj→Prop}{n len:Nat}{O:List Obj}(h:I len O)(hl:O.length=n):Vx I J n len (.bool true) O:=by
 have:=DW (J:=J) (X:=[]) h hl
 rwa[append_nil]at this
theorem oJ{I J:Nat→List Obj→Prop}{n len i:Nat}{O:List Obj}(hi:i<len)(h:J i O)(hl:O.length=n):Vx I J n len (.bool false) O:=by
 have:=lK (I:=I) (X:=[]) hi h hl
 rwa[append_nil]at this
theorem aW.TQ {f:FuncId}{n t:Nat}{C:LC}{bargs:List PV}{ys:List (List PV)}{fnT:Np}(h:aW P f n [.tmp t] C)(hD:∀t,fI P t (D t))(hT:jX P fnT)(hm:P.follows .mixedOrders=true)(ht:t<n)
  (hw:∀(I J:Nat→List Obj→Prop) (objs:List Obj) (y:Nat) (Q:Exit→St→Prop),I 0 objs→(∀i O,I i O→O.length=objs.length∧bJ O)→(∀i O,J i O→O.length=objs.length∧bJ O∧bD O)→
   (∀l ob,Q .ret ⟨dR n l,ob⟩=Vx I J objs.length ys.length (qQ l t) ob)→iT P D (nI P fnT y (IK ys I J) objs.length) C Q ⟨(a_ (bargs++[.qN y]) n).tmps,objs⟩):fK P f bargs ys:=by
 refine h.Xa hD hT hm (by simp) λI J objs y h0 jm jJ=>hw I J objs y _ h0 jm jJ λl ob=>?_
 refine propext ⟨λ⟨_,b,h1,h2⟩=>⟨b,?_,h2⟩,λ⟨b,h1,h2⟩=>⟨.inr rfl,b,?_,h2⟩⟩
 ·simp only[kX,List.cons.injEq,and_true]at h1
  rw[←h1];exact (uP.2.1 n l t ht).symm
 ·simp only[kX,List.cons.injEq,and_true]
  rw[←h1];exact uP.2.1 n l t ht
theorem aW.ZN {f:FuncId}{n t:Nat}{ty:TypeId}{C:LC}{bargs:List PV}{ys:List (List PV)}{fnT:Np}(h:aW P f n [.cell t ty] C)(hD:∀t,fI P t (D t))(hT:jX P fnT)(hm:P.follows .mixedOrders=true)(ht:t<n)
  (hw:∀(I J:Nat→List Obj→Prop) (objs:List Obj) (y:Nat) (Q:Exit→St→Prop),I 0 objs→(∀i O,I i O→O.length=objs.length∧bJ O)→(∀i O,J i O→O.length=objs.length∧bJ O∧bD O)→
   (∀l ob,Q .ret ⟨dR n l,ob⟩=fq (D ty) (qQ l t) ob λp _ _=>Vx I J objs.length ys.length p ob)→iT P D (nI P fnT y (IK ys I J) objs.length) C Q ⟨(a_ (bargs++[.qN y]) n).tmps,objs⟩):fK P f bargs ys:=by
 refine h.Xa hD hT hm (by simp) λI J objs y h0 jm jJ=>hw I J objs y _ h0 jm jJ λl ob=>?_
 have key:∀(K:PV→Prop) (p:PV),(fq (D ty) p ob λp _ _=>K p)→∃q,(∀K':PV→Prop,K' q→fq (D ty) p ob λp _ _=>K' p)∧K q:=by
  intro K p h
  unfold fq at h
  split at h
  ·obtain⟨a,b,c,d⟩:=h
   exact⟨_,λK' hk=>⟨a,b,c,hk⟩,d⟩
  ·obtain⟨o,e,a1,a2,a3,a4,a5,a6,a7,a8,d⟩:=h
   exact⟨_,λK' hk=>⟨o,e,a1,a2,a3,a4,a5,a6,a7,a8,hk⟩,d⟩
  ·exact h.elim
 have ht':(dR n l).getD t .dead=qQ l t:=uP.2.1 n l t ht
 refine propext ⟨λ⟨_,b,h1,h2⟩=>?_,λh1=>?_⟩
 ·change fq (D ty) ((dR n l).getD t .dead) ob (λp _ _=>[p]=[.bool b]) at h1
  rw[ht']at h1
  obtain⟨q,hq,hb⟩:=key _ _ h1
  exact hq _ ⟨b,by simpa using hb,h2⟩
 ·obtain⟨q,hq,b,hb,h2⟩:=key _ _ h1
  refine⟨.inr rfl,b,?_,h2⟩
  show fq (D ty) ((dR n l).getD t .dead) ob (λp _ _=>[p]=[.bool b])
  rw[ht']
  exact hq (λp=>[p]=[.bool b]) (by rw[hb])
theorem abV{n m:Nat}{l:List (Nat×PV)}(h:geA n l=true):∀p∈dR m l,p.ge n=true:=by
 intro p hp
 obtain⟨i,hi,rfl⟩:=List.mem_iff_getElem.1 hp
 have:=n_ (m:=m) (ob:=[]) h i
 change ((dR m l).getD i .dead).ge n=true at this
 rwa[List.getD_eq_getElem?_getD,List.getElem?_eq_getElem hi]at this
theorem XY{O X:List Obj}{n k:Nat}(hO:O.length=n)(hl:bJ O)(hX:bD X)(hk:k=n+X.length):Gh k (O++X++[wC,hole]):=by
 subst hk
 have hl2:(O++X).length=n+X.length:=by rw[length_append,hO]
 refine⟨by simp[hO];omega,λo ho x hx c hc=>?_,?_,?_⟩
 ·rcases List.mem_append.1 ho with ho | ho
  ·rcases List.mem_append.1 ho with ho | ho
   ·exact Gt (by simp) (hl o ho x hx c hc)
   ·have:=hX o ho x hx c hc
    cases c<;>first | rfl | (simp[PV.ref]at this)
  ·simp only[List.mem_cons,List.not_mem_nil,or_false]at ho
   rcases ho with rfl | rfl<;>cases hx
 ·rw[←hl2,List.getElem?_append_right (Nat.le_refl _),Nat.sub_self];rfl
 ·rw[←hl2,List.getElem?_append_right (by omega),Nat.add_sub_cancel_left];rfl
theorem R8{O X:List Obj}(hO:bD O)(hX:bD X):bD (O++X++[wC,hole]):=by
 intro o ho x hx c hc
 rcases List.mem_append.1 ho with ho | ho
 ·rcases List.mem_append.1 ho with ho | ho
  ·exact hO o ho x hx c hc
  ·exact hX o ho x hx c hc
 ·simp only[List.mem_cons,List.not_mem_nil,or_false]at ho
  rcases ho with rfl | rfl<;>cases hx
theorem XZ{O X:List Obj}{k:Nat}(h:k=O.length+X.length):fT k (O++X++[wC,hole])=O++(X++[hole,wC]):=by
 have hl2:(O++X).length=k:=by rw[length_append,h]
 rw[fT,set_append_right _ _ (by omega),hl2,Nat.sub_self,set_append_right _ _ (by omega),hl2,Nat.add_sub_cancel_left,←List.append_assoc]
 rfl
theorem MJ{X:List Obj}(h:bD X)(n:Nat):Y5 n X:=λo ho x hx c hc=>kH (h o ho x hx c hc)
end Lp
namespace Lp
open Go Go.Proofs
open Int (natCast_add toNat_natCast)
def zA(R:List Int)(v:Nat)(i k:Int):List Obj:=[⟨3,1,R.map (.int .i64),true,v⟩,⟨80,1,[.aZ 0 v],true,1⟩,⟨3,1,[.int .i64 i],true,1⟩,⟨3,1,[.int .i64 k],true,1⟩]
theorem ZO(l:List (FuncId×eX)):((Jz Tryz.prog l).fn=lH l)∧((Jz Tryz.prog l).QO.fn=lH l)∧((Jz Tryz.prog l).nx=0)∧((Jz Tryz.prog l).rg=true):=⟨rfl,rfl,rfl,rfl⟩
theorem abW(l:List (FuncId×eX))(n:Nat):(((Jz Tryz.prog l).use n).fn=lH l)∧(((Jz Tryz.prog l).use n).QO.fn=lH l)∧(((Jz Tryz.prog l).use n).nx=n):=⟨rfl,rfl,rfl⟩
theorem Ic(R:List Int)(v a b i k:Nat)(K:KT)(ha:a≤1000000)(hb:b≤R.length)(hR:R.length≤1000000)(hi:i≤1000000)(hk:K (.bI []) (zA (wh (b-k) R i k a) v a b) 2)(hkk:k≤1000000) :
  jI Tryz.prog 118 [.int .i64 a,.int .i64 b,.bq 2 1 0 0,.bq 3 1 0 0,.bq 1 1 0 0] (zA R v i k) K:=by
 refine Ca.aaX hD (H9 ak 4) bC λQ hQ hQn=>?_
 (conv=>arg 4;cbv);simp (maxSteps:=400000) only[↓aA,aB,BEq.rfl,seval,hQ,zA]
 refine aU (λm S=>∃(i' k':Nat) (R':List Int),m=b-k'∧i'≤1000000∧k'≤1000000∧R'.length=R.length∧wh (b-k') R' i' k' a=wh (b-k) R i k a∧
  S=⟨dR 25 [(0,.int .i64 a),(1,.int .i64 b),(2,.bq 2 1 0 0),(3,.bq 3 1 0 0),(4,.bq 1 1 0 0)],zA R' v i' k'⟩) (b-k) ⟨i,k,R,rfl,hi,hkk,rfl,rfl,?_⟩ ?_
 ·simp only[dw,keepR,Nat.reduceAdd,pX,Nat.reduceBEq,List.map_nil]
  rfl
 rintro m S ⟨i',k',R',rfl,hi',hk',hR',hg,rfl⟩
 rcases Nat.lt_or_ge i' a with h1 | h1
 ·have h1':((i':Int)<(a:Int))=True:=eq_true (by omega)
  rcases Nat.lt_or_ge k' b with h2 | h2
  ·have h2':((k':Int)<(b:Int))=True:=eq_true (by omega)
   have hkl:((k':Int)<(R'.length:Int))=True:=eq_true (by omega)
   have zk:(0≤(k':Int))=True:=eq_true (by omega)
   have hgk:R'[k']?=some (R'.getD k' 0):=by
    rw[List.getD_eq_getElem?_getD,List.getElem?_eq_getElem (by omega)];rfl
   generalize R'.getD k' 0=z at hgk
   simp (maxSteps:=400000) only[↓aA,aB,BEq.rfl,seval,hQ,zA,abW,h1',h2',hkl,zk,hgk,H6,toNat_natCast]
   refine⟨⟨by omega,by omega⟩,⟨by omega,by omega⟩,by decide,b-(k'+1),by omega,i'+1,k'+1,R'.set k' i',rfl,by omega,by omega,by rw[List.length_set];exact hR',?_,?_⟩
   ·rw[show b-k'=(b-(k'+1))+1 by omega,wh,if_pos h1]at hg
    exact hg
   ·rw[List.map_set,natCast_add,natCast_add];rfl
  ·have h2':((k':Int)<(b:Int))=False:=eq_false (by omega)
   simp (maxSteps:=400000) only[↓aA,aB,BEq.rfl,seval,hQ,zA,abW,h1',h2',H6,hQn]
   rw[show b-k'=0 by omega]at hg
   rw[←hg]at hk
   exact hk
 ·have h1':((i':Int)<(a:Int))=False:=eq_false (by omega)
  simp (maxSteps:=400000) only[↓aA,aB,BEq.rfl,seval,hQ,zA,abW,h1',H6,hQn]
  have:wh (b-k') R' i' k' a=R':=by
   cases hm:b-k' with
   | zero=>rfl
   | succ m=>rw[wh,if_neg (by omega)]
  rw[this]at hg
  rw[←hg]at hk
  exact hk
theorem MK(old now:List Vl)(ho:old.length≤1000000)(hn:now.length≤1000000)(hlo:∀v∈old,v.length≤1000000)(hln:∀v∈now,v.length≤1000000) :
  av Tryz.prog 94 [dP old,dP now] [] (encI (fD old now)) []:=by
 refine EY.bY (T:=Jz Tryz.prog [(117,yX),(119,Cv),(65,dF)]) 1 hD (XV (af MH (af Pk (af rX ak)))) bC (by decide) λQ hQ=>?_
 (conv=>arg 4;cbv);simp (maxSteps:=400000) only[↓aA,aB,BEq.rfl,seval,hQ,ZO,↓yX,↓Cv,H6,toNat_natCast]
 refine⟨by omega,by omega,ho,hn,hlo,hln,?_⟩
 refine aU (λm S=>∃(a b i k:Nat) (R:List Int),m=(old.length-a)+(now.length-b)∧a≤old.length∧b≤now.length∧i≤1000000∧k≤1000000∧R.length=now.length∧
   oI old now m a b i k R=oI old now (old.length+now.length) 0 0 0 0 (List.replicate now.length (-1))∧
   S=⟨dR 83 [(0,dP old),(1,dP now),(5,.bq 1 1 0 0),(6,.bq 2 1 0 0),(7,.bq 3 1 0 0),(8,.fn 118 [] [.bq 2 1 0 0,.bq 3 1 0 0,.bq 1 1 0 0]),(9,GQ (dU old now)),(10,.int .i64 a),(11,.int .i64 b)],zA R 0 i k⟩)
  (old.length+now.length) ⟨0,0,0,0,List.replicate now.length (-1),by omega,by omega,by omega,by omega,by omega,by simp,rfl,?_⟩ ?_
 ·simp only[dw,keepR,Nat.reduceAdd,pX,Nat.reduceBEq,List.map_nil]
  rfl
 rintro m S ⟨a,b,i,k,R,rfl,hal,hbl,hi,hk,hR,AP,rfl⟩
 have hend:¬ (a<old.length∧b<now.length)→(wh (now.length-k) R i k old.length)=fD old now:=λh=>by
  rw[fD,←AP]
  cases hm:old.length-a+(now.length-b) with
  | zero=>rfl
  | succ m=>rw[oI,if_neg h]
 by_cases hab:a<old.length∧b<now.length
 ·obtain⟨ha,hb⟩:=hab
  have ha':((a:Int)<(old.length:Int))=True:=eq_true (by omega)
  have hb':((b:Int)<(now.length:Int))=True:=eq_true (by omega)
  have zaI:(0≤(a:Int))=True:=eq_true (by omega)
  have zbI:(0≤(b:Int))=True:=eq_true (by omega)
  have hx:old[a]?=some (old.getD a []):=by
   rw[List.getD_eq_getElem?_getD,List.getElem?_eq_getElem ha];rfl
  have hy:now[b]?=some (now.getD b []):=by
   rw[List.getD_eq_getElem?_getD,List.getElem?_eq_getElem hb];rfl
  have hxl:=hlo _ (List.mem_of_getElem? hx)
  have hyl:=hln _ (List.mem_of_getElem? hy)
  have hm:old.length-a+(now.length-b)=(old.length-a+(now.length-b)-1)+1:=by omega
  rw[hm,oI,if_pos ⟨ha,hb⟩]at AP
  generalize old.getD a []=x at hx hxl AP
  generalize now.getD b []=y at hy hyl AP
  by_cases hxy:x=y
  ·have hxy':=eq_true hxy
   rw[if_pos hxy]at AP
   simp (maxSteps:=400000) only[↓aA,aB,BEq.rfl,seval,hQ,zA]
   refine aT _ (Weak.refl _ _) ?_
   simp (maxSteps:=400000) only[↓aA,aB,BEq.rfl,seval,hQ,ZO,ha',hb',zaI,zbI,hx,hy,hxy',↓dF,toNat_natCast]
   refine⟨hxl,hyl,vC rfl rfl (Ic R 0 a b i k _ (by omega) (by omega) (by omega) hi ?_ hk)⟩
   have hGl:=Ct (b-k) R i k a
   generalize wh (b-k) R i k a=G at hGl AP
   have hgb:G[b]?=some (G.getD b 0):=by
    rw[List.getD_eq_getElem?_getD,List.getElem?_eq_getElem (by omega)];rfl
   generalize G.getD b 0=z at hgb
   have hbG:((b:Int)<(G.length:Int))=True:=eq_true (by omega)
   simp (maxSteps:=400000) only[↓aA,aB,BEq.rfl,seval,hQ,ZO,zA,zaI,zbI,hgb,hbG,H6,toNat_natCast]
   refine⟨⟨by omega,by omega⟩,⟨by omega,by omega⟩,old.length-a+(now.length-b)-2,by omega,a+1,b+1,a+1,b+1,G.set b a,by omega,by omega,by omega,by omega,by omega,by rw[List.length_set];omega,?_,?_⟩
   ·rw[←AP];exact yU _ _ (by omega) (by omega)
   ·rw[List.map_set,natCast_add,natCast_add];rfl
  ·have hxy':=eq_false hxy
   rw[if_neg hxy]at AP
   obtain⟨r1,hg1,e1⟩:∃r,(dU old now)[a+1]?=some r∧(dU old now).getD (a+1) []=r:=by
    rw[List.getD_eq_getElem?_getD,List.getElem?_eq_getElem (by rw[vo];omega)];exact⟨_,rfl,rfl⟩
   obtain⟨r0,hg0,e0⟩:∃r,(dU old now)[a]?=some r∧(dU old now).getD a []=r:=by
    rw[List.getD_eq_getElem?_getD,List.getElem?_eq_getElem (by rw[vo];omega)];exact⟨_,rfl,rfl⟩
   have hl1:=AO _ _ _ (List.mem_of_getElem? hg1)
   have hl0:=AO _ _ _ (List.mem_of_getElem? hg0)
   have f1:KN (dU old now) (a+1) b=r1.getD b 0:=by rw[KN,e1]
   have f0:KN (dU old now) a (b+1)=r0.getD (b+1) 0:=by rw[KN,e0]
   rw[f0,f1]at AP
   have hq1:r1[b]?=some (r1.getD b 0):=by
    rw[List.getD_eq_getElem?_getD,List.getElem?_eq_getElem (by omega)];rfl
   have hq0:r0[b+1]?=some (r0.getD (b+1) 0):=by
    rw[List.getD_eq_getElem?_getD,List.getElem?_eq_getElem (by omega)];rfl
   generalize r1.getD b 0=p at hq1 AP
   generalize r0.getD (b+1) 0=q at hq0 AP
   have za1:(0≤(a:Int)+1)=True:=eq_true (by omega)
   have zb1:(0≤(b:Int)+1)=True:=eq_true (by omega)
   have ta1:((a:Int)+1).toNat=a+1:=by omega
   have tb1:((b:Int)+1).toNat=b+1:=by omega
   by_cases hpq:q≤p
   ·have abX:=eq_true hpq
    rw[if_pos hpq]at AP
    simp (maxSteps:=400000) only[↓aA,aB,BEq.rfl,seval,hQ,zA]
    refine aT _ (Weak.refl _ _) ?_
    simp (maxSteps:=400000) only[↓aA,aB,BEq.rfl,seval,hQ,ZO,ha',hb',zaI,zbI,hx,hy,hxy',↓dF,toNat_natCast,za1,zb1,ta1,tb1,hg1,hg0,hq1,hq0,abX]
    refine⟨hxl,hyl,⟨by omega,by omega⟩,⟨by omega,by omega⟩,⟨by omega,by omega⟩,old.length-a+(now.length-b)-1,by omega,a+1,b,i,k,R,by omega,by omega,by omega,hi,hk,hR,AP,by rw[natCast_add];rfl⟩
   ·have abX:=eq_false hpq
    rw[if_neg hpq]at AP
    simp (maxSteps:=400000) only[↓aA,aB,BEq.rfl,seval,hQ,zA]
    refine aT _ (Weak.refl _ _) ?_
    simp (maxSteps:=400000) only[↓aA,aB,BEq.rfl,seval,hQ,ZO,ha',hb',zaI,zbI,hx,hy,hxy',↓dF,toNat_natCast,za1,zb1,ta1,tb1,hg1,hg0,hq1,hq0,abX]
    refine⟨hxl,hyl,⟨by omega,by omega⟩,⟨by omega,by omega⟩,⟨by omega,by omega⟩,old.length-a+(now.length-b)-1,by omega,a,b+1,i,k,R,by omega,by omega,by omega,hi,hk,hR,AP,by rw[natCast_add];rfl⟩
 ·have he:=hend hab
  rcases Nat.lt_or_ge a old.length with ha | ha
  ·have ha':((a:Int)<(old.length:Int))=True:=eq_true (by omega)
   have hb':((b:Int)<(now.length:Int))=False:=eq_false (by omega)
   simp (maxSteps:=400000) only[↓aA,aB,BEq.rfl,seval,hQ,zA]
   refine aT _ (Weak.refl _ _) ?_
   simp (maxSteps:=400000) only[↓aA,aB,BEq.rfl,seval,hQ,ZO,ha',hb']
   refine vC rfl rfl (Ic R 0 old.length now.length i k _ ho (by omega) (by omega) hi ?_ hk)
   rw[he]
   simp (maxSteps:=400000) only[↓aA,aB,BEq.rfl,seval,hQ,ZO,zA]
  ·have ha':((a:Int)<(old.length:Int))=False:=eq_false (by omega)
   simp (maxSteps:=400000) only[↓aA,aB,BEq.rfl,seval,hQ,zA]
   refine aT _ (Weak.refl _ _) ?_
   simp (maxSteps:=400000) only[↓aA,aB,BEq.rfl,seval,hQ,ZO,ha']
   refine vC rfl rfl (Ic R 0 old.length now.length i k _ ho (by omega) (by omega) hi ?_ hk)
   rw[he]
   simp (maxSteps:=400000) only[↓aA,aB,BEq.rfl,seval,hQ,ZO,zA]
def vD:eX:=λargs objs K=>match args with
 | [a0,a1]=>gy dP a0 (HK.mk:HK λa=>gy dP a1 (HK.mk:HK λb=>(a.length≤1000000)∧(b.length≤1000000)∧(∀v∈a,v.length≤1000000)∧(∀v∈b,v.length≤1000000)∧K (encI (fD a b)) objs 0))
 | _=>False
theorem JA:aQ Tryz.prog 94 (vD):=by
 intro args objs K h
 unfold vD at h
 split at h
 ·rename_i a0 a1
  obtain⟨a,rfl,b,rfl,h1,h2,h3,h4,hk⟩:=h
  exact⟨_,_,_,.pure _ rfl (MK a b h1 h2 h3 h4),hk⟩
 ·exact h.elim
end Lp
namespace Lp
open Go Go.Proofs
theorem Pp(l:List Int)(x:Int)(hl:l.length≤4611686018427387904):av Tryz.prog 121 [encI l,.int .i64 x] [] (.int .i64 (idxOf (λy=>decide (x=y)) l)) []:=by
 refine qR.bY (T:=bg Tryz.prog []) 0 hD (ay ak) bC (by decide) λQ hQ=>?_
 (conv=>arg 4;cbv);simp (maxSteps:=400000) only[↓aA,aB,BEq.rfl,seval,hQ]
 refine aU (λm S=>∃i:Nat,i+m=l.length∧(∀(j:Nat) y,j<i→l[j]?=some y→decide (x=y)=false)∧S=⟨dR 19 [(0,encI l),(1,.int .i64 x),(7,.int .i64 l.length),(8,.int .i64 i)],[]⟩) l.length ⟨0,by omega,λj y h=>absurd h (Nat.not_lt_zero j),?_⟩ ?_
 ·simp only[dw,keepR,Nat.reduceAdd,pX,Nat.reduceBEq,List.map_nil]
  rfl
 rintro m S ⟨i,him,hb,rfl⟩
 rcases Nat.lt_or_ge i l.length with h | h
 rotate_left 1
 ·have hlt:((i:Int)<(l.length:Int))=False:=eq_false (by omega)
  have hr:=AB (l:=l) λj y hj=>hb j y (by have:=(List.getElem?_eq_some_iff.1 hj).1;omega) hj
  simp (maxSteps:=400000) only[↓aA,aB,BEq.rfl,seval,hQ,hlt,hr]
 have hlt:((i:Int)<(l.length:Int))=True:=eq_true (by omega)
 have zi:(0≤(i:Int))=True:=eq_true (by omega)
 have hgi:=List.getElem?_eq_getElem h
 generalize l[i]=o at hgi
 by_cases hp:x=o
 ·have hr:idxOf (λy=>decide (x=y)) l=i:=idxOf_hit hgi (decide_eq_true hp) hb
  have hp':=eq_true hp
  simp (maxSteps:=400000) only[↓aA,aB,BEq.rfl,seval,hQ,hlt,zi,hgi,hp',hr]
 ·have hp':=eq_false hp
  simp (maxSteps:=400000) only[↓aA,aB,BEq.rfl,seval,hQ,hlt,zi,hgi,hp']
  refine⟨⟨by omega,by omega⟩,m-1,by omega,i+1,by omega,λj y hj hy=>?_,rfl⟩
  rcases Nat.lt_or_ge j i with g | g
  ·exact hb j y g hy
  ·have:j=i:=by omega
   subst this
   rw[hgi]at hy;cases hy
   exact decide_eq_false hp
def yY:eX:=λargs objs K=>match args with
 | [a0,.int .i64 x]=>gy encI a0 (HK.mk:HK λl=>(l.length≤4611686018427387904)∧K (.int .i64 (idxOf (λy=>decide (x=y)) l)) objs 0)
 | _=>False
theorem ML:aQ Tryz.prog 121 (yY):=by
 intro args objs K h
 unfold yY at h
 split at h
 ·rename_i a0 x
  obtain⟨l,rfl,h1,hk⟩:=h
  exact⟨_,_,_,.pure _ rfl (Pp l x h1),hk⟩
 ·exact h.elim
theorem Pq(l:List Int)(x:Int)(hl:l.length≤4611686018427387904):av Tryz.prog 96 [encI l,.int .i64 x] [] (.bool (l.any λy=>decide (x=y))) []:=by
 refine oU.bY (T:=bg Tryz.prog [(121,yY)]) 0 hD (ay (af ML ak)) bC (by decide) λQ hQ=>?_
 (conv=>arg 4;cbv);simp (maxSteps:=400000) only[↓aA,aB,BEq.rfl,seval,hQ,↓yY,DN]
 exact hl
def tL:eX:=λargs objs K=>match args with
 | [a0,.int .i64 x]=>gy encI a0 (HK.mk:HK λl=>(l.length≤4611686018427387904)∧K (.bool (l.any λy=>decide (x=y))) objs 0)
 | _=>False
theorem MN:aQ Tryz.prog 96 (tL):=by
 intro args objs K h
 unfold tL at h
 split at h
 ·rename_i a0 x
  obtain⟨l,rfl,h1,hk⟩:=h
  exact⟨_,_,_,.pure _ rfl (Pq l x h1),hk⟩
 ·exact h.elim
def JB(v:List Stp):Obj:=⟨43,3,v.map encS,true,0⟩
theorem xQ(v:List Stp):bD [JB v]:=by
 intro o ho x hx p hp
 simp only[List.mem_singleton]at ho
 subst ho
 simp only[JB,List.mem_map]at hx
 obtain⟨n,_,rfl⟩:=hx
 simp only[encS,PV.cells,List.mem_cons,List.not_mem_nil,or_false]at hp
 rcases hp with rfl | rfl | rfl<;>rfl
theorem X0(d n:Nat)(objs:List Obj)(v:List Stp):(v.map encS).map (PV.bU (gq d n objs))=v.map encS:=by
 rw[List.map_map]
 exact List.map_congr_left λx _=>rfl
theorem Ie(sz:Nat):av Tryz.prog 116 [.sl sz [] (some true)] [] (.aZ 0 0) [JB []]:=by
 refine gK.made (T:=bg Tryz.prog []) 0 hD (ay ak) bC ?_
 (conv=>arg 4;cbv);simp only[↓Nq,U2,↓Qj,↓Kv,↓Qk,Kw,↓zo,↓vY,Kz,Q9,Nat.reduceAdd,Nat.reduceSub,Dm,fgR,fu,V5,Tv,GJ,gQ,forall_const,reduceCtorEq,false_imp_iff,and_true,TK.slice.injEq,exists_eq',true_and]
 exact⟨_,0,0,_,Weak.Kh 2 43 3 rfl (by decide),rfl,rfl,rfl,rfl,rfl,xQ []⟩
theorem Ps(v:List Stp)(hv:v.length≤1099511627776):av Tryz.prog 116 [.sl 3 (v.map encS) (some false)] [] (.aZ 0 0) [JB v]:=by
 refine gK.made (T:=bg Tryz.prog []) 0 hD (ay ak) bC ?_
 (conv=>arg 4;cbv);simp only[↓Nq,U2,↓Qj,↓Kv,↓Qk,Kw,↓zo,↓vY,Kz,Q9,Nat.reduceAdd,Nat.reduceSub,Dm,fgR,fu,V5,Tv,GJ,gQ,forall_const,reduceCtorEq,false_imp_iff,and_true,TK.slice.injEq,exists_eq',true_and]
 simp only[bM,dO,nE,newObj,iL,fu,ne_eq,reduceCtorEq,not_false_eq_true,true_and,if_true,List.all_nil,Nat.zero_mul,Nat.zero_le,List.nil_append,List.length_nil,List.getElem?_cons_zero,Option.some.injEq]
 refine⟨rfl,rfl,rfl,rfl,?_,_,rfl,rfl,rfl,rfl,rfl,?_,?_,λ_ _ h=>h.elim,_,0,2,_,Weak.refl _ _,rfl,rfl,rfl,rfl,?_,xQ v⟩
 ·intro y hy
  obtain⟨n,_,rfl⟩:=List.mem_map.1 hy
  exact⟨rfl,rfl⟩
 ·simp;omega
 ·simp;omega
 ·simp only[fJ,JB,List.replicate_zero,List.nil_append,X0]
theorem Pt(v:List Stp)(hv:v.length≤1099511627776):av Tryz.prog 116 [bf v] [] (.aZ 0 0) [JB v]:=
 av.split (pre:=[]) (post:=[]) (λh=>by
  have:v=[]:=by simpa using h
  subst this
  exact Ie 3) (Ps v hv)
def bZ(p:List Stp):PV:=if p=[] then .sl 0 [] (some true) else bf p
theorem Pv(p:List Stp):gD (bZ p) (bf p):=by
 unfold bZ
 split
 ·rename_i h;subst h;exact jv 0 3
 ·exact .refl _
def AQ:eX:=λargs objs K=>∃p:List Stp,args=[bZ p]∧p.length≤1000000∧K (.aZ objs.length 0) (objs++[JB p]) 2
theorem JC:aQ Tryz.prog 116 AQ:=by
 rintro args objs K ⟨p,rfl,hp,hk⟩
 have hs:av Tryz.prog 116 [bZ p] [] (.aZ 0 0) [JB p]:=by
  unfold bZ
  split
  ·rename_i h;subst h;exact Ie 0
  ·exact Pt p (by omega)
 exact⟨_,_,_,mO.made (objs:=objs) _ _ (by unfold bZ;split<;>rfl) (xQ p) hs,by simpa[PV.shift,PV.jV] using hk⟩
theorem jM(x:Stp):gq 1 0 [⟨43,3,[encS x],true,1⟩] (.bq 0 1 0 0)=.addr (encS x):=rfl
theorem R9:PV.yo (.agg ⟨[.bool false,.string ⟨⟨[]⟩⟩,.int .i64 0]⟩)=encS ⟨false,[],0⟩:=rfl
theorem aer(l:List Stp)(x:Stp):l.map encS++[encS x]=(l++[x]).map encS:=by simp
theorem yZ(p:List Stp):(bZ p).pure=true∧(∀d m O,jP d m O (bZ p)=bZ p)∧(∀d m O,gq d m O (bZ p)=bZ p)∧(bZ p).cells=[bZ p]∧(bZ p).isAgg=false∧(bZ p).ref=false∧(bZ p).nH=true∧(bZ p).storable=true:=by
 unfold bZ
 split
 all_goals exact⟨rfl,λ_ _ _=>rfl,λ_ _ _=>rfl,rfl,rfl,rfl,rfl,rfl⟩
theorem pqL(p:List Stp)(objs:List Obj)(K:KT):qP D 36 (bZ p) objs K=K (.int .i64 p.length) objs 0:=by
 unfold bZ
 split
 ·rename_i h;subst h;simp only[qP,fu];rfl
 ·simp only[qP,bf,fu,List.length_map]
theorem pqB(p:List Stp)(objs:List Obj)(K:KT):AQ [bZ p] objs K=(p.length≤1000000∧K (.aZ objs.length 0) (objs++[JB p]) 2):=by
 refine propext ⟨λ⟨q,he,h⟩=>?_,λh=>⟨p,rfl,h⟩⟩
 have:p=q:=by
  simp only[List.cons.injEq,and_true]at he
  unfold bZ at he
  split at he<;>split at he
  ·rename_i h1 h2;rw[h1,h2]
  ·simp[bf]at he
  ·simp[bf]at he
  ·exact lX _ _ he
 subst this
 exact h
theorem Vy(p:List Stp)(x:Stp)(hp:p.length≤1000):av Tryz.prog 93 [bZ p,encS x] [] (bf (p++[x])) []:=by
 refine Ox.bY (T:=bg Tryz.prog [(116,AQ)]) 1 hD (ay (af JC ak)) bC (by decide) λQ hQ=>?_
 (conv=>arg 4;cbv);simp (maxSteps:=400000) only[↓aA,aB,BEq.rfl,seval,hQ,yZ]
 refine aT _ (Weak.freeze 1 0 (Nat.zero_le _) _) ?_
 simp (maxSteps:=400000) only[↓aA,aB,BEq.rfl,seval,hQ,pqB,yZ,JB,jM,R9,aer]
 exact⟨by omega,by omega,by omega,by decide⟩
def Cx:eX:=λargs objs K=>∃(p:List Stp) (x:Stp),args=[bZ p,encS x]∧p.length≤1000∧K (bf (p++[x])) objs 0
theorem EK:aQ Tryz.prog 93 Cx:=by
 rintro args objs K ⟨p,x,rfl,hp,hk⟩
 exact⟨_,_,_,.pure _ (by simp[(yZ p).1];rfl) (Vy p x hp),hk⟩
theorem Vz{p q:List Stp}(he:bZ p=bZ q):p=q:=by
 unfold bZ at he
 split at he<;>split at he
 ·rename_i h1 h2;rw[h1,h2]
 ·simp[bf]at he
 ·simp[bf]at he
 ·exact lX _ _ he
theorem ZP(p:List Stp)(x:Stp)(objs:List Obj)(K:KT):Cx [bZ p,encS x] objs K=(p.length≤1000∧K (bf (p++[x])) objs 0):=by
 refine propext ⟨λ⟨q,y,he,h⟩=>?_,λh=>⟨p,x,rfl,h⟩⟩
 simp only[List.cons.injEq,and_true]at he
 obtain⟨h1,h2⟩:=he
 obtain rfl:=Vz h1
 obtain rfl:=sS _ _ h2
 exact h
def qG(k:Int)(p v:PV):PV:=.agg [.int .i64 k,p,v]
theorem DX(objs:List Obj)(K:KT) :
  (∀b k,dH D 43 [(0,.bool b),(2,.int .i64 k)] objs K=K (encS ⟨b,[],k⟩) objs 0)∧
  (∀s,dH D 43 [(1,.str s)] objs K=K (encS ⟨false,s,0⟩) objs 0)∧
  (∀k p,dH D 38 [(0,.int .i64 k),(1,bf p)] objs K=K (qG k (bf p) (.sl 0 [] (some true))) objs 0)∧
  (∀k p v,dH D 38 [(0,.int .i64 k),(1,bf p),(2,aj v)] objs K=K (qG k (bf p) (aj v)) objs 0)∧
  (∀k p v,dH D 38 [(0,.int .i64 k),(1,bZ p),(2,aj v)] objs K=K (qG k (bZ p) (aj v)) objs 0):=by
 have z:aL (D 43)=encS ⟨false,[],0⟩:=by kernel_rfl
 have a:(D 43).agg=true:=by kernel_rfl
 have z2:aL (D 38)=.agg [.int .i64 0,.sl 0 [] (some true),.sl 0 [] (some true)]:=by kernel_rfl
 have a2:(D 38).agg=true:=by kernel_rfl
 simp only[fu]at z a z2 a2
 refine⟨λb k=>?_,λs=>?_,λk p=>?_,λk p v=>?_,λk p v=>?_⟩
 ·simp[dH,oO,a,z,fu,o8,encS,PV.isAgg,wJ,PV.cells,PV.storable,PV.nH,PV.pure]
 ·simp[dH,oO,a,z,fu,o8,encS,PV.isAgg,wJ,PV.cells,PV.storable,PV.nH,PV.pure]
 ·simp[dH,oO,a2,z2,fu,o8,qG,bf,aj,wJ,PV.cells,PV.isAgg,PV.storable,PV.nH,PV.pure]
 ·simp[dH,oO,a2,z2,fu,o8,qG,bf,aj,wJ,PV.cells,PV.isAgg,PV.storable,PV.nH,PV.pure]
 ·unfold bZ
  split
  all_goals simp[dH,oO,a2,z2,fu,o8,qG,bf,aj,wJ,PV.cells,PV.isAgg,PV.storable,PV.nH,PV.pure]
end Lp
namespace Lp
open Go
def oh(a b:Vl):List (List UInt8):=rG (aK a++(aK b).filter λx=>!(aK a).contains x)
def nJ(g:List Stp→Vl→Vl→List Ed)(p:List Stp)(a b:Vl)(nm:List UInt8):List Ed:=
 if dS b nm then
  if dS a nm then g (p++[⟨false,nm,0⟩]) (bH a nm) (bH b nm)
  else [⟨1,p++[⟨false,nm,0⟩],bH b nm⟩]
 else [⟨2,p++[⟨false,nm,0⟩],[]⟩]
def iy(p:List Stp)(n:Nat)(at':List Int)(k:Nat):List Ed:=
 ((List.range k).map λj=>n-1-j).flatMap λ(k:Nat)=>if (at'.any λy=>decide ((k:Int)=y)) then [] else [⟨2,p++[⟨true,[],k⟩],[]⟩]
def lM(p:List Stp)(n:Nat)(at':List Int):List Ed:=iy p n at' n
theorem rM(p:List Stp)(n:Nat)(at':List Int)(k:Nat) :
  iy p n at' (k+1)=iy p n at' k++if (at'.any λy=>decide (((n-1-k:Nat):Int)=y)) then [] else [⟨2,p++[⟨true,[],(n-1-k:Nat)⟩],[]⟩]:=by
 simp only[iy,List.range_succ,List.map_append,List.flatMap_append,List.map_cons,List.map_nil,List.flatMap_cons,List.flatMap_nil,List.append_nil]
theorem R_(p:List Stp)(n:Nat)(at':List Int){k:Nat}(h:k≤n):∃l,lM p n at'=iy p n at' k++l:=by
 have key:∀(m:Nat),∃l,iy p n at' (k+m)=iy p n at' k++l:=by
  intro m
  induction m with
  | zero=>exact⟨[],by simp⟩
  | succ m ih=>
   obtain⟨l,hl⟩:=ih
   exact⟨_,by rw[←Nat.add_assoc,rM,hl,List.append_assoc]⟩
 obtain⟨l,hl⟩:=key (n-k)
 rw[show k+(n-k)=n by omega]at hl
 exact⟨l,hl⟩
def AR(g:List Stp→Vl→Vl→List Ed)(p:List Stp)(old now:List Vl)(at':List Int)(i:Nat):List Ed:=
 if 0≤at'.getD i 0 then g (p++[⟨true,[],i⟩]) (old.getD (at'.getD i 0).toNat []) (now.getD i [])
 else [⟨1,p++[⟨true,[],i⟩],now.getD i []⟩]
def m_(g:List Stp→Vl→Vl→List Ed)(p:List Stp)(old now:List Vl):List Ed:=
 lM p old.length (fD old now)++(List.range now.length).flatMap (AR g p old now (fD old now))
def aH:Nat→List Stp→Vl→Vl→List Ed
 | 0,p,a,b=>if a=b then [] else [⟨0,p,b⟩]
 | f+1,p,a,b=>
  if a=b then []
  else if aO a=6∧aO b=6 then (oh a b).flatMap (nJ (aH f) p a b)
  else if aO a=5∧aO b=5 then m_ (aH f) p (ax a) (ax b)
  else [⟨0,p,b⟩]
def oZ(e:Ed):PV:=qG e.kind (bZ e.p) (if e.kind=2 then .sl 0 [] (some true) else aj e.v)
def jN(l:List Ed):List (List PV):=l.map λe=>[oZ e]
theorem Pw(p:List Stp)(x:Stp)(v:Vl):oZ ⟨1,p++[x],v⟩=qG 1 (bf (p++[x])) (aj v):=by
 simp[oZ,bZ]
theorem X3(p:List Stp)(v:Vl):oZ ⟨0,p,v⟩=qG 0 (bZ p) (aj v):=by simp[oZ]
theorem KO(p:List Stp)(x:Stp)(v:Vl):oZ ⟨2,p++[x],v⟩=qG 2 (bf (p++[x])) (.sl 0 [] (some true)):=by
 simp[oZ,bZ]
theorem y7(k:Int)(p v:PV)(h1:p.ref=false)(h2:v.ref=false):(qG k p v).pure=true:=by
 show ((!PV.ref (.int .i64 k)) && ((!p.ref) && ((!v.ref) && true)))=true
 rw[h1,h2];rfl
theorem Cy{l1 l2 l3:List Ed}{e:Ed}:(jN (l1++(e::l2++l3)))[l1.length]?=some [oZ e]:=by
 simp[jN]
theorem KP{l1 l2 l3:List Ed}{j:Nat}{x:List PV}(h:(jN l2)[j]?=some x):(jN (l1++(l2++l3)))[l1.length+j]?=some x:=by
 have hj:j<l2.length:=by
  have:=(List.getElem?_eq_some_iff.1 h).1
  simpa[jN] using this
 simp only[jN,List.map_append]
 rw[List.getElem?_append_right (by simp),List.length_map,Nat.add_sub_cancel_left,List.getElem?_append_left (by simpa using hj)]
 exact h
theorem gT(l:List Ed):(jN l).length=l.length:=by simp[jN]
def l5(g:List Stp→Vl→Vl→List Ed)(p:List Stp)(old now:List Vl)(at':List Int)(i:Nat):List Ed:=(List.range i).flatMap (AR g p old now at')
theorem AU(g:List Stp→Vl→Vl→List Ed)(p:List Stp)(old now:List Vl)(at':List Int)(i:Nat):l5 g p old now at' (i+1)=l5 g p old now at' i++AR g p old now at' i:=by
 simp only[l5,List.range_succ,List.flatMap_append,List.flatMap_cons,List.flatMap_nil,List.append_nil]
theorem VA(g:List Stp→Vl→Vl→List Ed)(p:List Stp)(old now:List Vl)(at':List Int){i n:Nat}(h:i≤n):∃l,l5 g p old now at' n=l5 g p old now at' i++l:=by
 have key:∀(m:Nat),∃l,l5 g p old now at' (i+m)=l5 g p old now at' i++l:=by
  intro m
  induction m with
  | zero=>exact⟨[],by simp⟩
  | succ m ih=>
   obtain⟨l,hl⟩:=ih
   exact⟨_,by rw[←Nat.add_assoc,AU,hl,List.append_assoc]⟩
 obtain⟨l,hl⟩:=key (n-i)
 rw[show i+(n-i)=n by omega]at hl
 exact⟨l,hl⟩
end Lp
namespace Lp
open Go
structure DY (R:List Int) (k:Nat) (i:Int):Prop where
 lt:∀(x:Nat) u,R[x]?=some u→0≤u→x<k∧u<i
 up:∀(x y:Nat) u v,x<y→R[x]?=some u→R[y]?=some v→0≤u→0≤v→u<v
theorem DY.le {R:List Int}{k k':Nat}{i i':Int}(h:DY R k i)(hk:k≤k')(hi:i≤i'):DY R k' i':=
 ⟨λx u hx hu=>by have:=h.lt x u hx hu;omega,h.up⟩
theorem DY.set {R:List Int}{k i:Nat}(h:DY R k i):DY (R.set k (i:Int)) (k+1) (i+1:Nat):=by
 have hx:∀(x:Nat) u,(R.set k (i:Int))[x]?=some u→(x=k∧u=i)∨(x≠k∧R[x]?=some u):=λx u hx=>by
  by_cases e:x=k
  ·subst e
   rw[List.getElem?_set]at hx
   simp only[if_true]at hx
   split at hx
   ·exact .inl ⟨rfl,(Option.some.inj hx).symm⟩
   ·cases hx
  ·rw[List.getElem?_set_ne (λh=>e h.symm)]at hx
   exact .inr ⟨e,hx⟩
 refine⟨λx u hxu hu=>?_,λx y u v hxy hxu hyv hu hv=>?_⟩
 ·rcases hx x u hxu with ⟨rfl,rfl⟩ | ⟨_,h1⟩
  ·omega
  ·have:=h.lt x u h1 hu;omega
 ·rcases hx x u hxu with ⟨rfl,rfl⟩ | ⟨e1,h1⟩
  ·rcases hx y v hyv with ⟨rfl,rfl⟩ | ⟨_,h2⟩
   ·omega
   ·have:=h.lt y v h2 hv;omega
  ·rcases hx y v hyv with ⟨rfl,rfl⟩ | ⟨_,h2⟩
   ·have:=h.lt x u h1 hu;omega
   ·exact h.up x y u v hxy h1 h2 hu hv
theorem DZ:∀(m:Nat){R:List Int}{i k:Nat}(a:Nat),DY R k i→i≤a→DY (wh m R i k a) (k+m) a
 | 0,_,_,_,_,h,hi=>h.le (by omega) (by omega)
 | m+1,R,i,k,a,h,hi=>by
  rw[wh]
  split
  ·exact (DZ m a h.set (by omega)).le (by omega) (Int.le_refl _)
  ·exact h.le (by omega) (by omega)
theorem y8{old now:List Vl}:∀(f a b i k:Nat){R:List Int},DY R k i→i≤a→k≤b→a≤old.length→b≤now.length→
  ∃i' k',(oI old now f a b i k R).2=(i',k')∧DY (oI old now f a b i k R).1 k' i'∧i'≤old.length∧k'≤now.length
 | 0,a,b,i,k,R,h,hi,hk,ha,hb=>⟨i,k,rfl,h,by omega,by omega⟩
 | f+1,a,b,i,k,R,h,hi,hk,ha,hb=>by
  rw[oI]
  split
  ·rename_i hab
   split
   ·refine y8 f _ _ _ _ ?_ (Nat.le_refl _) (Nat.le_refl _) (by omega) (by omega)
    have:=DZ (b-k) a h hi
    rw[show k+(b-k)=b by omega]at this
    exact this.set
   ·split
    ·exact y8 f _ _ _ _ h (by omega) hk (by omega) hb
    ·exact y8 f _ _ _ _ h hi (by omega) ha (by omega)
  ·exact⟨i,k,rfl,h,by omega,by omega⟩
theorem Ig(old now:List Vl):DY (fD old now) now.length old.length:=by
 have h0:DY (List.replicate now.length (-1:Int)) 0 (0:Nat):=by
  have hn:∀(x:Nat) u,(List.replicate now.length (-1:Int))[x]?=some u→¬ 0≤u:=λx u hx hu=>by
   rw[List.getElem?_replicate]at hx
   split at hx
   ·cases hx;omega
   ·cases hx
  exact⟨λx u hx hu=>absurd hu (hn x u hx),λx y u v _ hx _ hu _=>absurd hu (hn x u hx)⟩
 obtain⟨i,k,e,h,hi,hk⟩:=y8 (old:=old) (now:=now) (old.length+now.length) 0 0 0 0 h0 (Nat.le_refl _) (Nat.le_refl _) (Nat.zero_le _) (Nat.zero_le _)
 rw[fD]
 generalize oI old now (old.length+now.length) 0 0 0 0 (List.replicate now.length (-1))=x at e h
 obtain⟨R,i',k'⟩:=x
 simp only[Prod.mk.injEq]at e
 obtain⟨rfl,rfl⟩:=e
 have:=DZ (now.length-k') old.length h hi
 rw[show k'+(now.length-k')=now.length by omega]at this
 exact this
end Lp
namespace Lp
open Go
open List (map_cons map_map mem_filter mem_range mem_singleton sum_cons)
theorem FE{α:Type}[DecidableEq α](f:α→Nat):∀(l m:List α),l.Nodup→(∀x∈l,f x≠0→x∈m)→(l.map f).sum≤(m.map f).sum
 | [],_,_,_=>by simp
 | x::l,m,hn,h=>by
  obtain⟨hx,hn'⟩:=List.nodup_cons.1 hn
  by_cases h0:f x=0
  ·rw[map_cons,sum_cons,h0,Nat.zero_add]
   exact FE f l m hn' λy hy=>h y (List.mem_cons_of_mem _ hy)
  ·have hm:=h x (List.mem_cons_self ..) h0
   have hp:=((List.perm_cons_erase hm).map f).sum_nat
   have:=FE f l (m.erase x) hn' λy hy h1=>by
    refine (List.mem_erase_of_ne λe=>hx (by rw[←e];exact hy)).2 (h y (List.mem_cons_of_mem _ hy) h1)
   rw[map_cons,sum_cons]at hp ⊢
   omega
theorem MO{α:Type}{f g:α→Nat}:∀{l:List α},(∀x∈l,f x≤g x)→(l.map f).sum≤(l.map g).sum
 | [],_=>by simp
 | x::l,h=>by
  have h1:=h x (List.mem_cons_self ..)
  have h2:=MO (l:=l) λy hy=>h y (List.mem_cons_of_mem _ hy)
  simp only[map_cons,sum_cons]
  omega
theorem MP{α:Type}{f g:α→Nat}:∀(l:List α),(l.map λx=>f x+g x).sum=(l.map f).sum+(l.map g).sum
 | []=>rfl
 | x::l=>by
  have:=MP (f:=f) (g:=g) l
  simp only[map_cons,sum_cons]at *
  omega
theorem vE{a b:Vl}(ha:(aK a).Nodup)(hb:(aK b).Nodup):(oh a b).Nodup:=by
 have h:(aK a++(aK b).filter λx=>!(aK a).contains x).Nodup:=by
  rw[List.nodup_append]
  refine⟨ha,hb.filter _,λx hx y hy e=>?_⟩
  subst e
  have:=(mem_filter.1 hy).2
  simp[hx]at this
 exact (List.mergeSort_perm ..).nodup_iff.2 h
theorem lN{a b:Vl}{x:List UInt8}:x∈oh a b↔x∈aK a∨x∈aK b:=by
 rw[oh,rG,(List.mergeSort_perm ..).mem_iff,List.mem_append,mem_filter]
 by_cases h:x∈aK a<;>simp[h]
theorem l6{v:Vl}(h:Rt v)(hk:aO v=6):(aK v).Nodup:=by
 rw[(dz h hk).2.2.1]
 exact fE (dz h hk).1.rise
theorem oC{v:Vl}(h:Rt v)(hk:aO v=6)(nm:List UInt8):dS v nm=true↔nm∈aK v:=by
 rw[dS,fM,if_pos hk,(dz h hk).2.2.1]
 cases hg:jh (jC v) nm with
 | none=>
  have:=nO.1 hg
  simp only[Option.isSome_none,Bool.false_eq_true,this]
 | some w=>simpa using ⟨w,iI hg⟩
theorem X4{v:Vl}{nm:List UInt8}(h:dS v nm=false):bH v nm=[]:=by
 unfold dS at h
 unfold bH
 cases ho:fM v nm with
 | none=>rfl
 | some w=>rw[ho]at h;cases h
theorem KQ{v:Vl}{nm:List UInt8}(hr:Rt v)(hk:aO v=6)(h:dS v nm=true):(nm,bH v nm)∈jC v:=by
 unfold dS at h
 unfold bH
 cases ho:fM v nm with
 | none=>rw[ho]at h;cases h
 | some w=>rw[fM,if_pos hk]at ho;exact iI ho
theorem fields_sum{v:Vl}(hr:Rt v)(hk:aO v=6):((aK v).map λnm=>(bH v nm).length).sum+1=v.length:=by
 obtain⟨h1,h2,h3,h4⟩:=dz hr hk
 have h5:=ve (jC v)
 rw[h2]at h5
 rw[h5,h3,map_map,List.length_flatten,map_map]
 congr 2
 refine List.map_congr_left λx hx=>?_
 have:jh (jC v) x.1=some x.2:=oD (fE h1.rise) hx
 simp only[Function.comp,bH,fM,if_pos hk,this,Option.getD_some]
theorem xR{l:List Vl}:((List.range l.length).map λk=>(l.getD k []).length).sum=l.flatten.length:=by
 rw[List.length_flatten]
 congr 1
 apply List.ext_getElem
 ·simp
 ·intro i h1 h2
  simp only[List.getElem_map,List.getElem_range]
  rw[List.getD_eq_getElem?_getD,List.getElem?_eq_getElem (by simpa using h2)];rfl
theorem D5{v:Vl}(h:Rt v):1≤v.length:=List.length_pos_iff.2 h.one.ne
theorem Sb(p:List Stp)(n:Nat)(at':List Int)(k:Nat):(iy p n at' k).length=(((List.range k).map λj=>n-1-j).filter λ(k:Nat)=>!(at'.any λy=>decide ((k:Int)=y))).length:=by
 unfold iy
 generalize (List.range k).map (λj=>n-1-j)=l
 induction l with
 | nil=>rfl
 | cons x l ih=>
  rw[List.flatMap_cons,List.length_append,ih,List.filter_cons]
  split
  ·rename_i h;simp[h]
  ·rename_i h;simp[h];omega
theorem xS{α β:Type}(f:α→List β):∀l:List α,(l.flatMap f).length=(l.map λx=>(f x).length).sum
 | []=>rfl
 | x::l=>by rw[List.flatMap_cons,List.length_append,xS f l];rfl
theorem VB{g:List Stp→Vl→Vl→List Ed}{p:List Stp}{old now:List Vl}(hg:∀q x y,x∈old→y∈now→(g q x y).length≤x.length+y.length)
  (ho:∀x∈old,1≤x.length) (hn:∀y∈now,1≤y.length):(m_ g p old now).length≤old.flatten.length+now.flatten.length:=by
 obtain⟨R,hR⟩:∃R,fD old now=R:=⟨_,rfl⟩
 have hm:=Ig old now
 have hin:=xO old now
 have hlen:=yV old now
 rw[hR]at hm hin hlen
 unfold m_
 rw[hR,List.length_append,lM,Sb,xS]
 have hget:∀{l:List Vl}{k:Nat},k<l.length→l.getD k []∈l:=λ{l k} h=>by
  rw[List.getD_eq_getElem?_getD,List.getElem?_eq_getElem h];exact List.getElem_mem h
 have hri:∀i,i<now.length→∃u,R[i]?=some u∧R.getD i 0=u∧-1≤u∧u<old.length:=λi hi=>by
  have hg:=List.getElem?_eq_getElem (hlen ▸ hi:i<R.length)
  exact⟨_,hg,by rw[List.getD_eq_getElem?_getD,hg];rfl,hin _ (List.mem_of_getElem? hg)⟩
 obtain⟨A,hA⟩:∃A,(((List.range old.length).map λj=>old.length-1-j).filter λ(k:Nat)=>!(R.any λy=>decide ((k:Int)=y)))=A:=⟨_,rfl⟩
 obtain⟨B,hB⟩:∃B,((List.range now.length).filter λi=>decide (0≤R.getD i 0))=B:=⟨_,rfl⟩
 rw[hA]
 have hAm:∀k∈A,k<old.length∧∀y∈R,(k:Int)≠y:=λk hk=>by
  rw[←hA,mem_filter,List.mem_map]at hk
  obtain⟨⟨j,hj,rfl⟩,h2⟩:=hk
  rw[mem_range]at hj
  refine⟨by omega,λy hy e=>?_⟩
  have:(R.any λz=>decide (((old.length-1-j:Nat):Int)=z))=true:=List.any_eq_true.2 ⟨y,hy,by simpa using e⟩
  rw[this]at h2;cases h2
 have hAn:A.Nodup:=by
  rw[←hA]
  refine List.Pairwise.filter _ ?_
  rw[List.pairwise_map]
  refine (List.pairwise_lt_range (n:=old.length)).imp_of_mem λ{a b} ha hb h=>?_
  rw[mem_range]at ha hb
  omega
 have hBm:∀i∈B,i<now.length∧0≤R.getD i 0:=λi hi=>by
  rw[←hB,mem_filter,mem_range]at hi
  exact⟨hi.1,of_decide_eq_true hi.2⟩
 have hBn:(B.map λi=>(R.getD i 0).toNat).Nodup:=by
  rw[List.Nodup,List.pairwise_map,←hB]
  refine List.Pairwise.imp_of_mem ?_ (List.Pairwise.filter _ (List.pairwise_lt_range (n:=now.length)))
  intro a b ha hb h
  rw[hB]at ha hb
  obtain⟨a1,a2⟩:=hBm a ha
  obtain⟨b1,b2⟩:=hBm b hb
  obtain⟨u,u1,u2,_⟩:=hri a a1
  obtain⟨v,v1,v2,_⟩:=hri b b1
  have:=hm.up a b u v h u1 v1 (by omega) (by omega)
  rw[u2,v2];omega
 have h1:((A++B.map λi=>(R.getD i 0).toNat).map λk=>(old.getD k []).length).sum≤((List.range old.length).map λk=>(old.getD k []).length).sum:=by
  refine FE _ _ _ ?_ λx hx _=>?_
  ·rw[List.nodup_append]
   refine⟨hAn,hBn,λx hx y hy e=>?_⟩
   obtain⟨i,hi,rfl⟩:=List.mem_map.1 hy
   obtain⟨i1,i2⟩:=hBm i hi
   obtain⟨u,u1,u2,_⟩:=hri i i1
   exact (hAm x hx).2 u (List.mem_of_getElem? u1) (by rw[u2]at i2 e;omega)
  ·rw[mem_range]
   rcases List.mem_append.1 hx with hx | hx
   ·exact (hAm x hx).1
   ·obtain⟨i,hi,rfl⟩:=List.mem_map.1 hx
    obtain⟨i1,i2⟩:=hBm i hi
    obtain⟨u,u1,u2,u3,u4⟩:=hri i i1
    show (R.getD i 0).toNat< _
    omega
 rw[xR,List.map_append,List.sum_append,map_map]at h1
 have h2:A.length≤(A.map λk=>(old.getD k []).length).sum:=by
  have:(A.map λ_=>1).sum≤(A.map λk=>(old.getD k []).length).sum:=MO λk hk=>ho _ (hget (hAm k hk).1)
  rw[List.map_const',List.sum_replicate_nat,Nat.mul_one]at this
  exact this
 have h3:((List.range now.length).map λi=>(AR g p old now R i).length).sum≤((List.range now.length).map λi=>(if 0≤R.getD i 0 then (old.getD (R.getD i 0).toNat []).length else 0)+(now.getD i []).length).sum:=by
  refine MO λi hi=>?_
  rw[mem_range]at hi
  unfold AR
  split
  ·obtain⟨u,u1,u2,u3,u4⟩:=hri i hi
   exact hg _ _ _ (hget (by omega)) (hget hi)
  ·have:=hn _ (hget hi)
   simpa using this
 rw[MP,xR]at h3
 have h4:((List.range now.length).map λi=>if 0≤R.getD i 0 then (old.getD (R.getD i 0).toNat []).length else 0).sum≤(B.map λi=>(old.getD (R.getD i 0).toNat []).length).sum:=by
  rw[←hB]
  generalize List.range now.length=l
  induction l with
  | nil=>simp
  | cons i l ih=>
   rw[map_cons,sum_cons,List.filter_cons]
   split<;>rename_i h
   ·rw[if_pos (by simpa using h),map_cons,sum_cons];omega
   ·rw[if_neg (by simpa using h)];omega
 simp only[Function.comp_def]at h1
 omega
theorem X5{g:List Stp→Vl→Vl→List Ed}{p:List Stp}{a b:Vl}(ha:Rt a)(hb:Rt b)(ka:aO a=6)(kb:aO b=6)(hg:∀q x y,x∈ax a→y∈ax b→(g q x y).length≤x.length+y.length) :
  ((oh a b).flatMap (nJ g p a b)).length+2≤a.length+b.length:=by
 have hn:=vE (l6 ha ka) (l6 hb kb)
 have mem:∀{v:Vl}{nm},Rt v→aO v=6→dS v nm=true→bH v nm∈ax v:=λ{v nm} hr hk h=>by
  rw[(dz hr hk).2.2.2];exact List.mem_map.2 ⟨_,KQ hr hk h,rfl⟩
 have hle:∀nm∈oh a b,(nJ g p a b nm).length≤(bH a nm).length+(bH b nm).length:=λnm hm=>by
  unfold nJ
  cases h1:dS b nm with
  | true=>
   have hB:=mem hb kb h1
   cases h2:dS a nm with
   | true=>simpa using hg _ _ _ (mem ha ka h2) hB
   | false=>
    have:=D5 (cZ hb hB).1
    simp;omega
  | false=>
   cases h2:dS a nm with
   | true=>
    have:=D5 (cZ ha (mem ha ka h2)).1
    simp;omega
   | false=>
    rcases lN.1 hm with h | h
    ·rw[(oC ha ka nm).2 h]at h2;cases h2
    ·rw[(oC hb kb nm).2 h]at h1;cases h1
 have:=MO hle
 rw[MP,←xS]at this
 have sub:∀{v:Vl},Rt v→aO v=6→((oh a b).map λnm=>(bH v nm).length).sum+1≤v.length:=λ{v} hr hk=>by
  rw[←fields_sum hr hk]
  refine Nat.add_le_add_right (FE _ _ _ hn λx _ h0=>?_) 1
  refine (oC hr hk x).1 ?_
  cases h:dS v x with
  | true=>rfl
  | false=>rw[X4 h]at h0;simp at h0
 have s1:=sub ha ka
 have s2:=sub hb kb
 omega
theorem vF:∀(f:Nat) (p:List Stp) (a b:Vl),Rt a→Rt b→(aH f p a b).length≤a.length+b.length
 | 0,p,a,b,ha,hb=>by
  have:=D5 hb
  unfold aH
  split<;>simp<;>omega
 | f+1,p,a,b,ha,hb=>by
  have:=D5 hb
  unfold aH
  split
  ·simp
  split
  ·rename_i hk
   have:=X5 (p:=p) ha hb hk.1 hk.2 λq x y hx hy=>vF f q x y (cZ ha hx).1 (cZ hb hy).1
   omega
  split
  ·rename_i hk
   have h1:=bK ha
   have h2:=bK hb
   have:=VB (p:=p) (λq x y hx hy=>vF f q x y (cZ ha hx).1 (cZ hb hy).1) (λx hx=>D5 (cZ ha hx).1) λx hx=>D5 (cZ hb hx).1
   omega
  ·simp;omega
theorem xU:∀(f:Nat) (p:List Stp) (a b:Vl) (e:Ed),e∈aH f p a b→e.kind=2→e.v=[]
 | 0,p,a,b,e,h,hk=>by
  unfold aH at h
  split at h
  ·cases h
  ·simp only[mem_singleton]at h;subst h;cases hk
 | f+1,p,a,b,e,h,hk=>by
  unfold aH at h
  split at h
  ·cases h
  split at h
  ·obtain⟨nm,_,h⟩:=List.mem_flatMap.1 h
   unfold nJ at h
   split at h
   ·split at h
    ·exact xU f _ _ _ e h hk
    ·simp only[mem_singleton]at h;subst h;cases hk
   ·simp only[mem_singleton]at h;subst h;rfl
  split at h
  ·unfold m_ at h
   rcases List.mem_append.1 h with h | h
   ·unfold lM iy at h
    obtain⟨k,_,h⟩:=List.mem_flatMap.1 h
    split at h
    ·cases h
    ·simp only[mem_singleton]at h;subst h;rfl
   ·obtain⟨i,_,h⟩:=List.mem_flatMap.1 h
    unfold AR at h
    split at h
    ·exact xU f _ _ _ e h hk
    ·simp only[mem_singleton]at h;subst h;cases hk
  ·simp only[mem_singleton]at h;subst h;cases hk
end Lp
namespace Lp
open Go
open List (flatten_cons length_append)
def aP(v:Vl)(x:Stp):Vl×Int:=
 if x.part then (if aO v=5 then (match (ax v)[x.n.toNat]? with | some w=>(w,0) | none=>([],6)) else ([],5))
 else if aO v=6 then (match fM v x.name with | some w=>(w,0) | none=>([],6)) else ([],5)
def bV:List Stp→Vl→Vl×Int
 | [],v=>(v,0)
 | x::p,v=>if (aP v x).2=0 then bV p (aP v x).1 else ([],(aP v x).2)
def mD(v:Vl)(s:Stp)(y:Vl):Vl:=if s.part then dQ ((ax v).set s.n.toNat y) else gL v s.name y
def dK:List Stp→Vl→Vl→Vl×Int
 | [],_,x=>(x,0)
 | s::p,v,x=>
  if (aP v s).2=0 then
   if (dK p (aP v s).1 x).2=0 then (mD v s (dK p (aP v s).1 x).1,0) else ([],(dK p (aP v s).1 x).2)
  else ([],(aP v s).2)
def aS(s:Stp):Bool:=if s.part then decide (s.name=[]) && decide (0≤s.n) && decide (s.n≤1000000) else decide (s.n=0) && utf s.name
def fP(p:List Stp):Bool:=p.all aS && decide (p.length≤20)
def gF(w:Vl)(n:Nat)(e:Ed):Vl×Int:=
 if aO w=5 then
  if e.kind=1 then (if (ax w).length<n then ([],4) else (dQ ((ax w).take n++[e.v]++(ax w).drop n),0))
  else if (ax w).length≤n then ([],6) else (dQ ((ax w).take n++(ax w).drop (n+1)),0)
 else ([],5)
def dN(w:Vl)(nm:List UInt8)(e:Ed):Vl×Int:=
 if aO w=6 then
  if e.kind=1 then (if dS w nm then ([],4) else (gL w nm e.v,0))
  else if dS w nm then (cO w nm,0) else ([],6)
 else ([],5)
def eZ(w:Vl)(s:Stp)(e:Ed):Vl×Int:=if s.part then gF w s.n.toNat e else dN w s.name e
def bL(e:Ed):Bool:=
 fP e.p && !(decide (e.p=[]) && !decide (e.kind=0)) && (if e.kind=0 then bR e.v else if e.kind=1 then bR e.v else if e.kind=2 then decide (e.v=[]) else false)
def l7(p:List Stp):Stp:=(p[p.length-1]?).getD ⟨false,[],0⟩
def Qo(p:List Stp)(v:Vl)(g:Vl→Vl×Int):Vl×Int:=
 if (bV p v).2=0 then
  if (g (bV p v).1).2=0 then dK p v (g (bV p v).1).1 else ([],(g (bV p v).1).2)
 else ([],(bV p v).2)
def dL(v:Vl)(e:Ed):Vl×Int:=
 if bL e then
  if e.kind=0 then dK e.p v e.v
  else Qo (e.p.take (e.p.length-1)) v λw=>eZ w (l7 e.p) e
 else ([],4)
def dY:Vl→List Ed→Vl×Int
 | v,[]=>(v,0)
 | v,e::l=>if (dL v e).2=0 then dY (dL v e).1 l else ([],(dL v e).2)
theorem VD{v:Vl}{x:Stp}(h:¬ (aP v x).2=0):(aP v x).1=[]:=by
 revert h
 unfold aP
 split
 ·split
  ·split<;>simp
  ·simp
 ·split
  ·split<;>simp
  ·simp
theorem Px:∀(p:List Stp) (v:Vl),¬ (bV p v).2=0→(bV p v).1=[]
 | [],_,h=>absurd rfl h
 | x::p,v,h=>by
  rw[bV]at h ⊢
  split
  ·rename_i h0;rw[if_pos h0]at h;exact Px p _ h
  ·rfl
theorem Ih:∀(p:List Stp) (v x:Vl),¬ (dK p v x).2=0→(dK p v x).1=[]
 | [],_,_,h=>absurd rfl h
 | s::p,v,x,h=>by
  rw[dK]at h ⊢
  split
  ·rename_i h0
   rw[if_pos h0]at h
   split
   ·rename_i h1;rw[if_pos h1]at h;exact absurd rfl h
   ·rfl
  ·rfl
theorem X6{v:Vl}{e:Ed}(h:¬ (dL v e).2=0):(dL v e).1=[]:=by
 unfold dL at h ⊢
 split
 ·rename_i h0
  rw[if_pos h0]at h
  split
  ·rename_i h1;rw[if_pos h1]at h;exact Ih _ _ _ h
  ·rename_i h1
   rw[if_neg h1]at h
   unfold Qo at h ⊢
   split
   ·rename_i h2
    rw[if_pos h2]at h
    split
    ·rename_i h3;rw[if_pos h3]at h;exact Ih _ _ _ h
    ·rfl
   ·rfl
 ·rfl
theorem Cz:∀(l:List Ed) (v:Vl),¬ (dY v l).2=0→(dY v l).1=[]
 | [],_,h=>absurd rfl h
 | e::l,v,h=>by
  rw[dY]at h ⊢
  split
  ·rename_i h0;rw[if_pos h0]at h;exact Cz l _ h
  ·rfl
def Nm(v:Vl):Prop:=∀n∈v,n.s.length≤4611686018427387904∧n.name.length≤1000000
theorem D6{v:Vl}{x:Stp}(hr:Rt v)(h:(aP v x).2=0):(aP v x).1∈ax v:=by
 revert h
 unfold aP
 split
 ·split
  ·split
   ·rename_i w hw;intro _;exact List.mem_of_getElem? hw
   ·intro h;cases h
  ·intro h;cases h
 ·split
  ·split
   ·rename_i hk _ w hw
    intro _
    rw[fM,if_pos hk]at hw
    have:=iI hw
    rw[(dz hr hk).2.2.2]
    exact List.mem_map.2 ⟨_,this,rfl⟩
   ·intro h;cases h
  ·intro h;cases h
theorem qH{v:Vl}{x:Stp}(hr:Rt v)(hn:Nm v)(h:(aP v x).2=0):Rt (aP v x).1∧(aP v x).1.length<v.length∧Nm (aP v x).1:=by
 have hm:=D6 hr h
 have h1:=cZ hr hm
 exact⟨h1.1,h1.2,u7 hr (q:=λn=>n.s.length≤4611686018427387904∧n.name.length≤1000000) (λn h=>⟨h.1,by simp⟩) hn _ hm⟩
theorem CB:∀(p:List Stp) (v:Vl),Rt v→Nm v→(bV p v).2=0→Rt (bV p v).1∧(bV p v).1.length≤v.length∧Nm (bV p v).1
 | [],v,hr,hn,_=>⟨hr,Nat.le_refl _,hn⟩
 | x::p,v,hr,hn,h=>by
  rw[bV]at h ⊢
  split
  ·rename_i h0
   rw[if_pos h0]at h
   obtain⟨h1,h2,h3⟩:=qH hr hn h0
   obtain⟨g1,g2,g3⟩:=CB p _ h1 h3 h
   exact⟨g1,by omega,g3⟩
  ·rename_i h0;rw[if_neg h0]at h;exact absurd h h0
theorem X7{l:mG}(h:∀y∈l,y.1.length≤1000000∧Nm y.2):Nm (JN l):=by
 intro n hn
 rcases List.mem_cons.1 hn with rfl | hn
 ·simp
 ·obtain⟨p,hp,hnp⟩:=List.mem_flatten.1 hn
  obtain⟨y,hy,rfl⟩:=List.mem_map.1 hp
  obtain⟨h1,h2⟩:=h y hy
  cases hv:y.2 with
  | nil=>rw[hv]at hnp;simp[kR]at hnp
  | cons a t=>
   rw[hv]at hnp h2
   rcases List.mem_cons.1 hnp with rfl | hnp
   ·exact⟨(h2 a (by simp)).1,h1⟩
   ·exact h2 n (List.mem_cons_of_mem _ hnp)
theorem Ii{v:Vl}(hr:Rt v)(hk:aO v=6)(hv:Nm v):∀y∈jC v,y.1.length≤1000000∧Nm y.2:=by
 obtain⟨_,_,hN,hP⟩:=dz hr hk
 intro y hy
 exact⟨u_ hr (λn h=>(hv n h).2) y.1 (by rw[hN];exact List.mem_map.2 ⟨y,hy,rfl⟩),u7 hr (q:=λn=>n.s.length≤4611686018427387904∧n.name.length≤1000000) (λn h=>⟨h.1,by simp⟩) hv y.2 (by rw[hP];exact List.mem_map.2 ⟨y,hy,rfl⟩)⟩
theorem j_{v x:Vl}(nm:List UInt8)(hr:Rt v)(hk:aO v=6)(hu:utf nm=true)(hx:Rt x):Rt (gL v nm x)∧aO (gL v nm x)=6∧(gL v nm x).length=(cO v nm).length+x.length∧jC (gL v nm x)=nM nm x (ig (jC v) nm)∧jF (ig (jC v) nm):=by
 obtain⟨w1,w2,w3,w4⟩:=nW nm hr hk
 obtain⟨hq,hmk,hN,hP⟩:=dz w1 w2
 rw[w4]at hq
 have hput:=K6 hq (pF _ nm) hu hx
 refine⟨Wd hput,rfl,?_,SX hput.rt,hq⟩
 have h1:=ve (jC (cO v nm))
 rw[hmk,w4]at h1
 have h2:=yj ((sF nm x (ig (jC v) nm)).map (·.2))
 rw[gL,ve,h2]
 simp only[List.map_cons,flatten_cons,length_append]
 omega
theorem FH{v x:Vl}(nm:List UInt8)(hr:Rt v)(hk:aO v=6)(hn:Nm v)(hx:Nm x)(hl:nm.length≤1000000):Nm (gL v nm x):=by
 refine X7 λy hy=>?_
 rcases (ji nm x _ y).1 hy with rfl | hy
 ·exact⟨hl,hx⟩
 ·exact Ii hr hk hn y (mH.1 hy).1
theorem Ij{v:Vl}(nm:List UInt8)(hr:Rt v)(hk:aO v=6)(hn:Nm v):Nm (cO v nm):=
 X7 λy hy=>Ii hr hk hn y (mH.1 hy).1
theorem kg{v:Vl}(hk:aO v=6)(nm:List UInt8):fM v nm=jh (jC v) nm:=by simp[fM,hk]
theorem Py{v w:Vl}{nm:List UInt8}(hr:Rt v)(hk:aO v=6)(hw:fM v nm=some w):(cO v nm).length+w.length=v.length:=by
 obtain⟨hq,hmk,_,_⟩:=dz hr hk
 rw[kg hk]at hw
 have l0:=ve (jC v)
 rw[hmk]at l0
 have l1:(cO v nm).length=_:=ve (ig (jC v) nm)
 have p1:=yj ((sF nm w (ig (jC v) nm)).map (·.2))
 rw[JP hq hw]at p1
 simp only[List.map_cons,flatten_cons,length_append]at p1
 omega
theorem FI{l:List Vl}(h:∀v∈l,Nm v):Nm (dQ l):=by
 intro n hn
 rcases List.mem_cons.1 hn with rfl | hn
 ·simp
 ·obtain⟨p,hp,hnp⟩:=List.mem_flatten.1 hn
  exact h p hp n hnp
theorem CF{v:Vl}(hr:Rt v)(hn:Nm v):∀p∈ax v,Rt p∧Nm p:=λp hp=>
 ⟨(cZ hr hp).1,u7 hr (q:=λn=>n.s.length≤4611686018427387904∧n.name.length≤1000000) (λn h=>⟨h.1,by simp⟩) hn p hp⟩
theorem Pz{v:Vl}(hr:Rt v)(hk:aO v=5):(ax v).flatten.length+1=v.length:=by
 obtain⟨n,r,rfl,_⟩:=bO hr.name hr.one.ne
 have:=wD hr hk
 have h2:=congrArg List.length this
 exact h2
theorem vG{l:List Vl}{i:Nat}{w:Vl}(h:l[i]?=some w)(y:Vl):(l.set i y).flatten.length+w.length=l.flatten.length+y.length:=by
 induction l generalizing i with
 | nil=>simp at h
 | cons a l ih=>
  cases i with
  | zero=>
   simp only[List.getElem?_cons_zero,Option.some.injEq]at h
   subst h
   simp only[List.set_cons_zero,flatten_cons,length_append];omega
  | succ i=>
   have:=ih (i:=i) (by simpa using h)
   simp only[List.set_cons_succ,flatten_cons,length_append];omega
theorem TR{v:Vl}{s:Stp}{y:Vl}(hr:Rt v)(hn:Nm v)(h:(aP v s).2=0)(hs:aS s=true)(hy:Rt y)(hyn:Nm y) :
  Rt (mD v s y)∧(mD v s y).length+(aP v s).1.length=v.length+y.length∧Nm (mD v s y):=by
 unfold mD
 unfold aP at h ⊢
 cases hp:s.part with
 | true=>
  simp only[hp,if_true]at h ⊢
  by_cases hk:aO v=5
  ·simp only[hk,if_true]at h ⊢
   cases hg:(ax v)[s.n.toNat]? with
   | none=>rw[hg]at h;cases h
   | some w=>
    simp only[DR]
    have hl:=Pz hr hk
    have h2:=vG hg y
    have hm:∀p∈(ax v).set s.n.toNat y,Rt p∧Nm p:=λp hp=>by
     rcases List.mem_or_eq_of_mem_set hp with hp | rfl
     ·exact CF hr hn p hp
     ·exact⟨hy,hyn⟩
    exact⟨Bh λp hp=>(hm p hp).1,by omega,FI λp hp=>(hm p hp).2⟩
  ·rw[if_neg hk]at h;cases h
 | false=>
  simp only[hp,Bool.false_eq_true,if_false]at h ⊢
  by_cases hk:aO v=6
  ·simp only[hk,if_true]at h ⊢
   cases hg:fM v s.name with
   | none=>rw[hg]at h;cases h
   | some w=>
    have hu:utf s.name=true:=by
     unfold aS at hs
     simp only[hp,Bool.false_eq_true,if_false,Bool.and_eq_true]at hs
     exact hs.2
    obtain⟨f1,f2,f3,f4,f5⟩:=j_ s.name hr hk hu hy
    have:=Py hr hk hg
    refine⟨f1,by simp only;omega,FH _ hr hk hn hyn ?_⟩
    rw[kg hk]at hg
    exact (Ii hr hk hn _ (iI hg)).1
  ·rw[if_neg hk]at h;cases h
theorem rO:∀(p:List Stp) (v x:Vl),Rt v→Nm v→(∀s∈p,aS s=true)→Rt x→Nm x→(dK p v x).2=0→
  Rt (dK p v x).1∧(dK p v x).1.length+(bV p v).1.length=v.length+x.length∧Nm (dK p v x).1
 | [],v,x,_,_,_,hx,hxn,_=>⟨hx,by simp[dK,bV];omega,hxn⟩
 | s::p,v,x,hr,hn,hp,hx,hxn,h=>by
  rw[dK]at h ⊢
  rw[bV]
  split
  ·rename_i h0
   rw[if_pos h0]at h
   obtain⟨a1,a2,a3⟩:=qH hr hn h0
   split
   ·rename_i h1
    obtain⟨b1,b2,b3⟩:=rO p _ x a1 a3 (λs' hs=>hp s' (List.mem_cons_of_mem _ hs)) hx hxn h1
    obtain⟨c1,c2,c3⟩:=TR hr hn h0 (hp s (by simp)) b1 b3
    exact⟨c1,by simp only;omega,c3⟩
   ·rename_i h1;rw[if_neg h1]at h;exact absurd h h1
  ·rename_i h0;rw[if_neg h0]at h;exact absurd h h0
theorem CG:∀(p:List Stp) (v x:Vl),(dK p v x).2=(bV p v).2
 | [],_,_=>rfl
 | s::p,v,x=>by
  rw[dK,bV]
  split
  ·rename_i h0
   have:=CG p (aP v s).1 x
   split
   ·rename_i h1;rw[←this,h1]
   ·exact this
  ·rfl
theorem MQ{w:Vl}{s:Stp}{e:Ed}(hr:Rt w)(hn:Nm w)(hs:aS s=true)(hsn:s.name.length≤1000000)(hv:e.kind=1→Rt e.v∧Nm e.v)(h:(eZ w s e).2=0) :
  Rt (eZ w s e).1∧(eZ w s e).1.length≤w.length+e.v.length∧Nm (eZ w s e).1:=by
 revert h
 unfold eZ gF dN
 split
 ·split
  ·rename_i hk
   have hl:=Pz hr hk
   have hps:=CF hr hn
   have hfl:∀n:Nat,((ax w).take n).flatten.length+((ax w).drop n).flatten.length=(ax w).flatten.length:=λn=>by
    rw[←length_append,←List.flatten_append,List.take_append_drop]
   split
   ·rename_i h1
    obtain⟨v1,v2⟩:=hv h1
    split
    ·intro h;cases h
    ·intro _
     have hm:∀p∈(ax w).take s.n.toNat++[e.v]++(ax w).drop s.n.toNat,Rt p∧Nm p:=λp hp=>by
      rcases List.mem_append.1 hp with hp | hp
      ·rcases List.mem_append.1 hp with hp | hp
       ·exact hps p (List.mem_of_mem_take hp)
       ·simp only[List.mem_singleton]at hp;subst hp;exact⟨v1,v2⟩
      ·exact hps p (List.mem_of_mem_drop hp)
     refine⟨Bh λp hp=>(hm p hp).1,?_,FI λp hp=>(hm p hp).2⟩
     have:=hfl s.n.toNat
     simp only[DR,List.flatten_append,length_append,flatten_cons,List.flatten_nil,List.length_nil]
     omega
   ·split
    ·intro h;cases h
    ·intro _
     have hm:∀p∈(ax w).take s.n.toNat++(ax w).drop (s.n.toNat+1),Rt p∧Nm p:=λp hp=>by
      rcases List.mem_append.1 hp with hp | hp
      ·exact hps p (List.mem_of_mem_take hp)
      ·exact hps p (List.mem_of_mem_drop hp)
     refine⟨Bh λp hp=>(hm p hp).1,?_,FI λp hp=>(hm p hp).2⟩
     have h1:=hfl s.n.toNat
     have h2:((ax w).drop (s.n.toNat+1)).flatten.length≤((ax w).drop s.n.toNat).flatten.length:=by
      rw[←List.drop_drop]
      cases (ax w).drop s.n.toNat<;>simp
     simp only[DR,List.flatten_append,length_append]
     omega
  ·intro h;cases h
 ·rename_i hp
  have hu:utf s.name=true:=by
   unfold aS at hs
   rw[if_neg hp,Bool.and_eq_true]at hs
   exact hs.2
  split
  ·rename_i hk
   obtain⟨w1,w2,w3,w4⟩:=nW s.name hr hk
   split
   ·rename_i h1
    obtain⟨v1,v2⟩:=hv h1
    split
    ·intro h;cases h
    ·intro _
     obtain⟨f1,f2,f3,f4,f5⟩:=j_ s.name hr hk hu v1
     exact⟨f1,by simp only;omega,FH _ hr hk hn v2 hsn⟩
   ·split
    ·intro _
     exact⟨w1,by simp only;omega,Ij _ hr hk hn⟩
    ·intro h;cases h
  ·intro h;cases h
structure ZQ (e:Ed):Prop where
 wG:∀s∈e.p,s.name.length≤1000000
 val:Nm e.v
theorem ng{e:Ed}(h:bL e=true):(∀s∈e.p,aS s=true)∧e.p.length≤20∧(e.kind=0∨e.kind=1∨e.kind=2)∧(e.kind≠2→Rt e.v)∧(e.kind=2→e.v=[])∧(e.kind≠0→e.p≠[]):=by
 unfold bL fP at h
 simp only[Bool.and_eq_true,List.all_eq_true,decide_eq_true_eq,Bool.not_eq_true',Bool.and_eq_false_iff,decide_eq_false_iff_not,Bool.not_eq_false']at h
 obtain⟨⟨⟨h1,h2⟩,h3⟩,h4⟩:=h
 refine⟨h1,h2,?_⟩
 by_cases k0:e.kind=0
 ·rw[if_pos k0]at h4
  exact⟨.inl k0,λ_=>pO h4,λh=>by omega,λh=>absurd k0 h⟩
 rw[if_neg k0]at h4
 have hp:e.p≠[]:=by
  rcases h3 with h3 | h3
  ·exact h3
  ·exact absurd h3 k0
 by_cases k1:e.kind=1
 ·rw[if_pos k1]at h4
  exact⟨.inr (.inl k1),λ_=>pO h4,λh=>by omega,λ_=>hp⟩
 rw[if_neg k1]at h4
 by_cases k2:e.kind=2
 ·rw[if_pos k2]at h4
  exact⟨.inr (.inr k2),λh=>absurd k2 h,λ_=>of_decide_eq_true h4,λ_=>hp⟩
 ·rw[if_neg k2]at h4;cases h4
theorem D7{p:List Stp}(h:p≠[]):l7 p∈p:=by
 have:0<p.length:=List.length_pos_iff.2 h
 unfold l7
 rw[List.getElem?_eq_getElem (by omega)]
 exact List.getElem_mem _
theorem MR{v:Vl}{e:Ed}(hr:Rt v)(hn:Nm v)(he:ZQ e)(h:(dL v e).2=0):Rt (dL v e).1∧(dL v e).1.length≤v.length+e.v.length∧Nm (dL v e).1:=by
 unfold dL at h ⊢
 cases hre:bL e with
 | false=>rw[hre]at h;cases h
 | true=>
  rw[hre]at h
  simp only[if_true]at h ⊢
  obtain⟨r1,r2,r3,r4,r5,r6⟩:=ng hre
  split
  ·rename_i h0
   rw[if_pos h0]at h
   have hx:=r4 (by omega)
   obtain⟨a1,a2,a3⟩:=rO e.p v e.v hr hn r1 hx he.val h
   exact⟨a1,by omega,a3⟩
  ·rename_i h0
   rw[if_neg h0]at h
   have hpn:=r6 h0
   have hls:=D7 hpn
   generalize hq:e.p.take (e.p.length-1)=q at *
   have hqr:∀s∈q,aS s=true:=λs hs=>r1 s (by rw[←hq]at hs;exact List.mem_of_mem_take hs)
   unfold Qo at h ⊢
   split
   ·rename_i h2
    rw[if_pos h2]at h
    obtain⟨g1,g2,g3⟩:=CB q v hr hn h2
    split
    ·rename_i h3
     rw[if_pos h3]at h
     obtain⟨i1,i2,i3⟩:=MQ (e:=e) g1 g3 (r1 _ hls) (he.wG _ hls) (λh1=>⟨r4 (by omega),he.val⟩) h3
     obtain⟨a1,a2,a3⟩:=rO q v _ hr hn hqr i1 i3 h
     refine⟨a1,?_,a3⟩
     show (dK q v (eZ (bV q v).1 (l7 e.p) e).1).1.length≤_
     omega
    ·rename_i h3;rw[if_neg h3]at h;exact absurd h h3
   ·rename_i h2;rw[if_neg h2]at h;exact absurd h h2
end Lp
namespace Lp
open Go Go.Proofs Go.Lib Go.RowKit
section
variable {P:Program}
theorem tN{ops:Array Oper}{o:Oper}{a:Act}{w:World}{K:Act→World→Prop}{Q:Exit→Act→World→Prop}{E:Prop}
  (hg:o.guard=none) (d x:Operand) (dT sT:TypeId) (hop:o.op=Op.call { callee:=Callee.builtin Builtin.append,args:=#[d,x],argTypes:=#[dT,sT] })
  (v u:Value) (hd:a.eval d=v) (hx:a.eval x=u){v':Value}{w':World}(hr:(Builtin.append_ #[dT,sT] o.type #[v,u]).run P w=.ok v' w') (hK:K (a.put o.dst v') w') :
  if Region.wanted o (yielded ops a.tmps)=true then Oper.wp P o a w K Q else E:=by
 rw[if_pos (by simp[Region.wanted,hg])]
 unfold Oper.wp execOp
 simp only[hop,resolve,invoke,builtin,Sem.run_bind,Sem.run_pure,Result.andThen_ok,List.map_toArray,List.map_cons,List.map_nil,hd,hx,hr]
 exact hK
theorem rP(w:World){ops:Array Oper}{rest:List Oper}{o:Oper}{a:Act}{Q:Exit→Act→World→Prop}(hgd:o.guard=none)(d:Operand)(t:TypeId)
  (ho:o.op=.call { callee:=.builtin .clear,args:=#[d],argTypes:=#[t] }) (v:Value) (hd:a.eval d=v){v':Value}{w':World}
  (hr:(Builtin.clear_ #[t] o.type #[v]).run P w=.ok v' w') (h:wpList P ops Q rest (a.put o.dst v') w'):wpList P ops Q (o::rest) a w:=
 wpList_plain hgd λ_ hK=>by
  unfold Oper.wp execOp
  simp only[ho,resolve,invoke,builtin,Sem.run_bind,Sem.run_pure,Result.andThen_ok,List.map_toArray,List.map_cons,List.map_nil,hd,hr]
  exact hK _ _ h
end
theorem X8{α:Type}(xs:List α)(i m:Nat)(hi:i<xs.length):(xs.take i++xs.drop (i+1))[m]?=if m<i then xs[m]? else xs[m+1]?:=by
 have ht:(xs.take i).length=i:=by simp;omega
 rw[List.getElem?_append,ht]
 split
 ·rename_i h;rw[List.getElem?_take,if_pos h]
 ·rename_i h;rw[List.getElem?_drop,show i+1+(m-i)=m+1 by omega]
theorem aX.aes {R:PV→Value→Prop}{xs:List PV}{c c':Array Value}{i:Nat}(h:aX R 1 c xs)(hi:i<xs.length)
  (h1:∀q,q<i→c'[q]?=c[q]?) (h3:∀q,i≤q→q<xs.length-1→c'[q]?=c[q+1]?) :
  aX R 1 c' (xs.take i++xs.drop (i+1)):=by
 intro m y hy
 rw[X8 xs i m hi]at hy
 have hlt:∀{z:PV}{j:Nat}{p:PV},z.cells.length=1→z.cells[j]?=some p→j<1:=λh1 h2=>by rw[←h1];exact (List.getElem?_eq_some_iff.1 h2).1
 split at hy
 ·rename_i hm
  obtain⟨z1,z2⟩:=h m y hy
  refine⟨z1,λj p hp=>?_⟩
  have hj:=hlt z1 hp
  obtain⟨v,u1,u2⟩:=z2 j p hp
  exact⟨v,by rw[h1 _ (by omega)];exact u1,u2⟩
 ·rename_i hm1
  obtain⟨z1,z2⟩:=h (m+1) y hy
  have hml:m+1<xs.length:=(List.getElem?_eq_some_iff.1 hy).1
  refine⟨z1,λj p hp=>?_⟩
  have hj:=hlt z1 hp
  obtain⟨v,u1,u2⟩:=z2 j p hp
  have e:(m+1)*1+j=(m*1+j)+1:=by omega
  exact⟨v,by rw[h3 _ (by omega) (by omega),←e];exact u1,u2⟩
set_option maxHeartbeats 4000000 in
set_option maxRecDepth 100000 in
theorem VE(g n c i:Nat)(cur:Array Value)(w:World)(hi:i<n)(hnc:n≤c)(hc63:c≤9223372036854775807)
  (hg:w.heap[g]?=some (.cells cur 23 (0,0))) (hcur:cur.size=c) (oc:∀v∈mid cur (i+1) n 1,v.oneCell'=true)
  (bS:Array Value) (hc1:bS=spl cur i (mid cur (i+1) n 1)) :
  Calls Tryz.prog 55 #[.slice (some ⟨g,0,none⟩) n c,.int .i64 i,.int .i64 ((i:Int)+1)] w λe w'=>
   e=.returned (.slice (some ⟨g,0,none⟩) (n-1) c)∧w'=(w.drew.setRow g bS).setRow g (spl bS (n-1) [Value.slice none 0 0]):=by
 have mixed:Tryz.prog.follows .mixedOrders=true:=by kernel_rfl
 have zVV:∀u:World,(Go.zeroValue 23).run Tryz.prog u=.ok (Value.slice none 0 0) u:=λu=>by kernel_rfl
 obtain⟨inf,hi0,hz0,hzs,hzb⟩:∃inf,Tryz.prog.info? 23=some inf∧inf.zero=some (.slice none 0 0)∧inf.size=1∧inf.bytes=24:=⟨_,rfl,rfl,rfl,rfl⟩
 have hcl:(mid cur (i+1) n 1).length=n-(i+1):=by simp[mid,hcur];omega
 have hg':w.drew.heap[g]?=some (.cells cur 23 (0,0)):=hg
 have hlen:i+(n-(i+1))=n-1:=by omega
 have happ:∀ty off cp,(c≠i+1→off=i+1)→(Builtin.append_ #[64,64] ty #[.slice (some ⟨g,0,none⟩) i c,.slice (some ⟨g,off,none⟩) (n-(i+1)) cp]).run Tryz.prog w.drew=.ok (.slice (some ⟨g,0,none⟩) (n-1) c) (w.drew.setRow g bS):=λty off cp hoff=>by
  have h:=o9 (P:=Tryz.prog) w.drew 64 64 ty 23 inf HV hi0 g i c cur 23 hg' (.slice (some ⟨g,off,none⟩) (n-(i+1)) cp) (n-(i+1)) _
   (Src.ofSlice w.drew HV ⟨g,off,none⟩ (n-(i+1)) cp (mid cur (i+1) n 1) (by rw[hzs,hcl];omega) (λj v hj=>by
    have hjl:=(List.getElem?_eq_some_iff.1 hj).1
    rw[hcl]at hjl
    rw[hoff (by omega),Addr.add_lit]
    simp only[World.cell?,hg']
    rw[mid,List.getElem?_drop,List.getElem?_take]at hj
    split at hj
    ·simpa using hj
    ·cases hj) oc) (by omega) (by rw[hcl,hzs,hcur];omega)
  rw[hlen,hzs,Nat.mul_one]at h
  rw[hc1]
  exact h
 have Cs:bS.size=c:=by rw[hc1,j6 (by rw[hcl,hcur];omega)];exact hcur
 have hg1:(w.drew.setRow g bS).heap[g]?=some (.cells bS 23 (0,0)):=setRow_heap w.drew g cur bS 23 (0,0) hg'
 have adH:∀ty cp,(Builtin.clear_ #[64] ty #[.slice (some ⟨g,n-1,none⟩) (n-(n-1)) cp]).run Tryz.prog (w.drew.setRow g bS)=.ok (.tuple #[]) ((w.drew.setRow g bS).setRow g (spl bS (n-1) [Value.slice none 0 0])):=λty cp=>by
  have hst:=run_storeCells_at Tryz.prog g (n-1) 23 [Value.slice none 0 0] 0 bS (w.drew.setRow g bS) hg1 (by simp[Cs];omega) (λv hv=>by
   rcases List.mem_cons.1 hv with rfl | hv
   ·rfl
   ·cases hv)
  have hn1:n-(n-1)=0+1:=by omega
  have hzc:(Builtin.zeroCells (Value.slice none 0 0).cells 1).toList=[Value.slice none 0 0]:=by kernel_rfl
  rw[hn1]
  simp[Builtin.clear_,run_underlying HV,zVV,hzc,hst,spl]
 have hw1:IntKind.i64.wrap ((i:Int)+1)=(i:Int)+1:=by rw[IntKind.wrap_i64];omega
 have hb1:(0:Int)≤(i:Int)+1:=by omega
 have hin:i≤n:=by omega
 have hin':i≤c:=by omega
 have htn:((i:Int)+1).toNat=i+1:=by omega
 have hb2:¬ (c=n-1):=by omega
 have hb3:(i:Int)+1≤(n:Int):=by omega
 have hb6:(i:Int)≤(i:Int)+1:=by omega
 have hz1:¬ ((i:Int)=(i:Int)+1):=by omega
 have hn1:n-1≤n:=by omega
 have hcn:(n:Int)≤(c:Int):=by omega
 clear hc1 hcl Cs hg1 hlen
 by_cases hci:c=i+1
 ·have X9:=λty cp=>happ ty 0 cp (λh=>absurd hci h)
  have aeE:(c=i+1)=True:=eq_true hci
  clear happ hci
  go_enter Tryz.func55,Tryz.ntmps55
  go_wp2
  go_region_law_o (refine tN rfl _ _ 64 64 rfl _ _ (by simp[Act.eval,Act.put]) (by simp[Act.eval,Act.put]) (X9 64 (c-(i+1))) ?_)
  go_wp2_with (at_builtin;refine rP _ rfl _ 64 rfl _ rfl (adH _ _) ?_)
  go_ret
  exact⟨rfl,rfl⟩
 ·have X9:=λty cp=>happ ty (i+1) cp (λ_=>rfl)
  clear happ
  go_enter Tryz.func55,Tryz.ntmps55
  go_wp2
  go_region_law_o (refine tN rfl _ _ 64 64 rfl _ _ (by simp[Act.eval,Act.put]) (by simp[Act.eval,Act.put]) (X9 64 (c-(i+1))) ?_)
  go_wp2_with (at_builtin;refine rP _ rfl _ 64 rfl _ rfl (adH _ _) ?_)
  go_ret
  exact⟨rfl,rfl⟩
theorem PD{objs:List Obj}{k ver:Nat}{ob:Obj}{i:Nat}(h1:objs[k]?=some ob)(h2:ob.live=true)(h3:ob.ver=ver)
  (h4:ob.sz=1) (hty:ob.ty=23) (hall:∀y∈ob.xs,RU 1 y) (hi:i<ob.xs.length) :
  Gb Tryz.prog 55 [.aZ k ver,.int .i64 i,.int .i64 ((i:Int)+1)] objs (.aZ k (ver+1)) (objs.set k { ob with xs:=ob.xs.take i++ob.xs.drop (i+1),ver:=ver+1 }):=by
 refine⟨⟨_,Tryz.func55,by kernel_rfl,by kernel_rfl⟩,by simp,λbase ah w0 tmps blk a w vs R hargs=>?_⟩
 obtain⟨v0,v1,v2,rfl,r0,r1,r2⟩:=XM hargs
 have e1:=r1.int
 have e2:=r2.int
 subst e1;subst e2
 have hM:ob.ty≠MT:=by rw[hty];intro h;cases h
 have hh:=r0.aZ h1 h2 h3
 unfold wB at hh
 have hone:∀y,RU 1 y→∀p∈y.cells,∀v,aY w (bA base objs blk) objs blk p v→v.oneCell'=true:=λy hy p hp v hv=>(kE hv (List.all_eq_true.1 hy.2 p hp)).1
 rcases Cr (blk k) with hbk | ⟨g,hbk⟩
 ·rw[hbk]at hh;rw[hh.2]at hi;simp at hi
 ·rw[hbk]at hh
  obtain⟨cap,c,rfl,x1,x2,x3,x4⟩:=hh
  obtain⟨c',y1,y2,y3⟩:=kF R h1 h2 hbk hM
  rw[x1]at y1;cases y1
  rw[hty]at x1
  rw[h4]at x4 y3
  rw[Nat.mul_one]at x4
  have hc63:cap≤9223372036854775807:=by unfold maxLen at x3;omega
  have hoc:∀v∈c.toList.take (ob.xs.length*1),v.oneCell'=true:=
   cells_one (aX.take y3) (by simp[x4];omega) (λy hy=>hone y (hall y hy))
  have hdl:(mid c (i+1) ob.xs.length 1).length=ob.xs.length-(i+1):=by simp[mid,x4];omega
  have hdg:∀q,i≤q→q<ob.xs.length-1→(mid c (i+1) ob.xs.length 1)[q-i]?=c[q+1]?:=λq hq1 hq2=>by
   rw[mid,List.getElem?_drop,List.getElem?_take,show (i+1)*1+(q-i)=q+1 by omega,if_pos (by omega)];simp
  have hyl:(ob.xs.take i++ob.xs.drop (i+1)).length=ob.xs.length-1:=by simp;omega
  refine (VE g ob.xs.length cap i c w hi x2 hc63 x1 x4 (λv hv=>hoc v (List.mem_of_mem_drop hv)) _ rfl).mono λe w' ⟨he,hw⟩=>?_
  have hf1:i+(mid c (i+1) ob.xs.length 1).length≤c.size:=by rw[hdl,x4];omega
  have hs1:=j6 hf1
  have hg1:=yR hf1
  generalize spl c i (mid c (i+1) ob.xs.length 1)=bS at hw hs1 hg1
  have hf2:ob.xs.length-1+[Value.slice none 0 0].length≤bS.size:=by rw[hs1,x4];simp;omega
  have hs2:=j6 hf2
  have hg2:=yR hf2
  generalize spl bS (ob.xs.length-1) [Value.slice none 0 0]=cur2 at hw hs2 hg2
  subst hw
  have hgd:w.drew.heap[g]?=some (.cells c 23 (0,0)):=x1
  have hh1:(w.drew.setRow g bS).heap[g]?=some (.cells bS 23 (0,0)):=setRow_heap w.drew g c bS 23 (0,0) hgd
  have L:KL ob.ty ob.sz (aY w (bA base objs blk) objs blk) (blk k) w (ob.xs.take i++ob.xs.drop (i+1)) (.slice (some ⟨g,0,none⟩) (ob.xs.length-1) cap) ((w.drew.setRow g bS).setRow g cur2) g:=by
   refine⟨by rw[setRow_size,setRow_size];exact Nat.le_refl _,⟨rfl,rfl⟩,λb y hb hy=>?_,.inl hbk,cap,cur2,by rw[hyl],by rw[hty];exact setRow_heap _ g bS cur2 23 (0,0) hh1,by rw[hyl];omega,x3,by rw[hs2,hs1,x4,h4,Nat.mul_one],?_⟩
   ·have hbg:b≠g:=λe=>hb (by rw[hbk,e])
    rw[setRow_other _ g b _ hbg,setRow_other _ g b _ hbg];exact hy
   ·rw[h4]
    refine aX.aes y3 hi (λq hq=>?_) (λq hq1 hq2=>?_)
    ·rw[hg2,if_pos (by omega),hg1,if_pos hq]
    ·rw[hg2,if_pos hq2,hg1,if_neg (by omega),if_pos (by rw[hdl];omega),hdg q hq1 hq2]
  obtain⟨g1,g2⟩:=L.rel R h1 h2 h3 hM
  exact⟨_,_,he,g1,g2⟩
def FJ:eX:=λargs objs K=>match args with
 | [.aZ k ver,.int .i64 i,.int .i64 j]=>∃o,objs[k]?=some o∧o.live=true∧o.ver=ver∧o.sz=1∧o.ty=23∧Qn aj o.xs (HK.mk:HK λl=>0≤i∧j=i+1∧i.toNat<l.length∧
     K (.aZ k (ver+1)) (objs.set k ⟨23,1,(l.take i.toNat++l.drop (i.toNat+1)).map aj,true,ver+1⟩) 2)
 | _=>False
theorem Sc:aQ Tryz.prog 55 FJ:=by
 intro args objs K h
 unfold FJ at h
 split at h
 ·rename_i k ver i j
  obtain⟨o,h1,h2,h3,h4,h5,l,h6,h7,rfl,h8,h10⟩:=h
  obtain⟨n,rfl⟩:∃n:Nat,i=n:=⟨i.toNat,by omega⟩
  rw[Int.toNat_natCast]at h8 h10
  obtain⟨ty,sz,xs,live,vr⟩:=o
  simp only[]at h2 h3 h4 h5 h6
  subst h2;subst h3;subst h4;subst h5;subst h6
  have hu:=PD (objs:=objs) (k:=k) (i:=n) h1 rfl rfl rfl rfl (λy hy=>by obtain⟨s,_,rfl⟩:=List.mem_map.1 hy;exact⟨rfl,rfl⟩) (by simpa using h8)
  refine⟨_,_,_,.used _ _ hu,?_⟩
  have e:(l.map aj).take n++(l.map aj).drop (n+1)=(l.take n++l.drop (n+1)).map aj:=by simp
  rw[e]
  exact h10
 ·exact h.elim
end Lp
namespace Lp
open Go Go.Proofs
theorem VF:aW Tryz.prog 50 43 [.tmp 4,.tmp 5] (gen [] [] [1] Tryz.f50):=bN Tryz.func50 rfl (by kernel_rfl)
theorem Sd:aW Tryz.prog 29 28 [.tmp 4,.tmp 5] (gen [] [(7170,some (1,0))] [] Tryz.f29):=bN Tryz.func29 rfl (by kernel_rfl)
theorem Ik:aW Tryz.prog 28 61 [.tmp 6,.tmp 7] (gen [] [] [] Tryz.f28):=bN Tryz.func28 rfl (by kernel_rfl)
theorem MS:aW Tryz.prog 48 13 [.tmp 2] (gen [] [] [] Tryz.f48):=bN Tryz.func48 rfl (by kernel_rfl)
theorem Il:aW Tryz.prog 70 27 [.tmp 2] (gen [] [] [1] Tryz.f70):=bN Tryz.func70 rfl (by kernel_rfl)
theorem jE:aW Tryz.prog 72 9 [.tmp 4] (gen [] [] [] Tryz.f72):=bN Tryz.func72 rfl (by kernel_rfl)
theorem kN:aW Tryz.prog 100 19 [.tmp 4] (gen [] [(387,none)] [] Tryz.f100):=bN Tryz.func100 rfl (by kernel_rfl)
theorem Im:aW Tryz.prog 27 32 [.tmp 2] (gen [] [] [1] Tryz.f27):=bN Tryz.func27 rfl (by kernel_rfl)
theorem MU:aW Tryz.prog 31 43 [.tmp 6,.tmp 7] (gen [] [] [1] Tryz.f31):=bN Tryz.func31 rfl (by kernel_rfl)
theorem PE:aW Tryz.prog 30 48 [.tmp 6,.tmp 7] (gen [34] [] [1] Tryz.f30):=bN Tryz.func30 rfl (by kernel_rfl)
theorem lQ:aW Tryz.prog 17 75 [.tmp 4,.tmp 5] (gen [] [] [1,10] Tryz.f17):=bN Tryz.func17 rfl (by kernel_rfl)
theorem MV:aW Tryz.prog 14 28 [.tmp 4,.tmp 5] (gen [] [(7169,some (1,0))] [] Tryz.f14):=bN Tryz.func14 rfl (by kernel_rfl)
end Lp
namespace Lp
open Go Go.Proofs
theorem X_{l:List PV}{i:Nat}{a:PV}(h:l[i]?=some a)(objs:List Obj)(K:KT):bT (.bI l) i objs K=K a objs 0:=by
 unfold bT
 exact propext ⟨λ⟨p,h1,h2⟩=>by rw[h]at h1;cases h1;exact h2,λk=>⟨_,h,k⟩⟩
theorem fo :
  (∀a b objs K,bT (.bI [a,b]) 0 objs K=K a objs 0)∧(∀a b objs K,bT (.bI [a,b]) 1 objs K=K b objs 0)∧
  (∀a b c objs K,bT (.bI [a,b,c]) 0 objs K=K a objs 0)∧(∀a b c objs K,bT (.bI [a,b,c]) 1 objs K=K b objs 0)∧(∀a b c objs K,bT (.bI [a,b,c]) 2 objs K=K c objs 0):=
 ⟨λ_ _=>X_ rfl,λ_ _=>X_ rfl,λ_ _ _=>X_ rfl,λ_ _ _=>X_ rfl,λ_ _ _=>X_ rfl⟩
structure YH (p:List Stp):Prop where
 len:p.length≤1000000
 txt:∀s∈p,s.name.length≤1000000
theorem Sg(s:Stp)(hs:s.name.length≤1000000):av Tryz.prog 70 [encS s] [] (.bool (!aS s)) []:=by
 refine Il.bY (T:=bg Tryz.prog [(71,dh)]) 0 hD (ay (af uX ak)) bC (by decide) λQ hQ=>?_
 (conv=>arg 4;cbv);simp (maxSteps:=400000) only[↓aA,aB,BEq.rfl,seval,hQ]
 refine aT _ (Weak.freeze 1 0 (Nat.zero_le _) _) ?_
 cases hp:s.part with
 | true=>
  have hr:aS s=(decide (s.name=[]) && decide (0≤s.n) && decide (s.n≤1000000)):=by simp[aS,hp]
  by_cases hn:s.name=[]
  ·have hn':=eq_true hn
   rcases tf (s.n<0) with h0 | h0
   ·have e:aS s=false:=by rw[hr];have:=of_eq_true h0;simp;omega
    simp (maxSteps:=400000) only[↓aA,aB,BEq.rfl,seval,hQ,jM,hp,hn',h0,e]
   ·rcases tf (1000000<s.n) with h1 | h1
    ·have e:aS s=false:=by rw[hr];have:=of_eq_true h1;simp;omega
     simp (maxSteps:=400000) only[↓aA,aB,BEq.rfl,seval,hQ,jM,hp,hn',h0,h1,e]
    ·have e:aS s=true:=by rw[hr];have:=of_eq_false h1;have:=of_eq_false h0;simp[hn];omega
     simp (maxSteps:=400000) only[↓aA,aB,BEq.rfl,seval,hQ,jM,hp,hn',h0,h1,e]
  ·have hn':=eq_false hn
   have e:aS s=false:=by rw[hr];simp[hn]
   simp (maxSteps:=400000) only[↓aA,aB,BEq.rfl,seval,hQ,jM,hp,hn',e]
 | false=>
  have hr:aS s=(decide (s.n=0) && utf s.name):=by simp[aS,hp]
  rcases tf (s.n=0) with h0 | h0
  ·cases hu:utf s.name with
   | true=>
    have e:aS s=true:=by rw[hr,hu];simp[of_eq_true h0]
    simp (maxSteps:=400000) only[↓aA,aB,BEq.rfl,seval,hQ,jM,hp,h0,hu,↓dh,e]
    omega
   | false=>
    have e:aS s=false:=by rw[hr,hu];simp
    simp (maxSteps:=400000) only[↓aA,aB,BEq.rfl,seval,hQ,jM,hp,h0,hu,↓dh,e]
    omega
  ·have e:aS s=false:=by rw[hr];simp[of_eq_false h0]
   simp (maxSteps:=400000) only[↓aA,aB,BEq.rfl,seval,hQ,jM,hp,h0,e]
def xV:eX:=λargs objs K=>match args with
 | [a0]=>gy encS a0 (HK.mk:HK λs=>(s.name.length≤1000000)∧K (.bool (!aS s)) objs 0)
 | _=>False
theorem PG:aQ Tryz.prog 70 (xV):=by
 intro args objs K h
 unfold xV at h
 split at h
 ·rename_i a0
  obtain⟨s,rfl,h1,hk⟩:=h
  exact⟨_,_,_,.pure _ rfl (Sg s h1),hk⟩
 ·exact h.elim
def rZ(s:Stp):Bool:=!aS s
theorem MW(l:List Stp)(hs:YH l):av Tryz.prog 100 [bf l,.fn 70 [] []] [] (.int .i64 (idxOf rZ l)) []:=by
 obtain⟨hl,htx⟩:=hs
 refine kN.bY (T:=bg Tryz.prog [(70,xV)]) 0 hD (ay (af PG ak)) bC (by decide) λQ hQ=>?_
 (conv=>arg 4;cbv);simp (maxSteps:=400000) only[↓aA,aB,BEq.rfl,seval,hQ]
 refine aU (λm S=>∃i:Nat,i+m=l.length∧(∀(j:Nat) y,j<i→l[j]?=some y→rZ y=false)∧S=⟨dR 19 [(0,bf l),(1,.fn 70 [] []),(7,.int .i64 l.length),(8,.int .i64 i)],[]⟩) l.length ⟨0,by omega,λj y h=>absurd h (Nat.not_lt_zero j),?_⟩ ?_
 ·simp only[dw,keepR,Nat.reduceAdd,pX,Nat.reduceBEq,List.map_nil]
  rfl
 rintro m S ⟨i,him,hb,rfl⟩
 rcases Nat.lt_or_ge i l.length with h | h
 rotate_left 1
 ·have hlt:((i:Int)<(l.length:Int))=False:=eq_false (by omega)
  have hr:=AB (l:=l) λj y hj=>hb j y (by have:=(List.getElem?_eq_some_iff.1 hj).1;omega) hj
  simp (maxSteps:=400000) only[↓aA,aB,BEq.rfl,seval,hQ,hlt,hr]
 have hlt:((i:Int)<(l.length:Int))=True:=eq_true (by omega)
 have zi:(0≤(i:Int))=True:=eq_true (by omega)
 have hgi:=List.getElem?_eq_getElem h
 have ho:=htx _ (List.getElem_mem h)
 generalize l[i]=o at hgi ho
 cases hp:rZ o
 rotate_left 1
 ·have hr:idxOf rZ l=i:=idxOf_hit hgi hp hb
  have hp':(!aS o)=true:=hp
  simp (maxSteps:=400000) only[↓aA,aB,BEq.rfl,seval,hQ,hlt,zi,hgi,↓xV,hp',hr]
  exact ho
 ·have hp':(!aS o)=false:=hp
  simp (maxSteps:=400000) only[↓aA,aB,BEq.rfl,seval,hQ,hlt,zi,hgi,↓xV,hp']
  refine⟨ho,⟨by omega,by omega⟩,m-1,by omega,i+1,by omega,λj y hj hy=>?_,rfl⟩
  rcases Nat.lt_or_ge j i with g | g
  ·exact hb j y g hy
  ·have:j=i:=by omega
   subst this
   rw[hgi]at hy;cases hy
   exact hp
def vH:eX:=λargs objs K=>match args with
 | [a0,a1]=>gy bf a0 (HK.mk:HK λl=>a1=(.fn 70 [] [])∧(YH l)∧K (.int .i64 (idxOf rZ l)) objs 0)
 | _=>False
theorem JD:aQ Tryz.prog 100 (vH):=by
 intro args objs K h
 unfold vH at h
 split at h
 ·rename_i a0 a1
  obtain⟨l,rfl,rfl,h1,hk⟩:=h
  exact⟨_,_,_,.pure _ rfl (MW l h1),hk⟩
 ·exact h.elim
theorem MX(l:List Stp)(hl:YH l):av Tryz.prog 72 [bf l,.fn 70 [] []] [] (.bool (l.any rZ)) []:=by
 refine jE.bY (T:=bg Tryz.prog [(100,vH)]) 0 hD (ay (af JD ak)) bC (by decide) λQ hQ=>?_
 (conv=>arg 4;cbv);simp (maxSteps:=400000) only[↓aA,aB,BEq.rfl,seval,hQ,↓vH,DN]
 exact hl
def vI:eX:=λargs objs K=>match args with
 | [a0,a1]=>gy bf a0 (HK.mk:HK λl=>a1=(.fn 70 [] [])∧(YH l)∧K (.bool (l.any rZ)) objs 0)
 | _=>False
theorem JE:aQ Tryz.prog 72 (vI):=by
 intro args objs K h
 unfold vI at h
 split at h
 ·rename_i a0 a1
  obtain⟨l,rfl,rfl,h1,hk⟩:=h
  exact⟨_,_,_,.pure _ rfl (MX l h1),hk⟩
 ·exact h.elim
theorem VG(p:List Stp):p.any rZ=!p.all aS:=by
 induction p with
 | nil=>rfl
 | cons s p ih=>rw[List.any_cons,List.all_cons,ih,rZ,Bool.not_and]
theorem Io(p:List Stp)(hp:YH p):av Tryz.prog 48 [bf p] [] (.bool (fP p)) []:=by
 refine MS.bY (T:=bg Tryz.prog [(72,vI)]) 0 hD (ay (af JE ak)) bC (by decide) λQ hQ=>?_
 rcases tf ((p.length:Int)≤20) with h | h
 ·have e:fP p=p.all aS:=by have:=of_eq_true h;unfold fP;simp;omega
  have e2:(!p.any rZ)=fP p:=by rw[VG,e,Bool.not_not]
  (conv=>arg 4;cbv);simp (maxSteps:=400000) only[↓aA,aB,BEq.rfl,seval,hQ,h,↓vI,e2]
  exact hp
 ·have e:fP p=false:=by have:=of_eq_false h;unfold fP;simp;omega
  (conv=>arg 4;cbv);simp (maxSteps:=400000) only[↓aA,aB,BEq.rfl,seval,hQ,h,e]
def fA:eX:=λargs objs K=>match args with
 | [a0]=>gy bf a0 (HK.mk:HK λp=>(YH p)∧K (.bool (fP p)) objs 0)
 | _=>False
theorem Fe:aQ Tryz.prog 48 (fA):=by
 intro args objs K h
 unfold fA at h
 split at h
 ·rename_i a0
  obtain⟨p,rfl,h1,hk⟩:=h
  exact⟨_,_,_,.pure _ rfl (Io p h1),hk⟩
 ·exact h.elim
def iC(v:Vl)(x:Stp):PV:=if (aP v x).2=0 then .bI [aj (aP v x).1,.int .i64 0] else .bI [.sl 0 [] (some true),.int .i64 (aP v x).2]
theorem EL(v:Vl)(x:Stp):gD (iC v x) (.bI [aj (aP v x).1,.int .i64 (aP v x).2]):=by
 unfold iC
 split
 ·rename_i h;rw[h];exact .refl _
 ·rename_i h;rw[VD h];exact DC (.inr rfl) (jv 0 6) (.refl _)
theorem ZR(v:Vl)(x:Stp)(hr:Rt v)(hl:v.length≤1000000)(hn:0≤x.n):av Tryz.prog 50 [aj v,encS x] [] (iC v x) []:=by
 refine VF.eH (T:=bg Tryz.prog [(52,oH),(56,fU)]) 0 hD (ay (af xJ (af xG ak))) bC (by decide) (by decide) λQ hQ=>?_
 have ho:=hr.one
 obtain⟨p1,_,_,_⟩:=bK hr
 obtain⟨n,r,hv,_⟩:=bO hr.name hr.one.ne
 have hv0:v[0]?=some n:=by rw[hv];rfl
 have hkd:aO v=n.kind:=by rw[hv];rfl
 have hml:(n.many:Int)=(ax v).length:=by
  subst hv
  obtain⟨h1,h2,ps,h3,_,_,_,_⟩:=hr.parts
  have h8:=eF _ _ _ h3
  simp only[ax,(dD h3).1,List.length_map]
  omega
 have zn:(0≤x.n)=True:=eq_true hn
 (conv=>arg 4;cbv);simp (maxSteps:=400000) only[↓aA,aB,BEq.rfl,seval,hQ]
 refine aT _ (Weak.freeze 1 0 (Nat.zero_le _) _) ?_
 cases hx:x.part with
 | true=>
  by_cases hk:n.kind=5
  ·rcases Nat.lt_or_ge x.n.toNat (ax v).length with h | h
   ·have hgi:=List.getElem?_eq_getElem h
    generalize (ax v)[x.n.toNat]=w at hgi
    have hlt:(((ax v).length:Int)≤x.n)=False:=eq_false (by omega)
    have hres:iC v x=.bI [aj w,.int .i64 0]:=by simp[iC,aP,hx,hkd,hk,hgi]
    simp (maxSteps:=400000) only[↓aA,aB,BEq.rfl,seval,hQ,jM,hx,hv0,hk,hml,↓oH,hlt,zn,hgi,hres]
    exact⟨by omega,ho⟩
   ·have hlt:(((ax v).length:Int)≤x.n)=True:=eq_true (by omega)
    have hres:iC v x=.bI [.sl 0 [] (some true),.int .i64 6]:=by simp[iC,aP,hx,hkd,hk,List.getElem?_eq_none h]
    simp (maxSteps:=400000) only[↓aA,aB,BEq.rfl,seval,hQ,jM,hx,hv0,hk,hml,hlt,hres]
  ·have hk':=eq_false hk
   have hres:iC v x=.bI [.sl 0 [] (some true),.int .i64 5]:=by simp[iC,aP,hx,hkd,hk]
   simp (maxSteps:=400000) only[↓aA,aB,BEq.rfl,seval,hQ,jM,hx,hv0,hk',hres]
 | false=>
  by_cases hk:n.kind=6
  ·cases hf:fM v x.name with
   | some w=>
    have h1:bH v x.name=w:=by simp[bH,hf]
    have h2:dS v x.name=true:=by simp[dS,hf]
    have hres:iC v x=.bI [aj w,.int .i64 0]:=by simp[iC,aP,hx,hkd,hk,hf]
    simp (maxSteps:=400000) only[↓aA,aB,BEq.rfl,seval,hQ,jM,hx,hv0,hk,↓fU,fo,h1,h2,hres]
    exact⟨hr,hl⟩
   | none=>
    have h2:dS v x.name=false:=by simp[dS,hf]
    have hres:iC v x=.bI [.sl 0 [] (some true),.int .i64 6]:=by simp[iC,aP,hx,hkd,hk,hf]
    simp (maxSteps:=400000) only[↓aA,aB,BEq.rfl,seval,hQ,jM,hx,hv0,hk,↓fU,fo,h2,hres]
    exact⟨hr,hl⟩
  ·have hk':=eq_false hk
   have hres:iC v x=.bI [.sl 0 [] (some true),.int .i64 5]:=by simp[iC,aP,hx,hkd,hk]
   simp (maxSteps:=400000) only[↓aA,aB,BEq.rfl,seval,hQ,jM,hx,hv0,hk',hres]
def zY:eX:=λargs objs K=>match args with
 | [a0,a1]=>gy aj a0 (HK.mk:HK λv=>gy encS a1 (HK.mk:HK λx=>(Rt v)∧(v.length≤1000000)∧(0≤x.n)∧K (.bI [aj (aP v x).1,.int .i64 (aP v x).2]) objs 0))
 | _=>False
theorem PI:aQ Tryz.prog 50 (zY):=by
 intro args objs K h
 unfold zY at h
 split at h
 ·rename_i a0 a1
  obtain⟨v,rfl,x,rfl,h1,h2,h3,hk⟩:=h
  exact⟨_,_,_,.pure _ rfl ((ZR v x h1 h2 h3).res (EL v x)),hk⟩
 ·exact h.elim
theorem D8:∀a x:Stp,(encS a).putCells 0 [.bool x.part,.str x.name,.int .i64 x.n]=encS x:=λ_ _=>rfl
theorem etS:∀x:Stp,PV.agg [.bool x.part,.str x.name,.int .i64 x.n]=encS x:=λ_=>rfl
theorem KR:∀e:Ed,PV.agg [.int .i64 e.kind,bf e.p,aj e.v]=iD e:=λ_=>rfl
def o5(p:List Stp)(v:Vl):PV:=if (bV p v).2=0 then .bI [aj (bV p v).1,.int .i64 0] else .bI [.sl 0 [] (some true),.int .i64 (bV p v).2]
theorem CJ(p:List Stp)(v:Vl):gD (o5 p v) (.bI [aj (bV p v).1,.int .i64 (bV p v).2]):=by
 unfold o5
 split
 ·rename_i h;rw[h];exact .refl _
 ·rename_i h;rw[Px p v h];exact DC (.inr rfl) (jv 0 6) (.refl _)
theorem Ya(p:List Stp)(v:Vl)(hr:Rt v)(hl:v.length≤1000000)(hpl:p.length≤1000000)(hn:∀x∈p,0≤x.n):av Tryz.prog 29 [bf p,aj v] [] (o5 p v) []:=by
 refine Sd.eH (T:=bg Tryz.prog [(50,zY)]) 0 hD (ay (af PI ak)) bC (by decide) (by decide) λQ hQ=>?_
 (conv=>arg 4;cbv);simp (maxSteps:=400000) only[↓aA,aB,BEq.rfl,seval,hQ]
 refine aU (hz:=Nat.zero_le _) (λm S=>∃(i:Nat) (w:Vl),i+m=p.length∧Rt w∧w.length≤1000000∧bV p v=bV (p.drop i) w∧S=⟨dR 28 [(1,aj w),(10,bf p),(11,.int .i64 p.length),(12,.int .i64 i)],[]⟩) p.length ⟨0,v,by omega,hr,hl,by rw[List.drop_zero],?_⟩ ?_
 ·simp only[dw,keepR,Nat.reduceAdd,pX,Nat.reduceBEq,List.map_nil]
  rfl
 rintro m S ⟨i,w,him,hw,hwl,hg,rfl⟩
 have zi:(0≤(i:Int))=True:=eq_true (by omega)
 rcases Nat.lt_or_ge i p.length with h | h
 ·have hlt:((i:Int)<(p.length:Int))=True:=eq_true (by omega)
  have hgi:=List.getElem?_eq_getElem h
  have hx:=hn p[i] (List.getElem_mem h)
  rw[List.drop_eq_getElem_cons h]at hg
  generalize p[i]=x at hgi hx hg
  rw[bV]at hg
  by_cases he:(aP w x).2=0
  ·have he':=eq_true he
   rw[if_pos he]at hg
   have hm:=cZ hw (D6 hw he)
   simp (maxSteps:=400000) only[↓aA,aB,BEq.rfl,seval,hQ,hlt,zi,hgi,↓zY,fo,he',R9,D8,etS]
   exact⟨hw,hwl,hx,⟨by omega,by omega⟩,m-1,by omega,i+1,_,by omega,hm.1,by omega,hg,rfl⟩
  ·have he':=eq_false he
   rw[if_neg he]at hg
   have hres:o5 p v=.bI [.sl 0 [] (some true),.int .i64 (aP w x).2]:=by unfold o5;rw[hg,if_neg he]
   simp (maxSteps:=400000) only[↓aA,aB,BEq.rfl,seval,hQ,hlt,zi,hgi,↓zY,fo,he',R9,D8,etS,hres]
   exact⟨hw,hwl,hx⟩
 ·have hlt:((i:Int)<(p.length:Int))=False:=eq_false (by omega)
  rw[List.drop_eq_nil_of_le h,bV]at hg
  have hres:o5 p v=.bI [aj w,.int .i64 0]:=by unfold o5;rw[hg,if_pos rfl]
  simp (maxSteps:=400000) only[↓aA,aB,BEq.rfl,seval,hQ,hlt,hres]
def ni:eX:=λargs objs K=>match args with
 | [a0,a1]=>gy bf a0 (HK.mk:HK λp=>gy aj a1 (HK.mk:HK λv=>(Rt v)∧(v.length≤1000000)∧(p.length≤1000000)∧(∀x∈p,0≤x.n)∧K (.bI [aj (bV p v).1,.int .i64 (bV p v).2]) objs 0))
 | _=>False
theorem ol:aQ Tryz.prog 29 (ni):=by
 intro args objs K h
 unfold ni at h
 split at h
 ·rename_i a0 a1
  obtain⟨p,rfl,v,rfl,h1,h2,h3,h4,hk⟩:=h
  exact⟨_,_,_,.pure _ rfl ((Ya p v h1 h2 h3 h4).res (CJ p v)),hk⟩
 ·exact h.elim
end Lp
namespace Lp
open Go Go.Proofs
theorem VH{a c:PV}(h1:gD a c):∀(i:Nat) (p q:PV),[a][i]?=some p→[c][i]?=some q→gD p q:=λi p q hp hq=>by
 match i with
 | 0=>cases hp;cases hq;exact h1
 | _+1=>simp at hp
theorem MZ(l:List Vl)(hl:l.length≤1000000)(hb:l.flatten.length≤1000000):av Tryz.prog 53 [dP l] [] (.aZ 0 0) [xD (dQ l) 0]:=by
 refine Rb.G5 (T:=bg Tryz.prog [(81,yP)]) 1 hD (ay (af Mj ak)) bC λQ hQ=>?_
 (conv=>arg 4;cbv);simp (maxSteps:=400000) only[↓aA,aB,BEq.rfl,seval,hQ,↓yP,XA,XB]
 exact⟨hl,hb,by omega,by omega,OG (k:=0) (ver:=2) rfl rfl rfl rfl (congrArg (λo:Obj=>{ o with ver:=0 }) (qD 1 1 _ 46 6 (dQ l) 2)) (yQ _ 0)⟩
def ko:eX:=λargs objs K=>match args with
 | [x]=>vZ aj 1 x objs (HK.mk:HK λl=>l.length≤1000000∧l.flatten.length≤1000000∧K (.aZ objs.length 0) (objs++[xD (dQ l) 0]) 2)
 | _=>False
theorem xW:aQ Tryz.prog 53 ko:=by
 intro args objs K h
 unfold ko at h
 split at h
 ·obtain⟨l,a',l1,t1,h1,h2,h3⟩:=j5 Cj h
  exact⟨_,_,_,.J7 0 _ [a'] ⟨l1,trivial⟩ (qC _ _) ((MZ l h1 h2).arg rfl (VH t1)),h3⟩
 ·exact h.elim
theorem adI(a b:Vl):(aj a).putCells 0 [aj b]=aj b:=rfl
theorem aaY(l:List Vl)(i:Nat)(y:Vl):(l.map aj).set i (aj y)=(l.set i y).map aj:=List.map_set.symm
def wo(p:List Stp)(v x:Vl):PV:=if (dK p v x).2=0 then .bI [aj (dK p v x).1,.int .i64 0] else .bI [.sl 0 [] (some true),.int .i64 (dK p v x).2]
theorem vJ(p:List Stp)(v x:Vl):gD (wo p v x) (.bI [aj (dK p v x).1,.int .i64 (dK p v x).2]):=by
 unfold wo
 split
 ·rename_i h;rw[h];exact .refl _
 ·rename_i h;rw[Ih p v x h];exact DC (.inr rfl) (jv 0 6) (.refl _)
structure vV (p:List Stp) (v x:Vl):Prop where
 rt:Rt v
 len:v.length≤50000
 nm:Nm v
 xrt:Rt x
 VI:x.length≤50000
 xnm:Nm x
 wG:∀s∈p,aS s=true
 abY:p.length≤1000000
def lm(p:List Stp):eX:=λargs objs K=>match args with
 | [a,b,c]=>a=bf p∧gy aj b (HK.mk:HK λw=>gy aj c (HK.mk:HK λx=>vV p w x∧K (.bI [aj (dK p w x).1,.int .i64 (dK p w x).2]) objs 0))
 | _=>False
theorem PK:∀(p:List Stp) (v x:Vl),vV p v x→av Tryz.prog 28 [bf p,aj v,aj x] [] (wo p v x) []
 | [],v,x,h=>by
  refine Ik.eH (T:=bg Tryz.prog []) 0 hD (ay ak) bC (by decide) (by decide) λQ hQ=>?_
  have hres:wo [] v x=.bI [aj x,.int .i64 0]:=rfl
  have c00:((0:Nat):Int)=0:=rfl
  (conv=>arg 4;cbv);simp (maxSteps:=400000) only[↓aA,aB,BEq.rfl,seval,hQ,List.length_nil,c00,hres]
 | s::p,v,x,h=>by
  have hok:aQ Tryz.prog 28 (lm p):=by
   intro args objs K h
   unfold lm at h
   split at h
   ·obtain⟨rfl,w,rfl,y,rfl,h1,hk⟩:=h
    exact⟨_,_,_,.pure _ rfl ((PK p w y h1).res (vJ p w y)),hk⟩
   ·exact h.elim
  refine Ik.eH (T:=bg Tryz.prog [(50,zY),(28,lm p),(51,nZ),(52,iP),(53,ko)]) 1 hD (ay (af PI (af hok (af zW (af vk (af xW ak)))))) bC (by decide) (by decide) λQ hQ=>?_
  have hpn:(((s::p).length:Int)=0)=False:=eq_false (by simp only[List.length_cons];omega)
  have hgs:(s::p)[0]?=some s:=rfl
  have hdr:(s::p).drop 1=p:=rfl
  have hwl:1≤(s::p).length:=by simp
  have Si:(1:Int)≤((s::p).length:Int):=by simp only[List.length_cons];omega
  have hrs:=h.wG s (by simp)
  have ZT:0≤s.n:=by
   unfold aS at hrs
   cases hp:s.part<;>rw[hp]at hrs<;>simp at hrs<;>omega
  have hlen:=h.len
  by_cases h0:(aP v s).2=0
  rotate_left 1
  ·have h0':=eq_false h0
   have hres:wo (s::p) v x=.bI [.sl 0 [] (some true),.int .i64 (aP v s).2]:=by simp[wo,dK,h0]
   generalize hsp:s::p=w at *
   (conv=>arg 4;cbv);simp (maxSteps:=400000) only[↓aA,aB,BEq.rfl,seval,hQ,hpn,hgs,↓zY,fo,h0',hres]
   exact⟨h.rt,by omega,ZT⟩
  have h0':=eq_true h0
  obtain⟨a1,a2,a3⟩:=qH h.rt h.nm h0
  have hso:vV p (aP v s).1 x:=⟨a1,by omega,a3,h.xrt,h.VI,h.xnm,λs' hs=>h.wG s' (List.mem_cons_of_mem _ hs),by have:=h.abY;simp only[List.length_cons]at this;omega⟩
  by_cases h1:(dK p (aP v s).1 x).2=0
  rotate_left 1
  ·have h1':=eq_false h1
   have hres:wo (s::p) v x=.bI [.sl 0 [] (some true),.int .i64 (dK p (aP v s).1 x).2]:=by simp[wo,dK,h0,h1]
   generalize hsp:s::p=w at *
   (conv=>arg 4;cbv);simp (maxSteps:=400000) only[↓aA,aB,BEq.rfl,seval,hQ,hpn,hgs,hdr,List.take_length,↓zY,↓lm,fo,h0',h1',hres]
   exact⟨h.rt,by omega,ZT,Si,Int.le_refl _,hso⟩
  have h1':=eq_true h1
  obtain⟨b1,b2,b3⟩:=rO p _ x a1 a3 hso.wG h.xrt h.xnm h1
  have hyl:(dK p (aP v s).1 x).1.length≤100000:=by have:=h.VI;omega
  have hres:wo (s::p) v x=.bI [aj (mD v s (dK p (aP v s).1 x).1),.int .i64 0]:=by simp[wo,dK,h0,h1]
  generalize hye:(dK p (aP v s).1 x).1=y at *
  generalize hsp:s::p=w at *
  cases hp:s.part with
  | false=>
   have hpu:mD v s y=gL v s.name y:=by simp[mD,hp]
   have hu:utf s.name=true:=by
    unfold aS at hrs
    simp only[hp,Bool.false_eq_true,if_false,Bool.and_eq_true]at hrs
    exact hrs.2
   have hk:aO v=6:=by
    unfold aP at h0
    simp only[hp,Bool.false_eq_true,if_false]at h0
    by_cases hk:aO v=6
    ·exact hk
    ·rw[if_neg hk]at h0;cases h0
   (conv=>arg 4;cbv);simp (maxSteps:=400000) only[↓aA,aB,BEq.rfl,seval,hQ,hpn,hgs,hdr,List.take_length,hp,↓zY,↓lm,↓nZ,fo,h0',h1',hres,hpu,hye]
   exact⟨h.rt,by omega,ZT,Si,Int.le_refl _,hso,h.rt,hk,by omega,hu,b1,hyl⟩
  | true=>
   have hpu:mD v s y=dQ ((ax v).set s.n.toNat y):=by simp[mD,hp]
   have hk:aO v=5∧s.n.toNat<(ax v).length:=by
    unfold aP at h0
    simp only[hp,if_true]at h0
    by_cases hk:aO v=5
    ·rw[if_pos hk]at h0
     cases hg:(ax v)[s.n.toNat]? with
     | none=>rw[hg]at h0;cases h0
     | some w=>exact⟨hk,(List.getElem?_eq_some_iff.1 hg).1⟩
    ·rw[if_neg hk]at h0;cases h0
   have zn:(0≤s.n)=True:=eq_true ZT
   have hgn:=List.getElem?_eq_getElem hk.2
   obtain⟨q1,_,q3,_⟩:=bK h.rt
   have hfl:=vG hgn y
   generalize (ax v)[s.n.toNat]=w0 at hgn hfl
   (conv=>arg 4;cbv);simp (maxSteps:=400000) only[↓aA,aB,BEq.rfl,seval,hQ,hpn,hgs,hdr,List.take_length,hp,↓zY,↓lm,↓iP,fo,h0',h1',hres,hpu,hye,zn,hgn,xw,adI,aaY,↓ko,Jj,E5]
   have hxl:=h.VI
   exact⟨h.rt,by omega,Si,Int.le_refl _,hso,h.rt,by omega,by omega,by rw[List.length_set];omega,by omega,by rw[tJ (by rfl)]⟩
def o6:eX:=λargs objs K=>match args with
 | [a0,a1,a2]=>gy bf a0 (HK.mk:HK λp=>gy aj a1 (HK.mk:HK λv=>gy aj a2 (HK.mk:HK λx=>(vV p v x)∧K (.bI [aj (dK p v x).1,.int .i64 (dK p v x).2]) objs 0)))
 | _=>False
theorem oo:aQ Tryz.prog 28 (o6):=by
 intro args objs K h
 unfold o6 at h
 split at h
 ·rename_i a0 a1 a2
  obtain⟨p,rfl,v,rfl,x,rfl,h1,hk⟩:=h
  exact⟨_,_,_,.pure _ rfl ((PK p v x h1).res (vJ p v x)),hk⟩
 ·exact h.elim
end Lp
namespace Lp
open Go Go.Proofs
structure ESz (e:Ed):Prop where
 wG:YH e.p
 val:Small e.v
theorem eu(x:Ed):gq 1 0 [⟨38,3,[iD x],true,1⟩] (.bq 0 1 0 0)=.addr (iD x):=rfl
theorem M0(e:Ed)(he:ESz e):av Tryz.prog 27 [iD e] [] (.bool (bL e)) []:=by
 obtain⟨hp,hv⟩:=he
 refine Im.bY (T:=bg Tryz.prog [(48,fA),(49,lZ)]) 0 hD (ay (af Fe (af Hr ak))) bC (by decide) λQ hQ=>?_
 (conv=>arg 4;cbv);simp (maxSteps:=400000) only[↓aA,aB,BEq.rfl,seval,hQ]
 refine aT _ (Weak.freeze 1 0 (Nat.zero_le _) _) ?_
 cases hr:fP e.p with
 | false=>
  have h:bL e=false:=by simp[bL,hr]
  simp (maxSteps:=400000) only[↓aA,aB,BEq.rfl,seval,hQ,eu,↓fA,hr,h]
  exact hp
 | true=>
  rcases tf ((e.p.length:Int)=0) with h0 | h0
  ·have hp0:e.p=[]:=List.length_eq_zero_iff.1 (by have:=of_eq_true h0;omega)
   rcases tf (e.kind=0) with k0 | k0
   ·have h:bL e=bR e.v:=by simp[bL,hr,of_eq_true k0]
    simp (maxSteps:=400000) only[↓aA,aB,BEq.rfl,seval,hQ,eu,↓fA,↓lZ,hr,h0,k0,h]
    exact⟨hp,hv⟩
   ·have h:bL e=false:=by simp[bL,hr,hp0,of_eq_false k0]
    simp (maxSteps:=400000) only[↓aA,aB,BEq.rfl,seval,hQ,eu,↓fA,hr,h0,k0,h]
    exact hp
  ·have hp0:e.p≠[]:=λh=>by have:=of_eq_false h0;rw[h]at this;exact this rfl
   rcases tf (e.kind=0) with k0 | k0
   ·have h:bL e=bR e.v:=by simp[bL,hr,of_eq_true k0]
    simp (maxSteps:=400000) only[↓aA,aB,BEq.rfl,seval,hQ,eu,↓fA,↓lZ,hr,h0,k0,h]
    exact⟨hp,hv⟩
   rcases tf (e.kind=1) with k1 | k1
   ·have h:bL e=bR e.v:=by simp[bL,hr,hp0,of_eq_true k1]
    simp (maxSteps:=400000) only[↓aA,aB,BEq.rfl,seval,hQ,eu,↓fA,↓lZ,hr,h0,k0,k1,h]
    exact⟨hp,hv⟩
   rcases tf (e.kind=2) with k2 | k2
   ·have h:bL e=decide ((e.v.length:Int)=0):=by
      have:decide (e.v=[])=decide ((e.v.length:Int)=0):=by
       congr 1
       exact propext ⟨λh=>by rw[h];rfl,λh=>List.length_eq_zero_iff.1 (by omega)⟩
      rw[←this]
      simp[bL,hr,hp0,of_eq_true k2]
    simp (maxSteps:=400000) only[↓aA,aB,BEq.rfl,seval,hQ,eu,↓fA,hr,h0,k0,k1,k2,h]
    exact hp
   ·have h:bL e=false:=by simp[bL,hr,hp0,of_eq_false k0,of_eq_false k1,of_eq_false k2]
    simp (maxSteps:=400000) only[↓aA,aB,BEq.rfl,seval,hQ,eu,↓fA,hr,h0,k0,k1,k2,h]
    exact hp
def dG:eX:=λargs objs K=>match args with
 | [a0]=>gy iD a0 (HK.mk:HK λe=>(ESz e)∧K (.bool (bL e)) objs 0)
 | _=>False
theorem iA:aQ Tryz.prog 27 (dG):=by
 intro args objs K h
 unfold dG at h
 split at h
 ·rename_i a0
  obtain⟨e,rfl,h1,hk⟩:=h
  exact⟨_,_,_,.pure _ rfl (M0 e h1),hk⟩
 ·exact h.elim
def eP(r:Vl×Int):PV:=if r.2=0 then .bI [aj r.1,.int .i64 0] else .bI [.sl 0 [] (some true),.int .i64 r.2]
theorem qI(r:Vl×Int)(h:¬ r.2=0→r.1=[]):gD (eP r) (.bI [aj r.1,.int .i64 r.2]):=by
 unfold eP
 split
 ·rename_i h0;rw[h0];exact .refl _
 ·rename_i h0;rw[h h0];exact DC (.inr rfl) (jv 0 6) (.refl _)
theorem Ip{w:Vl}{nm:List UInt8}{e:Ed}(h:¬ (dN w nm e).2=0):(dN w nm e).1=[]:=by
 revert h
 unfold dN
 split
 ·split<;>split<;>simp
 ·simp
theorem KS{w:Vl}{n:Nat}{e:Ed}(h:¬ (gF w n e).2=0):(gF w n e).1=[]:=by
 revert h
 unfold gF
 split
 ·split<;>split<;>simp
 ·simp
structure Yb (w:Vl) (e:Ed):Prop where
 rt:Rt w
 len:w.length≤100000
 vrt:e.kind=1→Rt e.v∧e.v.length≤100000
theorem PL(w:Vl)(nm:List UInt8)(e:Ed)(h:Yb w e)(hu:utf nm=true):av Tryz.prog 31 [aj w,.str nm,iD e] [] (eP (dN w nm e)) []:=by
 obtain⟨hr,hl,hv⟩:=h
 refine MU.eH (T:=bg Tryz.prog [(56,fU),(51,nZ),(57,nY)]) 0 hD (ay (af xG (af zW (af zV ak)))) bC (by decide) (by decide) λQ hQ=>?_
 obtain⟨n,r,hw,_⟩:=bO hr.name hr.one.ne
 have hw0:w[0]?=some n:=by rw[hw];rfl
 have hkd:aO w=n.kind:=by rw[hw];rfl
 (conv=>arg 4;cbv);simp (maxSteps:=400000) only[↓aA,aB,BEq.rfl,seval,hQ]
 refine aT _ (Weak.freeze 1 0 (Nat.zero_le _) _) ?_
 rcases tf (n.kind=6) with k | k
 rotate_left 1
 ·have hres:eP (dN w nm e)=.bI [.sl 0 [] (some true),.int .i64 5]:=by simp[eP,dN,hkd,of_eq_false k]
  simp (maxSteps:=400000) only[↓aA,aB,BEq.rfl,seval,hQ,eu,hw0,k,hres]
 have IL:aO w=6:=by rw[hkd];exact of_eq_true k
 have CV:w.length≤1000000:=by omega
 rcases tf (e.kind=1) with k1 | k1
 ·obtain⟨v1,v2⟩:=hv (of_eq_true k1)
  cases hh:dS w nm with
  | true=>
   have hres:eP (dN w nm e)=.bI [.sl 0 [] (some true),.int .i64 4]:=by simp[eP,dN,IL,of_eq_true k1,hh]
   simp (maxSteps:=400000) only[↓aA,aB,BEq.rfl,seval,hQ,eu,hw0,k,k1,↓fU,fo,hh,hres]
   exact⟨hr,CV⟩
  | false=>
   have hres:eP (dN w nm e)=.bI [aj (gL w nm e.v),.int .i64 0]:=by simp[eP,dN,IL,of_eq_true k1,hh]
   simp (maxSteps:=400000) only[↓aA,aB,BEq.rfl,seval,hQ,eu,hw0,k,k1,↓fU,↓nZ,fo,hh,hres]
   exact⟨hr,CV,hr,IL,hl,hu,v1,v2⟩
 ·cases hh:dS w nm with
  | true=>
   have hres:eP (dN w nm e)=.bI [aj (cO w nm),.int .i64 0]:=by simp[eP,dN,IL,of_eq_false k1,hh]
   simp (maxSteps:=400000) only[↓aA,aB,BEq.rfl,seval,hQ,eu,hw0,k,k1,↓fU,↓nY,fo,hh,hres]
   exact⟨hr,CV,hr,IL,CV⟩
  | false=>
   have hres:eP (dN w nm e)=.bI [.sl 0 [] (some true),.int .i64 6]:=by simp[eP,dN,IL,of_eq_false k1,hh]
   simp (maxSteps:=400000) only[↓aA,aB,BEq.rfl,seval,hQ,eu,hw0,k,k1,↓fU,fo,hh,hres]
   exact⟨hr,CV⟩
def iQ:eX:=λargs objs K=>match args with
 | [a0,.str nm,a2]=>gy aj a0 (HK.mk:HK λw=>gy iD a2 (HK.mk:HK λe=>(Yb w e)∧(utf nm=true)∧K (.bI [aj (dN w nm e).1,.int .i64 (dN w nm e).2]) objs 0))
 | _=>False
theorem jf:aQ Tryz.prog 31 (iQ):=by
 intro args objs K h
 unfold iQ at h
 split at h
 ·rename_i a0 nm a2
  obtain⟨w,rfl,e,rfl,h1,h2,hk⟩:=h
  exact⟨_,_,_,.pure _ rfl ((PL w nm e h1 h2).res (qI _ Ip)),hk⟩
 ·exact h.elim
theorem Sj(w:Vl)(m:Nat)(e:Ed)(h:Yb w e):av Tryz.prog 30 [aj w,.int .i64 m,iD e] [] (eP (gF w m e)) []:=by
 obtain⟨hr,hl,hv⟩:=h
 refine PE.eH (T:=bg Tryz.prog [(52,iP),(54,yT),(55,FJ),(53,ko)]) 1 hD (ay (af vk (af HY (af Sc (af xW ak))))) bC (by decide) (by decide) λQ hQ=>?_
 obtain⟨n,r,hw,_⟩:=bO hr.name hr.one.ne
 have hw0:w[0]?=some n:=by rw[hw];rfl
 have hkd:aO w=n.kind:=by rw[hw];rfl
 obtain⟨q1,_,q3,_⟩:=bK hr
 have CV:w.length≤1000000:=by omega
 have hfl:∀k:Nat,((ax w).take k).flatten.length+((ax w).drop k).flatten.length=(ax w).flatten.length:=λn=>by
  rw[←List.length_append,←List.flatten_append,List.take_append_drop]
 (conv=>arg 4;cbv);simp (maxSteps:=400000) only[↓aA,aB,BEq.rfl,seval,hQ]
 refine aT _ (Weak.freeze 1 0 (Nat.zero_le _) _) ?_
 rcases tf (n.kind=5) with k | k
 rotate_left 1
 ·have hres:eP (gF w m e)=.bI [.sl 0 [] (some true),.int .i64 5]:=by simp[eP,gF,hkd,of_eq_false k]
  simp (maxSteps:=400000) only[↓aA,aB,BEq.rfl,seval,hQ,eu,hw0,k,hres]
 have hk5:aO w=5:=by rw[hkd];exact of_eq_true k
 have zm:(0≤(m:Int))=True:=eq_true (by omega)
 rcases tf (e.kind=1) with k1 | k1
 ·obtain⟨v1,v2⟩:=hv (of_eq_true k1)
  rcases tf (((ax w).length:Int)<m) with hlt | hlt
  ·have hlt':=of_eq_true hlt
   have hres:eP (gF w m e)=.bI [.sl 0 [] (some true),.int .i64 4]:=by
    unfold eP gF;simp only[if_pos hk5,if_pos (of_eq_true k1),if_pos (show (ax w).length<m by omega)];rfl
   simp (maxSteps:=400000) only[↓aA,aB,BEq.rfl,seval,hQ,eu,hw0,k,k1,↓iP,xw,hlt,hres]
   exact⟨hr,CV⟩
  ·have hlt':=of_eq_false hlt
   have hres:eP (gF w m e)=.bI [aj (dQ ((ax w).take m++[e.v]++(ax w).drop m)),.int .i64 0]:=by
    unfold eP gF;simp only[if_pos hk5,if_pos (of_eq_true k1),if_neg (show ¬ (ax w).length<m by omega)];rfl
   simp (maxSteps:=400000) only[↓aA,aB,BEq.rfl,seval,hQ,eu,hw0,k,k1,↓iP,↓yT,xw,hlt,zm,Jj,E5,abU,↓ko,hres]
   refine⟨hr,CV,e.v,rfl,by omega,by omega,by rw[List.length_take,List.length_drop];omega,?_,by rw[tJ (by rfl)]⟩
   have:=hfl m
   simp only[List.flatten_append,List.length_append,List.flatten_cons,List.flatten_nil,List.length_nil]
   omega
 ·rcases tf (((ax w).length:Int)≤m) with hlt | hlt
  ·have hlt':=of_eq_true hlt
   have hres:eP (gF w m e)=.bI [.sl 0 [] (some true),.int .i64 6]:=by
    unfold eP gF;simp only[if_pos hk5,if_neg (of_eq_false k1),if_pos (show (ax w).length≤m by omega)];rfl
   simp (maxSteps:=400000) only[↓aA,aB,BEq.rfl,seval,hQ,eu,hw0,k,k1,↓iP,xw,hlt,hres]
   exact⟨hr,CV⟩
  ·have hlt':=of_eq_false hlt
   have hres:eP (gF w m e)=.bI [aj (dQ ((ax w).take m++(ax w).drop (m+1))),.int .i64 0]:=by
    unfold eP gF;simp only[if_pos hk5,if_neg (of_eq_false k1),if_neg (show ¬ (ax w).length≤m by omega)];rfl
   simp (maxSteps:=400000) only[↓aA,aB,BEq.rfl,seval,hQ,eu,hw0,k,k1,↓iP,↓FJ,xw,hlt,zm,Jj,E5,abU,↓ko,hres]
   refine⟨hr,CV,⟨by omega,by omega⟩,by omega,by rw[List.length_take,List.length_drop];omega,?_,by rw[tJ (by rfl)]⟩
   have h1:=hfl m
   have h2:=hfl (m+1)
   have h3:((ax w).drop (m+1)).flatten.length≤((ax w).drop m).flatten.length:=by
    rw[←List.drop_drop]
    cases (ax w).drop m<;>simp
   simp only[List.flatten_append,List.length_append]
   omega
def kr:eX:=λargs objs K=>match args with
 | [a0,.int .i64 m,a2]=>gy aj a0 (HK.mk:HK λw=>gy iD a2 (HK.mk:HK λe=>(Yb w e)∧(0≤m)∧K (.bI [aj (gF w m.toNat e).1,.int .i64 (gF w m.toNat e).2]) objs 0))
 | _=>False
theorem ku:aQ Tryz.prog 30 (kr):=by
 intro args objs K h
 unfold kr at h
 split at h
 ·rename_i a0 m a2
  obtain⟨w,rfl,e,rfl,h1,h2,hk⟩:=h
  exact⟨_,_,_,.pure _ rfl ((by have:=(Sj w m.toNat e h1).res (qI _ KS);rwa[Int.toNat_of_nonneg h2]at this)),hk⟩
 ·exact h.elim
end Lp
namespace Lp
open Go Go.Proofs
open List (drop_zero)
open Nat (zero_le)
structure xX (v:Vl) (e:Ed):Prop where
 rt:Rt v
 len:v.length≤40000
 nm:Nm v
 sz:ESz e
 abZ:e.v.length≤1000
 enm:Nm e.v
theorem xX.ok {v:Vl}{e:Ed}(h:xX v e):ZQ e:=⟨h.sz.wG.txt,h.enm⟩
theorem PN{p:List Stp}(h:p≠[]):p[p.length-1]?=some (l7 p):=by
 have:0<p.length:=List.length_pos_iff.2 h
 unfold l7
 rw[List.getElem?_eq_getElem (by omega)];rfl
theorem tO{s:Stp}(h:aS s=true):0≤s.n:=by
 unfold aS at h
 cases hp:s.part<;>rw[hp]at h<;>simp at h<;>omega
theorem Sk{r:Vl×Int}{k:Int}(h1:r.1=[])(h2:r.2=k):gD (.bI [.sl 0 [] (some true),.int .i64 k]) (.bI [aj r.1,.int .i64 r.2]):=by
 rw[h1,h2];exact DC (.inr rfl) (jv 0 6) (.refl _)
theorem PO(v:Vl)(e:Ed)(h:xX v e):av Tryz.prog 17 [aj v,iD e] [] (.bI [aj (dL v e).1,.int .i64 (dL v e).2]) []:=by
 have hsz:=h.sz
 have hvl:=h.len
 have hel:=h.abZ
 cases hre:bL e with
 | false=>
  have hone:dL v e=([],4):=by rw[dL,hre];rfl
  refine av.res (r:=.bI [.sl 0 [] (some true),.int .i64 4]) ?_ (by rw[hone];exact Sk rfl rfl)
  refine lQ.eH (T:=bg Tryz.prog [(27,dG),(28,o6),(29,ni),(30,kr),(31,iQ)]) 0 hD (ay (af iA (af oo (af ol (af ku (af jf ak)))))) bC (by decide) (by decide) λQ hQ=>?_
  (conv=>arg 4;cbv);simp (maxSteps:=400000) only[↓aA,aB,BEq.rfl,seval,hQ]
  refine aT _ (Weak.freeze 1 0 (zero_le _) _) ?_
  simp (maxSteps:=400000) only[↓aA,aB,BEq.rfl,seval,hQ,eu,↓dG,hre,KR]
  exact hsz
 | true=>
 obtain⟨r1,r2,r3,r4,r5,r6⟩:=ng hre
 rcases tf (e.kind=0) with k0 | k0
 ·have hone:dL v e=dK e.p v e.v:=by rw[dL,hre];simp[of_eq_true k0]
  have hso:vV e.p v e.v:=⟨h.rt,by omega,h.nm,r4 (by have:=of_eq_true k0;omega),by omega,h.enm,r1,by omega⟩
  rw[hone]
  refine lQ.eH (T:=bg Tryz.prog [(27,dG),(28,o6),(29,ni),(30,kr),(31,iQ)]) 0 hD (ay (af iA (af oo (af ol (af ku (af jf ak)))))) bC (by decide) (by decide) λQ hQ=>?_
  (conv=>arg 4;cbv);simp (maxSteps:=400000) only[↓aA,aB,BEq.rfl,seval,hQ]
  refine aT _ (Weak.freeze 1 0 (zero_le _) _) ?_
  simp (maxSteps:=400000) only[↓aA,aB,BEq.rfl,seval,hQ,eu,↓dG,↓o6,fo,hre,k0,KR]
  exact⟨hsz,hso⟩
 have k0':=of_eq_false k0
 have hpn:=r6 k0'
 have hls:=D7 hpn
 have hla:=PN hpn
 have hpl:0<e.p.length:=List.length_pos_iff.2 hpn
 have hrl:=r1 _ hls
 have hnl:=tO hrl
 obtain⟨L,hL⟩:∃L:Nat,L+1=e.p.length:=⟨e.p.length-1,by omega⟩
 have hone:dL v e=Qo (e.p.take L) v λw=>eZ w (l7 e.p) e:=by rw[dL,hre,←hL];simp[k0']
 have z1:(e.p.length:Int)-1=(L:Int):=by omega
 have zL:(0≤(L:Int))=True:=eq_true (by omega)
 have Yc:((L:Int)≤(e.p.length:Int))=True:=eq_true (by omega)
 have hla:e.p[L]?=some (l7 e.p):=by rw[←hla,←hL];rfl
 have hsn:=h.sz.wG.txt _ hls
 generalize l7 e.p=s at *
 have hqr:∀x∈e.p.take L,aS x=true:=λx hx=>r1 x (List.mem_of_mem_take hx)
 have ZU:∀x∈e.p.take L,0≤x.n:=λx hx=>tO (hqr x hx)
 have IG:(e.p.take L).length≤1000000:=by rw[List.length_take];omega
 have hb:-9223372036854775808≤(L:Int)∧(L:Int)≤9223372036854775807:=⟨by omega,by omega⟩
 by_cases h2:(bV (e.p.take L) v).2=0
 rotate_left 1
 ·have qJ:dL v e=([],(bV (e.p.take L) v).2):=by rw[hone,Qo,if_neg h2]
  refine av.res (r:=.bI [.sl 0 [] (some true),.int .i64 (bV (e.p.take L) v).2]) ?_ (by rw[qJ];exact Sk rfl rfl)
  have h2':=eq_false h2
  refine lQ.eH (T:=bg Tryz.prog [(27,dG),(28,o6),(29,ni),(30,kr),(31,iQ)]) 0 hD (ay (af iA (af oo (af ol (af ku (af jf ak)))))) bC (by decide) (by decide) λQ hQ=>?_
  (conv=>arg 4;cbv);simp (maxSteps:=400000) only[↓aA,aB,BEq.rfl,seval,hQ]
  refine aT _ (Weak.freeze 1 0 (zero_le _) _) ?_
  simp (maxSteps:=400000) only[↓aA,aB,BEq.rfl,seval,hQ,eu,↓dG,↓ni,fo,hre,k0,KR,z1,zL,Yc,drop_zero,h2']
  exact⟨hsz,hb,h.rt,by omega,IG,ZU⟩
 have h2':=eq_true h2
 obtain⟨g1,g2,g3⟩:=CB _ v h.rt h.nm h2
 have hin:Yb (bV (e.p.take L) v).1 e:=⟨g1,by omega,λk1=>⟨r4 (by omega),by omega⟩⟩
 have hinr:(eZ (bV (e.p.take L) v).1 s e).2=0→vV (e.p.take L) v (eZ (bV (e.p.take L) v).1 s e).1:=λh3=>by
  obtain⟨i1,i2,i3⟩:=MQ (e:=e) g1 g3 hrl hsn (λh1=>⟨r4 (by omega),h.enm⟩) h3
  exact⟨h.rt,by omega,h.nm,i1,by omega,i3,hqr,IG⟩
 cases hp:s.part with
 | true=>
  have e1:eZ (bV (e.p.take L) v).1 s e=gF (bV (e.p.take L) v).1 s.n.toNat e:=by rw[eZ,hp];rfl
  rw[e1]at hinr
  by_cases h3:(gF (bV (e.p.take L) v).1 s.n.toNat e).2=0
  ·have h3':=eq_true h3
   have qJ:dL v e=dK (e.p.take L) v (gF (bV (e.p.take L) v).1 s.n.toNat e).1:=by rw[hone,Qo,if_pos h2];simp only[e1];rw[if_pos h3]
   rw[qJ]
   refine lQ.eH (T:=bg Tryz.prog [(27,dG),(28,o6),(29,ni),(30,kr),(31,iQ)]) 0 hD (ay (af iA (af oo (af ol (af ku (af jf ak)))))) bC (by decide) (by decide) λQ hQ=>?_
   (conv=>arg 4;cbv);simp (maxSteps:=400000) only[↓aA,aB,BEq.rfl,seval,hQ]
   refine aT _ (Weak.freeze 1 0 (zero_le _) _) ?_
   simp (maxSteps:=400000) only[↓aA,aB,BEq.rfl,seval,hQ,eu,↓dG,↓ni,fo,hre,k0,KR,z1,zL,Yc,drop_zero,h2',hla,R9,D8,etS]
   refine⟨hsz,hb,h.rt,by omega,IG,ZU,aT _ (Weak.freeze 1 0 (zero_le _) _) ?_⟩
   simp (maxSteps:=400000) only[↓aA,aB,BEq.rfl,seval,hQ,jM,↓kr,↓o6,fo,hp,h3',zL,Yc,drop_zero,KR]
   exact⟨hin,hnl,hinr h3⟩
  ·have h3':=eq_false h3
   have qJ:dL v e=([],(gF (bV (e.p.take L) v).1 s.n.toNat e).2):=by rw[hone,Qo,if_pos h2];simp only[e1];rw[if_neg h3]
   refine av.res (r:=.bI [.sl 0 [] (some true),.int .i64 (gF (bV (e.p.take L) v).1 s.n.toNat e).2]) ?_ (by rw[qJ];exact Sk rfl rfl)
   refine lQ.eH (T:=bg Tryz.prog [(27,dG),(28,o6),(29,ni),(30,kr),(31,iQ)]) 0 hD (ay (af iA (af oo (af ol (af ku (af jf ak)))))) bC (by decide) (by decide) λQ hQ=>?_
   (conv=>arg 4;cbv);simp (maxSteps:=400000) only[↓aA,aB,BEq.rfl,seval,hQ]
   refine aT _ (Weak.freeze 1 0 (zero_le _) _) ?_
   simp (maxSteps:=400000) only[↓aA,aB,BEq.rfl,seval,hQ,eu,↓dG,↓ni,fo,hre,k0,KR,z1,zL,Yc,drop_zero,h2',hla,R9,D8,etS]
   refine⟨hsz,hb,h.rt,by omega,IG,ZU,aT _ (Weak.freeze 1 0 (zero_le _) _) ?_⟩
   simp (maxSteps:=400000) only[↓aA,aB,BEq.rfl,seval,hQ,jM,↓kr,fo,hp,h3',KR]
   exact⟨hin,hnl⟩
 | false=>
  have e1:eZ (bV (e.p.take L) v).1 s e=dN (bV (e.p.take L) v).1 s.name e:=by rw[eZ,hp];rfl
  rw[e1]at hinr
  have hu:utf s.name=true:=by
   unfold aS at hrl
   simp only[hp,Bool.false_eq_true,if_false,Bool.and_eq_true]at hrl
   exact hrl.2
  by_cases h3:(dN (bV (e.p.take L) v).1 s.name e).2=0
  ·have h3':=eq_true h3
   have qJ:dL v e=dK (e.p.take L) v (dN (bV (e.p.take L) v).1 s.name e).1:=by rw[hone,Qo,if_pos h2];simp only[e1];rw[if_pos h3]
   rw[qJ]
   refine lQ.eH (T:=bg Tryz.prog [(27,dG),(28,o6),(29,ni),(30,kr),(31,iQ)]) 0 hD (ay (af iA (af oo (af ol (af ku (af jf ak)))))) bC (by decide) (by decide) λQ hQ=>?_
   (conv=>arg 4;cbv);simp (maxSteps:=400000) only[↓aA,aB,BEq.rfl,seval,hQ]
   refine aT _ (Weak.freeze 1 0 (zero_le _) _) ?_
   simp (maxSteps:=400000) only[↓aA,aB,BEq.rfl,seval,hQ,eu,↓dG,↓ni,fo,hre,k0,KR,z1,zL,Yc,drop_zero,h2',hla,R9,D8,etS]
   refine⟨hsz,hb,h.rt,by omega,IG,ZU,aT _ (Weak.freeze 1 0 (zero_le _) _) ?_⟩
   simp (maxSteps:=400000) only[↓aA,aB,BEq.rfl,seval,hQ,jM,↓iQ,↓o6,fo,hp,h3',zL,Yc,drop_zero,KR]
   exact⟨hin,hu,hinr h3⟩
  ·have h3':=eq_false h3
   have qJ:dL v e=([],(dN (bV (e.p.take L) v).1 s.name e).2):=by rw[hone,Qo,if_pos h2];simp only[e1];rw[if_neg h3]
   refine av.res (r:=.bI [.sl 0 [] (some true),.int .i64 (dN (bV (e.p.take L) v).1 s.name e).2]) ?_ (by rw[qJ];exact Sk rfl rfl)
   refine lQ.eH (T:=bg Tryz.prog [(27,dG),(28,o6),(29,ni),(30,kr),(31,iQ)]) 0 hD (ay (af iA (af oo (af ol (af ku (af jf ak)))))) bC (by decide) (by decide) λQ hQ=>?_
   (conv=>arg 4;cbv);simp (maxSteps:=400000) only[↓aA,aB,BEq.rfl,seval,hQ]
   refine aT _ (Weak.freeze 1 0 (zero_le _) _) ?_
   simp (maxSteps:=400000) only[↓aA,aB,BEq.rfl,seval,hQ,eu,↓dG,↓ni,fo,hre,k0,KR,z1,zL,Yc,drop_zero,h2',hla,R9,D8,etS]
   refine⟨hsz,hb,h.rt,by omega,IG,ZU,aT _ (Weak.freeze 1 0 (zero_le _) _) ?_⟩
   simp (maxSteps:=400000) only[↓aA,aB,BEq.rfl,seval,hQ,jM,↓iQ,fo,hp,h3',KR]
   exact⟨hin,hu⟩
def AV:eX:=λargs objs K=>match args with
 | [a0,a1]=>gy aj a0 (HK.mk:HK λv=>gy iD a1 (HK.mk:HK λe=>(xX v e)∧K (.bI [aj (dL v e).1,.int .i64 (dL v e).2]) objs 0))
 | _=>False
theorem KU:aQ Tryz.prog 17 (AV):=by
 intro args objs K h
 unfold AV at h
 split at h
 ·rename_i a0 a1
  obtain⟨v,rfl,e,rfl,h1,hk⟩:=h
  exact⟨_,_,_,.pure _ rfl (PO v e h1),hk⟩
 ·exact h.elim
structure oK (v:Vl) (l:List Ed):Prop where
 rt:Rt v
 nm:Nm v
 len:v.length+(l.map λe=>e.v.length).sum≤40000
 all:∀e∈l,ESz e∧e.v.length≤1000∧Nm e.v
 ab0:l.length≤1000000
theorem oK.one {v:Vl}{e:Ed}{l:List Ed}(h:oK v (e::l)):xX v e:=
 ⟨h.rt,by have:=h.len;rw[List.map_cons,List.sum_cons]at this;omega,h.nm,(h.all e (by simp)).1,(h.all e (by simp)).2.1,(h.all e (by simp)).2.2⟩
theorem oK.next {v:Vl}{e:Ed}{l:List Ed}(h:oK v (e::l))(h0:(dL v e).2=0):oK (dL v e).1 l:=by
 obtain⟨a1,a2,a3⟩:=MR h.rt h.nm h.one.ok h0
 have:=h.len
 rw[List.map_cons,List.sum_cons]at this
 exact⟨a1,a3,by omega,λe' he=>h.all e' (List.mem_cons_of_mem _ he),by have:=h.ab0;rw[List.length_cons]at this;omega⟩
theorem adJ:PV.yo (.agg ⟨[.int .i64 0,.slice none 0 0,.slice none 0 0]⟩)=.agg [.int .i64 0,.sl 0 [] (some true),.sl 0 [] (some true)]:=rfl
theorem adK(a b c x y z:PV):(PV.agg [a,b,c]).putCells 0 [x,y,z]=.agg [x,y,z]:=rfl
theorem Sl(v:Vl)(l:List Ed)(h:oK v l):av Tryz.prog 14 [aj v,jK l] [] (eP (dY v l)) []:=by
 refine MV.eH (T:=bg Tryz.prog [(17,AV)]) 0 hD (ay (af KU ak)) bC (by decide) (by decide) λQ hQ=>?_
 have hll:=h.ab0
 (conv=>arg 4;cbv);simp (maxSteps:=400000) only[↓aA,aB,BEq.rfl,seval,hQ]
 refine aU (hz:=zero_le _) (λm S=>∃(i:Nat) (w:Vl),i+m=l.length∧oK w (l.drop i)∧dY v l=dY w (l.drop i)∧S=⟨dR 28 [(0,aj w),(10,jK l),(11,.int .i64 l.length),(12,.int .i64 i)],[]⟩) l.length ⟨0,v,by omega,h,rfl,?_⟩ ?_
 ·simp only[dw,keepR,Nat.reduceAdd,pX,Nat.reduceBEq,List.map_nil]
  rfl
 rintro m S ⟨i,w,him,hw,hg,rfl⟩
 have zi:(0≤(i:Int))=True:=eq_true (by omega)
 rcases Nat.lt_or_ge i l.length with h | h
 ·have hlt:((i:Int)<(l.length:Int))=True:=eq_true (by omega)
  have hgi:=List.getElem?_eq_getElem h
  rw[List.drop_eq_getElem_cons h]at hg hw
  generalize l[i]=e at hgi hg hw
  rw[dY]at hg
  by_cases he:(dL w e).2=0
  ·have he':=eq_true he
   rw[if_pos he]at hg
   simp (maxSteps:=400000) only[↓aA,aB,BEq.rfl,seval,hQ,hlt,zi,hgi,↓AV,fo,he',adJ,adK,KR]
   exact⟨hw.one,⟨by omega,by omega⟩,m-1,by omega,i+1,_,by omega,hw.next he,hg,rfl⟩
  ·have he':=eq_false he
   rw[if_neg he]at hg
   have hres:eP (dY v l)=.bI [.sl 0 [] (some true),.int .i64 (dL w e).2]:=by unfold eP;rw[hg,if_neg he]
   simp (maxSteps:=400000) only[↓aA,aB,BEq.rfl,seval,hQ,hlt,zi,hgi,↓AV,fo,he',adJ,adK,KR,hres]
   exact hw.one
 ·have hlt:((i:Int)<(l.length:Int))=False:=eq_false (by omega)
  rw[List.drop_eq_nil_of_le h,dY]at hg
  have hres:eP (dY v l)=.bI [aj w,.int .i64 0]:=by unfold eP;rw[hg,if_pos rfl]
  simp (maxSteps:=400000) only[↓aA,aB,BEq.rfl,seval,hQ,hlt,hres]
def nk:eX:=λargs objs K=>match args with
 | [a0,a1]=>gy aj a0 (HK.mk:HK λv=>gy jK a1 (HK.mk:HK λl=>(oK v l)∧K (.bI [aj (dY v l).1,.int .i64 (dY v l).2]) objs 0))
 | _=>False
theorem xY:aQ Tryz.prog 14 (nk):=by
 intro args objs K h
 unfold nk at h
 split at h
 ·rename_i a0 a1
  obtain⟨v,rfl,l,rfl,h1,hk⟩:=h
  exact⟨_,_,_,.pure _ rfl ((Sl v l h1).res (qI _ (Cz l v))),hk⟩
 ·exact h.elim
end Lp
namespace Lp
open Go Go.Proofs
open List (drop_zero length_append mem_singleton take_zero)
theorem ZV:D 55=⟨.other,1,8,.nilFunc⟩:=by kernel_rfl
theorem ZW(y:Nat):(PV.qN y).cells=[.qN y]∧(PV.qN y).isAgg=false∧(PV.qN y).storable=true:=⟨rfl,rfl,rfl⟩
structure t_ (v:Vl):Prop where
 rt:Rt v
 len:v.length≤1000000
 nm:∀n∈v,n.name.length≤1000000
theorem t_.parts {v:Vl}(h:t_ v):(ax v).length≤1000000∧∀x∈ax v,t_ x:=by
 have hf:=bK h.rt
 refine⟨by have:=h.len;omega,λx hx=>?_⟩
 have h1:=cZ h.rt hx
 exact⟨h1.1,by have:=h.len;omega,u7 h.rt (q:=λn=>n.name.length≤1000000) (λn _=>by simp) h.nm x hx⟩
def wu(p:List Stp)(y:Nat)(at':List Int):List Obj:=[⟨36,1,[bZ p],true,1⟩,⟨55,1,[.qN y],true,1⟩,⟨4,1,[.bool false],true,1⟩,⟨80,1,[encI at'],true,1⟩]
theorem TS(p:List Stp)(n:Nat):(bZ p).ge n=true∧(bZ p).Ep n=true:=⟨Tn (yZ p).1,kH (yZ p).2.2.2.2.2.1⟩
theorem VJ(n:Nat):(∀v,(aj v).ge n=true)∧(∀v,(dP v).ge n=true)∧(∀v,(encI v).ge n=true)∧(∀v,(encS v).ge n=true)∧(∀v,(bf v).ge n=true)∧(∀v,(kT v).ge n=true)∧(∀k p v,(qG k (bf p) (aj v)).ge n=true)∧(∀k p z x q,(qG k (bf p) (.sl z x q)).ge n=true)∧(∀k p v,(qG k (bZ p) (aj v)).ge n=true):=
 ⟨λ_=>rfl,λ_=>rfl,λ_=>rfl,λ_=>rfl,λ_=>rfl,λ_=>rfl,λ_ _ _=>rfl,λ_ _ _ _ _=>rfl,λk p v=>by
  show ((PV.Ep n (.int .i64 k)) && ((bZ p).Ep n && ((aj v).Ep n && true)))=true
  rw[(TS p n).2];rfl⟩
theorem FK(p:List Stp)(y:Nat)(at':List Int):bD (wu p y at'):=by
 intro o ho x hx c hc
 simp only[wu,List.mem_cons,List.not_mem_nil,or_false]at ho
 rcases ho with rfl | rfl | rfl | rfl
 ·simp only[mem_singleton]at hx;subst hx
  rw[(yZ p).2.2.2.1,mem_singleton]at hc;subst hc;exact (yZ p).2.2.2.2.2.1
 ·simp only[mem_singleton]at hx;subst hx
  simp only[PV.cells,mem_singleton]at hc;subst hc;rfl
 ·simp only[mem_singleton]at hx;subst hx
  simp only[PV.cells,mem_singleton]at hc;subst hc;rfl
 ·simp only[mem_singleton]at hx;subst hx
  simp only[encI,PV.cells,mem_singleton]at hc;subst hc;rfl
theorem M4(p:List Stp)(y:Nat)(at':List Int)(n:Nat)(a b:Obj)(ha:a=wC∨a=hole)(hb:b=wC∨b=hole):Y5 n (wu p y at'++[a,b]):=by
 intro o ho x hx c hc
 rcases List.mem_append.1 ho with ho | ho
 ·exact MJ (FK p y at') n o ho x hx c hc
 ·simp only[List.mem_cons,List.not_mem_nil,or_false]at ho
  rcases ho with rfl | rfl
  ·rcases ha with rfl | rfl<;>cases hx
  ·rcases hb with rfl | rfl<;>cases hx
theorem TT(b:Bool)(v:PV):(PV.bool b).putCells 0 [v]=v:=rfl
theorem pqS(p:List Stp)(x:Stp):bZ (p++[x])=bf (p++[x]):=by simp[bZ]
def Yd(f:Nat):Prop:=∀(q:List Stp) (x y:Vl),q.length+f=20→t_ x→t_ y→fK Tryz.prog 45 [bZ q,aj x,aj y] (jN (aH f q x y))
theorem PS{f:Nat}(hs:Yd f)(p:List Stp)(a b:Vl)(hp:p.length+f+1=20)(ha:t_ a)(hb:t_ b) :
  fK Tryz.prog 67 [bZ p,aj a,aj b] (jN (m_ (aH f) p (ax a) (ax b))):=by
 refine LZ.ZN (fnT:=lH [(52,oH),(94,vD),(95,h_),(96,tL),(93,Cx)]) hD
  (af xJ (af JA (af xN (af MN (af EK ak))))) bC (by decide) λI J objs y Q hI jm jJ hQ=>?_
 obtain⟨N,hN⟩:∃N,objs.length=N:=⟨_,rfl⟩
 rw[hN]at jm jJ hQ ⊢
 have hG:=Ib hN
 (conv=>arg 4;cbv);simp (maxSteps:=400000) only[↓aA,aB,BEq.rfl,seval,hQ,Fb,hG,hN,oW N,ZV,ZW,yZ,↓oH,↓vD,↓h_,H6]
 have hpa:=t_.parts ha
 have hpb:=t_.parts hb
 refine⟨by have:=ha.len;omega,ha.rt.one,by have:=hb.len;omega,hb.rt.one,hpa.1,hpb.1,λv hv=>(hpa.2 v hv).len,λv hv=>(hpb.2 v hv).len,?_⟩
 generalize ax a=old at hpa hQ ⊢
 generalize ax b=now at hpb hQ ⊢
 refine aT _ (Weak.refl _ _) ?_
 simp (maxSteps:=400000) only[↓aA,aB,BEq.rfl,seval,hQ,Fb,↓h_]
 obtain⟨ys,hys⟩:∃ys,ys=m_ (aH f) p old now:=⟨_,rfl⟩
 rw[←hys]at hQ ⊢
 obtain⟨at',hat⟩:∃at',fD old now=at':=⟨_,rfl⟩
 have hlen:(fD old now).length=now.length:=yV old now
 rw[hat]at hlen ⊢
 have hN':objs.length=N:=hN
 refine Zp 120 [.addr (dP old)] (zX old)
  (λk O'=>k≤old.length∧∃O,I (iy p old.length at' k).length O∧O'=O++wu p y at'++[wC,hole])
  (λk O'=>∃i O,i<ys.length∧J i O∧O'=O++wu p y at'++[wC,hole]) .ret rfl rfl rfl ?_ ?_ ?_ rfl rfl trivial (oV old hpa.1) (DT old) ?_ ?_ ?_ ?_ ?_ ?_
 ·show N≤(objs++wu p y at').length
  rw[length_append];omega
 ·exact abV (n:=N) (by simp only[Vw,VJ,TS,Bool.and_self])
 ·show N≤(objs++wu p y at').length
  rw[length_append];omega
 ·exact⟨Nat.zero_le _,objs,hI,rfl⟩
 ·rintro k O' ⟨_,O,FL,rfl⟩
  exact XY (jm _ _ FL).1 (jm _ _ FL).2 (FK p y at') (by rw[length_append,hN];rfl)
 ·rintro k O' ⟨i,O,_,hJO,rfl⟩
  exact⟨XY (jJ _ _ hJO).1 (jJ _ _ hJO).2.1 (FK p y at') (by rw[length_append,hN];rfl),R8 (jJ _ _ hJO).2.2 (FK p y at')⟩
 ·rintro k args O' ⟨hk,O,FL,rfl⟩ PU
  obtain⟨hkl,rfl⟩:=HZ PU
  have hO:=(jm _ _ FL).1
  have hG:=Ib hO
  obtain⟨q,hq⟩:∃q,q=old.length-1-k:=⟨_,rfl⟩
  rw[←hq]
  cases hin:at'.any λy=>decide ((q:Int)=y) with
  | true=>
   simp (maxSteps:=400000) only[↓aA,aB,BEq.rfl,seval,hQ,jQ,kbI,wu,hG,oW N,yZ,↓tL,hin,ntS,ntR,List.take_succ_cons,List.drop_succ_cons,take_zero,drop_zero,↓abw]
   refine⟨by decide,by omega,?_⟩
   refine And.intro (by omega) (Exists.intro O (And.intro ?_ rfl))
   rw[rM,←hq,hin]
   simpa using FL
  | false=>
   have hdk:=rM p old.length at' k
   rw[←hq,hin,if_neg (by decide)]at hdk
   have hdl:(iy p old.length at' (k+1)).length=(iy p old.length at' k).length+1:=by rw[hdk];simp
   obtain⟨l3,hl3⟩:=R_ p old.length at' (k:=k+1) (by omega)
   have hyq:(jN ys)[(iy p old.length at' k).length]?=some [oZ ⟨2,p++[⟨true,[],(q:Nat)⟩],[]⟩]:=by
    rw[hys,m_,hat,hl3,hdk,List.append_assoc,List.append_assoc]
    exact Cy
   have hil:(iy p old.length at' k).length<ys.length:=by
    have:=(List.getElem?_eq_some_iff.1 hyq).1
    rwa[gT]at this
   simp (maxSteps:=400000) only[↓aA,aB,BEq.rfl,seval,hQ,jQ,kbI,wu,hG,oW N,yZ,↓tL,hin,ZV,ZW,DX,ZP,ntS,ntR,List.take_succ_cons,List.drop_succ_cons,take_zero,drop_zero,↓abw]
   refine⟨by decide,by omega,by omega,Cw (n:=N) rfl rfl rfl rfl jm jJ (n_ (by simp only[Vw,VJ,TS,Bool.and_self])) (M4 p y at' N _ _ (.inl rfl) (.inr rfl)) (by simp[qG,PV.pure,bf,PV.ref]) FL (by rw[KO]at hyq;exact hyq) (λO1 hI1=>?_) λO1 vK=>?_⟩
   ·simp (maxSteps:=400000) only[↓aA,aB,BEq.rfl,seval,hQ]
    refine And.intro (by omega) (Exists.intro O1 (And.intro ?_ rfl))
    rw[hdl];exact hI1
   ·simp (maxSteps:=400000) only[↓aA,aB,BEq.rfl,seval,hQ,wu,Ib (jJ _ _ vK).1,oW N,TT]
    exact And.intro rfl (Exists.intro _ (Exists.intro O1 (And.intro hil (And.intro vK rfl))))
 ·rintro O' ⟨hk,O,FL,rfl⟩
  rw[p_]at FL
  have hO:=(jm _ _ FL).1
  have hG:=Ib hO
  simp (maxSteps:=400000) only[↓aA,aB,BEq.rfl,seval,hQ,Fb,wu,hG,oW N]
  have hD0:iy p old.length at' old.length=lM p old.length at':=rfl
  rw[hD0]at FL
  refine aU (λm S=>∃(i:Nat) (O:List Obj),i+m=now.length∧I ((lM p old.length at').length+(l5 (aH f) p old now at' i).length) O∧
   S=⟨dR 75 [(4,.bq N 1 0 0),(7,.bq (N+1) 1 0 0),(8,.bq (N+2) 1 0 0),(9,dP old),(11,.bq (N+3) 1 0 0),(42,dP now),(43,.int .i64 now.length),(44,.int .i64 i)],O++(wu p y at'++[wC,hole])⟩)
   now.length ⟨0,O,by omega,FL,?_⟩ ?_
  ·simp only[dw,keepR,Nat.reduceAdd,pX,Nat.reduceBEq,List.map_nil]
   rfl
  clear FL hO hG
  rintro m S ⟨i,O,him,FL,rfl⟩
  have hO:=(jm _ _ FL).1
  have hG:=Ib hO
  rcases Nat.lt_or_ge i now.length with h | h
  rotate_left 1
  ·have hlt:((i:Int)<(now.length:Int))=False:=eq_false (by omega)
   simp (maxSteps:=400000) only[↓aA,aB,BEq.rfl,seval,hQ,hlt,Fb,wu,hG,oW N,TT]
   obtain rfl:i=now.length:=by omega
   refine DW ?_ hO
   rw[gT,hys,m_,hat,length_append]
   exact FL
  have hlt:((i:Int)<(now.length:Int))=True:=eq_true (by omega)
  have zi:(0≤(i:Int))=True:=eq_true (by omega)
  have hx:now[i]?=some (now.getD i []):=by
   rw[List.getD_eq_getElem?_getD,List.getElem?_eq_getElem h];rfl
  have hz:at'[i]?=some (at'.getD i 0):=by
   rw[List.getD_eq_getElem?_getD,List.getElem?_eq_getElem (by omega)];rfl
  have hzi:=xO old now _ (by rw[hat];exact List.mem_of_getElem? hz)
  have hvy:=hpb.2 _ (List.mem_of_getElem? hx)
  have hst:=AU (aH f) p old now at' i
  obtain⟨l3,hl3⟩:=VA (aH f) p old now at' (i:=i+1) (n:=now.length) (by omega)
  have VK:ys=(lM p old.length at'++l5 (aH f) p old now at' i)++(AR (aH f) p old now at' i++l3):=by
   rw[hys,m_,hat]
   show lM p old.length at'++l5 (aH f) p old now at' now.length=_
   rw[hl3,hst];simp
  by_cases hk0:0≤at'.getD i 0
  ·have hk0':=eq_true hk0
   have hadd:AR (aH f) p old now at' i=aH f (p++[⟨true,[],i⟩]) (old.getD (at'.getD i 0).toNat []) (now.getD i []):=by
    rw[AR,if_pos hk0]
   generalize at'.getD i 0=z at hz hzi hk0 hk0' hadd
   have hw:old[z.toNat]?=some (old.getD z.toNat []):=by
    rw[List.getD_eq_getElem?_getD,List.getElem?_eq_getElem (by omega)];rfl
   have hvx:=hpa.2 _ (List.mem_of_getElem? hw)
   generalize old.getD z.toNat []=x at hw hvx hadd
   generalize now.getD i []=v at hx hvy hadd
   simp (maxSteps:=400000) only[↓aA,aB,BEq.rfl,seval,hQ,hlt,zi,Fb,wu,hG,oW N,ZV,ZW,hx,hz,hw,hk0',ZP,DX,yZ,ntS,ntR,List.take_succ_cons,List.drop_succ_cons,take_zero,drop_zero,↓abw,Int.toNat_natCast]
   have hcall:=hs (p++[⟨true,[],i⟩]) x v (by simp;omega) hvx hvy
   rw[pqS]at hcall
   have hln:(l5 (aH f) p old now at' (i+1)).length=(l5 (aH f) p old now at' i).length+(jN (aH f (p++[⟨true,[],i⟩]) x v)).length:=by rw[hst,hadd,length_append,gT]
   have hyl:ys.length=(lM p old.length at').length+(l5 (aH f) p old now at' (i+1)).length+l3.length:=by rw[VK,hst];simp;omega
   rw[hadd]at VK
   refine⟨by omega,by decide,MI (n:=N) (bargs:=[bf (p++[⟨true,[],i⟩]),aj x,aj v]) rfl rfl rfl rfl jm jJ (n_ (by simp only[Vw,VJ,TS,Bool.and_self])) (M4 p y at' N _ _ (.inl rfl) (.inr rfl)) rfl rfl hcall FL
    (λj a hj=>by rw[VK,←length_append];exact KP hj) (λO1 hI1=>?_) λj O1 hj vK=>?_⟩
   ·simp (maxSteps:=400000) only[↓aA,aB,BEq.rfl,seval,hQ]
    refine⟨⟨by omega,by omega⟩,m-1,by omega,i+1,O1,by omega,?_,by rw[Int.natCast_add];rfl⟩
    rw[hln,←Nat.add_assoc];exact hI1
   ·simp (maxSteps:=400000) only[↓aA,aB,BEq.rfl,seval,hQ,wu,Ib (jJ _ _ vK).1,oW N,TT]
    refine lK ?_ vK (jJ _ _ vK).1
    rw[gT];omega
  ·have hk0':=eq_false hk0
   have hadd:AR (aH f) p old now at' i=[⟨1,p++[⟨true,[],i⟩],now.getD i []⟩]:=by
    rw[AR,if_neg hk0]
   generalize at'.getD i 0=z at hz hzi hk0 hk0' hadd
   generalize now.getD i []=v at hx hvy hadd
   simp (maxSteps:=400000) only[↓aA,aB,BEq.rfl,seval,hQ,hlt,zi,Fb,wu,hG,oW N,ZV,ZW,hx,hz,hk0',ZP,DX,yZ,ntS,ntR,Int.toNat_natCast]
   have hln:(l5 (aH f) p old now at' (i+1)).length=(l5 (aH f) p old now at' i).length+1:=by rw[hst,hadd];simp
   have hyl:ys.length=(lM p old.length at').length+(l5 (aH f) p old now at' (i+1)).length+l3.length:=by rw[VK,hst];simp;omega
   rw[hadd]at VK
   have hyq:(jN ys)[(lM p old.length at').length+(l5 (aH f) p old now at' i).length]?=some [qG 1 (bf (p++[⟨true,[],i⟩])) (aj v)]:=by
    rw[←Pw,VK,←length_append]
    exact Cy (l2:=[])
   refine⟨by omega,Cw (n:=N) rfl rfl rfl rfl jm jJ (n_ (by simp only[Vw,VJ,TS,Bool.and_self])) (M4 p y at' N _ _ (.inl rfl) (.inr rfl)) rfl FL hyq (λO1 hI1=>?_) λO1 vK=>?_⟩
   ·simp (maxSteps:=400000) only[↓aA,aB,BEq.rfl,seval,hQ]
    refine⟨⟨by omega,by omega⟩,m-1,by omega,i+1,O1,by omega,?_,by rw[Int.natCast_add];rfl⟩
    rw[hln,←Nat.add_assoc];exact hI1
   ·simp (maxSteps:=400000) only[↓aA,aB,BEq.rfl,seval,hQ,wu,Ib (jJ _ _ vK).1,oW N,TT]
    refine lK ?_ vK (jJ _ _ vK).1
    rw[gT];omega
 ·rintro k O' hk ⟨i,O,hi,hJO,rfl⟩
  have hO:=(jJ _ _ hJO).1
  rw[XZ (show (objs++_).length=_ by rw[length_append,hN,hO];rfl)]
  simp (maxSteps:=400000) only[↓aA,aB,BEq.rfl,seval,hQ,wu,Ib hO,oW N]
  exact lK (by rw[gT];exact hi) hJO hO
end Lp
