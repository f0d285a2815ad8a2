/-
  Part 6 of what the statement rests on: LpEdA, LpEdB, LpZ1, LpEk1, LpEk2, LpEm0, LpEt5, LpEt6, LpEk3, LpEm1, LpEm2, LpEm3, LpEm4, LpEm5, LpEs1, LpEs2, LpEn1, LpEo1, LpEo2, LpEo3, LpEo4, LpEt7, LpRdT22, LpTie, LpJn. No condition.
-/
import Derived.Test.YthmobaehdbiljaaGreatDoorLp5
import Derived.Lib.LaidIn
import Derived.Lib.LaidU8T
import Derived.Deep.DeepHandedRow
import Derived.Deep.DeepWitnessRowRef
import Derived.ProofKit
import Derived.SizedLaws
import Derived.JoinedCond
import Derived.JoinedOf

set_option linter.all false
set_option maxHeartbeats 8000000
set_option maxRecDepth 100000
namespace Lp
open Go Go.Proofs
theorem nZ{f:Nat}{p:List Stp}{a b:Vl}{ys:List Ed}(ha:rE a)(hb:rE b)(hp:p.length+f=20)
  (h:(a=b∧ys=[])∨
   (a≠b∧aN a=6∧aN b=6∧p.length<20∧fC Tryz.prog 66 [b_ p,aj a,aj b] (jD ys))∨
   (a≠b∧aN a=5∧aN b=5∧p.length<20∧fC Tryz.prog 67 [b_ p,aj a,aj b] (jD ys))∨
   (a≠b∧(p.length<20→¬ (aN a=6∧aN b=6)∧¬ (aN a=5∧aN b=5))∧ys=[⟨0,p,b⟩])) :
  fC Tryz.prog 45 [b_ p,aj a,aj b] (jD ys):=by
 refine IX.TW (fnT:=lu [(65,dF)]) hD (af rQ au) bE (by decide) λI J objs y Q hI je jB hQ=>?_
 obtain⟨N,hN⟩:∃N,objs.length=N:=⟨_,rfl⟩
 rw[hN]at je jB hQ ⊢
 have hal:=ha.len
 have hbl:=hb.len
 obtain⟨na,ra,rfl,_⟩:=bS ha.rt.name ha.rt.one.ne
 obtain⟨nb,rb,rfl,_⟩:=bS hb.rt.name hb.rt.one.ne
 simp only[aN]at h
 have ga:(na::ra)[0]?=some na:=rfl
 have gb:(nb::rb)[0]?=some nb:=rfl
 generalize na::ra=a at *
 generalize nb::rb=b at *
 rcases h with ⟨hab,rfl⟩ | ⟨hab,k1,k2,hpl,hg⟩ | ⟨hab,k1,k2,hpl,hg⟩ | ⟨hab,hk,rfl⟩
 ·have hab':=eq_true hab
  (conv=>arg 4;cbv);simp (maxSteps:=400000) only[↓aA,aB,BEq.rfl,seval,hQ,ES,yG,pqL,ga,gb,↓dF,hab']
  have he:=nY (J:=J) (n:=N) (len:=0) hI hN
  exact⟨λ_=>⟨λ_=>⟨hal,hbl,he⟩,λ_=>⟨hal,hbl,he⟩⟩,λ_=>⟨hal,hbl,he⟩⟩
 ·have hab':=eq_false hab
  have hpl':(20≤(p.length:Int))=False:=eq_false (by omega)
  (conv=>arg 4;cbv);simp (maxSteps:=400000) only[↓aA,aB,BEq.rfl,seval,hQ,ES,yG,pqL,ga,gb,↓dF,hab',k1,k2,hpl']
  refine⟨hal,hbl,HV (n:=N) (i:=0) (bargs:=[b_ p,aj a,aj b]) rfl rfl rfl rfl je jB (nX (by simp only[VJ,VO,TY,Bool.and_self])) rfl (by simp[yG];exact⟨rfl,rfl⟩) hg hI (λj c hj=>by rw[Nat.zero_add];exact hj) (λO1 hI1=>?_) λj O1 hj vz=>?_⟩
  ·simp (maxSteps:=400000) only[↓aA,aB,BEq.rfl,seval,hQ]
   rw[Nat.zero_add]at hI1
   exact nY hI1 (je _ _ hI1).1
  ·simp (maxSteps:=400000) only[↓aA,aB,BEq.rfl,seval,hQ]
   rw[Nat.zero_add]at vz
   exact oJ hj vz (jB _ _ vz).1
 ·have hab':=eq_false hab
  have hpl':(20≤(p.length:Int))=False:=eq_false (by omega)
  (conv=>arg 4;cbv);simp (maxSteps:=400000) only[↓aA,aB,BEq.rfl,seval,hQ,ES,yG,pqL,ga,gb,↓dF,hab',k1,k2,hpl']
  refine⟨hal,hbl,HV (n:=N) (i:=0) (bargs:=[b_ p,aj a,aj b]) rfl rfl rfl rfl je jB (nX (by simp only[VJ,VO,TY,Bool.and_self])) rfl (by simp[yG];exact⟨rfl,rfl⟩) hg hI (λj c hj=>by rw[Nat.zero_add];exact hj) (λO1 hI1=>?_) λj O1 hj vz=>?_⟩
  ·simp (maxSteps:=400000) only[↓aA,aB,BEq.rfl,seval,hQ]
   rw[Nat.zero_add]at hI1
   exact nY hI1 (je _ _ hI1).1
  ·simp (maxSteps:=400000) only[↓aA,aB,BEq.rfl,seval,hQ]
   rw[Nat.zero_add]at vz
   exact oJ hj vz (jB _ _ vz).1
 ·have hab':=eq_false hab
  have hyq:(jD [⟨0,p,b⟩])[0]?=some [mg 0 (b_ p) (aj b)]:=by rw[←Yh];rfl
  by_cases e1:na.kind=nb.kind
  ·have e1':=eq_true e1
   by_cases e2:20≤(p.length:Int)
   ·have e2':=eq_true e2
    (conv=>arg 4;cbv);simp (maxSteps:=400000) only[↓aA,aB,BEq.rfl,seval,hQ,ES,yG,pqL,ga,gb,↓dF,hab',qF,e1',e2']
    refine⟨hal,hbl,Hz (n:=N) (i:=0) rfl rfl rfl rfl je jB (nX (by simp only[VJ,VO,TY,Bool.and_self])) (by rw[List.all_cons,yH _ _ _ (yG p).2.2.2.2.2.1 rfl];rfl) hI hyq (λO1 hI1=>?_) λO1 vz=>?_⟩
    ·simp (maxSteps:=400000) only[↓aA,aB,BEq.rfl,seval,hQ]
     exact nY hI1 (je _ _ hI1).1
    ·simp (maxSteps:=400000) only[↓aA,aB,BEq.rfl,seval,hQ]
     exact oJ (i:=0) (Nat.zero_lt_one) vz (jB _ _ vz).1
   ·have e2':=eq_false e2
    obtain⟨q1,q2⟩:=hk (by omega)
    have n6:(na.kind=6)=False:=eq_false λe=>q1 ⟨e,by rw[←e1];exact e⟩
    have n5:(na.kind=5)=False:=eq_false λe=>q2 ⟨e,by rw[←e1];exact e⟩
    (conv=>arg 4;cbv);simp (maxSteps:=400000) only[↓aA,aB,BEq.rfl,seval,hQ,ES,yG,pqL,ga,gb,↓dF,hab',qF,e1',e2',n6,n5]
    refine⟨hal,hbl,Hz (n:=N) (i:=0) rfl rfl rfl rfl je jB (nX (by simp only[VJ,VO,TY,Bool.and_self])) (by rw[List.all_cons,yH _ _ _ (yG p).2.2.2.2.2.1 rfl];rfl) hI hyq (λO1 hI1=>?_) λO1 vz=>?_⟩
    ·simp (maxSteps:=400000) only[↓aA,aB,BEq.rfl,seval,hQ]
     exact nY hI1 (je _ _ hI1).1
    ·simp (maxSteps:=400000) only[↓aA,aB,BEq.rfl,seval,hQ]
     exact oJ (i:=0) (Nat.zero_lt_one) vz (jB _ _ vz).1
  ·have e1':=eq_false e1
   (conv=>arg 4;cbv);simp (maxSteps:=400000) only[↓aA,aB,BEq.rfl,seval,hQ,ES,yG,pqL,ga,gb,↓dF,hab',qF,e1']
   refine⟨hal,hbl,Hz (n:=N) (i:=0) rfl rfl rfl rfl je jB (nX (by simp only[VJ,VO,TY,Bool.and_self])) (by rw[List.all_cons,yH _ _ _ (yG p).2.2.2.2.2.1 rfl];rfl) hI hyq (λO1 hI1=>?_) λO1 vz=>?_⟩
   ·simp (maxSteps:=400000) only[↓aA,aB,BEq.rfl,seval,hQ]
    exact nY hI1 (je _ _ hI1).1
   ·simp (maxSteps:=400000) only[↓aA,aB,BEq.rfl,seval,hQ]
    exact oJ (i:=0) (Nat.zero_lt_one) vz (jB _ _ vz).1
theorem Cq:∀f,Yi f
 | 0=>λp a b hp ha hb=>by
  rw[aC]
  split
  ·rename_i h
   exact nZ ha hb hp (.inl ⟨h,rfl⟩)
  ·rename_i h
   exact nZ ha hb hp (.inr (.inr (.inr ⟨h,λh'=>by omega,rfl⟩)))
 | f+1=>λp a b hp ha hb=>by
  have ih:=Cq f
  rw[aC]
  split
  ·rename_i h
   exact nZ ha hb hp (.inl ⟨h,rfl⟩)
  ·rename_i h
   split
   ·rename_i hk
    exact nZ ha hb hp (.inr (.inl ⟨h,hk.1,hk.2,by omega,Jt ih p a b (by omega) ha hb hk.1 hk.2⟩))
   ·rename_i h6
    split
    ·rename_i hk
     exact nZ ha hb hp (.inr (.inr (.inl ⟨h,hk.1,hk.2,by omega,PG ih p a b (by omega) ha hb⟩)))
    ·rename_i h5
     exact nZ ha hb hp (.inr (.inr (.inr ⟨h,λ_=>⟨h6,h5⟩,rfl⟩)))
end Lp
namespace Lp
open Go Go.Proofs
def iO(a b:Vl):List Ed:=aC 20 [] a b
theorem MP(a b:Vl)(ha:rE a)(hb:rE b):qp Tryz.prog 44 [.addr (aj a),.addr (aj b)] (jD (iO a b)):=by
 refine Gw.abK (fnT:=lu []) hD au bE λI J objs y hI je jB=>?_
 obtain⟨N,hN⟩:∃N,objs.length=N:=⟨_,rfl⟩
 rw[hN]at je jB ⊢
 have hg:=Cq 20 [] a b rfl ha hb
 (conv=>arg 4;cbv);simp (maxSteps:=400000) only[↓aA,aB,BEq.rfl,seval,ES]
 refine HV (n:=N) (i:=0) (bargs:=[.sl 0 [] (some true),aj a,aj b]) rfl rfl rfl rfl je jB (nX (by simp only[VJ,VO,TY,Bool.and_self])) rfl rfl hg hI (λj c hj=>by rw[Nat.zero_add];exact hj) (λO1 hI1=>?_) λj O1 hj vz=>?_
 ·simp (maxSteps:=400000) only[↓aA,aB,BEq.rfl,seval]
  rw[Nat.zero_add]at hI1
  exact⟨.inl rfl,.inl hI1⟩
 ·simp (maxSteps:=400000) only[↓aA,aB,BEq.rfl,seval]
  rw[Nat.zero_add]at vz
  exact⟨.inl rfl,.inr ⟨j,hj,vz⟩⟩
theorem SB(a b:Vl):av Tryz.prog 25 [aj a,aj b] [] (.fn 44 [] [.addr (aj a),.addr (aj b)]) []:=by
 refine LM.bR (T:=bA Tryz.prog []) 1 hD (ay au) bE (by decide) λQ hQ=>?_
 (conv=>arg 4;cbv);simp (maxSteps:=400000) only[↓aA,aB,BEq.rfl,seval,hQ]
 rfl
theorem vD(e:Ed):∃(k:Int) (P V:PV),o6 e=.agg [.int .i64 k,P,V]∧(P.cells=[P]∧P.isAgg=false∧P.storable=true∧P.ref=false)∧V.cells=[V]∧V.isAgg=false∧V.storable=true∧V.ref=false:=by
 refine⟨e.kind,b_ e.p,_,rfl,⟨(yG e.p).2.2.2.1,(yG e.p).2.2.2.2.1,(yG e.p).2.2.2.2.2.2.2,(yG e.p).2.2.2.2.2.1⟩,?_⟩
 split
 all_goals exact⟨rfl,rfl,rfl,rfl⟩
def Yn(es:List Ed)(i ver:Nat):List Obj:=[⟨38,3,(es.take i).map o6,true,ver⟩,⟨27,1,[.aS 0 ver],true,1⟩]
theorem aah(es:List Ed)(i ver:Nat):bI (Yn es i ver):=by
 intro o ho x hx c hc
 simp only[Yn,List.mem_cons,List.not_mem_nil,or_false]at ho
 rcases ho with rfl | rfl
 ·obtain⟨e,_,rfl⟩:=List.mem_map.1 hx
  obtain⟨k,P,V,he,⟨_,_,_,hP⟩,_,_,_,hV⟩:=vD e
  rw[he]at hc
  simp only[PV.cells,List.mem_cons,List.not_mem_nil,or_false]at hc
  have nr:∀c:PV,c.ref=false→c.mE 2=true:=λc h=>by cases c<;>first | rfl | (simp[PV.ref]at h)
  rcases hc with rfl | rfl | rfl
  ·rfl
  ·exact nr _ hP
  ·exact nr _ hV
 ·simp only[List.mem_singleton]at hx;subst hx
  simp only[PV.cells,List.mem_singleton]at hc;subst hc;rfl
theorem AB{d n:Nat}{O:List Obj}{p:PV}(h:p.ref=false):kD d n O p=p:=by
 cases p<;>first | (simp[PV.ref]at h;done) | (cases d<;>rfl)
theorem DK{d n:Nat}{O:List Obj}{p:PV}(h:p.ref=false):fA d n O p=p:=by
 cases p<;>first | (simp[PV.ref]at h;done) | rfl
theorem inQ:zG o6:=by
 intro d n O e
 obtain⟨k,P,V,he,⟨_,_,_,hP⟩,_,_,_,hV⟩:=vD e
 rw[he]
 show PV.agg [kD d n O (.int .i64 k),kD d n O P,kD d n O V]=_
 rw[AB hP,AB hV,AB rfl]
theorem Yo(d n:Nat)(O:List Obj)(l:List Ed):(l.map o6).map (PV.bJ (fA d n O))=l.map o6:=by
 rw[List.map_map]
 refine List.map_congr_left λe _=>?_
 obtain⟨k,P,V,he,⟨_,_,_,hP⟩,_,_,_,hV⟩:=vD e
 show PV.bJ (fA d n O) (o6 e)=_
 rw[he]
 show PV.agg [fA d n O (.int .i64 k),fA d n O P,fA d n O V]=_
 rw[DK hP,DK hV,DK rfl]
theorem edZ:PV.vM (.agg ⟨[.int .i64 0,.slice none 0 0,.slice none 0 0]⟩)=.agg [.int .i64 0,.sl 0 [] (some true),.sl 0 [] (some true)]:=rfl
theorem agP(a b c x y z:PV):(PV.agg [a,b,c]).putCells 0 [x,y,z]=.agg [x,y,z]:=rfl
theorem Ju(a b:Vl)(ha:rE a)(hb:rE b)(hl:(iO a b).length≤1000000000):av Tryz.prog 43 [.sl 0 [] (some true),.fn 44 [] [.addr (aj a),.addr (aj b)]] [] (.sl 3 ((iO a b).map o6) none) []:=by
 refine jJ.bR (T:=bA Tryz.prog []) 1 hD (ay au) bE (by decide) λQ hQ=>?_
 (conv=>arg 4;cbv);simp (maxSteps:=400000) only[↓aA,aB,BEq.rfl,seval,hQ]
 refine bg _ (Weak.J5 0 38 3 rfl (by decide)) ?_
 simp (maxSteps:=400000) only[↓aA,aB,BEq.rfl,seval,hQ]
 obtain⟨es,hes⟩:∃es,iO a b=es:=⟨_,rfl⟩
 have hgE:=MP a b ha hb
 rw[hes]at hQ hl hgE
 refine ZC 44 [.addr (aj a),.addr (aj b)] (jD es) (λi O=>i≤es.length∧∃ver,O=Yn es i ver) rfl rfl rfl (Nat.le_refl _) hgE (λy hy=>?_) ⟨Nat.zero_le _,0,rfl⟩ ?_ ?_ ?_
 ·obtain⟨e,_,rfl⟩:=List.mem_map.1 hy
  rfl
 ·rintro i O ⟨_,ver,rfl⟩
  exact⟨rfl,aah es i ver⟩
 ·rintro i args O ⟨hi,ver,rfl⟩ PI
  simp only[jD,List.getElem?_map]at PI
  cases hei:es[i]? with
  | none=>rw[hei]at PI;cases PI
  | some e=>
   rw[hei]at PI
   simp only[Option.map_some,Option.some.injEq]at PI
   subst PI
   have hil:=(List.getElem?_eq_some_iff.1 hei).1
   have htk:es.take (i+1)=es.take i++[e]:=by rw[List.take_add_one,hei];rfl
   obtain⟨k,P,V,he,hP,hV⟩:=vD e
   rw[he]
   simp (maxSteps:=400000) only[↓aA,aB,BEq.rfl,seval,hQ,jH,Wl,Yn,hP,hV,edZ,agP,xg,List.take_succ_cons,List.take_zero]
   have htl:=List.length_take_le i es
   refine⟨yH k P V hP.2.2.2 hV.2.2.2,by omega,by omega,?_⟩
   refine And.intro (by omega) (Exists.intro (ver+1) ?_)
   show [eO 0 2 _ _,eO 0 2 _ _]=_
   rw[TT _ (by decide)]
   refine congrArg (λz=>[z,_]) ?_
   have hrow:List.map o6 (List.take i es)++[PV.agg [PV.int IntKind.i64 k,P,V]]=List.map o6 (List.take (i+1) es):=by rw[htk,List.map_append,←he];rfl
   rw[hrow]
   simp only[eO,Yo]
 ·rintro O ⟨_,ver,rfl⟩
  rw[gG]
  simp (maxSteps:=400000) only[↓aA,aB,BEq.rfl,seval,hQ,Yn,List.take_length]
  exact ((iE (E:=λl:List Ed=>.sl 3 (l.map o6) none) (λ_=>rfl) inQ).1 0 38 es ver _).symm
def T_:d9:=λargs objs K=>∃a b:Vl,args=[.sl 0 [] (some true),.fn 44 [] [.addr (aj a),.addr (aj b)]]∧rE a∧rE b∧(iO a b).length≤1000000000∧K (.sl 3 ((iO a b).map o6) none) objs 0
theorem SC:aR Tryz.prog 43 T_:=by
 rintro args objs K ⟨a,b,rfl,h1,h2,h3,hk⟩
 exact⟨_,_,_,.pure _ rfl (Ju a b h1 h2 h3),hk⟩
theorem Jv(a b:Vl)(ha:rE a)(hb:rE b)(hl:(iO a b).length≤1000000000):av Tryz.prog 24 [.fn 44 [] [.addr (aj a),.addr (aj b)]] [] (.sl 3 ((iO a b).map o6) none) []:=by
 refine qy.bR (T:=bA Tryz.prog [(43,T_)]) 0 hD (ay (af SC au)) bE (by decide) λQ hQ=>?_
 (conv=>arg 4;cbv);simp (maxSteps:=400000) only[↓aA,aB,BEq.rfl,seval,hQ]
 refine⟨a,b,rfl,ha,hb,hl,?_⟩
 simp (maxSteps:=400000) only[↓aA,aB,BEq.rfl,seval,hQ]
def Ua:d9:=λargs objs K=>∃a b:Vl,args=[.fn 44 [] [.addr (aj a),.addr (aj b)]]∧rE a∧rE b∧(iO a b).length≤1000000000∧K (.sl 3 ((iO a b).map o6) none) objs 0
theorem SE:aR Tryz.prog 24 Ua:=by
 rintro args objs K ⟨a,b,rfl,h1,h2,h3,hk⟩
 exact⟨_,_,_,.pure _ rfl (Jv a b h1 h2 h3),hk⟩
def Cr:d9:=λargs objs K=>match args with
 | [a0,a1]=>gD aj a0 (HK.mk:HK λa=>gD aj a1 (HK.mk:HK λb=>K (.fn 44 [] [.addr (aj a),.addr (aj b)]) objs 0))
 | _=>False
theorem PO:aR Tryz.prog 25 (Cr):=by
 intro args objs K h
 unfold Cr at h
 split at h
 ·rename_i a0 a1
  obtain⟨a,rfl,b,rfl,hk⟩:=h
  exact⟨_,_,_,.pure _ rfl (SB a b),hk⟩
 ·exact h.elim
end Lp
namespace Lp
open Go
structure DL (R:List Int) (k:Nat) (i:Int):Prop where
 lt:∀(x:Nat) u,R[x]?=some u→0≤u→x<k∧u<i
 up:∀(x y:Nat) u v,x<y→R[x]?=some u→R[y]?=some v→0≤u→0≤v→u<v
theorem DL.le {R:List Int}{k k':Nat}{i i':Int}(h:DL R k i)(hk:k≤k')(hi:i≤i'):DL R k' i':=
 ⟨λx u hx hu=>by have:=h.lt x u hx hu;omega,h.up⟩
theorem DL.set {R:List Int}{k i:Nat}(h:DL R k i):DL (R.set k (i:Int)) (k+1) (i+1:Nat):=by
 have hx:∀(x:Nat) u,(R.set k (i:Int))[x]?=some u→(x=k∧u=i)∨(x≠k∧R[x]?=some u):=λx u hx=>by
  by_cases e:x=k
  ·subst e
   rw[List.getElem?_set]at hx
   simp only[if_true]at hx
   split at hx
   ·exact .inl ⟨rfl,(Option.some.inj hx).symm⟩
   ·cases hx
  ·rw[List.getElem?_set_ne (λh=>e h.symm)]at hx
   exact .inr ⟨e,hx⟩
 refine⟨λx u hxu hu=>?_,λx y u v hxy hxu hyv hu hv=>?_⟩
 ·rcases hx x u hxu with ⟨rfl,rfl⟩ | ⟨_,h1⟩
  ·omega
  ·have:=h.lt x u h1 hu;omega
 ·rcases hx x u hxu with ⟨rfl,rfl⟩ | ⟨e1,h1⟩
  ·rcases hx y v hyv with ⟨rfl,rfl⟩ | ⟨_,h2⟩
   ·omega
   ·have:=h.lt y v h2 hv;omega
  ·rcases hx y v hyv with ⟨rfl,rfl⟩ | ⟨_,h2⟩
   ·have:=h.lt x u h1 hu;omega
   ·exact h.up x y u v hxy h1 h2 hu hv
theorem DN:∀(m:Nat){R:List Int}{i k:Nat}(a:Nat),DL R k i→i≤a→DL (ni m R i k a) (k+m) a
 | 0,_,_,_,_,h,hi=>h.le (by omega) (by omega)
 | m+1,R,i,k,a,h,hi=>by
  rw[ni]
  split
  ·exact (DN m a h.set (by omega)).le (by omega) (Int.le_refl _)
  ·exact h.le (by omega) (by omega)
theorem yI{old now:List Vl}:∀(f a b i k:Nat){R:List Int},DL R k i→i≤a→k≤b→a≤old.length→b≤now.length→
  ∃i' k',(kI old now f a b i k R).2=(i',k')∧DL (kI old now f a b i k R).1 k' i'∧i'≤old.length∧k'≤now.length
 | 0,a,b,i,k,R,h,hi,hk,ha,hb=>⟨i,k,rfl,h,by omega,by omega⟩
 | f+1,a,b,i,k,R,h,hi,hk,ha,hb=>by
  rw[kI]
  split
  ·rename_i hab
   split
   ·refine yI f _ _ _ _ ?_ (Nat.le_refl _) (Nat.le_refl _) (by omega) (by omega)
    have:=DN (b-k) a h hi
    rw[show k+(b-k)=b by omega]at this
    exact this.set
   ·split
    ·exact yI f _ _ _ _ h (by omega) hk (by omega) hb
    ·exact yI f _ _ _ _ h hi (by omega) ha (by omega)
  ·exact⟨i,k,rfl,h,by omega,by omega⟩
theorem H_(old now:List Vl):DL (dR old now) now.length old.length:=by
 have h0:DL (List.replicate now.length (-1:Int)) 0 (0:Nat):=by
  have hn:∀(x:Nat) u,(List.replicate now.length (-1:Int))[x]?=some u→¬ 0≤u:=λx u hx hu=>by
   rw[List.getElem?_replicate]at hx
   split at hx
   ·cases hx;omega
   ·cases hx
  exact⟨λx u hx hu=>absurd hu (hn x u hx),λx y u v _ hx _ hu _=>absurd hu (hn x u hx)⟩
 obtain⟨i,k,e,h,hi,hk⟩:=yI (old:=old) (now:=now) (old.length+now.length) 0 0 0 0 h0 (Nat.le_refl _) (Nat.le_refl _) (Nat.zero_le _) (Nat.zero_le _)
 rw[dR]
 generalize kI old now (old.length+now.length) 0 0 0 0 (List.replicate now.length (-1))=x at e h
 obtain⟨R,i',k'⟩:=x
 simp only[Prod.mk.injEq]at e
 obtain⟨rfl,rfl⟩:=e
 have:=DN (now.length-k') old.length h hi
 rw[show k'+(now.length-k')=now.length by omega]at this
 exact this
end Lp
namespace Lp
open Go
open List (map_cons map_map mem_filter mem_range mem_singleton sum_cons)
theorem Fq{α:Type}[DecidableEq α](f:α→Nat):∀(l m:List α),l.Nodup→(∀x∈l,f x≠0→x∈m)→(l.map f).sum≤(m.map f).sum
 | [],_,_,_=>by simp
 | x::l,m,hn,h=>by
  obtain⟨hx,hn'⟩:=List.nodup_cons.1 hn
  by_cases h0:f x=0
  ·rw[map_cons,sum_cons,h0,Nat.zero_add]
   exact Fq f l m hn' λy hy=>h y (List.mem_cons_of_mem _ hy)
  ·have hm:=h x (List.mem_cons_self ..) h0
   have hp:=((List.perm_cons_erase hm).map f).sum_nat
   have:=Fq f l (m.erase x) hn' λy hy h1=>by
    refine (List.mem_erase_of_ne λe=>hx (by rw[←e];exact hy)).2 (h y (List.mem_cons_of_mem _ hy) h1)
   rw[map_cons,sum_cons]at hp ⊢
   omega
theorem MQ{α:Type}{f g:α→Nat}:∀{l:List α},(∀x∈l,f x≤g x)→(l.map f).sum≤(l.map g).sum
 | [],_=>by simp
 | x::l,h=>by
  have h1:=h x (List.mem_cons_self ..)
  have h2:=MQ (l:=l) λy hy=>h y (List.mem_cons_of_mem _ hy)
  simp only[map_cons,sum_cons]
  omega
theorem MR{α:Type}{f g:α→Nat}:∀(l:List α),(l.map λx=>f x+g x).sum=(l.map f).sum+(l.map g).sum
 | []=>rfl
 | x::l=>by
  have:=MR (f:=f) (g:=g) l
  simp only[map_cons,sum_cons]at *
  omega
theorem vE{a b:Vl}(ha:(aJ a).Nodup)(hb:(aJ b).Nodup):(j3 a b).Nodup:=by
 have h:(aJ a++(aJ b).filter λx=>!(aJ a).contains x).Nodup:=by
  rw[List.nodup_append]
  refine⟨ha,hb.filter _,λx hx y hy e=>?_⟩
  subst e
  have:=(mem_filter.1 hy).2
  simp[hx]at this
 exact (List.mergeSort_perm ..).nodup_iff.2 h
theorem lN{a b:Vl}{x:List UInt8}:x∈j3 a b↔x∈aJ a∨x∈aJ b:=by
 rw[j3,nD,(List.mergeSort_perm ..).mem_iff,List.mem_append,mem_filter]
 by_cases h:x∈aJ a<;>simp[h]
theorem l6{v:Vl}(h:Rt v)(hk:aN v=6):(aJ v).Nodup:=by
 rw[(bV h hk).2.2.1]
 exact eZ (bV h hk).1.rise
theorem pQ{v:Vl}(h:Rt v)(hk:aN v=6)(nm:List UInt8):eY v nm=true↔nm∈aJ v:=by
 rw[eY,gP,if_pos hk,(bV h hk).2.2.1]
 cases hg:iZ (jm v) nm with
 | none=>
  have:=nL.1 hg
  simp only[Option.isSome_none,Bool.false_eq_true,this]
 | some w=>simpa using ⟨w,jh hg⟩
theorem Yp{v:Vl}{nm:List UInt8}(h:eY v nm=false):bN v nm=[]:=by
 unfold eY at h
 unfold bN
 cases ho:gP v nm with
 | none=>rfl
 | some w=>rw[ho]at h;cases h
theorem DR{v:Vl}{nm:List UInt8}(hr:Rt v)(hk:aN v=6)(h:eY v nm=true):(nm,bN v nm)∈jm v:=by
 unfold eY at h
 unfold bN
 cases ho:gP v nm with
 | none=>rw[ho]at h;cases h
 | some w=>rw[gP,if_pos hk]at ho;exact jh ho
theorem fields_sum{v:Vl}(hr:Rt v)(hk:aN v=6):((aJ v).map λnm=>(bN v nm).length).sum+1=v.length:=by
 obtain⟨h1,h2,h3,h4⟩:=bV hr hk
 have h5:=uU (jm v)
 rw[h2]at h5
 rw[h5,h3,map_map,List.length_flatten,map_map]
 congr 2
 refine List.map_congr_left λx hx=>?_
 have:iZ (jm v) x.1=some x.2:=ow (eZ h1.rise) hx
 simp only[Function.comp,bN,gP,if_pos hk,this,Option.getD_some]
theorem xw{l:List Vl}:((List.range l.length).map λk=>(l.getD k []).length).sum=l.flatten.length:=by
 rw[List.length_flatten]
 congr 1
 apply List.ext_getElem
 ·simp
 ·intro i h1 h2
  simp only[List.getElem_map,List.getElem_range]
  rw[List.getD_eq_getElem?_getD,List.getElem?_eq_getElem (by simpa using h2)];rfl
theorem xC{v:Vl}(h:Rt v):1≤v.length:=List.length_pos_iff.2 h.one.ne
theorem SF(p:List Stp)(n:Nat)(at':List Int)(k:Nat):(eU p n at' k).length=(((List.range k).map λj=>n-1-j).filter λ(k:Nat)=>!(at'.any λy=>decide ((k:Int)=y))).length:=by
 unfold eU
 generalize (List.range k).map (λj=>n-1-j)=l
 induction l with
 | nil=>rfl
 | cons x l ih=>
  rw[List.flatMap_cons,List.length_append,ih,List.filter_cons]
  split
  ·rename_i h;simp[h]
  ·rename_i h;simp[h];omega
theorem xD{α β:Type}(f:α→List β):∀l:List α,(l.flatMap f).length=(l.map λx=>(f x).length).sum
 | []=>rfl
 | x::l=>by rw[List.flatMap_cons,List.length_append,xD f l];rfl
theorem KI{g:List Stp→Vl→Vl→List Ed}{p:List Stp}{old now:List Vl}(hg:∀q x y,x∈old→y∈now→(g q x y).length≤x.length+y.length)
  (ho:∀x∈old,1≤x.length) (hn:∀y∈now,1≤y.length):(j4 g p old now).length≤old.flatten.length+now.flatten.length:=by
 obtain⟨R,hR⟩:∃R,dR old now=R:=⟨_,rfl⟩
 have hm:=H_ old now
 have hin:=sW old now
 have hlen:=sV old now
 rw[hR]at hm hin hlen
 unfold j4
 rw[hR,List.length_append,iI,SF,xD]
 have hget:∀{l:List Vl}{k:Nat},k<l.length→l.getD k []∈l:=λ{l k} h=>by
  rw[List.getD_eq_getElem?_getD,List.getElem?_eq_getElem h];exact List.getElem_mem h
 have hri:∀i,i<now.length→∃u,R[i]?=some u∧R.getD i 0=u∧-1≤u∧u<old.length:=λi hi=>by
  have hg:=List.getElem?_eq_getElem (hlen ▸ hi:i<R.length)
  exact⟨_,hg,by rw[List.getD_eq_getElem?_getD,hg];rfl,hin _ (List.mem_of_getElem? hg)⟩
 obtain⟨A,hA⟩:∃A,(((List.range old.length).map λj=>old.length-1-j).filter λ(k:Nat)=>!(R.any λy=>decide ((k:Int)=y)))=A:=⟨_,rfl⟩
 obtain⟨B,hB⟩:∃B,((List.range now.length).filter λi=>decide (0≤R.getD i 0))=B:=⟨_,rfl⟩
 rw[hA]
 have hAm:∀k∈A,k<old.length∧∀y∈R,(k:Int)≠y:=λk hk=>by
  rw[←hA,mem_filter,List.mem_map]at hk
  obtain⟨⟨j,hj,rfl⟩,h2⟩:=hk
  rw[mem_range]at hj
  refine⟨by omega,λy hy e=>?_⟩
  have:(R.any λz=>decide (((old.length-1-j:Nat):Int)=z))=true:=List.any_eq_true.2 ⟨y,hy,by simpa using e⟩
  rw[this]at h2;cases h2
 have hAn:A.Nodup:=by
  rw[←hA]
  refine List.Pairwise.filter _ ?_
  rw[List.pairwise_map]
  refine (List.pairwise_lt_range (n:=old.length)).imp_of_mem λ{a b} ha hb h=>?_
  rw[mem_range]at ha hb
  omega
 have hBm:∀i∈B,i<now.length∧0≤R.getD i 0:=λi hi=>by
  rw[←hB,mem_filter,mem_range]at hi
  exact⟨hi.1,of_decide_eq_true hi.2⟩
 have hBn:(B.map λi=>(R.getD i 0).toNat).Nodup:=by
  rw[List.Nodup,List.pairwise_map,←hB]
  refine List.Pairwise.imp_of_mem ?_ (List.Pairwise.filter _ (List.pairwise_lt_range (n:=now.length)))
  intro a b ha hb h
  rw[hB]at ha hb
  obtain⟨a1,a2⟩:=hBm a ha
  obtain⟨b1,b2⟩:=hBm b hb
  obtain⟨u,u1,u2,_⟩:=hri a a1
  obtain⟨v,v1,v2,_⟩:=hri b b1
  have:=hm.up a b u v h u1 v1 (by omega) (by omega)
  rw[u2,v2];omega
 have h1:((A++B.map λi=>(R.getD i 0).toNat).map λk=>(old.getD k []).length).sum≤((List.range old.length).map λk=>(old.getD k []).length).sum:=by
  refine Fq _ _ _ ?_ λx hx _=>?_
  ·rw[List.nodup_append]
   refine⟨hAn,hBn,λx hx y hy e=>?_⟩
   obtain⟨i,hi,rfl⟩:=List.mem_map.1 hy
   obtain⟨i1,i2⟩:=hBm i hi
   obtain⟨u,u1,u2,_⟩:=hri i i1
   exact (hAm x hx).2 u (List.mem_of_getElem? u1) (by rw[u2]at i2 e;omega)
  ·rw[mem_range]
   rcases List.mem_append.1 hx with hx | hx
   ·exact (hAm x hx).1
   ·obtain⟨i,hi,rfl⟩:=List.mem_map.1 hx
    obtain⟨i1,i2⟩:=hBm i hi
    obtain⟨u,u1,u2,u3,u4⟩:=hri i i1
    show (R.getD i 0).toNat< _
    omega
 rw[xw,List.map_append,List.sum_append,map_map]at h1
 have h2:A.length≤(A.map λk=>(old.getD k []).length).sum:=by
  have:(A.map λ_=>1).sum≤(A.map λk=>(old.getD k []).length).sum:=MQ λk hk=>ho _ (hget (hAm k hk).1)
  rw[List.map_const',List.sum_replicate_nat,Nat.mul_one]at this
  exact this
 have h3:((List.range now.length).map λi=>(y_ g p old now R i).length).sum≤((List.range now.length).map λi=>(if 0≤R.getD i 0 then (old.getD (R.getD i 0).toNat []).length else 0)+(now.getD i []).length).sum:=by
  refine MQ λi hi=>?_
  rw[mem_range]at hi
  unfold y_
  split
  ·obtain⟨u,u1,u2,u3,u4⟩:=hri i hi
   exact hg _ _ _ (hget (by omega)) (hget hi)
  ·have:=hn _ (hget hi)
   simpa using this
 rw[MR,xw]at h3
 have h4:((List.range now.length).map λi=>if 0≤R.getD i 0 then (old.getD (R.getD i 0).toNat []).length else 0).sum≤(B.map λi=>(old.getD (R.getD i 0).toNat []).length).sum:=by
  rw[←hB]
  generalize List.range now.length=l
  induction l with
  | nil=>simp
  | cons i l ih=>
   rw[map_cons,sum_cons,List.filter_cons]
   split<;>rename_i h
   ·rw[if_pos (by simpa using h),map_cons,sum_cons];omega
   ·rw[if_neg (by simpa using h)];omega
 simp only[Function.comp_def]at h1
 omega
theorem PS{g:List Stp→Vl→Vl→List Ed}{p:List Stp}{a b:Vl}(ha:Rt a)(hb:Rt b)(ka:aN a=6)(kb:aN b=6)(hg:∀q x y,x∈ax a→y∈ax b→(g q x y).length≤x.length+y.length) :
  ((j3 a b).flatMap (kV g p a b)).length+2≤a.length+b.length:=by
 have hn:=vE (l6 ha ka) (l6 hb kb)
 have mem:∀{v:Vl}{nm},Rt v→aN v=6→eY v nm=true→bN v nm∈ax v:=λ{v nm} hr hk h=>by
  rw[(bV hr hk).2.2.2];exact List.mem_map.2 ⟨_,DR hr hk h,rfl⟩
 have hle:∀nm∈j3 a b,(kV g p a b nm).length≤(bN a nm).length+(bN b nm).length:=λnm hm=>by
  unfold kV
  cases h1:eY b nm with
  | true=>
   have hB:=mem hb kb h1
   cases h2:eY a nm with
   | true=>simpa using hg _ _ _ (mem ha ka h2) hB
   | false=>
    have:=xC (bU hb hB).1
    simp;omega
  | false=>
   cases h2:eY a nm with
   | true=>
    have:=xC (bU ha (mem ha ka h2)).1
    simp;omega
   | false=>
    rcases lN.1 hm with h | h
    ·rw[(pQ ha ka nm).2 h]at h2;cases h2
    ·rw[(pQ hb kb nm).2 h]at h1;cases h1
 have:=MQ hle
 rw[MR,←xD]at this
 have sub:∀{v:Vl},Rt v→aN v=6→((j3 a b).map λnm=>(bN v nm).length).sum+1≤v.length:=λ{v} hr hk=>by
  rw[←fields_sum hr hk]
  refine Nat.add_le_add_right (Fq _ _ _ hn λx _ h0=>?_) 1
  refine (pQ hr hk x).1 ?_
  cases h:eY v x with
  | true=>rfl
  | false=>rw[Yp h]at h0;simp at h0
 have s1:=sub ha ka
 have s2:=sub hb kb
 omega
theorem n_:∀(f:Nat) (p:List Stp) (a b:Vl),Rt a→Rt b→(aC f p a b).length≤a.length+b.length
 | 0,p,a,b,ha,hb=>by
  have:=xC hb
  unfold aC
  split<;>simp<;>omega
 | f+1,p,a,b,ha,hb=>by
  have:=xC hb
  unfold aC
  split
  ·simp
  split
  ·rename_i hk
   have:=PS (p:=p) ha hb hk.1 hk.2 λq x y hx hy=>n_ f q x y (bU ha hx).1 (bU hb hy).1
   omega
  split
  ·rename_i hk
   have h1:=bD ha
   have h2:=bD hb
   have:=KI (p:=p) (λq x y hx hy=>n_ f q x y (bU ha hx).1 (bU hb hy).1) (λx hx=>xC (bU ha hx).1) λx hx=>xC (bU hb hx).1
   omega
  ·simp;omega
theorem rF:∀(f:Nat) (p:List Stp) (a b:Vl) (e:Ed),e∈aC f p a b→e.kind=2→e.v=[]
 | 0,p,a,b,e,h,hk=>by
  unfold aC at h
  split at h
  ·cases h
  ·simp only[mem_singleton]at h;subst h;cases hk
 | f+1,p,a,b,e,h,hk=>by
  unfold aC at h
  split at h
  ·cases h
  split at h
  ·obtain⟨nm,_,h⟩:=List.mem_flatMap.1 h
   unfold kV at h
   split at h
   ·split at h
    ·exact rF f _ _ _ e h hk
    ·simp only[mem_singleton]at h;subst h;cases hk
   ·simp only[mem_singleton]at h;subst h;rfl
  split at h
  ·unfold j4 at h
   rcases List.mem_append.1 h with h | h
   ·unfold iI eU at h
    obtain⟨k,_,h⟩:=List.mem_flatMap.1 h
    split at h
    ·cases h
    ·simp only[mem_singleton]at h;subst h;rfl
   ·obtain⟨i,_,h⟩:=List.mem_flatMap.1 h
    unfold y_ at h
    split at h
    ·exact rF f _ _ _ e h hk
    ·simp only[mem_singleton]at h;subst h;cases hk
  ·simp only[mem_singleton]at h;subst h;cases hk
end Lp
namespace Lp
open Go Go.Proofs
theorem KJ{sz:Nat}{xs ys:List PV}(hl:xs.length=ys.length)(hc:∀(i:Nat) (x y:PV),xs[i]?=some x→ys[i]?=some y→x.cells.length=y.cells.length∧∀(j:Nat) (p q:PV),x.cells[j]?=some p→y.cells[j]?=some q→fG p q):fG (.sl sz xs none) (.sl sz ys none):=by
 have px:∀(i:Nat) (y:PV),ys[i]?=some y→∃x,xs[i]?=some x:=λi y h=>by
  have hi:i<xs.length:=by rw[hl];exact (List.getElem?_eq_some_iff.1 h).1
  exact⟨_,List.getElem?_eq_getElem hi⟩
 have pc:∀{x y:PV},x.cells.length=y.cells.length→∀(j:Nat) (q:PV),y.cells[j]?=some q→∃p,x.cells[j]?=some p:=λ{x y} h j q hq=>by
  have hi:j<x.cells.length:=by rw[h];exact (List.getElem?_eq_some_iff.1 hq).1
  exact⟨_,List.getElem?_eq_getElem hi⟩
 have z:∀{l m:List PV},l.length=m.length→l=[]→m=[]:=λ{l m} h e=>List.length_eq_zero_iff.1 (by rw[←h,e];rfl)
 intro w ok v h
 cases h with
 | slnil _ _ _=>rw[z hl rfl];exact .slnil sz none (by decide)
 | FL _ _ _ a cap hcap=>rw[z hl rfl];exact .FL sz none (by decide) a cap hcap
 | sl _ _ _ _ b off cap vs hok hlen hcap hsz hcell hrep=>
  rw[hl]
  refine .sl sz ys none (by decide) b off cap vs (λhy=>hok λe=>hy (z hl e)) (by omega) hcap (λi y hy=>?_) (λi y j q hy hq=>?_) λi y j q hy hq=>?_
  ·obtain⟨x,hx⟩:=px i y hy
   rw[←(hc i x y hx hy).1];exact hsz i x hx
  ·obtain⟨x,hx⟩:=px i y hy
   obtain⟨p,hp⟩:=pc (hc i x y hx hy).1 j q hq
   exact hcell i x j p hx hp
  ·obtain⟨x,hx⟩:=px i y hy
   obtain⟨p,hp⟩:=pc (hc i x y hx hy).1 j q hq
   exact (hc i x y hx hy).2 j p q hp hq _ _ _ (hrep i x j p hx hp)
theorem SG(l:List Ed)(hl:∀e∈l,e.kind=2→e.v=[]):fG (.sl 3 (l.map o6) none) (lV l):=by
 refine KJ (by simp) λi x y hx hy=>?_
 rw[List.getElem?_map]at hx hy
 cases he:l[i]? with
 | none=>rw[he]at hx;cases hx
 | some e=>
  rw[he]at hx hy
  cases hx;cases hy
  have h:=hl e (List.mem_of_getElem? he)
  unfold o6 mg kQ
  refine⟨rfl,λj p q hp hq=>?_⟩
  match j,hp,hq with
  | 0,hp,hq=>cases hp;cases hq;exact .refl _
  | 1,hp,hq=>cases hp;cases hq;exact Pz _
  | 2,hp,hq=>
   cases hp;cases hq
   split
   ·rename_i h2;rw[h h2];exact gF 0 6
   ·exact .refl _
  | _+3,hp,_=>simp[PV.cells]at hp
theorem SH(a b:Vl)(ha:rE a)(hb:rE b):av Tryz.prog 11 [aj a,aj b] [] (.sl 3 ((iO a b).map o6) none) []:=by
 have hl:=n_ 20 [] a b ha.rt hb.rt
 have h1:=ha.len
 have h2:=hb.len
 have hd:(iO a b).length≤1000000000:=by unfold iO;omega
 refine Ov.bR (T:=bA Tryz.prog [(25,Cr),(24,Ua)]) 0 hD (ay (af PO (af SE au))) bE (by decide) λQ hQ=>?_
 (conv=>arg 4;cbv);simp (maxSteps:=400000) only[↓aA,aB,BEq.rfl,seval,hQ,↓Cr]
 refine⟨a,b,rfl,ha,hb,hd,?_⟩
 simp (maxSteps:=400000) only[↓aA,aB,BEq.rfl,seval,hQ]
theorem VS(a b:Vl)(ha:rE a)(hb:rE b):av Tryz.prog 11 [aj a,aj b] [] (lV (iO a b)) []:=
 (SH a b ha hb).res (SG _ λe he=>rF 20 [] a b e he)
def yJ:d9:=λargs objs K=>match args with
 | [a0,a1]=>gD aj a0 (HK.mk:HK λa=>gD aj a1 (HK.mk:HK λb=>(rE a)∧(rE b)∧K (lV (iO a b)) objs 0))
 | _=>False
theorem Ia:aR Tryz.prog 11 (yJ):=by
 intro args objs K h
 unfold yJ at h
 split at h
 ·rename_i a0 a1
  obtain⟨a,rfl,b,rfl,h1,h2,hk⟩:=h
  exact⟨_,_,_,.pure _ rfl (VS a b h1 h2),hk⟩
 ·exact h.elim
end Lp
namespace Lp
open Go
open List (flatten_cons length_append)
def bF(v:Vl)(x:Stp):Vl×Int:=
 if x.part then (if aN v=5 then (match (ax v)[x.n.toNat]? with | some w=>(w,0) | none=>([],6)) else ([],5))
 else if aN v=6 then (match gP v x.name with | some w=>(w,0) | none=>([],6)) else ([],5)
def eX:List Stp→Vl→Vl×Int
 | [],v=>(v,0)
 | x::p,v=>if (bF v x).2=0 then eX p (bF v x).1 else ([],(bF v x).2)
def qO(v:Vl)(s:Stp)(y:Vl):Vl:=if s.part then eu ((ax v).set s.n.toNat y) else gT v s.name y
def iW:List Stp→Vl→Vl→Vl×Int
 | [],_,x=>(x,0)
 | s::p,v,x=>
  if (bF v s).2=0 then
   if (iW p (bF v s).1 x).2=0 then (qO v s (iW p (bF v s).1 x).1,0) else ([],(iW p (bF v s).1 x).2)
  else ([],(bF v s).2)
def bK(s:Stp):Bool:=if s.part then decide (s.name=[]) && decide (0≤s.n) && decide (s.n≤1000000) else decide (s.n=0) && utf s.name
def o7(p:List Stp):Bool:=p.all bK && decide (p.length≤20)
def jf(w:Vl)(n:Nat)(e:Ed):Vl×Int:=
 if aN w=5 then
  if e.kind=1 then (if (ax w).length<n then ([],4) else (eu ((ax w).take n++[e.v]++(ax w).drop n),0))
  else if (ax w).length≤n then ([],6) else (eu ((ax w).take n++(ax w).drop (n+1)),0)
 else ([],5)
def fu(w:Vl)(nm:List UInt8)(e:Ed):Vl×Int:=
 if aN w=6 then
  if e.kind=1 then (if eY w nm then ([],4) else (gT w nm e.v,0))
  else if eY w nm then (dm w nm,0) else ([],6)
 else ([],5)
def nk(w:Vl)(s:Stp)(e:Ed):Vl×Int:=if s.part then jf w s.n.toNat e else fu w s.name e
def dM(e:Ed):Bool:=
 o7 e.p && !(decide (e.p=[]) && !decide (e.kind=0)) && (if e.kind=0 then bX e.v else if e.kind=1 then bX e.v else if e.kind=2 then decide (e.v=[]) else false)
def oL(p:List Stp):Stp:=(p[p.length-1]?).getD ⟨false,[],0⟩
def Yq(p:List Stp)(v:Vl)(g:Vl→Vl×Int):Vl×Int:=
 if (eX p v).2=0 then
  if (g (eX p v).1).2=0 then iW p v (g (eX p v).1).1 else ([],(g (eX p v).1).2)
 else ([],(eX p v).2)
def fZ(v:Vl)(e:Ed):Vl×Int:=
 if dM e then
  if e.kind=0 then iW e.p v e.v
  else Yq (e.p.take (e.p.length-1)) v λw=>nk w (oL e.p) e
 else ([],4)
def f_:Vl→List Ed→Vl×Int
 | v,[]=>(v,0)
 | v,e::l=>if (fZ v e).2=0 then f_ (fZ v e).1 l else ([],(fZ v e).2)
theorem VT{v:Vl}{x:Stp}(h:¬ (bF v x).2=0):(bF v x).1=[]:=by
 revert h
 unfold bF
 split
 ·split
  ·split<;>simp
  ·simp
 ·split
  ·split<;>simp
  ·simp
theorem PU:∀(p:List Stp) (v:Vl),¬ (eX p v).2=0→(eX p v).1=[]
 | [],_,h=>absurd rfl h
 | x::p,v,h=>by
  rw[eX]at h ⊢
  split
  ·rename_i h0;rw[if_pos h0]at h;exact PU p _ h
  ·rfl
theorem Yr:∀(p:List Stp) (v x:Vl),¬ (iW p v x).2=0→(iW p v x).1=[]
 | [],_,_,h=>absurd rfl h
 | s::p,v,x,h=>by
  rw[iW]at h ⊢
  split
  ·rename_i h0
   rw[if_pos h0]at h
   split
   ·rename_i h1;rw[if_pos h1]at h;exact absurd rfl h
   ·rfl
  ·rfl
theorem PX:∀(l:List Ed) (v:Vl),¬ (f_ v l).2=0→(f_ v l).1=[]
 | [],_,h=>absurd rfl h
 | e::l,v,h=>by
  rw[f_]at h ⊢
  split
  ·rename_i h0;rw[if_pos h0]at h;exact PX l _ h
  ·rfl
def Nm(v:Vl):Prop:=∀n∈v,n.s.length≤4611686018427387904∧n.name.length≤1000000
theorem KL{v:Vl}{x:Stp}(hr:Rt v)(h:(bF v x).2=0):(bF v x).1∈ax v:=by
 revert h
 unfold bF
 split
 ·split
  ·split
   ·rename_i w hw;intro _;exact List.mem_of_getElem? hw
   ·intro h;cases h
  ·intro h;cases h
 ·split
  ·split
   ·rename_i hk _ w hw
    intro _
    rw[gP,if_pos hk]at hw
    have:=jh hw
    rw[(bV hr hk).2.2.2]
    exact List.mem_map.2 ⟨_,this,rfl⟩
   ·intro h;cases h
  ·intro h;cases h
theorem Cs{v:Vl}{x:Stp}(hr:Rt v)(hn:Nm v)(h:(bF v x).2=0):Rt (bF v x).1∧(bF v x).1.length<v.length∧Nm (bF v x).1:=by
 have hm:=KL hr h
 have h1:=bU hr hm
 exact⟨h1.1,h1.2,uS hr (q:=λn=>n.s.length≤4611686018427387904∧n.name.length≤1000000) (λn h=>⟨h.1,by simp⟩) hn _ hm⟩
theorem MS:∀(p:List Stp) (v:Vl),Rt v→Nm v→(eX p v).2=0→Rt (eX p v).1∧(eX p v).1.length≤v.length∧Nm (eX p v).1
 | [],v,hr,hn,_=>⟨hr,Nat.le_refl _,hn⟩
 | x::p,v,hr,hn,h=>by
  rw[eX]at h ⊢
  split
  ·rename_i h0
   rw[if_pos h0]at h
   obtain⟨h1,h2,h3⟩:=Cs hr hn h0
   obtain⟨g1,g2,g3⟩:=MS p _ h1 h3 h
   exact⟨g1,by omega,g3⟩
  ·rename_i h0;rw[if_neg h0]at h;exact absurd h h0
theorem Yt{l:mq}(h:∀y∈l,y.1.length≤1000000∧Nm y.2):Nm (JD l):=by
 intro n hn
 rcases List.mem_cons.1 hn with rfl | hn
 ·simp
 ·obtain⟨p,hp,hnp⟩:=List.mem_flatten.1 hn
  obtain⟨y,hy,rfl⟩:=List.mem_map.1 hp
  obtain⟨h1,h2⟩:=h y hy
  cases hv:y.2 with
  | nil=>rw[hv]at hnp;simp[kM]at hnp
  | cons a t=>
   rw[hv]at hnp h2
   rcases List.mem_cons.1 hnp with rfl | hnp
   ·exact⟨(h2 a (by simp)).1,h1⟩
   ·exact h2 n (List.mem_cons_of_mem _ hnp)
theorem MU{v:Vl}(hr:Rt v)(hk:aN v=6)(hv:Nm v):∀y∈jm v,y.1.length≤1000000∧Nm y.2:=by
 obtain⟨_,_,hN,hP⟩:=bV hr hk
 intro y hy
 exact⟨lG hr (λn h=>(hv n h).2) y.1 (by rw[hN];exact List.mem_map.2 ⟨y,hy,rfl⟩),uS hr (q:=λn=>n.s.length≤4611686018427387904∧n.name.length≤1000000) (λn h=>⟨h.1,by simp⟩) hv y.2 (by rw[hP];exact List.mem_map.2 ⟨y,hy,rfl⟩)⟩
theorem j5{v x:Vl}(nm:List UInt8)(hr:Rt v)(hk:aN v=6)(hu:utf nm=true)(hx:Rt x):Rt (gT v nm x)∧aN (gT v nm x)=6∧(gT v nm x).length=(dm v nm).length+x.length∧jm (gT v nm x)=nJ nm x (gW (jm v) nm)∧jr (gW (jm v) nm):=by
 obtain⟨w1,w2,w3,w4⟩:=lH nm hr hk
 obtain⟨hq,hmk,hN,hP⟩:=bV w1 w2
 rw[w4]at hq
 have hput:=KU hq (pF _ nm) hu hx
 refine⟨Wq hput,rfl,?_,Tc hput.rt,hq⟩
 have h1:=uU (jm (dm v nm))
 rw[hmk,w4]at h1
 have h2:=xM ((r_ nm x (gW (jm v) nm)).map (·.2))
 rw[gT,uU,h2]
 simp only[List.map_cons,flatten_cons,length_append]
 omega
theorem Ct{v x:Vl}(nm:List UInt8)(hr:Rt v)(hk:aN v=6)(hn:Nm v)(hx:Nm x)(hl:nm.length≤1000000):Nm (gT v nm x):=by
 refine Yt λy hy=>?_
 rcases (fw nm x _ y).1 hy with rfl | hy
 ·exact⟨hl,hx⟩
 ·exact MU hr hk hn y (jK.1 hy).1
theorem Ib{v:Vl}(nm:List UInt8)(hr:Rt v)(hk:aN v=6)(hn:Nm v):Nm (dm v nm):=
 Yt λy hy=>MU hr hk hn y (jK.1 hy).1
theorem kW{v:Vl}(hk:aN v=6)(nm:List UInt8):gP v nm=iZ (jm v) nm:=by simp[gP,hk]
theorem PY{v w:Vl}{nm:List UInt8}(hr:Rt v)(hk:aN v=6)(hw:gP v nm=some w):(dm v nm).length+w.length=v.length:=by
 obtain⟨hq,hmk,_,_⟩:=bV hr hk
 rw[kW hk]at hw
 have l0:=uU (jm v)
 rw[hmk]at l0
 have l1:(dm v nm).length=_:=uU (gW (jm v) nm)
 have p1:=xM ((r_ nm w (gW (jm v) nm)).map (·.2))
 rw[JF hq hw]at p1
 simp only[List.map_cons,flatten_cons,length_append]at p1
 omega
theorem Fs{l:List Vl}(h:∀v∈l,Nm v):Nm (eu l):=by
 intro n hn
 rcases List.mem_cons.1 hn with rfl | hn
 ·simp
 ·obtain⟨p,hp,hnp⟩:=List.mem_flatten.1 hn
  exact h p hp n hnp
theorem qG{v:Vl}(hr:Rt v)(hn:Nm v):∀p∈ax v,Rt p∧Nm p:=λp hp=>
 ⟨(bU hr hp).1,uS hr (q:=λn=>n.s.length≤4611686018427387904∧n.name.length≤1000000) (λn h=>⟨h.1,by simp⟩) hn p hp⟩
theorem PZ{v:Vl}(hr:Rt v)(hk:aN v=5):(ax v).flatten.length+1=v.length:=by
 obtain⟨n,r,rfl,_⟩:=bS hr.name hr.one.ne
 have:=vW hr hk
 have h2:=congrArg List.length this
 exact h2
theorem Cu{l:List Vl}{i:Nat}{w:Vl}(h:l[i]?=some w)(y:Vl):(l.set i y).flatten.length+w.length=l.flatten.length+y.length:=by
 induction l generalizing i with
 | nil=>simp at h
 | cons a l ih=>
  cases i with
  | zero=>
   simp only[List.getElem?_cons_zero,Option.some.injEq]at h
   subst h
   simp only[List.set_cons_zero,flatten_cons,length_append];omega
  | succ i=>
   have:=ih (i:=i) (by simpa using h)
   simp only[List.set_cons_succ,flatten_cons,length_append];omega
theorem Ub{v:Vl}{s:Stp}{y:Vl}(hr:Rt v)(hn:Nm v)(h:(bF v s).2=0)(hs:bK s=true)(hy:Rt y)(hyn:Nm y) :
  Rt (qO v s y)∧(qO v s y).length+(bF v s).1.length=v.length+y.length∧Nm (qO v s y):=by
 unfold qO
 unfold bF at h ⊢
 cases hp:s.part with
 | true=>
  simp only[hp,if_true]at h ⊢
  by_cases hk:aN v=5
  ·simp only[hk,if_true]at h ⊢
   cases hg:(ax v)[s.n.toNat]? with
   | none=>rw[hg]at h;cases h
   | some w=>
    simp only[Dx]
    have hl:=PZ hr hk
    have h2:=Cu hg y
    have hm:∀p∈(ax v).set s.n.toNat y,Rt p∧Nm p:=λp hp=>by
     rcases List.mem_or_eq_of_mem_set hp with hp | rfl
     ·exact qG hr hn p hp
     ·exact⟨hy,hyn⟩
    exact⟨AZ λp hp=>(hm p hp).1,by omega,Fs λp hp=>(hm p hp).2⟩
  ·rw[if_neg hk]at h;cases h
 | false=>
  simp only[hp,Bool.false_eq_true,if_false]at h ⊢
  by_cases hk:aN v=6
  ·simp only[hk,if_true]at h ⊢
   cases hg:gP v s.name with
   | none=>rw[hg]at h;cases h
   | some w=>
    have hu:utf s.name=true:=by
     unfold bK at hs
     simp only[hp,Bool.false_eq_true,if_false,Bool.and_eq_true]at hs
     exact hs.2
    obtain⟨f1,f2,f3,f4,f5⟩:=j5 s.name hr hk hu hy
    have:=PY hr hk hg
    refine⟨f1,by simp only;omega,Ct _ hr hk hn hyn ?_⟩
    rw[kW hk]at hg
    exact (MU hr hk hn _ (jh hg)).1
  ·rw[if_neg hk]at h;cases h
theorem Fu:∀(p:List Stp) (v x:Vl),Rt v→Nm v→(∀s∈p,bK s=true)→Rt x→Nm x→(iW p v x).2=0→
  Rt (iW p v x).1∧(iW p v x).1.length+(eX p v).1.length=v.length+x.length∧Nm (iW p v x).1
 | [],v,x,_,_,_,hx,hxn,_=>⟨hx,by simp[iW,eX];omega,hxn⟩
 | s::p,v,x,hr,hn,hp,hx,hxn,h=>by
  rw[iW]at h ⊢
  rw[eX]
  split
  ·rename_i h0
   rw[if_pos h0]at h
   obtain⟨a1,a2,a3⟩:=Cs hr hn h0
   split
   ·rename_i h1
    obtain⟨b1,b2,b3⟩:=Fu p _ x a1 a3 (λs' hs=>hp s' (List.mem_cons_of_mem _ hs)) hx hxn h1
    obtain⟨c1,c2,c3⟩:=Ub hr hn h0 (hp s (by simp)) b1 b3
    exact⟨c1,by simp only;omega,c3⟩
   ·rename_i h1;rw[if_neg h1]at h;exact absurd h h1
  ·rename_i h0;rw[if_neg h0]at h;exact absurd h h0
theorem Uc{w:Vl}{s:Stp}{e:Ed}(hr:Rt w)(hn:Nm w)(hs:bK s=true)(hsn:s.name.length≤1000000)(hv:e.kind=1→Rt e.v∧Nm e.v)(h:(nk w s e).2=0) :
  Rt (nk w s e).1∧(nk w s e).1.length≤w.length+e.v.length∧Nm (nk w s e).1:=by
 revert h
 unfold nk jf fu
 split
 ·split
  ·rename_i hk
   have hl:=PZ hr hk
   have hps:=qG hr hn
   have hfl:∀n:Nat,((ax w).take n).flatten.length+((ax w).drop n).flatten.length=(ax w).flatten.length:=λn=>by
    rw[←length_append,←List.flatten_append,List.take_append_drop]
   split
   ·rename_i h1
    obtain⟨v1,v2⟩:=hv h1
    split
    ·intro h;cases h
    ·intro _
     have hm:∀p∈(ax w).take s.n.toNat++[e.v]++(ax w).drop s.n.toNat,Rt p∧Nm p:=λp hp=>by
      rcases List.mem_append.1 hp with hp | hp
      ·rcases List.mem_append.1 hp with hp | hp
       ·exact hps p (List.mem_of_mem_take hp)
       ·simp only[List.mem_singleton]at hp;subst hp;exact⟨v1,v2⟩
      ·exact hps p (List.mem_of_mem_drop hp)
     refine⟨AZ λp hp=>(hm p hp).1,?_,Fs λp hp=>(hm p hp).2⟩
     have:=hfl s.n.toNat
     simp only[Dx,List.flatten_append,length_append,flatten_cons,List.flatten_nil,List.length_nil]
     omega
   ·split
    ·intro h;cases h
    ·intro _
     have hm:∀p∈(ax w).take s.n.toNat++(ax w).drop (s.n.toNat+1),Rt p∧Nm p:=λp hp=>by
      rcases List.mem_append.1 hp with hp | hp
      ·exact hps p (List.mem_of_mem_take hp)
      ·exact hps p (List.mem_of_mem_drop hp)
     refine⟨AZ λp hp=>(hm p hp).1,?_,Fs λp hp=>(hm p hp).2⟩
     have h1:=hfl s.n.toNat
     have h2:((ax w).drop (s.n.toNat+1)).flatten.length≤((ax w).drop s.n.toNat).flatten.length:=by
      rw[←List.drop_drop]
      cases (ax w).drop s.n.toNat<;>simp
     simp only[Dx,List.flatten_append,length_append]
     omega
  ·intro h;cases h
 ·rename_i hp
  have hu:utf s.name=true:=by
   unfold bK at hs
   rw[if_neg hp,Bool.and_eq_true]at hs
   exact hs.2
  split
  ·rename_i hk
   obtain⟨w1,w2,w3,w4⟩:=lH s.name hr hk
   split
   ·rename_i h1
    obtain⟨v1,v2⟩:=hv h1
    split
    ·intro h;cases h
    ·intro _
     obtain⟨f1,f2,f3,f4,f5⟩:=j5 s.name hr hk hu v1
     exact⟨f1,by simp only;omega,Ct _ hr hk hn v2 hsn⟩
   ·split
    ·intro _
     exact⟨w1,by simp only;omega,Ib _ hr hk hn⟩
    ·intro h;cases h
  ·intro h;cases h
structure aai (e:Ed):Prop where
 ze:∀s∈e.p,s.name.length≤1000000
 val:Nm e.v
theorem pR{e:Ed}(h:dM e=true):(∀s∈e.p,bK s=true)∧e.p.length≤20∧(e.kind=0∨e.kind=1∨e.kind=2)∧(e.kind≠2→Rt e.v)∧(e.kind=2→e.v=[])∧(e.kind≠0→e.p≠[]):=by
 unfold dM o7 at h
 simp only[Bool.and_eq_true,List.all_eq_true,decide_eq_true_eq,Bool.not_eq_true',Bool.and_eq_false_iff,decide_eq_false_iff_not,Bool.not_eq_false']at h
 obtain⟨⟨⟨h1,h2⟩,h3⟩,h4⟩:=h
 refine⟨h1,h2,?_⟩
 by_cases k0:e.kind=0
 ·rw[if_pos k0]at h4
  exact⟨.inl k0,λ_=>nH h4,λh=>by omega,λh=>absurd k0 h⟩
 rw[if_neg k0]at h4
 have hp:e.p≠[]:=by
  rcases h3 with h3 | h3
  ·exact h3
  ·exact absurd h3 k0
 by_cases k1:e.kind=1
 ·rw[if_pos k1]at h4
  exact⟨.inr (.inl k1),λ_=>nH h4,λh=>by omega,λ_=>hp⟩
 rw[if_neg k1]at h4
 by_cases k2:e.kind=2
 ·rw[if_pos k2]at h4
  exact⟨.inr (.inr k2),λh=>absurd k2 h,λ_=>of_decide_eq_true h4,λ_=>hp⟩
 ·rw[if_neg k2]at h4;cases h4
theorem KM{p:List Stp}(h:p≠[]):oL p∈p:=by
 have:0<p.length:=List.length_pos_iff.2 h
 unfold oL
 rw[List.getElem?_eq_getElem (by omega)]
 exact List.getElem_mem _
theorem Ud{v:Vl}{e:Ed}(hr:Rt v)(hn:Nm v)(he:aai e)(h:(fZ v e).2=0):Rt (fZ v e).1∧(fZ v e).1.length≤v.length+e.v.length∧Nm (fZ v e).1:=by
 unfold fZ at h ⊢
 cases hre:dM e with
 | false=>rw[hre]at h;cases h
 | true=>
  rw[hre]at h
  simp only[if_true]at h ⊢
  obtain⟨r1,r2,r3,r4,r5,r6⟩:=pR hre
  split
  ·rename_i h0
   rw[if_pos h0]at h
   have hx:=r4 (by omega)
   obtain⟨a1,a2,a3⟩:=Fu e.p v e.v hr hn r1 hx he.val h
   exact⟨a1,by omega,a3⟩
  ·rename_i h0
   rw[if_neg h0]at h
   have hpn:=r6 h0
   have hls:=KM hpn
   generalize hq:e.p.take (e.p.length-1)=q at *
   have hqr:∀s∈q,bK s=true:=λs hs=>r1 s (by rw[←hq]at hs;exact List.mem_of_mem_take hs)
   unfold Yq at h ⊢
   split
   ·rename_i h2
    rw[if_pos h2]at h
    obtain⟨g1,g2,g3⟩:=MS q v hr hn h2
    split
    ·rename_i h3
     rw[if_pos h3]at h
     obtain⟨i1,i2,i3⟩:=Uc (e:=e) g1 g3 (r1 _ hls) (he.ze _ hls) (λh1=>⟨r4 (by omega),he.val⟩) h3
     obtain⟨a1,a2,a3⟩:=Fu q v _ hr hn hqr i1 i3 h
     refine⟨a1,?_,a3⟩
     show (iW q v (nk (eX q v).1 (oL e.p) e).1).1.length≤_
     omega
    ·rename_i h3;rw[if_neg h3]at h;exact absurd h h3
   ·rename_i h2;rw[if_neg h2]at h;exact absurd h h2
end Lp
namespace Lp
open Go Go.Proofs
open List (length_append map_nil)
structure Ir (v:Vl):Prop where
 ok:rE v
 len:v.length≤10000
 nmm:Nm v
def encR(e:Ed):PV:=mg e.kind (aT e.p) (if e.kind=2 then .sl 0 [] (some true) else aj e.v)
theorem SI(l:List Ed)(hl:∀e∈l,e.kind=2→e.v=[]):fG (.sl 3 (l.map encR) none) (lV l):=by
 refine KJ (by simp) λi x y hx hy=>?_
 rw[List.getElem?_map]at hx hy
 cases he:l[i]? with
 | none=>rw[he]at hx;cases hx
 | some e=>
  rw[he]at hx hy
  cases hx;cases hy
  have h:=hl e (List.mem_of_getElem? he)
  unfold encR mg kQ
  refine⟨rfl,λj p q hp hq=>?_⟩
  match j,hp,hq with
  | 0,hp,hq=>cases hp;cases hq;exact .refl _
  | 1,hp,hq=>cases hp;cases hq;exact .refl _
  | 2,hp,hq=>
   cases hp;cases hq
   split
   ·rename_i h2;rw[h h2];exact gF 0 6
   ·exact .refl _
  | _+3,hp,_=>simp[PV.cells]at hp
theorem Yu(d n:Nat)(O:List Obj)(e:Ed):PV.bJ (kD d n O) (encR e)=encR e∧PV.bJ (fA d n O) (encR e)=encR e:=by
 unfold encR mg
 split<;>cases d<;>exact⟨rfl,rfl⟩
def Wm(l:List Ed)(v:Nat):Obj:=⟨38,3,l.map encR,true,v⟩
theorem Ue(l:List Ed)(v:Nat):fA 1 0 [Wm l v] (.aS 0 v)=.sl 3 (l.map encR) none:=by
 simp only[fA,Nat.not_lt_zero,if_false,kD,List.getElem?_cons_zero,Wm,Nat.zero_le,decide_true,Bool.and_self,BEq.rfl,if_true,List.map_map]
 congr 1
 exact List.map_congr_left λx _=>(Yu 0 0 _ x).1
theorem P5(p:List Stp)(x:Stp)(v:Vl):mg 1 (aT (p++[x])) (aj v)=encR ⟨1,p++[x],v⟩:=by simp[encR]
theorem KN(p:List Stp)(x:Stp):mg 2 (aT (p++[x])) (.sl 0 [] (some true))=encR ⟨2,p++[x],[]⟩:=by simp[encR]
theorem Cv(p:List Stp)(v:Vl):mg 0 (aT p) (aj v)=encR ⟨0,p,v⟩:=by simp[encR]
theorem edR(l:List Ed)(v:Nat):(Wm l v).live=true∧(Wm l v).ver=v∧(Wm l v).sz=3∧(Wm l v).ty=38∧(Wm l v).xs=l.map encR:=⟨rfl,rfl,rfl,rfl,rfl⟩
theorem Jw:(PV.vM (.agg ⟨[.int .i64 0,.slice none 0 0,.slice none 0 0]⟩)).cells.length=3∧(PV.vM (.agg ⟨[.int .i64 0,.slice none 0 0,.slice none 0 0]⟩)).cells.all PV.storable=true:=⟨rfl,rfl⟩
theorem xE(e:Ed):(encR e).cells.length=3∧(encR e).cells.all PV.storable=true∧(encR e).pure=true:=by
 unfold encR mg
 split<;>exact⟨rfl,rfl,rfl⟩
theorem P6(l:List Ed):∀y∈l.map encR,y.cells.length=3∧y.cells.all PV.storable=true:=λy hy=>by
 obtain⟨e,_,rfl⟩:=List.mem_map.1 hy
 exact⟨(xE e).1,(xE e).2.1⟩
theorem abh(l m:List Ed):l.map encR++m.map encR=(l++m).map encR:=by simp
theorem MV(l:List Ed)(e:Ed):l.map encR++[encR e]=(l++[e]).map encR:=by simp
theorem P7(p:List Stp)(x:Stp)(hp:p.length≤1000):av Tryz.prog 68 [aT p,encS x] [] (aT (p++[x])) []:=by
 refine Ch.bR (T:=bA Tryz.prog []) 1 hD (ay au) bE (by decide) λQ hQ=>?_
 (conv=>arg 4;cbv);simp (maxSteps:=400000) only[↓aA,aB,BEq.rfl,seval,hQ]
 refine bg _ (Weak.freeze 1 0 (Nat.zero_le _) _) ?_
 simp (maxSteps:=400000) only[↓aA,aB,BEq.rfl,seval,hQ,mV,PD,adS]
 exact⟨by omega,by omega,by omega,by omega,by decide⟩
def jl:d9:=λargs objs K=>match args with
 | [a0,a1]=>gD aT a0 (HK.mk:HK λp=>gD encS a1 (HK.mk:HK λx=>(p.length≤1000)∧K (aT (p++[x])) objs 0))
 | _=>False
theorem Cw:aR Tryz.prog 68 (jl):=by
 intro args objs K h
 unfold jl at h
 split at h
 ·rename_i a0 a1
  obtain⟨p,rfl,x,rfl,h1,hk⟩:=h
  exact⟨_,_,_,.pure _ rfl (P7 p x h1),hk⟩
 ·exact h.elim
def oM(f:Nat):d9:=λargs objs K=>match args with
 | [a0,a1,a2]=>gD aT a0 (HK.mk:HK λp=>gD aj a1 (HK.mk:HK λa=>gD aj a2 (HK.mk:HK λb=>(p.length+f=20)∧(Ir a)∧(Ir b)∧K (.sl 3 ((aC f p a b).map encR) none) objs 0)))
 | _=>False
def MW(f:Nat):Prop:=∀p a b,p.length+f=20→Ir a→Ir b→av Tryz.prog 26 [aT p,aj a,aj b] [] (.sl 3 ((aC f p a b).map encR) none) []
theorem MX{f:Nat}(hs:MW f)(p:List Stp)(a b:Vl)(hp:p.length+f+1=20)(ha:Ir a)(hb:Ir b) :
  av Tryz.prog 47 [aT p,aj a,aj b] [] (.sl 3 ((j4 (aC f) p (ax a) (ax b)).map encR) none) []:=by
 have MZ:aR Tryz.prog 26 (oM f):=by
  intro args objs K h
  unfold oM at h
  split at h
  ·rename_i a0 a1 a2
   obtain⟨p,rfl,a,rfl,b,rfl,h1,h2,h3,hk⟩:=h
   exact⟨_,_,_,.pure _ rfl (hs p a b h1 h2 h3),hk⟩
  ·exact h.elim
 refine Av.bR (T:=bA Tryz.prog [(68,jl),(26,oM f),(40,iN),(69,pO)]) 1 hD (ay (af Cw (af MZ (af qA (af ER au))))) bE (by decide) λQ hQ=>?_
 have hal:=ha.len
 have hbl:=hb.len
 obtain⟨a1,a2⟩:=rE.parts ha.ok
 obtain⟨b1,b2⟩:=rE.parts hb.ok
 obtain⟨pa1,_,pa3,_⟩:=bD ha.ok.rt
 obtain⟨pb1,_,pb3,_⟩:=bD hb.ok.rt
 have hpa:∀v∈ax a,Ir v:=λv hv=>⟨a2 v hv,by have:=(bU ha.ok.rt hv).2;omega,(qG ha.ok.rt ha.nmm v hv).2⟩
 have hpb:∀v∈ax b,Ir v:=λv hv=>⟨b2 v hv,by have:=(bU hb.ok.rt hv).2;omega,(qG hb.ok.rt hb.nmm v hv).2⟩
 have hoa:=ha.ok.rt.one
 have tZ:=hb.ok.rt.one
 have hlen:=KI (g:=aC f) (p:=p) (old:=ax a) (now:=ax b) (λq x y hx hy=>n_ f q x y (hpa x hx).ok.rt (hpb y hy).ok.rt) (λx hx=>xC (hpa x hx).ok.rt) (λy hy=>xC (hpb y hy).ok.rt)
 (conv=>arg 4;cbv);simp (maxSteps:=400000) only[↓aA,aB,BEq.rfl,seval,hQ,↓iN,↓pO]
 obtain⟨R,hR⟩:∃R,dR (ax a) (ax b)=R:=⟨_,rfl⟩
 have hRl:=sV (ax a) (ax b)
 have hRi:=sW (ax a) (ax b)
 unfold j4 at hlen
 unfold j4 at hQ
 rw[hR]at hRl hRi hlen hQ ⊢
 generalize ax a=old at *
 generalize ax b=now at *
 have hol:old.length≤10000:=by omega
 have hnl:now.length≤10000:=by omega
 refine⟨rfl,rfl,hoa,by omega,tZ,by omega,by omega,by omega,λv hv=>by have:=(hpa v hv).len;omega,λv hv=>by have:=(hpb v hv).len;omega,⟨by omega,by omega⟩,?_⟩
 refine aQ (λm S=>∃(k:Int) (j v:Nat),k+1=(m:Int)∧j+m=old.length∧S=⟨dD 96 [(0,aT p),(7,.aS 0 v),(8,bT old),(9,bT now),(10,encI R),(11,.int .i64 k)],[Wm (eU p old.length R j) v]⟩) old.length ⟨(old.length:Int)-1,0,1,by omega,by omega,?_⟩ ?_
 ·simp only[cB,keepR,Nat.reduceAdd,oO,Nat.reduceBEq,map_nil]
  rfl
 rintro m S ⟨k,j,v,hkm,hjm,rfl⟩
 match m,hkm,hjm with
 | 0,hkm,hjm=>
  have z:(0≤k)=False:=eq_false (by omega)
  obtain rfl:j=old.length:=by omega
  simp (maxSteps:=400000) only[↓aA,aB,BEq.rfl,seval,hQ,z]
  refine aQ (λm S=>∃(i v:Nat),i+m=now.length∧S=⟨dD 96 [(0,aT p),(7,.aS 0 v),(8,bT old),(9,bT now),(10,encI R),(14,.int .i64 i)],[Wm (iI p old.length R++h_ (aC f) p old now R i) v]⟩) now.length ⟨0,v,by omega,?_⟩ ?_
  ·simp only[cB,keepR,Nat.reduceAdd,oO,Nat.reduceBEq,map_nil]
   simp[h_,iI]
  clear hkm
  rintro m S ⟨i,v,him,rfl⟩
  rcases Nat.lt_or_ge i now.length with h | h
  rotate_left 1
  ·have hlt:((i:Int)<(now.length:Int))=False:=eq_false (by omega)
   obtain rfl:i=now.length:=by omega
   simp (maxSteps:=400000) only[↓aA,aB,BEq.rfl,seval,hQ,hlt]
   exact (Ue _ _).symm
  have hlt:((i:Int)<(now.length:Int))=True:=eq_true (by omega)
  have zi:(0≤(i:Int))=True:=eq_true (by omega)
  have hgn:now[i]?=some (now.getD i []):=by
   rw[List.getD_eq_getElem?_getD,List.getElem?_eq_getElem h];rfl
  have hym:now.getD i []∈now:=List.mem_of_getElem? hgn
  have hgR:R[i]?=some (R.getD i 0):=by
   rw[List.getD_eq_getElem?_getD,List.getElem?_eq_getElem (by omega)];rfl
  have hri:=hRi _ (List.mem_of_getElem? hgR)
  have hst:=vw (aC f) p old now R i
  obtain⟨rest,hpre⟩:=KE (aC f) p old now R (show i+1≤now.length by omega)
  have adX:((i:Int)<(R.length:Int))=True:=eq_true (by omega)
  have hll:(iI p old.length R++h_ (aC f) p old now R (i+1)).length≤20000:=by
   have:(h_ (aC f) p old now R now.length).length=(h_ (aC f) p old now R (i+1)).length+rest.length:=by rw[hpre,length_append]
   unfold h_ at this
   rw[length_append]at hlen ⊢
   unfold h_
   omega
  rw[hst]at hll
  unfold y_ at hst hll
  generalize h_ (aC f) p old now R i=A at *
  generalize iI p old.length R=Dr at *
  generalize R.getD i 0=u at *
  rcases tf (u<0) with hu | hu
  ·rw[if_neg (by have:=of_eq_true hu;omega)]at hst hll
   simp only[length_append,List.length_cons,List.length_nil]at hll
   simp (maxSteps:=400000) only[↓aA,aB,BEq.rfl,seval,hQ,hlt,zi,adX,hgR,hu,hgn,↓jl,qF,P5,edR,MV,Jw,xE]
   refine⟨by omega,by omega,by omega,⟨by omega,by omega⟩,m-1,by omega,i+1,v+1,by omega,?_⟩
   rw[hst,←List.append_assoc]
   rfl
  ·have hu':=of_eq_false hu
   rw[if_pos (by omega)]at hst hll
   obtain⟨q,rfl⟩:∃q:Nat,u=q:=⟨u.toNat,by omega⟩
   have hgo:old[q]?=some (old.getD q []):=by
    rw[List.getD_eq_getElem?_getD,List.getElem?_eq_getElem (by omega)];rfl
   have hxm:old.getD q []∈old:=List.mem_of_getElem? hgo
   rw[Int.toNat_natCast]at hst hll
   have zq:(0≤(q:Int))=True:=eq_true (by omega)
   have zq2:((q:Int)<(old.length:Int))=True:=eq_true (by omega)
   simp only[length_append]at hll
   simp (maxSteps:=400000) only[↓aA,aB,BEq.rfl,seval,hQ,hlt,zi,adX,hgR,hu,hgn,zq,zq2,hgo,↓jl,↓oM,qF,edR,abh,Jw]
   refine⟨by omega,by omega,hpa _ hxm,hpb _ hym,P6 _,by omega,by omega,by decide,⟨by omega,by omega⟩,m-1,by omega,i+1,v+1,by omega,?_⟩
   rw[hst,←List.append_assoc]
   rfl
 | k'+1,hkm,hjm=>
  obtain rfl:k=(k':Int):=by omega
  have zk:(0≤(k':Int))=True:=eq_true (by omega)
  have hst:=oK p old.length R j
  rw[show old.length-1-j=k' by omega]at hst
  obtain⟨rest,hpre⟩:=H7 p old.length R (show j+1≤old.length by omega)
  have hll:(eU p old.length R (j+1)).length≤20000:=by
   have:(iI p old.length R).length=(eU p old.length R (j+1)).length+rest.length:=by rw[hpre,length_append]
   rw[length_append]at hlen
   omega
  rw[hst]at hll
  generalize eU p old.length R j=A at *
  simp (maxSteps:=400000) only[↓aA,aB,BEq.rfl,seval,hQ,zk]
  refine aQ (λm S=>∃(i:Nat) (c:Bool),i+m=R.length∧c=((R.take i).any λy=>decide ((k':Int)=y))∧S=⟨dD 96 [(0,aT p),(7,.aS 0 v),(8,bT old),(9,bT now),(10,encI R),(11,.int .i64 k'),(12,.bool c),(13,.int .i64 i)],[Wm A v]⟩) R.length ⟨0,false,by omega,rfl,?_⟩ ?_
  ·simp only[cB,keepR,Nat.reduceAdd,oO,Nat.reduceBEq,map_nil]
   rfl
  rintro m2 S ⟨i,c,him,hc,rfl⟩
  have zi:(0≤(i:Int))=True:=eq_true (by omega)
  rcases Nat.lt_or_ge i R.length with h | h
  ·have hlt:((i:Int)<(R.length:Int))=True:=eq_true (by omega)
   have hgR:=List.getElem?_eq_getElem h
   generalize R[i]=u at hgR
   have htk:((R.take (i+1)).any λy=>decide ((k':Int)=y))=(c || decide ((k':Int)=u)):=by
    rw[List.take_add_one,hgR,List.any_append,←hc];simp
   cases c with
   | true=>
    simp (maxSteps:=400000) only[↓aA,aB,BEq.rfl,seval,hQ,hlt,zi,hgR]
    exact⟨⟨by omega,by omega⟩,m2-1,by omega,i+1,true,by omega,htk.symm,rfl⟩
   | false=>
    simp (maxSteps:=400000) only[↓aA,aB,BEq.rfl,seval,hQ,hlt,zi,hgR]
    refine⟨⟨by omega,by omega⟩,m2-1,by omega,i+1,decide (u=(k':Int)),by omega,?_,rfl⟩
    rw[htk,Bool.false_or]
    exact decide_eq_decide.2 ⟨λe=>e.symm,λe=>e.symm⟩
  ·have hlt:((i:Int)<(R.length:Int))=False:=eq_false (by omega)
   rw[List.take_of_length_le h]at hc
   rw[←hc]at hst hll
   cases c with
   | true=>
    simp (maxSteps:=400000) only[↓aA,aB,BEq.rfl,seval,hQ,hlt]
    have hst':eU p old.length R (j+1)=A:=by rw[hst];simp
    exact⟨⟨by omega,by omega⟩,k',by omega,(k':Int)-1,j+1,v,by omega,by omega,by rw[hst']⟩
   | false=>
    simp only[Bool.false_eq_true,if_false,length_append,List.length_cons,List.length_nil]at hst hll
    simp (maxSteps:=400000) only[↓aA,aB,BEq.rfl,seval,hQ,hlt,↓jl,qF,KN,edR,MV,Jw,xE]
    refine⟨by omega,by omega,by omega,⟨by omega,by omega⟩,k',by omega,(k':Int)-1,j+1,v+1,by omega,by omega,?_⟩
    rw[hst]
    rfl
end Lp
namespace Lp
open Go
def xG(l:List (List UInt8))(v:Vl):Vl:=l.foldl (λv nm=>gT v nm [oz]) v
structure MOk (v:Vl) (N:Nat):Prop where
 rt:Rt v
 kd:aN v=6
 len:v.length≤N
 nm:Nm v
theorem Uf:Rt [oz]:=(Nr (n:=oz) (by decide)).2.2.2.2
theorem aaj:Nm [oz]:=λn hn=>by
 rw[List.mem_singleton]at hn;subst hn;decide
theorem MOk.add {v:Vl}{N:Nat}{nm:List UInt8}(h:MOk v N)(hu:utf nm=true)(hl:nm.length≤1000000):MOk (gT v nm [oz]) (N+1)∧∀x,x∈aJ (gT v nm [oz])↔x=nm∨x∈aJ v:=by
 obtain⟨w1,w2,w3,w4,w5⟩:=j5 nm h.rt h.kd hu Uf
 have hw:=(lH nm h.rt h.kd).2.2.1
 refine⟨⟨w1,w2,by have:=h.len;simp only[List.length_singleton]at w3;omega,Ct nm h.rt h.kd h.nm aaj hl⟩,λx=>?_⟩
 rw[(bV w1 w2).2.2.1,(bV h.rt h.kd).2.2.1,w4]
 simp only[List.mem_map]
 constructor
 ·rintro⟨z,hz,rfl⟩
  rcases (fw _ _ _ z).1 hz with rfl | hz
  ·exact .inl rfl
  ·exact .inr ⟨z,(jK.1 hz).1,rfl⟩
 ·rintro (rfl | ⟨z,hz,rfl⟩)
  ·exact⟨_,(fw _ _ _ _).2 (.inl rfl),rfl⟩
  ·by_cases he:z.1=nm
   ·exact⟨(nm,[oz]),(fw _ _ _ _).2 (.inl rfl),he.symm⟩
   ·exact⟨z,(fw _ _ _ _).2 (.inr (jK.2 ⟨hz,he⟩)),rfl⟩
theorem Ic:∀(l:List (List UInt8)){v:Vl}{N:Nat},MOk v N→(∀nm∈l,utf nm=true∧nm.length≤1000000)→MOk (xG l v) (N+l.length)∧∀x,x∈aJ (xG l v)↔x∈l∨x∈aJ v
 | [],v,N,h,_=>⟨h,λx=>by simp[xG]⟩
 | nm::l,v,N,h,hl=>by
  obtain⟨h1,h2⟩:=hl nm (by simp)
  obtain⟨a1,a2⟩:=h.add h1 h2
  obtain⟨b1,b2⟩:=Ic l a1 λx hx=>hl x (List.mem_cons_of_mem _ hx)
  refine⟨by rw[List.length_cons,show N+(l.length+1)=N+1+l.length by omega];exact b1,λx=>?_⟩
  show x∈aJ (xG l (gT v nm [oz]))↔_
  rw[b2,a2,List.mem_cons]
  constructor
  ·rintro (h | h | h)
   ·exact .inl (.inr h)
   ·exact .inl (.inl h)
   ·exact .inr h
  ·rintro ((h | h) | h)
   ·exact .inr (.inl h)
   ·exact .inl h
   ·exact .inr (.inr h)
theorem SK{l:List (List UInt8)}{i:Nat}{nm:List UInt8}(h:l[i]?=some nm)(v:Vl):xG (l.take (i+1)) v=gT (xG (l.take i) v) nm [oz]:=by
 rw[List.take_add_one,h,xG,Option.toList_some,List.foldl_append]
 rfl
theorem VU{a b:List (List UInt8)}(ha:ou a)(hb:ou b)(h:∀x,x∈a↔x∈b):a=b:=by
 have e:∀l:List (List UInt8),(l.map λx=>((x,[]):List UInt8×Vl)).map (·.1)=l:=λl=>by simp[List.map_map,Function.comp_def]
 have:=r9 (a.map λx=>(x,[])) (b.map λx=>(x,[])) (by rw[e];exact ha) (by rw[e];exact hb) λx=>by
  simp only[List.mem_map]
  exact⟨λ⟨y,hy,he⟩=>⟨y,(h y).1 hy,he⟩,λ⟨y,hy,he⟩=>⟨y,(h y).2 hy,he⟩⟩
 rw[←e a,this,e]
theorem VW{a b:Vl}(ha:Ir a)(hb:Ir b)(ka:aN a=6)(kb:aN b=6):MOk (xG (aJ a) b) 20000∧aJ (xG (aJ a) b)=j3 a b:=by
 have hpa:=bV ha.ok.rt ka
 have hf:=bD ha.ok.rt
 obtain⟨h1,h2⟩:=Ic (aJ a) (v:=b) (N:=b.length) ⟨hb.ok.rt,kb,Nat.le_refl _,hb.nmm⟩ λnm hm=>by
  refine⟨?_,lG ha.ok.rt ha.ok.nm nm hm⟩
  rw[hpa.2.2.1]at hm
  obtain⟨z,hz,rfl⟩:=List.mem_map.1 hm
  exact hpa.1.utf z hz
 refine⟨⟨h1.rt,h1.kd,by have:=h1.len;have:=ha.len;have:=hb.len;omega,h1.nm⟩,?_⟩
 have hall:=bV h1.rt h1.kd
 refine VU (by rw[hall.2.2.1];exact hall.1.rise) ?_ λx=>by rw[h2,lN]
 have hnd:=vE (l6 ha.ok.rt ka) (l6 hb.ok.rt kb)
 rw[j3]
 exact RY ((List.mergeSort_perm ..).nodup_iff.1 hnd)
end Lp
namespace Lp
open Go Go.Proofs Go.Lib Go.RowKit
section
variable {P:Program}
theorem tF{ops:Array Oper}{o:Oper}{a:Act}{w:World}{K:Act→World→Prop}{Q:Exit→Act→World→Prop}{E:Prop}
  (hg:o.guard=none) (d x:Operand) (dT sT:TypeId) (hop:o.op=Op.call { callee:=Callee.builtin Builtin.append,args:=#[d,x],argTypes:=#[dT,sT] })
  (v u:Value) (hd:a.eval d=v) (hx:a.eval x=u){v':Value}{w':World}(hr:(Builtin.append_ #[dT,sT] o.type #[v,u]).run P w=.ok v' w') (hK:K (a.put o.dst v') w') :
  if Region.wanted o (yielded ops a.tmps)=true then Oper.wp P o a w K Q else E:=by
 rw[if_pos (by simp[Region.wanted,hg])]
 unfold Oper.wp execOp
 simp only[hop,resolve,invoke,builtin,Sem.run_bind,Sem.run_pure,Result.andThen_ok,List.map_toArray,List.map_cons,List.map_nil,hd,hx,hr]
 exact hK
theorem rG(w:World){ops:Array Oper}{rest:List Oper}{o:Oper}{a:Act}{Q:Exit→Act→World→Prop}(hgd:o.guard=none)(d:Operand)(t:TypeId)
  (ho:o.op=.call { callee:=.builtin .clear,args:=#[d],argTypes:=#[t] }) (v:Value) (hd:a.eval d=v){v':Value}{w':World}
  (hr:(Builtin.clear_ #[t] o.type #[v]).run P w=.ok v' w') (h:wpList P ops Q rest (a.put o.dst v') w'):wpList P ops Q (o::rest) a w:=
 wpList_plain hgd λ_ hK=>by
  unfold Oper.wp execOp
  simp only[ho,resolve,invoke,builtin,Sem.run_bind,Sem.run_pure,Result.andThen_ok,List.map_toArray,List.map_cons,List.map_nil,hd,hr]
  exact hK _ _ h
end
theorem Yv{α:Type}(xs:List α)(i m:Nat)(hi:i<xs.length):(xs.take i++xs.drop (i+1))[m]?=if m<i then xs[m]? else xs[m+1]?:=by
 have ht:(xs.take i).length=i:=by simp;omega
 rw[List.getElem?_append,ht]
 split
 ·rename_i h;rw[List.getElem?_take,if_pos h]
 ·rename_i h;rw[List.getElem?_drop,show i+1+(m-i)=m+1 by omega]
theorem aX.aeI {R:PV→Value→Prop}{xs:List PV}{c c':Array Value}{i:Nat}(h:aX R 1 c xs)(hi:i<xs.length)
  (h1:∀q,q<i→c'[q]?=c[q]?) (h3:∀q,i≤q→q<xs.length-1→c'[q]?=c[q+1]?) :
  aX R 1 c' (xs.take i++xs.drop (i+1)):=by
 intro m y hy
 rw[Yv xs i m hi]at hy
 have hlt:∀{z:PV}{j:Nat}{p:PV},z.cells.length=1→z.cells[j]?=some p→j<1:=λh1 h2=>by rw[←h1];exact (List.getElem?_eq_some_iff.1 h2).1
 split at hy
 ·rename_i hm
  obtain⟨z1,z2⟩:=h m y hy
  refine⟨z1,λj p hp=>?_⟩
  have hj:=hlt z1 hp
  obtain⟨v,u1,u2⟩:=z2 j p hp
  exact⟨v,by rw[h1 _ (by omega)];exact u1,u2⟩
 ·rename_i hm1
  obtain⟨z1,z2⟩:=h (m+1) y hy
  have hml:m+1<xs.length:=(List.getElem?_eq_some_iff.1 hy).1
  refine⟨z1,λj p hp=>?_⟩
  have hj:=hlt z1 hp
  obtain⟨v,u1,u2⟩:=z2 j p hp
  have e:(m+1)*1+j=(m*1+j)+1:=by omega
  exact⟨v,by rw[h3 _ (by omega) (by omega),←e];exact u1,u2⟩
set_option maxHeartbeats 4000000 in
set_option maxRecDepth 100000 in
theorem VX(g n c i:Nat)(cur:Array Value)(w:World)(hi:i<n)(hnc:n≤c)(hc63:c≤9223372036854775807)
  (hg:w.heap[g]?=some (.cells cur 23 (0,0))) (hcur:cur.size=c) (oc:∀v∈mid cur (i+1) n 1,v.oneCell'=true)
  (bQ:Array Value) (hc1:bQ=spl cur i (mid cur (i+1) n 1)) :
  Calls Tryz.prog 55 #[.slice (some ⟨g,0,none⟩) n c,.int .i64 i,.int .i64 ((i:Int)+1)] w λe w'=>
   e=.returned (.slice (some ⟨g,0,none⟩) (n-1) c)∧w'=(w.drew.setRow g bQ).setRow g (spl bQ (n-1) [Value.slice none 0 0]):=by
 have mixed:Tryz.prog.follows .mixedOrders=true:=by kernel_rfl
 have zVV:∀u:World,(Go.zeroValue 23).run Tryz.prog u=.ok (Value.slice none 0 0) u:=λu=>by kernel_rfl
 obtain⟨inf,hi0,hz0,hzs,hzb⟩:∃inf,Tryz.prog.info? 23=some inf∧inf.zero=some (.slice none 0 0)∧inf.size=1∧inf.bytes=24:=⟨_,rfl,rfl,rfl,rfl⟩
 have hcl:(mid cur (i+1) n 1).length=n-(i+1):=by simp[mid,hcur];omega
 have hg':w.drew.heap[g]?=some (.cells cur 23 (0,0)):=hg
 have hlen:i+(n-(i+1))=n-1:=by omega
 have happ:∀ty off cp,(c≠i+1→off=i+1)→(Builtin.append_ #[64,64] ty #[.slice (some ⟨g,0,none⟩) i c,.slice (some ⟨g,off,none⟩) (n-(i+1)) cp]).run Tryz.prog w.drew=.ok (.slice (some ⟨g,0,none⟩) (n-1) c) (w.drew.setRow g bQ):=λty off cp hoff=>by
  have h:=o9 (P:=Tryz.prog) w.drew 64 64 ty 23 inf G_ hi0 g i c cur 23 hg' (.slice (some ⟨g,off,none⟩) (n-(i+1)) cp) (n-(i+1)) _
   (Src.ofSlice w.drew G_ ⟨g,off,none⟩ (n-(i+1)) cp (mid cur (i+1) n 1) (by rw[hzs,hcl];omega) (λj v hj=>by
    have hjl:=(List.getElem?_eq_some_iff.1 hj).1
    rw[hcl]at hjl
    rw[hoff (by omega),Addr.add_lit]
    simp only[World.cell?,hg']
    rw[mid,List.getElem?_drop,List.getElem?_take]at hj
    split at hj
    ·simpa using hj
    ·cases hj) oc) (by omega) (by rw[hcl,hzs,hcur];omega)
  rw[hlen,hzs,Nat.mul_one]at h
  rw[hc1]
  exact h
 have Cb:bQ.size=c:=by rw[hc1,jX (by rw[hcl,hcur];omega)];exact hcur
 have hg1:(w.drew.setRow g bQ).heap[g]?=some (.cells bQ 23 (0,0)):=setRow_heap w.drew g cur bQ 23 (0,0) hg'
 have adY:∀ty cp,(Builtin.clear_ #[64] ty #[.slice (some ⟨g,n-1,none⟩) (n-(n-1)) cp]).run Tryz.prog (w.drew.setRow g bQ)=.ok (.tuple #[]) ((w.drew.setRow g bQ).setRow g (spl bQ (n-1) [Value.slice none 0 0])):=λty cp=>by
  have hst:=run_storeCells_at Tryz.prog g (n-1) 23 [Value.slice none 0 0] 0 bQ (w.drew.setRow g bQ) hg1 (by simp[Cb];omega) (λv hv=>by
   rcases List.mem_cons.1 hv with rfl | hv
   ·rfl
   ·cases hv)
  have hn1:n-(n-1)=0+1:=by omega
  have hzc:(Builtin.zeroCells (Value.slice none 0 0).cells 1).toList=[Value.slice none 0 0]:=by kernel_rfl
  rw[hn1]
  simp[Builtin.clear_,run_underlying G_,zVV,hzc,hst,spl]
 have hw1:IntKind.i64.wrap ((i:Int)+1)=(i:Int)+1:=by rw[IntKind.wrap_i64];omega
 have hb1:(0:Int)≤(i:Int)+1:=by omega
 have hin:i≤n:=by omega
 have hin':i≤c:=by omega
 have htn:((i:Int)+1).toNat=i+1:=by omega
 have hb2:¬ (c=n-1):=by omega
 have hb3:(i:Int)+1≤(n:Int):=by omega
 have hb6:(i:Int)≤(i:Int)+1:=by omega
 have hz1:¬ ((i:Int)=(i:Int)+1):=by omega
 have hn1:n-1≤n:=by omega
 have hcn:(n:Int)≤(c:Int):=by omega
 clear hc1 hcl Cb hg1 hlen
 by_cases hci:c=i+1
 ·have Yw:=λty cp=>happ ty 0 cp (λh=>absurd hci h)
  have aeT:(c=i+1)=True:=eq_true hci
  clear happ hci
  go_enter Tryz.func55,Tryz.ntmps55
  go_wp2
  go_region_law_o (refine tF rfl _ _ 64 64 rfl _ _ (by simp[Act.eval,Act.put]) (by simp[Act.eval,Act.put]) (Yw 64 (c-(i+1))) ?_)
  go_wp2_with (at_builtin;refine rG _ rfl _ 64 rfl _ rfl (adY _ _) ?_)
  go_ret
  exact⟨rfl,rfl⟩
 ·have Yw:=λty cp=>happ ty (i+1) cp (λ_=>rfl)
  clear happ
  go_enter Tryz.func55,Tryz.ntmps55
  go_wp2
  go_region_law_o (refine tF rfl _ _ 64 64 rfl _ _ (by simp[Act.eval,Act.put]) (by simp[Act.eval,Act.put]) (Yw 64 (c-(i+1))) ?_)
  go_wp2_with (at_builtin;refine rG _ rfl _ 64 rfl _ rfl (adY _ _) ?_)
  go_ret
  exact⟨rfl,rfl⟩
theorem P8{objs:List Obj}{k ver:Nat}{ob:Obj}{i:Nat}(h1:objs[k]?=some ob)(h2:ob.live=true)(h3:ob.ver=ver)
  (h4:ob.sz=1) (hty:ob.ty=23) (hall:∀y∈ob.xs,Sc 1 y) (hi:i<ob.xs.length) :
  FW Tryz.prog 55 [.aS k ver,.int .i64 i,.int .i64 ((i:Int)+1)] objs (.aS k (ver+1)) (objs.set k { ob with xs:=ob.xs.take i++ob.xs.drop (i+1),ver:=ver+1 }):=by
 refine⟨⟨_,Tryz.func55,by kernel_rfl,by kernel_rfl⟩,by simp,λbase ah w0 tmps blk a w vs R hargs=>?_⟩
 obtain⟨v0,v1,v2,rfl,r0,r1,r2⟩:=XW hargs
 have e1:=r1.int
 have e2:=r2.int
 subst e1;subst e2
 have hM:ob.ty≠MT:=by rw[hty];intro h;cases h
 have hh:=r0.aS h1 h2 h3
 unfold vL at hh
 have hone:∀y,Sc 1 y→∀p∈y.cells,∀v,aV w (aZ base objs blk) objs blk p v→v.oneCell'=true:=λy hy p hp v hv=>(ku hv (List.all_eq_true.1 hy.2 p hp)).1
 rcases Ca (blk k) with hbk | ⟨g,hbk⟩
 ·rw[hbk]at hh;rw[hh.2]at hi;simp at hi
 ·rw[hbk]at hh
  obtain⟨cap,c,rfl,x1,x2,x3,x4⟩:=hh
  obtain⟨c',y1,y2,y3⟩:=kz R h1 h2 hbk hM
  rw[x1]at y1;cases y1
  rw[hty]at x1
  rw[h4]at x4 y3
  rw[Nat.mul_one]at x4
  have hc63:cap≤9223372036854775807:=by unfold maxLen at x3;omega
  have hoc:∀v∈c.toList.take (ob.xs.length*1),v.oneCell'=true:=
   cells_one (aX.take y3) (by simp[x4];omega) (λy hy=>hone y (hall y hy))
  have hdl:(mid c (i+1) ob.xs.length 1).length=ob.xs.length-(i+1):=by simp[mid,x4];omega
  have hdg:∀q,i≤q→q<ob.xs.length-1→(mid c (i+1) ob.xs.length 1)[q-i]?=c[q+1]?:=λq hq1 hq2=>by
   rw[mid,List.getElem?_drop,List.getElem?_take,show (i+1)*1+(q-i)=q+1 by omega,if_pos (by omega)];simp
  have hyl:(ob.xs.take i++ob.xs.drop (i+1)).length=ob.xs.length-1:=by simp;omega
  refine (VX g ob.xs.length cap i c w hi x2 hc63 x1 x4 (λv hv=>hoc v (List.mem_of_mem_drop hv)) _ rfl).mono λe w' ⟨he,hw⟩=>?_
  have hf1:i+(mid c (i+1) ob.xs.length 1).length≤c.size:=by rw[hdl,x4];omega
  have hs1:=jX hf1
  have hg1:=yx hf1
  generalize spl c i (mid c (i+1) ob.xs.length 1)=bQ at hw hs1 hg1
  have hf2:ob.xs.length-1+[Value.slice none 0 0].length≤bQ.size:=by rw[hs1,x4];simp;omega
  have hs2:=jX hf2
  have hg2:=yx hf2
  generalize spl bQ (ob.xs.length-1) [Value.slice none 0 0]=cur2 at hw hs2 hg2
  subst hw
  have hgd:w.drew.heap[g]?=some (.cells c 23 (0,0)):=x1
  have hh1:(w.drew.setRow g bQ).heap[g]?=some (.cells bQ 23 (0,0)):=setRow_heap w.drew g c bQ 23 (0,0) hgd
  have L:Kw ob.ty ob.sz (aV w (aZ base objs blk) objs blk) (blk k) w (ob.xs.take i++ob.xs.drop (i+1)) (.slice (some ⟨g,0,none⟩) (ob.xs.length-1) cap) ((w.drew.setRow g bQ).setRow g cur2) g:=by
   refine⟨by rw[setRow_size,setRow_size];exact Nat.le_refl _,⟨rfl,rfl⟩,λb y hb hy=>?_,.inl hbk,cap,cur2,by rw[hyl],by rw[hty];exact setRow_heap _ g bQ cur2 23 (0,0) hh1,by rw[hyl];omega,x3,by rw[hs2,hs1,x4,h4,Nat.mul_one],?_⟩
   ·have hbg:b≠g:=λe=>hb (by rw[hbk,e])
    rw[setRow_other _ g b _ hbg,setRow_other _ g b _ hbg];exact hy
   ·rw[h4]
    refine aX.aeI y3 hi (λq hq=>?_) (λq hq1 hq2=>?_)
    ·rw[hg2,if_pos (by omega),hg1,if_pos hq]
    ·rw[hg2,if_pos hq2,hg1,if_neg (by omega),if_pos (by rw[hdl];omega),hdg q hq1 hq2]
  obtain⟨g1,g2⟩:=L.rel R h1 h2 h3 hM
  exact⟨_,_,he,g1,g2⟩
def Fv:d9:=λargs objs K=>match args with
 | [.aS k ver,.int .i64 i,.int .i64 j]=>∃o,objs[k]?=some o∧o.live=true∧o.ver=ver∧o.sz=1∧o.ty=23∧Nl aj o.xs (HK.mk:HK λl=>0≤i∧j=i+1∧i.toNat<l.length∧
     K (.aS k (ver+1)) (objs.set k ⟨23,1,(l.take i.toNat++l.drop (i.toNat+1)).map aj,true,ver+1⟩) 2)
 | _=>False
theorem SL:aR Tryz.prog 55 Fv:=by
 intro args objs K h
 unfold Fv at h
 split at h
 ·rename_i k ver i j
  obtain⟨o,h1,h2,h3,h4,h5,l,h6,h7,rfl,h8,h10⟩:=h
  obtain⟨n,rfl⟩:∃n:Nat,i=n:=⟨i.toNat,by omega⟩
  rw[Int.toNat_natCast]at h8 h10
  obtain⟨ty,sz,xs,live,vr⟩:=o
  simp only[]at h2 h3 h4 h5 h6
  subst h2;subst h3;subst h4;subst h5;subst h6
  have hu:=P8 (objs:=objs) (k:=k) (i:=n) h1 rfl rfl rfl rfl (λy hy=>by obtain⟨s,_,rfl⟩:=List.mem_map.1 hy;exact⟨rfl,rfl⟩) (by simpa using h8)
  refine⟨_,_,_,.used _ _ hu,?_⟩
  have e:(l.map aj).take n++(l.map aj).drop (n+1)=(l.take n++l.drop (n+1)).map aj:=by simp
  rw[e]
  exact h10
 ·exact h.elim
end Lp
namespace Lp
open Go Go.Proofs
theorem Yx{l:List PV}{i:Nat}{a:PV}(h:l[i]?=some a)(objs:List Obj)(K:KT):bW (.bY l) i objs K=K a objs 0:=by
 unfold bW
 exact propext ⟨λ⟨p,h1,h2⟩=>by rw[h]at h1;cases h1;exact h2,λk=>⟨_,h,k⟩⟩
theorem nu :
  (∀a b objs K,bW (.bY [a,b]) 0 objs K=K a objs 0)∧(∀a b objs K,bW (.bY [a,b]) 1 objs K=K b objs 0)∧
  (∀a b c objs K,bW (.bY [a,b,c]) 0 objs K=K a objs 0)∧(∀a b c objs K,bW (.bY [a,b,c]) 1 objs K=K b objs 0)∧(∀a b c objs K,bW (.bY [a,b,c]) 2 objs K=K c objs 0):=
 ⟨λ_ _=>Yx rfl,λ_ _=>Yx rfl,λ_ _ _=>Yx rfl,λ_ _ _=>Yx rfl,λ_ _ _=>Yx rfl⟩
structure PSz (p:List Stp):Prop where
 len:p.length≤1000000
 txt:∀s∈p,s.name.length≤1000000
theorem SN(s:Stp)(hs:s.name.length≤1000000):av Tryz.prog 70 [encS s] [] (.bool (!bK s)) []:=by
 refine Hl.bR (T:=bA Tryz.prog [(71,cZ)]) 0 hD (ay (af uO au)) bE (by decide) λQ hQ=>?_
 (conv=>arg 4;cbv);simp (maxSteps:=400000) only[↓aA,aB,BEq.rfl,seval,hQ]
 refine bg _ (Weak.freeze 1 0 (Nat.zero_le _) _) ?_
 cases hp:s.part with
 | true=>
  have hr:bK s=(decide (s.name=[]) && decide (0≤s.n) && decide (s.n≤1000000)):=by simp[bK,hp]
  by_cases hn:s.name=[]
  ·have hn':=eq_true hn
   rcases tf (s.n<0) with h0 | h0
   ·have e:bK s=false:=by rw[hr];have:=of_eq_true h0;simp;omega
    simp (maxSteps:=400000) only[↓aA,aB,BEq.rfl,seval,hQ,mV,hp,hn',h0,e]
   ·rcases tf (1000000<s.n) with h1 | h1
    ·have e:bK s=false:=by rw[hr];have:=of_eq_true h1;simp;omega
     simp (maxSteps:=400000) only[↓aA,aB,BEq.rfl,seval,hQ,mV,hp,hn',h0,h1,e]
    ·have e:bK s=true:=by rw[hr];have:=of_eq_false h1;have:=of_eq_false h0;simp[hn];omega
     simp (maxSteps:=400000) only[↓aA,aB,BEq.rfl,seval,hQ,mV,hp,hn',h0,h1,e]
  ·have hn':=eq_false hn
   have e:bK s=false:=by rw[hr];simp[hn]
   simp (maxSteps:=400000) only[↓aA,aB,BEq.rfl,seval,hQ,mV,hp,hn',e]
 | false=>
  have hr:bK s=(decide (s.n=0) && utf s.name):=by simp[bK,hp]
  rcases tf (s.n=0) with h0 | h0
  ·cases hu:utf s.name with
   | true=>
    have e:bK s=true:=by rw[hr,hu];simp[of_eq_true h0]
    simp (maxSteps:=400000) only[↓aA,aB,BEq.rfl,seval,hQ,mV,hp,h0,hu,↓cZ,e]
    omega
   | false=>
    have e:bK s=false:=by rw[hr,hu];simp
    simp (maxSteps:=400000) only[↓aA,aB,BEq.rfl,seval,hQ,mV,hp,h0,hu,↓cZ,e]
    omega
  ·have e:bK s=false:=by rw[hr];simp[of_eq_false h0]
   simp (maxSteps:=400000) only[↓aA,aB,BEq.rfl,seval,hQ,mV,hp,h0,e]
def xH:d9:=λargs objs K=>match args with
 | [a0]=>gD encS a0 (HK.mk:HK λs=>(s.name.length≤1000000)∧K (.bool (!bK s)) objs 0)
 | _=>False
theorem P9:aR Tryz.prog 70 (xH):=by
 intro args objs K h
 unfold xH at h
 split at h
 ·rename_i a0
  obtain⟨s,rfl,h1,hk⟩:=h
  exact⟨_,_,_,.pure _ rfl (SN s h1),hk⟩
 ·exact h.elim
def rT(s:Stp):Bool:=!bK s
theorem M0(l:List Stp)(hs:PSz l):av Tryz.prog 100 [aT l,.fn 70 [] []] [] (.int .i64 (idxOf rT l)) []:=by
 obtain⟨hl,htx⟩:=hs
 refine kJ.bR (T:=bA Tryz.prog [(70,xH)]) 0 hD (ay (af P9 au)) bE (by decide) λQ hQ=>?_
 (conv=>arg 4;cbv);simp (maxSteps:=400000) only[↓aA,aB,BEq.rfl,seval,hQ]
 refine aQ (λm S=>∃i:Nat,i+m=l.length∧(∀(j:Nat) y,j<i→l[j]?=some y→rT y=false)∧S=⟨dD 19 [(0,aT l),(1,.fn 70 [] []),(7,.int .i64 l.length),(8,.int .i64 i)],[]⟩) l.length ⟨0,by omega,λj y h=>absurd h (Nat.not_lt_zero j),?_⟩ ?_
 ·simp only[cB,keepR,Nat.reduceAdd,oO,Nat.reduceBEq,List.map_nil]
  rfl
 rintro m S ⟨i,him,hb,rfl⟩
 rcases Nat.lt_or_ge i l.length with h | h
 rotate_left 1
 ·have hlt:((i:Int)<(l.length:Int))=False:=eq_false (by omega)
  have hr:=Ao (l:=l) λj y hj=>hb j y (by have:=(List.getElem?_eq_some_iff.1 hj).1;omega) hj
  simp (maxSteps:=400000) only[↓aA,aB,BEq.rfl,seval,hQ,hlt,hr]
 have hlt:((i:Int)<(l.length:Int))=True:=eq_true (by omega)
 have zi:(0≤(i:Int))=True:=eq_true (by omega)
 have hgi:=List.getElem?_eq_getElem h
 have ho:=htx _ (List.getElem_mem h)
 generalize l[i]=o at hgi ho
 cases hp:rT o
 rotate_left 1
 ·have hr:idxOf rT l=i:=idxOf_hit hgi hp hb
  have hp':(!bK o)=true:=hp
  simp (maxSteps:=400000) only[↓aA,aB,BEq.rfl,seval,hQ,hlt,zi,hgi,↓xH,hp',hr]
  exact ho
 ·have hp':(!bK o)=false:=hp
  simp (maxSteps:=400000) only[↓aA,aB,BEq.rfl,seval,hQ,hlt,zi,hgi,↓xH,hp']
  refine⟨ho,⟨by omega,by omega⟩,m-1,by omega,i+1,by omega,λj y hj hy=>?_,rfl⟩
  rcases Nat.lt_or_ge j i with g | g
  ·exact hb j y g hy
  ·have:j=i:=by omega
   subst this
   rw[hgi]at hy;cases hy
   exact hp
def vF:d9:=λargs objs K=>match args with
 | [a0,a1]=>gD aT a0 (HK.mk:HK λl=>a1=(.fn 70 [] [])∧(PSz l)∧K (.int .i64 (idxOf rT l)) objs 0)
 | _=>False
theorem Jy:aR Tryz.prog 100 (vF):=by
 intro args objs K h
 unfold vF at h
 split at h
 ·rename_i a0 a1
  obtain⟨l,rfl,rfl,h1,hk⟩:=h
  exact⟨_,_,_,.pure _ rfl (M0 l h1),hk⟩
 ·exact h.elim
theorem M4(l:List Stp)(hl:PSz l):av Tryz.prog 72 [aT l,.fn 70 [] []] [] (.bool (l.any rT)) []:=by
 refine jq.bR (T:=bA Tryz.prog [(100,vF)]) 0 hD (ay (af Jy au)) bE (by decide) λQ hQ=>?_
 (conv=>arg 4;cbv);simp (maxSteps:=400000) only[↓aA,aB,BEq.rfl,seval,hQ,↓vF,Dw]
 exact hl
def vG:d9:=λargs objs K=>match args with
 | [a0,a1]=>gD aT a0 (HK.mk:HK λl=>a1=(.fn 70 [] [])∧(PSz l)∧K (.bool (l.any rT)) objs 0)
 | _=>False
theorem Jz:aR Tryz.prog 72 (vG):=by
 intro args objs K h
 unfold vG at h
 split at h
 ·rename_i a0 a1
  obtain⟨l,rfl,rfl,h1,hk⟩:=h
  exact⟨_,_,_,.pure _ rfl (M4 l h1),hk⟩
 ·exact h.elim
theorem VY(p:List Stp):p.any rT=!p.all bK:=by
 induction p with
 | nil=>rfl
 | cons s p ih=>rw[List.any_cons,List.all_cons,ih,rT,Bool.not_and]
theorem Ie(p:List Stp)(hp:PSz p):av Tryz.prog 48 [aT p] [] (.bool (o7 p)) []:=by
 refine Mv.bR (T:=bA Tryz.prog [(72,vG)]) 0 hD (ay (af Jz au)) bE (by decide) λQ hQ=>?_
 rcases tf ((p.length:Int)≤20) with h | h
 ·have e:o7 p=p.all bK:=by have:=of_eq_true h;unfold o7;simp;omega
  have e2:(!p.any rT)=o7 p:=by rw[VY,e,Bool.not_not]
  (conv=>arg 4;cbv);simp (maxSteps:=400000) only[↓aA,aB,BEq.rfl,seval,hQ,h,↓vG,e2]
  exact hp
 ·have e:o7 p=false:=by have:=of_eq_false h;unfold o7;simp;omega
  (conv=>arg 4;cbv);simp (maxSteps:=400000) only[↓aA,aB,BEq.rfl,seval,hQ,h,e]
def eH:d9:=λargs objs K=>match args with
 | [a0]=>gD aT a0 (HK.mk:HK λp=>(PSz p)∧K (.bool (o7 p)) objs 0)
 | _=>False
theorem ET:aR Tryz.prog 48 (eH):=by
 intro args objs K h
 unfold eH at h
 split at h
 ·rename_i a0
  obtain⟨p,rfl,h1,hk⟩:=h
  exact⟨_,_,_,.pure _ rfl (Ie p h1),hk⟩
 ·exact h.elim
def qH(v:Vl)(x:Stp):PV:=if (bF v x).2=0 then .bY [aj (bF v x).1,.int .i64 0] else .bY [.sl 0 [] (some true),.int .i64 (bF v x).2]
theorem P_(v:Vl)(x:Stp):fG (qH v x) (.bY [aj (bF v x).1,.int .i64 (bF v x).2]):=by
 unfold qH
 split
 ·rename_i h;rw[h];exact .refl _
 ·rename_i h;rw[VT h];exact Dm (.inr rfl) (gF 0 6) (.refl _)
theorem aak(v:Vl)(x:Stp)(hr:Rt v)(hl:v.length≤1000000)(hn:0≤x.n):av Tryz.prog 50 [aj v,encS x] [] (qH v x) []:=by
 refine VF.jS (T:=bA Tryz.prog [(52,oH),(56,fH)]) 0 hD (ay (af wY (af wV au))) bE (by decide) (by decide) λQ hQ=>?_
 have ho:=hr.one
 obtain⟨p1,_,_,_⟩:=bD hr
 obtain⟨n,r,hv,_⟩:=bS hr.name hr.one.ne
 have hv0:v[0]?=some n:=by rw[hv];rfl
 have hkd:aN v=n.kind:=by rw[hv];rfl
 have hml:(n.many:Int)=(ax v).length:=by
  subst hv
  obtain⟨h1,h2,ps,h3,_,_,_,_⟩:=hr.parts
  have h8:=dW _ _ _ h3
  simp only[ax,(dB h3).1,List.length_map]
  omega
 have zn:(0≤x.n)=True:=eq_true hn
 (conv=>arg 4;cbv);simp (maxSteps:=400000) only[↓aA,aB,BEq.rfl,seval,hQ]
 refine bg _ (Weak.freeze 1 0 (Nat.zero_le _) _) ?_
 cases hx:x.part with
 | true=>
  by_cases hk:n.kind=5
  ·rcases Nat.lt_or_ge x.n.toNat (ax v).length with h | h
   ·have hgi:=List.getElem?_eq_getElem h
    generalize (ax v)[x.n.toNat]=w at hgi
    have hlt:(((ax v).length:Int)≤x.n)=False:=eq_false (by omega)
    have hres:qH v x=.bY [aj w,.int .i64 0]:=by simp[qH,bF,hx,hkd,hk,hgi]
    simp (maxSteps:=400000) only[↓aA,aB,BEq.rfl,seval,hQ,mV,hx,hv0,hk,hml,↓oH,hlt,zn,hgi,hres]
    exact⟨by omega,ho⟩
   ·have hlt:(((ax v).length:Int)≤x.n)=True:=eq_true (by omega)
    have hres:qH v x=.bY [.sl 0 [] (some true),.int .i64 6]:=by simp[qH,bF,hx,hkd,hk,List.getElem?_eq_none h]
    simp (maxSteps:=400000) only[↓aA,aB,BEq.rfl,seval,hQ,mV,hx,hv0,hk,hml,hlt,hres]
  ·have hk':=eq_false hk
   have hres:qH v x=.bY [.sl 0 [] (some true),.int .i64 5]:=by simp[qH,bF,hx,hkd,hk]
   simp (maxSteps:=400000) only[↓aA,aB,BEq.rfl,seval,hQ,mV,hx,hv0,hk',hres]
 | false=>
  by_cases hk:n.kind=6
  ·cases hf:gP v x.name with
   | some w=>
    have h1:bN v x.name=w:=by simp[bN,hf]
    have h2:eY v x.name=true:=by simp[eY,hf]
    have hres:qH v x=.bY [aj w,.int .i64 0]:=by simp[qH,bF,hx,hkd,hk,hf]
    simp (maxSteps:=400000) only[↓aA,aB,BEq.rfl,seval,hQ,mV,hx,hv0,hk,↓fH,nu,h1,h2,hres]
    exact⟨hr,hl⟩
   | none=>
    have h2:eY v x.name=false:=by simp[eY,hf]
    have hres:qH v x=.bY [.sl 0 [] (some true),.int .i64 6]:=by simp[qH,bF,hx,hkd,hk,hf]
    simp (maxSteps:=400000) only[↓aA,aB,BEq.rfl,seval,hQ,mV,hx,hv0,hk,↓fH,nu,h2,hres]
    exact⟨hr,hl⟩
  ·have hk':=eq_false hk
   have hres:qH v x=.bY [.sl 0 [] (some true),.int .i64 5]:=by simp[qH,bF,hx,hkd,hk]
   simp (maxSteps:=400000) only[↓aA,aB,BEq.rfl,seval,hQ,mV,hx,hv0,hk',hres]
def zR:d9:=λargs objs K=>match args with
 | [a0,a1]=>gD aj a0 (HK.mk:HK λv=>gD encS a1 (HK.mk:HK λx=>(Rt v)∧(v.length≤1000000)∧(0≤x.n)∧K (.bY [aj (bF v x).1,.int .i64 (bF v x).2]) objs 0))
 | _=>False
theorem Qa:aR Tryz.prog 50 (zR):=by
 intro args objs K h
 unfold zR at h
 split at h
 ·rename_i a0 a1
  obtain⟨v,rfl,x,rfl,h1,h2,h3,hk⟩:=h
  exact⟨_,_,_,.pure _ rfl ((aak v x h1 h2 h3).res (P_ v x)),hk⟩
 ·exact h.elim
theorem DT:∀a x:Stp,(encS a).putCells 0 [.bool x.part,.str x.name,.int .i64 x.n]=encS x:=λ_ _=>rfl
theorem etS:∀x:Stp,PV.agg [.bool x.part,.str x.name,.int .i64 x.n]=encS x:=λ_=>rfl
theorem VZ:∀e:Ed,PV.agg [.int .i64 e.kind,aT e.p,aj e.v]=kQ e:=λ_=>rfl
def AJ(p:List Stp)(v:Vl):PV:=if (eX p v).2=0 then .bY [aj (eX p v).1,.int .i64 0] else .bY [.sl 0 [] (some true),.int .i64 (eX p v).2]
theorem M5(p:List Stp)(v:Vl):fG (AJ p v) (.bY [aj (eX p v).1,.int .i64 (eX p v).2]):=by
 unfold AJ
 split
 ·rename_i h;rw[h];exact .refl _
 ·rename_i h;rw[PU p v h];exact Dm (.inr rfl) (gF 0 6) (.refl _)
theorem Yy(p:List Stp)(v:Vl)(hr:Rt v)(hl:v.length≤1000000)(hpl:p.length≤1000000)(hn:∀x∈p,0≤x.n):av Tryz.prog 29 [aT p,aj v] [] (AJ p v) []:=by
 refine Sk.jS (T:=bA Tryz.prog [(50,zR)]) 0 hD (ay (af Qa au)) bE (by decide) (by decide) λQ hQ=>?_
 (conv=>arg 4;cbv);simp (maxSteps:=400000) only[↓aA,aB,BEq.rfl,seval,hQ]
 refine aQ (hz:=Nat.zero_le _) (λm S=>∃(i:Nat) (w:Vl),i+m=p.length∧Rt w∧w.length≤1000000∧eX p v=eX (p.drop i) w∧S=⟨dD 28 [(1,aj w),(10,aT p),(11,.int .i64 p.length),(12,.int .i64 i)],[]⟩) p.length ⟨0,v,by omega,hr,hl,by rw[List.drop_zero],?_⟩ ?_
 ·simp only[cB,keepR,Nat.reduceAdd,oO,Nat.reduceBEq,List.map_nil]
  rfl
 rintro m S ⟨i,w,him,hw,hwl,hg,rfl⟩
 have zi:(0≤(i:Int))=True:=eq_true (by omega)
 rcases Nat.lt_or_ge i p.length with h | h
 ·have hlt:((i:Int)<(p.length:Int))=True:=eq_true (by omega)
  have hgi:=List.getElem?_eq_getElem h
  have hx:=hn p[i] (List.getElem_mem h)
  rw[List.drop_eq_getElem_cons h]at hg
  generalize p[i]=x at hgi hx hg
  rw[eX]at hg
  by_cases he:(bF w x).2=0
  ·have he':=eq_true he
   rw[if_pos he]at hg
   have hm:=bU hw (KL hw he)
   simp (maxSteps:=400000) only[↓aA,aB,BEq.rfl,seval,hQ,hlt,zi,hgi,↓zR,nu,he',PD,DT,etS]
   exact⟨hw,hwl,hx,⟨by omega,by omega⟩,m-1,by omega,i+1,_,by omega,hm.1,by omega,hg,rfl⟩
  ·have he':=eq_false he
   rw[if_neg he]at hg
   have hres:AJ p v=.bY [.sl 0 [] (some true),.int .i64 (bF w x).2]:=by unfold AJ;rw[hg,if_neg he]
   simp (maxSteps:=400000) only[↓aA,aB,BEq.rfl,seval,hQ,hlt,zi,hgi,↓zR,nu,he',PD,DT,etS,hres]
   exact⟨hw,hwl,hx⟩
 ·have hlt:((i:Int)<(p.length:Int))=False:=eq_false (by omega)
  rw[List.drop_eq_nil_of_le h,eX]at hg
  have hres:AJ p v=.bY [aj w,.int .i64 0]:=by unfold AJ;rw[hg,if_pos rfl]
  simp (maxSteps:=400000) only[↓aA,aB,BEq.rfl,seval,hQ,hlt,hres]
def mW:d9:=λargs objs K=>match args with
 | [a0,a1]=>gD aT a0 (HK.mk:HK λp=>gD aj a1 (HK.mk:HK λv=>(Rt v)∧(v.length≤1000000)∧(p.length≤1000000)∧(∀x∈p,0≤x.n)∧K (.bY [aj (eX p v).1,.int .i64 (eX p v).2]) objs 0))
 | _=>False
theorem og:aR Tryz.prog 29 (mW):=by
 intro args objs K h
 unfold mW at h
 split at h
 ·rename_i a0 a1
  obtain⟨p,rfl,v,rfl,h1,h2,h3,h4,hk⟩:=h
  exact⟨_,_,_,.pure _ rfl ((Yy p v h1 h2 h3 h4).res (M5 p v)),hk⟩
 ·exact h.elim
end Lp
namespace Lp
open Go Go.Proofs
theorem V4{a c:PV}(h1:fG a c):∀(i:Nat) (p q:PV),[a][i]?=some p→[c][i]?=some q→fG p q:=λi p q hp hq=>by
 match i with
 | 0=>cases hp;cases hq;exact h1
 | _+1=>simp at hp
theorem M6(l:List Vl)(hl:l.length≤1000000)(hb:l.flatten.length≤1000000):av Tryz.prog 53 [bT l] [] (.aS 0 0) [wT (eu l) 0]:=by
 refine Rk.Ej (T:=bA Tryz.prog [(81,yu)]) 1 hD (ay (af Ma au)) bE λQ hQ=>?_
 (conv=>arg 4;cbv);simp (maxSteps:=400000) only[↓aA,aB,BEq.rfl,seval,hQ,↓yu,ZK,ZL]
 exact⟨hl,hb,by omega,by omega,I4 (k:=0) (ver:=2) rfl rfl rfl rfl (congrArg (λo:Obj=>{ o with ver:=0 }) (qC 1 1 _ 46 6 (eu l) 2)) (yw _ 0)⟩
def j6:d9:=λargs objs K=>match args with
 | [x]=>sQ aj 1 x objs (HK.mk:HK λl=>l.length≤1000000∧l.flatten.length≤1000000∧K (.aS objs.length 0) (objs++[wT (eu l) 0]) 2)
 | _=>False
theorem xI:aR Tryz.prog 53 j6:=by
 intro args objs K h
 unfold j6 at h
 split at h
 ·obtain⟨l,a',l1,t1,h1,h2,h3⟩:=iV BS h
  exact⟨_,_,_,.FX 0 _ [a'] ⟨l1,trivial⟩ (qB _ _) ((M6 l h1 h2).arg rfl (V4 t1)),h3⟩
 ·exact h.elim
theorem aeJ(a b:Vl):(aj a).putCells 0 [aj b]=aj b:=rfl
theorem adZ(l:List Vl)(i:Nat)(y:Vl):(l.map aj).set i (aj y)=(l.set i y).map aj:=List.map_set.symm
def JA(p:List Stp)(v x:Vl):PV:=if (iW p v x).2=0 then .bY [aj (iW p v x).1,.int .i64 0] else .bY [.sl 0 [] (some true),.int .i64 (iW p v x).2]
theorem Ig(p:List Stp)(v x:Vl):fG (JA p v x) (.bY [aj (iW p v x).1,.int .i64 (iW p v x).2]):=by
 unfold JA
 split
 ·rename_i h;rw[h];exact .refl _
 ·rename_i h;rw[Yr p v x h];exact Dm (.inr rfl) (gF 0 6) (.refl _)
structure KO (p:List Stp) (v x:Vl):Prop where
 rt:Rt v
 len:v.length≤50000
 nm:Nm v
 xrt:Rt x
 aco:x.length≤50000
 xnm:Nm x
 ze:∀s∈p,bK s=true
 ad1:p.length≤1000000
def yK(p:List Stp):d9:=λargs objs K=>match args with
 | [a,b,c]=>a=aT p∧gD aj b (HK.mk:HK λw=>gD aj c (HK.mk:HK λx=>KO p w x∧K (.bY [aj (iW p w x).1,.int .i64 (iW p w x).2]) objs 0))
 | _=>False
theorem Qb:∀(p:List Stp) (v x:Vl),KO p v x→av Tryz.prog 28 [aT p,aj v,aj x] [] (JA p v x) []
 | [],v,x,h=>by
  refine Hg.jS (T:=bA Tryz.prog []) 0 hD (ay au) bE (by decide) (by decide) λQ hQ=>?_
  have hres:JA [] v x=.bY [aj x,.int .i64 0]:=rfl
  have c00:((0:Nat):Int)=0:=rfl
  (conv=>arg 4;cbv);simp (maxSteps:=400000) only[↓aA,aB,BEq.rfl,seval,hQ,List.length_nil,c00,hres]
 | s::p,v,x,h=>by
  have hok:aR Tryz.prog 28 (yK p):=by
   intro args objs K h
   unfold yK at h
   split at h
   ·obtain⟨rfl,w,rfl,y,rfl,h1,hk⟩:=h
    exact⟨_,_,_,.pure _ rfl ((Qb p w y h1).res (Ig p w y)),hk⟩
   ·exact h.elim
  refine Hg.jS (T:=bA Tryz.prog [(50,zR),(28,yK p),(51,nV),(52,iG),(53,j6)]) 1 hD (ay (af Qa (af hok (af zN (af uX (af xI au)))))) bE (by decide) (by decide) λQ hQ=>?_
  have hpn:(((s::p).length:Int)=0)=False:=eq_false (by simp only[List.length_cons];omega)
  have hgs:(s::p)[0]?=some s:=rfl
  have hdr:(s::p).drop 1=p:=rfl
  have hwl:1≤(s::p).length:=by simp
  have acp:(1:Int)≤((s::p).length:Int):=by simp only[List.length_cons];omega
  have hrs:=h.ze s (by simp)
  have hxr:0≤s.n:=by
   unfold bK at hrs
   cases hp:s.part<;>rw[hp]at hrs<;>simp at hrs<;>omega
  have hlen:=h.len
  by_cases h0:(bF v s).2=0
  rotate_left 1
  ·have h0':=eq_false h0
   have hres:JA (s::p) v x=.bY [.sl 0 [] (some true),.int .i64 (bF v s).2]:=by simp[JA,iW,h0]
   generalize hsp:s::p=w at *
   (conv=>arg 4;cbv);simp (maxSteps:=400000) only[↓aA,aB,BEq.rfl,seval,hQ,hpn,hgs,↓zR,nu,h0',hres]
   exact⟨h.rt,by omega,hxr⟩
  have h0':=eq_true h0
  obtain⟨a1,a2,a3⟩:=Cs h.rt h.nm h0
  have hso:KO p (bF v s).1 x:=⟨a1,by omega,a3,h.xrt,h.aco,h.xnm,λs' hs=>h.ze s' (List.mem_cons_of_mem _ hs),by have:=h.ad1;simp only[List.length_cons]at this;omega⟩
  by_cases h1:(iW p (bF v s).1 x).2=0
  rotate_left 1
  ·have h1':=eq_false h1
   have hres:JA (s::p) v x=.bY [.sl 0 [] (some true),.int .i64 (iW p (bF v s).1 x).2]:=by simp[JA,iW,h0,h1]
   generalize hsp:s::p=w at *
   (conv=>arg 4;cbv);simp (maxSteps:=400000) only[↓aA,aB,BEq.rfl,seval,hQ,hpn,hgs,hdr,List.take_length,↓zR,↓yK,nu,h0',h1',hres]
   exact⟨h.rt,by omega,hxr,acp,Int.le_refl _,hso⟩
  have h1':=eq_true h1
  obtain⟨b1,b2,b3⟩:=Fu p _ x a1 a3 hso.ze h.xrt h.xnm h1
  have hyl:(iW p (bF v s).1 x).1.length≤100000:=by have:=h.aco;omega
  have hres:JA (s::p) v x=.bY [aj (qO v s (iW p (bF v s).1 x).1),.int .i64 0]:=by simp[JA,iW,h0,h1]
  generalize hye:(iW p (bF v s).1 x).1=y at *
  generalize hsp:s::p=w at *
  cases hp:s.part with
  | false=>
   have hpu:qO v s y=gT v s.name y:=by simp[qO,hp]
   have hu:utf s.name=true:=by
    unfold bK at hrs
    simp only[hp,Bool.false_eq_true,if_false,Bool.and_eq_true]at hrs
    exact hrs.2
   have hk:aN v=6:=by
    unfold bF at h0
    simp only[hp,Bool.false_eq_true,if_false]at h0
    by_cases hk:aN v=6
    ·exact hk
    ·rw[if_neg hk]at h0;cases h0
   (conv=>arg 4;cbv);simp (maxSteps:=400000) only[↓aA,aB,BEq.rfl,seval,hQ,hpn,hgs,hdr,List.take_length,hp,↓zR,↓yK,↓nV,nu,h0',h1',hres,hpu,hye]
   exact⟨h.rt,by omega,hxr,acp,Int.le_refl _,hso,h.rt,hk,by omega,hu,b1,hyl⟩
  | true=>
   have hpu:qO v s y=eu ((ax v).set s.n.toNat y):=by simp[qO,hp]
   have hk:aN v=5∧s.n.toNat<(ax v).length:=by
    unfold bF at h0
    simp only[hp,if_true]at h0
    by_cases hk:aN v=5
    ·rw[if_pos hk]at h0
     cases hg:(ax v)[s.n.toNat]? with
     | none=>rw[hg]at h0;cases h0
     | some w=>exact⟨hk,(List.getElem?_eq_some_iff.1 hg).1⟩
    ·rw[if_neg hk]at h0;cases h0
   have zn:(0≤s.n)=True:=eq_true hxr
   have hgn:=List.getElem?_eq_getElem hk.2
   obtain⟨q1,_,q3,_⟩:=bD h.rt
   have hfl:=Cu hgn y
   generalize (ax v)[s.n.toNat]=w0 at hgn hfl
   (conv=>arg 4;cbv);simp (maxSteps:=400000) only[↓aA,aB,BEq.rfl,seval,hQ,hpn,hgs,hdr,List.take_length,hp,↓zR,↓yK,↓iG,nu,h0',h1',hres,hpu,hye,zn,hgn,yZ,aeJ,adZ,↓j6,Mc,GR]
   have hxl:=h.aco
   exact⟨h.rt,by omega,acp,Int.le_refl _,hso,h.rt,by omega,by omega,by rw[List.length_set];omega,by omega,by rw[sU (by rfl)]⟩
def o8:d9:=λargs objs K=>match args with
 | [a0,a1,a2]=>gD aT a0 (HK.mk:HK λp=>gD aj a1 (HK.mk:HK λv=>gD aj a2 (HK.mk:HK λx=>(KO p v x)∧K (.bY [aj (iW p v x).1,.int .i64 (iW p v x).2]) objs 0)))
 | _=>False
theorem oh:aR Tryz.prog 28 (o8):=by
 intro args objs K h
 unfold o8 at h
 split at h
 ·rename_i a0 a1 a2
  obtain⟨p,rfl,v,rfl,x,rfl,h1,hk⟩:=h
  exact⟨_,_,_,.pure _ rfl ((Qb p v x h1).res (Ig p v x)),hk⟩
 ·exact h.elim
end Lp
namespace Lp
open Go Go.Proofs
structure ESz (e:Ed):Prop where
 ze:PSz e.p
 val:Small e.v
theorem jE(x:Ed):fA 1 0 [⟨38,3,[kQ x],true,1⟩] (.bf 0 1 0 0)=.addr (kQ x):=rfl
theorem M7(e:Ed)(he:ESz e):av Tryz.prog 27 [kQ e] [] (.bool (dM e)) []:=by
 obtain⟨hp,hv⟩:=he
 refine Ho.bR (T:=bA Tryz.prog [(48,eH),(49,lY)]) 0 hD (ay (af ET (af G5 au))) bE (by decide) λQ hQ=>?_
 (conv=>arg 4;cbv);simp (maxSteps:=400000) only[↓aA,aB,BEq.rfl,seval,hQ]
 refine bg _ (Weak.freeze 1 0 (Nat.zero_le _) _) ?_
 cases hr:o7 e.p with
 | false=>
  have h:dM e=false:=by simp[dM,hr]
  simp (maxSteps:=400000) only[↓aA,aB,BEq.rfl,seval,hQ,jE,↓eH,hr,h]
  exact hp
 | true=>
  rcases tf ((e.p.length:Int)=0) with h0 | h0
  ·have hp0:e.p=[]:=List.length_eq_zero_iff.1 (by have:=of_eq_true h0;omega)
   rcases tf (e.kind=0) with k0 | k0
   ·have h:dM e=bX e.v:=by simp[dM,hr,of_eq_true k0]
    simp (maxSteps:=400000) only[↓aA,aB,BEq.rfl,seval,hQ,jE,↓eH,↓lY,hr,h0,k0,h]
    exact⟨hp,hv⟩
   ·have h:dM e=false:=by simp[dM,hr,hp0,of_eq_false k0]
    simp (maxSteps:=400000) only[↓aA,aB,BEq.rfl,seval,hQ,jE,↓eH,hr,h0,k0,h]
    exact hp
  ·have hp0:e.p≠[]:=λh=>by have:=of_eq_false h0;rw[h]at this;exact this rfl
   rcases tf (e.kind=0) with k0 | k0
   ·have h:dM e=bX e.v:=by simp[dM,hr,of_eq_true k0]
    simp (maxSteps:=400000) only[↓aA,aB,BEq.rfl,seval,hQ,jE,↓eH,↓lY,hr,h0,k0,h]
    exact⟨hp,hv⟩
   rcases tf (e.kind=1) with k1 | k1
   ·have h:dM e=bX e.v:=by simp[dM,hr,hp0,of_eq_true k1]
    simp (maxSteps:=400000) only[↓aA,aB,BEq.rfl,seval,hQ,jE,↓eH,↓lY,hr,h0,k0,k1,h]
    exact⟨hp,hv⟩
   rcases tf (e.kind=2) with k2 | k2
   ·have h:dM e=decide ((e.v.length:Int)=0):=by
      have:decide (e.v=[])=decide ((e.v.length:Int)=0):=by
       congr 1
       exact propext ⟨λh=>by rw[h];rfl,λh=>List.length_eq_zero_iff.1 (by omega)⟩
      rw[←this]
      simp[dM,hr,hp0,of_eq_true k2]
    simp (maxSteps:=400000) only[↓aA,aB,BEq.rfl,seval,hQ,jE,↓eH,hr,h0,k0,k1,k2,h]
    exact hp
   ·have h:dM e=false:=by simp[dM,hr,hp0,of_eq_false k0,of_eq_false k1,of_eq_false k2]
    simp (maxSteps:=400000) only[↓aA,aB,BEq.rfl,seval,hQ,jE,↓eH,hr,h0,k0,k1,k2,h]
    exact hp
def dG:d9:=λargs objs K=>match args with
 | [a0]=>gD kQ a0 (HK.mk:HK λe=>(ESz e)∧K (.bool (dM e)) objs 0)
 | _=>False
theorem gZ:aR Tryz.prog 27 (dG):=by
 intro args objs K h
 unfold dG at h
 split at h
 ·rename_i a0
  obtain⟨e,rfl,h1,hk⟩:=h
  exact⟨_,_,_,.pure _ rfl (M7 e h1),hk⟩
 ·exact h.elim
def mX(r:Vl×Int):PV:=if r.2=0 then .bY [aj r.1,.int .i64 0] else .bY [.sl 0 [] (some true),.int .i64 r.2]
theorem AL(r:Vl×Int)(h:¬ r.2=0→r.1=[]):fG (mX r) (.bY [aj r.1,.int .i64 r.2]):=by
 unfold mX
 split
 ·rename_i h0;rw[h0];exact .refl _
 ·rename_i h0;rw[h h0];exact Dm (.inr rfl) (gF 0 6) (.refl _)
theorem SQ{w:Vl}{nm:List UInt8}{e:Ed}(h:¬ (fu w nm e).2=0):(fu w nm e).1=[]:=by
 revert h
 unfold fu
 split
 ·split<;>split<;>simp
 ·simp
theorem V5{w:Vl}{n:Nat}{e:Ed}(h:¬ (jf w n e).2=0):(jf w n e).1=[]:=by
 revert h
 unfold jf
 split
 ·split<;>split<;>simp
 ·simp
structure Yz (w:Vl) (e:Ed):Prop where
 rt:Rt w
 len:w.length≤100000
 vrt:e.kind=1→Rt e.v∧e.v.length≤100000
theorem Qc(w:Vl)(nm:List UInt8)(e:Ed)(h:Yz w e)(hu:utf nm=true):av Tryz.prog 31 [aj w,.str nm,kQ e] [] (mX (fu w nm e)) []:=by
 obtain⟨hr,hl,hv⟩:=h
 refine Mw.jS (T:=bA Tryz.prog [(56,fH),(51,nV),(57,nU)]) 0 hD (ay (af wV (af zN (af zM au)))) bE (by decide) (by decide) λQ hQ=>?_
 obtain⟨n,r,hw,_⟩:=bS hr.name hr.one.ne
 have hw0:w[0]?=some n:=by rw[hw];rfl
 have hkd:aN w=n.kind:=by rw[hw];rfl
 (conv=>arg 4;cbv);simp (maxSteps:=400000) only[↓aA,aB,BEq.rfl,seval,hQ]
 refine bg _ (Weak.freeze 1 0 (Nat.zero_le _) _) ?_
 rcases tf (n.kind=6) with k | k
 rotate_left 1
 ·have hres:mX (fu w nm e)=.bY [.sl 0 [] (some true),.int .i64 5]:=by simp[mX,fu,hkd,of_eq_false k]
  simp (maxSteps:=400000) only[↓aA,aB,BEq.rfl,seval,hQ,jE,hw0,k,hres]
 have Rs:aN w=6:=by rw[hkd];exact of_eq_true k
 have YX:w.length≤1000000:=by omega
 rcases tf (e.kind=1) with k1 | k1
 ·obtain⟨v1,v2⟩:=hv (of_eq_true k1)
  cases hh:eY w nm with
  | true=>
   have hres:mX (fu w nm e)=.bY [.sl 0 [] (some true),.int .i64 4]:=by simp[mX,fu,Rs,of_eq_true k1,hh]
   simp (maxSteps:=400000) only[↓aA,aB,BEq.rfl,seval,hQ,jE,hw0,k,k1,↓fH,nu,hh,hres]
   exact⟨hr,YX⟩
  | false=>
   have hres:mX (fu w nm e)=.bY [aj (gT w nm e.v),.int .i64 0]:=by simp[mX,fu,Rs,of_eq_true k1,hh]
   simp (maxSteps:=400000) only[↓aA,aB,BEq.rfl,seval,hQ,jE,hw0,k,k1,↓fH,↓nV,nu,hh,hres]
   exact⟨hr,YX,hr,Rs,hl,hu,v1,v2⟩
 ·cases hh:eY w nm with
  | true=>
   have hres:mX (fu w nm e)=.bY [aj (dm w nm),.int .i64 0]:=by simp[mX,fu,Rs,of_eq_false k1,hh]
   simp (maxSteps:=400000) only[↓aA,aB,BEq.rfl,seval,hQ,jE,hw0,k,k1,↓fH,↓nU,nu,hh,hres]
   exact⟨hr,YX,hr,Rs,YX⟩
  | false=>
   have hres:mX (fu w nm e)=.bY [.sl 0 [] (some true),.int .i64 6]:=by simp[mX,fu,Rs,of_eq_false k1,hh]
   simp (maxSteps:=400000) only[↓aA,aB,BEq.rfl,seval,hQ,jE,hw0,k,k1,↓fH,nu,hh,hres]
   exact⟨hr,YX⟩
def iJ:d9:=λargs objs K=>match args with
 | [a0,.str nm,a2]=>gD aj a0 (HK.mk:HK λw=>gD kQ a2 (HK.mk:HK λe=>(Yz w e)∧(utf nm=true)∧K (.bY [aj (fu w nm e).1,.int .i64 (fu w nm e).2]) objs 0))
 | _=>False
theorem iX:aR Tryz.prog 31 (iJ):=by
 intro args objs K h
 unfold iJ at h
 split at h
 ·rename_i a0 nm a2
  obtain⟨w,rfl,e,rfl,h1,h2,hk⟩:=h
  exact⟨_,_,_,.pure _ rfl ((Qc w nm e h1 h2).res (AL _ SQ)),hk⟩
 ·exact h.elim
theorem SS(w:Vl)(m:Nat)(e:Ed)(h:Yz w e):av Tryz.prog 30 [aj w,.int .i64 m,kQ e] [] (mX (jf w m e)) []:=by
 obtain⟨hr,hl,hv⟩:=h
 refine Pk.jS (T:=bA Tryz.prog [(52,iG),(54,yB),(55,Fv),(53,j6)]) 1 hD (ay (af uX (af He (af SL (af xI au))))) bE (by decide) (by decide) λQ hQ=>?_
 obtain⟨n,r,hw,_⟩:=bS hr.name hr.one.ne
 have hw0:w[0]?=some n:=by rw[hw];rfl
 have hkd:aN w=n.kind:=by rw[hw];rfl
 obtain⟨q1,_,q3,_⟩:=bD hr
 have YX:w.length≤1000000:=by omega
 have hfl:∀k:Nat,((ax w).take k).flatten.length+((ax w).drop k).flatten.length=(ax w).flatten.length:=λn=>by
  rw[←List.length_append,←List.flatten_append,List.take_append_drop]
 (conv=>arg 4;cbv);simp (maxSteps:=400000) only[↓aA,aB,BEq.rfl,seval,hQ]
 refine bg _ (Weak.freeze 1 0 (Nat.zero_le _) _) ?_
 rcases tf (n.kind=5) with k | k
 rotate_left 1
 ·have hres:mX (jf w m e)=.bY [.sl 0 [] (some true),.int .i64 5]:=by simp[mX,jf,hkd,of_eq_false k]
  simp (maxSteps:=400000) only[↓aA,aB,BEq.rfl,seval,hQ,jE,hw0,k,hres]
 have hk5:aN w=5:=by rw[hkd];exact of_eq_true k
 have zm:(0≤(m:Int))=True:=eq_true (by omega)
 rcases tf (e.kind=1) with k1 | k1
 ·obtain⟨v1,v2⟩:=hv (of_eq_true k1)
  rcases tf (((ax w).length:Int)<m) with hlt | hlt
  ·have hlt':=of_eq_true hlt
   have hres:mX (jf w m e)=.bY [.sl 0 [] (some true),.int .i64 4]:=by
    unfold mX jf;simp only[if_pos hk5,if_pos (of_eq_true k1),if_pos (show (ax w).length<m by omega)];rfl
   simp (maxSteps:=400000) only[↓aA,aB,BEq.rfl,seval,hQ,jE,hw0,k,k1,↓iG,yZ,hlt,hres]
   exact⟨hr,YX⟩
  ·have hlt':=of_eq_false hlt
   have hres:mX (jf w m e)=.bY [aj (eu ((ax w).take m++[e.v]++(ax w).drop m)),.int .i64 0]:=by
    unfold mX jf;simp only[if_pos hk5,if_pos (of_eq_true k1),if_neg (show ¬ (ax w).length<m by omega)];rfl
   simp (maxSteps:=400000) only[↓aA,aB,BEq.rfl,seval,hQ,jE,hw0,k,k1,↓iG,↓yB,yZ,hlt,zm,Mc,GR,acd,↓j6,hres]
   refine⟨hr,YX,e.v,rfl,by omega,by omega,by rw[List.length_take,List.length_drop];omega,?_,by rw[sU (by rfl)]⟩
   have:=hfl m
   simp only[List.flatten_append,List.length_append,List.flatten_cons,List.flatten_nil,List.length_nil]
   omega
 ·rcases tf (((ax w).length:Int)≤m) with hlt | hlt
  ·have hlt':=of_eq_true hlt
   have hres:mX (jf w m e)=.bY [.sl 0 [] (some true),.int .i64 6]:=by
    unfold mX jf;simp only[if_pos hk5,if_neg (of_eq_false k1),if_pos (show (ax w).length≤m by omega)];rfl
   simp (maxSteps:=400000) only[↓aA,aB,BEq.rfl,seval,hQ,jE,hw0,k,k1,↓iG,yZ,hlt,hres]
   exact⟨hr,YX⟩
  ·have hlt':=of_eq_false hlt
   have hres:mX (jf w m e)=.bY [aj (eu ((ax w).take m++(ax w).drop (m+1))),.int .i64 0]:=by
    unfold mX jf;simp only[if_pos hk5,if_neg (of_eq_false k1),if_neg (show ¬ (ax w).length≤m by omega)];rfl
   simp (maxSteps:=400000) only[↓aA,aB,BEq.rfl,seval,hQ,jE,hw0,k,k1,↓iG,↓Fv,yZ,hlt,zm,Mc,GR,acd,↓j6,hres]
   refine⟨hr,YX,⟨by omega,by omega⟩,by omega,by rw[List.length_take,List.length_drop];omega,?_,by rw[sU (by rfl)]⟩
   have h1:=hfl m
   have h2:=hfl (m+1)
   have h3:((ax w).drop (m+1)).flatten.length≤((ax w).drop m).flatten.length:=by
    rw[←List.drop_drop]
    cases (ax w).drop m<;>simp
   simp only[List.flatten_append,List.length_append]
   omega
def j_:d9:=λargs objs K=>match args with
 | [a0,.int .i64 m,a2]=>gD aj a0 (HK.mk:HK λw=>gD kQ a2 (HK.mk:HK λe=>(Yz w e)∧(0≤m)∧K (.bY [aj (jf w m.toNat e).1,.int .i64 (jf w m.toNat e).2]) objs 0))
 | _=>False
theorem kg:aR Tryz.prog 30 (j_):=by
 intro args objs K h
 unfold j_ at h
 split at h
 ·rename_i a0 m a2
  obtain⟨w,rfl,e,rfl,h1,h2,hk⟩:=h
  exact⟨_,_,_,.pure _ rfl ((by have:=(SS w m.toNat e h1).res (AL _ V5);rwa[Int.toNat_of_nonneg h2]at this)),hk⟩
 ·exact h.elim
end Lp
namespace Lp
open Go Go.Proofs
open List (drop_zero)
open Nat (zero_le)
structure Ey (v:Vl) (e:Ed):Prop where
 rt:Rt v
 len:v.length≤40000
 nm:Nm v
 sz:ESz e
 aeK:e.v.length≤1000
 enm:Nm e.v
theorem Ey.ok {v:Vl}{e:Ed}(h:Ey v e):aai e:=⟨h.sz.ze.txt,h.enm⟩
theorem YA{p:List Stp}(h:p≠[]):p[p.length-1]?=some (oL p):=by
 have:0<p.length:=List.length_pos_iff.2 h
 unfold oL
 rw[List.getElem?_eq_getElem (by omega)];rfl
theorem Qd{s:Stp}(h:bK s=true):0≤s.n:=by
 unfold bK at h
 cases hp:s.part<;>rw[hp]at h<;>simp at h<;>omega
theorem aal{r:Vl×Int}{k:Int}(h1:r.1=[])(h2:r.2=k):fG (.bY [.sl 0 [] (some true),.int .i64 k]) (.bY [aj r.1,.int .i64 r.2]):=by
 rw[h1,h2];exact Dm (.inr rfl) (gF 0 6) (.refl _)
theorem Qe(v:Vl)(e:Ed)(h:Ey v e):av Tryz.prog 17 [aj v,kQ e] [] (.bY [aj (fZ v e).1,.int .i64 (fZ v e).2]) []:=by
 have hsz:=h.sz
 have hvl:=h.len
 have hel:=h.aeK
 cases hre:dM e with
 | false=>
  have hone:fZ v e=([],4):=by rw[fZ,hre];rfl
  refine av.res (r:=.bY [.sl 0 [] (some true),.int .i64 4]) ?_ (by rw[hone];exact aal rfl rfl)
  refine lJ.jS (T:=bA Tryz.prog [(27,dG),(28,o8),(29,mW),(30,j_),(31,iJ)]) 0 hD (ay (af gZ (af oh (af og (af kg (af iX au)))))) bE (by decide) (by decide) λQ hQ=>?_
  (conv=>arg 4;cbv);simp (maxSteps:=400000) only[↓aA,aB,BEq.rfl,seval,hQ]
  refine bg _ (Weak.freeze 1 0 (zero_le _) _) ?_
  simp (maxSteps:=400000) only[↓aA,aB,BEq.rfl,seval,hQ,jE,↓dG,hre,VZ]
  exact hsz
 | true=>
 obtain⟨r1,r2,r3,r4,r5,r6⟩:=pR hre
 rcases tf (e.kind=0) with k0 | k0
 ·have hone:fZ v e=iW e.p v e.v:=by rw[fZ,hre];simp[of_eq_true k0]
  have hso:KO e.p v e.v:=⟨h.rt,by omega,h.nm,r4 (by have:=of_eq_true k0;omega),by omega,h.enm,r1,by omega⟩
  rw[hone]
  refine lJ.jS (T:=bA Tryz.prog [(27,dG),(28,o8),(29,mW),(30,j_),(31,iJ)]) 0 hD (ay (af gZ (af oh (af og (af kg (af iX au)))))) bE (by decide) (by decide) λQ hQ=>?_
  (conv=>arg 4;cbv);simp (maxSteps:=400000) only[↓aA,aB,BEq.rfl,seval,hQ]
  refine bg _ (Weak.freeze 1 0 (zero_le _) _) ?_
  simp (maxSteps:=400000) only[↓aA,aB,BEq.rfl,seval,hQ,jE,↓dG,↓o8,nu,hre,k0,VZ]
  exact⟨hsz,hso⟩
 have k0':=of_eq_false k0
 have hpn:=r6 k0'
 have hls:=KM hpn
 have hla:=YA hpn
 have hpl:0<e.p.length:=List.length_pos_iff.2 hpn
 have hrl:=r1 _ hls
 have hnl:=Qd hrl
 obtain⟨L,hL⟩:∃L:Nat,L+1=e.p.length:=⟨e.p.length-1,by omega⟩
 have hone:fZ v e=Yq (e.p.take L) v λw=>nk w (oL e.p) e:=by rw[fZ,hre,←hL];simp[k0']
 have z1:(e.p.length:Int)-1=(L:Int):=by omega
 have zL:(0≤(L:Int))=True:=eq_true (by omega)
 have zL2:((L:Int)≤(e.p.length:Int))=True:=eq_true (by omega)
 have hla:e.p[L]?=some (oL e.p):=by rw[←hla,←hL];rfl
 have hsn:=h.sz.ze.txt _ hls
 generalize oL e.p=s at *
 have hqr:∀x∈e.p.take L,bK x=true:=λx hx=>r1 x (List.mem_of_mem_take hx)
 have hqn:∀x∈e.p.take L,0≤x.n:=λx hx=>Qd (hqr x hx)
 have JI:(e.p.take L).length≤1000000:=by rw[List.length_take];omega
 have hb:-9223372036854775808≤(L:Int)∧(L:Int)≤9223372036854775807:=⟨by omega,by omega⟩
 by_cases h2:(eX (e.p.take L) v).2=0
 rotate_left 1
 ·have Cx:fZ v e=([],(eX (e.p.take L) v).2):=by rw[hone,Yq,if_neg h2]
  refine av.res (r:=.bY [.sl 0 [] (some true),.int .i64 (eX (e.p.take L) v).2]) ?_ (by rw[Cx];exact aal rfl rfl)
  have h2':=eq_false h2
  refine lJ.jS (T:=bA Tryz.prog [(27,dG),(28,o8),(29,mW),(30,j_),(31,iJ)]) 0 hD (ay (af gZ (af oh (af og (af kg (af iX au)))))) bE (by decide) (by decide) λQ hQ=>?_
  (conv=>arg 4;cbv);simp (maxSteps:=400000) only[↓aA,aB,BEq.rfl,seval,hQ]
  refine bg _ (Weak.freeze 1 0 (zero_le _) _) ?_
  simp (maxSteps:=400000) only[↓aA,aB,BEq.rfl,seval,hQ,jE,↓dG,↓mW,nu,hre,k0,VZ,z1,zL,zL2,drop_zero,h2']
  exact⟨hsz,hb,h.rt,by omega,JI,hqn⟩
 have h2':=eq_true h2
 obtain⟨g1,g2,g3⟩:=MS _ v h.rt h.nm h2
 have hin:Yz (eX (e.p.take L) v).1 e:=⟨g1,by omega,λk1=>⟨r4 (by omega),by omega⟩⟩
 have hinr:(nk (eX (e.p.take L) v).1 s e).2=0→KO (e.p.take L) v (nk (eX (e.p.take L) v).1 s e).1:=λh3=>by
  obtain⟨i1,i2,i3⟩:=Uc (e:=e) g1 g3 hrl hsn (λh1=>⟨r4 (by omega),h.enm⟩) h3
  exact⟨h.rt,by omega,h.nm,i1,by omega,i3,hqr,JI⟩
 cases hp:s.part with
 | true=>
  have e1:nk (eX (e.p.take L) v).1 s e=jf (eX (e.p.take L) v).1 s.n.toNat e:=by rw[nk,hp];rfl
  rw[e1]at hinr
  by_cases h3:(jf (eX (e.p.take L) v).1 s.n.toNat e).2=0
  ·have h3':=eq_true h3
   have Cx:fZ v e=iW (e.p.take L) v (jf (eX (e.p.take L) v).1 s.n.toNat e).1:=by rw[hone,Yq,if_pos h2];simp only[e1];rw[if_pos h3]
   rw[Cx]
   refine lJ.jS (T:=bA Tryz.prog [(27,dG),(28,o8),(29,mW),(30,j_),(31,iJ)]) 0 hD (ay (af gZ (af oh (af og (af kg (af iX au)))))) bE (by decide) (by decide) λQ hQ=>?_
   (conv=>arg 4;cbv);simp (maxSteps:=400000) only[↓aA,aB,BEq.rfl,seval,hQ]
   refine bg _ (Weak.freeze 1 0 (zero_le _) _) ?_
   simp (maxSteps:=400000) only[↓aA,aB,BEq.rfl,seval,hQ,jE,↓dG,↓mW,nu,hre,k0,VZ,z1,zL,zL2,drop_zero,h2',hla,PD,DT,etS]
   refine⟨hsz,hb,h.rt,by omega,JI,hqn,bg _ (Weak.freeze 1 0 (zero_le _) _) ?_⟩
   simp (maxSteps:=400000) only[↓aA,aB,BEq.rfl,seval,hQ,mV,↓j_,↓o8,nu,hp,h3',zL,zL2,drop_zero,VZ]
   exact⟨hin,hnl,hinr h3⟩
  ·have h3':=eq_false h3
   have Cx:fZ v e=([],(jf (eX (e.p.take L) v).1 s.n.toNat e).2):=by rw[hone,Yq,if_pos h2];simp only[e1];rw[if_neg h3]
   refine av.res (r:=.bY [.sl 0 [] (some true),.int .i64 (jf (eX (e.p.take L) v).1 s.n.toNat e).2]) ?_ (by rw[Cx];exact aal rfl rfl)
   refine lJ.jS (T:=bA Tryz.prog [(27,dG),(28,o8),(29,mW),(30,j_),(31,iJ)]) 0 hD (ay (af gZ (af oh (af og (af kg (af iX au)))))) bE (by decide) (by decide) λQ hQ=>?_
   (conv=>arg 4;cbv);simp (maxSteps:=400000) only[↓aA,aB,BEq.rfl,seval,hQ]
   refine bg _ (Weak.freeze 1 0 (zero_le _) _) ?_
   simp (maxSteps:=400000) only[↓aA,aB,BEq.rfl,seval,hQ,jE,↓dG,↓mW,nu,hre,k0,VZ,z1,zL,zL2,drop_zero,h2',hla,PD,DT,etS]
   refine⟨hsz,hb,h.rt,by omega,JI,hqn,bg _ (Weak.freeze 1 0 (zero_le _) _) ?_⟩
   simp (maxSteps:=400000) only[↓aA,aB,BEq.rfl,seval,hQ,mV,↓j_,nu,hp,h3',VZ]
   exact⟨hin,hnl⟩
 | false=>
  have e1:nk (eX (e.p.take L) v).1 s e=fu (eX (e.p.take L) v).1 s.name e:=by rw[nk,hp];rfl
  rw[e1]at hinr
  have hu:utf s.name=true:=by
   unfold bK at hrl
   simp only[hp,Bool.false_eq_true,if_false,Bool.and_eq_true]at hrl
   exact hrl.2
  by_cases h3:(fu (eX (e.p.take L) v).1 s.name e).2=0
  ·have h3':=eq_true h3
   have Cx:fZ v e=iW (e.p.take L) v (fu (eX (e.p.take L) v).1 s.name e).1:=by rw[hone,Yq,if_pos h2];simp only[e1];rw[if_pos h3]
   rw[Cx]
   refine lJ.jS (T:=bA Tryz.prog [(27,dG),(28,o8),(29,mW),(30,j_),(31,iJ)]) 0 hD (ay (af gZ (af oh (af og (af kg (af iX au)))))) bE (by decide) (by decide) λQ hQ=>?_
   (conv=>arg 4;cbv);simp (maxSteps:=400000) only[↓aA,aB,BEq.rfl,seval,hQ]
   refine bg _ (Weak.freeze 1 0 (zero_le _) _) ?_
   simp (maxSteps:=400000) only[↓aA,aB,BEq.rfl,seval,hQ,jE,↓dG,↓mW,nu,hre,k0,VZ,z1,zL,zL2,drop_zero,h2',hla,PD,DT,etS]
   refine⟨hsz,hb,h.rt,by omega,JI,hqn,bg _ (Weak.freeze 1 0 (zero_le _) _) ?_⟩
   simp (maxSteps:=400000) only[↓aA,aB,BEq.rfl,seval,hQ,mV,↓iJ,↓o8,nu,hp,h3',zL,zL2,drop_zero,VZ]
   exact⟨hin,hu,hinr h3⟩
  ·have h3':=eq_false h3
   have Cx:fZ v e=([],(fu (eX (e.p.take L) v).1 s.name e).2):=by rw[hone,Yq,if_pos h2];simp only[e1];rw[if_neg h3]
   refine av.res (r:=.bY [.sl 0 [] (some true),.int .i64 (fu (eX (e.p.take L) v).1 s.name e).2]) ?_ (by rw[Cx];exact aal rfl rfl)
   refine lJ.jS (T:=bA Tryz.prog [(27,dG),(28,o8),(29,mW),(30,j_),(31,iJ)]) 0 hD (ay (af gZ (af oh (af og (af kg (af iX au)))))) bE (by decide) (by decide) λQ hQ=>?_
   (conv=>arg 4;cbv);simp (maxSteps:=400000) only[↓aA,aB,BEq.rfl,seval,hQ]
   refine bg _ (Weak.freeze 1 0 (zero_le _) _) ?_
   simp (maxSteps:=400000) only[↓aA,aB,BEq.rfl,seval,hQ,jE,↓dG,↓mW,nu,hre,k0,VZ,z1,zL,zL2,drop_zero,h2',hla,PD,DT,etS]
   refine⟨hsz,hb,h.rt,by omega,JI,hqn,bg _ (Weak.freeze 1 0 (zero_le _) _) ?_⟩
   simp (maxSteps:=400000) only[↓aA,aB,BEq.rfl,seval,hQ,mV,↓iJ,nu,hp,h3',VZ]
   exact⟨hin,hu⟩
def Ih:d9:=λargs objs K=>match args with
 | [a0,a1]=>gD aj a0 (HK.mk:HK λv=>gD kQ a1 (HK.mk:HK λe=>(Ey v e)∧K (.bY [aj (fZ v e).1,.int .i64 (fZ v e).2]) objs 0))
 | _=>False
theorem V6:aR Tryz.prog 17 (Ih):=by
 intro args objs K h
 unfold Ih at h
 split at h
 ·rename_i a0 a1
  obtain⟨v,rfl,e,rfl,h1,hk⟩:=h
  exact⟨_,_,_,.pure _ rfl (Qe v e h1),hk⟩
 ·exact h.elim
structure zS (v:Vl) (l:List Ed):Prop where
 rt:Rt v
 nm:Nm v
 len:v.length+(l.map λe=>e.v.length).sum≤40000
 all:∀e∈l,ESz e∧e.v.length≤1000∧Nm e.v
 acr:l.length≤1000000
theorem zS.one {v:Vl}{e:Ed}{l:List Ed}(h:zS v (e::l)):Ey v e:=
 ⟨h.rt,by have:=h.len;rw[List.map_cons,List.sum_cons]at this;omega,h.nm,(h.all e (by simp)).1,(h.all e (by simp)).2.1,(h.all e (by simp)).2.2⟩
theorem zS.next {v:Vl}{e:Ed}{l:List Ed}(h:zS v (e::l))(h0:(fZ v e).2=0):zS (fZ v e).1 l:=by
 obtain⟨a1,a2,a3⟩:=Ud h.rt h.nm h.one.ok h0
 have:=h.len
 rw[List.map_cons,List.sum_cons]at this
 exact⟨a1,a3,by omega,λe' he=>h.all e' (List.mem_cons_of_mem _ he),by have:=h.acr;rw[List.length_cons]at this;omega⟩
theorem ad2:PV.vM (.agg ⟨[.int .i64 0,.slice none 0 0,.slice none 0 0]⟩)=.agg [.int .i64 0,.sl 0 [] (some true),.sl 0 [] (some true)]:=rfl
theorem ad3(a b c x y z:PV):(PV.agg [a,b,c]).putCells 0 [x,y,z]=.agg [x,y,z]:=rfl
theorem SV(v:Vl)(l:List Ed)(h:zS v l):av Tryz.prog 14 [aj v,lV l] [] (mX (f_ v l)) []:=by
 refine Mx.jS (T:=bA Tryz.prog [(17,Ih)]) 0 hD (ay (af V6 au)) bE (by decide) (by decide) λQ hQ=>?_
 have hll:=h.acr
 (conv=>arg 4;cbv);simp (maxSteps:=400000) only[↓aA,aB,BEq.rfl,seval,hQ]
 refine aQ (hz:=zero_le _) (λm S=>∃(i:Nat) (w:Vl),i+m=l.length∧zS w (l.drop i)∧f_ v l=f_ w (l.drop i)∧S=⟨dD 28 [(0,aj w),(10,lV l),(11,.int .i64 l.length),(12,.int .i64 i)],[]⟩) l.length ⟨0,v,by omega,h,rfl,?_⟩ ?_
 ·simp only[cB,keepR,Nat.reduceAdd,oO,Nat.reduceBEq,List.map_nil]
  rfl
 rintro m S ⟨i,w,him,hw,hg,rfl⟩
 have zi:(0≤(i:Int))=True:=eq_true (by omega)
 rcases Nat.lt_or_ge i l.length with h | h
 ·have hlt:((i:Int)<(l.length:Int))=True:=eq_true (by omega)
  have hgi:=List.getElem?_eq_getElem h
  rw[List.drop_eq_getElem_cons h]at hg hw
  generalize l[i]=e at hgi hg hw
  rw[f_]at hg
  by_cases he:(fZ w e).2=0
  ·have he':=eq_true he
   rw[if_pos he]at hg
   simp (maxSteps:=400000) only[↓aA,aB,BEq.rfl,seval,hQ,hlt,zi,hgi,↓Ih,nu,he',ad2,ad3,VZ]
   exact⟨hw.one,⟨by omega,by omega⟩,m-1,by omega,i+1,_,by omega,hw.next he,hg,rfl⟩
  ·have he':=eq_false he
   rw[if_neg he]at hg
   have hres:mX (f_ v l)=.bY [.sl 0 [] (some true),.int .i64 (fZ w e).2]:=by unfold mX;rw[hg,if_neg he]
   simp (maxSteps:=400000) only[↓aA,aB,BEq.rfl,seval,hQ,hlt,zi,hgi,↓Ih,nu,he',ad2,ad3,VZ,hres]
   exact hw.one
 ·have hlt:((i:Int)<(l.length:Int))=False:=eq_false (by omega)
  rw[List.drop_eq_nil_of_le h,f_]at hg
  have hres:mX (f_ v l)=.bY [aj w,.int .i64 0]:=by unfold mX;rw[hg,if_pos rfl]
  simp (maxSteps:=400000) only[↓aA,aB,BEq.rfl,seval,hQ,hlt,hres]
def Cy:d9:=λargs objs K=>match args with
 | [a0,a1]=>gD aj a0 (HK.mk:HK λv=>gD lV a1 (HK.mk:HK λl=>(zS v l)∧K (.bY [aj (f_ v l).1,.int .i64 (f_ v l).2]) objs 0))
 | _=>False
theorem Qf:aR Tryz.prog 14 (Cy):=by
 intro args objs K h
 unfold Cy at h
 split at h
 ·rename_i a0 a1
  obtain⟨v,rfl,l,rfl,h1,hk⟩:=h
  exact⟨_,_,_,.pure _ rfl ((SV v l h1).res (AL _ (PX l v))),hk⟩
 ·exact h.elim
end Lp
namespace Lp
open Go Go.Proofs
open List (mem_cons not_mem_nil)
def acs:Nd:=⟨3,0,[],[49],false,0⟩
def YC:Nd:=⟨3,0,[],[50],false,0⟩
def Qg:Nd:=⟨3,0,[],[51],false,0⟩
def ad4:Nd:=⟨5,2,[],[],false,0⟩
def zT:Vl:=[ad4,acs,YC]
def Ii:Vl:=[ad4,YC,Qg]
theorem SX:bX zT=true∧bX Ii=true∧iO zT Ii=[⟨2,[⟨true,[],0⟩],[]⟩,⟨1,[⟨true,[],1⟩],[Qg]⟩]∧f_ zT [⟨2,[⟨true,[],0⟩],[]⟩,⟨1,[⟨true,[],1⟩],[Qg]⟩]=(Ii,0)∧fZ zT ⟨2,[⟨true,[],2⟩],[]⟩=([],6):=by decide +kernel
def M8:d9:=λargs objs K=>∃v p,args=[aj v,mg 2 (aT p) (.sl 0 [] (some true))]∧Ey v ⟨2,p,[]⟩∧K (.bY [aj (fZ v ⟨2,p,[]⟩).1,.int .i64 (fZ v ⟨2,p,[]⟩).2]) objs 0
theorem SY:aR Tryz.prog 17 M8:=by
 rintro args objs K ⟨v,p,rfl,h,hk⟩
 refine⟨_,_,_,.pure _ rfl ((Qe v ⟨2,p,[]⟩ h).arg rfl λi x y hx hy=>?_),hk⟩
 match i with
 | 0=>cases hx;cases hy;exact .refl _
 | 1=>
  cases hx;cases hy
  refine .agg rfl λi x y hx hy=>?_
  match i with
  | 0=>cases hx;cases hy;exact .refl _
  | 1=>cases hx;cases hy;exact .refl _
  | 2=>cases hx;cases hy;exact gF 0 6
  | _+3=>simp at hx
 | _+2=>simp at hx
theorem ad5(v:Vl)(p:List Stp)(objs:List Obj)(K:KT):M8 [aj v,mg 2 (aT p) (.sl 0 [] (some true))] objs K=(Ey v ⟨2,p,[]⟩∧K (.bY [aj (fZ v ⟨2,p,[]⟩).1,.int .i64 (fZ v ⟨2,p,[]⟩).2]) objs 0):=by
 refine propext ⟨?_,λh=>⟨v,p,rfl,h⟩⟩
 rintro⟨v',p',he,h⟩
 simp only[mg,List.cons.injEq,PV.agg.injEq,true_and,and_true]at he
 obtain rfl:=mQ _ _ he.1
 obtain rfl:=lW _ _ he.2
 exact h
theorem zSl:(PV.vM (.agg ⟨[.bool false,.string ⟨⟨[]⟩⟩,.int .i64 0]⟩)).cells.length=3∧(PV.vM (.agg ⟨[.bool false,.string ⟨⟨[]⟩⟩,.int .i64 0]⟩)).cells.all PV.storable=true:=⟨rfl,rfl⟩
theorem YD{v:Vl}(h:Rt v)(hl:v.length≤1000000)(hn:Nm v):rE v:=⟨h,hl,λn h=>(hn n h).2⟩
theorem YE{v:Vl}(hl:v.length≤1000000)(hn:Nm v):Small v:=⟨hl,λn h=>⟨(hn n h).1,by have:=(hn n h).2;omega⟩⟩
theorem aam:Nm zT∧Nm Ii∧Nm [Qg]∧Nm []:=by
 refine⟨λn h=>?_,λn h=>?_,λn h=>?_,λn h=>by cases h⟩
 all_goals
  simp only[zT,Ii,mem_cons,not_mem_nil,or_false]at h
 ·rcases h with rfl | rfl | rfl<;>decide
 ·rcases h with rfl | rfl | rfl<;>decide
 ·subst h;decide
theorem AO:Small [Qg]∧Small []:=by
 refine⟨⟨by decide,λn h=>?_⟩,⟨by decide,λn h=>by cases h⟩⟩
 simp only[mem_cons,not_mem_nil,or_false]at h
 subst h;decide
theorem Ij(n:Int):PSz [⟨true,[],n⟩]:=⟨by simp,λs h=>by simp only[mem_cons,not_mem_nil,or_false]at h;subst h;simp⟩
theorem ad6(a b c:Nd):(fA 1 0 [⟨46,6,[aM a],true,1⟩,⟨46,6,[aM b],true,1⟩,⟨46,6,[aM c],true,1⟩] (.bf 0 1 0 0)=.addr (aM a))∧
  (fA 1 0 [⟨46,6,[aM a],true,1⟩,⟨46,6,[aM b],true,1⟩,⟨46,6,[aM c],true,1⟩] (.bf 1 1 0 0)=.addr (aM b))∧
  (fA 1 0 [⟨46,6,[aM a],true,1⟩,⟨46,6,[aM b],true,1⟩,⟨46,6,[aM c],true,1⟩] (.bf 2 1 0 0)=.addr (aM c)):=⟨rfl,rfl,rfl⟩
theorem M9:av Tryz.prog 9 [] [] (.bool true) []:=by
 refine Aq.bR (T:=bA Tryz.prog [(11,yJ),(14,Cy),(17,M8),(16,dL)]) 1 hD (ay (af Ia (af Qf (af SY (af jW au))))) bE (by decide) λQ hQ=>?_
 obtain⟨rA,rB,f1,f2,f3⟩:=SX
 have e1:(⟨3,0,[],[49],false,0⟩:Nd)=acs:=rfl
 have e2:(⟨3,0,[],[50],false,0⟩:Nd)=YC:=rfl
 have e3:(⟨3,0,[],[51],false,0⟩:Nd)=Qg:=rfl
 have eA:([⟨5,2,[],[],false,0⟩,acs,YC]:Vl)=zT:=rfl
 have eB:([⟨5,2,[],[],false,0⟩,YC,Qg]:Vl)=Ii:=rfl
 (conv=>arg 4;cbv);simp (maxSteps:=400000) only[↓aA,aB,BEq.rfl,seval,hQ,TI,TJ,e1,e2,e3]
 refine bg _ (Weak.freeze 1 0 (Nat.zero_le _) _) ?_
 simp (maxSteps:=400000) only[↓aA,aB,BEq.rfl,seval,hQ,ad6,eA,eB,↓yJ,↓Cy,↓dL,nu,f1,f2,f3,qF,ad5,zSl,ZK,ZL]
 obtain⟨nA,nB,n3,n0⟩:=aam
 have sA:=nH rA
 have sB:=nH rB
 have vA:rE zT:=YD sA (by decide) nA
 have vB:rE Ii:=YD sB (by decide) nB
 have hap:zS zT [⟨2,[⟨true,[],0⟩],[]⟩,⟨1,[⟨true,[],1⟩],[Qg]⟩]:=by
  refine⟨sA,nA,by decide,λe he=>?_,by decide⟩
  simp only[mem_cons,not_mem_nil,or_false]at he
  rcases he with rfl | rfl
  ·exact⟨⟨Ij _,AO.2⟩,by decide,n0⟩
  ·exact⟨⟨Ij _,AO.1⟩,by decide,n3⟩
 have hon:Ey zT ⟨2,[⟨true,[],2⟩],[]⟩:=⟨sA,by decide,nA,⟨Ij _,AO.2⟩,by decide,n0⟩
 exact⟨vA,vB,hap,hon,vB.len,vB.len⟩
def AP:d9:=λargs objs K=>args=[]∧K (.bool true) objs 0
theorem JB:aR Tryz.prog 9 AP:=by
 rintro args objs K ⟨rfl,hk⟩
 exact⟨_,_,_,.pure _ rfl M9,hk⟩
theorem vH(objs:List Obj)(K:KT):AP [] objs K=K (.bool true) objs 0:=propext ⟨λh=>h.2,λh=>⟨rfl,h⟩⟩
end Lp
namespace Lp
open Go Go.Proofs
structure aeL (p:List Stp):Prop where
 len:p.length≤4611686018427387904
 txt:∀s∈p,s.name.length≤4611686018427387904
end Lp
namespace Lp
open Go Go.Proofs
theorem YF(a b:Stp):Iu Tryz.prog 43 (encS a).cells (encS b).cells:=
 TF (by kernel_rfl) (by kernel_rfl) (by kernel_rfl) (by
  have h:(Tryz.prog.fieldsOf 43).toList.map (λf=>(f.name != "_",f.offset,Tryz.prog.underlying f.type))=[(true,0,some .bool),(true,1,some .string),(true,2,some (.int .i64))]:=by kernel_rfl
  generalize (Tryz.prog.fieldsOf 43).toList=fs at h
  obtain _ | ⟨f0,_ | ⟨f1,_ | ⟨f2,_ | ⟨f3,fr⟩⟩⟩⟩:=fs
  all_goals simp only[List.map_cons,List.map_nil,List.cons.injEq,Prod.mk.injEq,and_true,reduceCtorEq,and_false]at h
  obtain⟨⟨a0,b0,c0⟩,⟨a1,b1,c1⟩,⟨a2,b2,c2⟩⟩:=h
  simp only[LJ,Xx,encS,PV.cells,a0,b0,c0,a1,b1,c1,a2,b2,c2,Bool.and_true,BEq.rfl,decide_true,Nat.zero_add,Nat.reduceAdd])
theorem abj(a b:Stp):KZ (encS a).cells (encS b).cells=some (decide (a=b)):=by
 cases a;cases b
 simp only[encS,PV.cells,KZ,eqS,if_true,Bool.and_true,Stp.mk.injEq,Option.some.injEq]
 rw[Bool.eq_iff_iff]
 simp
theorem YG(ti:aD)(K:PV→Prop) :
  (∀a b,oP Tryz.prog ti 43 .eql (encS a) (encS b) K=K (.bool (decide (a=b))))∧
  (∀a b,oP Tryz.prog ti 43 .neq (encS a) (encS b) K=K (.bool (!decide (a=b)))):=by
 refine⟨λa b=>?_,λa b=>?_⟩
 ·show (Iu Tryz.prog 43 (encS a).cells (encS b).cells∧∃r,KZ (encS a).cells (encS b).cells=some r∧K (.bool r))=_
  rw[abj];simp[YF]
 ·show (Iu Tryz.prog 43 (encS a).cells (encS b).cells∧∃r,KZ (encS a).cells (encS b).cells=some r∧K (.bool (!r)))=_
  rw[abj];simp[YF]
def AQ(p q:List Stp):Bool:=(p.zip q).any λx=>!decide (x.1=x.2)
theorem acu{α β:Type}{p:List α}{q:List β}{i:Nat}{a:α}{b:β}(h1:p[i]?=some a)(h2:q[i]?=some b):(p.zip q)[i]?=some (a,b):=by
 simp[List.getElem?_zip_eq_some,h1,h2]
theorem apart_spec(p q:List Stp)(hp:p.length≤1152921504606846976)(hq:q.length≤1152921504606846976):av Tryz.prog 42 [aT p,aT q] [] (.bool (AQ p q)) []:=by
 refine Ar.bR (T:=bA Tryz.prog []) 0 hD (ay au) bE (by decide) λQ hQ=>?_
 (conv=>arg 4;cbv);simp (maxSteps:=400000) only[↓aA,aB,BEq.rfl,seval,hQ]
 refine aQ (λm S=>∃i:Nat,i+m=p.length∧((p.zip q).take i).any (λx=>!decide (x.1=x.2))=false∧S=⟨dD 27 [(0,aT p),(1,aT q),(5,.int .i64 i)],[]⟩) p.length ⟨0,by omega,by simp,?_⟩ ?_
 ·simp only[cB,keepR,Nat.reduceAdd,oO,Nat.reduceBEq,List.map_nil]
  rfl
 rintro m S ⟨i,him,hb,rfl⟩
 have zi:(0≤(i:Int))=True:=eq_true (by omega)
 have hend:p.length≤i∨q.length≤i→AQ p q=false:=λh=>by
  have:(p.zip q).take i=p.zip q:=List.take_of_length_le (by rw[List.length_zip];omega)
  rw[this]at hb
  exact hb
 rcases Nat.lt_or_ge i p.length with h | h
 rotate_left 1
 ·have hlt:((i:Int)<(p.length:Int))=False:=eq_false (by omega)
  have hr:=hend (.inl h)
  simp (maxSteps:=400000) only[↓aA,aB,BEq.rfl,seval,hQ,hlt,hr]
 have hlt:((i:Int)<(p.length:Int))=True:=eq_true (by omega)
 rcases Nat.lt_or_ge i q.length with h2 | h2
 rotate_left 1
 ·have hlt2:((i:Int)<(q.length:Int))=False:=eq_false (by omega)
  have hr:=hend (.inr h2)
  simp (maxSteps:=400000) only[↓aA,aB,BEq.rfl,seval,hQ,hlt,hlt2,hr]
 have hlt2:((i:Int)<(q.length:Int))=True:=eq_true (by omega)
 have Qz:=List.getElem?_eq_getElem h
 have hgq:=List.getElem?_eq_getElem h2
 generalize p[i]=a at Qz
 generalize q[i]=b at hgq
 have hz:=acu Qz hgq
 have htk:(p.zip q).take (i+1)=(p.zip q).take i++[(a,b)]:=by rw[List.take_add_one,hz];rfl
 rcases tf (a=b) with he | he
 ·simp (maxSteps:=400000) only[↓aA,aB,BEq.rfl,seval,hQ,hlt,hlt2,zi,Qz,hgq,YG,he]
  refine⟨⟨by omega,by omega⟩,m-1,by omega,i+1,by omega,?_,by simp⟩
  rw[htk,List.any_append,hb];simp[of_eq_true he]
 ·have hr:AQ p q=true:=List.any_eq_true.2 ⟨(a,b),List.mem_of_getElem? hz,by simp[of_eq_false he]⟩
  simp (maxSteps:=400000) only[↓aA,aB,BEq.rfl,seval,hQ,hlt,hlt2,zi,Qz,hgq,YG,he,hr]
def Cz:d9:=λargs objs K=>match args with
 | [a0,a1]=>gD aT a0 (HK.mk:HK λp=>gD aT a1 (HK.mk:HK λq=>(p.length≤1152921504606846976)∧(q.length≤1152921504606846976)∧K (.bool (AQ p q)) objs 0))
 | _=>False
theorem Qh:aR Tryz.prog 42 (Cz):=by
 intro args objs K h
 unfold Cz at h
 split at h
 ·rename_i a0 a1
  obtain⟨p,rfl,q,rfl,h1,h2,hk⟩:=h
  exact⟨_,_,_,.pure _ rfl (apart_spec p q h1 h2),hk⟩
 ·exact h.elim
theorem apart_eq:∀{p q:List Stp},p.length=q.length→(!AQ p q)=decide (p=q)
 | [],[],_=>rfl
 | [],_::_,h=>by simp at h
 | _::_,[],h=>by simp at h
 | a::p,b::q,h=>by
  have ih:=apart_eq (p:=p) (q:=q) (by simpa using h)
  have:AQ (a::p) (b::q)=(!decide (a=b) || AQ p q):=rfl
  rw[this,Bool.not_or,ih,Bool.not_not]
  by_cases h1:a=b<;>simp[h1]
theorem Qi(p q:List Stp)(hp:p.length≤1152921504606846976)(hq:q.length≤1152921504606846976):av Tryz.prog 23 [aT p,aT q] [] (.bool (decide (p=q))) []:=by
 refine Cg.bR (T:=bA Tryz.prog [(42,Cz)]) 0 hD (ay (af Qh au)) bE (by decide) λQ hQ=>?_
 rcases tf ((p.length:Int)=(q.length:Int)) with h | h
 ·have e:=apart_eq (p:=p) (q:=q) (by have:=of_eq_true h;omega)
  (conv=>arg 4;cbv);simp (maxSteps:=400000) only[↓aA,aB,BEq.rfl,seval,hQ,h,↓Cz,e]
  exact⟨hp,hq⟩
 ·have e:decide (p=q)=false:=decide_eq_false λe=>by subst e;exact of_eq_false h rfl
  (conv=>arg 4;cbv);simp (maxSteps:=400000) only[↓aA,aB,BEq.rfl,seval,hQ,h,e]
def qa:d9:=λargs objs K=>match args with
 | [a0,a1]=>gD aT a0 (HK.mk:HK λp=>gD aT a1 (HK.mk:HK λq=>(p.length≤1152921504606846976)∧(q.length≤1152921504606846976)∧K (.bool (decide (p=q))) objs 0))
 | _=>False
theorem M_:aR Tryz.prog 23 (qa):=by
 intro args objs K h
 unfold qa at h
 split at h
 ·rename_i a0 a1
  obtain⟨p,rfl,q,rfl,h1,h2,hk⟩:=h
  exact⟨_,_,_,.pure _ rfl (Qi p q h1 h2),hk⟩
 ·exact h.elim
end Lp
namespace Lp
open Go Go.Proofs
structure ad7 (e:Ed):Prop where
 ad1:e.p.length≤1152921504606846976
 aeU:∀s∈e.p,s.name.length≤4611686018427387904
 aeV:e.v.length≤1152921504606846976
 aeW:∀n∈e.v,n.s.length≤4611686018427387904∧n.name.length≤4611686018427387904
structure aeM (l:List Ed):Prop where
 len:l.length≤1152921504606846976
 all:∀e∈l,ad7 e
theorem aan{v:Vl}{k:Nat}(h:vV v k=true):Nm v:=λn hn=>by
 simp only[vV,Bool.and_eq_true,decide_eq_true_eq,List.all_eq_true]at h
 have:=h.1.2 n hn
 omega
theorem KP{α:Type}{f:α→Nat}{k:Nat}:∀{l:List α},(∀x∈l,f x≤k)→(l.map f).sum≤k*l.length
 | [],_=>by simp
 | x::l,h=>by
  have h1:=h x (List.mem_cons_self ..)
  have h2:=KP (l:=l) λy hy=>h y (List.mem_cons_of_mem _ hy)
  simp only[List.map_cons,List.sum_cons,List.length_cons,Nat.mul_add]
  omega
end Lp
namespace Lp
open Go
def pre(p:List Stp)(e:Ed):Ed:=⟨e.kind,p++e.p,e.v⟩
theorem vI:∀(f:Nat) (p q:List Stp) (a b:Vl),aC f (p++q) a b=(aC f q a b).map (pre p)
 | 0,p,q,a,b=>by
  unfold aC
  split<;>simp[pre]
 | f+1,p,q,a,b=>by
  unfold aC
  split
  ·rfl
  split
  ·rw[List.map_flatMap]
   refine congrArg (λz=>List.flatMap z _) (funext λnm=>?_)
   unfold kV
   split
   ·split
    ·rw[List.append_assoc];exact vI f p _ _ _
    ·simp[pre]
   ·simp[pre]
  split
  ·unfold j4 iI eU
   rw[List.map_append,List.map_flatMap,List.map_flatMap]
   congr 1
   ·refine congrArg (λz=>List.flatMap z _) (funext λk=>?_)
    split<;>simp[pre]
   ·refine congrArg (λz=>List.flatMap z _) (funext λi=>?_)
    unfold y_
    split
    ·rw[List.append_assoc];exact vI f p _ _ _
    ·simp[pre]
  ·simp[pre]
theorem xJ:∀(l m:List Ed){v w:Vl},f_ v l=(w,0)→f_ v (l++m)=f_ w m
 | [],m,v,w,h=>by
  rw[f_]at h
  cases h;rfl
 | e::l,m,v,w,h=>by
  rw[f_]at h
  by_cases h0:(fZ v e).2=0
  ·rw[if_pos h0]at h
   rw[List.cons_append,f_,if_pos h0]
   exact xJ l m h
  ·rw[if_neg h0]at h
   rw[Prod.mk.injEq]at h
   exact absurd h.2 h0
theorem YH{v:Vl}{s:Stp}{y:Vl}(hr:Rt v)(h:(bF v s).2=0)(hs:bK s=true)(hy:Rt y):bF (qO v s y) s=(y,0):=by
 unfold qO
 unfold bF at h ⊢
 cases hp:s.part with
 | true=>
  simp only[hp,if_true]at h ⊢
  by_cases hk:aN v=5
  ·simp only[hk,if_true]at h
   cases hg:(ax v)[s.n.toNat]? with
   | none=>rw[hg]at h;cases h
   | some w=>
    have hm:∀p∈(ax v).set s.n.toNat y,Rt p:=λp hp=>by
     rcases List.mem_or_eq_of_mem_set hp with hp | rfl
     ·exact (bU hr hp).1
     ·exact hy
    rw[if_pos (show aN (eu ((ax v).set s.n.toNat y))=5 from rfl),ko hm,List.getElem?_set]
    simp[(List.getElem?_eq_some_iff.1 hg).1]
  ·rw[if_neg hk]at h;cases h
 | false=>
  simp only[hp,Bool.false_eq_true,if_false]at h ⊢
  by_cases hk:aN v=6
  ·have hu:utf s.name=true:=by
     unfold bK at hs
     simp only[hp,Bool.false_eq_true,if_false,Bool.and_eq_true]at hs
     exact hs.2
   obtain⟨f1,f2,f3,f4,f5⟩:=j5 s.name hr hk hu hy
   rw[if_pos f2,kW f2,f4,JE f5 (pF _ _)]
  ·rw[if_neg hk]at h;cases h
theorem set_self{α:Type}{l:List α}{i:Nat}{x:α}(h:l[i]?=some x):l.set i x=l:=by
 apply List.ext_getElem?
 intro j
 rw[List.getElem?_set]
 split
 ·rename_i e;subst e;rw[if_pos (List.getElem?_eq_some_iff.1 h).1,h]
 ·rfl
theorem YI{v:Vl}{s:Stp}(hr:Rt v)(h:(bF v s).2=0):qO v s (bF v s).1=v:=by
 unfold qO
 unfold bF at h ⊢
 cases hp:s.part with
 | true=>
  simp only[hp,if_true]at h ⊢
  by_cases hk:aN v=5
  ·simp only[hk,if_true]at h ⊢
   cases hg:(ax v)[s.n.toNat]? with
   | none=>rw[hg]at h;cases h
   | some w=>
    simp only[set_self hg]
    obtain⟨n,r,rfl,_⟩:=bS hr.name hr.one.ne
    exact vW hr hk
  ·rw[if_neg hk]at h;cases h
 | false=>
  simp only[hp,Bool.false_eq_true,if_false]at h ⊢
  by_cases hk:aN v=6
  ·simp only[hk,if_true]at h ⊢
   cases hg:gP v s.name with
   | none=>rw[hg]at h;cases h
   | some w=>
    simp only
    rw[kW hk]at hg
    obtain⟨hq,hmk,_,_⟩:=bV hr hk
    rw[gT,JF hq hg,hmk]
  ·rw[if_neg hk]at h;cases h
theorem aao{v:Vl}{s:Stp}{y z:Vl}(hr:Rt v)(h:(bF v s).2=0)(hs:bK s=true)(hy:Rt y):qO (qO v s y) s z=qO v s z:=by
 unfold qO
 unfold bF at h
 cases hp:s.part with
 | true=>
  simp only[hp,if_true]at h ⊢
  have hm:∀p∈(ax v).set s.n.toNat y,Rt p:=λp hp=>by
   rcases List.mem_or_eq_of_mem_set hp with hp | rfl
   ·exact (bU hr hp).1
   ·exact hy
  rw[ko hm,List.set_set]
 | false=>
  simp only[hp,Bool.false_eq_true,if_false]at h ⊢
  by_cases hk:aN v=6
  ·have hu:utf s.name=true:=by
     unfold bK at hs
     simp only[hp,Bool.false_eq_true,if_false,Bool.and_eq_true]at hs
     exact hs.2
   obtain⟨f1,f2,f3,f4,f5⟩:=j5 s.name hr hk hu hy
   rw[gT,f4,Ul f5 (pF _ _) hu hy,gT]
  ·rw[if_neg hk]at h;cases h
theorem V7{v:Vl}{e:Ed}(h:(fZ v e).2=0):dM e=true:=by
 cases hr:dM e with
 | true=>rfl
 | false=>rw[fZ,hr]at h;cases h
theorem S9{s:Stp}{p:List Stp}(h:p≠[]):oL (s::p)=oL p:=by
 have:0<p.length:=List.length_pos_iff.2 h
 unfold oL
 rw[List.length_cons,Nat.add_sub_cancel,show p.length=(p.length-1)+1 by omega,List.getElem?_cons_succ]
 rfl
theorem aap{v:Vl}{s:Stp}{e:Ed}(h:(bF v s).2=0)(h1:(fZ (bF v s).1 e).2=0)(hr:dM (pre [s] e)=true):fZ v (pre [s] e)=(qO v s (fZ (bF v s).1 e).1,0):=by
 have hre:=V7 h1
 obtain⟨r1,r2,r3,r4,r5,r6⟩:=pR hre
 have hset:∀(q:List Stp) (x:Vl),(iW q (bF v s).1 x).2=0→iW (s::q) v x=(qO v s (iW q (bF v s).1 x).1,0):=λq x hx=>by rw[iW,if_pos h,if_pos hx]
 unfold fZ at h1 ⊢
 rw[hre]at h1
 rw[hr,hre]
 simp only[if_true]at h1 ⊢
 by_cases h0:e.kind=0
 ·rw[if_pos h0]at h1
  rw[if_pos (show (pre [s] e).kind=0 from h0),if_pos h0]
  exact hset _ _ h1
 rw[if_neg h0]at h1
 have hpn:=r6 h0
 have hpl:0<e.p.length:=List.length_pos_iff.2 hpn
 have et:(pre [s] e).p.take ((pre [s] e).p.length-1)=s::e.p.take (e.p.length-1):=by
  show (s::e.p).take ((s::e.p).length-1)=_
  rw[List.length_cons,Nat.add_sub_cancel,show e.p.length=(e.p.length-1)+1 by omega,List.take_succ_cons]
  simp
 have el:oL (pre [s] e).p=oL e.p:=S9 hpn
 have ei:∀w,nk w (oL e.p) (pre [s] e)=nk w (oL e.p) e:=λw=>rfl
 rw[if_neg (show ¬ (pre [s] e).kind=0 from h0),et,el,if_neg h0]
 simp only[ei]
 generalize e.p.take (e.p.length-1)=q at *
 unfold Yq at h1 ⊢
 have eg:eX (s::q) v=eX q (bF v s).1:=by rw[eX,if_pos h]
 rw[eg]
 by_cases h2:(eX q (bF v s).1).2=0
 ·rw[if_pos h2]at h1 ⊢
  rw[if_pos h2]
  by_cases h3:(nk (eX q (bF v s).1).1 (oL e.p) e).2=0
  ·rw[if_pos h3]at h1 ⊢
   rw[if_pos h3]
   exact hset _ _ h1
  ·rw[if_neg h3]at h1;exact absurd h1 h3
 ·rw[if_neg h2]at h1;exact absurd h1 h2
theorem Na{s:Stp}(hs:bK s=true):∀(l:List Ed){v w b:Vl},Rt v→Nm v→bF v s=(w,0)→(∀e∈l,dM (pre [s] e)=true∧aai e)→f_ w l=(b,0)→f_ v (l.map (pre [s]))=(qO v s b,0)
 | [],v,w,b,hr,hn,hw,_,h=>by
  rw[f_]at h
  cases h
  have:=YI (s:=s) hr (by rw[hw])
  rw[hw]at this
  rw[List.map_nil,f_,this]
 | e::l,v,w,b,hr,hn,hw,hl,h=>by
  have h0:(bF v s).2=0:=by rw[hw]
  have e1:(bF v s).1=w:=by rw[hw]
  rw[f_]at h
  by_cases h1:(fZ w e).2=0
  ·rw[if_pos h1]at h
   obtain⟨g1,g2⟩:=hl e (by simp)
   obtain⟨a1,a2,a3⟩:=Cs hr hn h0
   rw[e1]at a1 a3
   obtain⟨b1,b2,b3⟩:=Ud a1 a3 g2 h1
   have ho:=aap (e:=e) h0 (by rw[e1];exact h1) g1
   rw[e1]at ho
   obtain⟨c1,c2,c3⟩:=Ub hr hn h0 hs b1 b3
   have hpp:=YH hr h0 hs b1
   rw[List.map_cons,f_,ho,if_pos rfl,Na hs l c1 c3 hpp (λe' he=>hl e' (List.mem_cons_of_mem _ he)) h,aao hr h0 hs b1]
  ·rw[if_neg h1,Prod.mk.injEq]at h
   exact absurd h.2 h1
end Lp
namespace Lp
open Go
open List (mem_singleton)
structure fJ (v:Vl):Prop where
 rt:Rt v
 nm:Nm v
 len:v.length≤1000000
theorem fJ.part {v p:Vl}(h:fJ v)(hp:p∈ax v):fJ p:=
 ⟨(qG h.rt h.nm p hp).1,(qG h.rt h.nm p hp).2,by have:=(bU h.rt hp).2;have:=h.len;omega⟩
structure jF (p:List Stp):Prop where
 rt:∀s∈p,bK s=true
 nm:∀s∈p,s.name.length≤1000000
theorem jF.snoc {p:List Stp}{s:Stp}(h:jF p)(hr:bK s=true)(hn:s.name.length≤1000000):jF (p++[s]):=by
 refine⟨λx hx=>?_,λx hx=>?_⟩
 ·rcases List.mem_append.1 hx with hx | hx
  ·exact h.rt x hx
  ·simp only[mem_singleton]at hx;subst hx;exact hr
 ·rcases List.mem_append.1 hx with hx | hx
  ·exact h.nm x hx
  ·simp only[mem_singleton]at hx;subst hx;exact hn
theorem jF.right {p:List Stp}(h:jF p)(hl:p.length≤20):o7 p=true:=by
 unfold o7
 rw[List.all_eq_true.2 h.rt];simpa using hl
def Nb(e:Ed):Prop:=dM e=true∧aai e
theorem set_right{p:List Stp}{b:Vl}(h:jF p)(hl:p.length≤20)(hb:fJ b):Nb ⟨0,p,b⟩:=by
 refine⟨?_,⟨h.nm,hb.nm⟩⟩
 unfold dM
 simp only[h.right hl,CJ hb.rt];simp
theorem yL{p:List Stp}{b:Vl}(h:jF p)(hl:p.length≤20)(hne:p≠[])(hb:fJ b):Nb ⟨1,p,b⟩:=by
 refine⟨?_,⟨h.nm,hb.nm⟩⟩
 unfold dM
 simp only[h.right hl,CJ hb.rt];simp[hne]
theorem vJ{p:List Stp}(h:jF p)(hl:p.length≤20)(hne:p≠[]):Nb ⟨2,p,[]⟩:=by
 refine⟨?_,⟨h.nm,λn hn=>by cases hn⟩⟩
 unfold dM
 simp only[h.right hl];simp[hne]
theorem yM{v:Vl}{nm:List UInt8}(h:fJ v)(hk:aN v=6)(hm:nm∈aJ v):bK ⟨false,nm,0⟩=true∧nm.length≤1000000:=by
 obtain⟨hq,_,hN,_⟩:=bV h.rt hk
 rw[hN]at hm
 obtain⟨x,hx,rfl⟩:=List.mem_map.1 hm
 exact⟨by simp[bK,hq.utf x hx],(MU h.rt hk h.nm x hx).1⟩
theorem qb{i:Nat}(h:i≤1000000):bK ⟨true,[],i⟩=true:=by simp[bK];omega
theorem tH{v:Vl}{nm:List UInt8}(hr:Rt v)(hk:aN v=6)(h:eY v nm=true):bN v nm∈ax v:=by
 rw[(bV hr hk).2.2.2];exact List.mem_map.2 ⟨_,DR hr hk h,rfl⟩
theorem tJ{l:List Vl}{k:Nat}(h:k<l.length):l.getD k []∈l:=by
 rw[List.getD_eq_getElem?_getD,List.getElem?_eq_getElem h];exact List.getElem_mem h
theorem Qj(old now:List Vl){i:Nat}(hi:i<now.length):∃u,(dR old now)[i]?=some u∧(dR old now).getD i 0=u∧-1≤u∧u<old.length:=by
 have hg:=List.getElem?_eq_getElem ((sV old now).symm ▸ hi:i<(dR old now).length)
 exact⟨_,hg,by rw[List.getD_eq_getElem?_getD,hg];rfl,sW old now _ (List.mem_of_getElem? hg)⟩
theorem mY:∀(f:Nat) (p:List Stp) (a b:Vl),fJ a→fJ b→jF p→p.length+f≤20→∀e∈aC f p a b,Nb e
 | 0,p,a,b,ha,hb,hp,hl,e,h=>by
  unfold aC at h
  split at h
  ·cases h
  ·simp only[mem_singleton]at h;subst h;exact set_right hp (by omega) hb
 | f+1,p,a,b,ha,hb,hp,hl,e,h=>by
  have pl:∀s:Stp,(p++[s]).length≤20∧(p++[s]).length+f≤20∧p++[s]≠[]:=λs=>⟨by simp;omega,by simp;omega,by simp⟩
  unfold aC at h
  split at h
  ·cases h
  split at h
  ·rename_i hk
   obtain⟨nm,hm,h⟩:=List.mem_flatMap.1 h
   have hst:bK ⟨false,nm,0⟩=true∧nm.length≤1000000:=by
    rcases lN.1 hm with h | h
    ·exact yM ha hk.1 h
    ·exact yM hb hk.2 h
   have hq:=hp.snoc hst.1 hst.2
   unfold kV at h
   split at h
   ·rename_i hb1
    have hB:=hb.part (tH hb.rt hk.2 hb1)
    split at h
    ·rename_i ha1
     exact mY f _ _ _ (ha.part (tH ha.rt hk.1 ha1)) hB hq (pl _).2.1 e h
    ·simp only[mem_singleton]at h;subst h;exact yL hq (pl _).1 (pl _).2.2 hB
   ·simp only[mem_singleton]at h;subst h;exact vJ hq (pl _).1 (pl _).2.2
  split at h
  ·rename_i hk
   have f1:=bD ha.rt
   have f2:=bD hb.rt
   have l1:=ha.len
   have l2:=hb.len
   unfold j4 at h
   rcases List.mem_append.1 h with h | h
   ·unfold iI eU at h
    obtain⟨k,hk,h⟩:=List.mem_flatMap.1 h
    obtain⟨j,hj,rfl⟩:=List.mem_map.1 hk
    rw[List.mem_range]at hj
    split at h
    ·cases h
    ·simp only[mem_singleton]at h;subst h
     exact vJ (hp.snoc (qb (by omega)) (by simp)) (pl _).1 (pl _).2.2
   ·obtain⟨i,hi,h⟩:=List.mem_flatMap.1 h
    rw[List.mem_range]at hi
    have hB:=hb.part (tJ hi)
    have hq:=hp.snoc (s:=⟨true,[],i⟩) (qb (by omega)) (by simp)
    unfold y_ at h
    split at h
    ·rename_i hu
     obtain⟨u,u1,u2,u3,u4⟩:=Qj (ax a) (ax b) hi
     exact mY f _ _ _ (ha.part (tJ (by omega))) hB hq (pl _).2.1 e h
    ·simp only[mem_singleton]at h;subst h;exact yL hq (pl _).1 (pl _).2.2 hB
  ·simp only[mem_singleton]at h;subst h;exact set_right hp (by omega) hb
theorem get_nil(v:Vl):eX [] v=(v,0):=rfl
theorem Fw{v:Vl}{s:Stp}{k:Int}{x:Vl}(h:dM ⟨k,[s],x⟩=true)(hk:k≠0)(h0:(nk v s ⟨k,[s],x⟩).2=0):fZ v ⟨k,[s],x⟩=((nk v s ⟨k,[s],x⟩).1,0):=by
 unfold fZ
 rw[h,if_pos rfl,if_neg hk]
 show Yq [] v (λw=>nk w s ⟨k,[s],x⟩)=_
 unfold Yq
 rw[get_nil,if_pos rfl,if_pos h0];rfl
theorem one_set{v:Vl}{x:Vl}(h:dM ⟨0,[],x⟩=true):fZ v ⟨0,[],x⟩=(x,0):=by
 unfold fZ
 rw[h,if_pos rfl,if_pos rfl];rfl
theorem yN{v w:Vl}{e:Ed}(h:fZ v e=(w,0)):f_ v [e]=(w,0):=by
 rw[f_,h,if_pos rfl];rfl
structure KQ (v:Vl):Prop extends fJ v where
 ob:aN v=6
theorem KQ.good {v:Vl}(h:KQ v):fJ v:=⟨h.rt,h.nm,h.len⟩
structure YJ (v:Vl):Prop where
 rt:Rt v
 nm:Nm v
 ob:aN v=6
theorem aaq{a b:Vl}(ha:Rt a)(hb:Rt b)(ka:aN a=6)(kb:aN b=6)(h:∀nm,gP a nm=gP b nm):a=b:=by
 obtain⟨p1,p2,_,_⟩:=bV ha ka
 obtain⟨q1,q2,_,_⟩:=bV hb kb
 rw[←p2,←q2]
 congr 1
 refine r9 _ _ p1.rise q1.rise λz=>?_
 have hz:=h z.1
 rw[kW ka,kW kb]at hz
 constructor
 ·intro hm
  have:=ow (nm:=z.1) (x:=z.2) (eZ p1.rise) hm
  rw[hz]at this;exact jh this
 ·intro hm
  have:=ow (nm:=z.1) (x:=z.2) (eZ q1.rise) hm
  rw[←hz]at this;exact jh this
theorem Qk{v x:Vl}{nm:List UInt8}(hr:Rt v)(hk:aN v=6)(hu:utf nm=true)(hx:Rt x)(k:List UInt8):gP (gT v nm x) k=if k=nm then some x else gP v k:=by
 obtain⟨f1,f2,f3,f4,f5⟩:=j5 nm hr hk hu hx
 rw[kW f2,f4]
 split
 ·rename_i e;subst e;exact JE f5 (pF _ _)
 ·rename_i e
  rw[KV f5 (pF _ _) e,A9 (bV hr hk).1 e,kW hk]
theorem Ql{v:Vl}{nm:List UInt8}(hr:Rt v)(hk:aN v=6)(k:List UInt8):gP (dm v nm) k=if k=nm then none else gP v k:=by
 obtain⟨w1,w2,w3,w4⟩:=lH nm hr hk
 rw[kW w2,w4]
 split
 ·rename_i e;subst e;exact nL.2 (pF _ _)
 ·rename_i e
  rw[A9 (bV hr hk).1 e,kW hk]
theorem Nc{v:Vl}{nm:List UInt8}(h:eY v nm=true):gP v nm=some (bN v nm):=by
 unfold eY at h;unfold bN
 cases ho:gP v nm with
 | none=>rw[ho]at h;cases h
 | some w=>rfl
theorem CB{v:Vl}{nm:List UInt8}(h:eY v nm=false):gP v nm=none:=by
 unfold eY at h
 cases ho:gP v nm with
 | none=>rfl
 | some w=>rw[ho]at h;cases h
theorem YK{f:Nat}(hf:f+1≤20)(ih:∀x y:Vl,fJ x→fJ y→f_ x (aC f [] x y)=(y,0))
  {a b c:Vl}(ha:KQ a) (hb:KQ b) (hc:YJ c){nm:List UInt8}(hin:nm∈j3 a b) (hat:gP c nm=gP a nm) :
  ∃c',f_ c (kV (aC f) [] a b nm)=(c',0)∧YJ c'∧∀k,gP c' k=if k=nm then gP b nm else gP c k:=by
 have hst:bK ⟨false,nm,0⟩=true∧nm.length≤1000000:=by
  rcases lN.1 hin with h | h
  ·exact yM ha.good ha.ob h
  ·exact yM hb.good hb.ob h
 have hu:utf nm=true:=by have:=hst.1;simpa[bK] using this
 have hq:jF [⟨false,nm,0⟩]:=jF.snoc (p:=[]) (jF.mk (λs h=>by cases h) (λs h=>by cases h)) hst.1 hst.2
 unfold kV
 cases hB:eY b nm with
 | true=>
  have gB:=hb.good.part (tH hb.rt hb.ob hB)
  have eB:=Nc hB
  cases hA:eY a nm with
  | true=>
   have gA:=ha.good.part (tH ha.rt ha.ob hA)
   rw[Nc hA]at hat
   have hpart:bF c ⟨false,nm,0⟩=(bN a nm,0):=by simp[bF,hc.ob,hat]
   have hsc:aC f [⟨false,nm,0⟩] (bN a nm) (bN b nm)=(aC f [] (bN a nm) (bN b nm)).map (pre [⟨false,nm,0⟩]):=vI f [⟨false,nm,0⟩] [] _ _
   have hR:=mY f [⟨false,nm,0⟩] _ _ gA gB hq (by simp;omega)
   rw[hsc]at hR
   have happ:=Na hst.1 (aC f [] (bN a nm) (bN b nm)) hc.rt hc.nm hpart (λe he=>by
    have h1:=hR _ (List.mem_map.2 ⟨e,he,rfl⟩)
    exact⟨h1.1,⟨λs hs=>h1.2.ze s (List.mem_append_right _ hs),h1.2.val⟩⟩) (ih _ _ gA gB)
   refine⟨gT c nm (bN b nm),?_,?_⟩
   ·rw[if_pos rfl,if_pos rfl]
    show f_ c (aC f [⟨false,nm,0⟩] (bN a nm) (bN b nm))=_
    rw[hsc,happ];rfl
   ·obtain⟨f1,f2,_,_,_⟩:=j5 nm hc.rt hc.ob hu gB.rt
    exact⟨⟨f1,Ct nm hc.rt hc.ob hc.nm gB.nm hst.2,f2⟩,λk=>by rw[Qk hc.rt hc.ob hu gB.rt,eB]⟩
  | false=>
   rw[CB hA]at hat
   have hno:eY c nm=false:=by simp[eY,hat]
   refine⟨gT c nm (bN b nm),?_,?_⟩
   ·rw[if_pos rfl,if_neg (by simp)]
    have hr:=(yL hq (by simp) (by simp) gB).1
    have hi:nk c ⟨false,nm,0⟩ ⟨1,[⟨false,nm,0⟩],bN b nm⟩=(gT c nm (bN b nm),0):=by simp[nk,fu,hc.ob,hno]
    have:=Fw hr (by decide) (by rw[hi])
    rw[hi]at this
    exact yN this
   ·obtain⟨f1,f2,_,_,_⟩:=j5 nm hc.rt hc.ob hu gB.rt
    exact⟨⟨f1,Ct nm hc.rt hc.ob hc.nm gB.nm hst.2,f2⟩,λk=>by rw[Qk hc.rt hc.ob hu gB.rt,eB]⟩
 | false=>
  have hA:eY a nm=true:=by
   rcases lN.1 hin with h | h
   ·exact (pQ ha.rt ha.ob nm).2 h
   ·rw[(pQ hb.rt hb.ob nm).2 h]at hB;cases hB
  rw[Nc hA]at hat
  have aeN:eY c nm=true:=by simp[eY,hat]
  refine⟨dm c nm,?_,?_⟩
  ·rw[if_neg (by simp)]
   have hr:=(vJ hq (by simp) (by simp)).1
   have hi:nk c ⟨false,nm,0⟩ ⟨2,[⟨false,nm,0⟩],[]⟩=(dm c nm,0):=by simp[nk,fu,hc.ob,aeN]
   have:=Fw hr (by decide) (by rw[hi])
   rw[hi]at this
   exact yN this
  ·obtain⟨w1,w2,w3,w4⟩:=lH nm hc.rt hc.ob
   exact⟨⟨w1,Ib nm hc.rt hc.ob hc.nm,w2⟩,λk=>by rw[Ql hc.rt hc.ob,CB hB]⟩
theorem Qn{f:Nat}(hf:f+1≤20)(ih:∀x y:Vl,fJ x→fJ y→f_ x (aC f [] x y)=(y,0)){a b:Vl}(ha:KQ a)(hb:KQ b) :
  ∀(ns:List (List UInt8)){c:Vl},YJ c→ns.Nodup→(∀nm∈ns,nm∈j3 a b)→(∀nm∈ns,gP c nm=gP a nm)→(∀nm,nm ∉ ns→gP c nm=gP b nm)→
  f_ c (ns.flatMap (kV (aC f) [] a b))=(b,0)
 | [],c,hc,_,_,_,h=>by
  have:c=b:=aaq hc.rt hb.rt hc.ob hb.ob λnm=>h nm (by simp)
  rw[this];rfl
 | nm::ns,c,hc,hn,hin,hat,h=>by
  obtain⟨n1,n2⟩:=List.nodup_cons.1 hn
  obtain⟨c',e,hc',ho⟩:=YK hf ih ha hb hc (hin nm (by simp)) (hat nm (by simp))
  rw[List.flatMap_cons,xJ _ _ e]
  refine Qn hf ih ha hb ns hc' n2 (λk hk=>hin k (List.mem_cons_of_mem _ hk)) (λk hk=>?_) λk hk=>?_
  ·have:k≠nm:=λe=>n1 (e ▸ hk)
   rw[ho,if_neg this];exact hat k (List.mem_cons_of_mem _ hk)
  ·rw[ho]
   split
   ·rename_i e;rw[e]
   ·rename_i e
    exact h k λhm=>by
     rcases List.mem_cons.1 hm with e2 | hm
     ·exact e e2
     ·exact hk hm
end Lp
namespace Lp
open Go
open List (append_assoc drop_eq_nil_of_le map_nil nil_append)
def S_(R:List Int)(k:Nat):Bool:=R.any λy=>decide ((k:Int)=y)
def xK(R:List Int):Nat→List Vl→List Vl
 | _,[]=>[]
 | k,x::l=>if S_ R k then x::xK R (k+1) l else xK R (k+1) l
theorem DU{R:List Int}:∀(l:List Vl) (k:Nat) (x:Vl),x∈xK R k l→x∈l
 | [],_,_,h=>h
 | y::l,k,x,h=>by
  rw[xK]at h
  split at h
  ·rcases List.mem_cons.1 h with rfl | h
   ·simp
   ·exact List.mem_cons_of_mem _ (DU l _ x h)
  ·exact List.mem_cons_of_mem _ (DU l _ x h)
theorem YL{l:List Vl}{i:Nat}(hl:∀p∈l,Rt p)(hi:i<l.length)(h6:i≤1000000):f_ (eu l) [⟨2,[⟨true,[],i⟩],[]⟩]=(eu (l.take i++l.drop (i+1)),0):=by
 have hq:jF [⟨true,[],(i:Int)⟩]:=jF.snoc (p:=[]) (jF.mk (λs h=>by cases h) (λs h=>by cases h)) (qb h6) (by simp)
 have hr:=(vJ hq (by simp) (by simp)).1
 have hin:nk (eu l) ⟨true,[],i⟩ ⟨2,[⟨true,[],i⟩],[]⟩=(eu (l.take i++l.drop (i+1)),0):=by
  rw[nk,if_pos rfl,jf,if_pos (show aN (eu l)=5 from rfl),if_neg (show ¬ ((2:Int)=1) by decide),ko hl,if_neg (by simp only[Int.toNat_natCast];omega)]
  simp only[Int.toNat_natCast]
 have:=Fw hr (by decide) (by rw[hin])
 rw[hin]at this
 exact yN this
theorem aar{l:List Vl}{i:Nat}{x:Vl}(hl:∀p∈l,Rt p)(hx:fJ x)(hi:i≤l.length)(h6:i≤1000000):f_ (eu l) [⟨1,[⟨true,[],i⟩],x⟩]=(eu (l.take i++[x]++l.drop i),0):=by
 have hq:jF [⟨true,[],(i:Int)⟩]:=jF.snoc (p:=[]) (jF.mk (λs h=>by cases h) (λs h=>by cases h)) (qb h6) (by simp)
 have hr:=(yL hq (by simp) (by simp) hx).1
 have hin:nk (eu l) ⟨true,[],i⟩ ⟨1,[⟨true,[],i⟩],x⟩=(eu (l.take i++[x]++l.drop i),0):=by
  rw[nk,if_pos rfl,jf,if_pos (show aN (eu l)=5 from rfl),if_pos rfl,ko hl,if_neg (by simp only[Int.toNat_natCast];omega)]
  simp only[Int.toNat_natCast]
 have:=Fw hr (by decide) (by rw[hin])
 rw[hin]at this
 exact yN this
theorem KR{old:List Vl}{R:List Int}(ho:∀p∈old,Rt p)(hl:old.length≤1000000):∀k,k≤old.length→f_ (eu old) (eU [] old.length R k)=(eu (old.take (old.length-k)++xK R (old.length-k) (old.drop (old.length-k))),0)
 | 0,_=>by
  simp only[eU,List.range_zero,map_nil,List.flatMap_nil,Nat.sub_zero,List.take_length,List.drop_length,xK,List.append_nil];rfl
 | k+1,h=>by
  rw[oK,xJ _ _ (KR ho hl k (by omega))]
  obtain⟨i,hi⟩:∃i,old.length-k=i+1:=⟨old.length-k-1,by omega⟩
  have hi':old.length-(k+1)=i:=by omega
  have hi2:old.length-1-k=i:=by omega
  rw[hi,hi',hi2]
  have hil:i<old.length:=by omega
  have hd:=List.drop_eq_getElem_cons hil
  have ht:old.take (i+1)=old.take i++[old[i]]:=by rw[List.take_add_one,List.getElem?_eq_getElem hil];rfl
  have hkm:∀p∈old.take i++[old[i]]++xK R (i+1) (old.drop (i+1)),Rt p:=λp hp=>by
   rw[←ht]at hp
   rcases List.mem_append.1 hp with hp | hp
   ·exact ho p (List.mem_of_mem_take hp)
   ·exact ho p (List.mem_of_mem_drop (DU _ _ _ hp))
  rw[hd,xK,ht]
  have hb:S_ R i=R.any λy=>decide ((i:Int)=y):=rfl
  split
  ·rename_i h1
   rw[←hb]at h1
   rw[if_pos h1,f_,append_assoc];rfl
  ·rename_i h1
   rw[←hb]at h1
   rw[if_neg h1]
   have htl:(old.take i).length=i:=by rw[List.length_take];omega
   have:=YL (i:=i) hkm (by simp only[List.length_append,htl,List.length_cons,List.length_nil];omega) (by omega)
   rw[append_assoc]at this ⊢
   rw[List.take_append_of_le_length (by omega),List.take_of_length_le (show (old.take i).length≤i by omega),List.drop_append,htl,show i+1-i=1 by omega,drop_eq_nil_of_le (show (old.take i).length≤i+1 by omega),nil_append]at this
   exact this
theorem aas{R:List Int}{n m:Nat}(h:DL R n m):R.Pairwise λu v=>0≤u→0≤v→u<v:=by
 rw[List.pairwise_iff_getElem]
 intro i j hi hj hij hu hv
 exact h.up i j _ _ hij (List.getElem?_eq_getElem hi) (List.getElem?_eq_getElem hj) hu hv
theorem Ug{k:Nat}:∀(R:List Int),(R.Pairwise λu v=>0≤u→0≤v→u<v)→R.filter (λu=>decide ((k:Int)≤u))=if S_ R k then (k:Int)::R.filter (λu=>decide (((k+1:Nat):Int)≤u)) else R.filter (λu=>decide (((k+1:Nat):Int)≤u))
 | [],_=>rfl
 | x::R,h=>by
  obtain⟨h1,h2⟩:=List.pairwise_cons.1 h
  have ih:=Ug (k:=k) R h2
  have hin:S_ (x::R) k=(decide ((k:Int)=x) || S_ R k):=rfl
  rw[hin]
  rcases Int.lt_trichotomy x k with hx | hx | hx
  ·rw[List.filter_cons_of_neg (by simpa using hx),List.filter_cons_of_neg (by simp;omega),ih,show decide ((k:Int)=x)=false by simp;omega,Bool.false_or]
  ·subst hx
   rw[List.filter_cons_of_pos (by simp),List.filter_cons_of_neg (by simp;omega),show decide ((k:Int)=k)=true by simp,Bool.true_or,if_pos rfl]
   congr 1
   refine List.filter_congr λy hy=>?_
   have:=h1 y hy
   congr 1
   apply propext
   constructor
   ·intro h3;have:=this (by omega) (by omega);omega
   ·intro h3;omega
  ·have hno:S_ R k=false:=by
     rw[S_,List.any_eq_false]
     intro y hy
     have:=h1 y hy
     simp only[decide_eq_true_eq]
     intro e;subst e
     have:=this (by omega) (by omega);omega
   rw[hno]at ih
   rw[List.filter_cons_of_pos (by simp;omega),List.filter_cons_of_pos (by simp;omega),ih,show decide ((k:Int)=x)=false by simp;omega,hno]
   simp
theorem Uh{R:List Int}{old:List Vl}(hp:R.Pairwise λu v=>0≤u→0≤v→u<v)(hin:∀u∈R,u<old.length):∀(m k:Nat),k+m=old.length→xK R k (old.drop k)=(R.filter λu=>decide ((k:Int)≤u)).map λu=>old.getD u.toNat []
 | 0,k,h=>by
  rw[drop_eq_nil_of_le (by omega),xK]
  have:R.filter (λu=>decide ((k:Int)≤u))=[]:=by
   rw[List.filter_eq_nil_iff]
   intro u hu
   have:=hin u hu
   simp;omega
  rw[this];rfl
 | m+1,k,h=>by
  have hk:k<old.length:=by omega
  rw[List.drop_eq_getElem_cons hk,xK,Ug R hp,Uh hp hin m (k+1) (by omega)]
  split
  ·rw[List.map_cons]
   congr 1
   rw[Int.toNat_natCast,List.getD_eq_getElem?_getD,List.getElem?_eq_getElem hk];rfl
  ·rfl
def tK(old:List Vl)(R:List Int):List Vl:=(R.filter λu=>decide (0≤u)).map λu=>old.getD u.toNat []
theorem Qo{f:Nat}(hf:f+1≤20)(ih:∀x y:Vl,fJ x→fJ y→f_ x (aC f [] x y)=(y,0)){old now:List Vl}(ho:∀p∈old,fJ p)(hn:∀p∈now,fJ p)(hnl:now.length≤1000000) :
  ∀i,i≤now.length→f_ (eu (tK old (dR old now))) (h_ (aC f) [] old now (dR old now) i)=(eu (now.take i++tK old ((dR old now).drop i)),0)
 | 0,_=>by
  simp only[h_,List.range_zero,List.flatMap_nil,List.take_zero,nil_append,List.drop_zero];rfl
 | i+1,h=>by
  rw[vw,xJ _ _ (Qo hf ih ho hn hnl i (by omega))]
  have hil:i<now.length:=by omega
  obtain⟨u,u1,u2,u3,u4⟩:=Qj old now hil
  have hdr:(dR old now).drop i=u::(dR old now).drop (i+1):=by
   obtain⟨h1,h2⟩:=List.getElem?_eq_some_iff.1 u1
   rw[List.drop_eq_getElem_cons h1,h2]
  have htn:now.take (i+1)=now.take i++[now.getD i []]:=by
   rw[List.take_add_one,List.getElem?_eq_getElem hil,List.getD_eq_getElem?_getD,List.getElem?_eq_getElem hil];rfl
  have acv:=hn _ (tJ hil)
  have htl:(now.take i).length=i:=by rw[List.length_take];omega
  have hin:∀z∈(dR old now).drop (i+1),-1≤z∧z<(old.length:Int):=λz hz=>sW old now z (List.mem_of_mem_drop hz)
  have QV:∀p∈tK old ((dR old now).drop (i+1)),fJ p:=λp hp=>by
   obtain⟨z,hz,rfl⟩:=List.mem_map.1 hp
   obtain⟨z1,z2⟩:=List.mem_filter.1 hz
   have:=of_decide_eq_true z2
   exact ho _ (tJ (by have:=(hin z z1).2;omega))
  have hq:jF [⟨true,[],(i:Int)⟩]:=jF.snoc (p:=[]) (jF.mk (λs h=>by cases h) (λs h=>by cases h)) (qb (by omega)) (by simp)
  rw[hdr,htn,y_,u2]
  by_cases hu:0≤u
  ·rw[if_pos hu]
   have hold:=ho _ (tJ (show u.toNat<old.length by omega))
   have ht:tK old (u::(dR old now).drop (i+1))=old.getD u.toNat []::tK old ((dR old now).drop (i+1)):=by
    rw[tK,List.filter_cons_of_pos (by simpa using hu)];rfl
   rw[ht]
   generalize tK old ((dR old now).drop (i+1))=T at *
   generalize old.getD u.toNat []=x at *
   generalize now.getD i []=y at *
   have hall:∀p∈now.take i++x::T,fJ p:=λp hp=>by
    rcases List.mem_append.1 hp with hp | hp
    ·exact hn p (List.mem_of_mem_take hp)
    ·rcases List.mem_cons.1 hp with rfl | hp
     ·exact hold
     ·exact QV p hp
   have hrt:∀p∈now.take i++x::T,Rt p:=λp hp=>(hall p hp).rt
   have hat:(now.take i++x::T)[i]?=some x:=by rw[List.getElem?_append_right (by omega),htl,Nat.sub_self];rfl
   have hpart:bF (eu (now.take i++x::T)) ⟨true,[],i⟩=(x,0):=by
    rw[bF,if_pos rfl,if_pos (show aN (eu (now.take i++x::T))=5 from rfl),ko hrt,Int.toNat_natCast,hat]
   have hsc:aC f [⟨true,[],(i:Int)⟩] x y=(aC f [] x y).map (pre [⟨true,[],(i:Int)⟩]):=vI f [⟨true,[],(i:Int)⟩] [] _ _
   have hR:=mY f [⟨true,[],(i:Int)⟩] _ _ hold acv hq (by simp;omega)
   rw[hsc]at hR
   have happ:=Na (qb (show i≤1000000 by omega)) (aC f [] x y) (AZ hrt) (Fs λp hp=>(hall p hp).nm) hpart (λe he=>by
    have h1:=hR _ (List.mem_map.2 ⟨e,he,rfl⟩)
    exact⟨h1.1,⟨λs hs=>h1.2.ze s (List.mem_append_right _ hs),h1.2.val⟩⟩) (ih _ _ hold acv)
   show f_ (eu (now.take i++x::T)) (aC f [⟨true,[],(i:Int)⟩] x y)=_
   rw[hsc,happ,qO,if_pos rfl,ko hrt,Int.toNat_natCast,List.set_append_right _ _ (by omega),htl,Nat.sub_self,List.set_cons_zero,append_assoc];rfl
  ·rw[if_neg hu]
   have ht:tK old (u::(dR old now).drop (i+1))=tK old ((dR old now).drop (i+1)):=by
    rw[tK,List.filter_cons_of_neg (by simpa using hu)];rfl
   rw[ht]
   generalize tK old ((dR old now).drop (i+1))=T at *
   generalize now.getD i []=y at *
   have hrt:∀p∈now.take i++T,Rt p:=λp hp=>by
    rcases List.mem_append.1 hp with hp | hp
    ·exact (hn p (List.mem_of_mem_take hp)).rt
    ·exact (QV p hp).rt
   have:=aar (i:=i) hrt acv (by rw[List.length_append,htl];omega) (by omega)
   rw[List.take_append_of_le_length (by omega),List.take_of_length_le (show (now.take i).length≤i by omega),List.drop_append,htl,Nat.sub_self,drop_eq_nil_of_le (show (now.take i).length≤i by omega),nil_append]at this
   exact this
theorem V8{f:Nat}(hf:f+1≤20)(ih:∀x y:Vl,fJ x→fJ y→f_ x (aC f [] x y)=(y,0)){a b:Vl}(ha:fJ a)(hb:fJ b)(ka:aN a=5)(kb:aN b=5) :
  f_ a (j4 (aC f) [] (ax a) (ax b))=(b,0):=by
 have f1:=bD ha.rt
 have f2:=bD hb.rt
 have l1:=ha.len
 have l2:=hb.len
 have la:∀{v:Vl},Rt v→aN v=5→eu (ax v)=v:=λ{v} hr hk=>by
  obtain⟨n,r,rfl,_⟩:=bS hr.name hr.one.ne
  exact vW hr hk
 have hd:=KR (old:=ax a) (R:=dR (ax a) (ax b)) (λp hp=>(ha.part hp).rt) (by omega) (ax a).length (Nat.le_refl _)
 rw[Nat.sub_self,List.take_zero,nil_append,Uh (aas (H_ _ _)) (λu hu=>(sW _ _ u hu).2) (ax a).length 0 (by omega),la ha.rt ka]at hd
 have hs:=Qo hf ih (old:=ax a) (now:=ax b) (λp hp=>ha.part hp) (λp hp=>hb.part hp) (by omega) (ax b).length (Nat.le_refl _)
 rw[List.take_length,drop_eq_nil_of_le (by rw[sV];omega)]at hs
 unfold j4
 rw[iI,xJ _ _ hd]
 have e0:(((0:Nat):Int))=0:=rfl
 rw[e0]
 show f_ (eu (tK (ax a) (dR (ax a) (ax b)))) (h_ (aC f) [] (ax a) (ax b) (dR (ax a) (ax b)) (ax b).length)=_
 rw[hs]
 simp only[tK,List.filter_nil,map_nil,List.append_nil]
 rw[la hb.rt kb]
theorem Ik:∀f,f≤20→∀a b:Vl,fJ a→fJ b→f_ a (aC f [] a b)=(b,0)
 | 0,_,a,b,ha,hb=>by
  unfold aC
  split
  ·rename_i h;rw[h];rfl
  ·exact yN (one_set (set_right (jF.mk (λs h=>by cases h) (λs h=>by cases h)) (by simp) hb).1)
 | f+1,hf,a,b,ha,hb=>by
  have ih:=Ik f (by omega)
  unfold aC
  split
  ·rename_i h;rw[h];rfl
  split
  ·rename_i hk
   have hn:=vE (l6 ha.rt hk.1) (l6 hb.rt hk.2)
   refine Qn (a:=a) (b:=b) hf ih ⟨ha,hk.1⟩ ⟨hb,hk.2⟩ (j3 a b) ⟨ha.rt,ha.nm,hk.1⟩ hn (λnm h=>h) (λnm h=>rfl) λnm h=>?_
   rw[lN]at h
   have h1:eY a nm=false:=by
    cases hh:eY a nm with
    | false=>rfl
    | true=>exact absurd (.inl ((pQ ha.rt hk.1 nm).1 hh)) h
   have h2:eY b nm=false:=by
    cases hh:eY b nm with
    | false=>rfl
    | true=>exact absurd (.inr ((pQ hb.rt hk.2 nm).1 hh)) h
   rw[CB h1,CB h2]
  split
  ·rename_i hk
   exact V8 hf ih ha hb hk.1 hk.2
  ·exact yN (one_set (set_right (jF.mk (λs h=>by cases h) (λs h=>by cases h)) (by simp) hb).1)
end Lp
namespace Lp
open Go Go.Proofs
open List (mem_singleton)
theorem Ui{v p:Vl}(h:Rt v)(hp:p∈ax v):p.length≤v.length:=Nat.le_of_lt (bU h hp).2
theorem xL:∀(f:Nat) (p:List Stp) (a b:Vl),Rt b→∀e∈aC f p a b,e.v.length≤b.length
 | 0,p,a,b,hb,e,h=>by
  unfold aC at h
  split at h
  ·cases h
  ·simp only[mem_singleton]at h;subst h;exact Nat.le_refl _
 | f+1,p,a,b,hb,e,h=>by
  unfold aC at h
  split at h
  ·cases h
  split at h
  ·rename_i hk
   obtain⟨nm,_,h⟩:=List.mem_flatMap.1 h
   unfold kV at h
   split at h
   ·rename_i h1
    have hm:=tH hb hk.2 h1
    have hl:=Ui hb hm
    split at h
    ·have:=xL f _ _ _ (bU hb hm).1 e h;omega
    ·simp only[mem_singleton]at h;subst h;exact hl
   ·simp only[mem_singleton]at h;subst h;exact Nat.zero_le _
  split at h
  ·unfold j4 at h
   rcases List.mem_append.1 h with h | h
   ·unfold iI eU at h
    obtain⟨k,_,h⟩:=List.mem_flatMap.1 h
    split at h
    ·cases h
    ·simp only[mem_singleton]at h;subst h;exact Nat.zero_le _
   ·obtain⟨i,hi,h⟩:=List.mem_flatMap.1 h
    rw[List.mem_range]at hi
    have hm:=tJ hi
    have hl:=Ui hb hm
    unfold y_ at h
    split at h
    ·have:=xL f _ _ _ (bU hb hm).1 e h;omega
    ·simp only[mem_singleton]at h;subst h;exact hl
  ·simp only[mem_singleton]at h;subst h;exact Nat.le_refl _
theorem aat{a b:Vl}(ha:fJ a)(hb:fJ b)(la:a.length≤60)(lb:b.length≤60):zS a (iO a b)∧f_ a (iO a b)=(b,0):=by
 have hl:=n_ 20 [] a b ha.rt hb.rt
 have hR:=mY 20 [] a b ha hb (jF.mk (λs h=>by cases h) (λs h=>by cases h)) (by simp)
 have hv:=xL 20 [] a b hb.rt
 refine⟨⟨ha.rt,ha.nm,?_,λe he=>?_,by unfold iO;omega⟩,Ik 20 (by omega) a b ha hb⟩
 ·have:=KP (f:=λe:Ed=>e.v.length) (k:=b.length) hv
  have h1:=Nat.mul_le_mul_right (aC 20 [] a b).length lb
  unfold iO;omega
 ·obtain⟨h1,h2⟩:=hR e he
  have h3:=hv e he
  have h4:=(pR h1).2.1
  exact⟨⟨⟨by omega,h2.ze⟩,YE (by omega) h2.val⟩,by omega,h2.val⟩
theorem fJ.vok {v:Vl}(h:fJ v):rE v:=⟨h.rt,h.len,λn hn=>(h.nm n hn).2⟩
theorem Qp{v:Vl}(h:vV v 60=true):fJ v∧v.length≤60:=by
 obtain⟨h1,h2⟩:=R9 h
 exact⟨⟨h1,aan h,by omega⟩,h2⟩
end Lp
namespace Lp
open Go Go.Proofs
open List (getElem_mem map_nil take_add_one take_of_length_le)
theorem aeO(objs:List Obj)(K:KT):dh D 46 [] objs K=K (aM oz) objs 0:=by
 have z:aL (D 46)=aM oz:=by kernel_rfl
 have a:(D 46).agg=true:=by kernel_rfl
 simp only[dX]at z a
 simp[dh,nN,a,z,dX,oD,aM,PV.isAgg,uf,PV.cells,PV.storable,PV.mD,PV.pure]
theorem ad8:(PV.vM (.agg ⟨[.int .i64 0,.int .i64 0,.string ⟨⟨[]⟩⟩,.string ⟨⟨[]⟩⟩,.bool false,.int .i64 0]⟩)).cells.length=6∧(PV.vM (.agg ⟨[.int .i64 0,.int .i64 0,.string ⟨⟨[]⟩⟩,.string ⟨⟨[]⟩⟩,.bool false,.int .i64 0]⟩)).cells.all PV.storable=true:=⟨rfl,rfl⟩
theorem Il{f:Nat}(hs:MW f)(p:List Stp)(a b:Vl)(hp:p.length+f+1=20)(ha:Ir a)(hb:Ir b)(ka:aN a=6)(kb:aN b=6) :
  av Tryz.prog 46 [aT p,aj a,aj b] [] (.sl 3 (((j3 a b).flatMap (kV (aC f) p a b)).map encR) none) []:=by
 have MZ:aR Tryz.prog 26 (oM f):=by
  intro args objs K h
  unfold oM at h
  split at h
  ·rename_i a0 a1 a2
   obtain⟨p,rfl,a,rfl,b,rfl,h1,h2,h3,hk⟩:=h
   exact⟨_,_,_,.pure _ rfl (hs p a b h1 h2 h3),hk⟩
  ·exact h.elim
 refine xk.bR (T:=bA Tryz.prog [(68,jl),(26,oM f),(62,eG),(39,uV),(58,lZ)]) 1 hD (ay (af Cw (af MZ (af nT (af Jf (af G7 au)))))) bE (by decide) λQ hQ=>?_
 have hal:=ha.len
 have hbl:=hb.len
 obtain⟨pa1,pa2,pa3,_⟩:=bD ha.ok.rt
 have hoa:=ha.ok.rt.one
 have part:∀{v:Vl}{nm},Ir v→aN v=6→eY v nm=true→Ir (bN v nm):=λ{v nm} hv hk h=>by
  have hm:bN v nm∈ax v:=by rw[(bV hv.ok.rt hk).2.2.2];exact List.mem_map.2 ⟨_,DR hv.ok.rt hk h,rfl⟩
  exact⟨(rE.parts hv.ok).2 _ hm,by have:=(bU hv.ok.rt hm).2;have:=hv.len;omega,(qG hv.ok.rt hv.nmm _ hm).2⟩
 have hlen:=PS (g:=aC f) (p:=p) ha.ok.rt hb.ok.rt ka kb λq x y hx hy=>n_ f q x y (bU ha.ok.rt hx).1 (bU hb.ok.rt hy).1
 obtain⟨hM,hN⟩:=VW ha hb ka kb
 have hMl:=hM.len
 have hMo:=hM.rt.one
 obtain⟨ns,hns⟩:∃ns,aJ a=ns:=⟨_,rfl⟩
 have hpre:∀i,MOk (xG (ns.take i) b) 20000:=λi=>by
  have h:=Ic (ns.take i) (v:=b) (N:=b.length) ⟨hb.ok.rt,kb,Nat.le_refl _,hb.nmm⟩ λnm hm=>by
   have hm:=List.mem_of_mem_take hm
   rw[←hns]at hm
   refine⟨?_,lG ha.ok.rt ha.ok.nm nm hm⟩
   have hpa:=bV ha.ok.rt ka
   rw[hpa.2.2.1]at hm
   obtain⟨z,hz,rfl⟩:=List.mem_map.1 hm
   exact hpa.1.utf z hz
  have h1:=h.1.len
  rw[List.length_take]at h1
  rw[hns]at pa2
  exact⟨h.1.rt,h.1.kd,by omega,h.1.nm⟩
 have hnu:∀nm∈ns,utf nm=true∧nm.length≤1000000:=λnm hm=>by
  rw[←hns]at hm
  refine⟨?_,lG ha.ok.rt ha.ok.nm nm hm⟩
  have hpa:=bV ha.ok.rt ka
  rw[hpa.2.2.1]at hm
  obtain⟨z,hz,rfl⟩:=List.mem_map.1 hm
  exact hpa.1.utf z hz
 (conv=>arg 4;cbv);simp (maxSteps:=400000) only[↓aA,aB,BEq.rfl,seval,hQ,↓eG]
 rw[hns]at hN hM hMl hMo pa2 ⊢
 refine⟨rfl,rfl,hoa,by omega,?_⟩
 refine aQ (λm S=>∃(i:Nat),i+m=ns.length∧S=⟨dD 96 [(0,aT p),(1,aj a),(2,aj b),(7,.aS 0 1),(8,aj (xG (ns.take i) b)),(9,jT ns),(10,.int .i64 i)],[Wm [] 1]⟩) ns.length ⟨0,by omega,?_⟩ ?_
 ·simp only[cB,keepR,Nat.reduceAdd,oO,Nat.reduceBEq,map_nil]
  rfl
 rintro m S ⟨i,him,rfl⟩
 rcases Nat.lt_or_ge i ns.length with h | h
 ·have hlt:((i:Int)<(ns.length:Int))=True:=eq_true (by omega)
  have zi:(0≤(i:Int))=True:=eq_true (by omega)
  have hgn:=List.getElem?_eq_getElem h
  obtain⟨u1,u2⟩:=hnu _ (getElem_mem h)
  have hst:=SK hgn b
  generalize ns[i]=nm at *
  have hP:=hpre i
  have hPl:=hP.len
  simp (maxSteps:=400000) only[↓aA,aB,BEq.rfl,seval,hQ,hlt,zi,hgn,↓uV,aeO,ad8]
  refine⟨hP.rt,hP.kd,by omega,u1,Uf,by omega,λn hn=>by have:=(hP.nm n hn).2;omega,⟨by omega,by omega⟩,m-1,by omega,i+1,by omega,?_⟩
  rw[hst]
  rfl
 have hlt:((i:Int)<(ns.length:Int))=False:=eq_false (by omega)
 rw[take_of_length_le h]
 obtain⟨nE,hnm⟩:∃nE,j3 a b=nE:=⟨_,rfl⟩
 have hmem:∀nm∈nE,nm∈aJ a∨nm∈aJ b:=λnm hm=>lN.1 (hnm ▸ hm)
 have hnl:nE.length≤20000:=by
  have:=(bD hM.rt).2.1
  rw[←hnm,←hN];omega
 obtain⟨g,hg⟩:∃g,kV (aC f) p a b=g:=⟨_,rfl⟩
 rw[hnm]at hQ hN hlen
 rw[hg]at hQ hlen
 simp (maxSteps:=400000) only[↓aA,aB,BEq.rfl,seval,hQ,hlt,↓eG,hN]
 refine⟨hMo,by omega,?_⟩
 refine aQ (λm S=>∃(i v:Nat),i+m=nE.length∧S=⟨dD 96 [(0,aT p),(1,aj a),(2,aj b),(7,.aS 0 v),(9,jT nE),(11,.int .i64 i)],[Wm ((nE.take i).flatMap g) v]⟩) nE.length ⟨0,1,by omega,?_⟩ ?_
 ·simp only[cB,keepR,Nat.reduceAdd,oO,Nat.reduceBEq,map_nil]
  rfl
 clear h him hlt
 rintro m S ⟨i,v,him,rfl⟩
 rcases Nat.lt_or_ge i nE.length with h | h
 rotate_left 1
 ·have hlt:((i:Int)<(nE.length:Int))=False:=eq_false (by omega)
  rw[take_of_length_le h]
  simp (maxSteps:=400000) only[↓aA,aB,BEq.rfl,seval,hQ,hlt]
  exact (Ue _ _).symm
 have hlt:((i:Int)<(nE.length:Int))=True:=eq_true (by omega)
 have zi:(0≤(i:Int))=True:=eq_true (by omega)
 have hgn:=List.getElem?_eq_getElem h
 have htk:nE.take (i+1)=nE.take i++[nE[i]]:=by rw[take_add_one,hgn];rfl
 have hkm:=hmem _ (getElem_mem h)
 have hll:((nE.take (i+1)).flatMap g).length≤20000:=by
  have:nE.flatMap g=(nE.take (i+1)).flatMap g++(nE.drop (i+1)).flatMap g:=by rw[←List.flatMap_append,List.take_append_drop]
  rw[this,List.length_append]at hlen
  omega
 generalize nE[i]=nm at *
 rw[htk,List.flatMap_append]at hll
 have hst:(nE.take (i+1)).flatMap g=(nE.take i).flatMap g++g nm:=by rw[htk,List.flatMap_append];simp
 rw[List.flatMap_cons,List.flatMap_nil,List.append_nil,List.length_append]at hll
 generalize (nE.take i).flatMap g=A at *
 have hra:=ha.ok.rt
 have hrb:=hb.ok.rt
 cases h2:eY b nm with
 | false=>
  cases h1:eY a nm with
  | false=>
   rcases hkm with hk | hk
   ·rw[(pQ hra ka nm).2 hk]at h1;cases h1
   ·rw[(pQ hrb kb nm).2 hk]at h2;cases h2
  | true=>
   have hgm:g nm=[⟨2,p++[⟨false,nm,0⟩],[]⟩]:=by rw[←hg,kV,if_neg (by simp[h2])]
   rw[hgm,List.length_singleton]at hll
   rw[hgm]at hst
   simp (maxSteps:=400000) only[↓aA,aB,BEq.rfl,seval,hQ,hlt,zi,hgn,↓jl,↓lZ,nu,h1,h2,qF,KN,edR,MV,Jw,xE]
   refine⟨by omega,hra,by omega,hrb,by omega,by omega,by omega,⟨by omega,by omega⟩,m-1,by omega,i+1,v+1,by omega,?_⟩
   rw[hst]
   rfl
 | true=>
  cases h1:eY a nm with
  | false=>
   have hgm:g nm=[⟨1,p++[⟨false,nm,0⟩],bN b nm⟩]:=by rw[←hg,kV,if_pos h2,if_neg (by simp[h1])]
   rw[hgm,List.length_singleton]at hll
   rw[hgm]at hst
   simp (maxSteps:=400000) only[↓aA,aB,BEq.rfl,seval,hQ,hlt,zi,hgn,↓jl,↓lZ,nu,h1,h2,qF,P5,edR,MV,Jw,xE]
   refine⟨by omega,hra,by omega,hrb,by omega,by omega,by omega,⟨by omega,by omega⟩,m-1,by omega,i+1,v+1,by omega,?_⟩
   rw[hst]
   rfl
  | true=>
   have hgm:g nm=aC f (p++[⟨false,nm,0⟩]) (bN a nm) (bN b nm):=by rw[←hg,kV,if_pos h2,if_pos h1]
   rw[hgm]at hll hst
   simp (maxSteps:=400000) only[↓aA,aB,BEq.rfl,seval,hQ,hlt,zi,hgn,↓jl,↓lZ,↓oM,nu,h1,h2,qF,edR,abh,Jw,xE]
   refine⟨by omega,hra,by omega,hrb,by omega,by omega,part ha ka h1,part hb kb h2,P6 _,by omega,by omega,⟨by omega,by omega⟩,m-1,by omega,i+1,v+1,by omega,?_⟩
   rw[hst]
   rfl
def AR(as':List PV)(r:PV):d9:=λargs objs K=>args=as'∧K r objs 0
theorem DV{f:FuncId}{as':List PV}{r:PV}(hp:as'.all PV.pure=true)(h:av Tryz.prog f as' [] r []):aR Tryz.prog f (AR as' r):=by
 rintro args objs K ⟨rfl,hk⟩
 exact⟨_,_,_,.pure _ hp h,hk⟩
theorem kK{f:Nat}{p:List Stp}{a b:Vl}{ys:List Ed}(ha:Ir a)(hb:Ir b)(hp:p.length+f=20)
  (h:(a=b∧ys=[])∨
   (a≠b∧aN a=6∧aN b=6∧p.length<20∧av Tryz.prog 46 [aT p,aj a,aj b] [] (.sl 3 (ys.map encR) none) [])∨
   (a≠b∧aN a=5∧aN b=5∧p.length<20∧av Tryz.prog 47 [aT p,aj a,aj b] [] (.sl 3 (ys.map encR) none) [])∨
   (a≠b∧(p.length<20→¬ (aN a=6∧aN b=6)∧¬ (aN a=5∧aN b=5))∧ys=[⟨0,p,b⟩])) :
  av Tryz.prog 26 [aT p,aj a,aj b] [] (.sl 3 (ys.map encR) none) []:=by
 have hal:=ha.len
 have hbl:=hb.len
 have sa:a.length≤1000000:=by omega
 have sb:b.length≤1000000:=by omega
 obtain⟨na,ra,rfl,_⟩:=bS ha.ok.rt.name ha.ok.rt.one.ne
 obtain⟨nb,rb,rfl,_⟩:=bS hb.ok.rt.name hb.ok.rt.one.ne
 simp only[aN]at h
 have ga:(na::ra)[0]?=some na:=rfl
 have gb:(nb::rb)[0]?=some nb:=rfl
 generalize na::ra=a at *
 generalize nb::rb=b at *
 rcases h with ⟨hab,rfl⟩ | ⟨hab,k1,k2,hpl,hg⟩ | ⟨hab,k1,k2,hpl,hg⟩ | ⟨hab,hk,rfl⟩
 ·refine av.res (r:=.sl 0 [] (some true)) ?_ (gF 0 3)
  have hab':=eq_true hab
  refine iy.bR (T:=bA Tryz.prog [(16,dL)]) 0 hD (ay (af jW au)) bE (by decide) λQ hQ=>?_
  (conv=>arg 4;cbv);simp (maxSteps:=400000) only[↓aA,aB,BEq.rfl,seval,hQ,↓dL,hab']
  exact⟨sa,sb⟩
 ·have hab':=eq_false hab
  have hpl':(20≤(p.length:Int))=False:=eq_false (by omega)
  refine iy.bR (T:=bA Tryz.prog [(16,dL),(46,AR [aT p,aj a,aj b] (.sl 3 (ys.map encR) none))]) 0 hD (ay (af jW (af (DV rfl hg) au))) bE (by decide) λQ hQ=>?_
  (conv=>arg 4;cbv);simp (maxSteps:=400000) only[↓aA,aB,BEq.rfl,seval,hQ,↓dL,hab',hpl',ga,gb,k1,k2,↓AR]
  exact⟨sa,sb⟩
 ·have hab':=eq_false hab
  have hpl':(20≤(p.length:Int))=False:=eq_false (by omega)
  refine iy.bR (T:=bA Tryz.prog [(16,dL),(47,AR [aT p,aj a,aj b] (.sl 3 (ys.map encR) none))]) 0 hD (ay (af jW (af (DV rfl hg) au))) bE (by decide) λQ hQ=>?_
  (conv=>arg 4;cbv);simp (maxSteps:=400000) only[↓aA,aB,BEq.rfl,seval,hQ,↓dL,hab',hpl',ga,gb,k1,k2,↓AR]
  exact⟨sa,sb⟩
 ·have hab':=eq_false hab
  refine iy.bR (T:=bA Tryz.prog [(16,dL)]) 0 hD (ay (af jW au)) bE (by decide) λQ hQ=>?_
  rcases tf (20≤(p.length:Int)) with e2 | e2
  ·(conv=>arg 4;cbv);simp (maxSteps:=400000) only[↓aA,aB,BEq.rfl,seval,hQ,↓dL,hab',e2,qF,Cv,Jw,xE]
   exact⟨sa,sb⟩
  obtain⟨q1,q2⟩:=hk (by have:=of_eq_false e2;omega)
  rcases tf (na.kind=6) with k6 | k6
  ·have n6:(nb.kind=6)=False:=eq_false λe=>q1 ⟨of_eq_true k6,e⟩
   have n5:(na.kind=5)=False:=eq_false λe=>by have:=of_eq_true k6;omega
   (conv=>arg 4;cbv);simp (maxSteps:=400000) only[↓aA,aB,BEq.rfl,seval,hQ,↓dL,hab',e2,ga,gb,k6,n6,n5,qF,Cv,Jw,xE]
   exact⟨sa,sb⟩
  rcases tf (na.kind=5) with k5 | k5
  ·have n5:(nb.kind=5)=False:=eq_false λe=>q2 ⟨of_eq_true k5,e⟩
   (conv=>arg 4;cbv);simp (maxSteps:=400000) only[↓aA,aB,BEq.rfl,seval,hQ,↓dL,hab',e2,ga,gb,k6,k5,n5,qF,Cv,Jw,xE]
   exact⟨sa,sb⟩
  ·(conv=>arg 4;cbv);simp (maxSteps:=400000) only[↓aA,aB,BEq.rfl,seval,hQ,↓dL,hab',e2,ga,gb,k6,k5,qF,Cv,Jw,xE]
   exact⟨sa,sb⟩
theorem Ez:∀f,MW f
 | 0=>λp a b hp ha hb=>by
  rw[aC]
  split
  ·rename_i h
   exact kK ha hb hp (.inl ⟨h,rfl⟩)
  ·rename_i h
   exact kK ha hb hp (.inr (.inr (.inr ⟨h,λh'=>by omega,rfl⟩)))
 | f+1=>λp a b hp ha hb=>by
  have ih:=Ez f
  rw[aC]
  split
  ·rename_i h
   exact kK ha hb hp (.inl ⟨h,rfl⟩)
  ·rename_i h
   split
   ·rename_i hk
    exact kK ha hb hp (.inr (.inl ⟨h,hk.1,hk.2,by omega,Il ih p a b (by omega) ha hb hk.1 hk.2⟩))
   ·rename_i h6
    split
    ·rename_i hk
     exact kK ha hb hp (.inr (.inr (.inl ⟨h,hk.1,hk.2,by omega,MX ih p a b (by omega) ha hb⟩)))
    ·rename_i h5
     exact kK ha hb hp (.inr (.inr (.inr ⟨h,λ_=>⟨h6,h5⟩,rfl⟩)))
theorem Qq(a b:Vl)(ha:Ir a)(hb:Ir b):av Tryz.prog 12 [aj a,aj b] [] (.sl 3 ((iO a b).map encR) none) []:=by
 have h:=Ez 20 [] a b rfl ha hb
 refine Ci.bR (T:=bA Tryz.prog [(26,AR [.sl 3 [] none,aj a,aj b] (.sl 3 ((iO a b).map encR) none))]) 0 hD (ay (af (DV rfl h) au)) bE (by decide) λQ hQ=>?_
 (conv=>arg 4;cbv);simp (maxSteps:=400000) only[↓aA,aB,BEq.rfl,seval,hQ,↓AR]
 exact⟨rfl,rfl⟩
def yO:d9:=λargs objs K=>match args with
 | [a0,a1]=>gD aj a0 (HK.mk:HK λa=>gD aj a1 (HK.mk:HK λb=>(Ir a)∧(Ir b)∧K (lV (iO a b)) objs 0))
 | _=>False
theorem Nf:aR Tryz.prog 12 (yO):=by
 intro args objs K h
 unfold yO at h
 split at h
 ·rename_i a0 a1
  obtain⟨a,rfl,b,rfl,h1,h2,hk⟩:=h
  exact⟨_,_,_,.pure _ rfl ((Qq a b h1 h2).res (SI _ λe he=>rF 20 [] a b e he)),hk⟩
 ·exact h.elim
structure YM (l:List Ed):Prop where
 len:l.length≤1000000
 all:∀e∈l,e.p.length≤1000000∧e.v.length≤1000000
theorem Qr(l m:List Ed)(hl:YM l)(hm:YM m):av Tryz.prog 10 [lV l,lV m] [] (.bool (decide (l=m))) []:=by
 have hll:=hl.len
 have hml:=hm.len
 refine Cj.bR (T:=bA Tryz.prog [(23,qa),(16,dL)]) 0 hD (ay (af M_ (af jW au))) bE (by decide) λQ hQ=>?_
 rcases tf ((l.length:Int)=(m.length:Int)) with hlm | hlm
 rotate_left 1
 ·have hr:decide (l=m)=false:=decide_eq_false λe=>(of_eq_false hlm) (by rw[e])
  (conv=>arg 4;cbv);simp (maxSteps:=400000) only[↓aA,aB,BEq.rfl,seval,hQ,hlm,hr]
 have aeX:=of_eq_true hlm
 (conv=>arg 4;cbv);simp (maxSteps:=400000) only[↓aA,aB,BEq.rfl,seval,hQ,hlm]
 refine aQ (λq S=>∃(i:Nat),i+q=l.length∧l.take i=m.take i∧S=⟨dD 56 [(0,lV l),(1,lV m),(5,.int .i64 i)],[]⟩) l.length ⟨0,by omega,rfl,?_⟩ ?_
 ·simp only[cB,keepR,Nat.reduceAdd,oO,Nat.reduceBEq,map_nil]
  rfl
 rintro q S ⟨i,hiq,htk,rfl⟩
 rcases Nat.lt_or_ge i l.length with h | h
 rotate_left 1
 ·have hlt:((i:Int)<(l.length:Int))=False:=eq_false (by omega)
  have hr:decide (l=m)=true:=by
   rw[take_of_length_le h,take_of_length_le (by omega)]at htk
   exact decide_eq_true htk
  simp (maxSteps:=400000) only[↓aA,aB,BEq.rfl,seval,hQ,hlt,hr]
 have hlt:((i:Int)<(l.length:Int))=True:=eq_true (by omega)
 have aau:((i:Int)<(m.length:Int))=True:=eq_true (by omega)
 have zi:(0≤(i:Int))=True:=eq_true (by omega)
 have hgl:=List.getElem?_eq_getElem h
 have hgm:=List.getElem?_eq_getElem (show i<m.length by omega)
 obtain⟨x1,x2⟩:=hl.all _ (getElem_mem h)
 obtain⟨y1,y2⟩:=hm.all _ (getElem_mem (show i<m.length by omega))
 generalize l[i]=x at *
 generalize m[i]=y at *
 have hne:¬ x=y→decide (l=m)=false:=λh=>decide_eq_false λe=>h (by rw[e]at hgl;rw[hgl]at hgm;exact Option.some.inj hgm)
 by_cases c1:x.kind=y.kind
 rotate_left 1
 ·have hr:=hne λe=>c1 (by rw[e])
  have c1':=eq_false c1
  simp (maxSteps:=400000) only[↓aA,aB,BEq.rfl,seval,hQ,hlt,aau,zi,hgl,hgm,c1',hr]
 have c1':=eq_true c1
 by_cases c2:x.p=y.p
 rotate_left 1
 ·have hr:=hne λe=>c2 (by rw[e])
  have c2':=eq_false c2
  simp (maxSteps:=400000) only[↓aA,aB,BEq.rfl,seval,hQ,hlt,aau,zi,hgl,hgm,c1',c2',↓qa,hr]
  exact⟨by omega,by omega⟩
 have c2':=eq_true c2
 by_cases c3:x.v=y.v
 rotate_left 1
 ·have hr:=hne λe=>c3 (by rw[e])
  have c3':=eq_false c3
  simp (maxSteps:=400000) only[↓aA,aB,BEq.rfl,seval,hQ,hlt,aau,zi,hgl,hgm,c1',c2',c3',↓qa,↓dL,hr]
  exact⟨by omega,by omega,by omega,by omega⟩
 have c3':=eq_true c3
 have hxy:x=y:=by cases x;cases y;simp only at c1 c2 c3;subst c1 c2 c3;rfl
 simp (maxSteps:=400000) only[↓aA,aB,BEq.rfl,seval,hQ,hlt,aau,zi,hgl,hgm,c1',c2',c3',↓qa,↓dL]
 refine⟨by omega,by omega,by omega,by omega,⟨by omega,by omega⟩,q-1,by omega,i+1,by omega,?_,by simp⟩
 rw[take_add_one,take_add_one,hgl,hgm,htk,hxy]
def yP:d9:=λargs objs K=>match args with
 | [a0,a1]=>gD lV a0 (HK.mk:HK λl=>gD lV a1 (HK.mk:HK λm=>(YM l)∧(YM m)∧K (.bool (decide (l=m))) objs 0))
 | _=>False
theorem Ng:aR Tryz.prog 10 (yP):=by
 intro args objs K h
 unfold yP at h
 split at h
 ·rename_i a0 a1
  obtain⟨l,rfl,m,rfl,h1,h2,hk⟩:=h
  exact⟨_,_,_,.pure _ rfl (Qr l m h1 h2),hk⟩
 ·exact h.elim
theorem Im(a b:Vl)(hA:Big a)(hB:Big b):av Tryz.prog 3 [aj a,aj b] [] (.bool true) []:=by
 have t60:Int.toNat 60=60:=rfl
 have hal:=hA.len
 have hbl:=hB.len
 refine u_.bR (T:=bA Tryz.prog [(9,AP),(8,Dl),(11,yJ),(12,yO),(10,yP)]) 0 hD (ay (af JB (af Vm (af Ia (af Nf (af Ng au)))))) bE (by decide) λQ hQ=>?_
 cases fa:vV a 60
 ·(conv=>arg 4;cbv);simp (maxSteps:=400000) only[↓aA,aB,BEq.rfl,seval,hQ,↓vH,↓Dl,t60,fa]
  repeat' (first | omega | exact hA.txt | refine⟨?_,?_⟩)
 cases fb:vV b 60
 ·(conv=>arg 4;cbv);simp (maxSteps:=400000) only[↓aA,aB,BEq.rfl,seval,hQ,↓vH,↓Dl,t60,fa,fb]
  repeat' (first | omega | exact hA.txt | exact hB.txt | refine⟨?_,?_⟩)
 obtain⟨ga,la⟩:=Qp fa
 obtain⟨gb,lb⟩:=Qp fb
 obtain⟨hap,_⟩:=aat ga gb la lb
 have hel:YM (iO a b):=⟨by have:=hap.acr;omega,λe he=>⟨by have:=(hap.all e he).1.ze.len;omega,by have:=(hap.all e he).2.1;omega⟩⟩
 have ra:Ir a:=⟨ga.vok,by omega,ga.nm⟩
 have rb:Ir b:=⟨gb.vok,by omega,gb.nm⟩
 have htr:decide (iO a b=iO a b)=true:=by simp
 (conv=>arg 4;cbv);simp (maxSteps:=400000) only[↓aA,aB,BEq.rfl,seval,hQ,↓vH,↓Dl,t60,fa,fb,↓yJ,↓yO,↓yP,htr]
 exact⟨by omega,hA.txt,by omega,hB.txt,ga.vok,gb.vok,ra,rb,hel,hel⟩
end Lp
namespace Lp
open Go Go.Proofs
theorem YN(a b:Vl)(hA:Big a)(hB:Big b):av Tryz.prog 3 [aj a,aj b] [] (.bool true) []:=Im a b hA hB
end Lp
namespace Lp
open Go Go.Proofs Go.Shelf Go.RowKit Go.Lib Go.ChangeAt
def YO:List (String×DataW Unit):=[("unicode/utf8.acceptRanges",Lib.acceptData),("unicode/utf8.first",Lib.firstData)]
noncomputable def V9 (os:Os):World:=
 let w0:=World.holding Tryz.prog os ⟨#[],#[],[]⟩
 let put (h:Array Go.Obj) (g:Nat) (cs:Array Value):Array Go.Obj:=h.modify g λ
  | .cells _ t frozen=>.cells cs t frozen
  | o=>o
 let h1:=put w0.heap 0 (Lib.firstTab.map λz=>Value.int .u8 z).toArray
 let h2:=put h1 1 ((List.range 16).flatMap λi=>[Value.int .u8 (Lib.accLo i),Value.int .u8 (Lib.accHi i)]).toArray
 { w0 with heap:=h2 }
theorem ad9(os:Os)(args:Array Value):laidMet Tryz.prog YO ((V9 os).forCall (λ_ _=>0) ⟨#[],args,[]⟩).memory:=
 (LaidIn.of_run (l:=YO) [1,0] 8 (by kernel_rfl) (by kernel_rfl) (by kernel_rfl) (by kernel_rfl)).met
theorem V_{w W:World}(h:w.heap=W.heap)(hT:Lib.Utf8Tabs 0 1 W):Lib.Utf8Tabs 0 1 w:=by
 have e:∀b:Nat,w.heap[b]?=W.heap[b]?:=λb=>by rw[h]
 refine⟨λc hc=>?_,λi hi=>⟨?_,?_⟩⟩
 ·rw[pU (e 0)];exact hT.1 c hc
 ·rw[pU (e 1)];exact (hT.2 i hi).1
 ·rw[pU (e 1)];exact (hT.2 i hi).2
theorem acE{W:World}(h:laidMetH Tryz.prog YO W):mr.holds W.heap:=by
 have hT:Lib.Utf8Tabs 0 1 W:=
  utf8Tabs_of_readsT (U8Types.of196 Tryz.L6) ⟨by kernel_rfl,by kernel_rfl,by kernel_rfl,by kernel_rfl,by kernel_rfl,by kernel_rfl,by kernel_rfl⟩ (Lib.laidMet.reads h (.tail _ (.head _))) (Lib.laidMet.reads h (.head _))
 intro w hw
 exact V_ hw hT
structure aeY (l:List (List UInt8)):Prop where
 len:l.length≤1152921504606846976
 all:∀s∈l,s.length≤4611686018427387904
end Lp
namespace Lp
open Go
theorem fT{a b:Bool}(ha:a=true)(hb:b=true):(a && b)=true:=by rw[ha,hb];rfl
theorem acF{P:Program}{f:FuncId}{fn:Func}{s:ChangeSpec}{c:OpenClaim}
  (h0:(c.wf (OpenSpec.ofChange s))=true)
  (h1:(laidOutB P)=true)
  (h2:(mapsRowed P)=true)
  (h3:(fn.params.all (P.readableRec ·))=true)
  (h4:(namedTie P c.named s.vars)=true)
  (h5:((c.stops==[]))=true)
  (h6:((P.stops==[]))=true)
  (h7:((c.knobs==[]))=true)
  (h8:((P.stopKnobs==[]))=true)
  (h9:((c.inPlace==P.inPlace f))=true)
  (h10:((c.unfollowed==P.unfollowed f))=true)
  (h11:((c.recurses==P.recurses f))=true)
  (h12:((c.named==P.varsNamed f))=true)
  (h13:((c.maps==(fn.params.toList++s.plain.varTypes P).any (P.mapsRec ·)))=true)
  (h14:((c.ifaces==(fn.params.toList++s.plain.varTypes P).any (P.ifacesRec ·)))=true)
  (h15:((c.mapsOut==P.mapsAmong fn.resultTypes.toList))=true)
  (h16:((c.loops==(fn.params.toList++s.plain.varTypes P).any (P.loopsFrom ·)))=true)
  (h17:((c.wideKeys==(fn.params.toList++s.plain.varTypes P++fn.resultTypes.toList).any (P.wideKeysFrom ·)))=true)
  (h18:(s.vars.all (P.varReadable ·))=true)
  (h19:(fn.resultTypes.all (λt=>P.readableRec t && decide (t<P.types.size)))=true)
  (h20:((c.ifacesOut==fn.resultTypes.toList.any (P.ifacesRec ·)))=true)
  (h21:((c.loopsOut==fn.resultTypes.toList.any (P.loopsFrom ·)))=true)
  (h22:((c.plainKeys==P.plainKeys))=true)
  (h23:(c.shortTexts.isNone)=true)
  (h24:(P.stopsHeard)=true)
  (h25:(P.mayEnter)=true)
  (h26:((c.lifted==P.liftsFinal))=true)
  (h27:((P.make==some c.make))=true)
  (h28:((c.kinds==(if c.domain.isEmpty then [] else fn.params.toList.map λt=>match P.underlying t with | some (.int k)=>some k | _=>none)))=true)
  (h29:((c.pinned==c.pinnedBy))=true)
  (h30:((c.veiled==(fn.params.toList++s.plain.varTypes P++fn.resultTypes.toList).any (P.veiledRec ·)))=true)
  (h31:(c.veiledFits P fn.params.toList (fn.params.toList++s.plain.varTypes P++fn.resultTypes.toList))=true):joinedFacts P f fn s c=true:=by
 unfold joinedFacts
 exact (fT (fT (fT (fT (fT (fT (fT (fT (fT (fT (fT (fT (fT (fT (fT (fT (fT (fT (fT (fT (fT (fT (fT (fT (fT (fT (fT (fT (fT (fT (fT h0 h1) h2) h3) h4) h5) h6) h7) h8) h9) h10) h11) h12) h13) h14) h15) h16) h17) h18) h19) h20) h21) h22) h23) h24) h25) h26) h27) h28) h29) h30) h31)
end Lp
