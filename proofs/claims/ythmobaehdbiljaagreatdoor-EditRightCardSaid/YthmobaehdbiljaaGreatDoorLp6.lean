/-
  Part 6 of what the statement rests on: LpEdB, LpEk2, LpC17, LpEm5, LpEn1, LpRdE, LpTie, LpJn. No condition.
-/
import Derived.Test.YthmobaehdbiljaaGreatDoorLp5
import Derived.Lib.LaidIn
import Derived.Lib.LaidU8T
import Derived.Deep.DeepHandedRow
import Derived.Deep.DeepWitnessRowRef
import Derived.ProofKit
import Derived.SizedLaws
import Derived.JoinedCond
import Derived.JoinedOf

set_option linter.all false
set_option maxHeartbeats 8000000
set_option maxRecDepth 100000
namespace Lp
open Go Go.Proofs
def mU(a b:Vl):List Ed:=bG 20 [] a b
theorem JB(a b:Vl)(ha:rP a)(hb:rP b):n_ Tryz.prog 44 [.addr (ak a),.addr (ak b)] (iF (mU a b)):=by
 refine Dx.Yo (fnT:=jR []) hD au bM λI J objs y hI g_ iE=>?_
 obtain⟨N,hN⟩:∃N,objs.length=N:=⟨_,rfl⟩
 rw[hN]at g_ iE ⊢
 have hg:=zF 20 [] a b rfl ha hb
 (conv=>arg 4;cbv);simp (maxSteps:=400000) only[↓aA,aB,BEq.rfl,seval,BL]
 refine Eh (n:=N) (i:=0) (bargs:=[.sl 0 [] (some true),ak a,ak b]) rfl rfl rfl rfl g_ iE (lQ (by simp only[RD,RY,P6,Bool.and_self])) rfl rfl hg hI (λj c hj=>by rw[Nat.zero_add];exact hj) (λO1 hI1=>?_) λj O1 hj rQ=>?_
 ·simp (maxSteps:=400000) only[↓aA,aB,BEq.rfl,seval]
  rw[Nat.zero_add]at hI1
  exact⟨.inl rfl,.inl hI1⟩
 ·simp (maxSteps:=400000) only[↓aA,aB,BEq.rfl,seval]
  rw[Nat.zero_add]at rQ
  exact⟨.inl rfl,.inr ⟨j,hj,rQ⟩⟩
theorem OP(a b:Vl):av Tryz.prog 25 [ak a,ak b] [] (.fn 44 [] [.addr (ak a),.addr (ak b)]) []:=by
 refine Iz.cZ (T:=bH Tryz.prog []) 1 hD (ax au) bM (by decide) λQ hQ=>?_
 (conv=>arg 4;cbv);simp (maxSteps:=400000) only[↓aA,aB,BEq.rfl,seval,hQ]
 rfl
theorem rT(e:Ed):∃(k:Int) (P V:PV),mI e=.agg [.int .i64 k,P,V]∧(P.cells=[P]∧P.isAgg=false∧P.storable=true∧P.ref=false)∧V.cells=[V]∧V.isAgg=false∧V.storable=true∧V.ref=false:=by
 refine⟨e.kind,bO e.p,_,rfl,⟨(vN e.p).2.2.2.1,(vN e.p).2.2.2.2.1,(vN e.p).2.2.2.2.2.2.2,(vN e.p).2.2.2.2.2.1⟩,?_⟩
 split
 all_goals exact⟨rfl,rfl,rfl,rfl⟩
def UO(es:List Ed)(i ver:Nat):List Obj:=[⟨38,3,(es.take i).map mI,true,ver⟩,⟨27,1,[.aW 0 ver],true,1⟩]
theorem WA(es:List Ed)(i ver:Nat):bq (UO es i ver):=by
 intro o ho x hx c hc
 simp only[UO,List.mem_cons,List.not_mem_nil,or_false]at ho
 rcases ho with rfl | rfl
 ·obtain⟨e,_,rfl⟩:=List.mem_map.1 hx
  obtain⟨k,P,V,he,⟨_,_,_,hP⟩,_,_,_,hV⟩:=rT e
  rw[he]at hc
  simp only[PV.cells,List.mem_cons,List.not_mem_nil,or_false]at hc
  have nr:∀c:PV,c.ref=false→c.nO 2=true:=λc h=>by cases c<;>first | rfl | (simp[PV.ref]at h)
  rcases hc with rfl | rfl | rfl
  ·rfl
  ·exact nr _ hP
  ·exact nr _ hV
 ·simp only[List.mem_singleton]at hx;subst hx
  simp only[PV.cells,List.mem_singleton]at hc;subst hc;rfl
theorem xM{d n:Nat}{O:List Obj}{p:PV}(h:p.ref=false):kr d n O p=p:=by
 cases p<;>first | (simp[PV.ref]at h;done) | (cases d<;>rfl)
theorem AJ{d n:Nat}{O:List Obj}{p:PV}(h:p.ref=false):fB d n O p=p:=by
 cases p<;>first | (simp[PV.ref]at h;done) | rfl
theorem inQ:wF mI:=by
 intro d n O e
 obtain⟨k,P,V,he,⟨_,_,_,hP⟩,_,_,_,hV⟩:=rT e
 rw[he]
 show PV.agg [kr d n O (.int .i64 k),kr d n O P,kr d n O V]=_
 rw[xM hP,xM hV,xM rfl]
theorem UQ(d n:Nat)(O:List Obj)(l:List Ed):(l.map mI).map (PV.bI (fB d n O))=l.map mI:=by
 rw[List.map_map]
 refine List.map_congr_left λe _=>?_
 obtain⟨k,P,V,he,⟨_,_,_,hP⟩,_,_,_,hV⟩:=rT e
 show PV.bI (fB d n O) (mI e)=_
 rw[he]
 show PV.agg [fB d n O (.int .i64 k),fB d n O P,fB d n O V]=_
 rw[AJ hP,AJ hV,AJ rfl]
theorem edZ:PV.uR (.agg ⟨[.int .i64 0,.slice none 0 0,.slice none 0 0]⟩)=.agg [.int .i64 0,.sl 0 [] (some true),.sl 0 [] (some true)]:=rfl
theorem agP(a b c x y z:PV):(PV.agg [a,b,c]).putCells 0 [x,y,z]=.agg [x,y,z]:=rfl
theorem FL(a b:Vl)(ha:rP a)(hb:rP b)(hl:(mU a b).length≤1000000000):av Tryz.prog 43 [.sl 0 [] (some true),.fn 44 [] [.addr (ak a),.addr (ak b)]] [] (.sl 3 ((mU a b).map mI) none) []:=by
 refine iK.cZ (T:=bH Tryz.prog []) 1 hD (ax au) bM (by decide) λQ hQ=>?_
 (conv=>arg 4;cbv);simp (maxSteps:=400000) only[↓aA,aB,BEq.rfl,seval,hQ]
 refine aY _ (Weak.Gf 0 38 3 rfl (by decide)) ?_
 simp (maxSteps:=400000) only[↓aA,aB,BEq.rfl,seval,hQ]
 obtain⟨es,hes⟩:∃es,mU a b=es:=⟨_,rfl⟩
 have hgE:=JB a b ha hb
 rw[hes]at hQ hl hgE
 refine VP 44 [.addr (ak a),.addr (ak b)] (iF es) (λi O=>i≤es.length∧∃ver,O=UO es i ver) rfl rfl rfl (Nat.le_refl _) hgE (λy hy=>?_) ⟨Nat.zero_le _,0,rfl⟩ ?_ ?_ ?_
 ·obtain⟨e,_,rfl⟩:=List.mem_map.1 hy
  rfl
 ·rintro i O ⟨_,ver,rfl⟩
  exact⟨rfl,WA es i ver⟩
 ·rintro i args O ⟨hi,ver,rfl⟩ Ml
  simp only[iF,List.getElem?_map]at Ml
  cases hei:es[i]? with
  | none=>rw[hei]at Ml;cases Ml
  | some e=>
   rw[hei]at Ml
   simp only[Option.map_some,Option.some.injEq]at Ml
   subst Ml
   have hil:=(List.getElem?_eq_some_iff.1 hei).1
   have htk:es.take (i+1)=es.take i++[e]:=by rw[List.take_add_one,hei];rfl
   obtain⟨k,P,V,he,hP,hV⟩:=rT e
   rw[he]
   simp (maxSteps:=400000) only[↓aA,aB,BEq.rfl,seval,hQ,iI,Sn,UO,hP,hV,edZ,agP,Eb,List.take_succ_cons,List.take_zero]
   have htl:=List.length_take_le i es
   refine⟨vO k P V hP.2.2.2 hV.2.2.2,by omega,by omega,?_⟩
   refine And.intro (by omega) (Exists.intro (ver+1) ?_)
   show [eO 0 2 _ _,eO 0 2 _ _]=_
   rw[PS _ (by decide)]
   refine congrArg (λz=>[z,_]) ?_
   have hrow:List.map mI (List.take i es)++[PV.agg [PV.int IntKind.i64 k,P,V]]=List.map mI (List.take (i+1) es):=by rw[htk,List.map_append,←he];rfl
   rw[hrow]
   simp only[eO,UQ]
 ·rintro O ⟨_,ver,rfl⟩
  rw[fF]
  simp (maxSteps:=400000) only[↓aA,aB,BEq.rfl,seval,hQ,UO,List.take_length]
  exact ((iw (E:=λl:List Ed=>.sl 3 (l.map mI) none) (λ_=>rfl) inQ).1 0 38 es ver _).symm
def P8:fu:=λargs objs K=>∃a b:Vl,args=[.sl 0 [] (some true),.fn 44 [] [.addr (ak a),.addr (ak b)]]∧rP a∧rP b∧(mU a b).length≤1000000000∧K (.sl 3 ((mU a b).map mI) none) objs 0
theorem OQ:aQ Tryz.prog 43 P8:=by
 rintro args objs K ⟨a,b,rfl,h1,h2,h3,hk⟩
 exact⟨_,_,_,.pure _ rfl (FL a b h1 h2 h3),hk⟩
theorem FM(a b:Vl)(ha:rP a)(hb:rP b)(hl:(mU a b).length≤1000000000):av Tryz.prog 24 [.fn 44 [] [.addr (ak a),.addr (ak b)]] [] (.sl 3 ((mU a b).map mI) none) []:=by
 refine ol.cZ (T:=bH Tryz.prog [(43,P8)]) 0 hD (ax (af OQ au)) bM (by decide) λQ hQ=>?_
 (conv=>arg 4;cbv);simp (maxSteps:=400000) only[↓aA,aB,BEq.rfl,seval,hQ]
 refine⟨a,b,rfl,ha,hb,hl,?_⟩
 simp (maxSteps:=400000) only[↓aA,aB,BEq.rfl,seval,hQ]
def P9:fu:=λargs objs K=>∃a b:Vl,args=[.fn 44 [] [.addr (ak a),.addr (ak b)]]∧rP a∧rP b∧(mU a b).length≤1000000000∧K (.sl 3 ((mU a b).map mI) none) objs 0
theorem OT:aQ Tryz.prog 24 P9:=by
 rintro args objs K ⟨a,b,rfl,h1,h2,h3,hk⟩
 exact⟨_,_,_,.pure _ rfl (FM a b h1 h2 h3),hk⟩
def zG:fu:=λargs objs K=>match args with
 | [a0,a1]=>jF ak a0 (HK.mk:HK λa=>jF ak a1 (HK.mk:HK λb=>K (.fn 44 [] [.addr (ak a),.addr (ak b)]) objs 0))
 | _=>False
theorem Mt:aQ Tryz.prog 25 (zG):=by
 intro args objs K h
 unfold zG at h
 split at h
 ·rename_i a0 a1
  obtain⟨a,rfl,b,rfl,hk⟩:=h
  exact⟨_,_,_,.pure _ rfl (OP a b),hk⟩
 ·exact h.elim
end Lp
namespace Lp
open Go Go.Proofs
theorem R9{sz:Nat}{xs ys:List PV}(hl:xs.length=ys.length)(hc:∀(i:Nat) (x y:PV),xs[i]?=some x→ys[i]?=some y→x.cells.length=y.cells.length∧∀(j:Nat) (p q:PV),x.cells[j]?=some p→y.cells[j]?=some q→eY p q):eY (.sl sz xs none) (.sl sz ys none):=by
 have px:∀(i:Nat) (y:PV),ys[i]?=some y→∃x,xs[i]?=some x:=λi y h=>by
  have hi:i<xs.length:=by rw[hl];exact (List.getElem?_eq_some_iff.1 h).1
  exact⟨_,List.getElem?_eq_getElem hi⟩
 have pc:∀{x y:PV},x.cells.length=y.cells.length→∀(j:Nat) (q:PV),y.cells[j]?=some q→∃p,x.cells[j]?=some p:=λ{x y} h j q hq=>by
  have hi:j<x.cells.length:=by rw[h];exact (List.getElem?_eq_some_iff.1 hq).1
  exact⟨_,List.getElem?_eq_getElem hi⟩
 have z:∀{l m:List PV},l.length=m.length→l=[]→m=[]:=λ{l m} h e=>List.length_eq_zero_iff.1 (by rw[←h,e];rfl)
 intro w ok v h
 cases h with
 | slnil _ _ _=>rw[z hl rfl];exact .slnil sz none (by decide)
 | Cy _ _ _ a cap hcap=>rw[z hl rfl];exact .Cy sz none (by decide) a cap hcap
 | sl _ _ _ _ b off cap vs hok hlen hcap hsz hcell hrep=>
  rw[hl]
  refine .sl sz ys none (by decide) b off cap vs (λhy=>hok λe=>hy (z hl e)) (by omega) hcap (λi y hy=>?_) (λi y j q hy hq=>?_) λi y j q hy hq=>?_
  ·obtain⟨x,hx⟩:=px i y hy
   rw[←(hc i x y hx hy).1];exact hsz i x hx
  ·obtain⟨x,hx⟩:=px i y hy
   obtain⟨p,hp⟩:=pc (hc i x y hx hy).1 j q hq
   exact hcell i x j p hx hp
  ·obtain⟨x,hx⟩:=px i y hy
   obtain⟨p,hp⟩:=pc (hc i x y hx hy).1 j q hq
   exact (hc i x y hx hy).2 j p q hp hq _ _ _ (hrep i x j p hx hp)
theorem OU(l:List Ed)(hl:∀e∈l,e.kind=2→e.v=[]):eY (.sl 3 (l.map mI) none) (jG l):=by
 refine R9 (by simp) λi x y hx hy=>?_
 rw[List.getElem?_map]at hx hy
 cases he:l[i]? with
 | none=>rw[he]at hx;cases hx
 | some e=>
  rw[he]at hx hy
  cases hx;cases hy
  have h:=hl e (List.mem_of_getElem? he)
  unfold mI oz jy
  refine⟨rfl,λj p q hp hq=>?_⟩
  match j,hp,hq with
  | 0,hp,hq=>cases hp;cases hq;exact .refl _
  | 1,hp,hq=>cases hp;cases hq;exact LV _
  | 2,hp,hq=>
   cases hp;cases hq
   split
   ·rename_i h2;rw[h h2];exact ig 0 6
   ·exact .refl _
  | _+3,hp,_=>simp[PV.cells]at hp
theorem OV(a b:Vl)(ha:rP a)(hb:rP b):av Tryz.prog 11 [ak a,ak b] [] (.sl 3 ((mU a b).map mI) none) []:=by
 have hl:=xJ 20 [] a b ha.rt hb.rt
 have h1:=ha.len
 have h2:=hb.len
 have hd:(mU a b).length≤1000000000:=by unfold mU;omega
 refine KO.cZ (T:=bH Tryz.prog [(25,zG),(24,P9)]) 0 hD (ax (af Mt (af OT au))) bM (by decide) λQ hQ=>?_
 (conv=>arg 4;cbv);simp (maxSteps:=400000) only[↓aA,aB,BEq.rfl,seval,hQ,↓zG]
 refine⟨a,b,rfl,ha,hb,hd,?_⟩
 simp (maxSteps:=400000) only[↓aA,aB,BEq.rfl,seval,hQ]
theorem R_(a b:Vl)(ha:rP a)(hb:rP b):av Tryz.prog 11 [ak a,ak b] [] (jG (mU a b)) []:=
 (OV a b ha hb).res (OU _ λe he=>uG 20 [] a b e he)
def Ck:fu:=λargs objs K=>match args with
 | [a0,a1]=>jF ak a0 (HK.mk:HK λa=>jF ak a1 (HK.mk:HK λb=>(rP a)∧(rP b)∧K (jG (mU a b)) objs 0))
 | _=>False
theorem OW:aQ Tryz.prog 11 (Ck):=by
 intro args objs K h
 unfold Ck at h
 split at h
 ·rename_i a0 a1
  obtain⟨a,rfl,b,rfl,h1,h2,hk⟩:=h
  exact⟨_,_,_,.pure _ rfl (R_ a b h1 h2),hk⟩
 ·exact h.elim
end Lp
namespace Lp
open Go Go.Proofs
theorem xN:aX Tryz.prog 9 69 [.tmp 0] (gen [] [] [2] Tryz.f9):=bT Tryz.func9 rfl (by kernel_rfl)
theorem AL:aX Tryz.prog 13 87 [.tmp 2] (gen [] [(9,none),(25,none),(41,none)] [] Tryz.f13):=bT Tryz.func13 rfl (by kernel_rfl)
theorem rU:aX Tryz.prog 6 72 [.tmp 4] (gen [] [(227,none)] [] Tryz.f6):=bT Tryz.func6 rfl (by kernel_rfl)
end Lp
namespace Lp
open Go Go.Proofs
open List (mem_cons not_mem_nil)
def Y7:Nd:=⟨3,0,[],[49],false,0⟩
def UR:Nd:=⟨3,0,[],[50],false,0⟩
def Mv:Nd:=⟨3,0,[],[51],false,0⟩
def aa_:Nd:=⟨5,2,[],[],false,0⟩
def wO:Vl:=[aa_,Y7,UR]
def EA:Vl:=[aa_,UR,Mv]
theorem OX:bK wO=true∧bK EA=true∧mU wO EA=[⟨2,[⟨true,[],0⟩],[]⟩,⟨1,[⟨true,[],1⟩],[Mv]⟩]∧m_ wO [⟨2,[⟨true,[],0⟩],[]⟩,⟨1,[⟨true,[],1⟩],[Mv]⟩]=(EA,0)∧h_ wO ⟨2,[⟨true,[],2⟩],[]⟩=([],6):=by decide +kernel
def JC:fu:=λargs objs K=>∃v p,args=[ak v,oz 2 (bJ p) (.sl 0 [] (some true))]∧Bt v ⟨2,p,[]⟩∧K (.bP [ak (h_ v ⟨2,p,[]⟩).1,.int .i64 (h_ v ⟨2,p,[]⟩).2]) objs 0
theorem OY:aQ Tryz.prog 17 JC:=by
 rintro args objs K ⟨v,p,rfl,h,hk⟩
 refine⟨_,_,_,.pure _ rfl ((Mi v ⟨2,p,[]⟩ h).arg rfl λi x y hx hy=>?_),hk⟩
 match i with
 | 0=>cases hx;cases hy;exact .refl _
 | 1=>
  cases hx;cases hy
  refine .agg rfl λi x y hx hy=>?_
  match i with
  | 0=>cases hx;cases hy;exact .refl _
  | 1=>cases hx;cases hy;exact .refl _
  | 2=>cases hx;cases hy;exact ig 0 6
  | _+3=>simp at hx
 | _+2=>simp at hx
theorem abb(v:Vl)(p:List Stp)(objs:List Obj)(K:KT):JC [ak v,oz 2 (bJ p) (.sl 0 [] (some true))] objs K=(Bt v ⟨2,p,[]⟩∧K (.bP [ak (h_ v ⟨2,p,[]⟩).1,.int .i64 (h_ v ⟨2,p,[]⟩).2]) objs 0):=by
 refine propext ⟨?_,λh=>⟨v,p,rfl,h⟩⟩
 rintro⟨v',p',he,h⟩
 simp only[oz,List.cons.injEq,PV.agg.injEq,true_and,and_true]at he
 obtain rfl:=kP _ _ he.1
 obtain rfl:=j4 _ _ he.2
 exact h
theorem zSl:(PV.uR (.agg ⟨[.bool false,.string ⟨⟨[]⟩⟩,.int .i64 0]⟩)).cells.length=3∧(PV.uR (.agg ⟨[.bool false,.string ⟨⟨[]⟩⟩,.int .i64 0]⟩)).cells.all PV.storable=true:=⟨rfl,rfl⟩
theorem UU{v:Vl}(h:Rt v)(hl:v.length≤1000000)(hn:Nm v):rP v:=⟨h,hl,λn h=>(hn n h).2⟩
theorem UW{v:Vl}(hl:v.length≤1000000)(hn:Nm v):Small v:=⟨hl,λn h=>⟨(hn n h).1,by have:=(hn n h).2;omega⟩⟩
theorem WB:Nm wO∧Nm EA∧Nm [Mv]∧Nm []:=by
 refine⟨λn h=>?_,λn h=>?_,λn h=>?_,λn h=>by cases h⟩
 all_goals
  simp only[wO,EA,mem_cons,not_mem_nil,or_false]at h
 ·rcases h with rfl | rfl | rfl<;>decide
 ·rcases h with rfl | rfl | rfl<;>decide
 ·subst h;decide
theorem xO:Small [Mv]∧Small []:=by
 refine⟨⟨by decide,λn h=>?_⟩,⟨by decide,λn h=>by cases h⟩⟩
 simp only[mem_cons,not_mem_nil,or_false]at h
 subst h;decide
theorem EB(n:Int):XR [⟨true,[],n⟩]:=⟨by simp,λs h=>by simp only[mem_cons,not_mem_nil,or_false]at h;subst h;simp⟩
theorem abd(a b c:Nd):(fB 1 0 [⟨46,6,[aM a],true,1⟩,⟨46,6,[aM b],true,1⟩,⟨46,6,[aM c],true,1⟩] (.aT 0 1 0 0)=.addr (aM a))∧
  (fB 1 0 [⟨46,6,[aM a],true,1⟩,⟨46,6,[aM b],true,1⟩,⟨46,6,[aM c],true,1⟩] (.aT 1 1 0 0)=.addr (aM b))∧
  (fB 1 0 [⟨46,6,[aM a],true,1⟩,⟨46,6,[aM b],true,1⟩,⟨46,6,[aM c],true,1⟩] (.aT 2 1 0 0)=.addr (aM c)):=⟨rfl,rfl,rfl⟩
theorem JD:av Tryz.prog 9 [] [] (.bool true) []:=by
 refine xN.cZ (T:=bH Tryz.prog [(11,Ck),(14,qx),(17,JC),(16,vC)]) 1 hD (ax (af OW (af Bu (af OY (af DK au))))) bM (by decide) λQ hQ=>?_
 obtain⟨rA,rB,f1,f2,f3⟩:=OX
 have e1:(⟨3,0,[],[49],false,0⟩:Nd)=Y7:=rfl
 have e2:(⟨3,0,[],[50],false,0⟩:Nd)=UR:=rfl
 have e3:(⟨3,0,[],[51],false,0⟩:Nd)=Mv:=rfl
 have eA:([⟨5,2,[],[],false,0⟩,Y7,UR]:Vl)=wO:=rfl
 have eB:([⟨5,2,[],[],false,0⟩,UR,Mv]:Vl)=EA:=rfl
 (conv=>arg 4;cbv);simp (maxSteps:=400000) only[↓aA,aB,BEq.rfl,seval,hQ,XI,XJ,e1,e2,e3]
 refine aY _ (Weak.freeze 1 0 (Nat.zero_le _) _) ?_
 simp (maxSteps:=400000) only[↓aA,aB,BEq.rfl,seval,hQ,abd,eA,eB,↓Ck,↓qx,↓vC,kY,f1,f2,f3,Aw,abb,zSl,YN,YO]
 obtain⟨nA,nB,n3,n0⟩:=WB
 have sA:=ni rA
 have sB:=ni rB
 have vA:rP wO:=UU sA (by decide) nA
 have vB:rP EA:=UU sB (by decide) nB
 have hap:uK wO [⟨2,[⟨true,[],0⟩],[]⟩,⟨1,[⟨true,[],1⟩],[Mv]⟩]:=by
  refine⟨sA,nA,by decide,λe he=>?_,by decide⟩
  simp only[mem_cons,not_mem_nil,or_false]at he
  rcases he with rfl | rfl
  ·exact⟨⟨EB _,xO.2⟩,by decide,n0⟩
  ·exact⟨⟨EB _,xO.1⟩,by decide,n3⟩
 have hon:Bt wO ⟨2,[⟨true,[],2⟩],[]⟩:=⟨sA,by decide,nA,⟨EB _,xO.2⟩,by decide,n0⟩
 exact⟨vA,vB,hap,hon,vB.len,vB.len⟩
def xP:fu:=λargs objs K=>args=[]∧K (.bool true) objs 0
theorem FN:aQ Tryz.prog 9 xP:=by
 rintro args objs K ⟨rfl,hk⟩
 exact⟨_,_,_,.pure _ rfl JD,hk⟩
theorem ng(objs:List Obj)(K:KT):xP [] objs K=K (.bool true) objs 0:=propext ⟨λh=>h.2,λh=>⟨rfl,h⟩⟩
end Lp
namespace Lp
open Go Go.Proofs
open List (all_eq_true getElem_mem map_nil)
def OZ(s:Stp):Bool:=decide (s.name.length≤60)
def JE(n:Nd):Bool:=decide (n.s.length≤100) && decide (n.name.length≤60)
def uM(e:Ed):Bool:=decide (e.v.length≤30) && decide (e.p.length≤30) && e.p.all OZ && e.v.all JE
def rY(l:List Ed):Bool:=decide (l.length≤20) && l.all uM
structure XU (e:Ed):Prop where
 aa2:e.p.length≤1152921504606846976
 abW:∀s∈e.p,s.name.length≤4611686018427387904
 ab4:e.v.length≤1152921504606846976
 abX:∀n∈e.v,n.s.length≤4611686018427387904∧n.name.length≤4611686018427387904
structure EC (l:List Ed):Prop where
 len:l.length≤1152921504606846976
 all:∀e∈l,XU e
theorem Cm{α:Type}{f:α→Bool}{l:List α}{x:α}{i:Nat}(hx:l[i]?=some x)(h:f x=false):l.all f=false:=by
 cases hp:l.all f with
 | false=>rfl
 | true=>rw[all_eq_true]at hp;rw[hp x (List.mem_of_getElem? hx)]at h;cases h
theorem ED{α:Type}{f:α→Bool}{l:List α}{x:α}{i:Nat}(hx:l[i]?=some x)(h0:(l.take i).all f=true)(h:f x=true):(l.take (i+1)).all f=true:=by
 rw[List.take_add_one,hx];simp[h0,h]
theorem O0(l:List Ed)(hl:EC l):av Tryz.prog 13 [jG l] [] (.bool (rY l)) []:=by
 refine AL.cZ (T:=bH Tryz.prog []) 0 hD (ax au) bM (by decide) λQ hQ=>?_
 have hll:=hl.len
 (conv=>arg 4;cbv);simp (maxSteps:=400000) only[↓aA,aB,BEq.rfl,seval,hQ]
 refine bA (λm S=>∃i:Nat,i+m=l.length∧i≤20∧(l.take i).all uM=true∧S=⟨dR 87 [(0,jG l),(3,.int .i64 i)],[]⟩) l.length ⟨0,by omega,by omega,by simp,?_⟩ ?_
 ·simp only[dX,keepR,Nat.reduceAdd,tK,Nat.reduceBEq,map_nil]
  rfl
 rintro m S ⟨i,him,hi20,hall,rfl⟩
 have zi:(0≤(i:Int))=True:=eq_true (by omega)
 rcases Nat.lt_or_ge i l.length with h | h
 rotate_left 1
 ·have hlt:((i:Int)<(l.length:Int))=False:=eq_false (by omega)
  have hr:rY l=true:=by
   rw[List.take_of_length_le h]at hall
   have:decide (l.length≤20)=true:=by simp;omega
   rw[rY,hall,this];rfl
  simp (maxSteps:=400000) only[↓aA,aB,BEq.rfl,seval,hQ,hlt,hr]
 have hlt:((i:Int)<(l.length:Int))=True:=eq_true (by omega)
 have hgi:=List.getElem?_eq_getElem h
 have hre:=hl.all _ (getElem_mem h)
 generalize l[i]=e at hgi hre
 have hbad:uM e=false→rY l=false:=λh=>by rw[rY,Cm hgi h,Bool.and_false]
 rcases tf (20≤(i:Int)) with h1 | h1
 ·have hr:rY l=false:=by
    have:decide (l.length≤20)=false:=by have:=of_eq_true h1;simp;omega
    rw[rY,this];rfl
  simp (maxSteps:=400000) only[↓aA,aB,BEq.rfl,seval,hQ,hlt,h1,hr]
 rcases tf (30<(e.v.length:Int)) with h2 | h2
 ·have hr:=hbad (by have:=of_eq_true h2;unfold uM;rw[show decide (e.v.length≤30)=false by simp;omega];rfl)
  simp (maxSteps:=400000) only[↓aA,aB,BEq.rfl,seval,hQ,hlt,zi,hgi,h1,h2,hr]
 rcases tf (30<(e.p.length:Int)) with h3 | h3
 ·have hr:=hbad (by have:=of_eq_true h3;unfold uM;rw[show decide (e.p.length≤30)=false by simp;omega];simp)
  simp (maxSteps:=400000) only[↓aA,aB,BEq.rfl,seval,hQ,hlt,zi,hgi,h1,h2,h3,hr]
 have h1':=of_eq_false h1
 have h2':=of_eq_false h2
 have h3':=of_eq_false h3
 simp (maxSteps:=400000) only[↓aA,aB,BEq.rfl,seval,hQ,hlt,zi,hgi,h1,h2,h3]
 refine bA (λm S=>∃k:Nat,k+m=e.p.length∧(e.p.take k).all OZ=true∧S=⟨dR 87 [(0,jG l),(3,.int .i64 i),(4,.int .i64 k)],[]⟩) e.p.length ⟨0,by omega,by simp,?_⟩ ?_
 ·simp only[dX,keepR,Nat.reduceAdd,tK,Nat.reduceBEq,map_nil]
  rfl
 rintro m2 S ⟨k,hkm,hpk,rfl⟩
 have zk:(0≤(k:Int))=True:=eq_true (by omega)
 rcases Nat.lt_or_ge k e.p.length with hk | hk
 ·have hlk:((k:Int)<(e.p.length:Int))=True:=eq_true (by omega)
  have XQ:=List.getElem?_eq_getElem hk
  have htx:=hre.abW _ (getElem_mem hk)
  generalize e.p[k]=s at XQ htx
  rcases tf (60<(s.name.length:Int)) with h4 | h4
  ·have hs:OZ s=false:=by have:=of_eq_true h4;simp[OZ];omega
   have hr:=hbad (by unfold uM;rw[Cm XQ hs];simp)
   simp (maxSteps:=400000) only[↓aA,aB,BEq.rfl,seval,hQ,zi,hgi,hlk,zk,XQ,h4,hr]
  ·have hs:OZ s=true:=by have:=of_eq_false h4;simp[OZ];omega
   simp (maxSteps:=400000) only[↓aA,aB,BEq.rfl,seval,hQ,zi,hgi,hlk,zk,XQ,h4]
   exact⟨⟨by omega,by omega⟩,m2-1,by omega,k+1,by omega,ED XQ hpk hs,by simp⟩
 have hlk:((k:Int)<(e.p.length:Int))=False:=eq_false (by omega)
 rw[List.take_of_length_le hk]at hpk
 simp (maxSteps:=400000) only[↓aA,aB,BEq.rfl,seval,hQ,zi,hgi,hlk]
 refine bA (λm S=>∃k:Nat,k+m=e.v.length∧(e.v.take k).all JE=true∧S=⟨dR 87 [(0,jG l),(3,.int .i64 i),(5,.int .i64 k)],[]⟩) e.v.length ⟨0,by omega,by simp,?_⟩ ?_
 ·simp only[dX,keepR,Nat.reduceAdd,tK,Nat.reduceBEq,map_nil]
  rfl
 rintro m3 S ⟨j,hjm,hvj,rfl⟩
 have zj:(0≤(j:Int))=True:=eq_true (by omega)
 rcases Nat.lt_or_ge j e.v.length with hj | hj
 ·have hlj:((j:Int)<(e.v.length:Int))=True:=eq_true (by omega)
  have hgj:=List.getElem?_eq_getElem hj
  have htx:=hre.abX _ (getElem_mem hj)
  generalize e.v[j]=n at hgj htx
  rcases tf (100<(n.s.length:Int)) with h4 | h4
  ·have hs:JE n=false:=by have:=of_eq_true h4;simp[JE];omega
   have hr:=hbad (by unfold uM;rw[Cm hgj hs];simp)
   simp (maxSteps:=400000) only[↓aA,aB,BEq.rfl,seval,hQ,zi,hgi,hlj,zj,hgj,h4,hr]
  rcases tf (60<(n.name.length:Int)) with h5 | h5
  ·have hs:JE n=false:=by have:=of_eq_true h5;simp[JE];omega
   have hr:=hbad (by unfold uM;rw[Cm hgj hs];simp)
   simp (maxSteps:=400000) only[↓aA,aB,BEq.rfl,seval,hQ,zi,hgi,hlj,zj,hgj,h4,h5,hr]
  ·have hs:JE n=true:=by have:=of_eq_false h4;have:=of_eq_false h5;simp[JE];omega
   simp (maxSteps:=400000) only[↓aA,aB,BEq.rfl,seval,hQ,zi,hgi,hlj,zj,hgj,h4,h5]
   exact⟨⟨by omega,by omega⟩,m3-1,by omega,j+1,by omega,ED hgj hvj hs,by simp⟩
 have hlj:((j:Int)<(e.v.length:Int))=False:=eq_false (by omega)
 rw[List.take_of_length_le hj]at hvj
 have hfe:uM e=true:=by
  unfold uM
  rw[hpk,hvj]
  simp;omega
 simp (maxSteps:=400000) only[↓aA,aB,BEq.rfl,seval,hQ,zi,hgi,hlj]
 exact⟨⟨by omega,by omega⟩,m-1,by omega,i+1,by omega,by omega,ED hgi hall hfe,by simp⟩
def uN:fu:=λargs objs K=>match args with
 | [a0]=>jF jG a0 (HK.mk:HK λl=>(EC l)∧K (.bool (rY l)) objs 0)
 | _=>False
theorem Mw:aQ Tryz.prog 13 (uN):=by
 intro args objs K h
 unfold uN at h
 split at h
 ·rename_i a0
  obtain⟨l,rfl,h1,hk⟩:=h
  exact⟨_,_,_,.pure _ rfl (O0 l h1),hk⟩
 ·exact h.elim
theorem WC{v:Vl}{k:Nat}(h:vR v k=true):Nm v:=λn hn=>by
 simp only[vR,Bool.and_eq_true,decide_eq_true_eq,all_eq_true]at h
 have:=h.1.2 n hn
 omega
theorem Mx{l:List Ed}(h:rY l=true):l.length≤20∧∀e∈l,ESz e∧e.v.length≤30∧Nm e.v:=by
 simp only[rY,Bool.and_eq_true,decide_eq_true_eq,all_eq_true]at h
 refine⟨h.1,λe he=>?_⟩
 have h1:=h.2 e he
 simp only[uM,Bool.and_eq_true,decide_eq_true_eq,all_eq_true]at h1
 obtain⟨⟨⟨h2,h3⟩,h4⟩,h5⟩:=h1
 have hp:∀s∈e.p,s.name.length≤60:=λs hs=>by have:=h4 s hs;simpa[OZ] using this
 have hv:∀n∈e.v,n.s.length≤100∧n.name.length≤60:=λn hn=>by have:=h5 n hn;simpa[JE] using this
 exact⟨⟨⟨by omega,λs hs=>by have:=hp s hs;omega⟩,⟨by omega,λn hn=>by have:=hv n hn;omega⟩⟩,by omega,λn hn=>by have:=hv n hn;omega⟩
theorem Hg{α:Type}{f:α→Nat}{k:Nat}:∀{l:List α},(∀x∈l,f x≤k)→(l.map f).sum≤k*l.length
 | [],_=>by simp
 | x::l,h=>by
  have h1:=h x (List.mem_cons_self ..)
  have h2:=Hg (l:=l) λy hy=>h y (List.mem_cons_of_mem _ hy)
  simp only[List.map_cons,List.sum_cons,List.length_cons,Nat.mul_add]
  omega
theorem Sb{v:Vl}{l:List Ed}(hv:vR v 60=true)(hl:rY l=true):uK v l:=by
 obtain⟨h1,h2⟩:=Od hv
 obtain⟨h3,h4⟩:=Mx hl
 refine⟨h1,WC hv,?_,λe he=>⟨(h4 e he).1,by have:=(h4 e he).2.1;omega,(h4 e he).2.2⟩,by omega⟩
 have:=Hg (f:=λe:Ed=>e.v.length) (k:=30) (l:=l) λe he=>(h4 e he).2.1
 omega
theorem EF(v:Vl)(l:List Ed)(hv:Big v)(hl:EC l):av Tryz.prog 6 [ak v,jG l] [] (.bool true) []:=by
 have t60:Int.toNat 60=60:=rfl
 have hvl:=hv.len
 refine rU.cZ (T:=bH Tryz.prog [(9,xP),(8,Ah),(13,uN),(14,qx),(17,uJ),(19,qi),(16,vC)]) 0 hD (ax (af FN (af Rf (af Mw (af Bu (af G9 (af Be (af DK au)))))))) bM (by decide) λQ hQ=>?_
 (conv=>arg 4;cbv);simp (maxSteps:=400000) only[↓aA,aB,BEq.rfl,seval,hQ]
 cases fv:vR v 60
 ·simp (maxSteps:=400000) only[↓aA,aB,BEq.rfl,seval,hQ,↓ng,↓Ah,t60,fv]
  repeat' (first | omega | exact hv.txt | refine⟨?_,?_⟩)
 cases fl:rY l
 ·simp (maxSteps:=400000) only[↓aA,aB,BEq.rfl,seval,hQ,↓ng,↓Ah,↓uN,t60,fv,fl]
  exact⟨by omega,hv.txt,hl⟩
 have hap:=Sb fv fl
 have hll:=hl.len
 simp (maxSteps:=400000) only[↓aA,aB,BEq.rfl,seval,hQ,↓Ah,↓uN,↓qx,t60,fv,fl,kY]
 refine⟨by omega,hv.txt,hl,hap,?_⟩
 refine bA (λm S=>∃(i:Nat) (w:Vl),i+m=l.length∧uK w (l.drop i)∧m_ v l=m_ w (l.drop i)∧S=⟨dR 72 [(0,ak w),(1,jG l),(5,ak (m_ v l).1),(6,.int .i64 (m_ v l).2),(7,.int .i64 i)],[]⟩) l.length ⟨0,v,by omega,hap,rfl,?_⟩ ?_
 ·simp only[dX,keepR,Nat.reduceAdd,tK,Nat.reduceBEq,map_nil]
  rfl
 rintro m S ⟨i,w,him,hw,hg,rfl⟩
 have zi:(0≤(i:Int))=True:=eq_true (by omega)
 rcases Nat.lt_or_ge i l.length with h | h
 ·have hlt:((i:Int)<(l.length:Int))=True:=eq_true (by omega)
  have hgi:=List.getElem?_eq_getElem h
  rw[List.drop_eq_getElem_cons h]at hg hw
  generalize l[i]=e at hgi hg hw
  rw[m_]at hg
  by_cases he:(h_ w e).2=0
  ·have he':=eq_true he
   rw[if_pos he]at hg
   have hnx:=hw.next he
   have hrt:=FP hnx.rt
   have hsm:Small (h_ w e).1:=UW (by have:=hnx.len;omega) hnx.nm
   simp (maxSteps:=400000) only[↓aA,aB,BEq.rfl,seval,hQ,hlt,zi,hgi,↓uJ,↓qi,kY,he',hrt]
   exact⟨hw.one,hsm,⟨by omega,by omega⟩,m-1,by omega,i+1,_,by omega,hnx,hg,by simp⟩
  ·have he':=eq_false he
   rw[if_neg he]at hg
   have hno:=UB he
   have g1:(m_ v l).1=[]:=by rw[hg]
   have g2:(m_ v l).2=(h_ w e).2:=by rw[hg]
   simp (maxSteps:=400000) only[↓aA,aB,BEq.rfl,seval,hQ,hlt,zi,hgi,↓uJ,↓ng,kY,he',hno,g1,g2]
   exact hw.one
 ·have hlt:((i:Int)<(l.length:Int))=False:=eq_false (by omega)
  rw[List.drop_eq_nil_of_le h,m_]at hg
  have g1:(m_ v l).1=w:=by rw[hg]
  have g2:(m_ v l).2=0:=by rw[hg]
  simp (maxSteps:=400000) only[↓aA,aB,BEq.rfl,seval,hQ,hlt,↓ng,↓vC,g1,g2]
  exact⟨by have:=hw.len;omega,by have:=hw.len;omega⟩
end Lp
namespace Lp
open Go Go.Proofs
theorem Y8:∃fs:Array Field,Tryz.prog.underlying 43=some (.struct fs)∧fs.toList.map (λf=>(f.offset,f.type))=[(0,4),(1,9),(2,3)]:=
 ⟨Tryz.prog.fieldsOf 43,by kernel_rfl,by kernel_rfl⟩
instance :Inhabited Stp:=⟨⟨false,[],0⟩⟩
instance :Inhabited Ed:=⟨⟨0,[],[]⟩⟩
theorem WE:Rd Tryz.prog 43 encS (λs:Stp=>s.name.length≤reachBytes):=by
 intro H eh w fuel cs x h hw
 obtain⟨fs,ht,hfs⟩:=Y8
 obtain⟨hl,hp⟩:=qU ht h hw
 rw[hfs]at hp
 have hc:Tryz.prog.cellsOf 43=3:=by kernel_rfl
 rw[hc]at hl
 match cs,hl with
 | [v0,v1,v2],_=>
  obtain⟨n0,y0,a0,b0⟩:=hp 0 0 4 rfl
  obtain⟨n1,y1,a1,b1⟩:=hp 1 1 9 rfl
  obtain⟨n2,y2,a2,b2⟩:=hp 2 2 3 rfl
  rw[one_cell Uj (v:=v0) rfl]at a0
  rw[one_cell D5 (v:=v1) rfl]at a1
  rw[one_cell Lm (v:=v2) rfl]at a2
  obtain⟨b,g0,r0⟩:=Rd.bool Ui eh w n0 _ _ a0 b0
  obtain⟨nm,g1,r1⟩:=Rd.str DZ eh w n1 _ _ a1 b1
  obtain⟨n,g2,r2⟩:=Rd.int Ll eh w n2 _ _ a2 b2
  refine⟨⟨b,nm,n⟩,g1,?_⟩
  exact nI (r0.2 0 _ _ rfl rfl) (nI (r1.2 0 _ _ rfl rfl) (nI (r2.2 0 _ _ rfl rfl) Lr))
theorem Y9:Tryz.prog.underlying 36=some (.slice 43):=by kernel_rfl
structure abe (p:List Stp):Prop where
 len:p.length≤1152921504606846976
 txt:∀s∈p,s.name.length≤4611686018427387904
theorem WG:Rd Tryz.prog 36 bJ abe:=by
 intro H eh w fuel cs x h hw
 obtain⟨v,⟨h1,h2⟩,h3⟩:=Rd.slice (sz:=3) Y9 WE (by kernel_rfl) (by decide) (λ_=>rfl) eh w fuel cs x h hw
 have hb:Tryz.prog.bytesOf 43=32:=by kernel_rfl
 rw[hb,reachBytes]at h1
 refine⟨v,⟨by omega,λn hn=>?_⟩,h3⟩
 have g:=h2 n hn
 rw[reachBytes]at g
 omega
theorem Y_:∃fs:Array Field,Tryz.prog.underlying 38=some (.struct fs)∧fs.toList.map (λf=>(f.offset,f.type))=[(0,3),(1,36),(2,23)]:=
 ⟨Tryz.prog.fieldsOf 38,by kernel_rfl,by kernel_rfl⟩
theorem WH:Rd Tryz.prog 38 jy XU:=by
 intro H eh w fuel cs x h hw
 obtain⟨fs,ht,hfs⟩:=Y_
 obtain⟨hl,hp⟩:=qU ht h hw
 rw[hfs]at hp
 have hc:Tryz.prog.cellsOf 38=3:=by kernel_rfl
 have cp:Tryz.prog.cellsOf 36=1:=by kernel_rfl
 have cv:Tryz.prog.cellsOf 23=1:=by kernel_rfl
 rw[hc]at hl
 match cs,hl with
 | [v0,v1,v2],_=>
  obtain⟨n0,y0,a0,b0⟩:=hp 0 0 3 rfl
  obtain⟨n1,y1,a1,b1⟩:=hp 1 1 36 rfl
  obtain⟨n2,y2,a2,b2⟩:=hp 2 2 23 rfl
  rw[one_cell Lm (v:=v0) rfl]at a0
  rw[one_cell cp (v:=v1) rfl]at a1
  rw[one_cell cv (v:=v2) rfl]at a2
  obtain⟨k,g0,r0⟩:=Rd.int Ll eh w n0 _ _ a0 b0
  obtain⟨p,g1,r1⟩:=WG eh w n1 _ _ a1 b1
  obtain⟨v,g2,r2⟩:=rd_val eh w n2 _ _ a2 b2
  refine⟨⟨k,p,v⟩,⟨g1.len,g1.txt,g2.len,g2.txt⟩,?_⟩
  exact nI (r0.2 0 _ _ rfl rfl) (nI (r1.2 0 _ _ rfl rfl) (nI (r2.2 0 _ _ rfl rfl) Lr))
theorem WI:Tryz.prog.underlying 27=some (.slice 38):=by kernel_rfl
theorem abf:Rd Tryz.prog 27 jG EC:=by
 intro H eh w fuel cs x h hw
 obtain⟨v,⟨h1,h2⟩,h3⟩:=Rd.slice (sz:=3) WI WH (by kernel_rfl) (by decide) (λ_=>rfl) eh w fuel cs x h hw
 have hb:Tryz.prog.bytesOf 38=56:=by kernel_rfl
 rw[hb,reachBytes]at h1
 exact⟨v,⟨by omega,h2⟩,h3⟩
theorem UX(v:Vl)(l:List Ed)(hv:Big v)(hl:EC l):av Tryz.prog 6 [ak v,jG l] [] (.bool true) []:=EF v l hv hl
end Lp
namespace Lp
open Go Go.Proofs Go.Shelf Go.RowKit Go.Lib Go.ChangeAt
def UY:List (String×DataW Unit):=[("unicode/utf8.acceptRanges",Lib.acceptData),("unicode/utf8.first",Lib.firstData)]
noncomputable def Sc (os:Os):World:=
 let w0:=World.holding Tryz.prog os ⟨#[],#[],[]⟩
 let put (h:Array Go.Obj) (g:Nat) (cs:Array Value):Array Go.Obj:=h.modify g λ
  | .cells _ t frozen=>.cells cs t frozen
  | o=>o
 let h1:=put w0.heap 0 (Lib.firstTab.map λz=>Value.int .u8 z).toArray
 let h2:=put h1 1 ((List.range 16).flatMap λi=>[Value.int .u8 (Lib.accLo i),Value.int .u8 (Lib.accHi i)]).toArray
 { w0 with heap:=h2 }
theorem abg(os:Os)(args:Array Value):laidMet Tryz.prog UY ((Sc os).forCall (λ_ _=>0) ⟨#[],args,[]⟩).memory:=
 (LaidIn.of_run (l:=UY) [1,0] 8 (by kernel_rfl) (by kernel_rfl) (by kernel_rfl) (by kernel_rfl)).met
theorem Sd{w W:World}(h:w.heap=W.heap)(hT:Lib.Utf8Tabs 0 1 W):Lib.Utf8Tabs 0 1 w:=by
 have e:∀b:Nat,w.heap[b]?=W.heap[b]?:=λb=>by rw[h]
 refine⟨λc hc=>?_,λi hi=>⟨?_,?_⟩⟩
 ·rw[ny (e 0)];exact hT.1 c hc
 ·rw[ny (e 1)];exact (hT.2 i hi).1
 ·rw[ny (e 1)];exact (hT.2 i hi).2
theorem Zw{W:World}(h:laidMetH Tryz.prog UY W):kV.holds W.heap:=by
 have hT:Lib.Utf8Tabs 0 1 W:=
  utf8Tabs_of_readsT (U8Types.of196 Tryz.IK) ⟨by kernel_rfl,by kernel_rfl,by kernel_rfl,by kernel_rfl,by kernel_rfl,by kernel_rfl,by kernel_rfl⟩ (Lib.laidMet.reads h (.tail _ (.head _))) (Lib.laidMet.reads h (.head _))
 intro w hw
 exact Sd hw hT
structure ab5 (l:List (List UInt8)):Prop where
 len:l.length≤1152921504606846976
 all:∀s∈l,s.length≤4611686018427387904
end Lp
namespace Lp
open Go
theorem fq{a b:Bool}(ha:a=true)(hb:b=true):(a && b)=true:=by rw[ha,hb];rfl
theorem Zx{P:Program}{f:FuncId}{fn:Func}{s:ChangeSpec}{c:OpenClaim}
  (h0:(c.wf (OpenSpec.ofChange s))=true)
  (h1:(laidOutB P)=true)
  (h2:(mapsRowed P)=true)
  (h3:(fn.params.all (P.readableRec ·))=true)
  (h4:(namedTie P c.named s.vars)=true)
  (h5:((c.stops==[]))=true)
  (h6:((P.stops==[]))=true)
  (h7:((c.knobs==[]))=true)
  (h8:((P.stopKnobs==[]))=true)
  (h9:((c.inPlace==P.inPlace f))=true)
  (h10:((c.unfollowed==P.unfollowed f))=true)
  (h11:((c.recurses==P.recurses f))=true)
  (h12:((c.named==P.varsNamed f))=true)
  (h13:((c.maps==(fn.params.toList++s.plain.varTypes P).any (P.mapsRec ·)))=true)
  (h14:((c.ifaces==(fn.params.toList++s.plain.varTypes P).any (P.ifacesRec ·)))=true)
  (h15:((c.mapsOut==P.mapsAmong fn.resultTypes.toList))=true)
  (h16:((c.loops==(fn.params.toList++s.plain.varTypes P).any (P.loopsFrom ·)))=true)
  (h17:((c.wideKeys==(fn.params.toList++s.plain.varTypes P++fn.resultTypes.toList).any (P.wideKeysFrom ·)))=true)
  (h18:(s.vars.all (P.varReadable ·))=true)
  (h19:(fn.resultTypes.all (λt=>P.readableRec t && decide (t<P.types.size)))=true)
  (h20:((c.ifacesOut==fn.resultTypes.toList.any (P.ifacesRec ·)))=true)
  (h21:((c.loopsOut==fn.resultTypes.toList.any (P.loopsFrom ·)))=true)
  (h22:((c.plainKeys==P.plainKeys))=true)
  (h23:(c.shortTexts.isNone)=true)
  (h24:(P.stopsHeard)=true)
  (h25:(P.mayEnter)=true)
  (h26:((c.lifted==P.liftsFinal))=true)
  (h27:((P.make==some c.make))=true)
  (h28:((c.kinds==(if c.domain.isEmpty then [] else fn.params.toList.map λt=>match P.underlying t with | some (.int k)=>some k | _=>none)))=true)
  (h29:((c.pinned==c.pinnedBy))=true)
  (h30:((c.veiled==(fn.params.toList++s.plain.varTypes P++fn.resultTypes.toList).any (P.veiledRec ·)))=true)
  (h31:(c.veiledFits P fn.params.toList (fn.params.toList++s.plain.varTypes P++fn.resultTypes.toList))=true):joinedFacts P f fn s c=true:=by
 unfold joinedFacts
 exact (fq (fq (fq (fq (fq (fq (fq (fq (fq (fq (fq (fq (fq (fq (fq (fq (fq (fq (fq (fq (fq (fq (fq (fq (fq (fq (fq (fq (fq (fq (fq h0 h1) h2) h3) h4) h5) h6) h7) h8) h9) h10) h11) h12) h13) h14) h15) h16) h17) h18) h19) h20) h21) h22) h23) h24) h25) h26) h27) h28) h29) h30) h31)
end Lp
