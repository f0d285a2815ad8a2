/-
  Part 6 of what the statement rests on: LpMapR, LpEd7, LpLayK, LpEd8, LpEd9, LpEdA, LpEdB, LpEk2, LpC17, LpEm5, LpC18, LpEs1, LpEs5, LpEn1, LpEs6, LpRdE, LpRdD22, LpTie, LpJn, LpEo1, LpEo2, LpEo3, LpEo4, LpRdS22, LpEs3, LpEs2, LpEs4, LpRdM22. No condition.
-/
import Derived.Test.YthmobaehdbiljaaGreatDoorLp5
import Derived.Shelf.SlMaps.Clone
import Derived.Shelf.SlGeneric
import Derived.Shelf.SlIter.Sorted
import Derived.Ground.GgzProg
import Derived.Test.YthmobaehdbiljaaGreatDoorProg
import Derived.Lib.LaidIn
import Derived.Lib.LaidU8T
import Derived.Deep.DeepHandedRow
import Derived.Deep.DeepWitnessRowRef
import Derived.ProofKit
import Derived.SizedLaws
import Derived.JoinedCond
import Derived.JoinedOf

set_option linter.all false
set_option maxHeartbeats 8000000
set_option maxRecDepth 100000
namespace Lp
open Go
variable {P:Program}{D:TypeId→aC}{T:Know}
def Ye(d:Nat)(t:Nat)(o':Obj)(e:Exit)(S:St):Prop:=
 (e=.normal∨e=.ret)∧∃S' k ver o,Weak 0 S S'∧S'.tmps.getD t .dead=.gI k ver∧S'.objs[k]?=some o∧o.live=true∧o.ver=ver∧jZ d k S' o=o'∧bD [o']
theorem Sn{base ah:Nat→Prop}{w0:Wz}{S':St}{au:Nat→Option Nat}{a:Act}{w':World}{d k:Nat}{o:Obj}(R':Rel base ah w0 S' au a w')(ho:S'.objs[k]?=some o)(hlv:o.live=true)(hnr:bD [jZ d k S' o]) :
  cK base ah [jZ d k S' o] (λj=>if j=0 then au k else none) w'∧
  ∀v,aY w' (bA base S'.objs au) S'.objs au (.gI k o.ver) v→aY w' (bA base [jZ d k S' o] (λj=>if j=0 then au k else none)) [jZ d k S' o] (λj=>if j=0 then au k else none) (.gI 0 0) v:=by
 refine⟨(Dk R' ho hlv hnr).1,λv hx=>?_⟩
 obtain⟨h0,o1,h1,h2,h3⟩:=hx
 rw[ho]at h1
 cases h1
 obtain⟨hM,g,hg,hv⟩:=h3 hlv rfl
 exact⟨h0,_,rfl,Nat.le_refl _,λ_ _=>⟨hM,g,by simp only[if_true];exact hg,hv⟩⟩
theorem av.Sq {f:FuncId}{fn:Func}{c:Code}{C:LC}{args:List PV}{o':Obj}(d:Nat){t n:Nat}(hD:∀t,fI P t (D t))(hT:tZ P none sQ T)(hm:P.follows .mixedOrders=true)
  (hf:P.funcs[f]?=some fn) (hname:(fn.name== "runtime.NumGoroutine")=false) (hb:fn.body=some c) (hn:fn.ntmps=n) (hr:fn.results=#[.tmp t]) (hC:strip C=comp c)
  (h:iT P D T C (Ye d t o') (a_ args n)):av P f args [] (.gI 0 0) [o']:=by
 refine⟨⟨fn,hf,hname,by rw[hb];rfl⟩,λw blk vs base hbase _ hargs=>?_⟩
 have hpw:PW P none sQ c (Ye d t o') (a_ args n):=kJ hD hm C _ _ _ c _ _ hT hC h
 have R:=yI hbase hargs n
 have hw:=hpw _ _ (λx=>(⟨w.heap,[],0,w⟩:Wz)=x) (by rintro z rfl;exact⟨rfl,rfl⟩) _ _ _ ⟨_,rfl,R⟩
 rw[←callsIn_wide (n:=0)]
 refine callsIn_of_wp_marks hf hb trivial ?_
 rw[hn]
 refine wpIn_mono hw ?_
 rintro e a' w' ⟨S0,WS,⟨he,S',k,ver,o,hwk,ht,ho,hlv,hv,rfl,hnr⟩,_,rfl,R0⟩
 obtain⟨au,R'⟩:=hwk _ _ _ _ _ _ (Nat.le_refl _) R0
 have key:∀w',Rel base (λb=>b<w.heap.size∧aJ [] blk b) ⟨w.heap,[],0,w⟩ S' au { a' with defers:=[] } w'→∃v,(results fn a'.tmps).run P w'=.ok v w'∧(∃v' jk,Ending.returned v=.returned v'∧
     cK base (λb=>b<w.heap.size∧aJ [] blk b) [jZ d k S' o] jk w'∧
     aR w' (bA base [jZ d k S' o] jk) [jZ d k S' o] jk (.gI 0 0) v'∧(∀b,b<w.heap.size→aJ [] blk b→w'.heap[b]?=w.heap[b]?)∧w.heap.size≤w'.heap.size∧Sm w w'):=by
  intro w' R'
  have hx:=R'.ev (.tmp t)
  change aR w' _ _ au (S'.tmps.getD t .dead) (a'.tmps.getD t undef) at hx
  rw[ht,←hv]at hx
  obtain⟨c1,c2⟩:=Sn (d:=d) R' ho hlv hnr
  exact⟨_,results_tmp hr _ _ _,a'.tmps.getD t undef,_,rfl,c1,c2 _ hx,λb hb1 hb2=>R'.fr b ⟨hb1,hb2⟩,R'.gr,R'.sm⟩
 rcases he with rfl | rfl<;>exact jr _ _ R' key
structure aaZ (d t:Nat) (o':Obj) (S:St):Prop where
 h:Ye d t o' .ret S
theorem adL{d t n:Nat}{o':Obj}{l:List (Nat×PV)}{ob:List Obj}{k ver:Nat}{o:Obj}(h1:(dR n l).getD t .dead=.gI k ver)(h2:ob[k]?=some o)(h3:o.live=true)(h4:o.ver=ver)(h5:{ fJ d (k+1) ob o with ver:=0 }=o')(h6:bD [o']):aaZ d t o' ⟨dR n l,ob⟩:=
 ⟨.inr rfl,_,k,ver,o,Weak.refl _ _,h1,h2,h3,h4,h5,h6⟩
theorem aW.ab1 {f:FuncId}{n t:Nat}{C:LC}{args:List PV}{o':Obj}(h:aW P f n [.tmp t] C)(d:Nat)(hD:∀t,fI P t (D t))(hT:tZ P none sQ T)(hm:P.follows .mixedOrders=true)
  (hw:∀Q:Exit→St→Prop,(∀l ob,Q .ret ⟨dR n l,ob⟩=aaZ d t o' ⟨dR n l,ob⟩)→iT P D T C Q (a_ args n)):av P f args [] (.gI 0 0) [o']:=by
 obtain⟨fn,c,h1,h2,h3,h4,h5,h6⟩:=h
 exact av.Sq d hD hT hm h1 h2 h3 h4 h5 h6 (hw _ λl ob=>propext ⟨λh=>⟨h⟩,λh=>h.h⟩)
theorem ZX{k kv n k' kv' n':Nat}{seen seen':List Nat}{i i' v v':Nat}(h:r_ k kv n (seen++[i]) v=r_ k' kv' n' (seen'++[i']) v'):k=k'∧kv=kv'∧n=n'∧i=i':=by
 simp only[r_,Obj.mk.injEq,List.cons.injEq,PV.gI.injEq,PV.int.injEq,true_and,List.map_append,List.map_cons,List.map_nil]at h
 obtain⟨⟨⟨h1,h2⟩,h3,h4⟩,_⟩:=h
 obtain⟨_,h5⟩:=List.append_inj' h4 rfl
 simp only[List.cons.injEq,PV.int.injEq,true_and,and_true]at h5
 exact⟨h1,h2,by omega,by omega⟩
theorem ab2{objs:List Obj}{j ver k kv n i:Nat}{seen:List Nat}{mo:Obj}{key v:PV}(h1:objs[j]?=some (r_ k kv n (seen++[i]) ver))(h2:objs[k]?=some mo)(h3:mo.live=true)(h4:mo.ver=kv)(h5:mo.sz=2)(h6:mo.xs.length=n)(h7:mo.xs[i]?=some (.agg [key,v]))(K:KT) :
  uE (.gI j ver) objs K=K (.bI [key,v]) objs 1:=by
 refine propext ⟨λh=>?_,λh=>⟨k,kv,n,seen,i,mo,key,v,h1,h2,h3,h4,h5,h6,h7,h⟩⟩
 obtain⟨k',kv',n',seen',i',mo',key',v',g1,g2,_,_,_,_,g7,hk⟩:=h
 rw[h1]at g1
 obtain⟨rfl,rfl,rfl,rfl⟩:=ZX (Option.some.inj g1)
 rw[h2]at g2;cases g2
 rw[h7]at g7
 cases g7
 exact hk
end Lp
namespace Lp
open Go Go.Proofs
open List (map_append map_cons map_nil map_set)
def l8(p:List UInt8×Vl):PV:=.agg [.str p.1,aj p.2]
def bX(l:List (List UInt8×Vl))(v:Nat):Obj:=⟨MT,2,l.map l8,true,v⟩
theorem KV{α:Type}(enc:α→PV)(nm:List UInt8):∀(l:List (List UInt8×α)) (i:Nat),(∀p∈l,p.1≠nm)→lV .str (.str nm) (l.map λp=>.agg [.str p.1,enc p.2]) i=some none
 | [],_,_=>rfl
 | p::l,i,h=>by
  have h1:(decide (nm=p.1))=false:=decide_eq_false λe=>h p (List.mem_cons_self ..) e.symm
  simp only[map_cons,lV,Qy,h1]
  exact KV enc nm l (i+1) λq hq=>h q (List.mem_cons_of_mem _ hq)
theorem Yf(d n:Nat)(objs:List Obj)(l:List (List UInt8×Vl)):(l.map l8).map (PV.bU (gq d n objs))=l.map l8:=by
 rw[List.map_map]
 refine List.map_congr_left λx _=>?_
 have h:gq d n objs (aj x.2)=aj x.2:=by cases d<;>rfl
 show PV.agg [gq d n objs (.str x.1),gq d n objs (aj x.2)]=l8 x
 rw[h]
 cases d<;>rfl
theorem lS(l:List (List UInt8×Vl))(v:Nat):bD [bX l v]:=by
 intro o ho x hx p hp
 simp only[List.mem_singleton]at ho
 subst ho
 simp only[bX,List.mem_map]at hx
 obtain⟨n,_,rfl⟩:=hx
 simp only[l8,PV.cells,List.mem_cons,List.not_mem_nil,or_false]at hp
 rcases hp with rfl | rfl<;>rfl
theorem JF{α β:Type}{a:List α}{b:List β}{i:Nat}{x:α}{y:β}(h1:a[i]?=some x)(h2:b[i]?=some y):(a.zip b).take (i+1)=(a.zip b).take i++[(x,y)]:=by
 have:(a.zip b)[i]?=some (x,y):=by rw[List.getElem?_zip_eq_some];exact⟨h1,h2⟩
 rw[List.take_add_one,this];rfl
theorem D9{v:Vl}(h:t_ v)(hk:aO v=6):(aK v).Nodup∧(aK v).length=(ax v).length∧(aK v).length≤1000000∧(aK v).zip (ax v)=jC v:=by
 obtain⟨h1,_,h2,h3⟩:=dz h.rt hk
 have hf:=bK h.rt
 refine⟨by rw[h2];exact fE h1.rise,by rw[h2,h3,List.length_map,List.length_map],by have:=h.len;omega,rfl⟩
theorem PX(v:Vl)(hv:t_ v)(hk:aO v=6):av Tryz.prog 88 [aj v] [] (.gI 0 0) [bX (jC v) 0]:=by
 refine Jd.ab1 (T:=bg Tryz.prog [(52,oH),(76,Cn)]) 0 hD (ay (af xJ (af O5 ak))) bC λQ hQ=>?_
 obtain⟨hn,hl,hln,hz⟩:=D9 hv hk
 (conv=>arg 4;cbv);simp (maxSteps:=400000) only[↓aA,aB,BEq.rfl,seval,hQ,↓Jl,mM,↓oH,↓Cn]
 refine⟨by have:=hv.len;omega,hv.rt.one,by have:=hv.len;omega,hv.rt.one,?_⟩
 refine aU (λm S=>∃i:Nat,i+m=(aK v).length∧S=⟨dR 26 [(3,.gI 0 1),(4,dP (ax v)),(11,kT (aK v)),(12,.int .i64 (aK v).length),(13,.int .i64 i)],[bX ((jC v).take i) 1]⟩) (aK v).length ⟨0,by omega,?_⟩ ?_
 ·simp only[dw,keepR,Nat.reduceAdd,pX,Nat.reduceBEq,map_nil]
  rfl
 rintro m S ⟨i,him,rfl⟩
 rcases Nat.lt_or_ge i (aK v).length with h | h
 ·have hlt:((i:Int)<((aK v).length:Int))=True:=eq_true (by omega)
  have zi:(0≤(i:Int))=True:=eq_true (by omega)
  have hgn:=List.getElem?_eq_getElem h
  have Qt:=List.getElem?_eq_getElem (show i<(ax v).length by omega)
  generalize (aK v)[i]=nm at hgn
  generalize (ax v)[i]=x at Qt
  have ht2:=JF hgn Qt
  rw[hz]at ht2
  have hmf:lV .str (.str nm) (((jC v).take i).map l8) 0=some none:=KV aj nm _ 0 λp hp e=>by
   obtain⟨j,hj⟩:=List.mem_iff_getElem?.1 hp
   rw[List.getElem?_take]at hj
   split at hj
   ·rename_i hji
    rw[←hz,List.getElem?_zip_eq_some]at hj
    have h1:=hj.1
    rw[e,←hgn]at h1
    have hjl:=(List.getElem?_eq_some_iff.1 hj.1).1
    have:=(List.getElem?_inj hjl hn).1 h1
    omega
   ·cases hj
  unfold bX
  simp (maxSteps:=400000) only[↓aA,aB,BEq.rfl,seval,hQ,hlt,zi,hgn,Qt,↓Jl,fF,Int.toNat_natCast]
  refine⟨.inl trivial,none,hmf,⟨by omega,by omega⟩,m-1,by omega,i+1,by omega,?_⟩
  rw[ht2]
  simp only[Db,map_append,map_cons,map_nil,List.length_append]
  rfl
 ·have hlt:((i:Int)<((aK v).length:Int))=False:=eq_false (by omega)
  have hi:(jC v).take i=jC v:=List.take_of_length_le (by rw[←hz,List.length_zip];omega)
  unfold bX
  simp (maxSteps:=400000) only[↓aA,aB,BEq.rfl,seval,hQ,hlt]
  rw[hi]
  exact adL (k:=0) (ver:=1) rfl rfl rfl rfl (by simp only[fJ,Yf];rfl) (lS _ 0)
set_option maxRecDepth 1000000 in
theorem Sr(b:Nat)(es:Array MapEntry)(clock:Nat)(w:World)(hb:w.heap[b]?=some (.map es clock)) :
  Calls Tryz.prog 89 #[.map (some b)] w λe w'=>e=.returned (.map (some w.heap.size))∧w'=w.alloc (.map es clock):=by
 have mixed:Tryz.prog.follows .mixedOrders=true:=by kernel_rfl
 have um:Tryz.prog.underlying 102=some (.map 9 23):=by kernel_rfl
 have hq:=λw=>run_eql_map_nil_sl (P:=Tryz.prog) w 102 _ _ (some b) um
 go_enter Tryz.func89,Tryz.ntmps89
 go_wp2
 rw[run_callFunc_extern Tryz.func112 (by kernel_rfl) (by kernel_rfl) (by kernel_rfl) (e:=Extern.MapsClone.clone) (by kernel_rfl),run_maps_clone_sl w 102 hb]
 simp only[Result.andThen]
 rw[Oper.upon_value]
 go_wp2
 rw[run_typeAssert_map_sl _ 102 _ _ _ _ um]
 simp only[Result.andThen]
 rw[Oper.upon_value]
 go_wp2
 go_ret
 exact⟨rfl,rfl⟩
theorem PY{objs:List Obj}{k v:Nat}{l:List (List UInt8×Vl)}{K:KT}(hk:objs[k]?=some (bX l v))(hK:K (.gI objs.length 1) (objs++[bX l 1]) 2) :
  jI Tryz.prog 89 [.gI k v] objs K:=by
 refine⟨⟨_,Tryz.func89,by kernel_rfl,by kernel_rfl⟩,λbase ah w0 tmps blk a w vs R hargs=>?_⟩
 obtain⟨hl,hh⟩:=hargs
 match vs,hl with
 | [u],_=>
 have hu:aY w (bA base objs blk) objs blk (.gI k v) u:=hh 0 _ _ rfl rfl
 obtain⟨_,o,ho,_,hlive⟩:=hu
 rw[hk]at ho
 cases ho
 obtain⟨_,g,hg,rfl⟩:=hlive rfl rfl
 have yw:=R.objs.ob k _ hk rfl
 unfold bE at yw
 rw[hg]at yw
 obtain⟨c,c1,c2,c3⟩:=yw
 have hcell:w.heap[g]?=some (.map (mapOf c) (c.size / 2)):=by
  rw[c1];simp[nD,bX]
 show Calls Tryz.prog _ ⟨[.map (some g)]⟩ w _
 refine (Sr g (mapOf c) (c.size / 2) w hcell).mono ?_
 rintro e w' ⟨rfl,rfl⟩
 have hgr:kD w (w.alloc (.map (mapOf c) (c.size / 2))):=.push rfl
 have hnew:(w.alloc (.map (mapOf c) (c.size / 2))).heap[w.heap.size]?=some (.map (mapOf c) (c.size / 2)):=World.alloc_heap_new w _
 have aeu:cK (qi base ⟨tmps,objs⟩ blk w) (λb=>b<w.heap.size∧aJ [] blk b) [bX l 1] (λj=>if j=0 then some w.heap.size else none) (w.alloc (.map (mapOf c) (c.size / 2))):=by
  refine⟨λj o hj _=>?_,λj j' o o' g' hjj hj _ hj' _ hg'=>?_,λj o g' hj _ hg' hp=>?_⟩
  ·match j,hj with
   | 0,hj=>
    cases hj
    refine⟨c,by rw[hnew];simp[nD,bX],c2,λi x hx=>?_⟩
    obtain⟨d1,d2⟩:=c3 i x hx
    refine⟨d1,λq p hp=>?_⟩
    obtain⟨v',v1,v2⟩:=d2 q p hp
    have hnr:p.ref=false:=lS l v _ (List.mem_singleton.2 rfl) x (List.mem_of_getElem? hx) p (List.mem_of_getElem? hp)
    refine⟨v',v1,.aI ((v2.zD hnr).mono hgr.1 (λb hb hok=>?_) λb x _ hx=>hgr.2.1 b x hx)⟩
    refine⟨.inl hok,λj' o' hj' _=>?_⟩
    match j',hj' with
    | 0,hj'=>simp;omega
  ·match j,j',hj,hj' with
   | 0,0,_,_=>exact absurd rfl hjj
  ·match j,hj with
   | 0,hj=>
    simp only[if_true,Option.some.injEq]at hg'
    omega
 have R2:=R.made (S:=⟨tmps,objs⟩) hgr (lS l 1) aeu
 refine⟨_,_,_,_,rfl,hK,R2,?_⟩
 refine .eU ⟨rfl,bX l 1,by simp,Nat.le_refl _,λ_ _=>⟨rfl,w.heap.size,?_,rfl⟩⟩
 simp[aD]
theorem EM(nm:List UInt8):∀(l:List (List UInt8×Vl)) (i:Nat),(lV .str (.str nm) (l.map l8) i=some none∧∀p∈l,p.1≠nm)∨∃j x,lV .str (.str nm) (l.map l8) i=some (some (i+j,aj x))∧l[j]?=some (nm,x)
 | [],_=>.inl ⟨rfl,λp hp=>by cases hp⟩
 | (k,v)::l,i=>by
  by_cases h:nm=k
  ·subst h
   exact .inr ⟨0,v,by simp[lV,l8,Qy],rfl⟩
  ·have h1:decide (nm=k)=false:=decide_eq_false h
   have hm:∀z,lV .str (.str nm) (((k,v)::l).map l8) i=z↔lV .str (.str nm) (l.map l8) (i+1)=z:=λz=>by
    simp only[map_cons,l8,lV,Qy,h1]
   rcases EM nm l (i+1) with ⟨h2,h3⟩ | ⟨j,x,h2,h3⟩
   ·refine .inl ⟨(hm _).2 h2,λp hp=>?_⟩
    rcases List.mem_cons.1 hp with rfl | hp
    ·exact λe=>h e.symm
    ·exact h3 p hp
   ·exact .inr ⟨j+1,x,by rw[(hm _).2 h2];congr 3;omega,h3⟩
theorem ZY{l:List (List UInt8×Vl)}{i:Nat}{key v:PV}(h:(l.map l8)[i]?=some (.agg [key,v])):∃p,l[i]?=some p∧key=.str p.1∧v=aj p.2:=by
 rw[List.getElem?_map]at h
 cases hp:l[i]? with
 | none=>rw[hp]at h;cases h
 | some p=>
  rw[hp]at h
  simp only[Option.map_some,Option.some.injEq,l8,PV.agg.injEq,List.cons.injEq,and_true]at h
  exact⟨p,rfl,h.1.symm,h.2.symm⟩
theorem CK(l:List (List UInt8×Vl))(v:Nat):(bX l v).live=true∧(bX l v).ver=v∧(bX l v).sz=2∧(bX l v).ty=MT∧(bX l v).xs=l.map l8:=⟨rfl,rfl,rfl,rfl,rfl⟩
def Yg(la lb l':List (List UInt8×Vl))(seen:List Nat):Prop:=(l'.map (·.1)).Nodup∧∀k,k∈l'.map (·.1)↔k∈la.map (·.1)∨∃j∈seen,∃p,lb[j]?=some p∧p.1=k
theorem Iq{la lb l' l2:List (List UInt8×Vl)}{seen:List Nat}(h:Yg la lb l' seen){i:Nat}{p:List UInt8×Vl}(hp:lb[i]?=some p)(h2:(l2=l'++[p]∧p.1 ∉ l'.map (·.1))∨∃j x,l'[j]?=some (p.1,x)∧l2=l'.set j p):Yg la lb l2 (seen++[i]):=by
 have hx:∀k,(∃j∈seen++[i],∃q,lb[j]?=some q∧q.1=k)↔(∃j∈seen,∃q,lb[j]?=some q∧q.1=k)∨k=p.1:=λk=>by
  constructor
  ·rintro⟨j,hj,q,hq,e⟩
   rcases List.mem_append.1 hj with hj | hj
   ·exact .inl ⟨j,hj,q,hq,e⟩
   ·rw[List.mem_singleton]at hj;subst hj
    rw[hp]at hq;cases hq;exact .inr e.symm
  ·rintro (⟨j,hj,q,hq,e⟩ | rfl)
   ·exact⟨j,List.mem_append_left _ hj,q,hq,e⟩
   ·exact⟨i,by simp,p,hp,rfl⟩
 rcases h2 with ⟨rfl,hn⟩ | ⟨j,x,hj,rfl⟩
 ·refine⟨?_,λk=>?_⟩
  ·rw[map_append,List.nodup_append]
   refine⟨h.1,by simp,λa ha b hb e=>?_⟩
   simp only[map_cons,map_nil,List.mem_singleton]at hb
   subst e;subst hb;exact hn ha
  ·rw[hx,←or_assoc,←h.2]
   simp
 ·have hk:(l'.set j p).map (·.1)=l'.map (·.1):=by
    rw[map_set]
    have hjl:=(List.getElem?_eq_some_iff.1 hj).1
    apply List.ext_getElem?
    intro q
    by_cases e:j=q
    ·subst e
     rw[List.getElem?_set_self (by simpa using hjl),List.getElem?_map,hj];rfl
    ·rw[List.getElem?_set_ne e]
  refine⟨by rw[hk];exact h.1,λk=>?_⟩
  rw[hk,hx,←or_assoc,←h.2]
  refine⟨.inl,λh=>h.elim id λe=>?_⟩
  rw[e]
  exact List.mem_map.2 ⟨_,List.mem_of_getElem? hj,rfl⟩
theorem Sv{O:List Obj}{N:Nat}(hO:O.length=N){la lb:List (List UInt8×Vl)}{K:KT}(hla:(la.map (·.1)).Nodup)(hK:∀l' seen,(l'.map (·.1)).Nodup→(∀k,k∈l'.map (·.1)↔k∈la.map (·.1)∨k∈lb.map (·.1))→K (.bI []) (O++[bX la 0,bX lb 0,bX l' 1,r_ (N+1) 0 lb.length seen 1]) 2) :
  jI Tryz.prog 90 [.gI (N+2) 1,.gI (N+1) 0] (O++[bX la 0,bX lb 0,bX la 1]) K:=by
 refine dW.aaX hD (H9 ak _) bC λQ hQ hQn=>?_
 have hG:=Ib hO
 (conv=>arg 4;cbv);simp (maxSteps:=400000) only[↓aA,aB,BEq.rfl,seval,hQ,hG,oW N,↓Zt,uD,CK]
 refine aU (λm S=>∃(l':List (List UInt8×Vl)) (seen rem:List Nat),rem.length=m∧(∀j,j<lb.length→j∈seen∨j∈rem)∧Yg la lb l' seen∧
  S=⟨dR 16 [(0,.gI (N+2) 1),(7,.gI (N+3) 1)],O++[bX la 0,bX lb 0,bX l' 1,r_ (N+1) 0 lb.length seen 1]⟩) lb.length ⟨la,[],List.range lb.length,by simp,λj hj=>.inr (List.mem_range.2 hj),⟨hla,λk=>⟨.inl,λh=>h.elim id λ⟨j,hj,_⟩=>by cases hj⟩⟩,?_⟩ ?_
 ·simp only[dw,keepR,Nat.reduceAdd,pX,Nat.reduceBEq,map_nil]
 rintro m S ⟨l',seen,rem,hrm,hsr,hC,rfl⟩
 simp (maxSteps:=400000) only[↓aA,aB,BEq.rfl,seval,hQ,↓Zt]
 refine⟨rfl,N+1,0,_,seen,bX lb 0,hG.2.1 _ _ 2,hG.2.1 _ _ 0,rfl,rfl,rfl,by simp[bX],λhall=>?_,λi key v hns hx=>?_⟩
 ·simp (maxSteps:=400000) only[↓aA,aB,BEq.rfl,seval,hQ,bT,hQn]
  refine hK l' seen hC.1 λk=>?_
  rw[hC.2]
  refine or_congr_right ⟨λ⟨j,_,p,hp,e⟩=>e ▸ List.mem_map_of_mem (List.mem_of_getElem? hp),λh=>?_⟩
  obtain⟨p,hp,rfl⟩:=List.mem_map.1 h
  obtain⟨j,hj⟩:=List.mem_iff_getElem?.1 hp
  exact⟨j,hall j (List.getElem?_eq_some_iff.1 hj).1,p,hj,rfl⟩
 ·have hx':(lb.map l8)[i]?=some (.agg [key,v]):=hx
  obtain⟨p,hp,rfl,rfl⟩:=ZY hx'
  have hil:=(List.getElem?_eq_some_iff.1 hp).1
  have hset:(O++[bX la 0,bX lb 0,bX l' 1,r_ (N+1) 0 lb.length seen 1]).set (N+3) (r_ (N+1) 0 lb.length (seen++[i]) 1)=O++[bX la 0,bX lb 0,bX l' 1,r_ (N+1) 0 lb.length (seen++[i]) 1]:=by
   rw[hG.2.2.2.1];rfl
  have he:∀K,uE (.gI (N+3) 1) (O++[bX la 0,bX lb 0,bX l' 1,r_ (N+1) 0 lb.length (seen++[i]) 1]) K=K (.bI [.str p.1,aj p.2]) (O++[bX la 0,bX lb 0,bX l' 1,r_ (N+1) 0 lb.length (seen++[i]) 1]) 1:=λK=>
   ab2 (mo:=bX lb 0) (hG.2.1 _ _ 2) (hG.2.1 _ _ 0) rfl rfl rfl (by simp[bX]) hx' K
  rw[hset]
  have adM:i∈rem:=(hsr i hil).resolve_left hns
  have hrl:(rem.erase i).length+1=rem.length:=by
   rw[List.length_erase_of_mem adM]
   have:=List.length_pos_of_mem adM
   omega
  have adN:∀j,j<lb.length→j∈seen++[i]∨j∈rem.erase i:=λj hj=>by
   by_cases e:j=i
   ·exact .inl (by simp[e])
   ·rcases hsr j hj with h | h
    ·exact .inl (by simp[h])
    ·exact .inr ((List.mem_erase_of_ne e).2 h)
  rcases EM p.1 l' 0 with ⟨hm,hno⟩ | ⟨j,x,hm,hj⟩
  ·simp (maxSteps:=400000) only[↓aA,aB,BEq.rfl,seval,hQ,bT,↓Zt,↓he,↓Jl,fF,hG,oW N,CK,hm]
   refine⟨.inl trivial,(rem.erase i).length,by omega,l'++[p],seen++[i],rem.erase i,rfl,adN,Iq hC hp ?_,?_⟩
   ·exact .inl ⟨rfl,λh=>by
      obtain⟨q,hq,e⟩:=List.mem_map.1 h
      exact hno q hq e⟩
   ·simp only[Db,bX,map_append,map_cons,map_nil];rfl
  ·simp (maxSteps:=400000) only[↓aA,aB,BEq.rfl,seval,hQ,bT,↓Zt,↓he,↓Jl,fF,hG,oW N,CK,hm]
   refine⟨.inl trivial,(rem.erase i).length,by omega,l'.set j p,seen++[i],rem.erase i,rfl,adN,Iq hC hp ?_,?_⟩
   ·exact .inr ⟨j,x,hj,rfl⟩
   ·simp only[Db,bX,map_set,Nat.zero_add];rfl
theorem aev(k v:Nat):(PV.gI k v).cells=[.gI k v]∧(PV.gI k v).isAgg=false∧(PV.gI k v).storable=true∧(PV.gI k v).ref=true:=⟨rfl,rfl,rfl,rfl⟩
def VL(k v:Nat):Obj:=⟨102,1,[.gI k v],true,1⟩
theorem Sw{objs:List Obj}{k v:Nat}{K:KT}(hK:K (.fn 115 [] [.bq objs.length 1 0 0]) (objs++[VL k v]) 2):jI Tryz.prog 92 [.gI k v] objs K:=by
 refine iw.adG hD (H9 ak _) bC (by decide) λQ hQ=>?_
 (conv=>arg 4;cbv);simp (maxSteps:=400000) only[↓aA,aB,BEq.rfl,seval,hQ,aev]
 exact hK
end Lp
namespace Go.Proofs
open Go.Shelf
def Tryz.EN:Go.Shelf.Ren:=⟨λ| 7=>92 | 10=>115 | n=>n,λ| 23=>102 | 26=>9 | 3=>23 | 28=>108 | 0=>0 | 27=>107 | 33=>61 | 4=>4 | n=>n,λ| n=>n⟩
theorem Tryz.Z0:Go.Proofs.SlLaysZ.n7 Tryz.prog Tryz.EN:={
 mixed:=by kernel_rfl
 f7:=⟨Tryz.f92.name,by decide,Tryz.func92.trans (congrArg some (by kernel_rfl))⟩
 f10:=⟨Tryz.f115.name,by decide,Tryz.func115.trans (congrArg some (by kernel_rfl))⟩
 t0:=Tryz.underlying0
 a0:=Tryz.isAgg0
 z0:=Tryz.sizeOf0
 v0:=Tryz.zeroValue0
 t4:=Tryz.underlying4
 a4:=Tryz.isAgg4
 z4:=Tryz.sizeOf4
 v4:=Tryz.zeroValue4
 t23:=Tryz.underlying102
 a23:=Tryz.isAgg102
 z23:=Tryz.sizeOf102
 v23:=Tryz.zeroValue102
 t26:=Tryz.underlying9
 a26:=Tryz.isAgg9
 z26:=Tryz.sizeOf9
 v26:=Tryz.zeroValue9
 t27:=Tryz.underlying107
 a27:=Tryz.isAgg107
 z27:=Tryz.sizeOf107
 v27:=Tryz.zeroValue107
 t28:=Tryz.underlying108
 a28:=Tryz.isAgg108
 z28:=Tryz.sizeOf108
 v28:=Tryz.zeroValue108
 t33:=Tryz.underlying61
 a33:=Tryz.isAgg61
 z33:=Tryz.sizeOf61
 v33:=Tryz.zeroValue61 }
def Tryz.zZ:Go.Shelf.Ren:=⟨λ| 6=>91 | 8=>113 | 9=>114 | 11=>128 | 13=>130 | 12=>129 | 23=>150 | 24=>151 | 14=>142 | 15=>143 | 16=>144 | 17=>145 | 18=>146 | 19=>147 | 20=>103 | 21=>148 | 22=>149 | 25=>160 | 26=>161 | 27=>162 | 28=>163 | 29=>164 | 30=>125 | 31=>170 | n=>n,λ| 26=>9 | 28=>108 | 24=>75 | 0=>0 | 3=>3 | 37=>122 | 48=>164 | 50=>138 | 4=>4 | 40=>158 | 39=>157 | 45=>90 | 5=>5 | 9=>9 | 51=>174 | 55=>178 | 57=>182 | 58=>183 | 33=>61 | n=>n,λ| n=>n⟩
theorem Tryz.VN:Go.Proofs.SlLaysZ.n6 Tryz.prog Tryz.zZ:={
 mixed:=by kernel_rfl
 f6:=⟨Tryz.f91.name,by decide,Tryz.func91.trans (congrArg some (by kernel_rfl))⟩
 f8:=⟨Tryz.f113.name,by decide,Tryz.func113.trans (congrArg some (by kernel_rfl))⟩
 f11:=⟨Tryz.f128.name,by decide,Tryz.func128.trans (congrArg some (by kernel_rfl))⟩
 t0:=Tryz.underlying0
 a0:=Tryz.isAgg0
 z0:=Tryz.sizeOf0
 v0:=Tryz.zeroValue0
 t24:=Tryz.underlying75
 a24:=Tryz.isAgg75
 z24:=Tryz.sizeOf75
 v24:=Tryz.zeroValue75
 t26:=Tryz.underlying9
 a26:=Tryz.isAgg9
 z26:=Tryz.sizeOf9
 v26:=Tryz.zeroValue9
 t28:=Tryz.underlying108
 a28:=Tryz.isAgg108
 z28:=Tryz.sizeOf108
 v28:=Tryz.zeroValue108
 i26:=by kernel_rfl }
end Go.Proofs
namespace Lp
open Go Go.Proofs Go.RowKit Go.Maps Go.Sort Go.WideElems
open List (length_map map_map)
theorem ab3(m:Nat):AnyZ.SortsIn Tryz.prog Tryz.zZ Fence.wide m:=
 ⟨λblk off cap ss W hH hblk hsz=>callsIn_wide.2 (Any.slices_Sort_string Tryz.TG blk off cap ss W hH hblk hsz),
  λp cap W=>callsIn_wide.2 (Any.slices_Sort_string_none Tryz.TG p cap W)⟩
theorem PZ(b nn Bm:Nat)(D0:DataW Unit)(R:Value→Option (DataW Unit×List MemPlace))(w:World)(hBm:Bm<w.heap.size)(hm:w.cell? ⟨Bm,0,none⟩=some (.map (some b)))(hown:w.ownsMap Tryz.prog 9 R b nn D0)(hmax:Maps.size D0≤2000000) :
  Calls Tryz.prog 91 #[.func (.func 115) #[] #[.pointer (some ⟨Bm,0,none⟩)]] w λe w'=>∃(v:Value) (ss:List (List UInt8)),e=.returned v∧ss.Perm (strKeys D0)∧
   w'.ownsRow w.heap.size 9 1 v ss.length ((ss.mergeSort (λx y=>decide (x≤y))).map encStr)∧(v=.slice none 0 0↔ss=[])∧Below w.heap.size w w':=by
 refine (callsIn_wide (n:=5)).1 ?_
 have hseq:SeqGives Fence.wide 2 Tryz.prog 115 #[.pointer (some ⟨Bm,0,none⟩)] encStr (λss=>ss.Perm (strKeys D0)) (Maps.size D0) w:=
  AnyZ.keys_gives (ρ:=Tryz.EN) { Tryz.Z0 with } Fence.wide _ trivial rfl (by omega) Bm b nn D0 _ hBm hm hown
 exact AnyZ.sorted_in Tryz.VN Fence.wide 5 trivial trivial trivial trivial rfl (by omega) (ab3 _) (enters_of Tryz.func114 (by kernel_rfl) rfl) 115 #[.pointer (some ⟨Bm,0,none⟩)] trivial (enters_of Tryz.func115 (by kernel_rfl) rfl) _ _ (by simp[maxLen];omega) (by omega) _ hseq
theorem Sy{w w':World}(h:Below w.heap.size w w'):kD w w':=
 ⟨h.size,λb x hx=>by rw[h.block b (Array.getElem?_eq_some_iff.1 hx).1];exact hx,h.os,h.output⟩
theorem Yh{w:World}{b:Nat}{c:Array Value}{l:List (List UInt8×Vl)}(hb:w.heap[b]?=some (.map (mapOf c) (c.size / 2)))(hc:c.size=l.length*2)(hl:l.length≤2000000)(hn:(l.map (·.1)).Nodup)
  (hk:∀(i:Nat) p,l[i]?=some p→c[i*2]?=some (.string ⟨⟨p.1⟩⟩)∧p.1.length≤1000000) :
  ∃D0:DataW Unit,w.ownsMap Tryz.prog 9 (λ_=>some (.nil,[])) b l.length D0∧Maps.size D0=l.length∧(strKeys D0).Perm (l.map (·.1)):=by
 have us:Tryz.prog.underlying 9=some .string:=by kernel_rfl
 have hsz:(mapOf c).size=l.length:=by rw[iq];omega
 have hget:∀i (p:List UInt8×Vl),l[i]?=some p→∃e:MapEntry,(mapOf c).toList[i]?=some e∧e.key=.string ⟨⟨p.1⟩⟩∧e.born=i:=λi p hp=>by
  have hi:=(List.getElem?_eq_some_iff.1 hp).1
  refine⟨_,by rw[Array.getElem?_toList];exact gP c i (by omega),?_,rfl⟩
  show c.getD (2*i) undef=_
  rw[Array.getD_eq_getD_getElem?,Nat.mul_comm,(hk i p hp).1];rfl
 have hlen:(mapOf c).toList.length=l.length:=by rw[Array.length_toList];exact hsz
 have hkeys:(mapOf c).toList.map (·.key)=(l.map (·.1)).map λk=>Value.string ⟨⟨k⟩⟩:=by
  apply List.ext_getElem?
  intro i
  rcases Nat.lt_or_ge i l.length with h | h
  ·obtain⟨e,he,hke,_⟩:=hget i _ (List.getElem?_eq_getElem h)
   rw[List.getElem?_map,he,List.getElem?_map,List.getElem?_map,List.getElem?_eq_getElem h,Option.map_some,hke];rfl
  ·rw[List.getElem?_eq_none (by simpa[hlen] using h),List.getElem?_eq_none (by simpa using h)]
 have hborn:(mapOf c).toList.map (·.born)=List.range l.length:=by
  apply List.ext_getElem?
  intro i
  rcases Nat.lt_or_ge i l.length with h | h
  ·obtain⟨e,he,_,Yz⟩:=hget i _ (List.getElem?_eq_getElem h)
   rw[List.getElem?_map,he,Option.map_some,Yz,List.getElem?_range h]
  ·rw[List.getElem?_eq_none (by simpa[hlen] using h),List.getElem?_eq_none (by simpa using h)]
 have hrd:∀x∈(mapOf c).toList,∃k:List UInt8,x.key=.string ⟨⟨k⟩⟩∧rd (H:=Unit) Tryz.prog 9 (λ_=>some (.nil,[])) x=some (.string k,.nil):=λx hx=>by
  obtain⟨i,hi⟩:=List.mem_iff_getElem?.1 hx
  have hil:=(List.getElem?_eq_some_iff.1 hi).1
  rw[hlen]at hil
  obtain⟨e,he,hke,_⟩:=hget i _ (List.getElem?_eq_getElem hil)
  rw[hi]at he;cases he
  refine⟨_,hke,?_⟩
  have h2:=(hk i _ (List.getElem?_eq_getElem hil)).2
  have h3:keyOf Tryz.prog 9 x.key=some (.string l[i].1):=by
   rw[hke];exact Go.WideMaps.keyOf_string_mk us (by show List.length _≤_;simp[maxLen];omega)
  simp only[WideElems.rd,h3]
  rfl
 refine⟨_,⟨mapOf c,c.size / 2,hb,⟨by simp[hsz,maxLen];omega,⟨λx hx=>?_,?_,?_⟩,λx hx=>?_⟩,by omega,rfl⟩,?_,?_⟩
 ·have:x.born∈(mapOf c).toList.map (·.born):=List.mem_map_of_mem hx
  rw[hborn,List.mem_range]at this
  omega
 ·rw[hborn];exact List.nodup_range
 ·rw[hkeys]
  refine List.Pairwise.map _ (λa b hab e=>hab ?_) hn
  simpa using e
 ·obtain⟨k,_,h⟩:=hrd x hx
  exact⟨_,h⟩
 ·refine (WideShapes.sorted_perm (H:=Unit) _).length_eq.trans ?_
  rw[length_map,hlen]
 ·show ((List.foldr DataW.insert [] _).map λp=>strOf p.1).Perm _
  refine ((WideShapes.sorted_perm (H:=Unit) _).map _).trans ?_
  have:((mapOf c).toList.map (rg (H:=Unit) Tryz.prog 9 λ_=>some (.nil,[]))).map (λp=>strOf p.1)=l.map (·.1):=by
   rw[map_map]
   have e:(mapOf c).toList.map ((λp:Lit×DataW Unit=>strOf p.1) ∘ rg (H:=Unit) Tryz.prog 9 λ_=>some (.nil,[]))=((mapOf c).toList.map (·.key)).map (λv=>match v with | .string s=>s.data.toList | _=>[]):=by
    rw[map_map]
    refine List.map_congr_left λx hx=>?_
    obtain⟨k,h1,h2⟩:=hrd x hx
    simp only[Function.comp_apply,rg,h2,Option.getD_some,strOf,h1]
   rw[e,hkeys,map_map]
   conv=>rhs;rw[←List.map_id (l.map (·.1))]
   rfl
  rw[this]
theorem M5{objs:List Obj}{kb km:Nat}{l:List (List UInt8×Vl)}{K:KT}(h1:objs[kb]?=some (VL km 1))(h2:objs[km]?=some (bX l 1))(hn:(l.map (·.1)).Nodup)(hl:l.length≤2000000)(hkl:∀k∈l.map (·.1),k.length≤1000000)
  (hK:K (kT (rG (l.map (·.1)))) objs 2):jI Tryz.prog 91 [.fn 115 [] [.bq kb 1 0 0]] objs K:=by
 refine⟨⟨_,Tryz.func91,by kernel_rfl,by kernel_rfl⟩,λbase ah w0 tmps blk a w vs R hargs=>?_⟩
 obtain⟨hvl,hh⟩:=hargs
 match vs,hvl with
 | [u],_=>
 obtain⟨va,vc,rfl,⟨ha,_⟩,hc,hcr⟩:=hh 0 _ _ rfl rfl
 match va,ha,vc,hc with
 | [],_,[p],_=>
 have hp:aY w (bA base objs blk) objs blk (.bq kb 1 0 0) p:=hcr 0 _ _ rfl rfl
 obtain⟨_,o,ho,_,hlive⟩:=hp
 rw[h1]at ho
 cases ho
 obtain⟨_,Bm,hBm,rfl⟩:=hlive rfl rfl
 have yw:=R.objs.ob kb _ h1 rfl
 unfold bE at yw
 rw[hBm]at yw
 obtain⟨c,c1,_,c3⟩:=yw
 rw[jG (show (VL km 1).ty≠MT by show 102≠MT;decide)]at c1
 obtain⟨v0,v1,v2⟩:=(c3 0 (.gI km 1) rfl).2 0 (.gI km 1) rfl
 obtain⟨_,om,hom,_,hml⟩:=v2
 rw[h2]at hom
 cases hom
 obtain⟨_,g,hg,rfl⟩:=hml rfl rfl
 have ab4:=R.objs.ob km _ h2 rfl
 unfold bE at ab4
 rw[hg]at ab4
 obtain⟨cm,m1,m2,m3⟩:=ab4
 have hheap:w.heap[g]?=some (.map (mapOf cm) (cm.size / 2)):=by rw[m1];simp[nD,bX]
 have hcsz:cm.size=l.length*2:=by
  have:=m2.2 rfl
  simpa[bX] using this
 have hcell:w.cell? ⟨Bm,0,none⟩=some (.map (some g)):=by
  simp only[World.cell?,c1]
  simpa[VL,Ny,bX] using v1
 have hBl:Bm<w.heap.size:=(Array.getElem?_eq_some_iff.1 c1).1
 obtain⟨D0,hown,hsz,hperm⟩:=Yh hheap hcsz hl hn λi q hq=>by
  have hx:(bX l 1).xs[i]?=some (l8 q):=by simp[bX,hq]
  obtain⟨w1,w2,w3⟩:=(m3 i _ hx).2 0 (.str q.1) rfl
  have w4:=xC (w3.zD rfl)
  subst w4
  exact⟨by simpa[bX] using w2,hkl _ (List.mem_map_of_mem (List.mem_of_getElem? hq))⟩
 show Calls Tryz.prog _ ⟨[.func (.func 115) #[] #[.pointer (some ⟨Bm,0*1+0,none⟩)]]⟩ w _
 refine (PZ g l.length Bm D0 _ w hBl hcell hown (by omega)).mono ?_
 rintro e w' ⟨v,ss,rfl,hss,hrow,hnil,hB⟩
 have hgr:=Sy hB
 have hsort:(ss.mergeSort λx y=>decide (x≤y))=rG (l.map (·.1)):=mergeSort_of_perm (hss.trans hperm)
 have adO:ss.length=l.length:=by rw[(hss.trans hperm).length_eq,length_map]
 rw[hsort]at hrow
 refine⟨v,_,objs,blk,rfl,hK,R.grew hgr,.aI ?_⟩
 obtain⟨r1,r2⟩:=hrow
 have hsl:(rG (l.map (·.1))).length=ss.length:=by rw[Ck,length_map,adO]
 rcases r2 with ⟨rfl,hz⟩ | ⟨gb,cap,cur,rfl,hbase,hgb,q1,q2,q3,q4⟩
 ·have:rG (l.map (·.1))=[]:=List.eq_nil_of_length_eq_zero (by omega)
  rw[this]
  exact .slnil 1 none (by decide)
 ·have hok:bA base objs blk gb:=by
    refine⟨R.bs gb (Nat.le_trans R.gr hbase),λk o hk hlo hb=>?_⟩
    have yw:=R.objs.ob k o hk hlo
    unfold bE at yw
    rw[hb]at yw
    obtain⟨_,x1,_⟩:=yw
    have:=(Array.getElem?_eq_some_iff.1 x1).1
    omega
  have hgs:gb<w'.heap.size:=(Array.getElem?_eq_some_iff.1 hgb).1
  have hel:∀(i:Nat) (s:List UInt8),(rG (l.map (·.1)))[i]?=some s→cur[i]?=some (.string ⟨⟨s⟩⟩):=λi s hs=>by
   have hil:=(List.getElem?_eq_some_iff.1 hs).1
   have:(cur.toList.take (ss.length*1))[i]?=some (encStr s):=by rw[q4,List.getElem?_map,hs];rfl
   rw[List.getElem?_take]at this
   split at this
   ·simpa[encStr] using this
   ·cases this
  have hlen:(kT (rG (l.map (·.1))))=.sl 1 ((rG (l.map (·.1))).map .str) none:=rfl
  rw[hlen,←hsl,←length_map (f:=PV.str)]
  refine .sl 1 _ none (by decide) gb 0 cap (λi _=>.string ⟨⟨(rG (l.map (·.1))).getD i []⟩⟩) (λ_=>⟨hok,hgs⟩) (by rw[length_map,hsl];exact q1) q2 (λi x hx=>?_) (λi x j p hx hp=>?_) λi x j p hx hp=>?_
  all_goals
   rw[List.getElem?_map]at hx
   cases hs:(rG (l.map (·.1)))[i]? with
   | none=>rw[hs]at hx;cases hx
   | some s=>
    rw[hs]at hx
    cases hx
    first
    | rfl
    | (match j,hp with
       | 0,hp=>
        cases hp
        have hd:(rG (l.map (·.1))).getD i []=s:=by rw[List.getD_eq_getElem?_getD,hs];rfl
        first
        | (rw[hd];exact .str s)
        | (rw[hd]
           simp only[World.cell?,hgb,Nat.zero_add,Nat.mul_one,Nat.add_zero]
           exact hel i s hs))
end Lp
namespace Lp
open Go Go.Proofs
open Option (map_none map_some)
def vL:eX:=λargs objs K=>match args with
 | [a]=>gy aj a (HK.mk:HK λt=>t_ t∧aO t=6∧K (.gI objs.length 0) (objs++[bX (jC t) 0]) 2)
 | _=>False
theorem JG:aQ Tryz.prog 88 vL:=by
 intro args objs K h
 unfold vL at h
 split at h
 ·obtain⟨t,rfl,h1,h2,hk⟩:=h
  have h:=mO.made (P:=Tryz.prog) (objs:=objs) _ _ rfl (lS (jC t) 0) (PX t h1 h2)
  exact⟨_,_,_,h,by simpa[PV.shift,PV.jV] using hk⟩
 ·exact h.elim
theorem Ir(nm:List UInt8):∀(l:mG) (i:Nat),∃j,lV .str (.str nm) (l.map l8) i=some ((jh l nm).map λx=>(j,aj x))
 | [],i=>⟨0,rfl⟩
 | (k,v)::l,i=>by
  by_cases h:k=nm
  ·subst h
   exact⟨i,by simp[lV,l8,Qy,jh]⟩
  ·obtain⟨j,hj⟩:=Ir nm l (i+1)
   have h1:decide (nm=k)=false:=decide_eq_false λe=>h e.symm
   have h2:decide (k=nm)=false:=decide_eq_false h
   exact⟨j,by simp only[List.map_cons,lV,l8,Qy,h1];rw[show jh ((k,v)::l) nm=jh l nm by simp[jh,List.find?_cons,h2]];exact hj⟩
def M6(la lb l':mG)(N:Nat)(seen:List Nat):List Obj:=[bX la 0,bX lb 0,bX l' 1,r_ (N+1) 0 lb.length seen 1,VL (N+2) 1]
theorem M7(la lb l':mG)(N:Nat)(seen:List Nat):Y5 N (M6 la lb l' N seen):=by
 intro o ho x hx c hc
 simp only[M6,List.mem_cons,List.not_mem_nil,or_false]at ho
 rcases ho with rfl | rfl | rfl | rfl | rfl
 ·exact kH (lS la 0 _ (List.mem_singleton.2 rfl) x hx c hc)
 ·exact kH (lS lb 0 _ (List.mem_singleton.2 rfl) x hx c hc)
 ·exact kH (lS l' 1 _ (List.mem_singleton.2 rfl) x hx c hc)
 ·simp only[r_,List.mem_cons,List.mem_map]at hx
  rcases hx with rfl | rfl | ⟨i,_,rfl⟩
  ·simp only[PV.cells,List.mem_singleton]at hc;subst hc;simp[PV.Ep]
  ·simp only[PV.cells,List.mem_singleton]at hc;subst hc;rfl
  ·simp only[PV.cells,List.mem_singleton]at hc;subst hc;rfl
 ·simp only[VL,List.mem_singleton]at hx;subst hx
  simp only[PV.cells,List.mem_singleton]at hc;subst hc;simp[PV.Ep]
theorem geT(n:Nat):(∀x b,(PV.bI [aj x,.bool b]).ge n=true)∧(∀z x q b,(PV.bI [.sl z x q,.bool b]).ge n=true):=⟨λ_ _=>rfl,λ_ _ _ _=>rfl⟩
theorem KW{l:mG}{nm:List UInt8}(h:jh l nm=none):nm ∉ l.map (·.1):=by
 intro hm
 obtain⟨q,hq,rfl⟩:=List.mem_map.1 hm
 simp only[jh,Option.map_eq_none_iff,List.find?_eq_none]at h
 exact absurd (h q hq) (by simp)
theorem KX{l:mG}{nm:List UInt8}{x:Vl}(h:jh l nm=some x):(nm,x)∈l:=by
 simp only[jh,Option.map_eq_some_iff]at h
 obtain⟨q,hq,rfl⟩:=h
 have h1:=List.find?_some hq
 have h2:=List.mem_of_find?_eq_some hq
 simp only[decide_eq_true_eq]at h1
 rw[←h1];exact h2
theorem JH{f:Nat}(hs:Yd f)(p:List Stp)(a b:Vl)(hp:p.length+f+1=20)(ha:t_ a)(hb:t_ b)(ka:aO a=6)(kb:aO b=6) :
  fK Tryz.prog 66 [bZ p,aj a,aj b] (jN ((oh a b).flatMap (nJ (aH f) p a b))):=by
 refine GU.TQ (fnT:=lH [(88,vL),(93,Cx)]) hD (af JG (af EK ak)) bC (by decide) λI J objs y Q hI jm jJ hQ=>?_
 obtain⟨N,hN⟩:∃N,objs.length=N:=⟨_,rfl⟩
 rw[hN]at jm jJ hQ ⊢
 have hG:=Ib hN
 obtain⟨na,la,lna,hza⟩:=D9 ha ka
 obtain⟨nb,lb,lnb,hzb⟩:=D9 hb kb
 obtain⟨pa1,_,pa2,pa3⟩:=dz ha.rt ka
 obtain⟨pb1,_,pb2,pb3⟩:=dz hb.rt kb
 (conv=>arg 4;cbv);simp (maxSteps:=400000) only[↓aA,aB,BEq.rfl,seval,hQ,Fb,hG,hN,oW N,yZ,↓vL]
 refine⟨ha,ka,hb,kb,?_⟩
 refine vC rfl rfl (PY (hG.1 _ _) ?_)
 simp (maxSteps:=400000) only[↓aA,aB,BEq.rfl,seval,hQ,Fb,hG,hN,oW N]
 refine vC rfl rfl (Sv hN (by rw[←pa2];exact na) λl' seen hn' hk'=>?_)
 simp (maxSteps:=400000) only[↓aA,aB,BEq.rfl,seval,hQ,Fb,hG,hN,oW N]
 refine vC rfl rfl (Sw ?_)
 simp (maxSteps:=400000) only[↓aA,aB,BEq.rfl,seval,hQ,Fb,hG,hN,oW N]
 rw[←pa2,←pb2]at hk'
 have hperm:(l'.map (·.1)).Perm (aK a++(aK b).filter λx=>!(aK a).contains x):=by
  refine (List.perm_ext_iff_of_nodup hn' ?_).2 λk=>?_
  ·rw[List.nodup_append]
   refine⟨na,nb.filter _,λx hx z hz e=>?_⟩
   subst e
   have:=(List.mem_filter.1 hz).2
   simp[hx]at this
  ·rw[hk',List.mem_append,List.mem_filter]
   by_cases h:k∈aK a<;>simp[h]
 have hlen:l'.length≤2000000:=by
  have h1:=hperm.length_eq
  rw[List.length_map,List.length_append]at h1
  have h2:=List.length_filter_le (λx=>!(aK a).contains x) (aK b)
  omega
 have hkl:∀k∈l'.map (·.1),k.length≤1000000:=λk hk=>by
  rcases (hk' k).1 hk with h | h
  ·exact u_ ha.rt ha.nm k h
  ·exact u_ hb.rt hb.nm k h
 refine vC rfl rfl (M5 (km:=N+2) (l:=l') (hG.2.1 _ _ 3) (hG.2.1 _ _ 1) hn' hlen hkl ?_)
 have hnu:rG (l'.map (·.1))=oh a b:=Go.mergeSort_of_perm hperm
 rw[hnu]
 simp (maxSteps:=400000) only[↓aA,aB,BEq.rfl,seval,hQ,Fb,hG,hN,oW N]
 obtain⟨zB,hnm⟩:∃zB,oh a b=zB:=⟨_,rfl⟩
 have hnl:zB.length≤2000000:=by rw[←hnm,←hnu,Ck,List.length_map];exact hlen
 have hmem:∀k∈zB,k∈aK a∨k∈aK b:=λk hk=>by
  rw[←hnm,←hnu]at hk
  exact (hk' k).1 ((List.mergeSort_perm _ _).mem_iff.1 hk)
 obtain⟨g,hg⟩:∃g,nJ (aH f) p a b=g:=⟨_,rfl⟩
 rw[hnm]at hQ ⊢
 rw[hg]at hQ ⊢
 refine aU (λm S=>∃(i:Nat) (O:List Obj),i+m=zB.length∧I ((zB.take i).flatMap g).length O∧
  S=⟨dR 76 [(0,bZ p),(3,.qN y),(9,.gI N 0),(10,.gI (N+1) 0),(31,kT zB),(32,.int .i64 zB.length),(33,.int .i64 i)],O++M6 (jC a) (jC b) l' N seen⟩)
  zB.length ⟨0,objs,by omega,hI,?_⟩ ?_
 ·simp only[dw,keepR,Nat.reduceAdd,pX,Nat.reduceBEq,List.map_nil]
  rfl
 clear hG hN hI
 rintro m S ⟨i,O,him,FL,rfl⟩
 have hO:=(jm _ _ FL).1
 have hG:=Ib hO
 rcases Nat.lt_or_ge i zB.length with h | h
 rotate_left 1
 ·have hlt:((i:Int)<(zB.length:Int))=False:=eq_false (by omega)
  simp (maxSteps:=400000) only[↓aA,aB,BEq.rfl,seval,hQ,hlt,Fb]
  obtain rfl:i=zB.length:=by omega
  rw[List.take_length]at FL
  exact DW (by rw[gT];exact FL) hO
 have hlt:((i:Int)<(zB.length:Int))=True:=eq_true (by omega)
 have zi:(0≤(i:Int))=True:=eq_true (by omega)
 have hgn:=List.getElem?_eq_getElem h
 have htk:zB.take (i+1)=zB.take i++[zB[i]]:=by rw[List.take_add_one,hgn];rfl
 have hsplit:zB=zB.take i++(zB[i]::zB.drop (i+1)):=by rw[←List.drop_eq_getElem_cons h,List.take_append_drop]
 have hkm:=hmem _ (List.getElem_mem h)
 generalize zB[i]=nm at hgn htk hsplit hkm
 have hys:zB.flatMap g=(zB.take i).flatMap g++(g nm++(zB.drop (i+1)).flatMap g):=by
  conv=>lhs;rw[hsplit]
  rw[List.flatMap_append,List.flatMap_cons]
 have htl:((zB.take (i+1)).flatMap g).length=((zB.take i).flatMap g).length+(g nm).length:=by
  rw[htk,List.flatMap_append,List.length_append];simp
 have hyl:(zB.flatMap g).length=((zB.take i).flatMap g).length+(g nm).length+((zB.drop (i+1)).flatMap g).length:=by rw[hys];simp;omega
 obtain⟨ja,hja⟩:=Ir nm (jC a) 0
 obtain⟨jb,hjb⟩:=Ir nm (jC b) 0
 have hoa:fM a nm=jh (jC a) nm:=by rw[fM,if_pos ka]
 have yw:fM b nm=jh (jC b) nm:=by rw[fM,if_pos kb]
 cases hvb:jh (jC b) nm with
 | none=>
  have hgm:g nm=[⟨2,p++[⟨false,nm,0⟩],[]⟩]:=by
   rw[←hg,nJ,if_neg (by simp[dS,yw,hvb])]
  rw[hvb]at hjb
  simp only[map_none]at hjb
  cases hva:jh (jC a) nm with
  | none=>
   rcases hkm with hk | hk
   ·rw[pa2]at hk;exact absurd hk (KW hva)
   ·rw[pb2]at hk;exact absurd hk (KW hvb)
  | some x=>
   rw[hva]at hja
   simp only[map_some]at hja
   have hyq:(jN (zB.flatMap g))[((zB.take i).flatMap g).length]?=some [qG 2 (bf (p++[⟨false,nm,0⟩])) (.sl 0 [] (some true))]:=by
    rw[←KO p _ [],hys,hgm]
    exact Cy (l2:=[])
   have hg1:(g nm).length=1:=by rw[hgm];rfl
   simp (maxSteps:=400000) only[↓aA,aB,BEq.rfl,seval,hQ,hlt,zi,Fb,M6,hG,oW N,hgn,ZP,DX,yZ,↓Jl,jH,CK,hja,hjb,DJ,bT,Int.toNat_natCast]
   refine aT _ (Weak.refl _ _) ?_
   simp (maxSteps:=400000) only[↓aA,aB,BEq.rfl,seval,hQ,hlt,zi,Fb,M6,hG,oW N,hgn,ZP,DX,yZ,↓Jl,jH,CK,hja,hjb,DJ,bT,Int.toNat_natCast]
   refine⟨by omega,.inl trivial,.inl trivial,Cw (n:=N) rfl rfl rfl rfl jm jJ (n_ (by simp only[Vw,VJ,geT,TS,Bool.and_self])) (M7 (jC a) (jC b) l' N seen) rfl FL hyq (λO1 hI1=>?_) λO1 vK=>?_⟩
   ·simp (maxSteps:=400000) only[↓aA,aB,BEq.rfl,seval,hQ]
    refine⟨⟨by omega,by omega⟩,m-1,by omega,i+1,O1,by omega,?_,by rw[Int.natCast_add];rfl⟩
    rw[htl,hg1];exact hI1
   ·simp (maxSteps:=400000) only[↓aA,aB,BEq.rfl,seval,hQ]
    exact lK (by rw[gT];omega) vK (jJ _ _ vK).1
 | some z=>
  rw[hvb]at hjb
  simp only[map_some]at hjb
  have hfb:bH b nm=z:=by rw[bH,yw,hvb];rfl
  have hzk:t_ z:=(t_.parts hb).2 z (by rw[pb3];exact List.mem_map.2 ⟨_,KX hvb,rfl⟩)
  cases hva:jh (jC a) nm with
  | none=>
   have hgm:g nm=[⟨1,p++[⟨false,nm,0⟩],z⟩]:=by
    rw[←hg,nJ,if_pos (by simp[dS,yw,hvb]),if_neg (by simp[dS,hoa,hva]),hfb]
   rw[hva]at hja
   simp only[map_none]at hja
   have hyq:(jN (zB.flatMap g))[((zB.take i).flatMap g).length]?=some [qG 1 (bf (p++[⟨false,nm,0⟩])) (aj z)]:=by
    rw[←Pw,hys,hgm]
    exact Cy (l2:=[])
   have hg1:(g nm).length=1:=by rw[hgm];rfl
   simp (maxSteps:=400000) only[↓aA,aB,BEq.rfl,seval,hQ,hlt,zi,Fb,M6,hG,oW N,hgn,ZP,DX,yZ,↓Jl,jH,CK,hja,hjb,DJ,bT,Int.toNat_natCast]
   refine aT _ (Weak.refl _ _) ?_
   simp (maxSteps:=400000) only[↓aA,aB,BEq.rfl,seval,hQ,hlt,zi,Fb,M6,hG,oW N,hgn,ZP,DX,yZ,↓Jl,jH,CK,hja,hjb,DJ,bT,Int.toNat_natCast]
   refine⟨by omega,.inl trivial,.inl trivial,Cw (n:=N) rfl rfl rfl rfl jm jJ (n_ (by simp only[Vw,VJ,geT,TS,Bool.and_self])) (M7 (jC a) (jC b) l' N seen) rfl FL hyq (λO1 hI1=>?_) λO1 vK=>?_⟩
   ·simp (maxSteps:=400000) only[↓aA,aB,BEq.rfl,seval,hQ]
    refine⟨⟨by omega,by omega⟩,m-1,by omega,i+1,O1,by omega,?_,by rw[Int.natCast_add];rfl⟩
    rw[htl,hg1];exact hI1
   ·simp (maxSteps:=400000) only[↓aA,aB,BEq.rfl,seval,hQ]
    exact lK (by rw[gT];omega) vK (jJ _ _ vK).1
  | some x=>
   have hfa:bH a nm=x:=by rw[bH,hoa,hva];rfl
   have hxk:t_ x:=(t_.parts ha).2 x (by rw[pa3];exact List.mem_map.2 ⟨_,KX hva,rfl⟩)
   have hgm:g nm=aH f (p++[⟨false,nm,0⟩]) x z:=by
    rw[←hg,nJ,if_pos (by simp[dS,yw,hvb]),if_pos (by simp[dS,hoa,hva]),hfb,hfa]
   rw[hva]at hja
   simp only[map_some]at hja
   have hcall:=hs (p++[⟨false,nm,0⟩]) x z (by simp;omega) hxk hzk
   rw[pqS]at hcall
   have hgl:(g nm).length=(jN (aH f (p++[⟨false,nm,0⟩]) x z)).length:=by rw[hgm,gT]
   simp (maxSteps:=400000) only[↓aA,aB,BEq.rfl,seval,hQ,hlt,zi,Fb,M6,hG,oW N,hgn,ZP,DX,yZ,↓Jl,jH,CK,hja,hjb,DJ,bT,Int.toNat_natCast]
   refine aT _ (Weak.refl _ _) ?_
   simp (maxSteps:=400000) only[↓aA,aB,BEq.rfl,seval,hQ,hlt,zi,Fb,M6,hG,oW N,hgn,ZP,DX,yZ,↓Jl,jH,CK,hja,hjb,DJ,bT,Int.toNat_natCast]
   refine⟨by omega,.inl trivial,.inl trivial,MI (n:=N) (bargs:=[bf (p++[⟨false,nm,0⟩]),aj x,aj z]) rfl rfl rfl rfl jm jJ (n_ (by simp only[Vw,VJ,geT,TS,Bool.and_self])) (M7 (jC a) (jC b) l' N seen) rfl rfl hcall FL
    (λj c hj=>by rw[hys,hgm];exact KP hj) (λO1 hI1=>?_) λj O1 hj vK=>?_⟩
   ·simp (maxSteps:=400000) only[↓aA,aB,BEq.rfl,seval,hQ]
    refine⟨⟨by omega,by omega⟩,m-1,by omega,i+1,O1,by omega,?_,by rw[Int.natCast_add];rfl⟩
    rw[htl,hgl];exact hI1
   ·simp (maxSteps:=400000) only[↓aA,aB,BEq.rfl,seval,hQ]
    exact lK (by rw[gT];omega) vK (jJ _ _ vK).1
end Lp
namespace Lp
open Go Go.Proofs
theorem oq{f:Nat}{p:List Stp}{a b:Vl}{ys:List Ed}(ha:t_ a)(hb:t_ b)(hp:p.length+f=20)
  (h:(a=b∧ys=[])∨
   (a≠b∧aO a=6∧aO b=6∧p.length<20∧fK Tryz.prog 66 [bZ p,aj a,aj b] (jN ys))∨
   (a≠b∧aO a=5∧aO b=5∧p.length<20∧fK Tryz.prog 67 [bZ p,aj a,aj b] (jN ys))∨
   (a≠b∧(p.length<20→¬ (aO a=6∧aO b=6)∧¬ (aO a=5∧aO b=5))∧ys=[⟨0,p,b⟩])) :
  fK Tryz.prog 45 [bZ p,aj a,aj b] (jN ys):=by
 refine Jc.TQ (fnT:=lH [(65,dF)]) hD (af rX ak) bC (by decide) λI J objs y Q hI jm jJ hQ=>?_
 obtain⟨N,hN⟩:∃N,objs.length=N:=⟨_,rfl⟩
 rw[hN]at jm jJ hQ ⊢
 have hal:=ha.len
 have hbl:=hb.len
 obtain⟨na,ra,rfl,_⟩:=bO ha.rt.name ha.rt.one.ne
 obtain⟨nb,rb,rfl,_⟩:=bO hb.rt.name hb.rt.one.ne
 simp only[aO]at h
 have ga:(na::ra)[0]?=some na:=rfl
 have gb:(nb::rb)[0]?=some nb:=rfl
 generalize na::ra=a at *
 generalize nb::rb=b at *
 rcases h with ⟨hab,rfl⟩ | ⟨hab,k1,k2,hpl,hg⟩ | ⟨hab,k1,k2,hpl,hg⟩ | ⟨hab,hk,rfl⟩
 ·have hab':=eq_true hab
  (conv=>arg 4;cbv);simp (maxSteps:=400000) only[↓aA,aB,BEq.rfl,seval,hQ,Fb,yZ,pqL,ga,gb,↓dF,hab']
  have he:=og (J:=J) (n:=N) (len:=0) hI hN
  exact⟨λ_=>⟨λ_=>⟨hal,hbl,he⟩,λ_=>⟨hal,hbl,he⟩⟩,λ_=>⟨hal,hbl,he⟩⟩
 ·have hab':=eq_false hab
  have hpl':(20≤(p.length:Int))=False:=eq_false (by omega)
  (conv=>arg 4;cbv);simp (maxSteps:=400000) only[↓aA,aB,BEq.rfl,seval,hQ,Fb,yZ,pqL,ga,gb,↓dF,hab',k1,k2,hpl']
  refine⟨hal,hbl,Ia (n:=N) (i:=0) (bargs:=[bZ p,aj a,aj b]) rfl rfl rfl rfl jm jJ (n_ (by simp only[Vw,VJ,TS,Bool.and_self])) rfl (by simp[yZ];exact⟨rfl,rfl⟩) hg hI (λj c hj=>by rw[Nat.zero_add];exact hj) (λO1 hI1=>?_) λj O1 hj vK=>?_⟩
  ·simp (maxSteps:=400000) only[↓aA,aB,BEq.rfl,seval,hQ]
   rw[Nat.zero_add]at hI1
   exact og hI1 (jm _ _ hI1).1
  ·simp (maxSteps:=400000) only[↓aA,aB,BEq.rfl,seval,hQ]
   rw[Nat.zero_add]at vK
   exact oJ hj vK (jJ _ _ vK).1
 ·have hab':=eq_false hab
  have hpl':(20≤(p.length:Int))=False:=eq_false (by omega)
  (conv=>arg 4;cbv);simp (maxSteps:=400000) only[↓aA,aB,BEq.rfl,seval,hQ,Fb,yZ,pqL,ga,gb,↓dF,hab',k1,k2,hpl']
  refine⟨hal,hbl,Ia (n:=N) (i:=0) (bargs:=[bZ p,aj a,aj b]) rfl rfl rfl rfl jm jJ (n_ (by simp only[Vw,VJ,TS,Bool.and_self])) rfl (by simp[yZ];exact⟨rfl,rfl⟩) hg hI (λj c hj=>by rw[Nat.zero_add];exact hj) (λO1 hI1=>?_) λj O1 hj vK=>?_⟩
  ·simp (maxSteps:=400000) only[↓aA,aB,BEq.rfl,seval,hQ]
   rw[Nat.zero_add]at hI1
   exact og hI1 (jm _ _ hI1).1
  ·simp (maxSteps:=400000) only[↓aA,aB,BEq.rfl,seval,hQ]
   rw[Nat.zero_add]at vK
   exact oJ hj vK (jJ _ _ vK).1
 ·have hab':=eq_false hab
  have hyq:(jN [⟨0,p,b⟩])[0]?=some [qG 0 (bZ p) (aj b)]:=by rw[←X3];rfl
  by_cases e1:na.kind=nb.kind
  ·have e1':=eq_true e1
   by_cases e2:20≤(p.length:Int)
   ·have e2':=eq_true e2
    (conv=>arg 4;cbv);simp (maxSteps:=400000) only[↓aA,aB,BEq.rfl,seval,hQ,Fb,yZ,pqL,ga,gb,↓dF,hab',DX,e1',e2']
    refine⟨hal,hbl,H_ (n:=N) (i:=0) rfl rfl rfl rfl jm jJ (n_ (by simp only[Vw,VJ,TS,Bool.and_self])) (by rw[List.all_cons,y7 _ _ _ (yZ p).2.2.2.2.2.1 rfl];rfl) hI hyq (λO1 hI1=>?_) λO1 vK=>?_⟩
    ·simp (maxSteps:=400000) only[↓aA,aB,BEq.rfl,seval,hQ]
     exact og hI1 (jm _ _ hI1).1
    ·simp (maxSteps:=400000) only[↓aA,aB,BEq.rfl,seval,hQ]
     exact oJ (i:=0) (Nat.zero_lt_one) vK (jJ _ _ vK).1
   ·have e2':=eq_false e2
    obtain⟨q1,q2⟩:=hk (by omega)
    have n6:(na.kind=6)=False:=eq_false λe=>q1 ⟨e,by rw[←e1];exact e⟩
    have n5:(na.kind=5)=False:=eq_false λe=>q2 ⟨e,by rw[←e1];exact e⟩
    (conv=>arg 4;cbv);simp (maxSteps:=400000) only[↓aA,aB,BEq.rfl,seval,hQ,Fb,yZ,pqL,ga,gb,↓dF,hab',DX,e1',e2',n6,n5]
    refine⟨hal,hbl,H_ (n:=N) (i:=0) rfl rfl rfl rfl jm jJ (n_ (by simp only[Vw,VJ,TS,Bool.and_self])) (by rw[List.all_cons,y7 _ _ _ (yZ p).2.2.2.2.2.1 rfl];rfl) hI hyq (λO1 hI1=>?_) λO1 vK=>?_⟩
    ·simp (maxSteps:=400000) only[↓aA,aB,BEq.rfl,seval,hQ]
     exact og hI1 (jm _ _ hI1).1
    ·simp (maxSteps:=400000) only[↓aA,aB,BEq.rfl,seval,hQ]
     exact oJ (i:=0) (Nat.zero_lt_one) vK (jJ _ _ vK).1
  ·have e1':=eq_false e1
   (conv=>arg 4;cbv);simp (maxSteps:=400000) only[↓aA,aB,BEq.rfl,seval,hQ,Fb,yZ,pqL,ga,gb,↓dF,hab',DX,e1']
   refine⟨hal,hbl,H_ (n:=N) (i:=0) rfl rfl rfl rfl jm jJ (n_ (by simp only[Vw,VJ,TS,Bool.and_self])) (by rw[List.all_cons,y7 _ _ _ (yZ p).2.2.2.2.2.1 rfl];rfl) hI hyq (λO1 hI1=>?_) λO1 vK=>?_⟩
   ·simp (maxSteps:=400000) only[↓aA,aB,BEq.rfl,seval,hQ]
    exact og hI1 (jm _ _ hI1).1
   ·simp (maxSteps:=400000) only[↓aA,aB,BEq.rfl,seval,hQ]
    exact oJ (i:=0) (Nat.zero_lt_one) vK (jJ _ _ vK).1
theorem CO:∀f,Yd f
 | 0=>λp a b hp ha hb=>by
  rw[aH]
  split
  ·rename_i h
   exact oq ha hb hp (.inl ⟨h,rfl⟩)
  ·rename_i h
   exact oq ha hb hp (.inr (.inr (.inr ⟨h,λh'=>by omega,rfl⟩)))
 | f+1=>λp a b hp ha hb=>by
  have ih:=CO f
  rw[aH]
  split
  ·rename_i h
   exact oq ha hb hp (.inl ⟨h,rfl⟩)
  ·rename_i h
   split
   ·rename_i hk
    exact oq ha hb hp (.inr (.inl ⟨h,hk.1,hk.2,by omega,JH ih p a b (by omega) ha hb hk.1 hk.2⟩))
   ·rename_i h6
    split
    ·rename_i hk
     exact oq ha hb hp (.inr (.inr (.inl ⟨h,hk.1,hk.2,by omega,PS ih p a b (by omega) ha hb⟩)))
    ·rename_i h5
     exact oq ha hb hp (.inr (.inr (.inr ⟨h,λ_=>⟨h6,h5⟩,rfl⟩)))
end Lp
namespace Lp
open Go Go.Proofs
def iW(a b:Vl):List Ed:=aH 20 [] a b
theorem M8(a b:Vl)(ha:t_ a)(hb:t_ b):qw Tryz.prog 44 [.addr (aj a),.addr (aj b)] (jN (iW a b)):=by
 refine GR.abv (fnT:=lH []) hD ak bC λI J objs y hI jm jJ=>?_
 obtain⟨N,hN⟩:∃N,objs.length=N:=⟨_,rfl⟩
 rw[hN]at jm jJ ⊢
 have hg:=CO 20 [] a b rfl ha hb
 (conv=>arg 4;cbv);simp (maxSteps:=400000) only[↓aA,aB,BEq.rfl,seval,Fb]
 refine Ia (n:=N) (i:=0) (bargs:=[.sl 0 [] (some true),aj a,aj b]) rfl rfl rfl rfl jm jJ (n_ (by simp only[Vw,VJ,TS,Bool.and_self])) rfl rfl hg hI (λj c hj=>by rw[Nat.zero_add];exact hj) (λO1 hI1=>?_) λj O1 hj vK=>?_
 ·simp (maxSteps:=400000) only[↓aA,aB,BEq.rfl,seval]
  rw[Nat.zero_add]at hI1
  exact⟨.inl rfl,.inl hI1⟩
 ·simp (maxSteps:=400000) only[↓aA,aB,BEq.rfl,seval]
  rw[Nat.zero_add]at vK
  exact⟨.inl rfl,.inr ⟨j,hj,vK⟩⟩
theorem Sz(a b:Vl):av Tryz.prog 25 [aj a,aj b] [] (.fn 44 [] [.addr (aj a),.addr (aj b)]) []:=by
 refine L6.bY (T:=bg Tryz.prog []) 1 hD (ay ak) bC (by decide) λQ hQ=>?_
 (conv=>arg 4;cbv);simp (maxSteps:=400000) only[↓aA,aB,BEq.rfl,seval,hQ]
 rfl
theorem vM(e:Ed):∃(k:Int) (P V:PV),oZ e=.agg [.int .i64 k,P,V]∧(P.cells=[P]∧P.isAgg=false∧P.storable=true∧P.ref=false)∧V.cells=[V]∧V.isAgg=false∧V.storable=true∧V.ref=false:=by
 refine⟨e.kind,bZ e.p,_,rfl,⟨(yZ e.p).2.2.2.1,(yZ e.p).2.2.2.2.1,(yZ e.p).2.2.2.2.2.2.2,(yZ e.p).2.2.2.2.2.1⟩,?_⟩
 split
 all_goals exact⟨rfl,rfl,rfl,rfl⟩
def Yi(es:List Ed)(i ver:Nat):List Obj:=[⟨38,3,(es.take i).map oZ,true,ver⟩,⟨27,1,[.aZ 0 ver],true,1⟩]
theorem Z4(es:List Ed)(i ver:Nat):bJ (Yi es i ver):=by
 intro o ho x hx c hc
 simp only[Yi,List.mem_cons,List.not_mem_nil,or_false]at ho
 rcases ho with rfl | rfl
 ·obtain⟨e,_,rfl⟩:=List.mem_map.1 hx
  obtain⟨k,P,V,he,⟨_,_,_,hP⟩,_,_,_,hV⟩:=vM e
  rw[he]at hc
  simp only[PV.cells,List.mem_cons,List.not_mem_nil,or_false]at hc
  have nr:∀c:PV,c.ref=false→c.qd 2=true:=λc h=>by cases c<;>first | rfl | (simp[PV.ref]at h)
  rcases hc with rfl | rfl | rfl
  ·rfl
  ·exact nr _ hP
  ·exact nr _ hV
 ·simp only[List.mem_singleton]at hx;subst hx
  simp only[PV.cells,List.mem_singleton]at hc;subst hc;rfl
theorem AX{d n:Nat}{O:List Obj}{p:PV}(h:p.ref=false):lF d n O p=p:=by
 cases p<;>first | (simp[PV.ref]at h;done) | (cases d<;>rfl)
theorem D_{d n:Nat}{O:List Obj}{p:PV}(h:p.ref=false):gq d n O p=p:=by
 cases p<;>first | (simp[PV.ref]at h;done) | rfl
theorem inQ:zP oZ:=by
 intro d n O e
 obtain⟨k,P,V,he,⟨_,_,_,hP⟩,_,_,_,hV⟩:=vM e
 rw[he]
 show PV.agg [lF d n O (.int .i64 k),lF d n O P,lF d n O V]=_
 rw[AX hP,AX hV,AX rfl]
theorem Yj(d n:Nat)(O:List Obj)(l:List Ed):(l.map oZ).map (PV.bU (gq d n O))=l.map oZ:=by
 rw[List.map_map]
 refine List.map_congr_left λe _=>?_
 obtain⟨k,P,V,he,⟨_,_,_,hP⟩,_,_,_,hV⟩:=vM e
 show PV.bU (gq d n O) (oZ e)=_
 rw[he]
 show PV.agg [gq d n O (.int .i64 k),gq d n O P,gq d n O V]=_
 rw[D_ hP,D_ hV,D_ rfl]
theorem edZ:PV.yo (.agg ⟨[.int .i64 0,.slice none 0 0,.slice none 0 0]⟩)=.agg [.int .i64 0,.sl 0 [] (some true),.sl 0 [] (some true)]:=rfl
theorem agP(a b c x y z:PV):(PV.agg [a,b,c]).putCells 0 [x,y,z]=.agg [x,y,z]:=rfl
theorem JI(a b:Vl)(ha:t_ a)(hb:t_ b)(hl:(iW a b).length≤1000000000):av Tryz.prog 43 [.sl 0 [] (some true),.fn 44 [] [.addr (aj a),.addr (aj b)]] [] (.sl 3 ((iW a b).map oZ) none) []:=by
 refine jS.bY (T:=bg Tryz.prog []) 1 hD (ay ak) bC (by decide) λQ hQ=>?_
 (conv=>arg 4;cbv);simp (maxSteps:=400000) only[↓aA,aB,BEq.rfl,seval,hQ]
 refine aT _ (Weak.Kh 0 38 3 rfl (by decide)) ?_
 simp (maxSteps:=400000) only[↓aA,aB,BEq.rfl,seval,hQ]
 obtain⟨es,hes⟩:∃es,iW a b=es:=⟨_,rfl⟩
 have hgE:=M8 a b ha hb
 rw[hes]at hQ hl hgE
 refine Zo 44 [.addr (aj a),.addr (aj b)] (jN es) (λi O=>i≤es.length∧∃ver,O=Yi es i ver) rfl rfl rfl (Nat.le_refl _) hgE (λy hy=>?_) ⟨Nat.zero_le _,0,rfl⟩ ?_ ?_ ?_
 ·obtain⟨e,_,rfl⟩:=List.mem_map.1 hy
  rfl
 ·rintro i O ⟨_,ver,rfl⟩
  exact⟨rfl,Z4 es i ver⟩
 ·rintro i args O ⟨hi,ver,rfl⟩ PU
  simp only[jN,List.getElem?_map]at PU
  cases hei:es[i]? with
  | none=>rw[hei]at PU;cases PU
  | some e=>
   rw[hei]at PU
   simp only[Option.map_some,Option.some.injEq]at PU
   subst PU
   have hil:=(List.getElem?_eq_some_iff.1 hei).1
   have htk:es.take (i+1)=es.take i++[e]:=by rw[List.take_add_one,hei];rfl
   obtain⟨k,P,V,he,hP,hV⟩:=vM e
   rw[he]
   simp (maxSteps:=400000) only[↓aA,aB,BEq.rfl,seval,hQ,jQ,V6,Yi,hP,hV,edZ,agP,H6,List.take_succ_cons,List.take_zero]
   have htl:=List.length_take_le i es
   refine⟨y7 k P V hP.2.2.2 hV.2.2.2,by omega,by omega,?_⟩
   refine And.intro (by omega) (Exists.intro (ver+1) ?_)
   show [fJ 0 2 _ _,fJ 0 2 _ _]=_
   rw[TM _ (by decide)]
   refine congrArg (λz=>[z,_]) ?_
   have hrow:List.map oZ (List.take i es)++[PV.agg [PV.int IntKind.i64 k,P,V]]=List.map oZ (List.take (i+1) es):=by rw[htk,List.map_append,←he];rfl
   rw[hrow]
   simp only[fJ,Yj]
 ·rintro O ⟨_,ver,rfl⟩
  rw[gT]
  simp (maxSteps:=400000) only[↓aA,aB,BEq.rfl,seval,hQ,Yi,List.take_length]
  exact ((jd (E:=λl:List Ed=>.sl 3 (l.map oZ) none) (λ_=>rfl) inQ).1 0 38 es ver _).symm
def TU:eX:=λargs objs K=>∃a b:Vl,args=[.sl 0 [] (some true),.fn 44 [] [.addr (aj a),.addr (aj b)]]∧t_ a∧t_ b∧(iW a b).length≤1000000000∧K (.sl 3 ((iW a b).map oZ) none) objs 0
theorem SA:aQ Tryz.prog 43 TU:=by
 rintro args objs K ⟨a,b,rfl,h1,h2,h3,hk⟩
 exact⟨_,_,_,.pure _ rfl (JI a b h1 h2 h3),hk⟩
theorem JJ(a b:Vl)(ha:t_ a)(hb:t_ b)(hl:(iW a b).length≤1000000000):av Tryz.prog 24 [.fn 44 [] [.addr (aj a),.addr (aj b)]] [] (.sl 3 ((iW a b).map oZ) none) []:=by
 refine qz.bY (T:=bg Tryz.prog [(43,TU)]) 0 hD (ay (af SA ak)) bC (by decide) λQ hQ=>?_
 (conv=>arg 4;cbv);simp (maxSteps:=400000) only[↓aA,aB,BEq.rfl,seval,hQ]
 refine⟨a,b,rfl,ha,hb,hl,?_⟩
 simp (maxSteps:=400000) only[↓aA,aB,BEq.rfl,seval,hQ]
def TV:eX:=λargs objs K=>∃a b:Vl,args=[.fn 44 [] [.addr (aj a),.addr (aj b)]]∧t_ a∧t_ b∧(iW a b).length≤1000000000∧K (.sl 3 ((iW a b).map oZ) none) objs 0
theorem SB:aQ Tryz.prog 24 TV:=by
 rintro args objs K ⟨a,b,rfl,h1,h2,h3,hk⟩
 exact⟨_,_,_,.pure _ rfl (JJ a b h1 h2 h3),hk⟩
def CP:eX:=λargs objs K=>match args with
 | [a0,a1]=>gy aj a0 (HK.mk:HK λa=>gy aj a1 (HK.mk:HK λb=>K (.fn 44 [] [.addr (aj a),.addr (aj b)]) objs 0))
 | _=>False
theorem P5:aQ Tryz.prog 25 (CP):=by
 intro args objs K h
 unfold CP at h
 split at h
 ·rename_i a0 a1
  obtain⟨a,rfl,b,rfl,hk⟩:=h
  exact⟨_,_,_,.pure _ rfl (Sz a b),hk⟩
 ·exact h.elim
end Lp
namespace Lp
open Go Go.Proofs
theorem VO{sz:Nat}{xs ys:List PV}(hl:xs.length=ys.length)(hc:∀(i:Nat) (x y:PV),xs[i]?=some x→ys[i]?=some y→x.cells.length=y.cells.length∧∀(j:Nat) (p q:PV),x.cells[j]?=some p→y.cells[j]?=some q→gD p q):gD (.sl sz xs none) (.sl sz ys none):=by
 have px:∀(i:Nat) (y:PV),ys[i]?=some y→∃x,xs[i]?=some x:=λi y h=>by
  have hi:i<xs.length:=by rw[hl];exact (List.getElem?_eq_some_iff.1 h).1
  exact⟨_,List.getElem?_eq_getElem hi⟩
 have pc:∀{x y:PV},x.cells.length=y.cells.length→∀(j:Nat) (q:PV),y.cells[j]?=some q→∃p,x.cells[j]?=some p:=λ{x y} h j q hq=>by
  have hi:j<x.cells.length:=by rw[h];exact (List.getElem?_eq_some_iff.1 hq).1
  exact⟨_,List.getElem?_eq_getElem hi⟩
 have z:∀{l m:List PV},l.length=m.length→l=[]→m=[]:=λ{l m} h e=>List.length_eq_zero_iff.1 (by rw[←h,e];rfl)
 intro w ok v h
 cases h with
 | slnil _ _ _=>rw[z hl rfl];exact .slnil sz none (by decide)
 | FZ _ _ _ a cap hcap=>rw[z hl rfl];exact .FZ sz none (by decide) a cap hcap
 | sl _ _ _ _ b off cap vs hok hlen hcap hsz hcell hrep=>
  rw[hl]
  refine .sl sz ys none (by decide) b off cap vs (λhy=>hok λe=>hy (z hl e)) (by omega) hcap (λi y hy=>?_) (λi y j q hy hq=>?_) λi y j q hy hq=>?_
  ·obtain⟨x,hx⟩:=px i y hy
   rw[←(hc i x y hx hy).1];exact hsz i x hx
  ·obtain⟨x,hx⟩:=px i y hy
   obtain⟨p,hp⟩:=pc (hc i x y hx hy).1 j q hq
   exact hcell i x j p hx hp
  ·obtain⟨x,hx⟩:=px i y hy
   obtain⟨p,hp⟩:=pc (hc i x y hx hy).1 j q hq
   exact (hc i x y hx hy).2 j p q hp hq _ _ _ (hrep i x j p hx hp)
theorem SC(l:List Ed)(hl:∀e∈l,e.kind=2→e.v=[]):gD (.sl 3 (l.map oZ) none) (jK l):=by
 refine VO (by simp) λi x y hx hy=>?_
 rw[List.getElem?_map]at hx hy
 cases he:l[i]? with
 | none=>rw[he]at hx;cases hx
 | some e=>
  rw[he]at hx hy
  cases hx;cases hy
  have h:=hl e (List.mem_of_getElem? he)
  unfold oZ qG iD
  refine⟨rfl,λj p q hp hq=>?_⟩
  match j,hp,hq with
  | 0,hp,hq=>cases hp;cases hq;exact .refl _
  | 1,hp,hq=>cases hp;cases hq;exact Pv _
  | 2,hp,hq=>
   cases hp;cases hq
   split
   ·rename_i h2;rw[h h2];exact jv 0 6
   ·exact .refl _
  | _+3,hp,_=>simp[PV.cells]at hp
theorem SE(a b:Vl)(ha:t_ a)(hb:t_ b):av Tryz.prog 11 [aj a,aj b] [] (.sl 3 ((iW a b).map oZ) none) []:=by
 have hl:=vF 20 [] a b ha.rt hb.rt
 have h1:=ha.len
 have h2:=hb.len
 have hd:(iW a b).length≤1000000000:=by unfold iW;omega
 refine Oy.bY (T:=bg Tryz.prog [(25,CP),(24,TV)]) 0 hD (ay (af P5 (af SB ak))) bC (by decide) λQ hQ=>?_
 (conv=>arg 4;cbv);simp (maxSteps:=400000) only[↓aA,aB,BEq.rfl,seval,hQ,↓CP]
 refine⟨a,b,rfl,ha,hb,hd,?_⟩
 simp (maxSteps:=400000) only[↓aA,aB,BEq.rfl,seval,hQ]
theorem VP(a b:Vl)(ha:t_ a)(hb:t_ b):av Tryz.prog 11 [aj a,aj b] [] (jK (iW a b)) []:=
 (SE a b ha hb).res (SC _ λe he=>xU 20 [] a b e he)
def pM:eX:=λargs objs K=>match args with
 | [a0,a1]=>gy aj a0 (HK.mk:HK λa=>gy aj a1 (HK.mk:HK λb=>(t_ a)∧(t_ b)∧K (jK (iW a b)) objs 0))
 | _=>False
theorem AY:aQ Tryz.prog 11 (pM):=by
 intro args objs K h
 unfold pM at h
 split at h
 ·rename_i a0 a1
  obtain⟨a,rfl,b,rfl,h1,h2,hk⟩:=h
  exact⟨_,_,_,.pure _ rfl (VP a b h1 h2),hk⟩
 ·exact h.elim
end Lp
namespace Lp
open Go Go.Proofs
theorem AZ:aW Tryz.prog 9 69 [.tmp 0] (gen [] [] [2] Tryz.f9):=bN Tryz.func9 rfl (by kernel_rfl)
theorem Ea:aW Tryz.prog 13 87 [.tmp 2] (gen [] [(9,none),(25,none),(41,none)] [] Tryz.f13):=bN Tryz.func13 rfl (by kernel_rfl)
theorem tQ:aW Tryz.prog 5 64 [.tmp 4] (gen [] [] [] Tryz.f5):=bN Tryz.func5 rfl (by kernel_rfl)
theorem wz:aW Tryz.prog 4 78 [.tmp 4] (gen [] [(515,none)] [] Tryz.f4):=bN Tryz.func4 rfl (by kernel_rfl)
end Lp
namespace Lp
open Go Go.Proofs
open List (mem_cons not_mem_nil)
def ab5:Nd:=⟨3,0,[],[49],false,0⟩
def Yk:Nd:=⟨3,0,[],[50],false,0⟩
def P6:Nd:=⟨3,0,[],[51],false,0⟩
def adP:Nd:=⟨5,2,[],[],false,0⟩
def z8:Vl:=[adP,ab5,Yk]
def Iu:Vl:=[adP,Yk,P6]
theorem SF:bR z8=true∧bR Iu=true∧iW z8 Iu=[⟨2,[⟨true,[],0⟩],[]⟩,⟨1,[⟨true,[],1⟩],[P6]⟩]∧dY z8 [⟨2,[⟨true,[],0⟩],[]⟩,⟨1,[⟨true,[],1⟩],[P6]⟩]=(Iu,0)∧dL z8 ⟨2,[⟨true,[],2⟩],[]⟩=([],6):=by decide +kernel
def M9:eX:=λargs objs K=>∃v p,args=[aj v,qG 2 (bf p) (.sl 0 [] (some true))]∧xX v ⟨2,p,[]⟩∧K (.bI [aj (dL v ⟨2,p,[]⟩).1,.int .i64 (dL v ⟨2,p,[]⟩).2]) objs 0
theorem SG:aQ Tryz.prog 17 M9:=by
 rintro args objs K ⟨v,p,rfl,h,hk⟩
 refine⟨_,_,_,.pure _ rfl ((PO v ⟨2,p,[]⟩ h).arg rfl λi x y hx hy=>?_),hk⟩
 match i with
 | 0=>cases hx;cases hy;exact .refl _
 | 1=>
  cases hx;cases hy
  refine .agg rfl λi x y hx hy=>?_
  match i with
  | 0=>cases hx;cases hy;exact .refl _
  | 1=>cases hx;cases hy;exact .refl _
  | 2=>cases hx;cases hy;exact jv 0 6
  | _+3=>simp at hx
 | _+2=>simp at hx
theorem adQ(v:Vl)(p:List Stp)(objs:List Obj)(K:KT):M9 [aj v,qG 2 (bf p) (.sl 0 [] (some true))] objs K=(xX v ⟨2,p,[]⟩∧K (.bI [aj (dL v ⟨2,p,[]⟩).1,.int .i64 (dL v ⟨2,p,[]⟩).2]) objs 0):=by
 refine propext ⟨?_,λh=>⟨v,p,rfl,h⟩⟩
 rintro⟨v',p',he,h⟩
 simp only[qG,List.cons.injEq,PV.agg.injEq,true_and,and_true]at he
 obtain rfl:=mV _ _ he.1
 obtain rfl:=lX _ _ he.2
 exact h
theorem zSl:(PV.yo (.agg ⟨[.bool false,.string ⟨⟨[]⟩⟩,.int .i64 0]⟩)).cells.length=3∧(PV.yo (.agg ⟨[.bool false,.string ⟨⟨[]⟩⟩,.int .i64 0]⟩)).cells.all PV.storable=true:=⟨rfl,rfl⟩
theorem Yl{v:Vl}(h:Rt v)(hl:v.length≤1000000)(hn:Nm v):t_ v:=⟨h,hl,λn h=>(hn n h).2⟩
theorem Ym{v:Vl}(hl:v.length≤1000000)(hn:Nm v):Small v:=⟨hl,λn h=>⟨(hn n h).1,by have:=(hn n h).2;omega⟩⟩
theorem Z5:Nm z8∧Nm Iu∧Nm [P6]∧Nm []:=by
 refine⟨λn h=>?_,λn h=>?_,λn h=>?_,λn h=>by cases h⟩
 all_goals
  simp only[z8,Iu,mem_cons,not_mem_nil,or_false]at h
 ·rcases h with rfl | rfl | rfl<;>decide
 ·rcases h with rfl | rfl | rfl<;>decide
 ·subst h;decide
theorem A7:Small [P6]∧Small []:=by
 refine⟨⟨by decide,λn h=>?_⟩,⟨by decide,λn h=>by cases h⟩⟩
 simp only[mem_cons,not_mem_nil,or_false]at h
 subst h;decide
theorem Iw(n:Int):YH [⟨true,[],n⟩]:=⟨by simp,λs h=>by simp only[mem_cons,not_mem_nil,or_false]at h;subst h;simp⟩
theorem adR(a b c:Nd):(gq 1 0 [⟨46,6,[aM a],true,1⟩,⟨46,6,[aM b],true,1⟩,⟨46,6,[aM c],true,1⟩] (.bq 0 1 0 0)=.addr (aM a))∧
  (gq 1 0 [⟨46,6,[aM a],true,1⟩,⟨46,6,[aM b],true,1⟩,⟨46,6,[aM c],true,1⟩] (.bq 1 1 0 0)=.addr (aM b))∧
  (gq 1 0 [⟨46,6,[aM a],true,1⟩,⟨46,6,[aM b],true,1⟩,⟨46,6,[aM c],true,1⟩] (.bq 2 1 0 0)=.addr (aM c)):=⟨rfl,rfl,rfl⟩
theorem M_:av Tryz.prog 9 [] [] (.bool true) []:=by
 refine AZ.bY (T:=bg Tryz.prog [(11,pM),(14,nk),(17,M9),(16,kK)]) 1 hD (ay (af AY (af xY (af SG (af uU ak))))) bC (by decide) λQ hQ=>?_
 obtain⟨rA,rB,f1,f2,f3⟩:=SF
 have e1:(⟨3,0,[],[49],false,0⟩:Nd)=ab5:=rfl
 have e2:(⟨3,0,[],[50],false,0⟩:Nd)=Yk:=rfl
 have e3:(⟨3,0,[],[51],false,0⟩:Nd)=P6:=rfl
 have eA:([⟨5,2,[],[],false,0⟩,ab5,Yk]:Vl)=z8:=rfl
 have eB:([⟨5,2,[],[],false,0⟩,Yk,P6]:Vl)=Iu:=rfl
 (conv=>arg 4;cbv);simp (maxSteps:=400000) only[↓aA,aB,BEq.rfl,seval,hQ,TB,TD,e1,e2,e3]
 refine aT _ (Weak.freeze 1 0 (Nat.zero_le _) _) ?_
 simp (maxSteps:=400000) only[↓aA,aB,BEq.rfl,seval,hQ,adR,eA,eB,↓pM,↓nk,↓kK,fo,f1,f2,f3,DX,adQ,zSl,XA,XB]
 obtain⟨nA,nB,n3,n0⟩:=Z5
 have sA:=pO rA
 have sB:=pO rB
 have vA:t_ z8:=Yl sA (by decide) nA
 have vB:t_ Iu:=Yl sB (by decide) nB
 have hap:oK z8 [⟨2,[⟨true,[],0⟩],[]⟩,⟨1,[⟨true,[],1⟩],[P6]⟩]:=by
  refine⟨sA,nA,by decide,λe he=>?_,by decide⟩
  simp only[mem_cons,not_mem_nil,or_false]at he
  rcases he with rfl | rfl
  ·exact⟨⟨Iw _,A7.2⟩,by decide,n0⟩
  ·exact⟨⟨Iw _,A7.1⟩,by decide,n3⟩
 have hon:xX z8 ⟨2,[⟨true,[],2⟩],[]⟩:=⟨sA,by decide,nA,⟨Iw _,A7.2⟩,by decide,n0⟩
 exact⟨vA,vB,hap,hon,vB.len,vB.len⟩
def qK:eX:=λargs objs K=>args=[]∧K (.bool true) objs 0
theorem r9:aQ Tryz.prog 9 qK:=by
 rintro args objs K ⟨rfl,hk⟩
 exact⟨_,_,_,.pure _ rfl M_,hk⟩
theorem b_(objs:List Obj)(K:KT):qK [] objs K=K (.bool true) objs 0:=propext ⟨λh=>h.2,λh=>⟨rfl,h⟩⟩
end Lp
namespace Lp
open Go Go.Proofs
theorem tT:aW Tryz.prog 22 62 [.tmp 6,.tmp 7] (gen [] [] [13] Tryz.f22):=bN Tryz.func22 rfl (by kernel_rfl)
theorem A8:aW Tryz.prog 42 27 [.tmp 4] (gen [] [(35,none)] [] Tryz.f42):=bN Tryz.func42 rfl (by kernel_rfl)
theorem CQ:aW Tryz.prog 23 16 [.tmp 4] (gen [] [] [] Tryz.f23):=bN Tryz.func23 rfl (by kernel_rfl)
theorem zC:aW Tryz.prog 33 139 [.tmp 6,.tmp 7] (gen [110] [] [1,17,20] Tryz.f33):=bN Tryz.func33 rfl (by kernel_rfl)
theorem iR:aW Tryz.prog 18 64 [.tmp 4,.tmp 5] (gen [] [] [1] Tryz.f18):=bN Tryz.func18 rfl (by kernel_rfl)
theorem A9:aW Tryz.prog 32 48 [.tmp 2] (gen [] [] [1] Tryz.f32):=bN Tryz.func32 rfl (by kernel_rfl)
theorem A_:aW Tryz.prog 15 29 [.tmp 4,.tmp 5] (gen [] [(67,none)] [] Tryz.f15):=bN Tryz.func15 rfl (by kernel_rfl)
theorem vN:aW Tryz.prog 7 99 [.tmp 6] (gen [] [(135,none)] [] Tryz.f7):=bN Tryz.func7 rfl (by kernel_rfl)
end Lp
namespace Lp
open Go Go.Proofs
structure Na (p:List Stp):Prop where
 len:p.length≤4611686018427387904
 txt:∀s∈p,s.name.length≤4611686018427387904
theorem Nb(p:List Stp)(hs:Na p):av Tryz.prog 20 [bf p] [] (.bool (fP p)) []:=by
 obtain⟨hl,htx⟩:=hs
 refine Au.bY (T:=bg Tryz.prog [(37,eO)]) 0 hD (ay (af sU ak)) bC (by decide) λQ hQ=>?_
 (conv=>arg 4;cbv);simp (maxSteps:=400000) only[↓aA,aB,BEq.rfl,seval,hQ]
 refine aU (λm S=>∃i:Nat,i+m=p.length∧(p.take i).all aS=true∧S=⟨dR 67 [(0,bf p),(3,.int .i64 i)],[]⟩) p.length ⟨0,by omega,by simp,?_⟩ ?_
 ·simp only[dw,keepR,Nat.reduceAdd,pX,Nat.reduceBEq,List.map_nil]
  rfl
 rintro m S ⟨i,him,hall,rfl⟩
 rcases Nat.lt_or_ge i p.length with h | h
 ·have hlt:((i:Int)<(p.length:Int))=True:=eq_true (by omega)
  have zi:(0≤(i:Int))=True:=eq_true (by omega)
  have hgi:=List.getElem?_eq_getElem h
  have Jf:=htx _ (List.getElem_mem h)
  generalize p[i]=s at hgi Jf
  have htk:(p.take (i+1)).all aS=aS s:=by rw[List.take_add_one,hgi];simp[hall]
  have hbad:aS s=false→fP p=false:=λh=>by
   unfold fP
   have:p.all aS=false:=by
    cases hp:p.all aS with
    | false=>rfl
    | true=>rw[List.all_eq_true]at hp;rw[hp s (List.mem_of_getElem? hgi)]at h;cases h
   rw[this];rfl
  have hgo:aS s=true→∃m',m'<m∧∃j:Nat,j+m'=p.length∧(p.take j).all aS=true∧(⟨dR 67 [(0,bf p),(3,.int .i64 (i+1:Nat))],[]⟩:St)=⟨dR 67 [(0,bf p),(3,.int .i64 j)],[]⟩:=λh=>⟨m-1,by omega,i+1,by omega,by rw[htk,h],rfl⟩
  cases hpt:s.part with
  | true=>
   by_cases hn:s.name=[]
   ·by_cases h0:s.n<0
    ·have hr:=hbad (by simp[aS,hpt,hn];omega)
     have hn':=eq_true hn
     have h0':=eq_true h0
     simp (maxSteps:=400000) only[↓aA,aB,BEq.rfl,seval,hQ,hlt,zi,hgi,hpt,hn',h0',hr]
    ·by_cases h1:1000000<s.n
     ·have hr:=hbad (by simp[aS,hpt,hn];omega)
      have hn':=eq_true hn
      have h0':=eq_false h0
      have h1':=eq_true h1
      simp (maxSteps:=400000) only[↓aA,aB,BEq.rfl,seval,hQ,hlt,zi,hgi,hpt,hn',h0',h1',hr]
     ·have hr:=hgo (by simp[aS,hpt,hn];omega)
      have hn':=eq_true hn
      have h0':=eq_false h0
      have h1':=eq_false h1
      simp (maxSteps:=400000) only[↓aA,aB,BEq.rfl,seval,hQ,hlt,zi,hgi,hpt,hn',h0',h1']
      exact⟨by omega,hr⟩
   ·have hr:=hbad (by simp[aS,hpt,hn])
    have hn':=eq_false hn
    simp (maxSteps:=400000) only[↓aA,aB,BEq.rfl,seval,hQ,hlt,zi,hgi,hpt,hn',hr]
  | false=>
   by_cases h0:s.n=0
   ·have h0':=eq_true h0
    cases hu:utf s.name with
    | true=>
     have hr:=hgo (by simp[aS,hpt,h0,hu])
     simp (maxSteps:=400000) only[↓aA,aB,BEq.rfl,seval,hQ,hlt,zi,hgi,hpt,h0',hu,↓eO]
     exact⟨by omega,by omega,hr⟩
    | false=>
     have hr:=hbad (by simp[aS,hpt,hu])
     simp (maxSteps:=400000) only[↓aA,aB,BEq.rfl,seval,hQ,hlt,zi,hgi,hpt,h0',hu,↓eO,hr]
     omega
   ·have h0':=eq_false h0
    have hr:=hbad (by simp[aS,hpt,h0])
    simp (maxSteps:=400000) only[↓aA,aB,BEq.rfl,seval,hQ,hlt,zi,hgi,hpt,h0',hr]
 ·have hlt:((i:Int)<(p.length:Int))=False:=eq_false (by omega)
  have hr:fP p=decide (p.length≤20):=by
   have:p.take i=p:=List.take_of_length_le h
   rw[this]at hall
   simp[fP,hall]
  have hr2:decide ((p.length:Int)≤20)=fP p:=by
   rw[hr];congr 1;apply propext;constructor<;>omega
  simp (maxSteps:=400000) only[↓aA,aB,BEq.rfl,seval,hQ,hlt,hr2]
def eD:eX:=λargs objs K=>match args with
 | [a0]=>gy bf a0 (HK.mk:HK λp=>(Na p)∧K (.bool (fP p)) objs 0)
 | _=>False
theorem z_:aQ Tryz.prog 20 (eD):=by
 intro args objs K h
 unfold eD at h
 split at h
 ·rename_i a0
  obtain⟨p,rfl,h1,hk⟩:=h
  exact⟨_,_,_,.pure _ rfl (Nb p h1),hk⟩
 ·exact h.elim
theorem P7(v:Vl)(x:Stp)(hr:Rt v)(hl:v.length≤1000000)(hn:0≤x.n):av Tryz.prog 38 [aj v,encS x] [] (iC v x) []:=by
 refine B_.eH (T:=bg Tryz.prog [(40,bW),(58,dJ)]) 0 hD (ay (af mX (af xL ak))) bC (by decide) (by decide) λQ hQ=>?_
 have ho:=hr.one
 obtain⟨p1,_,_,_⟩:=bK hr
 obtain⟨n,r,hv,_⟩:=bO hr.name hr.one.ne
 have hv0:v[0]?=some n:=by rw[hv];rfl
 have hkd:aO v=n.kind:=by rw[hv];rfl
 have zn:(0≤x.n)=True:=eq_true hn
 (conv=>arg 4;cbv);simp (maxSteps:=400000) only[↓aA,aB,BEq.rfl,seval,hQ]
 refine aT _ (Weak.freeze 1 0 (Nat.zero_le _) _) ?_
 cases hx:x.part with
 | true=>
  by_cases hk:n.kind=5
  ·rcases Nat.lt_or_ge x.n.toNat (ax v).length with h | h
   ·have hgi:=List.getElem?_eq_getElem h
    generalize (ax v)[x.n.toNat]=w at hgi
    have hlt:(((ax v).length:Int)≤x.n)=False:=eq_false (by omega)
    have hres:iC v x=.bI [aj w,.int .i64 0]:=by simp[iC,aP,hx,hkd,hk,hgi]
    simp (maxSteps:=400000) only[↓aA,aB,BEq.rfl,seval,hQ,jM,hx,hv0,hk,↓bW,hlt,zn,hgi,hres]
    exact⟨ho,hl⟩
   ·have hlt:(((ax v).length:Int)≤x.n)=True:=eq_true (by omega)
    have hres:iC v x=.bI [.sl 0 [] (some true),.int .i64 6]:=by simp[iC,aP,hx,hkd,hk,List.getElem?_eq_none h]
    simp (maxSteps:=400000) only[↓aA,aB,BEq.rfl,seval,hQ,jM,hx,hv0,hk,↓bW,hlt,hres]
    exact⟨ho,hl⟩
  ·have hk':=eq_false hk
   have hres:iC v x=.bI [.sl 0 [] (some true),.int .i64 5]:=by simp[iC,aP,hx,hkd,hk]
   simp (maxSteps:=400000) only[↓aA,aB,BEq.rfl,seval,hQ,jM,hx,hv0,hk',hres]
 | false=>
  by_cases hk:n.kind=6
  ·cases hf:fM v x.name with
   | some w=>
    have h1:bH v x.name=w:=by simp[bH,hf]
    have h2:dS v x.name=true:=by simp[dS,hf]
    have hres:iC v x=.bI [aj w,.int .i64 0]:=by simp[iC,aP,hx,hkd,hk,hf]
    simp (maxSteps:=400000) only[↓aA,aB,BEq.rfl,seval,hQ,jM,hx,hv0,hk,↓dJ,fo,h1,h2,hres]
    exact⟨hr,hl⟩
   | none=>
    have h2:dS v x.name=false:=by simp[dS,hf]
    have hres:iC v x=.bI [.sl 0 [] (some true),.int .i64 6]:=by simp[iC,aP,hx,hkd,hk,hf]
    simp (maxSteps:=400000) only[↓aA,aB,BEq.rfl,seval,hQ,jM,hx,hv0,hk,↓dJ,fo,h2,hres]
    exact⟨hr,hl⟩
  ·have hk':=eq_false hk
   have hres:iC v x=.bI [.sl 0 [] (some true),.int .i64 5]:=by simp[iC,aP,hx,hkd,hk]
   simp (maxSteps:=400000) only[↓aA,aB,BEq.rfl,seval,hQ,jM,hx,hv0,hk',hres]
def jB:eX:=λargs objs K=>match args with
 | [a0,a1]=>gy aj a0 (HK.mk:HK λv=>gy encS a1 (HK.mk:HK λx=>(Rt v)∧(v.length≤1000000)∧(0≤x.n)∧K (.bI [aj (aP v x).1,.int .i64 (aP v x).2]) objs 0))
 | _=>False
theorem CR:aQ Tryz.prog 38 (jB):=by
 intro args objs K h
 unfold jB at h
 split at h
 ·rename_i a0 a1
  obtain⟨v,rfl,x,rfl,h1,h2,h3,hk⟩:=h
  exact⟨_,_,_,.pure _ rfl ((P7 v x h1 h2 h3).res (EL v x)),hk⟩
 ·exact h.elim
theorem SH(p:List Stp)(v:Vl)(hr:Rt v)(hl:v.length≤1000000)(hpl:p.length≤1000000)(hn:∀x∈p,0≤x.n):av Tryz.prog 21 [bf p,aj v] [] (o5 p v) []:=by
 refine Dt.eH (T:=bg Tryz.prog [(38,jB)]) 0 hD (ay (af CR ak)) bC (by decide) (by decide) λQ hQ=>?_
 (conv=>arg 4;cbv);simp (maxSteps:=400000) only[↓aA,aB,BEq.rfl,seval,hQ]
 refine aU (λm S=>∃(i:Nat) (w:Vl),i+m=p.length∧Rt w∧w.length≤1000000∧bV p v=bV (p.drop i) w∧S=⟨dR 29 [(0,bf p),(1,aj w),(6,.int .i64 i)],[]⟩) p.length ⟨0,v,by omega,hr,hl,by rw[List.drop_zero],?_⟩ ?_
 ·simp only[dw,keepR,Nat.reduceAdd,pX,Nat.reduceBEq,List.map_nil]
  rfl
 rintro m S ⟨i,w,him,hw,hwl,hg,rfl⟩
 have zi:(0≤(i:Int))=True:=eq_true (by omega)
 rcases Nat.lt_or_ge i p.length with h | h
 ·have hlt:((i:Int)<(p.length:Int))=True:=eq_true (by omega)
  have hgi:=List.getElem?_eq_getElem h
  have hx:=hn p[i] (List.getElem_mem h)
  rw[List.drop_eq_getElem_cons h]at hg
  generalize p[i]=x at hgi hx hg
  rw[bV]at hg
  by_cases he:(aP w x).2=0
  ·have he':=eq_true he
   rw[if_pos he]at hg
   have hm:=cZ hw (D6 hw he)
   simp (maxSteps:=400000) only[↓aA,aB,BEq.rfl,seval,hQ,hlt,zi,hgi,↓jB,fo,he']
   exact⟨hw,hwl,hx,⟨by omega,by omega⟩,m-1,by omega,i+1,_,by omega,hm.1,by omega,hg,rfl⟩
  ·have he':=eq_false he
   rw[if_neg he]at hg
   have hres:o5 p v=.bI [.sl 0 [] (some true),.int .i64 (aP w x).2]:=by unfold o5;rw[hg,if_neg he]
   simp (maxSteps:=400000) only[↓aA,aB,BEq.rfl,seval,hQ,hlt,zi,hgi,↓jB,fo,he',hres]
   exact⟨hw,hwl,hx⟩
 ·have hlt:((i:Int)<(p.length:Int))=False:=eq_false (by omega)
  rw[List.drop_eq_nil_of_le h,bV]at hg
  have hres:o5 p v=.bI [aj w,.int .i64 0]:=by unfold o5;rw[hg,if_pos rfl]
  simp (maxSteps:=400000) only[↓aA,aB,BEq.rfl,seval,hQ,hlt,hres]
def gG:eX:=λargs objs K=>match args with
 | [a0,a1]=>gy bf a0 (HK.mk:HK λp=>gy aj a1 (HK.mk:HK λv=>(Rt v)∧(v.length≤1000000)∧(p.length≤1000000)∧(∀x∈p,0≤x.n)∧K (.bI [aj (bV p v).1,.int .i64 (bV p v).2]) objs 0))
 | _=>False
theorem l9:aQ Tryz.prog 21 (gG):=by
 intro args objs K h
 unfold gG at h
 split at h
 ·rename_i a0 a1
  obtain⟨p,rfl,v,rfl,h1,h2,h3,h4,hk⟩:=h
  exact⟨_,_,_,.pure _ rfl ((SH p v h1 h2 h3 h4).res (CJ p v)),hk⟩
 ·exact h.elim
theorem Iy:∀(p:List Stp) (v x:Vl),vV p v x→av Tryz.prog 22 [bf p,aj v,aj x] [] (wo p v x) []
 | [],v,x,h=>by
  refine tT.eH (T:=bg Tryz.prog []) 0 hD (ay ak) bC (by decide) (by decide) λQ hQ=>?_
  have hres:wo [] v x=.bI [aj x,.int .i64 0]:=rfl
  have c00:((0:Nat):Int)=0:=rfl
  (conv=>arg 4;cbv);simp (maxSteps:=400000) only[↓aA,aB,BEq.rfl,seval,hQ,List.length_nil,c00,hres]
 | s::p,v,x,h=>by
  have hok:aQ Tryz.prog 22 (lm p):=by
   intro args objs K h
   unfold lm at h
   split at h
   ·obtain⟨rfl,w,rfl,y,rfl,h1,hk⟩:=h
    exact⟨_,_,_,.pure _ rfl ((Iy p w y h1).res (vJ p w y)),hk⟩
   ·exact h.elim
  refine tT.eH (T:=bg Tryz.prog [(38,jB),(22,lm p),(39,nX),(40,kM),(41,rE)]) 1 hD (ay (af CR (af hok (af zT (af vU (af G8 ak)))))) bC (by decide) (by decide) λQ hQ=>?_
  have hpn:(((s::p).length:Int)=0)=False:=eq_false (by simp only[List.length_cons];omega)
  have hgs:(s::p)[0]?=some s:=rfl
  have hdr:(s::p).drop 1=p:=rfl
  have hwl:1≤(s::p).length:=by simp
  have Si:(1:Int)≤((s::p).length:Int):=by simp only[List.length_cons];omega
  have hrs:=h.wG s (by simp)
  have ZT:0≤s.n:=by
   unfold aS at hrs
   cases hp:s.part<;>rw[hp]at hrs<;>simp at hrs<;>omega
  have hlen:=h.len
  by_cases h0:(aP v s).2=0
  rotate_left 1
  ·have h0':=eq_false h0
   have hres:wo (s::p) v x=.bI [.sl 0 [] (some true),.int .i64 (aP v s).2]:=by simp[wo,dK,h0]
   generalize hsp:s::p=w at *
   (conv=>arg 4;cbv);simp (maxSteps:=400000) only[↓aA,aB,BEq.rfl,seval,hQ,hpn,hgs,↓jB,fo,h0',hres]
   exact⟨h.rt,by omega,ZT⟩
  have h0':=eq_true h0
  obtain⟨a1,a2,a3⟩:=qH h.rt h.nm h0
  have hso:vV p (aP v s).1 x:=⟨a1,by omega,a3,h.xrt,h.VI,h.xnm,λs' hs=>h.wG s' (List.mem_cons_of_mem _ hs),by have:=h.abY;simp only[List.length_cons]at this;omega⟩
  by_cases h1:(dK p (aP v s).1 x).2=0
  rotate_left 1
  ·have h1':=eq_false h1
   have hres:wo (s::p) v x=.bI [.sl 0 [] (some true),.int .i64 (dK p (aP v s).1 x).2]:=by simp[wo,dK,h0,h1]
   generalize hsp:s::p=w at *
   (conv=>arg 4;cbv);simp (maxSteps:=400000) only[↓aA,aB,BEq.rfl,seval,hQ,hpn,hgs,hdr,List.take_length,↓jB,↓lm,fo,h0',h1',hres]
   exact⟨h.rt,by omega,ZT,Si,Int.le_refl _,hso⟩
  have h1':=eq_true h1
  obtain⟨b1,b2,b3⟩:=rO p _ x a1 a3 hso.wG h.xrt h.xnm h1
  have hyl:(dK p (aP v s).1 x).1.length≤100000:=by have:=h.VI;omega
  have hres:wo (s::p) v x=.bI [aj (mD v s (dK p (aP v s).1 x).1),.int .i64 0]:=by simp[wo,dK,h0,h1]
  generalize hye:(dK p (aP v s).1 x).1=y at *
  generalize hsp:s::p=w at *
  cases hp:s.part with
  | false=>
   have hpu:mD v s y=gL v s.name y:=by simp[mD,hp]
   have hu:utf s.name=true:=by
    unfold aS at hrs
    simp only[hp,Bool.false_eq_true,if_false,Bool.and_eq_true]at hrs
    exact hrs.2
   have hk:aO v=6:=by
    unfold aP at h0
    simp only[hp,Bool.false_eq_true,if_false]at h0
    by_cases hk:aO v=6
    ·exact hk
    ·rw[if_neg hk]at h0;cases h0
   have hvn:∀n∈v,n.name.length≤4611686018427387904:=λn hn=>by have:=(h.nm n hn).2;omega
   have hsl:s.name.length≤4611686018427387904:=by
    unfold aP at h0
    rw[if_neg (by rw[hp];simp),if_pos hk]at h0
    cases hg:fM v s.name with
    | none=>rw[hg]at h0;cases h0
    | some w=>rw[kg hk]at hg;have:=(Ii h.rt hk h.nm _ (iI hg)).1;simp only at this;omega
   (conv=>arg 4;cbv);simp (maxSteps:=400000) only[↓aA,aB,BEq.rfl,seval,hQ,hpn,hgs,hdr,List.take_length,hp,↓jB,↓lm,↓nX,fo,h0',h1',hres,hpu,hye]
   exact⟨h.rt,by omega,ZT,Si,Int.le_refl _,hso,h.rt,hk,by omega,hu,b1,hyl,hsl,hvn⟩
  | true=>
   have hpu:mD v s y=dQ ((ax v).set s.n.toNat y):=by simp[mD,hp]
   have hk:aO v=5∧s.n.toNat<(ax v).length:=by
    unfold aP at h0
    simp only[hp,if_true]at h0
    by_cases hk:aO v=5
    ·rw[if_pos hk]at h0
     cases hg:(ax v)[s.n.toNat]? with
     | none=>rw[hg]at h0;cases h0
     | some w=>exact⟨hk,(List.getElem?_eq_some_iff.1 hg).1⟩
    ·rw[if_neg hk]at h0;cases h0
   have zn:(0≤s.n)=True:=eq_true ZT
   have hgn:=List.getElem?_eq_getElem hk.2
   obtain⟨q1,_,q3,_⟩:=bK h.rt
   have hfl:=vG hgn y
   generalize (ax v)[s.n.toNat]=w0 at hgn hfl
   (conv=>arg 4;cbv);simp (maxSteps:=400000) only[↓aA,aB,BEq.rfl,seval,hQ,hpn,hgs,hdr,List.take_length,hp,↓jB,↓lm,↓kM,fo,h0',h1',hres,hpu,hye,zn,hgn,xw,adI,aaY,↓rE,Jj,E5]
   have hxl:=h.VI
   refine⟨h.rt,by omega,Si,Int.le_refl _,hso,h.rt.one,by omega,by omega,aT _ (Weak.freeze 1 0 (Nat.zero_le _) _) ?_⟩
   simp (maxSteps:=400000) only[↓aA,aB,BEq.rfl,seval,hQ,↓rE,hres,hpu]
   exact⟨by rw[List.length_set];omega,by omega⟩
def kz:eX:=λargs objs K=>match args with
 | [a0,a1,a2]=>gy bf a0 (HK.mk:HK λp=>gy aj a1 (HK.mk:HK λv=>gy aj a2 (HK.mk:HK λx=>(vV p v x)∧K (.bI [aj (dK p v x).1,.int .i64 (dK p v x).2]) objs 0)))
 | _=>False
theorem l_:aQ Tryz.prog 22 (kz):=by
 intro args objs K h
 unfold kz at h
 split at h
 ·rename_i a0 a1 a2
  obtain⟨p,rfl,v,rfl,x,rfl,h1,hk⟩:=h
  exact⟨_,_,_,.pure _ rfl ((Iy p v x h1).res (vJ p v x)),hk⟩
 ·exact h.elim
end Lp
namespace Lp
open Go Go.Proofs
open List (drop_zero length_take)
open Nat (zero_le)
theorem YH.small {p:List Stp}(h:YH p):Na p:=⟨by have:=h.len;omega,λs hs=>by have:=h.txt s hs;omega⟩
theorem Nc(e:Ed)(he:ESz e):av Tryz.prog 32 [iD e] [] (.bool (bL e)) []:=by
 obtain⟨hp,hv⟩:=he
 have hp':=hp.small
 refine A9.bY (T:=bg Tryz.prog [(20,eD),(19,qB)]) 0 hD (ay (af z_ (af Ez ak))) bC (by decide) λQ hQ=>?_
 (conv=>arg 4;cbv);simp (maxSteps:=400000) only[↓aA,aB,BEq.rfl,seval,hQ]
 refine aT _ (Weak.freeze 1 0 (zero_le _) _) ?_
 cases hr:fP e.p with
 | false=>
  have h:bL e=false:=by simp[bL,hr]
  rcases tf (e.kind=0) with k0 | k0
  ·simp (maxSteps:=400000) only[↓aA,aB,BEq.rfl,seval,hQ,eu,↓eD,hr,k0,h]
   exact hp'
  rcases tf (e.kind=1) with k1 | k1
  ·simp (maxSteps:=400000) only[↓aA,aB,BEq.rfl,seval,hQ,eu,↓eD,hr,k0,k1,h]
   exact hp'
  rcases tf (e.kind=2) with k2 | k2
  ·simp (maxSteps:=400000) only[↓aA,aB,BEq.rfl,seval,hQ,eu,↓eD,hr,k0,k1,k2,h]
   exact hp'
  ·simp (maxSteps:=400000) only[↓aA,aB,BEq.rfl,seval,hQ,eu,k0,k1,k2,h]
 | true=>
  rcases tf (e.kind=0) with k0 | k0
  ·have h:bL e=bR e.v:=by simp[bL,hr,of_eq_true k0]
   simp (maxSteps:=400000) only[↓aA,aB,BEq.rfl,seval,hQ,eu,↓eD,↓qB,hr,k0,h]
   exact⟨hp',hv⟩
  rcases tf (e.kind=1) with k1 | k1
  ·rcases tf (0<(e.p.length:Int)) with h0 | h0
   ·have hp0:e.p≠[]:=λh=>by have:=of_eq_true h0;rw[h]at this;exact absurd this (by decide)
    have h:bL e=bR e.v:=by simp[bL,hr,hp0,of_eq_true k1]
    simp (maxSteps:=400000) only[↓aA,aB,BEq.rfl,seval,hQ,eu,↓eD,↓qB,hr,h0,k0,k1,h]
    exact⟨hp',hv⟩
   ·have hp0:e.p=[]:=List.length_eq_zero_iff.1 (by have:=of_eq_false h0;omega)
    have h:bL e=false:=by simp[bL,hr,hp0,of_eq_true k1]
    simp (maxSteps:=400000) only[↓aA,aB,BEq.rfl,seval,hQ,eu,↓eD,hr,h0,k0,k1,h]
    exact hp'
  rcases tf (e.kind=2) with k2 | k2
  ·rcases tf (0<(e.p.length:Int)) with h0 | h0
   ·have hp0:e.p≠[]:=λh=>by have:=of_eq_true h0;rw[h]at this;exact absurd this (by decide)
    have h:bL e=decide ((e.v.length:Int)=0):=by
     have:decide (e.v=[])=decide ((e.v.length:Int)=0):=by
      congr 1
      exact propext ⟨λh=>by rw[h];rfl,λh=>List.length_eq_zero_iff.1 (by omega)⟩
     rw[←this]
     simp[bL,hr,hp0,of_eq_true k2]
    simp (maxSteps:=400000) only[↓aA,aB,BEq.rfl,seval,hQ,eu,↓eD,hr,h0,k0,k1,k2,h]
    exact hp'
   ·have hp0:e.p=[]:=List.length_eq_zero_iff.1 (by have:=of_eq_false h0;omega)
    have h:bL e=false:=by simp[bL,hr,hp0,of_eq_true k2]
    simp (maxSteps:=400000) only[↓aA,aB,BEq.rfl,seval,hQ,eu,↓eD,hr,h0,k0,k1,k2,h]
    exact hp'
  ·have h:bL e=false:=by simp[bL,of_eq_false k0,of_eq_false k1,of_eq_false k2]
   simp (maxSteps:=400000) only[↓aA,aB,BEq.rfl,seval,hQ,eu,k0,k1,k2,h]
def fH:eX:=λargs objs K=>match args with
 | [a0]=>gy iD a0 (HK.mk:HK λe=>(ESz e)∧K (.bool (bL e)) objs 0)
 | _=>False
theorem kZ:aQ Tryz.prog 32 (fH):=by
 intro args objs K h
 unfold fH at h
 split at h
 ·rename_i a0
  obtain⟨e,rfl,h1,hk⟩:=h
  exact⟨_,_,_,.pure _ rfl (Nc e h1),hk⟩
 ·exact h.elim
structure Yn (w:Vl) (s:Stp) (e:Ed):Prop where
 rt:Rt w
 len:w.length≤100000
 nm:Nm w
 kd:e.kind=1∨e.kind=2
 vrt:e.kind=1→Rt e.v∧e.v.length≤100000
 st:aS s=true
 sn:s.name.length≤1000000
theorem Yo{w:Vl}{s:Stp}{e:Ed}(h:¬ (eZ w s e).2=0):(eZ w s e).1=[]:=by
 unfold eZ at h ⊢
 split
 ·rename_i hp;rw[if_pos hp]at h;exact KS h
 ·rename_i hp;rw[if_neg hp]at h;exact Ip h
theorem xZ(s:Stp)(e:Ed):gq 1 0 [⟨43,3,[encS s],true,1⟩,⟨38,3,[iD e],true,1⟩] (.bq 0 1 0 0)=.addr (encS s)∧gq 1 0 [⟨43,3,[encS s],true,1⟩,⟨38,3,[iD e],true,1⟩] (.bq 1 1 0 0)=.addr (iD e):=⟨rfl,rfl⟩
theorem ab6(l:List Vl)(x:Vl):l.map aj++[aj x]=(l++[x]).map aj:=by simp
theorem P8(w:Vl)(s:Stp)(e:Ed)(h:Yn w s e):av Tryz.prog 33 [aj w,encS s,iD e] [] (eP (eZ w s e)) []:=by
 obtain⟨hr,hl,hn,hkd,hv,hst,hsn⟩:=h
 refine zC.eH (T:=bg Tryz.prog [(40,bW),(58,dJ),(59,jA),(39,nX),(41,rE)]) 1 hD (ay (af mX (af xL (af tH (af zT (af G8 ak)))))) bC (by decide) (by decide) λQ hQ=>?_
 obtain⟨n,r,hw,_⟩:=bO hr.name hr.one.ne
 have hw0:w[0]?=some n:=by rw[hw];rfl
 have hkn:aO w=n.kind:=by rw[hw];rfl
 have ho:=hr.one
 have CV:w.length≤1000000:=by omega
 have hn0:=tO hst
 obtain⟨q1,_,q3,_⟩:=bK hr
 have hfl:∀k:Nat,((ax w).take k).flatten.length+((ax w).drop k).flatten.length=(ax w).flatten.length:=λn=>by
  rw[←List.length_append,←List.flatten_append,List.take_append_drop]
 (conv=>arg 4;cbv);simp (maxSteps:=400000) only[↓aA,aB,BEq.rfl,seval,hQ]
 refine aT _ (Weak.freeze 1 0 (zero_le _) _) ?_
 cases hp:s.part with
 | true=>
  rcases tf (n.kind=5) with k | k
  rotate_left 1
  ·have hres:eP (eZ w s e)=.bI [.sl 0 [] (some true),.int .i64 5]:=by simp[eP,eZ,hp,gF,hkn,of_eq_false k]
   simp (maxSteps:=400000) only[↓aA,aB,BEq.rfl,seval,hQ,xZ,hp,hw0,k,hres]
  have hk5:aO w=5:=by rw[hkn];exact of_eq_true k
  have hno:dS w s.name=false:=by simp[dS,fM,hk5]
  have zn:(0≤s.n)=True:=eq_true hn0
  obtain⟨m,hm⟩:∃m:Nat,s.n=m:=⟨s.n.toNat,by omega⟩
  have hmn:s.n.toNat=m:=by omega
  have hins:eZ w s e=gF w m e:=by rw[eZ,if_pos hp,hmn]
  rcases tf (e.kind=2) with k2 | k2
  ·have k2':=of_eq_true k2
   rcases tf (((ax w).length:Int)≤s.n) with hlt | hlt
   ·have hlt':=of_eq_true hlt
    have hres:eP (eZ w s e)=.bI [.sl 0 [] (some true),.int .i64 6]:=by
     rw[hins];unfold eP gF;simp only[if_pos hk5,if_neg (show ¬ e.kind=1 by omega),if_pos (show (ax w).length≤m by omega)];rfl
    simp (maxSteps:=400000) only[↓aA,aB,BEq.rfl,seval,hQ,xZ,hp,hw0,k,↓bW,↓dJ,fo,hno,k2,hlt,hres]
    exact⟨ho,CV,hr,CV⟩
   ·have hlt':=of_eq_false hlt
    have hres:eP (eZ w s e)=.bI [aj (dQ ((ax w).take m++(ax w).drop (m+1))),.int .i64 0]:=by
     rw[hins];unfold eP gF;simp only[if_pos hk5,if_neg (show ¬ e.kind=1 by omega),if_neg (show ¬ (ax w).length≤m by omega)];rfl
    have c1:(s.n≤((ax w).length:Int))=True:=eq_true (by omega)
    have c2:(0≤s.n+1)=True:=eq_true (by omega)
    have c3:(s.n+1≤((ax w).length:Int))=True:=eq_true (by omega)
    have aew:(s.n+1).toNat=m+1:=by omega
    simp (maxSteps:=400000) only[↓aA,aB,BEq.rfl,seval,hQ,xZ,hp,hw0,k,↓bW,↓dJ,fo,hno,k2,hlt,zn,c1,c2,c3,hmn,aew,drop_zero,List.take_length]
    have t1:((ax w).take m).length≤100000:=by rw[length_take];omega
    have t2:((ax w).drop (m+1)).length≤100000:=by rw[List.length_drop];omega
    have h1:=hfl m
    have h2:=hfl (m+1)
    have h3:((ax w).drop (m+1)).flatten.length≤((ax w).drop m).flatten.length:=by
     rw[←List.drop_drop]
     cases (ax w).drop m<;>simp
    refine⟨ho,CV,hr,CV,by omega,by omega,⟨by omega,by omega⟩,Int.le_refl _,by omega,by omega,aT _ (Weak.freeze 1 0 (zero_le _) _) ?_⟩
    simp (maxSteps:=400000) only[↓aA,aB,BEq.rfl,seval,hQ,↓rE,hres]
    exact⟨by omega,by rw[List.flatten_append,List.length_append];omega⟩
  ·have k1:e.kind=1:=by have:=of_eq_false k2;omega
   obtain⟨v1,v2⟩:=hv k1
   rcases tf (((ax w).length:Int)<s.n) with hlt | hlt
   ·have hlt':=of_eq_true hlt
    have hres:eP (eZ w s e)=.bI [.sl 0 [] (some true),.int .i64 4]:=by
     rw[hins];unfold eP gF;simp only[if_pos hk5,if_pos k1,if_pos (show (ax w).length<m by omega)];rfl
    simp (maxSteps:=400000) only[↓aA,aB,BEq.rfl,seval,hQ,xZ,hp,hw0,k,↓bW,↓dJ,fo,hno,k2,hlt,hres]
    exact⟨ho,CV,hr,CV⟩
   ·have hlt':=of_eq_false hlt
    have hres:eP (eZ w s e)=.bI [aj (dQ ((ax w).take m++[e.v]++(ax w).drop m)),.int .i64 0]:=by
     rw[hins];unfold eP gF;simp only[if_pos hk5,if_pos k1,if_neg (show ¬ (ax w).length<m by omega)];rfl
    have c1:(s.n≤((ax w).length:Int))=True:=eq_true (by omega)
    simp (maxSteps:=400000) only[↓aA,aB,BEq.rfl,seval,hQ,xZ,hp,hw0,k,↓bW,↓dJ,fo,hno,k2,hlt,zn,c1,hmn,drop_zero,List.take_length,ab6]
    have t1:((ax w).take m).length≤100000:=by rw[length_take];omega
    have t2:((ax w).drop m).length≤100000:=by rw[List.length_drop];omega
    have h1:=hfl m
    refine⟨ho,CV,hr,CV,by omega,by omega,by omega,by omega,Int.le_refl _,by omega,by omega,aT _ (Weak.freeze 1 0 (zero_le _) _) ?_⟩
    simp (maxSteps:=400000) only[↓aA,aB,BEq.rfl,seval,hQ,↓rE,hres]
    exact⟨by omega,by simp only[List.flatten_append,List.length_append,List.flatten_cons,List.flatten_nil,List.length_nil];omega⟩
 | false=>
  have hu:utf s.name=true:=by
   unfold aS at hst
   simp only[hp,Bool.false_eq_true,if_false,Bool.and_eq_true]at hst
   exact hst.2
  have hins:eZ w s e=dN w s.name e:=by rw[eZ,if_neg (by rw[hp];simp)]
  rcases tf (n.kind=5) with k | k
  ·have hres:eP (eZ w s e)=.bI [.sl 0 [] (some true),.int .i64 5]:=by rw[hins];simp[eP,dN,hkn,of_eq_true k]
   simp (maxSteps:=400000) only[↓aA,aB,BEq.rfl,seval,hQ,xZ,hp,hw0,k,hres]
  rcases tf (n.kind=6) with k6 | k6
  rotate_left 1
  ·have hres:eP (eZ w s e)=.bI [.sl 0 [] (some true),.int .i64 5]:=by rw[hins];simp[eP,dN,hkn,of_eq_false k6]
   simp (maxSteps:=400000) only[↓aA,aB,BEq.rfl,seval,hQ,xZ,hp,hw0,k,k6,hres]
  have IL:aO w=6:=by rw[hkn];exact of_eq_true k6
  have hsl:s.name.length≤4611686018427387904:=by omega
  have hwn:∀n∈w,n.name.length≤4611686018427387904:=λn hm=>by have:=(hn n hm).2;omega
  rcases tf (e.kind=2) with k2 | k2
  ·have k2':=of_eq_true k2
   cases hh:dS w s.name with
   | true=>
    have hres:eP (eZ w s e)=.bI [aj (cO w s.name),.int .i64 0]:=by rw[hins];simp[eP,dN,IL,k2',hh]
    simp (maxSteps:=400000) only[↓aA,aB,BEq.rfl,seval,hQ,xZ,hp,hw0,k,k6,↓bW,↓dJ,↓jA,fo,hh,k2,hres]
    exact⟨ho,CV,hr,CV,hr,IL,CV⟩
   | false=>
    have hres:eP (eZ w s e)=.bI [.sl 0 [] (some true),.int .i64 6]:=by rw[hins];simp[eP,dN,IL,k2',hh]
    simp (maxSteps:=400000) only[↓aA,aB,BEq.rfl,seval,hQ,xZ,hp,hw0,k,k6,↓bW,↓dJ,fo,hh,k2,hres]
    exact⟨ho,CV,hr,CV⟩
  ·have k1:e.kind=1:=by have:=of_eq_false k2;omega
   obtain⟨v1,v2⟩:=hv k1
   cases hh:dS w s.name with
   | true=>
    have hres:eP (eZ w s e)=.bI [.sl 0 [] (some true),.int .i64 4]:=by rw[hins];simp[eP,dN,IL,k1,hh]
    simp (maxSteps:=400000) only[↓aA,aB,BEq.rfl,seval,hQ,xZ,hp,hw0,k,k6,↓bW,↓dJ,fo,hh,k2,hres]
    exact⟨ho,CV,hr,CV⟩
   | false=>
    have hres:eP (eZ w s e)=.bI [aj (gL w s.name e.v),.int .i64 0]:=by rw[hins];simp[eP,dN,IL,k1,hh]
    simp (maxSteps:=400000) only[↓aA,aB,BEq.rfl,seval,hQ,xZ,hp,hw0,k,k6,↓bW,↓dJ,↓nX,fo,hh,k2,hres]
    exact⟨ho,CV,hr,CV,hr,IL,hl,hu,v1,v2,hsl,hwn⟩
def kP:eX:=λargs objs K=>match args with
 | [a0,a1,a2]=>gy aj a0 (HK.mk:HK λw=>gy encS a1 (HK.mk:HK λs=>gy iD a2 (HK.mk:HK λe=>(Yn w s e)∧K (.bI [aj (eZ w s e).1,.int .i64 (eZ w s e).2]) objs 0)))
 | _=>False
theorem nu:aQ Tryz.prog 33 (kP):=by
 intro args objs K h
 unfold kP at h
 split at h
 ·rename_i a0 a1 a2
  obtain⟨w,rfl,s,rfl,e,rfl,h1,hk⟩:=h
  exact⟨_,_,_,.pure _ rfl ((P8 w s e h1).res (qI _ Yo)),hk⟩
 ·exact h.elim
theorem SI(v:Vl)(e:Ed)(h:xX v e):av Tryz.prog 18 [aj v,iD e] [] (.bI [aj (dL v e).1,.int .i64 (dL v e).2]) []:=by
 have hsz:=h.sz
 have hvl:=h.len
 have hel:=h.abZ
 cases hre:bL e with
 | false=>
  have hone:dL v e=([],4):=by rw[dL,hre];rfl
  refine av.res (r:=.bI [.sl 0 [] (some true),.int .i64 4]) ?_ (by rw[hone];exact Sk rfl rfl)
  refine iR.eH (T:=bg Tryz.prog [(32,fH),(22,kz),(21,gG),(33,kP)]) 0 hD (ay (af kZ (af l_ (af l9 (af nu ak))))) bC (by decide) (by decide) λQ hQ=>?_
  (conv=>arg 4;cbv);simp (maxSteps:=400000) only[↓aA,aB,BEq.rfl,seval,hQ]
  refine aT _ (Weak.freeze 1 0 (zero_le _) _) ?_
  simp (maxSteps:=400000) only[↓aA,aB,BEq.rfl,seval,hQ,eu,↓fH,hre,KR]
  exact hsz
 | true=>
 obtain⟨r1,r2,r3,r4,r5,r6⟩:=ng hre
 rcases tf (e.kind=0) with k0 | k0
 ·have hone:dL v e=dK e.p v e.v:=by rw[dL,hre];simp[of_eq_true k0]
  have hso:vV e.p v e.v:=⟨h.rt,by omega,h.nm,r4 (by have:=of_eq_true k0;omega),by omega,h.enm,r1,by omega⟩
  rw[hone]
  refine iR.eH (T:=bg Tryz.prog [(32,fH),(22,kz),(21,gG),(33,kP)]) 0 hD (ay (af kZ (af l_ (af l9 (af nu ak))))) bC (by decide) (by decide) λQ hQ=>?_
  (conv=>arg 4;cbv);simp (maxSteps:=400000) only[↓aA,aB,BEq.rfl,seval,hQ]
  refine aT _ (Weak.freeze 1 0 (zero_le _) _) ?_
  simp (maxSteps:=400000) only[↓aA,aB,BEq.rfl,seval,hQ,eu,↓fH,↓kz,fo,hre,k0,KR]
  exact⟨hsz,hso⟩
 have k0':=of_eq_false k0
 have hpn:=r6 k0'
 have hls:=D7 hpn
 have hla:=PN hpn
 have hpl:0<e.p.length:=List.length_pos_iff.2 hpn
 have hrl:=r1 _ hls
 have hnl:=tO hrl
 obtain⟨L,hL⟩:∃L:Nat,L+1=e.p.length:=⟨e.p.length-1,by omega⟩
 have hone:dL v e=Qo (e.p.take L) v λw=>eZ w (l7 e.p) e:=by rw[dL,hre,←hL];simp[k0']
 have z1:(e.p.length:Int)-1=(L:Int):=by omega
 have zL:(0≤(L:Int))=True:=eq_true (by omega)
 have Yc:((L:Int)≤(e.p.length:Int))=True:=eq_true (by omega)
 have hla:e.p[L]?=some (l7 e.p):=by rw[←hla,←hL];rfl
 have hsn:=h.sz.wG.txt _ hls
 generalize l7 e.p=s at *
 have hqr:∀x∈e.p.take L,aS x=true:=λx hx=>r1 x (List.mem_of_mem_take hx)
 have ZU:∀x∈e.p.take L,0≤x.n:=λx hx=>tO (hqr x hx)
 have IG:(e.p.take L).length≤1000000:=by rw[length_take];omega
 have hb:-9223372036854775808≤(L:Int)∧(L:Int)≤9223372036854775807:=⟨by omega,by omega⟩
 by_cases h2:(bV (e.p.take L) v).2=0
 rotate_left 1
 ·have qJ:dL v e=([],(bV (e.p.take L) v).2):=by rw[hone,Qo,if_neg h2]
  refine av.res (r:=.bI [.sl 0 [] (some true),.int .i64 (bV (e.p.take L) v).2]) ?_ (by rw[qJ];exact Sk rfl rfl)
  have h2':=eq_false h2
  refine iR.eH (T:=bg Tryz.prog [(32,fH),(22,kz),(21,gG),(33,kP)]) 0 hD (ay (af kZ (af l_ (af l9 (af nu ak))))) bC (by decide) (by decide) λQ hQ=>?_
  (conv=>arg 4;cbv);simp (maxSteps:=400000) only[↓aA,aB,BEq.rfl,seval,hQ]
  refine aT _ (Weak.freeze 1 0 (zero_le _) _) ?_
  simp (maxSteps:=400000) only[↓aA,aB,BEq.rfl,seval,hQ,eu,↓fH,↓gG,fo,hre,k0,KR,z1,zL,Yc,drop_zero,h2']
  exact⟨hsz,hb,h.rt,by omega,IG,ZU⟩
 have h2':=eq_true h2
 obtain⟨g1,g2,g3⟩:=CB _ v h.rt h.nm h2
 have hin:Yn (bV (e.p.take L) v).1 s e:=⟨g1,by omega,g3,by omega,λk1=>⟨r4 (by omega),by omega⟩,hrl,hsn⟩
 by_cases h3:(eZ (bV (e.p.take L) v).1 s e).2=0
 ·have h3':=eq_true h3
  have qJ:dL v e=dK (e.p.take L) v (eZ (bV (e.p.take L) v).1 s e).1:=by rw[hone,Qo,if_pos h2];exact if_pos h3
  have hso:vV (e.p.take L) v (eZ (bV (e.p.take L) v).1 s e).1:=by
   obtain⟨i1,i2,i3⟩:=MQ (e:=e) g1 g3 hrl hsn (λh1=>⟨r4 (by omega),h.enm⟩) h3
   exact⟨h.rt,by omega,h.nm,i1,by omega,i3,hqr,IG⟩
  rw[qJ]
  refine iR.eH (T:=bg Tryz.prog [(32,fH),(22,kz),(21,gG),(33,kP)]) 0 hD (ay (af kZ (af l_ (af l9 (af nu ak))))) bC (by decide) (by decide) λQ hQ=>?_
  (conv=>arg 4;cbv);simp (maxSteps:=400000) only[↓aA,aB,BEq.rfl,seval,hQ]
  refine aT _ (Weak.freeze 1 0 (zero_le _) _) ?_
  simp (maxSteps:=400000) only[↓aA,aB,BEq.rfl,seval,hQ,eu,↓fH,↓gG,↓kP,↓kz,fo,hre,k0,KR,z1,zL,Yc,drop_zero,h2',h3',hla]
  exact⟨hsz,hb,h.rt,by omega,IG,ZU,hin,hso⟩
 ·have h3':=eq_false h3
  have qJ:dL v e=([],(eZ (bV (e.p.take L) v).1 s e).2):=by rw[hone,Qo,if_pos h2];exact if_neg h3
  refine av.res (r:=.bI [.sl 0 [] (some true),.int .i64 (eZ (bV (e.p.take L) v).1 s e).2]) ?_ (by rw[qJ];exact Sk rfl rfl)
  refine iR.eH (T:=bg Tryz.prog [(32,fH),(22,kz),(21,gG),(33,kP)]) 0 hD (ay (af kZ (af l_ (af l9 (af nu ak))))) bC (by decide) (by decide) λQ hQ=>?_
  (conv=>arg 4;cbv);simp (maxSteps:=400000) only[↓aA,aB,BEq.rfl,seval,hQ]
  refine aT _ (Weak.freeze 1 0 (zero_le _) _) ?_
  simp (maxSteps:=400000) only[↓aA,aB,BEq.rfl,seval,hQ,eu,↓fH,↓gG,↓kP,fo,hre,k0,KR,z1,zL,Yc,drop_zero,h2',h3',hla]
  exact⟨hsz,hb,h.rt,by omega,IG,ZU,hin⟩
def qL:eX:=λargs objs K=>match args with
 | [a0,a1]=>gy aj a0 (HK.mk:HK λv=>gy iD a1 (HK.mk:HK λe=>(xX v e)∧K (.bI [aj (dL v e).1,.int .i64 (dL v e).2]) objs 0))
 | _=>False
theorem EO:aQ Tryz.prog 18 (qL):=by
 intro args objs K h
 unfold qL at h
 split at h
 ·rename_i a0 a1
  obtain⟨v,rfl,e,rfl,h1,hk⟩:=h
  exact⟨_,_,_,.pure _ rfl (SI v e h1),hk⟩
 ·exact h.elim
end Lp
namespace Lp
open Go Go.Proofs
open List (all_eq_true getElem_mem map_nil)
def SK(s:Stp):Bool:=decide (s.name.length≤60)
def Nf(n:Nd):Bool:=decide (n.s.length≤100) && decide (n.name.length≤60)
def x9(e:Ed):Bool:=decide (e.v.length≤30) && decide (e.p.length≤30) && e.p.all SK && e.v.all Nf
def vW(l:List Ed):Bool:=decide (l.length≤20) && l.all x9
structure aa0 (e:Ed):Prop where
 abY:e.p.length≤1152921504606846976
 aex:∀s∈e.p,s.name.length≤4611686018427387904
 aeF:e.v.length≤1152921504606846976
 aey:∀n∈e.v,n.s.length≤4611686018427387904∧n.name.length≤4611686018427387904
structure Iz (l:List Ed):Prop where
 len:l.length≤1152921504606846976
 all:∀e∈l,aa0 e
theorem FM{α:Type}{f:α→Bool}{l:List α}{x:α}{i:Nat}(hx:l[i]?=some x)(h:f x=false):l.all f=false:=by
 cases hp:l.all f with
 | false=>rfl
 | true=>rw[all_eq_true]at hp;rw[hp x (List.mem_of_getElem? hx)]at h;cases h
theorem IA{α:Type}{f:α→Bool}{l:List α}{x:α}{i:Nat}(hx:l[i]?=some x)(h0:(l.take i).all f=true)(h:f x=true):(l.take (i+1)).all f=true:=by
 rw[List.take_add_one,hx];simp[h0,h]
theorem SL(l:List Ed)(hl:Iz l):av Tryz.prog 13 [jK l] [] (.bool (vW l)) []:=by
 refine Ea.bY (T:=bg Tryz.prog []) 0 hD (ay ak) bC (by decide) λQ hQ=>?_
 have hll:=hl.len
 (conv=>arg 4;cbv);simp (maxSteps:=400000) only[↓aA,aB,BEq.rfl,seval,hQ]
 refine aU (λm S=>∃i:Nat,i+m=l.length∧i≤20∧(l.take i).all x9=true∧S=⟨dR 87 [(0,jK l),(3,.int .i64 i)],[]⟩) l.length ⟨0,by omega,by omega,by simp,?_⟩ ?_
 ·simp only[dw,keepR,Nat.reduceAdd,pX,Nat.reduceBEq,map_nil]
  rfl
 rintro m S ⟨i,him,hi20,hall,rfl⟩
 have zi:(0≤(i:Int))=True:=eq_true (by omega)
 rcases Nat.lt_or_ge i l.length with h | h
 rotate_left 1
 ·have hlt:((i:Int)<(l.length:Int))=False:=eq_false (by omega)
  have hr:vW l=true:=by
   rw[List.take_of_length_le h]at hall
   have:decide (l.length≤20)=true:=by simp;omega
   rw[vW,hall,this];rfl
  simp (maxSteps:=400000) only[↓aA,aB,BEq.rfl,seval,hQ,hlt,hr]
 have hlt:((i:Int)<(l.length:Int))=True:=eq_true (by omega)
 have hgi:=List.getElem?_eq_getElem h
 have hre:=hl.all _ (getElem_mem h)
 generalize l[i]=e at hgi hre
 have hbad:x9 e=false→vW l=false:=λh=>by rw[vW,FM hgi h,Bool.and_false]
 rcases tf (20≤(i:Int)) with h1 | h1
 ·have hr:vW l=false:=by
    have:decide (l.length≤20)=false:=by have:=of_eq_true h1;simp;omega
    rw[vW,this];rfl
  simp (maxSteps:=400000) only[↓aA,aB,BEq.rfl,seval,hQ,hlt,h1,hr]
 rcases tf (30<(e.v.length:Int)) with h2 | h2
 ·have hr:=hbad (by have:=of_eq_true h2;unfold x9;rw[show decide (e.v.length≤30)=false by simp;omega];rfl)
  simp (maxSteps:=400000) only[↓aA,aB,BEq.rfl,seval,hQ,hlt,zi,hgi,h1,h2,hr]
 rcases tf (30<(e.p.length:Int)) with h3 | h3
 ·have hr:=hbad (by have:=of_eq_true h3;unfold x9;rw[show decide (e.p.length≤30)=false by simp;omega];simp)
  simp (maxSteps:=400000) only[↓aA,aB,BEq.rfl,seval,hQ,hlt,zi,hgi,h1,h2,h3,hr]
 have h1':=of_eq_false h1
 have h2':=of_eq_false h2
 have h3':=of_eq_false h3
 simp (maxSteps:=400000) only[↓aA,aB,BEq.rfl,seval,hQ,hlt,zi,hgi,h1,h2,h3]
 refine aU (λm S=>∃k:Nat,k+m=e.p.length∧(e.p.take k).all SK=true∧S=⟨dR 87 [(0,jK l),(3,.int .i64 i),(4,.int .i64 k)],[]⟩) e.p.length ⟨0,by omega,by simp,?_⟩ ?_
 ·simp only[dw,keepR,Nat.reduceAdd,pX,Nat.reduceBEq,map_nil]
  rfl
 rintro m2 S ⟨k,hkm,hpk,rfl⟩
 have zk:(0≤(k:Int))=True:=eq_true (by omega)
 rcases Nat.lt_or_ge k e.p.length with hk | hk
 ·have hlk:((k:Int)<(e.p.length:Int))=True:=eq_true (by omega)
  have hgk:=List.getElem?_eq_getElem hk
  have htx:=hre.aex _ (getElem_mem hk)
  generalize e.p[k]=s at hgk htx
  rcases tf (60<(s.name.length:Int)) with h4 | h4
  ·have hs:SK s=false:=by have:=of_eq_true h4;simp[SK];omega
   have hr:=hbad (by unfold x9;rw[FM hgk hs];simp)
   simp (maxSteps:=400000) only[↓aA,aB,BEq.rfl,seval,hQ,zi,hgi,hlk,zk,hgk,h4,hr]
  ·have hs:SK s=true:=by have:=of_eq_false h4;simp[SK];omega
   simp (maxSteps:=400000) only[↓aA,aB,BEq.rfl,seval,hQ,zi,hgi,hlk,zk,hgk,h4]
   exact⟨⟨by omega,by omega⟩,m2-1,by omega,k+1,by omega,IA hgk hpk hs,by simp⟩
 have hlk:((k:Int)<(e.p.length:Int))=False:=eq_false (by omega)
 rw[List.take_of_length_le hk]at hpk
 simp (maxSteps:=400000) only[↓aA,aB,BEq.rfl,seval,hQ,zi,hgi,hlk]
 refine aU (λm S=>∃k:Nat,k+m=e.v.length∧(e.v.take k).all Nf=true∧S=⟨dR 87 [(0,jK l),(3,.int .i64 i),(5,.int .i64 k)],[]⟩) e.v.length ⟨0,by omega,by simp,?_⟩ ?_
 ·simp only[dw,keepR,Nat.reduceAdd,pX,Nat.reduceBEq,map_nil]
  rfl
 rintro m3 S ⟨j,hjm,hvj,rfl⟩
 have zj:(0≤(j:Int))=True:=eq_true (by omega)
 rcases Nat.lt_or_ge j e.v.length with hj | hj
 ·have hlj:((j:Int)<(e.v.length:Int))=True:=eq_true (by omega)
  have hgj:=List.getElem?_eq_getElem hj
  have htx:=hre.aey _ (getElem_mem hj)
  generalize e.v[j]=n at hgj htx
  rcases tf (100<(n.s.length:Int)) with h4 | h4
  ·have hs:Nf n=false:=by have:=of_eq_true h4;simp[Nf];omega
   have hr:=hbad (by unfold x9;rw[FM hgj hs];simp)
   simp (maxSteps:=400000) only[↓aA,aB,BEq.rfl,seval,hQ,zi,hgi,hlj,zj,hgj,h4,hr]
  rcases tf (60<(n.name.length:Int)) with h5 | h5
  ·have hs:Nf n=false:=by have:=of_eq_true h5;simp[Nf];omega
   have hr:=hbad (by unfold x9;rw[FM hgj hs];simp)
   simp (maxSteps:=400000) only[↓aA,aB,BEq.rfl,seval,hQ,zi,hgi,hlj,zj,hgj,h4,h5,hr]
  ·have hs:Nf n=true:=by have:=of_eq_false h4;have:=of_eq_false h5;simp[Nf];omega
   simp (maxSteps:=400000) only[↓aA,aB,BEq.rfl,seval,hQ,zi,hgi,hlj,zj,hgj,h4,h5]
   exact⟨⟨by omega,by omega⟩,m3-1,by omega,j+1,by omega,IA hgj hvj hs,by simp⟩
 have hlj:((j:Int)<(e.v.length:Int))=False:=eq_false (by omega)
 rw[List.take_of_length_le hj]at hvj
 have hfe:x9 e=true:=by
  unfold x9
  rw[hpk,hvj]
  simp;omega
 simp (maxSteps:=400000) only[↓aA,aB,BEq.rfl,seval,hQ,zi,hgi,hlj]
 exact⟨⟨by omega,by omega⟩,m-1,by omega,i+1,by omega,by omega,IA hgi hall hfe,by simp⟩
def x_:eX:=λargs objs K=>match args with
 | [a0]=>gy jK a0 (HK.mk:HK λl=>(Iz l)∧K (.bool (vW l)) objs 0)
 | _=>False
theorem P9:aQ Tryz.prog 13 (x_):=by
 intro args objs K h
 unfold x_ at h
 split at h
 ·rename_i a0
  obtain⟨l,rfl,h1,hk⟩:=h
  exact⟨_,_,_,.pure _ rfl (SL l h1),hk⟩
 ·exact h.elim
theorem Ng{v:Vl}{k:Nat}(h:rQ v k=true):Nm v:=λn hn=>by
 simp only[rQ,Bool.and_eq_true,decide_eq_true_eq,all_eq_true]at h
 have:=h.1.2 n hn
 omega
theorem P_{l:List Ed}(h:vW l=true):l.length≤20∧∀e∈l,ESz e∧e.v.length≤30∧Nm e.v:=by
 simp only[vW,Bool.and_eq_true,decide_eq_true_eq,all_eq_true]at h
 refine⟨h.1,λe he=>?_⟩
 have h1:=h.2 e he
 simp only[x9,Bool.and_eq_true,decide_eq_true_eq,all_eq_true]at h1
 obtain⟨⟨⟨h2,h3⟩,h4⟩,h5⟩:=h1
 have hp:∀s∈e.p,s.name.length≤60:=λs hs=>by have:=h4 s hs;simpa[SK] using this
 have hv:∀n∈e.v,n.s.length≤100∧n.name.length≤60:=λn hn=>by have:=h5 n hn;simpa[Nf] using this
 exact⟨⟨⟨by omega,λs hs=>by have:=hp s hs;omega⟩,⟨by omega,λn hn=>by have:=hv n hn;omega⟩⟩,by omega,λn hn=>by have:=hv n hn;omega⟩
theorem Eb{α:Type}{f:α→Nat}{k:Nat}:∀{l:List α},(∀x∈l,f x≤k)→(l.map f).sum≤k*l.length
 | [],_=>by simp
 | x::l,h=>by
  have h1:=h x (List.mem_cons_self ..)
  have h2:=Eb (l:=l) λy hy=>h y (List.mem_cons_of_mem _ hy)
  simp only[List.map_cons,List.sum_cons,List.length_cons,Nat.mul_add]
  omega
theorem VQ{v:Vl}{l:List Ed}(hv:rQ v 60=true)(hl:vW l=true):oK v l:=by
 obtain⟨h1,h2⟩:=AL hv
 obtain⟨h3,h4⟩:=P_ hl
 refine⟨h1,Ng hv,?_,λe he=>⟨(h4 e he).1,by have:=(h4 e he).2.1;omega,(h4 e he).2.2⟩,by omega⟩
 have:=Eb (f:=λe:Ed=>e.v.length) (k:=30) (l:=l) λe he=>(h4 e he).2.1
 omega
end Lp
namespace Lp
open Go Go.Proofs
theorem Nh(v:Vl)(l:List Ed)(h:oK v l):av Tryz.prog 15 [aj v,jK l] [] (eP (dY v l)) []:=by
 refine A_.eH (T:=bg Tryz.prog [(18,qL)]) 0 hD (ay (af EO ak)) bC (by decide) (by decide) λQ hQ=>?_
 have hll:=h.ab0
 (conv=>arg 4;cbv);simp (maxSteps:=400000) only[↓aA,aB,BEq.rfl,seval,hQ]
 refine aU (λm S=>∃(i:Nat) (w:Vl),i+m=l.length∧oK w (l.drop i)∧dY v l=dY w (l.drop i)∧S=⟨dR 29 [(0,aj w),(1,jK l),(6,.int .i64 i)],[]⟩) l.length ⟨0,v,by omega,h,rfl,?_⟩ ?_
 ·simp only[dw,keepR,Nat.reduceAdd,pX,Nat.reduceBEq,List.map_nil]
  rfl
 rintro m S ⟨i,w,him,hw,hg,rfl⟩
 have zi:(0≤(i:Int))=True:=eq_true (by omega)
 rcases Nat.lt_or_ge i l.length with h | h
 ·have hlt:((i:Int)<(l.length:Int))=True:=eq_true (by omega)
  have hgi:=List.getElem?_eq_getElem h
  rw[List.drop_eq_getElem_cons h]at hg hw
  generalize l[i]=e at hgi hg hw
  rw[dY]at hg
  by_cases he:(dL w e).2=0
  ·have he':=eq_true he
   rw[if_pos he]at hg
   simp (maxSteps:=400000) only[↓aA,aB,BEq.rfl,seval,hQ,hlt,zi,hgi,↓qL,fo,he',KR]
   exact⟨hw.one,⟨by omega,by omega⟩,m-1,by omega,i+1,_,by omega,hw.next he,hg,by simp⟩
  ·have he':=eq_false he
   rw[if_neg he]at hg
   have hres:eP (dY v l)=.bI [.sl 0 [] (some true),.int .i64 (dL w e).2]:=by unfold eP;rw[hg,if_neg he]
   simp (maxSteps:=400000) only[↓aA,aB,BEq.rfl,seval,hQ,hlt,zi,hgi,↓qL,fo,he',KR,hres]
   exact hw.one
 ·have hlt:((i:Int)<(l.length:Int))=False:=eq_false (by omega)
  rw[List.drop_eq_nil_of_le h,dY]at hg
  have hres:eP (dY v l)=.bI [aj w,.int .i64 0]:=by unfold eP;rw[hg,if_pos rfl]
  simp (maxSteps:=400000) only[↓aA,aB,BEq.rfl,seval,hQ,hlt,hres]
def vO:eX:=λargs objs K=>match args with
 | [a0,a1]=>gy aj a0 (HK.mk:HK λv=>gy jK a1 (HK.mk:HK λl=>(oK v l)∧K (.bI [aj (dY v l).1,.int .i64 (dY v l).2]) objs 0))
 | _=>False
theorem JK:aQ Tryz.prog 15 (vO):=by
 intro args objs K h
 unfold vO at h
 split at h
 ·rename_i a0 a1
  obtain⟨v,rfl,l,rfl,h1,hk⟩:=h
  exact⟨_,_,_,.pure _ rfl ((Nh v l h1).res (qI _ (Cz l v))),hk⟩
 ·exact h.elim
theorem TW:∀{l:List Ed}{e:Ed},e∈l→e.v.length≤(l.map λe=>e.v.length).sum
 | [],_,h=>by cases h
 | x::l,e,h=>by
  rw[List.map_cons,List.sum_cons]
  rcases List.mem_cons.1 h with rfl | h
  ·omega
  ·have:=TW h;omega
theorem Qa:∀{l:List Ed}{v:Vl},oK v l→(dY v l).2=0→(dY v l).1.length≤40000
 | [],v,h,_=>by have:=h.len;simpa[dY] using this
 | e::l,v,h,h0=>by
  rw[dY]at h0 ⊢
  by_cases he:(dL v e).2=0
  ·rw[if_pos he]at h0 ⊢
   exact Qa (h.next he) h0
  ·rw[if_neg he]at h0;exact absurd h0 he
theorem oK.ab7 {v:Vl}{l:List Ed}(h:oK v l){e:Ed}(he:e∈l):xX v e:=
 ⟨h.rt,by
  have h1:=h.len
  have h2:e.v.length≤(l.map λe=>e.v.length).sum:=TW he
  omega,h.nm,(h.all e he).1,(h.all e he).2.1,(h.all e he).2.2⟩
theorem JL(v:Vl)(l:List Ed)(hv:Big v)(hl:Iz l):av Tryz.prog 4 [aj v,jK l] [] (.bool true) []:=by
 have t60:Int.toNat 60=60:=rfl
 have hvl:=hv.len
 refine wz.bY (T:=bg Tryz.prog [(9,qK),(8,kV),(13,x_),(14,nk),(17,AV),(15,vO),(18,qL),(16,kK)]) 0 hD (ay (af r9 (af Dz (af P9 (af xY (af KU (af JK (af EO (af uU ak))))))))) bC (by decide) λQ hQ=>?_
 (conv=>arg 4;cbv);simp (maxSteps:=400000) only[↓aA,aB,BEq.rfl,seval,hQ]
 cases fv:rQ v 60
 ·simp (maxSteps:=400000) only[↓aA,aB,BEq.rfl,seval,hQ,↓b_,↓kV,t60,fv]
  repeat' (first | omega | exact hv.txt | refine⟨?_,?_⟩)
 cases fl:vW l
 ·simp (maxSteps:=400000) only[↓aA,aB,BEq.rfl,seval,hQ,↓b_,↓kV,↓x_,t60,fv,fl]
  exact⟨by omega,hv.txt,hl⟩
 have hap:=VQ fv fl
 have hll:=hl.len
 have hal:(dY v l).1.length≤1000000:=by
  by_cases h0:(dY v l).2=0
  ·have:=Qa hap h0
   omega
  ·rw[Cz l v h0];simp
 simp (maxSteps:=400000) only[↓aA,aB,BEq.rfl,seval,hQ,↓kV,↓x_,↓nk,↓vO,↓kK,t60,fv,fl,fo]
 refine⟨by omega,hv.txt,hl,hap,hap,hal,hal,?_⟩
 refine aU (λm S=>∃(i:Nat),i+m=l.length∧S=⟨dR 78 [(0,aj v),(1,jK l),(9,.int .i64 i)],[]⟩) l.length ⟨0,by omega,?_⟩ ?_
 ·simp only[dw,keepR,Nat.reduceAdd,pX,Nat.reduceBEq,List.map_nil]
  rfl
 rintro m S ⟨i,him,rfl⟩
 have zi:(0≤(i:Int))=True:=eq_true (by omega)
 rcases Nat.lt_or_ge i l.length with h | h
 ·have hlt:((i:Int)<(l.length:Int))=True:=eq_true (by omega)
  have hgi:=List.getElem?_eq_getElem h
  have hone:=hap.ab7 (List.getElem_mem h)
  generalize l[i]=e at hgi hone
  have hol:(dL v e).1.length≤1000000:=by
   by_cases h0:(dL v e).2=0
   ·have:=(MR hone.rt hone.nm hone.ok h0).2.1
    have:=hone.len
    have:=hone.abZ
    omega
   ·rw[X6 h0];simp
  simp (maxSteps:=400000) only[↓aA,aB,BEq.rfl,seval,hQ,hlt,zi,hgi,↓AV,↓qL,↓kK,fo]
  exact⟨hone,hone,hol,hol,⟨by omega,by omega⟩,m-1,by omega,i+1,by omega,by simp⟩
 ·have hlt:((i:Int)<(l.length:Int))=False:=eq_false (by omega)
  simp (maxSteps:=400000) only[↓aA,aB,BEq.rfl,seval,hQ,hlt,↓b_]
end Lp
namespace Lp
open Go Go.Proofs
theorem ab8:∃fs:Array Field,Tryz.prog.underlying 43=some (.struct fs)∧fs.toList.map (λf=>(f.offset,f.type))=[(0,4),(1,9),(2,3)]:=
 ⟨Tryz.prog.fieldsOf 43,by kernel_rfl,by kernel_rfl⟩
instance :Inhabited Stp:=⟨⟨false,[],0⟩⟩
instance :Inhabited Ed:=⟨⟨0,[],[]⟩⟩
theorem Z6:Rd Tryz.prog 43 encS (λs:Stp=>s.name.length≤reachBytes):=by
 intro H eh w fuel cs x h hw
 obtain⟨fs,ht,hfs⟩:=ab8
 obtain⟨hl,hp⟩:=uS ht h hw
 rw[hfs]at hp
 have hc:Tryz.prog.cellsOf 43=3:=by kernel_rfl
 rw[hc]at hl
 match cs,hl with
 | [v0,v1,v2],_=>
  obtain⟨n0,y0,a0,b0⟩:=hp 0 0 4 rfl
  obtain⟨n1,y1,a1,b1⟩:=hp 1 1 9 rfl
  obtain⟨n2,y2,a2,b2⟩:=hp 2 2 3 rfl
  rw[one_cell XK (v:=v0) rfl]at a0
  rw[one_cell Hu (v:=v1) rfl]at a1
  rw[one_cell O7 (v:=v2) rfl]at a2
  obtain⟨b,g0,r0⟩:=Rd.bool XJ eh w n0 _ _ a0 b0
  obtain⟨nm,g1,r1⟩:=Rd.str Ht eh w n1 _ _ a1 b1
  obtain⟨n,g2,r2⟩:=Rd.int O6 eh w n2 _ _ a2 b2
  refine⟨⟨b,nm,n⟩,g1,?_⟩
  exact p9 (r0.2 0 _ _ rfl rfl) (p9 (r1.2 0 _ _ rfl rfl) (p9 (r2.2 0 _ _ rfl rfl) O8))
theorem ab9:Tryz.prog.underlying 36=some (.slice 43):=by kernel_rfl
structure aa1 (p:List Stp):Prop where
 len:p.length≤1152921504606846976
 txt:∀s∈p,s.name.length≤4611686018427387904
theorem Z7:Rd Tryz.prog 36 bf aa1:=by
 intro H eh w fuel cs x h hw
 obtain⟨v,⟨h1,h2⟩,h3⟩:=Rd.slice (sz:=3) ab9 Z6 (by kernel_rfl) (by decide) (λ_=>rfl) eh w fuel cs x h hw
 have hb:Tryz.prog.bytesOf 43=32:=by kernel_rfl
 rw[hb,reachBytes]at h1
 refine⟨v,⟨by omega,λn hn=>?_⟩,h3⟩
 have g:=h2 n hn
 rw[reachBytes]at g
 omega
theorem ab_:∃fs:Array Field,Tryz.prog.underlying 38=some (.struct fs)∧fs.toList.map (λf=>(f.offset,f.type))=[(0,3),(1,36),(2,23)]:=
 ⟨Tryz.prog.fieldsOf 38,by kernel_rfl,by kernel_rfl⟩
theorem Z8:Rd Tryz.prog 38 iD aa0:=by
 intro H eh w fuel cs x h hw
 obtain⟨fs,ht,hfs⟩:=ab_
 obtain⟨hl,hp⟩:=uS ht h hw
 rw[hfs]at hp
 have hc:Tryz.prog.cellsOf 38=3:=by kernel_rfl
 have cp:Tryz.prog.cellsOf 36=1:=by kernel_rfl
 have cv:Tryz.prog.cellsOf 23=1:=by kernel_rfl
 rw[hc]at hl
 match cs,hl with
 | [v0,v1,v2],_=>
  obtain⟨n0,y0,a0,b0⟩:=hp 0 0 3 rfl
  obtain⟨n1,y1,a1,b1⟩:=hp 1 1 36 rfl
  obtain⟨n2,y2,a2,b2⟩:=hp 2 2 23 rfl
  rw[one_cell O7 (v:=v0) rfl]at a0
  rw[one_cell cp (v:=v1) rfl]at a1
  rw[one_cell cv (v:=v2) rfl]at a2
  obtain⟨k,g0,r0⟩:=Rd.int O6 eh w n0 _ _ a0 b0
  obtain⟨p,g1,r1⟩:=Z7 eh w n1 _ _ a1 b1
  obtain⟨v,g2,r2⟩:=rd_val eh w n2 _ _ a2 b2
  refine⟨⟨k,p,v⟩,⟨g1.len,g1.txt,g2.len,g2.txt⟩,?_⟩
  exact p9 (r0.2 0 _ _ rfl rfl) (p9 (r1.2 0 _ _ rfl rfl) (p9 (r2.2 0 _ _ rfl rfl) O8))
theorem Z9:Tryz.prog.underlying 27=some (.slice 38):=by kernel_rfl
theorem adS:Rd Tryz.prog 27 jK Iz:=by
 intro H eh w fuel cs x h hw
 obtain⟨v,⟨h1,h2⟩,h3⟩:=Rd.slice (sz:=3) Z9 Z8 (by kernel_rfl) (by decide) (λ_=>rfl) eh w fuel cs x h hw
 have hb:Tryz.prog.bytesOf 38=56:=by kernel_rfl
 rw[hb,reachBytes]at h1
 exact⟨v,⟨by omega,h2⟩,h3⟩
end Lp
namespace Lp
open Go Go.Proofs
theorem YI(v:Vl)(l:List Ed)(hv:Big v)(hl:Iz l):av Tryz.prog 4 [aj v,jK l] [] (.bool true) []:=JL v l hv hl
end Lp
namespace Lp
open Go Go.Proofs Go.Shelf Go.RowKit Go.Lib Go.ChangeAt
def Yp:List (String×DataW Unit):=[("unicode/utf8.acceptRanges",Lib.acceptData),("unicode/utf8.first",Lib.firstData)]
noncomputable def VR (os:Os):World:=
 let w0:=World.holding Tryz.prog os ⟨#[],#[],[]⟩
 let put (h:Array Go.Obj) (g:Nat) (cs:Array Value):Array Go.Obj:=h.modify g λ
  | .cells _ t frozen=>.cells cs t frozen
  | o=>o
 let h1:=put w0.heap 0 (Lib.firstTab.map λz=>Value.int .u8 z).toArray
 let h2:=put h1 1 ((List.range 16).flatMap λi=>[Value.int .u8 (Lib.accLo i),Value.int .u8 (Lib.accHi i)]).toArray
 { w0 with heap:=h2 }
theorem adT(os:Os)(args:Array Value):laidMet Tryz.prog Yp ((VR os).forCall (λ_ _=>0) ⟨#[],args,[]⟩).memory:=
 (LaidIn.of_run (l:=Yp) [1,0] 8 (by kernel_rfl) (by kernel_rfl) (by kernel_rfl) (by kernel_rfl)).met
theorem VS{w W:World}(h:w.heap=W.heap)(hT:Lib.Utf8Tabs 0 1 W):Lib.Utf8Tabs 0 1 w:=by
 have e:∀b:Nat,w.heap[b]?=W.heap[b]?:=λb=>by rw[h]
 refine⟨λc hc=>?_,λi hi=>⟨?_,?_⟩⟩
 ·rw[pQ (e 0)];exact hT.1 c hc
 ·rw[pQ (e 1)];exact (hT.2 i hi).1
 ·rw[pQ (e 1)];exact (hT.2 i hi).2
theorem aco{W:World}(h:laidMetH Tryz.prog Yp W):mI.holds W.heap:=by
 have hT:Lib.Utf8Tabs 0 1 W:=
  utf8Tabs_of_readsT (U8Types.of196 Tryz.Mf) ⟨by kernel_rfl,by kernel_rfl,by kernel_rfl,by kernel_rfl,by kernel_rfl,by kernel_rfl,by kernel_rfl⟩ (Lib.laidMet.reads h (.tail _ (.head _))) (Lib.laidMet.reads h (.head _))
 intro w hw
 exact VS hw hT
structure aeG (l:List (List UInt8)):Prop where
 len:l.length≤1152921504606846976
 all:∀s∈l,s.length≤4611686018427387904
end Lp
namespace Lp
open Go
theorem gH{a b:Bool}(ha:a=true)(hb:b=true):(a && b)=true:=by rw[ha,hb];rfl
theorem acp{P:Program}{f:FuncId}{fn:Func}{s:ChangeSpec}{c:OpenClaim}
  (h0:(c.wf (OpenSpec.ofChange s))=true)
  (h1:(laidOutB P)=true)
  (h2:(mapsRowed P)=true)
  (h3:(fn.params.all (P.readableRec ·))=true)
  (h4:(namedTie P c.named s.vars)=true)
  (h5:((c.stops==[]))=true)
  (h6:((P.stops==[]))=true)
  (h7:((c.knobs==[]))=true)
  (h8:((P.stopKnobs==[]))=true)
  (h9:((c.inPlace==P.inPlace f))=true)
  (h10:((c.unfollowed==P.unfollowed f))=true)
  (h11:((c.recurses==P.recurses f))=true)
  (h12:((c.named==P.varsNamed f))=true)
  (h13:((c.maps==(fn.params.toList++s.plain.varTypes P).any (P.mapsRec ·)))=true)
  (h14:((c.ifaces==(fn.params.toList++s.plain.varTypes P).any (P.ifacesRec ·)))=true)
  (h15:((c.mapsOut==P.mapsAmong fn.resultTypes.toList))=true)
  (h16:((c.loops==(fn.params.toList++s.plain.varTypes P).any (P.loopsFrom ·)))=true)
  (h17:((c.wideKeys==(fn.params.toList++s.plain.varTypes P++fn.resultTypes.toList).any (P.wideKeysFrom ·)))=true)
  (h18:(s.vars.all (P.varReadable ·))=true)
  (h19:(fn.resultTypes.all (λt=>P.readableRec t && decide (t<P.types.size)))=true)
  (h20:((c.ifacesOut==fn.resultTypes.toList.any (P.ifacesRec ·)))=true)
  (h21:((c.loopsOut==fn.resultTypes.toList.any (P.loopsFrom ·)))=true)
  (h22:((c.plainKeys==P.plainKeys))=true)
  (h23:(c.shortTexts.isNone)=true)
  (h24:(P.stopsHeard)=true)
  (h25:(P.mayEnter)=true)
  (h26:((c.lifted==P.liftsFinal))=true)
  (h27:((P.make==some c.make))=true)
  (h28:((c.kinds==(if c.domain.isEmpty then [] else fn.params.toList.map λt=>match P.underlying t with | some (.int k)=>some k | _=>none)))=true)
  (h29:((c.pinned==c.pinnedBy))=true)
  (h30:((c.veiled==(fn.params.toList++s.plain.varTypes P++fn.resultTypes.toList).any (P.veiledRec ·)))=true)
  (h31:(c.veiledFits P fn.params.toList (fn.params.toList++s.plain.varTypes P++fn.resultTypes.toList))=true):joinedFacts P f fn s c=true:=by
 unfold joinedFacts
 exact (gH (gH (gH (gH (gH (gH (gH (gH (gH (gH (gH (gH (gH (gH (gH (gH (gH (gH (gH (gH (gH (gH (gH (gH (gH (gH (gH (gH (gH (gH (gH h0 h1) h2) h3) h4) h5) h6) h7) h8) h9) h10) h11) h12) h13) h14) h15) h16) h17) h18) h19) h20) h21) h22) h23) h24) h25) h26) h27) h28) h29) h30) h31)
end Lp
namespace Lp
open Go
def pre(p:List Stp)(e:Ed):Ed:=⟨e.kind,p++e.p,e.v⟩
theorem qM:∀(f:Nat) (p q:List Stp) (a b:Vl),aH f (p++q) a b=(aH f q a b).map (pre p)
 | 0,p,q,a,b=>by
  unfold aH
  split<;>simp[pre]
 | f+1,p,q,a,b=>by
  unfold aH
  split
  ·rfl
  split
  ·rw[List.map_flatMap]
   refine congrArg (λz=>List.flatMap z _) (funext λnm=>?_)
   unfold nJ
   split
   ·split
    ·rw[List.append_assoc];exact qM f p _ _ _
    ·simp[pre]
   ·simp[pre]
  split
  ·unfold m_ lM iy
   rw[List.map_append,List.map_flatMap,List.map_flatMap]
   congr 1
   ·refine congrArg (λz=>List.flatMap z _) (funext λk=>?_)
    split<;>simp[pre]
   ·refine congrArg (λz=>List.flatMap z _) (funext λi=>?_)
    unfold AR
    split
    ·rw[List.append_assoc];exact qM f p _ _ _
    ·simp[pre]
  ·simp[pre]
theorem yc:∀(l m:List Ed){v w:Vl},dY v l=(w,0)→dY v (l++m)=dY w m
 | [],m,v,w,h=>by
  rw[dY]at h
  cases h;rfl
 | e::l,m,v,w,h=>by
  rw[dY]at h
  by_cases h0:(dL v e).2=0
  ·rw[if_pos h0]at h
   rw[List.cons_append,dY,if_pos h0]
   exact yc l m h
  ·rw[if_neg h0]at h
   rw[Prod.mk.injEq]at h
   exact absurd h.2 h0
theorem Qb{v:Vl}{s:Stp}{y:Vl}(hr:Rt v)(h:(aP v s).2=0)(hs:aS s=true)(hy:Rt y):aP (mD v s y) s=(y,0):=by
 unfold mD
 unfold aP at h ⊢
 cases hp:s.part with
 | true=>
  simp only[hp,if_true]at h ⊢
  by_cases hk:aO v=5
  ·simp only[hk,if_true]at h
   cases hg:(ax v)[s.n.toNat]? with
   | none=>rw[hg]at h;cases h
   | some w=>
    have hm:∀p∈(ax v).set s.n.toNat y,Rt p:=λp hp=>by
     rcases List.mem_or_eq_of_mem_set hp with hp | rfl
     ·exact (cZ hr hp).1
     ·exact hy
    rw[if_pos (show aO (dQ ((ax v).set s.n.toNat y))=5 from rfl),kC hm,List.getElem?_set]
    simp[(List.getElem?_eq_some_iff.1 hg).1]
  ·rw[if_neg hk]at h;cases h
 | false=>
  simp only[hp,Bool.false_eq_true,if_false]at h ⊢
  by_cases hk:aO v=6
  ·have hu:utf s.name=true:=by
     unfold aS at hs
     simp only[hp,Bool.false_eq_true,if_false,Bool.and_eq_true]at hs
     exact hs.2
   obtain⟨f1,f2,f3,f4,f5⟩:=j_ s.name hr hk hu hy
   rw[if_pos f2,kg f2,f4,JO f5 (pF _ _)]
  ·rw[if_neg hk]at h;cases h
theorem set_self{α:Type}{l:List α}{i:Nat}{x:α}(h:l[i]?=some x):l.set i x=l:=by
 apply List.ext_getElem?
 intro j
 rw[List.getElem?_set]
 split
 ·rename_i e;subst e;rw[if_pos (List.getElem?_eq_some_iff.1 h).1,h]
 ·rfl
theorem Yq{v:Vl}{s:Stp}(hr:Rt v)(h:(aP v s).2=0):mD v s (aP v s).1=v:=by
 unfold mD
 unfold aP at h ⊢
 cases hp:s.part with
 | true=>
  simp only[hp,if_true]at h ⊢
  by_cases hk:aO v=5
  ·simp only[hk,if_true]at h ⊢
   cases hg:(ax v)[s.n.toNat]? with
   | none=>rw[hg]at h;cases h
   | some w=>
    simp only[set_self hg]
    obtain⟨n,r,rfl,_⟩:=bO hr.name hr.one.ne
    exact wD hr hk
  ·rw[if_neg hk]at h;cases h
 | false=>
  simp only[hp,Bool.false_eq_true,if_false]at h ⊢
  by_cases hk:aO v=6
  ·simp only[hk,if_true]at h ⊢
   cases hg:fM v s.name with
   | none=>rw[hg]at h;cases h
   | some w=>
    simp only
    rw[kg hk]at hg
    obtain⟨hq,hmk,_,_⟩:=dz hr hk
    rw[gL,JP hq hg,hmk]
  ·rw[if_neg hk]at h;cases h
theorem Z_{v:Vl}{s:Stp}{y z:Vl}(hr:Rt v)(h:(aP v s).2=0)(hs:aS s=true)(hy:Rt y):mD (mD v s y) s z=mD v s z:=by
 unfold mD
 unfold aP at h
 cases hp:s.part with
 | true=>
  simp only[hp,if_true]at h ⊢
  have hm:∀p∈(ax v).set s.n.toNat y,Rt p:=λp hp=>by
   rcases List.mem_or_eq_of_mem_set hp with hp | rfl
   ·exact (cZ hr hp).1
   ·exact hy
  rw[kC hm,List.set_set]
 | false=>
  simp only[hp,Bool.false_eq_true,if_false]at h ⊢
  by_cases hk:aO v=6
  ·have hu:utf s.name=true:=by
     unfold aS at hs
     simp only[hp,Bool.false_eq_true,if_false,Bool.and_eq_true]at hs
     exact hs.2
   obtain⟨f1,f2,f3,f4,f5⟩:=j_ s.name hr hk hu hy
   rw[gL,f4,Ue f5 (pF _ _) hu hy,gL]
  ·rw[if_neg hk]at h;cases h
theorem VT{v:Vl}{e:Ed}(h:(dL v e).2=0):bL e=true:=by
 cases hr:bL e with
 | true=>rfl
 | false=>rw[dL,hr]at h;cases h
theorem SN{s:Stp}{p:List Stp}(h:p≠[]):l7 (s::p)=l7 p:=by
 have:0<p.length:=List.length_pos_iff.2 h
 unfold l7
 rw[List.length_cons,Nat.add_sub_cancel,show p.length=(p.length-1)+1 by omega,List.getElem?_cons_succ]
 rfl
theorem aac{v:Vl}{s:Stp}{e:Ed}(h:(aP v s).2=0)(h1:(dL (aP v s).1 e).2=0)(hr:bL (pre [s] e)=true):dL v (pre [s] e)=(mD v s (dL (aP v s).1 e).1,0):=by
 have hre:=VT h1
 obtain⟨r1,r2,r3,r4,r5,r6⟩:=ng hre
 have hset:∀(q:List Stp) (x:Vl),(dK q (aP v s).1 x).2=0→dK (s::q) v x=(mD v s (dK q (aP v s).1 x).1,0):=λq x hx=>by rw[dK,if_pos h,if_pos hx]
 unfold dL at h1 ⊢
 rw[hre]at h1
 rw[hr,hre]
 simp only[if_true]at h1 ⊢
 by_cases h0:e.kind=0
 ·rw[if_pos h0]at h1
  rw[if_pos (show (pre [s] e).kind=0 from h0),if_pos h0]
  exact hset _ _ h1
 rw[if_neg h0]at h1
 have hpn:=r6 h0
 have hpl:0<e.p.length:=List.length_pos_iff.2 hpn
 have et:(pre [s] e).p.take ((pre [s] e).p.length-1)=s::e.p.take (e.p.length-1):=by
  show (s::e.p).take ((s::e.p).length-1)=_
  rw[List.length_cons,Nat.add_sub_cancel,show e.p.length=(e.p.length-1)+1 by omega,List.take_succ_cons]
  simp
 have el:l7 (pre [s] e).p=l7 e.p:=SN hpn
 have ei:∀w,eZ w (l7 e.p) (pre [s] e)=eZ w (l7 e.p) e:=λw=>rfl
 rw[if_neg (show ¬ (pre [s] e).kind=0 from h0),et,el,if_neg h0]
 simp only[ei]
 generalize e.p.take (e.p.length-1)=q at *
 unfold Qo at h1 ⊢
 have eg:bV (s::q) v=bV q (aP v s).1:=by rw[bV,if_pos h]
 rw[eg]
 by_cases h2:(bV q (aP v s).1).2=0
 ·rw[if_pos h2]at h1 ⊢
  rw[if_pos h2]
  by_cases h3:(eZ (bV q (aP v s).1).1 (l7 e.p) e).2=0
  ·rw[if_pos h3]at h1 ⊢
   rw[if_pos h3]
   exact hset _ _ h1
  ·rw[if_neg h3]at h1;exact absurd h1 h3
 ·rw[if_neg h2]at h1;exact absurd h1 h2
theorem Ni{s:Stp}(hs:aS s=true):∀(l:List Ed){v w b:Vl},Rt v→Nm v→aP v s=(w,0)→(∀e∈l,bL (pre [s] e)=true∧ZQ e)→dY w l=(b,0)→dY v (l.map (pre [s]))=(mD v s b,0)
 | [],v,w,b,hr,hn,hw,_,h=>by
  rw[dY]at h
  cases h
  have:=Yq (s:=s) hr (by rw[hw])
  rw[hw]at this
  rw[List.map_nil,dY,this]
 | e::l,v,w,b,hr,hn,hw,hl,h=>by
  have h0:(aP v s).2=0:=by rw[hw]
  have e1:(aP v s).1=w:=by rw[hw]
  rw[dY]at h
  by_cases h1:(dL w e).2=0
  ·rw[if_pos h1]at h
   obtain⟨g1,g2⟩:=hl e (by simp)
   obtain⟨a1,a2,a3⟩:=qH hr hn h0
   rw[e1]at a1 a3
   obtain⟨b1,b2,b3⟩:=MR a1 a3 g2 h1
   have ho:=aac (e:=e) h0 (by rw[e1];exact h1) g1
   rw[e1]at ho
   obtain⟨c1,c2,c3⟩:=TR hr hn h0 hs b1 b3
   have hpp:=Qb hr h0 hs b1
   rw[List.map_cons,dY,ho,if_pos rfl,Ni hs l c1 c3 hpp (λe' he=>hl e' (List.mem_cons_of_mem _ he)) h,Z_ hr h0 hs b1]
  ·rw[if_neg h1,Prod.mk.injEq]at h
   exact absurd h.2 h1
end Lp
namespace Lp
open Go
open List (mem_singleton)
structure eG (v:Vl):Prop where
 rt:Rt v
 nm:Nm v
 len:v.length≤1000000
theorem eG.part {v p:Vl}(h:eG v)(hp:p∈ax v):eG p:=
 ⟨(CF h.rt h.nm p hp).1,(CF h.rt h.nm p hp).2,by have:=(cZ h.rt hp).2;have:=h.len;omega⟩
structure jO (p:List Stp):Prop where
 rt:∀s∈p,aS s=true
 nm:∀s∈p,s.name.length≤1000000
theorem jO.snoc {p:List Stp}{s:Stp}(h:jO p)(hr:aS s=true)(hn:s.name.length≤1000000):jO (p++[s]):=by
 refine⟨λx hx=>?_,λx hx=>?_⟩
 ·rcases List.mem_append.1 hx with hx | hx
  ·exact h.rt x hx
  ·simp only[mem_singleton]at hx;subst hx;exact hr
 ·rcases List.mem_append.1 hx with hx | hx
  ·exact h.nm x hx
  ·simp only[mem_singleton]at hx;subst hx;exact hn
theorem jO.right {p:List Stp}(h:jO p)(hl:p.length≤20):fP p=true:=by
 unfold fP
 rw[List.all_eq_true.2 h.rt];simpa using hl
def Nj(e:Ed):Prop:=bL e=true∧ZQ e
theorem set_right{p:List Stp}{b:Vl}(h:jO p)(hl:p.length≤20)(hb:eG b):Nj ⟨0,p,b⟩:=by
 refine⟨?_,⟨h.nm,hb.nm⟩⟩
 unfold bL
 simp only[h.right hl,CX hb.rt];simp
theorem y9{p:List Stp}{b:Vl}(h:jO p)(hl:p.length≤20)(hne:p≠[])(hb:eG b):Nj ⟨1,p,b⟩:=by
 refine⟨?_,⟨h.nm,hb.nm⟩⟩
 unfold bL
 simp only[h.right hl,CX hb.rt];simp[hne]
theorem vP{p:List Stp}(h:jO p)(hl:p.length≤20)(hne:p≠[]):Nj ⟨2,p,[]⟩:=by
 refine⟨?_,⟨h.nm,λn hn=>by cases hn⟩⟩
 unfold bL
 simp only[h.right hl];simp[hne]
theorem y_{v:Vl}{nm:List UInt8}(h:eG v)(hk:aO v=6)(hm:nm∈aK v):aS ⟨false,nm,0⟩=true∧nm.length≤1000000:=by
 obtain⟨hq,_,hN,_⟩:=dz h.rt hk
 rw[hN]at hm
 obtain⟨x,hx,rfl⟩:=List.mem_map.1 hm
 exact⟨by simp[aS,hq.utf x hx],(Ii h.rt hk h.nm x hx).1⟩
theorem qa{i:Nat}(h:i≤1000000):aS ⟨true,[],i⟩=true:=by simp[aS];omega
theorem tV{v:Vl}{nm:List UInt8}(hr:Rt v)(hk:aO v=6)(h:dS v nm=true):bH v nm∈ax v:=by
 rw[(dz hr hk).2.2.2];exact List.mem_map.2 ⟨_,KQ hr hk h,rfl⟩
theorem tX{l:List Vl}{k:Nat}(h:k<l.length):l.getD k []∈l:=by
 rw[List.getD_eq_getElem?_getD,List.getElem?_eq_getElem h];exact List.getElem_mem h
theorem Qc(old now:List Vl){i:Nat}(hi:i<now.length):∃u,(fD old now)[i]?=some u∧(fD old now).getD i 0=u∧-1≤u∧u<old.length:=by
 have hg:=List.getElem?_eq_getElem ((yV old now).symm ▸ hi:i<(fD old now).length)
 exact⟨_,hg,by rw[List.getD_eq_getElem?_getD,hg];rfl,xO old now _ (List.mem_of_getElem? hg)⟩
theorem ny:∀(f:Nat) (p:List Stp) (a b:Vl),eG a→eG b→jO p→p.length+f≤20→∀e∈aH f p a b,Nj e
 | 0,p,a,b,ha,hb,hp,hl,e,h=>by
  unfold aH at h
  split at h
  ·cases h
  ·simp only[mem_singleton]at h;subst h;exact set_right hp (by omega) hb
 | f+1,p,a,b,ha,hb,hp,hl,e,h=>by
  have pl:∀s:Stp,(p++[s]).length≤20∧(p++[s]).length+f≤20∧p++[s]≠[]:=λs=>⟨by simp;omega,by simp;omega,by simp⟩
  unfold aH at h
  split at h
  ·cases h
  split at h
  ·rename_i hk
   obtain⟨nm,hm,h⟩:=List.mem_flatMap.1 h
   have hst:aS ⟨false,nm,0⟩=true∧nm.length≤1000000:=by
    rcases lN.1 hm with h | h
    ·exact y_ ha hk.1 h
    ·exact y_ hb hk.2 h
   have hq:=hp.snoc hst.1 hst.2
   unfold nJ at h
   split at h
   ·rename_i hb1
    have hB:=hb.part (tV hb.rt hk.2 hb1)
    split at h
    ·rename_i ha1
     exact ny f _ _ _ (ha.part (tV ha.rt hk.1 ha1)) hB hq (pl _).2.1 e h
    ·simp only[mem_singleton]at h;subst h;exact y9 hq (pl _).1 (pl _).2.2 hB
   ·simp only[mem_singleton]at h;subst h;exact vP hq (pl _).1 (pl _).2.2
  split at h
  ·rename_i hk
   have f1:=bK ha.rt
   have f2:=bK hb.rt
   have l1:=ha.len
   have l2:=hb.len
   unfold m_ at h
   rcases List.mem_append.1 h with h | h
   ·unfold lM iy at h
    obtain⟨k,hk,h⟩:=List.mem_flatMap.1 h
    obtain⟨j,hj,rfl⟩:=List.mem_map.1 hk
    rw[List.mem_range]at hj
    split at h
    ·cases h
    ·simp only[mem_singleton]at h;subst h
     exact vP (hp.snoc (qa (by omega)) (by simp)) (pl _).1 (pl _).2.2
   ·obtain⟨i,hi,h⟩:=List.mem_flatMap.1 h
    rw[List.mem_range]at hi
    have hB:=hb.part (tX hi)
    have hq:=hp.snoc (s:=⟨true,[],i⟩) (qa (by omega)) (by simp)
    unfold AR at h
    split at h
    ·rename_i hu
     obtain⟨u,u1,u2,u3,u4⟩:=Qc (ax a) (ax b) hi
     exact ny f _ _ _ (ha.part (tX (by omega))) hB hq (pl _).2.1 e h
    ·simp only[mem_singleton]at h;subst h;exact y9 hq (pl _).1 (pl _).2.2 hB
  ·simp only[mem_singleton]at h;subst h;exact set_right hp (by omega) hb
theorem get_nil(v:Vl):bV [] v=(v,0):=rfl
theorem FN{v:Vl}{s:Stp}{k:Int}{x:Vl}(h:bL ⟨k,[s],x⟩=true)(hk:k≠0)(h0:(eZ v s ⟨k,[s],x⟩).2=0):dL v ⟨k,[s],x⟩=((eZ v s ⟨k,[s],x⟩).1,0):=by
 unfold dL
 rw[h,if_pos rfl,if_neg hk]
 show Qo [] v (λw=>eZ w s ⟨k,[s],x⟩)=_
 unfold Qo
 rw[get_nil,if_pos rfl,if_pos h0];rfl
theorem one_set{v:Vl}{x:Vl}(h:bL ⟨0,[],x⟩=true):dL v ⟨0,[],x⟩=(x,0):=by
 unfold dL
 rw[h,if_pos rfl,if_pos rfl];rfl
theorem za{v w:Vl}{e:Ed}(h:dL v e=(w,0)):dY v [e]=(w,0):=by
 rw[dY,h,if_pos rfl];rfl
structure KY (v:Vl):Prop extends eG v where
 ob:aO v=6
theorem KY.good {v:Vl}(h:KY v):eG v:=⟨h.rt,h.nm,h.len⟩
structure Yr (v:Vl):Prop where
 rt:Rt v
 nm:Nm v
 ob:aO v=6
theorem aad{a b:Vl}(ha:Rt a)(hb:Rt b)(ka:aO a=6)(kb:aO b=6)(h:∀nm,fM a nm=fM b nm):a=b:=by
 obtain⟨p1,p2,_,_⟩:=dz ha ka
 obtain⟨q1,q2,_,_⟩:=dz hb kb
 rw[←p2,←q2]
 congr 1
 refine wF _ _ p1.rise q1.rise λz=>?_
 have hz:=h z.1
 rw[kg ka,kg kb]at hz
 constructor
 ·intro hm
  have:=oD (nm:=z.1) (x:=z.2) (fE p1.rise) hm
  rw[hz]at this;exact iI this
 ·intro hm
  have:=oD (nm:=z.1) (x:=z.2) (fE q1.rise) hm
  rw[←hz]at this;exact iI this
theorem IB{v x:Vl}{nm:List UInt8}(hr:Rt v)(hk:aO v=6)(hu:utf nm=true)(hx:Rt x)(k:List UInt8):fM (gL v nm x) k=if k=nm then some x else fM v k:=by
 obtain⟨f1,f2,f3,f4,f5⟩:=j_ nm hr hk hu hx
 rw[kg f2,f4]
 split
 ·rename_i e;subst e;exact JO f5 (pF _ _)
 ·rename_i e
  rw[K7 f5 (pF _ _) e,Bn (dz hr hk).1 e,kg hk]
theorem Qd{v:Vl}{nm:List UInt8}(hr:Rt v)(hk:aO v=6)(k:List UInt8):fM (cO v nm) k=if k=nm then none else fM v k:=by
 obtain⟨w1,w2,w3,w4⟩:=nW nm hr hk
 rw[kg w2,w4]
 split
 ·rename_i e;subst e;exact nO.2 (pF _ _)
 ·rename_i e
  rw[Bn (dz hr hk).1 e,kg hk]
theorem Nk{v:Vl}{nm:List UInt8}(h:dS v nm=true):fM v nm=some (bH v nm):=by
 unfold dS at h;unfold bH
 cases ho:fM v nm with
 | none=>rw[ho]at h;cases h
 | some w=>rfl
theorem CS{v:Vl}{nm:List UInt8}(h:dS v nm=false):fM v nm=none:=by
 unfold dS at h
 cases ho:fM v nm with
 | none=>rfl
 | some w=>rw[ho]at h;cases h
theorem Yt{f:Nat}(hf:f+1≤20)(ih:∀x y:Vl,eG x→eG y→dY x (aH f [] x y)=(y,0))
  {a b c:Vl}(ha:KY a) (hb:KY b) (hc:Yr c){nm:List UInt8}(hin:nm∈oh a b) (hat:fM c nm=fM a nm) :
  ∃c',dY c (nJ (aH f) [] a b nm)=(c',0)∧Yr c'∧∀k,fM c' k=if k=nm then fM b nm else fM c k:=by
 have hst:aS ⟨false,nm,0⟩=true∧nm.length≤1000000:=by
  rcases lN.1 hin with h | h
  ·exact y_ ha.good ha.ob h
  ·exact y_ hb.good hb.ob h
 have hu:utf nm=true:=by have:=hst.1;simpa[aS] using this
 have hq:jO [⟨false,nm,0⟩]:=jO.snoc (p:=[]) (jO.mk (λs h=>by cases h) (λs h=>by cases h)) hst.1 hst.2
 unfold nJ
 cases hB:dS b nm with
 | true=>
  have gB:=hb.good.part (tV hb.rt hb.ob hB)
  have eB:=Nk hB
  cases hA:dS a nm with
  | true=>
   have gA:=ha.good.part (tV ha.rt ha.ob hA)
   rw[Nk hA]at hat
   have hpart:aP c ⟨false,nm,0⟩=(bH a nm,0):=by simp[aP,hc.ob,hat]
   have hsc:aH f [⟨false,nm,0⟩] (bH a nm) (bH b nm)=(aH f [] (bH a nm) (bH b nm)).map (pre [⟨false,nm,0⟩]):=qM f [⟨false,nm,0⟩] [] _ _
   have hR:=ny f [⟨false,nm,0⟩] _ _ gA gB hq (by simp;omega)
   rw[hsc]at hR
   have happ:=Ni hst.1 (aH f [] (bH a nm) (bH b nm)) hc.rt hc.nm hpart (λe he=>by
    have h1:=hR _ (List.mem_map.2 ⟨e,he,rfl⟩)
    exact⟨h1.1,⟨λs hs=>h1.2.wG s (List.mem_append_right _ hs),h1.2.val⟩⟩) (ih _ _ gA gB)
   refine⟨gL c nm (bH b nm),?_,?_⟩
   ·rw[if_pos rfl,if_pos rfl]
    show dY c (aH f [⟨false,nm,0⟩] (bH a nm) (bH b nm))=_
    rw[hsc,happ];rfl
   ·obtain⟨f1,f2,_,_,_⟩:=j_ nm hc.rt hc.ob hu gB.rt
    exact⟨⟨f1,FH nm hc.rt hc.ob hc.nm gB.nm hst.2,f2⟩,λk=>by rw[IB hc.rt hc.ob hu gB.rt,eB]⟩
  | false=>
   rw[CS hA]at hat
   have hno:dS c nm=false:=by simp[dS,hat]
   refine⟨gL c nm (bH b nm),?_,?_⟩
   ·rw[if_pos rfl,if_neg (by simp)]
    have hr:=(y9 hq (by simp) (by simp) gB).1
    have hi:eZ c ⟨false,nm,0⟩ ⟨1,[⟨false,nm,0⟩],bH b nm⟩=(gL c nm (bH b nm),0):=by simp[eZ,dN,hc.ob,hno]
    have:=FN hr (by decide) (by rw[hi])
    rw[hi]at this
    exact za this
   ·obtain⟨f1,f2,_,_,_⟩:=j_ nm hc.rt hc.ob hu gB.rt
    exact⟨⟨f1,FH nm hc.rt hc.ob hc.nm gB.nm hst.2,f2⟩,λk=>by rw[IB hc.rt hc.ob hu gB.rt,eB]⟩
 | false=>
  have hA:dS a nm=true:=by
   rcases lN.1 hin with h | h
   ·exact (oC ha.rt ha.ob nm).2 h
   ·rw[(oC hb.rt hb.ob nm).2 h]at hB;cases hB
  rw[Nk hA]at hat
  have aez:dS c nm=true:=by simp[dS,hat]
  refine⟨cO c nm,?_,?_⟩
  ·rw[if_neg (by simp)]
   have hr:=(vP hq (by simp) (by simp)).1
   have hi:eZ c ⟨false,nm,0⟩ ⟨2,[⟨false,nm,0⟩],[]⟩=(cO c nm,0):=by simp[eZ,dN,hc.ob,aez]
   have:=FN hr (by decide) (by rw[hi])
   rw[hi]at this
   exact za this
  ·obtain⟨w1,w2,w3,w4⟩:=nW nm hc.rt hc.ob
   exact⟨⟨w1,Ij nm hc.rt hc.ob hc.nm,w2⟩,λk=>by rw[Qd hc.rt hc.ob,CS hB]⟩
theorem Qe{f:Nat}(hf:f+1≤20)(ih:∀x y:Vl,eG x→eG y→dY x (aH f [] x y)=(y,0)){a b:Vl}(ha:KY a)(hb:KY b) :
  ∀(ns:List (List UInt8)){c:Vl},Yr c→ns.Nodup→(∀nm∈ns,nm∈oh a b)→(∀nm∈ns,fM c nm=fM a nm)→(∀nm,nm ∉ ns→fM c nm=fM b nm)→
  dY c (ns.flatMap (nJ (aH f) [] a b))=(b,0)
 | [],c,hc,_,_,_,h=>by
  have:c=b:=aad hc.rt hb.rt hc.ob hb.ob λnm=>h nm (by simp)
  rw[this];rfl
 | nm::ns,c,hc,hn,hin,hat,h=>by
  obtain⟨n1,n2⟩:=List.nodup_cons.1 hn
  obtain⟨c',e,hc',ho⟩:=Yt hf ih ha hb hc (hin nm (by simp)) (hat nm (by simp))
  rw[List.flatMap_cons,yc _ _ e]
  refine Qe hf ih ha hb ns hc' n2 (λk hk=>hin k (List.mem_cons_of_mem _ hk)) (λk hk=>?_) λk hk=>?_
  ·have:k≠nm:=λe=>n1 (e ▸ hk)
   rw[ho,if_neg this];exact hat k (List.mem_cons_of_mem _ hk)
  ·rw[ho]
   split
   ·rename_i e;rw[e]
   ·rename_i e
    exact h k λhm=>by
     rcases List.mem_cons.1 hm with e2 | hm
     ·exact e e2
     ·exact hk hm
end Lp
namespace Lp
open Go
open List (append_assoc drop_eq_nil_of_le map_nil nil_append)
def SQ(R:List Int)(k:Nat):Bool:=R.any λy=>decide ((k:Int)=y)
def yg(R:List Int):Nat→List Vl→List Vl
 | _,[]=>[]
 | k,x::l=>if SQ R k then x::yg R (k+1) l else yg R (k+1) l
theorem Ec{R:List Int}:∀(l:List Vl) (k:Nat) (x:Vl),x∈yg R k l→x∈l
 | [],_,_,h=>h
 | y::l,k,x,h=>by
  rw[yg]at h
  split at h
  ·rcases List.mem_cons.1 h with rfl | h
   ·simp
   ·exact List.mem_cons_of_mem _ (Ec l _ x h)
  ·exact List.mem_cons_of_mem _ (Ec l _ x h)
theorem Yu{l:List Vl}{i:Nat}(hl:∀p∈l,Rt p)(hi:i<l.length)(h6:i≤1000000):dY (dQ l) [⟨2,[⟨true,[],i⟩],[]⟩]=(dQ (l.take i++l.drop (i+1)),0):=by
 have hq:jO [⟨true,[],(i:Int)⟩]:=jO.snoc (p:=[]) (jO.mk (λs h=>by cases h) (λs h=>by cases h)) (qa h6) (by simp)
 have hr:=(vP hq (by simp) (by simp)).1
 have hin:eZ (dQ l) ⟨true,[],i⟩ ⟨2,[⟨true,[],i⟩],[]⟩=(dQ (l.take i++l.drop (i+1)),0):=by
  rw[eZ,if_pos rfl,gF,if_pos (show aO (dQ l)=5 from rfl),if_neg (show ¬ ((2:Int)=1) by decide),kC hl,if_neg (by simp only[Int.toNat_natCast];omega)]
  simp only[Int.toNat_natCast]
 have:=FN hr (by decide) (by rw[hin])
 rw[hin]at this
 exact za this
theorem aae{l:List Vl}{i:Nat}{x:Vl}(hl:∀p∈l,Rt p)(hx:eG x)(hi:i≤l.length)(h6:i≤1000000):dY (dQ l) [⟨1,[⟨true,[],i⟩],x⟩]=(dQ (l.take i++[x]++l.drop i),0):=by
 have hq:jO [⟨true,[],(i:Int)⟩]:=jO.snoc (p:=[]) (jO.mk (λs h=>by cases h) (λs h=>by cases h)) (qa h6) (by simp)
 have hr:=(y9 hq (by simp) (by simp) hx).1
 have hin:eZ (dQ l) ⟨true,[],i⟩ ⟨1,[⟨true,[],i⟩],x⟩=(dQ (l.take i++[x]++l.drop i),0):=by
  rw[eZ,if_pos rfl,gF,if_pos (show aO (dQ l)=5 from rfl),if_pos rfl,kC hl,if_neg (by simp only[Int.toNat_natCast];omega)]
  simp only[Int.toNat_natCast]
 have:=FN hr (by decide) (by rw[hin])
 rw[hin]at this
 exact za this
theorem KZ{old:List Vl}{R:List Int}(ho:∀p∈old,Rt p)(hl:old.length≤1000000):∀k,k≤old.length→dY (dQ old) (iy [] old.length R k)=(dQ (old.take (old.length-k)++yg R (old.length-k) (old.drop (old.length-k))),0)
 | 0,_=>by
  simp only[iy,List.range_zero,map_nil,List.flatMap_nil,Nat.sub_zero,List.take_length,List.drop_length,yg,List.append_nil];rfl
 | k+1,h=>by
  rw[rM,yc _ _ (KZ ho hl k (by omega))]
  obtain⟨i,hi⟩:∃i,old.length-k=i+1:=⟨old.length-k-1,by omega⟩
  have hi':old.length-(k+1)=i:=by omega
  have hi2:old.length-1-k=i:=by omega
  rw[hi,hi',hi2]
  have hil:i<old.length:=by omega
  have hd:=List.drop_eq_getElem_cons hil
  have ht:old.take (i+1)=old.take i++[old[i]]:=by rw[List.take_add_one,List.getElem?_eq_getElem hil];rfl
  have hkm:∀p∈old.take i++[old[i]]++yg R (i+1) (old.drop (i+1)),Rt p:=λp hp=>by
   rw[←ht]at hp
   rcases List.mem_append.1 hp with hp | hp
   ·exact ho p (List.mem_of_mem_take hp)
   ·exact ho p (List.mem_of_mem_drop (Ec _ _ _ hp))
  rw[hd,yg,ht]
  have hb:SQ R i=R.any λy=>decide ((i:Int)=y):=rfl
  split
  ·rename_i h1
   rw[←hb]at h1
   rw[if_pos h1,dY,append_assoc];rfl
  ·rename_i h1
   rw[←hb]at h1
   rw[if_neg h1]
   have htl:(old.take i).length=i:=by rw[List.length_take];omega
   have:=Yu (i:=i) hkm (by simp only[List.length_append,htl,List.length_cons,List.length_nil];omega) (by omega)
   rw[append_assoc]at this ⊢
   rw[List.take_append_of_le_length (by omega),List.take_of_length_le (show (old.take i).length≤i by omega),List.drop_append,htl,show i+1-i=1 by omega,drop_eq_nil_of_le (show (old.take i).length≤i+1 by omega),nil_append]at this
   exact this
theorem aaf{R:List Int}{n m:Nat}(h:DY R n m):R.Pairwise λu v=>0≤u→0≤v→u<v:=by
 rw[List.pairwise_iff_getElem]
 intro i j hi hj hij hu hv
 exact h.up i j _ _ hij (List.getElem?_eq_getElem hi) (List.getElem?_eq_getElem hj) hu hv
theorem TY{k:Nat}:∀(R:List Int),(R.Pairwise λu v=>0≤u→0≤v→u<v)→R.filter (λu=>decide ((k:Int)≤u))=if SQ R k then (k:Int)::R.filter (λu=>decide (((k+1:Nat):Int)≤u)) else R.filter (λu=>decide (((k+1:Nat):Int)≤u))
 | [],_=>rfl
 | x::R,h=>by
  obtain⟨h1,h2⟩:=List.pairwise_cons.1 h
  have ih:=TY (k:=k) R h2
  have hin:SQ (x::R) k=(decide ((k:Int)=x) || SQ R k):=rfl
  rw[hin]
  rcases Int.lt_trichotomy x k with hx | hx | hx
  ·rw[List.filter_cons_of_neg (by simpa using hx),List.filter_cons_of_neg (by simp;omega),ih,show decide ((k:Int)=x)=false by simp;omega,Bool.false_or]
  ·subst hx
   rw[List.filter_cons_of_pos (by simp),List.filter_cons_of_neg (by simp;omega),show decide ((k:Int)=k)=true by simp,Bool.true_or,if_pos rfl]
   congr 1
   refine List.filter_congr λy hy=>?_
   have:=h1 y hy
   congr 1
   apply propext
   constructor
   ·intro h3;have:=this (by omega) (by omega);omega
   ·intro h3;omega
  ·have hno:SQ R k=false:=by
     rw[SQ,List.any_eq_false]
     intro y hy
     have:=h1 y hy
     simp only[decide_eq_true_eq]
     intro e;subst e
     have:=this (by omega) (by omega);omega
   rw[hno]at ih
   rw[List.filter_cons_of_pos (by simp;omega),List.filter_cons_of_pos (by simp;omega),ih,show decide ((k:Int)=x)=false by simp;omega,hno]
   simp
theorem T9{R:List Int}{old:List Vl}(hp:R.Pairwise λu v=>0≤u→0≤v→u<v)(hin:∀u∈R,u<old.length):∀(m k:Nat),k+m=old.length→yg R k (old.drop k)=(R.filter λu=>decide ((k:Int)≤u)).map λu=>old.getD u.toNat []
 | 0,k,h=>by
  rw[drop_eq_nil_of_le (by omega),yg]
  have:R.filter (λu=>decide ((k:Int)≤u))=[]:=by
   rw[List.filter_eq_nil_iff]
   intro u hu
   have:=hin u hu
   simp;omega
  rw[this];rfl
 | m+1,k,h=>by
  have hk:k<old.length:=by omega
  rw[List.drop_eq_getElem_cons hk,yg,TY R hp,T9 hp hin m (k+1) (by omega)]
  split
  ·rw[List.map_cons]
   congr 1
   rw[Int.toNat_natCast,List.getD_eq_getElem?_getD,List.getElem?_eq_getElem hk];rfl
  ·rfl
def tY(old:List Vl)(R:List Int):List Vl:=(R.filter λu=>decide (0≤u)).map λu=>old.getD u.toNat []
theorem Qf{f:Nat}(hf:f+1≤20)(ih:∀x y:Vl,eG x→eG y→dY x (aH f [] x y)=(y,0)){old now:List Vl}(ho:∀p∈old,eG p)(hn:∀p∈now,eG p)(hnl:now.length≤1000000) :
  ∀i,i≤now.length→dY (dQ (tY old (fD old now))) (l5 (aH f) [] old now (fD old now) i)=(dQ (now.take i++tY old ((fD old now).drop i)),0)
 | 0,_=>by
  simp only[l5,List.range_zero,List.flatMap_nil,List.take_zero,nil_append,List.drop_zero];rfl
 | i+1,h=>by
  rw[AU,yc _ _ (Qf hf ih ho hn hnl i (by omega))]
  have hil:i<now.length:=by omega
  obtain⟨u,u1,u2,u3,u4⟩:=Qc old now hil
  have hdr:(fD old now).drop i=u::(fD old now).drop (i+1):=by
   obtain⟨h1,h2⟩:=List.getElem?_eq_some_iff.1 u1
   rw[List.drop_eq_getElem_cons h1,h2]
  have htn:now.take (i+1)=now.take i++[now.getD i []]:=by
   rw[List.take_add_one,List.getElem?_eq_getElem hil,List.getD_eq_getElem?_getD,List.getElem?_eq_getElem hil];rfl
  have acd:=hn _ (tX hil)
  have htl:(now.take i).length=i:=by rw[List.length_take];omega
  have hin:∀z∈(fD old now).drop (i+1),-1≤z∧z<(old.length:Int):=λz hz=>xO old now z (List.mem_of_mem_drop hz)
  have QN:∀p∈tY old ((fD old now).drop (i+1)),eG p:=λp hp=>by
   obtain⟨z,hz,rfl⟩:=List.mem_map.1 hp
   obtain⟨z1,z2⟩:=List.mem_filter.1 hz
   have:=of_decide_eq_true z2
   exact ho _ (tX (by have:=(hin z z1).2;omega))
  have hq:jO [⟨true,[],(i:Int)⟩]:=jO.snoc (p:=[]) (jO.mk (λs h=>by cases h) (λs h=>by cases h)) (qa (by omega)) (by simp)
  rw[hdr,htn,AR,u2]
  by_cases hu:0≤u
  ·rw[if_pos hu]
   have hold:=ho _ (tX (show u.toNat<old.length by omega))
   have ht:tY old (u::(fD old now).drop (i+1))=old.getD u.toNat []::tY old ((fD old now).drop (i+1)):=by
    rw[tY,List.filter_cons_of_pos (by simpa using hu)];rfl
   rw[ht]
   generalize tY old ((fD old now).drop (i+1))=T at *
   generalize old.getD u.toNat []=x at *
   generalize now.getD i []=y at *
   have hall:∀p∈now.take i++x::T,eG p:=λp hp=>by
    rcases List.mem_append.1 hp with hp | hp
    ·exact hn p (List.mem_of_mem_take hp)
    ·rcases List.mem_cons.1 hp with rfl | hp
     ·exact hold
     ·exact QN p hp
   have hrt:∀p∈now.take i++x::T,Rt p:=λp hp=>(hall p hp).rt
   have hat:(now.take i++x::T)[i]?=some x:=by rw[List.getElem?_append_right (by omega),htl,Nat.sub_self];rfl
   have hpart:aP (dQ (now.take i++x::T)) ⟨true,[],i⟩=(x,0):=by
    rw[aP,if_pos rfl,if_pos (show aO (dQ (now.take i++x::T))=5 from rfl),kC hrt,Int.toNat_natCast,hat]
   have hsc:aH f [⟨true,[],(i:Int)⟩] x y=(aH f [] x y).map (pre [⟨true,[],(i:Int)⟩]):=qM f [⟨true,[],(i:Int)⟩] [] _ _
   have hR:=ny f [⟨true,[],(i:Int)⟩] _ _ hold acd hq (by simp;omega)
   rw[hsc]at hR
   have happ:=Ni (qa (show i≤1000000 by omega)) (aH f [] x y) (Bh hrt) (FI λp hp=>(hall p hp).nm) hpart (λe he=>by
    have h1:=hR _ (List.mem_map.2 ⟨e,he,rfl⟩)
    exact⟨h1.1,⟨λs hs=>h1.2.wG s (List.mem_append_right _ hs),h1.2.val⟩⟩) (ih _ _ hold acd)
   show dY (dQ (now.take i++x::T)) (aH f [⟨true,[],(i:Int)⟩] x y)=_
   rw[hsc,happ,mD,if_pos rfl,kC hrt,Int.toNat_natCast,List.set_append_right _ _ (by omega),htl,Nat.sub_self,List.set_cons_zero,append_assoc];rfl
  ·rw[if_neg hu]
   have ht:tY old (u::(fD old now).drop (i+1))=tY old ((fD old now).drop (i+1)):=by
    rw[tY,List.filter_cons_of_neg (by simpa using hu)];rfl
   rw[ht]
   generalize tY old ((fD old now).drop (i+1))=T at *
   generalize now.getD i []=y at *
   have hrt:∀p∈now.take i++T,Rt p:=λp hp=>by
    rcases List.mem_append.1 hp with hp | hp
    ·exact (hn p (List.mem_of_mem_take hp)).rt
    ·exact (QN p hp).rt
   have:=aae (i:=i) hrt acd (by rw[List.length_append,htl];omega) (by omega)
   rw[List.take_append_of_le_length (by omega),List.take_of_length_le (show (now.take i).length≤i by omega),List.drop_append,htl,Nat.sub_self,drop_eq_nil_of_le (show (now.take i).length≤i by omega),nil_append]at this
   exact this
theorem VU{f:Nat}(hf:f+1≤20)(ih:∀x y:Vl,eG x→eG y→dY x (aH f [] x y)=(y,0)){a b:Vl}(ha:eG a)(hb:eG b)(ka:aO a=5)(kb:aO b=5) :
  dY a (m_ (aH f) [] (ax a) (ax b))=(b,0):=by
 have f1:=bK ha.rt
 have f2:=bK hb.rt
 have l1:=ha.len
 have l2:=hb.len
 have la:∀{v:Vl},Rt v→aO v=5→dQ (ax v)=v:=λ{v} hr hk=>by
  obtain⟨n,r,rfl,_⟩:=bO hr.name hr.one.ne
  exact wD hr hk
 have hd:=KZ (old:=ax a) (R:=fD (ax a) (ax b)) (λp hp=>(ha.part hp).rt) (by omega) (ax a).length (Nat.le_refl _)
 rw[Nat.sub_self,List.take_zero,nil_append,T9 (aaf (Ig _ _)) (λu hu=>(xO _ _ u hu).2) (ax a).length 0 (by omega),la ha.rt ka]at hd
 have hs:=Qf hf ih (old:=ax a) (now:=ax b) (λp hp=>ha.part hp) (λp hp=>hb.part hp) (by omega) (ax b).length (Nat.le_refl _)
 rw[List.take_length,drop_eq_nil_of_le (by rw[yV];omega)]at hs
 unfold m_
 rw[lM,yc _ _ hd]
 have e0:(((0:Nat):Int))=0:=rfl
 rw[e0]
 show dY (dQ (tY (ax a) (fD (ax a) (ax b)))) (l5 (aH f) [] (ax a) (ax b) (fD (ax a) (ax b)) (ax b).length)=_
 rw[hs]
 simp only[tY,List.filter_nil,map_nil,List.append_nil]
 rw[la hb.rt kb]
theorem Ba:∀f,f≤20→∀a b:Vl,eG a→eG b→dY a (aH f [] a b)=(b,0)
 | 0,_,a,b,ha,hb=>by
  unfold aH
  split
  ·rename_i h;rw[h];rfl
  ·exact za (one_set (set_right (jO.mk (λs h=>by cases h) (λs h=>by cases h)) (by simp) hb).1)
 | f+1,hf,a,b,ha,hb=>by
  have ih:=Ba f (by omega)
  unfold aH
  split
  ·rename_i h;rw[h];rfl
  split
  ·rename_i hk
   have hn:=vE (l6 ha.rt hk.1) (l6 hb.rt hk.2)
   refine Qe (a:=a) (b:=b) hf ih ⟨ha,hk.1⟩ ⟨hb,hk.2⟩ (oh a b) ⟨ha.rt,ha.nm,hk.1⟩ hn (λnm h=>h) (λnm h=>rfl) λnm h=>?_
   rw[lN]at h
   have h1:dS a nm=false:=by
    cases hh:dS a nm with
    | false=>rfl
    | true=>exact absurd (.inl ((oC ha.rt hk.1 nm).1 hh)) h
   have h2:dS b nm=false:=by
    cases hh:dS b nm with
    | false=>rfl
    | true=>exact absurd (.inr ((oC hb.rt hk.2 nm).1 hh)) h
   rw[CS h1,CS h2]
  split
  ·rename_i hk
   exact VU hf ih ha hb hk.1 hk.2
  ·exact za (one_set (set_right (jO.mk (λs h=>by cases h) (λs h=>by cases h)) (by simp) hb).1)
end Lp
namespace Lp
open Go Go.Proofs
open List (mem_singleton)
theorem T_{v p:Vl}(h:Rt v)(hp:p∈ax v):p.length≤v.length:=Nat.le_of_lt (cZ h hp).2
theorem yh:∀(f:Nat) (p:List Stp) (a b:Vl),Rt b→∀e∈aH f p a b,e.v.length≤b.length
 | 0,p,a,b,hb,e,h=>by
  unfold aH at h
  split at h
  ·cases h
  ·simp only[mem_singleton]at h;subst h;exact Nat.le_refl _
 | f+1,p,a,b,hb,e,h=>by
  unfold aH at h
  split at h
  ·cases h
  split at h
  ·rename_i hk
   obtain⟨nm,_,h⟩:=List.mem_flatMap.1 h
   unfold nJ at h
   split at h
   ·rename_i h1
    have hm:=tV hb hk.2 h1
    have hl:=T_ hb hm
    split at h
    ·have:=yh f _ _ _ (cZ hb hm).1 e h;omega
    ·simp only[mem_singleton]at h;subst h;exact hl
   ·simp only[mem_singleton]at h;subst h;exact Nat.zero_le _
  split at h
  ·unfold m_ at h
   rcases List.mem_append.1 h with h | h
   ·unfold lM iy at h
    obtain⟨k,_,h⟩:=List.mem_flatMap.1 h
    split at h
    ·cases h
    ·simp only[mem_singleton]at h;subst h;exact Nat.zero_le _
   ·obtain⟨i,hi,h⟩:=List.mem_flatMap.1 h
    rw[List.mem_range]at hi
    have hm:=tX hi
    have hl:=T_ hb hm
    unfold AR at h
    split at h
    ·have:=yh f _ _ _ (cZ hb hm).1 e h;omega
    ·simp only[mem_singleton]at h;subst h;exact hl
  ·simp only[mem_singleton]at h;subst h;exact Nat.le_refl _
theorem Ua{a b:Vl}(ha:eG a)(hb:eG b)(la:a.length≤60)(lb:b.length≤60):oK a (iW a b)∧dY a (iW a b)=(b,0):=by
 have hl:=vF 20 [] a b ha.rt hb.rt
 have hR:=ny 20 [] a b ha hb (jO.mk (λs h=>by cases h) (λs h=>by cases h)) (by simp)
 have hv:=yh 20 [] a b hb.rt
 refine⟨⟨ha.rt,ha.nm,?_,λe he=>?_,by unfold iW;omega⟩,Ba 20 (by omega) a b ha hb⟩
 ·have:=Eb (f:=λe:Ed=>e.v.length) (k:=b.length) hv
  have h1:=Nat.mul_le_mul_right (aH 20 [] a b).length lb
  unfold iW;omega
 ·obtain⟨h1,h2⟩:=hR e he
  have h3:=hv e he
  have h4:=(ng h1).2.1
  exact⟨⟨⟨by omega,h2.wG⟩,Ym (by omega) h2.val⟩,by omega,h2.val⟩
theorem VW(a:Vl):iW a a=[]:=by
 unfold iW aH
 rw[if_pos rfl]
theorem VX{a b:Vl}(ha:eG a)(hb:eG b)(h:iW a b=[]):a=b:=by
 have:=Ba 20 (by omega) a b ha hb
 rw[show aH 20 [] a b=[] from h,dY]at this
 cases this;rfl
theorem eG.YJ {v:Vl}(h:eG v):t_ v:=⟨h.rt,h.len,λn hn=>(h.nm n hn).2⟩
theorem IC{v:Vl}(h:rQ v 60=true):eG v∧v.length≤60:=by
 obtain⟨h1,h2⟩:=AL h
 exact⟨⟨h1,Ng h,by omega⟩,h2⟩
theorem Ff(a b:Vl)(hA:Big a)(hB:Big b):av Tryz.prog 5 [aj a,aj b] [] (.bool true) []:=by
 have t60:Int.toNat 60=60:=rfl
 have hal:=hA.len
 have hbl:=hB.len
 refine tQ.bY (T:=bg Tryz.prog [(9,qK),(8,kV),(11,pM),(14,nk),(16,kK)]) 0 hD (ay (af r9 (af Dz (af AY (af xY (af uU ak)))))) bC (by decide) λQ hQ=>?_
 (conv=>arg 4;cbv);simp (maxSteps:=400000) only[↓aA,aB,BEq.rfl,seval,hQ]
 cases fa:rQ a 60
 ·simp (maxSteps:=400000) only[↓aA,aB,BEq.rfl,seval,hQ,↓b_,↓kV,t60,fa]
  repeat' (first | omega | exact hA.txt | refine⟨?_,?_⟩)
 cases fb:rQ b 60
 ·simp (maxSteps:=400000) only[↓aA,aB,BEq.rfl,seval,hQ,↓b_,↓kV,t60,fa,fb]
  repeat' (first | omega | exact hA.txt | exact hB.txt | refine⟨?_,?_⟩)
 obtain⟨ga,la⟩:=IC fa
 obtain⟨gb,lb⟩:=IC fb
 obtain⟨o1,e1⟩:=Ua ga gb la lb
 obtain⟨o2,e2⟩:=Ua gb ga lb la
 rcases tf (((iW a b).length:Int)=0) with h | h
 ·have h0:iW a b=[]:=List.length_eq_zero_iff.1 (by have:=of_eq_true h;omega)
  have hab:=eq_true (VX ga gb h0)
  simp (maxSteps:=400000) only[↓aA,aB,BEq.rfl,seval,hQ,↓b_,↓kV,↓pM,↓nk,↓kK,t60,fa,fb,fo,e1,e2,h,hab]
  exact⟨by omega,hA.txt,by omega,hB.txt,ga.YJ,gb.YJ,o1,gb.YJ,ga.YJ,o2,by omega,by omega,by omega,by omega,by omega,by omega⟩
 ·have hab:(a=b)=False:=eq_false λe=>by subst e;rw[VW]at h;exact of_eq_false h rfl
  simp (maxSteps:=400000) only[↓aA,aB,BEq.rfl,seval,hQ,↓b_,↓kV,↓pM,↓nk,↓kK,t60,fa,fb,fo,e1,e2,h,hab]
  exact⟨by omega,hA.txt,by omega,hB.txt,ga.YJ,gb.YJ,o1,gb.YJ,ga.YJ,o2,by omega,by omega,by omega,by omega,by omega,by omega⟩
end Lp
namespace Lp
open Go Go.Proofs
theorem V7(a b:Vl)(hA:Big a)(hB:Big b):av Tryz.prog 5 [aj a,aj b] [] (.bool true) []:=Ff a b hA hB
end Lp
namespace Lp
open Go
theorem Ub:∀(p:List Stp) (v x:Vl),Rt v→Nm v→(∀s∈p,aS s=true)→Rt x→Nm x→(bV p v).2=0→bV p (dK p v x).1=(x,0)
 | [],_,_,_,_,_,_,_,_=>rfl
 | s::p,v,x,hr,hn,hp,hx,hxn,h=>by
  rw[bV]at h
  by_cases h0:(aP v s).2=0
  ·rw[if_pos h0]at h
   obtain⟨a1,a2,a3⟩:=qH hr hn h0
   have hs':(dK p (aP v s).1 x).2=0:=by rw[CG];exact h
   obtain⟨b1,b2,b3⟩:=rO p _ x a1 a3 (λs' hs=>hp s' (List.mem_cons_of_mem _ hs)) hx hxn hs'
   have ih:=Ub p _ x a1 a3 (λs' hs=>hp s' (List.mem_cons_of_mem _ hs)) hx hxn h
   have hpp:=Qb hr h0 (hp s (by simp)) b1
   rw[dK,if_pos h0,if_pos hs']
   simp only
   rw[bV,hpp,if_pos rfl]
   exact ih
  ·rw[if_neg h0]at h;exact absurd h h0
theorem flatMap_one{α β:Type}{f:α→List β}{x:α}:∀{l:List α},l.Nodup→x∈l→(∀y∈l,y≠x→f y=[])→l.flatMap f=f x
 | [],_,h,_=>by cases h
 | y::l,hn,h,h0=>by
  obtain⟨n1,n2⟩:=List.nodup_cons.1 hn
  rw[List.flatMap_cons]
  rcases List.mem_cons.1 h with rfl | h
  ·have:l.flatMap f=[]:=by
     rw[List.flatMap_eq_nil_iff]
     intro z hz
     exact h0 z (List.mem_cons_of_mem _ hz) λe=>n1 (e ▸ hz)
   rw[this,List.append_nil]
  ·have hy:f y=[]:=h0 y (by simp) λe=>n1 (e ▸ h)
   rw[hy,List.nil_append]
   exact flatMap_one n2 h λz hz=>h0 z (List.mem_cons_of_mem _ hz)
theorem Qg(f:Nat)(p:List Stp)(a:Vl):aH f p a a=[]:=by
 cases f<;> (unfold aH;rw[if_pos rfl])
theorem K3:∀(p:List Stp) (f:Nat) (v x:Vl),p.length≤f→Rt v→Nm v→(∀s∈p,aS s=true∧s.part=false)→Rt x→Nm x→(bV p v).2=0→aO (bV p v).1<5→(bV p v).1≠x→
  aH f [] v (dK p v x).1=[⟨0,p,x⟩]
 | [],f,v,x,_,_,_,_,_,_,_,hk,hne=>by
  have h1:¬ v=x:=hne
  have h2:aO v<5:=hk
  cases f with
  | zero=>unfold aH;show (if v=x then [] else _)=_;rw[if_neg h1];rfl
  | succ f=>
   unfold aH
   show (if v=x then [] else _)=_
   rw[if_neg h1,if_neg (by omega),if_neg (by omega)];rfl
 | s::p,0,v,x,hl,_,_,_,_,_,_,_,_=>by simp at hl
 | s::p,f+1,v,x,hl,hr,hn,hp,hx,hxn,h,hk,hne=>by
  obtain⟨s1,s2⟩:=hp s (by simp)
  have hpr:∀s'∈s::p,aS s'=true:=λs' hs=>(hp s' hs).1
  have hgs:=Ub (s::p) v x hr hn hpr hx hxn h
  have hvw:¬ v=(dK (s::p) v x).1:=λe=>by
   rw[←e]at hgs
   rw[hgs]at hne
   exact hne rfl
  rw[bV]at h hk hne
  by_cases h0:(aP v s).2=0
  ·rw[if_pos h0]at h hk hne
   obtain⟨a1,a2,a3⟩:=qH hr hn h0
   have hp':∀s'∈p,aS s'=true∧s'.part=false:=λs' hs=>hp s' (List.mem_cons_of_mem _ hs)
   have hs':(dK p (aP v s).1 x).2=0:=by rw[CG];exact h
   obtain⟨b1,b2,b3⟩:=rO p _ x a1 a3 (λs' hs=>(hp' s' hs).1) hx hxn hs'
   have ih:=K3 p f _ x (by simpa using hl) a1 a3 hp' hx hxn h hk hne
   have e1:(dK (s::p) v x).1=mD v s (dK p (aP v s).1 x).1:=by rw[dK,if_pos h0,if_pos hs']
   rw[e1]at hvw ⊢
   generalize (dK p (aP v s).1 x).1=y at *
   have hsn:s.n=0∧utf s.name=true:=by
    unfold aS at s1
    rw[if_neg (by rw[s2];simp),Bool.and_eq_true,decide_eq_true_eq]at s1
    exact s1
   have es:s=⟨false,s.name,0⟩:=by
    obtain⟨pt,nm,n⟩:=s
    simp only at s2 hsn
    rw[s2,hsn.1]
   have hkv:aO v=6∧fM v s.name=some (aP v s).1:=by
    unfold aP at h0 ⊢
    rw[if_neg (by rw[s2];simp)]at h0 ⊢
    by_cases hk:aO v=6
    ·rw[if_pos hk]at h0 ⊢
     cases hg:fM v s.name with
     | none=>rw[hg]at h0;cases h0
     | some w=>exact⟨hk,rfl⟩
    ·rw[if_neg hk]at h0;cases h0
   obtain⟨k6,ho⟩:=hkv
   generalize (aP v s).1=w0 at *
   have ep:mD v s y=gL v s.name y:=by rw[mD,if_neg (by rw[s2];simp)]
   rw[ep]at hvw ⊢
   obtain⟨f1,f2,_,_,_⟩:=j_ s.name hr k6 hsn.2 b1
   have how:=IB (x:=y) hr k6 hsn.2 b1
   have ace:∀k,dS (gL v s.name y) k=dS v k:=λk=>by
    unfold dS
    rw[how]
    split
    ·rename_i e;rw[e,ho];rfl
    ·rfl
   have hin:s.name∈aK v:=(oC hr k6 _).1 (by simp[dS,ho])
   have hnd:=vE (l6 hr k6) (l6 f1 f2)
   unfold aH
   rw[if_neg hvw,if_pos ⟨k6,f2⟩]
   rw[flatMap_one hnd (lN.2 (.inl hin)) λnm hm hne=>?_]
   ·unfold nJ
    have hv1:dS v s.name=true:=by simp[dS,ho]
    have g1:bH v s.name=w0:=by simp[bH,ho]
    have g2:bH (gL v s.name y) s.name=y:=by simp[bH,how]
    rw[ace,hv1,if_pos rfl,if_pos rfl,g1,g2]
    have:aH f ([]++[⟨false,s.name,0⟩]) w0 y=(aH f [] w0 y).map (pre [⟨false,s.name,0⟩]):=qM f [⟨false,s.name,0⟩] [] _ _
    rw[this,ih]
    show [(⟨0,⟨false,s.name,0⟩::p,x⟩:Ed)]=_
    rw[←es]
   ·have hh:dS v nm=true:=by
      rcases lN.1 hm with h | h
      ·exact (oC hr k6 nm).2 h
      ·rw[←ace];exact (oC f1 f2 nm).2 h
    have ef:bH (gL v s.name y) nm=bH v nm:=by
     unfold bH;rw[how,if_neg hne]
    unfold nJ
    rw[ace,hh,if_pos rfl,if_pos rfl,ef,Qg]
  ·rw[if_neg h0]at h;exact absurd h h0
end Lp
namespace Lp
open Go Go.Proofs
theorem Yv(a b:Stp):IQ Tryz.prog 43 (encS a).cells (encS b).cells:=
 Ty (by kernel_rfl) (by kernel_rfl) (by kernel_rfl) (by
  have h:(Tryz.prog.fieldsOf 43).toList.map (λf=>(f.name != "_",f.offset,Tryz.prog.underlying f.type))=[(true,0,some .bool),(true,1,some .string),(true,2,some (.int .i64))]:=by kernel_rfl
  generalize (Tryz.prog.fieldsOf 43).toList=fs at h
  obtain _ | ⟨f0,_ | ⟨f1,_ | ⟨f2,_ | ⟨f3,fr⟩⟩⟩⟩:=fs
  all_goals simp only[List.map_cons,List.map_nil,List.cons.injEq,Prod.mk.injEq,and_true,reduceCtorEq,and_false]at h
  obtain⟨⟨a0,b0,c0⟩,⟨a1,b1,c1⟩,⟨a2,b2,c2⟩⟩:=h
  simp only[LY,Xm,encS,PV.cells,a0,b0,c0,a1,b1,c1,a2,b2,c2,Bool.and_true,BEq.rfl,decide_true,Nat.zero_add,Nat.reduceAdd])
theorem aa2(a b:Stp):La (encS a).cells (encS b).cells=some (decide (a=b)):=by
 cases a;cases b
 simp only[encS,PV.cells,La,eqS,if_true,Bool.and_true,Stp.mk.injEq,Option.some.injEq]
 rw[Bool.eq_iff_iff]
 simp
theorem Yw(ti:aC)(K:PV→Prop) :
  (∀a b,oM Tryz.prog ti 43 .eql (encS a) (encS b) K=K (.bool (decide (a=b))))∧
  (∀a b,oM Tryz.prog ti 43 .neq (encS a) (encS b) K=K (.bool (!decide (a=b)))):=by
 refine⟨λa b=>?_,λa b=>?_⟩
 ·show (IQ Tryz.prog 43 (encS a).cells (encS b).cells∧∃r,La (encS a).cells (encS b).cells=some r∧K (.bool r))=_
  rw[aa2];simp[Yv]
 ·show (IQ Tryz.prog 43 (encS a).cells (encS b).cells∧∃r,La (encS a).cells (encS b).cells=some r∧K (.bool (!r)))=_
  rw[aa2];simp[Yv]
def Bb(p q:List Stp):Bool:=(p.zip q).any λx=>!decide (x.1=x.2)
theorem acf{α β:Type}{p:List α}{q:List β}{i:Nat}{a:α}{b:β}(h1:p[i]?=some a)(h2:q[i]?=some b):(p.zip q)[i]?=some (a,b):=by
 simp[List.getElem?_zip_eq_some,h1,h2]
theorem apart_spec(p q:List Stp)(hp:p.length≤1152921504606846976)(hq:q.length≤1152921504606846976):av Tryz.prog 42 [bf p,bf q] [] (.bool (Bb p q)) []:=by
 refine A8.bY (T:=bg Tryz.prog []) 0 hD (ay ak) bC (by decide) λQ hQ=>?_
 (conv=>arg 4;cbv);simp (maxSteps:=400000) only[↓aA,aB,BEq.rfl,seval,hQ]
 refine aU (λm S=>∃i:Nat,i+m=p.length∧((p.zip q).take i).any (λx=>!decide (x.1=x.2))=false∧S=⟨dR 27 [(0,bf p),(1,bf q),(5,.int .i64 i)],[]⟩) p.length ⟨0,by omega,by simp,?_⟩ ?_
 ·simp only[dw,keepR,Nat.reduceAdd,pX,Nat.reduceBEq,List.map_nil]
  rfl
 rintro m S ⟨i,him,hb,rfl⟩
 have zi:(0≤(i:Int))=True:=eq_true (by omega)
 have hend:p.length≤i∨q.length≤i→Bb p q=false:=λh=>by
  have:(p.zip q).take i=p.zip q:=List.take_of_length_le (by rw[List.length_zip];omega)
  rw[this]at hb
  exact hb
 rcases Nat.lt_or_ge i p.length with h | h
 rotate_left 1
 ·have hlt:((i:Int)<(p.length:Int))=False:=eq_false (by omega)
  have hr:=hend (.inl h)
  simp (maxSteps:=400000) only[↓aA,aB,BEq.rfl,seval,hQ,hlt,hr]
 have hlt:((i:Int)<(p.length:Int))=True:=eq_true (by omega)
 rcases Nat.lt_or_ge i q.length with h2 | h2
 rotate_left 1
 ·have hlt2:((i:Int)<(q.length:Int))=False:=eq_false (by omega)
  have hr:=hend (.inr h2)
  simp (maxSteps:=400000) only[↓aA,aB,BEq.rfl,seval,hQ,hlt,hlt2,hr]
 have hlt2:((i:Int)<(q.length:Int))=True:=eq_true (by omega)
 have Qt:=List.getElem?_eq_getElem h
 have hgq:=List.getElem?_eq_getElem h2
 generalize p[i]=a at Qt
 generalize q[i]=b at hgq
 have hz:=acf Qt hgq
 have htk:(p.zip q).take (i+1)=(p.zip q).take i++[(a,b)]:=by rw[List.take_add_one,hz];rfl
 rcases tf (a=b) with he | he
 ·simp (maxSteps:=400000) only[↓aA,aB,BEq.rfl,seval,hQ,hlt,hlt2,zi,Qt,hgq,Yw,he]
  refine⟨⟨by omega,by omega⟩,m-1,by omega,i+1,by omega,?_,by simp⟩
  rw[htk,List.any_append,hb];simp[of_eq_true he]
 ·have hr:Bb p q=true:=List.any_eq_true.2 ⟨(a,b),List.mem_of_getElem? hz,by simp[of_eq_false he]⟩
  simp (maxSteps:=400000) only[↓aA,aB,BEq.rfl,seval,hQ,hlt,hlt2,zi,Qt,hgq,Yw,he,hr]
def CU:eX:=λargs objs K=>match args with
 | [a0,a1]=>gy bf a0 (HK.mk:HK λp=>gy bf a1 (HK.mk:HK λq=>(p.length≤1152921504606846976)∧(q.length≤1152921504606846976)∧K (.bool (Bb p q)) objs 0))
 | _=>False
theorem Qh:aQ Tryz.prog 42 (CU):=by
 intro args objs K h
 unfold CU at h
 split at h
 ·rename_i a0 a1
  obtain⟨p,rfl,q,rfl,h1,h2,hk⟩:=h
  exact⟨_,_,_,.pure _ rfl (apart_spec p q h1 h2),hk⟩
 ·exact h.elim
theorem apart_eq:∀{p q:List Stp},p.length=q.length→(!Bb p q)=decide (p=q)
 | [],[],_=>rfl
 | [],_::_,h=>by simp at h
 | _::_,[],h=>by simp at h
 | a::p,b::q,h=>by
  have ih:=apart_eq (p:=p) (q:=q) (by simpa using h)
  have:Bb (a::p) (b::q)=(!decide (a=b) || Bb p q):=rfl
  rw[this,Bool.not_or,ih,Bool.not_not]
  by_cases h1:a=b<;>simp[h1]
theorem Qi(p q:List Stp)(hp:p.length≤1152921504606846976)(hq:q.length≤1152921504606846976):av Tryz.prog 23 [bf p,bf q] [] (.bool (decide (p=q))) []:=by
 refine CQ.bY (T:=bg Tryz.prog [(42,CU)]) 0 hD (ay (af Qh ak)) bC (by decide) λQ hQ=>?_
 rcases tf ((p.length:Int)=(q.length:Int)) with h | h
 ·have e:=apart_eq (p:=p) (q:=q) (by have:=of_eq_true h;omega)
  (conv=>arg 4;cbv);simp (maxSteps:=400000) only[↓aA,aB,BEq.rfl,seval,hQ,h,↓CU,e]
  exact⟨hp,hq⟩
 ·have e:decide (p=q)=false:=decide_eq_false λe=>by subst e;exact of_eq_false h rfl
  (conv=>arg 4;cbv);simp (maxSteps:=400000) only[↓aA,aB,BEq.rfl,seval,hQ,h,e]
def ze:eX:=λargs objs K=>match args with
 | [a0,a1]=>gy bf a0 (HK.mk:HK λp=>gy bf a1 (HK.mk:HK λq=>(p.length≤1152921504606846976)∧(q.length≤1152921504606846976)∧K (.bool (decide (p=q))) objs 0))
 | _=>False
theorem Nl:aQ Tryz.prog 23 (ze):=by
 intro args objs K h
 unfold ze at h
 split at h
 ·rename_i a0 a1
  obtain⟨p,rfl,q,rfl,h1,h2,hk⟩:=h
  exact⟨_,_,_,.pure _ rfl (Qi p q h1 h2),hk⟩
 ·exact h.elim
end Lp
namespace Lp
open Go Go.Proofs
theorem SS{p:List Stp}{v x:Vl}(hp:fP p=true)(hf:∀s∈p,s.part=false)(gv:eG v)(gx:eG x)(h:(bV p v).2=0)(hk:aO (bV p v).1<5)(hne:(bV p v).1≠x) :
  iW v (dK p v x).1=[⟨0,p,x⟩]:=by
 simp only[fP,Bool.and_eq_true,List.all_eq_true,decide_eq_true_eq]at hp
 exact K3 p 20 v x hp.2 gv.rt gv.nm (λs hs=>⟨hp.1 s hs,hf s hs⟩) gx.rt gx.nm h hk hne
theorem IE(v:Vl)(p:List Stp)(x:Vl)(hv:Big v)(hp:Na p)(hx:Big x)(hpl:p.length≤1152921504606846976):av Tryz.prog 7 [aj v,bf p,aj x] [] (.bool true) []:=by
 have t60:Int.toNat 60=60:=rfl
 have t30:Int.toNat 30=30:=rfl
 have hvl:=hv.len
 have hxl:=hx.len
 refine vN.bY (T:=bg Tryz.prog [(9,qK),(8,kV),(20,eD),(21,gG),(22,kz),(23,ze),(16,kK),(11,pM)]) 0 hD (ay (af r9 (af Dz (af z_ (af l9 (af l_ (af Nl (af uU (af AY ak))))))))) bC (by decide) λQ hQ=>?_
 (conv=>arg 4;cbv);simp (maxSteps:=400000) only[↓aA,aB,BEq.rfl,seval,hQ]
 cases fv:rQ v 60
 ·simp (maxSteps:=400000) only[↓aA,aB,BEq.rfl,seval,hQ,↓b_,↓kV,t60,fv]
  repeat' (first | omega | exact hv.txt | refine⟨?_,?_⟩)
 cases fx:rQ x 30
 ·simp (maxSteps:=400000) only[↓aA,aB,BEq.rfl,seval,hQ,↓b_,↓kV,t60,t30,fv,fx]
  repeat' (first | omega | exact hv.txt | exact hx.txt | refine⟨?_,?_⟩)
 cases hr:fP p
 ·simp (maxSteps:=400000) only[↓aA,aB,BEq.rfl,seval,hQ,↓b_,↓kV,↓eD,t60,t30,fv,fx,hr]
  repeat' (first | omega | exact hv.txt | exact hx.txt | exact hp | refine⟨?_,?_⟩)
 simp (maxSteps:=400000) only[↓aA,aB,BEq.rfl,seval,hQ,↓kV,↓eD,t60,t30,fv,fx,hr]
 refine⟨by omega,hv.txt,by omega,hx.txt,hp,?_⟩
 obtain⟨gv,lv⟩:=IC fv
 have gx:eG x∧x.length≤30:=by
  obtain⟨h1,h2⟩:=AL fx
  exact⟨⟨h1,Ng fx,by omega⟩,h2⟩
 obtain⟨gx,lx⟩:=gx
 have Zv:(∀s∈p,aS s=true)∧p.length≤20:=by
  have:=hr
  simp only[fP,Bool.and_eq_true,List.all_eq_true,decide_eq_true_eq]at this
  exact this
 refine aU (λm S=>∃i:Nat,i+m=p.length∧(∀(j:Nat) s,j<i→p[j]?=some s→s.part=false)∧S=⟨dR 99 [(0,aj v),(1,bf p),(2,aj x),(7,.int .i64 i)],[]⟩) p.length ⟨0,by omega,λj s h=>absurd h (Nat.not_lt_zero j),?_⟩ ?_
 ·simp only[dw,keepR,Nat.reduceAdd,pX,Nat.reduceBEq,List.map_nil]
  rfl
 rintro m S ⟨i,him,hb,rfl⟩
 have zi:(0≤(i:Int))=True:=eq_true (by omega)
 rcases Nat.lt_or_ge i p.length with h | h
 ·have hlt:((i:Int)<(p.length:Int))=True:=eq_true (by omega)
  have hgi:=List.getElem?_eq_getElem h
  generalize p[i]=s at hgi
  cases hs:s.part with
  | true=>
   simp (maxSteps:=400000) only[↓aA,aB,BEq.rfl,seval,hQ,hlt,zi,hgi,hs,↓b_]
  | false=>
   simp (maxSteps:=400000) only[↓aA,aB,BEq.rfl,seval,hQ,hlt,zi,hgi,hs]
   refine⟨⟨by omega,by omega⟩,m-1,by omega,i+1,by omega,λj y hj hy=>?_,by simp⟩
   rcases Nat.lt_or_ge j i with g | g
   ·exact hb j y g hy
   ·have:j=i:=by omega
    subst this
    rw[hgi]at hy;cases hy;exact hs
 have hlt:((i:Int)<(p.length:Int))=False:=eq_false (by omega)
 have hfl:∀s∈p,s.part=false:=λs hs=>by
  obtain⟨j,hj,rfl⟩:=List.mem_iff_getElem.1 hs
  exact hb j _ (by omega) (List.getElem?_eq_getElem hj)
 have hn0:∀s∈p,0≤s.n:=λs hs=>tO (Zv.1 s hs)
 have Yx:p.length≤1000000:=by omega
 by_cases he:(bV p v).2=0
 rotate_left 1
 ·have he':=eq_false he
  simp (maxSteps:=400000) only[↓aA,aB,BEq.rfl,seval,hQ,hlt,↓gG,↓b_,fo,he']
  exact⟨gv.rt,gv.len,Yx,hn0⟩
 have he':=eq_true he
 obtain⟨g1,g2,g3⟩:=CB p v gv.rt gv.nm he
 obtain⟨n,r,hw,_⟩:=bO g1.name g1.one.ne
 have hw0:(bV p v).1[0]?=some n:=by rw[hw];rfl
 have hkd:aO (bV p v).1=n.kind:=by rw[hw];rfl
 rcases tf (5≤n.kind) with hk | hk
 ·simp (maxSteps:=400000) only[↓aA,aB,BEq.rfl,seval,hQ,hlt,↓gG,↓b_,fo,he',hw0,hk]
  exact⟨gv.rt,gv.len,Yx,hn0⟩
 rcases tf ((bV p v).1=x) with hs | hs
 ·simp (maxSteps:=400000) only[↓aA,aB,BEq.rfl,seval,hQ,hlt,↓gG,↓b_,↓kK,fo,he',hw0,hk,hs]
  exact⟨gv.rt,gv.len,Yx,hn0,by omega,by omega⟩
 have hso:vV p v x:=⟨gv.rt,by omega,gv.nm,gx.rt,by omega,gx.nm,Zv.1,Yx⟩
 have hse:(dK p v x).2=0:=by rw[CG];exact he
 obtain⟨b1,b2,b3⟩:=rO p v x gv.rt gv.nm Zv.1 gx.rt gx.nm hse
 have gw:eG (dK p v x).1:=⟨b1,b3,by omega⟩
 have hd:=SS hr hfl gv gx he (by rw[hkd];have:=of_eq_false hk;omega) (of_eq_false hs)
 simp (maxSteps:=400000) only[↓aA,aB,BEq.rfl,seval,hQ,hlt,↓gG,↓kz,↓b_,↓kK,↓ze,↓pM,fo,he',hw0,hk,hs,hd]
 exact⟨gv.rt,gv.len,Yx,hn0,by omega,by omega,hso,gv.YJ,gw.YJ,hpl,hpl,by omega,by omega⟩
end Lp
namespace Lp
open Go Go.Proofs
theorem Yy(v:Vl)(p:List Stp)(x:Vl)(hv:Big v)(hp:aa1 p)(hx:Big x):av Tryz.prog 7 [aj v,bf p,aj x] [] (.bool true) []:=
 IE v p x hv ⟨by have:=hp.len;omega,hp.txt⟩ hx hp.len
end Lp
