/-
  Part 4 of what the statement rests on: LpX, LpUse, LpRes, LpE0, LpTA0, LpC7, LpC8, LpW1, LpW2, LpW3, LpW4, LpW8, LpW14, LpW15, LpW16, LpW17, LpW18, LpW19, LpW20, LpW23, LpW30, LpD1, LpD2, LpV5, LpLay, LpLib, LpD4, LpX1, LpTA1, LpTA2, LpTA3, LpTA3s, LpTA3t, LpTA4, LpW13, LpW5, LpW6, LpW7, LpH8, LpD3, LpH9, LpH20, LpH21, LpH24. No condition.
-/
import Derived.Test.YtgfdogdnlgfcpaaGreatDoorLp3
import Derived.Deep.Slices
import Derived.ChangeShapes
import Derived.SizedLaws
import Derived.Deep.DeepHandedRow
import Derived.JoinedOf
import Derived.Below
import Derived.Carry
import Derived.ChangeOld
import Derived.RowKit
import Derived.OpenShut
import Derived.Lib.ValidLaws
import Derived.Shelf.Strings.FuncGrows
import Derived.Lib.TrimByte
import Derived.Shelf.SlGeneric
import Derived.Ground.NamesProg
import Derived.Ground.Names8Prog
import Derived.Shelf.Strings.Trim
import Derived.Shelf.Sort.Plain
import Derived.Shelf.Slices.In.SortNone
import Derived.Shelf.Unicode.ValidAny
import Derived.Shelf.Spec.SlicesGrow
import Derived.Shelf.Strings.Repeat
import Derived.Test.YtgfdogdnlgfcpaaGreatDoorProg

set_option linter.all false
set_option maxHeartbeats 8000000
set_option maxRecDepth 100000
namespace Lp
open Go
open List (append_nil mem_append)
def Rd(P:Program)(t:TypeId){α:Type}(enc:α→PV)(good:α→Prop):Prop:=
 ∀{H:Type}(eh:TypeId×Value→H) (w:World) (fuel:Nat) (cs:List Value) (x:DataW H×List MemPlace),DataW.trod eh P w 0 (λ_=>true) true fuel t cs=some x→
  (∀n∈DataW.weights P t x.1,n≤reachBytes)→∃a:α,good a∧dB (dM w (λ_=>True)) (enc a).cells cs
variable {P:Program}
theorem uS{R:PV→Value→Prop}{p:PV}{v:Value}(h:R p v):dB R [p] [v]:=
 ⟨rfl,λi q u h1 h2=>by
  cases i with
  | zero=>simp at h1 h2;subst h1;subst h2;exact h
  | succ i=>simp at h1⟩
theorem Rd.int {t:TypeId}{k:IntKind}(ht:P.underlying t=some (.int k)):Rd P t (.int k) (KM k):=by
 intro H eh w fuel cs x h _
 obtain⟨n,rfl,rfl,hw⟩:=DataW.trod_int ht h
 refine⟨n,?_,uS (.int k n)⟩
 simp only[Lit.wf,Bool.and_eq_true,decide_eq_true_eq]at hw
 cases k<;>simp only[IntKind.min,IntKind.max,IntKind.signed,IntKind.bits,KM]at hw ⊢<;>first | exact⟨by simpa using hw.1,by simpa using hw.2⟩ | (simp at hw;omega)
theorem Rd.bool {t:TypeId}(ht:P.underlying t=some .bool):Rd P t PV.bool (λ_=>True):=by
 intro H eh w fuel cs x h _
 obtain⟨b,rfl,rfl⟩:=DataW.trod_bool ht h
 exact⟨b,trivial,uS (.bool b)⟩
theorem Rd.str {t:TypeId}(ht:P.underlying t=some .string):Rd P t PV.str (λs=>s.length≤reachBytes):=by
 intro H eh w fuel cs x h hw
 obtain⟨s,rfl,rfl,_⟩:=DataW.trod_string ht h
 refine⟨s.data.toList,hw _ ?_,uS (NI w _ s)⟩
 rw[DataW.weights];simp
theorem Rd.slice {t e:TypeId}{α:Type}[Inhabited α]{enc:α→PV}{good:α→Prop}{sz:Nat}(ht:P.underlying t=some (.slice e))(he:Rd P e enc good)(hsz:P.cellsOf e=sz)(hpos:sz≠0)(hc:∀a,(enc a).cells.length=sz) :
  Rd P t (λl:List α=>.sl sz (l.map enc) none) (λl=>l.length*P.bytesOf e≤reachBytes∧∀a∈l,good a):=by
 intro H eh w fuel cs x h hw
 rcases Go.Deep.open_slice ht h with ⟨rfl,rfl⟩ | ⟨a,len,cap,m,n,D,Pl,rfl,hb,hl,hm,hmm,rfl,hx⟩
 ·exact⟨[],by simp,uS (.slnil _ _ (by simp))⟩
 ·simp only[if_true]at hmm
  subst hmm
  have hwt:∀i,i<len→∀n∈DataW.weights P e (D i),n≤reachBytes:=by
   intro i hi n hn
   refine hw n ?_
   rw[DataW.weights,ht]
   simp only[List.mem_cons,mem_append]
   right;left
   have key:∀(l:List (DataW H)) d,d∈l→n∈DataW.weights P e d→n∈DataW.weightsAll P e l:=by
    intro l
    induction l with
    | nil=>intro d hd;cases hd
    | cons y ys ih=>
     intro d hd hn
     rw[DataW.weightsAll,mem_append]
     rcases List.mem_cons.1 hd with rfl | hd
     ·exact .inl hn
     ·exact .inr (ih d hd hn)
   exact key _ (D i) (List.mem_map.2 ⟨i,List.mem_range.2 hi,rfl⟩) hn
  have hlen:(len:Nat)*P.bytesOf e≤reachBytes:=by
   have:=hw ((((List.range len).map D).length+((List.range (m-len)).map λj=>D (len+j)).length)*P.bytesOf e) (by rw[DataW.weights,ht];exact List.mem_cons_self)
   simp only[List.length_map,List.length_range]at this
   exact Nat.le_trans (Nat.mul_le_mul_right _ (by omega)) this
  obtain⟨f,hf⟩:∃f:Nat→α×List Value,∀i,i<len→good (f i).1∧w.cells? 0 (a.add (i*P.cellsOf e)) (P.cellsOf e)=some (f i).2∧dB (dM w (λ_=>True)) (enc (f i).1).cells (f i).2:=by
   have hex:∀i,i<len→∃y:α×List Value,good y.1∧w.cells? 0 (a.add (i*P.cellsOf e)) (P.cellsOf e)=some y.2∧dB (dM w (λ_=>True)) (enc y.1).cells y.2:=by
    intro i hi
    obtain⟨cs',h1,h2⟩:=hx i (by omega)
    obtain⟨y,g1,g2⟩:=he eh w n cs' _ h2 (hwt i hi)
    exact⟨(y,cs'),g1,h1,g2⟩
   exact Go.Deep.choose_lt hex
  rcases Nat.eq_zero_or_pos len with h0 | h0
  ·subst h0
   exact⟨[],by simp,uS (.MH _ _ (by simp) a m hm)⟩
  have hspot:a.spot=none:=by
   obtain⟨_,h2,h3⟩:=hf 0 h0
   obtain⟨_,g1,g2⟩:=World.cells?_some h2
   have:=g2 0 (by omega)
   rw[List.getElem?_eq_getElem (by omega)]at this
   have:=World.cell?_spot this
   simpa[Addr.add] using this
  obtain⟨b,off,spot⟩:=a
  simp only at hspot
  subst hspot
  have hcells:∀i,i<len→∀j,j<sz→w.cell? ⟨b,off+i*sz+j,none⟩=(f i).2[j]?:=by
   intro i hi j hj
   obtain⟨_,h2,_⟩:=hf i hi
   obtain⟨_,_,g2⟩:=World.cells?_some h2
   have:=g2 j (by omega)
   rw[hsz,add_lit,add_lit]at this
   exact this
  have hget:∀(i:Nat) (x:PV),(((List.range len).map λi=>(f i).1).map enc)[i]?=some x→i<len∧x=enc (f i).1:=by
   intro i x hx
   have hi:i<len:=by
    have:=(List.getElem?_eq_some_iff.1 hx).1
    simpa using this
   rw[List.getElem?_map,List.getElem?_map,List.getElem?_range hi]at hx
   simp only[Option.map_some,Option.some.injEq]at hx
   exact⟨hi,hx.symm⟩
  have hL:(((List.range len).map λi=>(f i).1).map enc).length=len:=by simp
  refine⟨(List.range len).map λi=>(f i).1,⟨by simpa using hlen,λy hy=>?_⟩,uS ?_⟩
  ·obtain⟨i,hi,rfl⟩:=List.mem_map.1 hy
   exact (hf i (List.mem_range.1 hi)).1
  ·have:dM w (λ_=>True) (.sl sz (((List.range len).map λi=>(f i).1).map enc) none) (.slice (some ⟨b,off,none⟩) (((List.range len).map λi=>(f i).1).map enc).length m):=by
     refine .sl sz _ none (by simp) b off m (λi j=>(f i).2.getD j undef) (λ_=>⟨trivial,?_⟩) (by rw[hL];exact hl) hm (λi x hx=>?_) (λi x j p hx hp=>?_) (λi x j p hx hp=>?_)
     ·have:=hcells 0 h0 0 (by omega)
      obtain⟨_,h2,_⟩:=hf 0 h0
      obtain⟨_,g1,_⟩:=World.cells?_some h2
      rw[List.getElem?_eq_getElem (by omega)]at this
      unfold World.cell? at this
      simp only at this
      cases hb':w.heap[b]? with
      | none=>rw[hb']at this;simp at this
      | some o=>exact (Array.getElem?_eq_some_iff.1 hb').1
     ·obtain⟨_,rfl⟩:=hget i x hx
      exact hc _
     ·obtain⟨hi,rfl⟩:=hget i x hx
      have hj:j<sz:=by rw[←hc (f i).1];exact (List.getElem?_eq_some_iff.1 hp).1
      rw[hcells i hi j hj]
      obtain⟨_,h2,_⟩:=hf i hi
      obtain⟨_,g1,_⟩:=World.cells?_some h2
      rw[List.getD_eq_getElem?_getD,List.getElem?_eq_getElem (by omega)]
      rfl
     ·obtain⟨hi,rfl⟩:=hget i x hx
      have hj:j<sz:=by rw[←hc (f i).1];exact (List.getElem?_eq_some_iff.1 hp).1
      obtain⟨_,h2,h3⟩:=hf i hi
      obtain⟨_,g1,_⟩:=World.cells?_some h2
      exact h3.2 j p _ hp (by rw[List.getD_eq_getElem?_getD,List.getElem?_eq_getElem (by omega)];rfl)
   rw[hL]at this
   exact this
theorem xq{H:Type}{n:Nat}:∀(ts:List TypeId) (ds:List (DataW H)) (i:Nat) (t:TypeId) (d:DataW H),ts[i]?=some t→ds[i]?=some d→n∈DataW.weights P t d→n∈DataW.weightsEach P ts ds
 | [],_,i,t,d,h,_,_=>by simp at h
 | _::_,[],i,t,d,_,h,_=>by simp at h
 | t'::ts,d'::ds,i,t,d,h1,h2,hn=>by
  rw[DataW.weightsEach,mem_append]
  cases i with
  | zero=>simp at h1 h2;subst h1;subst h2;exact .inl hn
  | succ i=>exact .inr (xq ts ds i t d (by simpa using h1) (by simpa using h2) hn)
theorem nO{H:Type}{eh:TypeId×Value→H}{w:World}{fuel:Nat}{t:TypeId}{fs:Array Field}{cs:List Value}{x:DataW H×List MemPlace}(ht:P.underlying t=some (.struct fs))
  (h:DataW.trod eh P w 0 (λ_=>true) true fuel t cs=some x) (hw:∀n∈DataW.weights P t x.1,n≤reachBytes) :
  cs.length=P.cellsOf t∧∀(i off:Nat) (e:TypeId),(fs.toList.map λf=>(f.offset,f.type))[i]?=some (off,e)→∃n y,DataW.trod eh P w 0 (λ_=>true) true n e ((cs.drop off).take (P.cellsOf e))=some y∧(∀m∈DataW.weights P e y.1,m≤reachBytes):=by
 obtain⟨xs,n,_,rfl,hl,hlen,hf⟩:=DataW.trod_struct ht h
 refine⟨hl,λi off e he=>?_⟩
 rw[List.getElem?_map]at he
 cases hfi:fs.toList[i]? with
 | none=>rw[hfi]at he;simp at he
 | some f=>
  rw[hfi]at he
  simp only[Option.map_some,Option.some.injEq,Prod.mk.injEq]at he
  obtain⟨rfl,rfl⟩:=he
  have agJ:fs[i]?=some f:=by simpa using hfi
  have hi:i<xs.length:=by rw[hlen];exact (Array.getElem?_eq_some_iff.1 agJ).1
  have h1:=hf i f agJ
  rw[List.getElem?_eq_getElem hi]at h1
  refine⟨n,xs[i],h1,λm hm=>hw m ?_⟩
  rw[DataW.weights,ht]
  exact xq _ _ i f.type xs[i].1 (by rw[List.getElem?_map,hfi];rfl) (by rw[List.getElem?_map,List.getElem?_eq_getElem hi];rfl) hm
theorem AX{H:Type}{eh:TypeId×Value→H}(hl:laidOutB P=true){W W':World}(hb:∀b,b<W.heap.size→W'.heap[b]?=W.heap[b]?) :
  ∀(ts:List TypeId) (vs:List Value) (ds:List (DataW H)) (ps:List MemPlace),(∀t∈ts,P.readableRec t=true∧t<P.types.size)→DataW.TrodAll eh P W 0 (λ_=>true) true ts vs ds ps→
   DataW.TrodAll eh P W' 0 (λb=>decide (b<W.heap.size)) true ts vs ds ps
 | [],[],[],ps,_,h=>h
 | t::ts,v::vs,d::ds,ps,hr,⟨p,q,h1,h2,h3⟩=>by
  have hlt:∀x∈p,x.block<W.heap.size:=by obtain⟨m,hm⟩:=h1;exact DataW.trod_lt m _ _ _ hm
  refine⟨p,q,Go.WideElems.Trod_stays hl (hr t (by simp)).1 (hr t (by simp)).2 h1 (λx hx=>?_) (λx hx=>by simpa using hlt x hx),AX hl hb ts vs ds q (λt ht=>hr t (by simp[ht])) h2,h3⟩
  cases x with
  | cell b o=>exact World.cell?_of_block (w:=W) (hb b (hlt _ hx))
  | map b=>exact hb b (hlt _ hx)
 | [],_::_,_,_,_,h=>h.elim
 | [],[],_::_,_,_,h=>h.elim
 | _::_,[],_,_,_,h=>h.elim
 | _::_,_::_,[],_,_,h=>h.elim
theorem abz{C:Checked}{H:Type}{enc:TypeId×Value→H}{f:FuncId}{fn:Func}{s:ChangeSpec}{tb:TypeId}
  (hlaid:laidOutB C.prog=true) (hr:∀t∈fn.params.toList,C.prog.readableRec t=true∧t<C.prog.types.size)
  (hres:fn.resultTypes.toList=[tb]) (hsz:fn.resultTypes.size=1) (hb:C.prog.underlying tb=some .bool)
  (hvars:s.vars=[]) (hpl:s.plain.varTypes C.prog=[]) (hs:∀ds:List (DataW H),ds.length=fn.params.toList.length→s.fn H ds={ results:=[.lit (.bool true)],args:=ds })
  (hread:∀(W:World) (base:Nat) (args:List Value) (ds:List (DataW H)) (ps:List MemPlace),(∀(j:Nat) t v,fn.params[j]?=some t→args[j]?=some v→Value.okWide C.prog W .any base t v)→DataW.TrodAll enc C.prog W 0 (λ_=>true) true fn.params.toList args ds ps→(∀n∈DataW.weightsEach C.prog fn.params.toList ds,n≤reachBytes)→
   ∃pvs,dB (dM W (λ_=>True)) pvs args∧ai C.prog f pvs [] (.bool true) [])
  {W:World}{base:Nat}{args:Array Value}{ds gs:List (DataW H)}{before:List MemPlace}(hg:tO.holds W.heap)
  (hval:∀(j:Nat) t v,fn.params[j]?=some t→args[j]?=some v→Value.okWide C.prog W .any base t v) (hW:DataW.Whole enc C.prog fn.params.toList s.vars false W args.toList ds gs before)
  (hsize:(DataW.weightsEach C.prog (fn.params.toList++s.plain.varTypes C.prog) (ds++gs)).all (·≤reachBytes)=true) :
  Calls C.prog f args W λe W'=>∃v,e=.returned v∧s.post enc C.prog fn false true false false W args v W':=by
 have hW':=hW
 obtain⟨p,q,hA,hV,rfl,hfz,hnd⟩:=hW
 rw[hvars]at hV
 obtain⟨rfl,rfl⟩:=Go.ChangeShapes.trodVars_none hV
 have hlen:ds.length=fn.params.toList.length:=by
  have:∀(ts:List TypeId) (vs:List Value) (ds:List (DataW H)) (ps:List MemPlace),DataW.TrodAll enc C.prog W 0 (λ_=>true) true ts vs ds ps→ds.length=ts.length:=by
   intro ts
   induction ts with
   | nil=>intro vs ds ps h;cases vs<;>cases ds<;>simp[DataW.TrodAll]at h ⊢
   | cons t ts ih=>
    intro vs ds ps h
    cases vs<;>cases ds<;>simp[DataW.TrodAll]at h ⊢
    obtain⟨_,_,_,h2,_⟩:=h
    exact ih _ _ _ h2
  exact this _ _ _ _ hA
 rw[hpl,append_nil,append_nil,List.all_eq_true]at hsize
 obtain⟨pvs,hrep,hspec⟩:=hread W base args.toList ds p (λj t v h1 h2=>hval j t v h1 (by simpa using h2)) hA (λn hn=>by simpa using hsize n hn)
 have hargs:dB (aY W (bZ (λ_=>True) [] (λ_=>none)) [] (λ_=>none)) pvs args.toList:=
  ⟨hrep.1,λi p v a b=>.aM ((hrep.2 i p v a b).qi λ_ _ _=>⟨trivial,eD _ _⟩)⟩
 have hc:=hspec.2 W (λ_=>none) args.toList (λ_=>True) ⟨hg,λ_ _=>trivial⟩ (vY _ _ _ _) hargs
 refine Calls.mono hc λe W' ⟨v,aA,he,_,hv,hheap,hsize',hsm⟩=>?_
 subst he
 have hv':=hv.bool
 subst hv'
 have hkeep:∀b,b<W.heap.size→W'.heap[b]?=W.heap[b]?:=λb hb=>hheap b hb (eD _ _)
 refine⟨_,rfl,ds,[],p++[],[],p,[],hW',?_,?_,?_,?_,λh=>by cases h⟩
 ·rw[append_nil,hs ds hlen,hres,hsz]
  exact Go.ChangeShapes.trodAll_mk1 (Go.RowKit.shut_bool hb true)
 ·rw[append_nil,hs ds hlen]
  exact AX hlaid hkeep _ _ _ _ hr hA
 ·rw[hvars,append_nil,hs ds hlen];rfl
 ·refine⟨hsm.1,hsm.2,λi hi=>?_⟩
  rw[hkeep i hi]
  split<;>simp_all
theorem aeH{C:Checked}{os:Os}{H:Type}{enc:TypeId×Value→H}{f:FuncId}{fn:Func}{s:ChangeSpec}{tb:TypeId}{dom:List PathCond}{laid:List (String×DataW Unit)}
  (own:ownKnob C.prog.godebug=none) (started:os.Started) (noInit:C.prog.inits.idxOf? f=none) (hfn:C.prog.funcs[f]?=some fn)
  (witness:∃(w:World) (tape:Tape) (i:Input),w.os=os∧(w.forCall tape i).Shaped C.prog∧i.vars=[]∧Input.okWide C.prog (w.forCall tape i) .any w.heap.size f i∧
   (OpenSpec.ofChange s).preRow enc C.prog fn dom false laid (w.forCall tape i).memory i.args∧({}:Assume).holds C.prog (lone (Frame.enter C.prog f i.args .normal) [] (w.forCall tape i)))
  (hlaid:laidOutB C.prog=true) (hr:∀t∈fn.params.toList,C.prog.readableRec t=true∧t<C.prog.types.size)
  (hres:fn.resultTypes.toList=[tb]) (hsz:fn.resultTypes.size=1) (hb:C.prog.underlying tb=some .bool)
  (hvars:s.vars=[]) (hpl:s.plain.varTypes C.prog=[]) (hs:∀ds:List (DataW H),ds.length=fn.params.toList.length→s.fn H ds={ results:=[.lit (.bool true)],args:=ds })
  (hread:∀(W:World) (base:Nat) (args:List Value) (ds:List (DataW H)) (ps:List MemPlace),(∀(j:Nat) t v,fn.params[j]?=some t→args[j]?=some v→Value.okWide C.prog W .any base t v)→DataW.TrodAll enc C.prog W 0 (λ_=>true) true fn.params.toList args ds ps→(∀n∈DataW.weightsEach C.prog fn.params.toList ds,n≤reachBytes)→
   ∃pvs,dB (dM W (λ_=>True)) pvs args∧ai C.prog f pvs [] (.bool true) [])
  (hg:∀W:World,laidMetH C.prog laid W→tO.holds W.heap) :
  ReturnsInHanded {} C os f .any ((OpenSpec.ofChange s).preRow enc C.prog fn dom false laid) (s.post enc C.prog fn false true false false):=by
 refine returnsInHanded_of_row (C:=C) (s:=OpenSpec.ofChange s) (F:=λ_ _=>default) own started noInit hfn witness ?_
 intro W base args ds gs before hval hW _ _ hsize hL _ _
 exact abz hlaid hr hres hsz hb hvars hpl hs hread (hg W hL) hval hW hsize
end Lp
namespace Lp
open Go
variable {P:Program}{D:TypeId→aH}{T:Know}
def agK(n:Nat):Env:=λ_ _ V=>∀w0,V w0→w0.nx≤n
def agL(t:Nat)(r:PV)(objs':List Obj)(e:Exit)(S:St):Prop:=
 (e=.normal∨e=.ret)∧S.tmps.getD t .dead=r∧S.objs=objs'
theorem Xl.Ij {f:FuncId}{fn:Func}{c:Code}{C:LC}{args:List PV}{r:PV}{objs objs':List Obj}{t n:Nat}(hD:∀t,je P t (D t))(hT:Ii P none (agK objs.length) T)(hm:P.follows .mixedOrders=true)
  (hf:P.funcs[f]?=some fn) (hname:(fn.name== "runtime.NumGoroutine")=false) (hb:fn.body=some c) (hn:fn.ntmps=n) (hr:fn.results=#[.tmp t]) (hC:strip C=comp c) (hlen:objs'.length=objs.length)
  (h:l7 P D T C (agL t r objs') ⟨(cK args n).tmps,objs⟩):Xl P f args objs r objs':=by
 refine⟨⟨fn,hf,hname,by rw[hb];rfl⟩,hlen,λbase av w0 tmps blk a w vs R hargs=>?_⟩
 have hpw:PW P none (agK objs.length) c (agL t r objs') ⟨(cK args n).tmps,objs⟩:=qP hD hm C _ _ _ c _ _ hT hC h
 have hpp:∀b,av b→b<w.heap.size∧aZ objs blk b:=λb hb=>⟨Nat.lt_of_lt_of_le (R.pr b hb) R.gr,λk o h1 h2 h3=>R.objs.np k o b h1 h2 h3 hb⟩
 have hz:∀x∈tmps.zip a.tmps.toList,aY w (bZ base objs blk) objs blk x.1 x.2:=by
  intro x hx
  obtain⟨i,hi,rfl⟩:=List.mem_iff_getElem.1 hx
  have hi':i<tmps.length∧i<a.tmps.toList.length:=by
   rw[List.length_zip]at hi
   omega
  rw[List.getElem_zip]
  have:=R.tm i tmps[i] (List.getElem?_eq_getElem hi'.1)
  have e:a.tmps.getD i undef=a.tmps.toList[i]:=by
   rw[Array.getD_eq_getD_getElem?,Array.getElem?_eq_getElem (by simpa using hi'.2)];simp
  rw[e]at this
  exact this
 have R2:Rel base (λb=>b<w.heap.size∧aZ objs blk b) ⟨w.heap,tmps.zip a.tmps.toList++w0.xs,objs.length,w⟩ ⟨(cK args n).tmps,objs⟩ blk { tmps:=(⟨vs⟩:Array Value)++Array.replicate (n-(⟨vs⟩:Array Value).size) undef,defers:=[] } w:=by
  have hl:=hargs.1
  have hext:∀x∈tmps.zip a.tmps.toList++w0.xs,aY w (bZ base objs blk) objs blk x.1 x.2:=λx hx=>by
   rcases List.mem_append.1 hx with hx | hx
   ·exact hz x hx
   ·exact R.ext x hx
  refine⟨.nil _ _,?_,λt p hp=>?_,⟨R.objs.ob,R.objs.KL,λk o g h1 h2 h3 hp=>hp.2 k o h1 h2 h3⟩,λb hb=>hb.1,λ_ _=>rfl,Nat.le_refl _,λb hn=>?_,hext,λx hx=>Ig (hext x hx),.refl w,⟨R.oH,λb hb=>hpp b (R.gl.2 b hb)⟩⟩
  ·simp[cK,hl]
  ·simp only[cK]at hp
   rw[List.getElem?_append]at hp
   split at hp
   ·rename_i ht
    obtain⟨v,hv⟩:∃v,vs[t]?=some v:=⟨vs[t]'(by omega),List.getElem?_eq_getElem (by omega)⟩
    have hg:((⟨vs⟩:Array Value)++Array.replicate (n-(⟨vs⟩:Array Value).size) undef).getD t undef=v:=by
     rw[Array.getD_eq_getD_getElem?,Array.getElem?_append,if_pos (by simpa using (by omega:t<vs.length))]
     simp[hv]
    rw[hg]
    exact hargs.2 t p v hp hv
   ·rw[List.getElem?_replicate]at hp
    split at hp
    ·cases hp;exact .dead _
    ·cases hp
  ·rcases Nat.lt_or_ge b w.heap.size with h1 | h1
   ·refine R.pb b λhp=>hn (hpp b hp)
   ·exact R.bs b (Nat.le_trans R.gr h1)
 have hw:=hpw base _ (λx=>(⟨w.heap,tmps.zip a.tmps.toList++w0.xs,objs.length,w⟩:Wz)=x) (by rintro z rfl;exact Nat.le_refl _) _ _ _ ⟨_,rfl,R2⟩
 rw[←callsIn_wide (n:=0)]
 refine callsIn_of_wp_marks hf hb trivial ?_
 rw[hn]
 refine wpIn_mono hw ?_
 rintro e a' w' ⟨S',aA,⟨he,ho,oG⟩,_,rfl,R'⟩
 have key:∀w',Rel base (λb=>b<w.heap.size∧aZ objs blk b) ⟨w.heap,tmps.zip a.tmps.toList++w0.xs,objs.length,w⟩ S' aA { a' with defers:=[] } w'→
     ∃v,(results fn a'.tmps).run P w'=.ok v w'∧(∃v' aA,Ending.returned v=.returned v'∧Rel base av w0 ⟨tmps,objs'⟩ aA a w'∧aY w' (bZ base objs' aA) objs' aA r v'):=by
  intro w' R'
  have hx:=R'.ev (.tmp t)
  change aY w' _ _ aA (S'.tmps.getD t .dead) (a'.tmps.getD t undef) at hx
  rw[ho,oG]at hx
  refine⟨_,results_tmp hr _ _ _,_,aA,rfl,?_,hx⟩
  have hpr:∀b,b<w.heap.size∧aZ objs blk b→w'.heap[b]?=w.heap[b]?:=λb hb=>R'.fr b hb
  obtain⟨Ds,e1,e2,e3⟩:=R.pJ
  have ob:=R'.objs
  have ex:=R'.ext
  rw[oG]at ob ex
  refine⟨⟨Ds,e1,e2,λb hb=>?_⟩,R.EU,λt p hp=>?_,⟨ob.ob,ob.KL,λk o g h1 h2 h3 hp=>ob.np k o g h1 h2 h3 (hpp g hp)⟩,R.pr,λb hb=>?_,Nat.le_trans R.gr R'.gr,R.pb,λx hx=>ex x (List.mem_append_right _ hx),R.MJ,R.sm.trans R'.sm,R.gl⟩
  ·obtain⟨h1,h2,h3⟩:=e3 b hb
   have hpb:b<w.heap.size∧aZ objs blk b:=⟨(Array.getElem?_eq_some_iff.1 h1).1,h2.2⟩
   exact⟨by rw[hpr b hpb];exact h1,⟨h2.1,λk o g1 g2 g3=>ob.np k o b g1 g2 g3 hpb⟩,h3⟩
  ·refine ex (p,a.tmps.getD t undef) (List.mem_append_left _ ?_)
   have hlt:t<tmps.length:=(List.getElem?_eq_some_iff.1 hp).1
   have htz:t<a.tmps.size:=by rw[R.EU];exact hlt
   refine List.mem_iff_getElem.2 ⟨t,by rw[List.length_zip,Array.length_toList];exact Nat.lt_min.2 ⟨hlt,htz⟩,?_⟩
   rw[List.getElem_zip]
   have e:a.tmps.getD t undef=a.tmps.toList[t]'(by simpa using htz):=by
    rw[Array.getD_eq_getD_getElem?,Array.getElem?_eq_getElem htz];simp
   rw[e,(List.getElem?_eq_some_iff.1 hp).2]
  ·rw[hpr b (hpp b hb)];exact R.fr b hb
 rcases he with rfl | rfl<;>exact oO _ _ R' key
end Lp
namespace Lp
open Go
variable {P:Program}{D:TypeId→aH}{T:Know}
def lX(p q:PV):Prop:=∀(w:World) (ok:Nat→Prop) (v:Value),dM w ok p v→dM w ok q v
theorem lX.refl (p:PV):lX p p:=λ_ _ _ h=>h
theorem lT(sz sz':Nat):lX (.sl sz [] (some true)) (.sl sz' [] none):=by
 intro w ok v h
 cases h with
 | slnil _ _ _=>exact .slnil sz' none (by decide)
 | MH _ _ hq=>exact absurd rfl hq
 | sl _ _ _ hq=>exact absurd rfl hq
theorem lX.agg {ps qs:List PV}(hl:ps.length=qs.length)(h:∀(i:Nat) (p q:PV),ps[i]?=some p→qs[i]?=some q→lX p q):lX (.agg ps) (.agg qs):=by
 intro w ok v hr
 cases hr with
 | agg _ vs hl' hh=>
  refine .agg _ _ (by omega) λi q u hq hu=>?_
  have hi:i<ps.length:=by rw[hl];exact (List.getElem?_eq_some_iff.1 hq).1
  exact h i _ q (List.getElem?_eq_getElem hi) hq w ok u (hh i _ u (List.getElem?_eq_getElem hi) hu)
theorem lX.bY {ps qs:List PV}(hl:ps.length=qs.length)(h:∀(i:Nat) (p q:PV),ps[i]?=some p→qs[i]?=some q→lX p q):lX (.bY ps) (.bY qs):=by
 intro w ok v hr
 cases hr with
 | bY _ vs hl' hh=>
  refine .bY _ _ (by omega) λi q u hq hu=>?_
  have hi:i<ps.length:=by rw[hl];exact (List.getElem?_eq_some_iff.1 hq).1
  exact h i _ q (List.getElem?_eq_getElem hi) hq w ok u (hh i _ u (List.getElem?_eq_getElem hi) hu)
theorem Ot{f:List PV→PV}(hf:f=PV.agg∨f=PV.bY){a b c d:PV}(h1:lX a c)(h2:lX b d):lX (f [a,b]) (f [c,d]):=by
 have key:∀(i:Nat) (p q:PV),[a,b][i]?=some p→[c,d][i]?=some q→lX p q:=by
  intro i p q hp hq
  match i with
  | 0=>cases hp;cases hq;exact h1
  | 1=>cases hp;cases hq;exact h2
  | _+2=>simp at hp
 rcases hf with rfl | rfl
 ·exact .agg rfl key
 ·exact .bY rfl key
theorem ai.res {f:FuncId}{args:List PV}{objs:List Obj}{r r':PV}(h:ai P f args objs r [])(ht:lX r r'):ai P f args objs r' []:=by
 refine⟨h.1,λw blk vs base hb R ha=>(h.2 w blk vs base hb R ha).mono ?_⟩
 rintro e w' ⟨v,aA,h1,h2,h3,h4⟩
 exact⟨v,aA,h1,h2,.aM (ht _ _ _ (yh h3)),h4⟩
theorem ai.arg {f:FuncId}{args args':List PV}{r:PV}{objs':List Obj}(h:ai P f args [] r objs')(hl:args'.length=args.length)(ht:∀(i:Nat) (p q:PV),args'[i]?=some p→args[i]?=some q→lX p q):ai P f args' [] r objs':=by
 refine⟨h.1,λw blk vs base hb R ha=>h.2 w blk vs base hb R ⟨by rw[←hl];exact ha.1,λi q v hq hv=>?_⟩⟩
 have hi:i<args'.length:=by rw[hl];exact (List.getElem?_eq_some_iff.1 hq).1
 exact .aM (ht i _ q (List.getElem?_eq_getElem hi) hq _ _ _ (yh (ha.2 i _ v (List.getElem?_eq_getElem hi) hv)))
theorem aO.afy {f:FuncId}{n t u:Nat}{ty:TypeId}{C:LC}{args:List PV}{r:PV}(h:aO P f n [.cell t ty,.tmp u] C)(d:Nat)(hD:∀t,je P t (D t))(hT:Ii P none tY T)(hm:P.follows .mixedOrders=true)(ht:t<n)(hu:u<n)
  (hw:∀Q:Exit→St→Prop,(∀l ob,Q .ret ⟨dG n l,ob⟩=fQ (D ty) (nu l t) ob λp _ _=>r=.bY [iB d 0 ob p,iB d 0 ob (nu l u)])→l7 P D T C Q (cK args n)):ai P f args [] r []:=by
 refine h.pure d hD hT hm (by simp) (hw _ λl ob=>?_)
 simp only[oh,jZ,tZ.2.1 n l t ht,tZ.2.1 n l u hu,List.map_cons,List.map_nil,fU]
structure agM (d t:Nat) (o':Obj) (S:St):Prop where
 h:UR d t o' .ret S
theorem afz{d t n:Nat}{o':Obj}{l:List (Nat×PV)}{ob:List Obj}{k ver:Nat}{o:Obj}(h1:(dG n l).getD t .dead=.bO k ver)(h2:ob[k]?=some o)(h3:o.live=true)(h4:o.ver=ver)(h5:{ f_ d (k+1) ob o with ver:=0 }=o')(h6:fI [o']):agM d t o' ⟨dG n l,ob⟩:=
 ⟨.inr rfl,_,k,ver,o,Weak.refl _ _,h1,h2,h3,h4,h5,h6⟩
theorem aO.aeI {f:FuncId}{n t:Nat}{C:LC}{args:List PV}{o':Obj}(h:aO P f n [.tmp t] C)(d:Nat)(hD:∀t,je P t (D t))(hT:Ii P none tY T)(hm:P.follows .mixedOrders=true)
  (hw:∀Q:Exit→St→Prop,(∀l ob,Q .ret ⟨dG n l,ob⟩=agM d t o' ⟨dG n l,ob⟩)→l7 P D T C Q (cK args n)):ai P f args [] (.bO 0 0) [o']:=
 h.made d hD hT hm (hw _ λl ob=>propext ⟨λh=>⟨h⟩,λh=>h.h⟩)
structure ail (D:TypeId→aH) (d:Nat) (rs:List ResultVar) (qs:List PV) (o':Obj) (S:St):Prop where
 h:adr D d rs qs o' .ret S
theorem Y9{base av:Nat→Prop}{w':World}{aA:Nat→Option Nat}{o:Obj}{v:Value}(h2:dP base av [o] aA w')(h3:bJ w' (bZ base [o] aA) [o] aA (.bO 0 0) v)(hb:∀b,¬ av b→base b)(hl:o.live=true)(hv:o.ver=0)(hn:fI [o]) :
  dM w' (bZ base [] aA) (.sl o.sz o.xs none) v:=by
 obtain⟨_,o1,g1,_,g3⟩:=h3
 cases g1
 obtain⟨hM,hh⟩:=g3 hl hv
 have ho:=h2.ob 0 o rfl hl
 unfold Ab at hh
 unfold dA at ho
 cases hg:aA 0 with
 | none=>rw[hg]at hh;rw[hh.1,hh.2];exact .slnil _ _ (by decide)
 | some g=>
  rw[hg]at hh ho
  obtain⟨cap,c,rfl,x1,x2,x3,x4⟩:=hh
  obtain⟨c',y1,y2,y3⟩:=ho
  rw[mE hM]at y1
  rw[x1]at y1;cases y1
  have hgb:base g:=hb g (h2.np 0 o g rfl hl hg)
  refine .sl o.sz o.xs none (by decide) g 0 cap (λi j=>(c[i*o.sz+j]?).getD undef) (λ_=>⟨⟨hgb,eD _ _⟩,(Array.getElem?_eq_some_iff.1 x1).1⟩) x2 x3 (λi x hx=>(y3 i x hx).1) ?_ ?_
  ·intro i x j p hx hp
   obtain⟨u,u1,_⟩:=(y3 i x hx).2 j p hp
   simp[World.cell?,x1,u1]
  ·intro i x j p hx hp
   obtain⟨u,u1,u2⟩:=(y3 i x hx).2 j p hp
   rw[u1,Option.getD_some]
   exact (u2.Ct (hn o (by simp) x (List.mem_of_getElem? hx) p (List.mem_of_getElem? hp))).qi λb _ hb=>⟨hb.1,eD _ _⟩
theorem abA{base:Nat→Prop}{w:World}{blk:Nat→Option Nat}(hb:tO.holds w.heap∧∀b,w.heap.size≤b→base b)(b:Nat)(h:¬ (b<w.heap.size∧aZ [] blk b)):base b:=
 hb.2 b (Nat.not_lt.1 λq=>h ⟨q,eD _ _⟩)
theorem ai.froze {f:FuncId}{args:List PV}{o:Obj}(h:ai P f args [] (.bO 0 0) [o])(hl:o.live=true)(hv:o.ver=0)(hn:fI [o]):ai P f args [] (.sl o.sz o.xs none) []:=by
 refine⟨h.1,λw blk vs base hb R ha=>(h.2 w blk vs base hb R ha).mono ?_⟩
 rintro e w' ⟨v,aA,h1,h2,h3,h4⟩
 exact⟨v,aA,h1,vY _ _ _ _,.aM (Y9 h2 h3 (abA hb) hl hv hn),h4⟩
@[congr] theorem aeJ{s t:TypeId}{x x':PV}{objs objs':List Obj}{K:KT}(h:x=x')(ho:objs=objs'):kZ D s t x objs K=kZ D s t x' objs' K:=by rw[h,ho]
@[congr] theorem Y_{x x':PV}{objs objs':List Obj}{K:KT}(h:x=x')(ho:objs=objs'):dU x objs K=dU x' objs' K:=by rw[h,ho]
end Lp
namespace Lp
open Go Go.Proofs
def b_(a:gG):PV:=.agg [.int .i64 a.n,.int .i64 a.c.kind,.int .i64 a.c.many,.str a.c.name,.str a.c.s,.bool a.c.neg,.int .i64 a.c.e]
def bG(l:List gG):PV:=.sl 7 (l.map b_) none
theorem hA:∀l,bG l=.sl 7 (l.map b_) none:=λ_=>rfl
theorem yF:∀a b,b_ a=b_ b→a=b:=by
 intro a b h
 obtain⟨an,⟨a1,a2,a3,a4,a5,a6⟩⟩:=a
 obtain⟨bn,⟨b1,b2,b3,b4,b5,b6⟩⟩:=b
 simp only[b_,PV.agg.injEq,List.cons.injEq,PV.int.injEq,PV.str.injEq,PV.bool.injEq,true_and,and_true]at h
 obtain⟨rfl,rfl,rfl,rfl,rfl,rfl,rfl⟩:=h
 rfl
theorem zC:∀a b,bG a=bG b→a=b:=o5 hA yF
theorem aeK(objs:List Obj)(K:KT) :
  (∀a,aK D 29 (.addr (b_ a)) 0 objs K=K (.addr (.int .i64 a.n)) objs 0)∧
  (∀a,aK D 29 (.addr (b_ a)) 1 objs K=K (.addr (aB a.c)) objs 0):=by
 refine⟨λn=>?_,λn=>?_⟩
 all_goals
  simp only[b_,aB,aK,eu,bS,↓M9,KH,uP,sG,G8,Jz,ne_eq,reduceCtorEq,not_false_eq_true,true_and,Bool.not_false,Bool.and_self,Nat.reduceAdd,Nat.reduceLeDiff,forall_const,false_implies]
theorem aeL :
  (∀a,(b_ a).cells=[.int .i64 a.n,.int .i64 a.c.kind,.int .i64 a.c.many,.str a.c.name,.str a.c.s,.bool a.c.neg,.int .i64 a.c.e])∧
  (∀n,(b_ n).isAgg=true)∧(∀n,(b_ n).pure=true)∧(∀d m O n,eZ d m O (b_ n)=b_ n)∧(∀d m O n,iB d m O (b_ n)=b_ n):=
 ⟨λ_=>rfl,λ_=>rfl,λ_=>rfl,λ_ _ _ _=>rfl,λ_ _ _ _=>rfl⟩
theorem aeM(a:gG):(∀x,(b_ a).putCells 0 [.int .i64 x]=b_ { a with n:=x })∧(∀b:gG,(b_ a).putCells 0 [.int .i64 b.n,.int .i64 b.c.kind,.int .i64 b.c.many,.str b.c.name,.str b.c.s,.bool b.c.neg,.int .i64 b.c.e]=b_ b):=
 ⟨λ_=>rfl,λ_=>rfl⟩
theorem aeN(objs:List Obj)(K:KT) :
  (∀k n,bM D 29 [(0,.int .i64 k),(1,aB n)] objs K=K (b_ ⟨k,n⟩) objs 0)∧
  (∀n,bM D 29 [(1,aB n)] objs K=K (b_ ⟨0,n⟩) objs 0)∧
  (bM D 27 [] objs K=K (aB ⟨0,0,[],[],false,0⟩) objs 0):=by
 have z:aL (D 29)=b_ ⟨0,⟨0,0,[],[],false,0⟩⟩:=by kernel_rfl
 have a:(D 29).agg=true:=by kernel_rfl
 have z2:aL (D 27)=aB ⟨0,0,[],[],false,0⟩:=by kernel_rfl
 have a2:(D 27).agg=true:=by kernel_rfl
 simp only[bS]at z a z2 a2
 refine⟨λk n=>?_,λn=>?_,?_⟩
 all_goals
  simp[bM,mI,a,z,a2,z2,bS,nD,aB,b_,PV.isAgg,q9,PV.cells,PV.storable,PV.mV,PV.pure]
theorem inA:xk b_:=by intro d n o x;cases d<;>rfl
theorem aeO :
  (∀a0,PV.sl 7 [b_ a0] none=bG [a0])∧(∀a0 a1,PV.sl 7 [b_ a0,b_ a1] none=bG [a0,a1]):=
 ⟨λ_=>rfl,λ_ _=>rfl⟩
theorem agN:type_of% (kE hA)∧type_of% (aW yF)∧type_of% (aW zC):=⟨kE hA,aW yF,aW zC⟩
theorem aeP :
  type_of% (aeK)∧type_of% (aeL)∧type_of% (aeM)∧type_of% (aeN)∧type_of% (aeO)∧
  type_of% (uQ hA)∧type_of% (kE hA)∧type_of% (uR hA)∧type_of% (aW yF)∧type_of% (aW zC)∧type_of% (jv hA inA)∧
  type_of% (t_ (enc:=b_) (sz:=7) (λ_=>rfl) (λ_=>rfl))∧
  type_of% (λ(l:List gG) (k:Nat)=>Na (bG l) rfl k):=
 ⟨aeK,aeL,aeM,aeN,aeO,uQ hA,kE hA,uR hA,aW yF,aW zC,jv hA inA,t_ (enc:=b_) (sz:=7) (λ_=>rfl) (λ_=>rfl),λ(l:List gG) (k:Nat)=>Na (bG l) rfl k⟩
theorem bf:type_of% @aS∧type_of% @agN:=⟨@aS,@agN⟩
theorem bg:type_of% @aT∧type_of% @aeP:=⟨@aT,@aeP⟩
theorem Rx(x:gG):eZ 1 0 [⟨29,7,[b_ x],true,1⟩] (.bP 0 1 0 0)=.addr (b_ x):=rfl
theorem abB(x:gG)(y:Nd):eZ 1 0 [⟨29,7,[b_ x],true,1⟩,⟨27,6,[aB y],true,1⟩] (.bP 0 1 0 0)=.addr (b_ x):=rfl
theorem abC(x:gG)(y:Nd):eZ 1 0 [⟨29,7,[b_ x],true,1⟩,⟨27,6,[aB y],true,1⟩] (.bP 1 1 0 0)=.addr (aB y):=rfl
end Lp
namespace Lp
open Go Go.Proofs
def aP(t:dR):PV:=.agg [.int .i64 t.kind,.int .i64 t.many,.str t.name,.str t.s,.int .i64 t.n,.int .i64 t.c.kind,.int .i64 t.c.many,.str t.c.name,.str t.c.s,.bool t.c.neg,.int .i64 t.c.e]
def ay(l:aD):PV:=.sl 11 (l.map aP) none
def dh(l:List aD):PV:=.sl 1 (l.map ay) none
def encS(s:Stp):PV:=.agg [.bool s.part,.str s.name,.int .i64 s.n]
def dO(l:List Stp):PV:=.sl 3 (l.map encS) none
theorem hTy:∀l,ay l=.sl 11 (l.map aP) none:=λ_=>rfl
theorem hTs:∀l,dh l=.sl 1 (l.map ay) none:=λ_=>rfl
theorem hPa:∀l,dO l=.sl 3 (l.map encS) none:=λ_=>rfl
theorem pQ:∀a b,aP a=aP b→a=b:=by
 intro a b h
 obtain⟨k,m,nm,s,n,⟨a1,a2,a3,a4,a5,a6⟩⟩:=a
 obtain⟨k',m',Ou,s',n',⟨b1,b2,b3,b4,b5,b6⟩⟩:=b
 simp only[aP,PV.agg.injEq,List.cons.injEq,PV.int.injEq,PV.str.injEq,PV.bool.injEq,true_and,and_true]at h
 obtain⟨rfl,rfl,rfl,rfl,rfl,rfl,rfl,rfl,rfl,rfl,rfl⟩:=h
 rfl
theorem yG:∀a b,encS a=encS b→a=b:=by
 intro a b h
 cases a;cases b
 simp only[encS,PV.agg.injEq,List.cons.injEq,PV.int.injEq,PV.str.injEq,PV.bool.injEq,true_and,and_true]at h
 obtain⟨rfl,rfl,rfl⟩:=h
 rfl
theorem uU:∀a b,ay a=ay b→a=b:=o5 hTy pQ
theorem zD:∀a b,dh a=dh b→a=b:=o5 hTs uU
theorem uV:∀a b,dO a=dO b→a=b:=o5 hPa yG
theorem agO(objs:List Obj)(K:KT) :
  (∀t,aK D 51 (.addr (aP t)) 0 objs K=K (.addr (.int .i64 t.kind)) objs 0)∧
  (∀t,aK D 51 (.addr (aP t)) 1 objs K=K (.addr (.int .i64 t.many)) objs 0)∧
  (∀t,aK D 51 (.addr (aP t)) 2 objs K=K (.addr (.str t.name)) objs 0)∧
  (∀t,aK D 51 (.addr (aP t)) 3 objs K=K (.addr (.str t.s)) objs 0)∧
  (∀t,aK D 51 (.addr (aP t)) 4 objs K=K (.addr (.int .i64 t.n)) objs 0)∧
  (∀t,aK D 51 (.addr (aP t)) 5 objs K=K (.addr (aB t.c)) objs 0)∧
  (∀s,aK D 61 (.addr (encS s)) 0 objs K=K (.addr (.bool s.part)) objs 0)∧
  (∀s,aK D 61 (.addr (encS s)) 1 objs K=K (.addr (.str s.name)) objs 0)∧
  (∀s,aK D 61 (.addr (encS s)) 2 objs K=K (.addr (.int .i64 s.n)) objs 0):=by
 refine⟨λn=>?_,λn=>?_,λn=>?_,λn=>?_,λn=>?_,λn=>?_,λn=>?_,λn=>?_,λn=>?_⟩
 all_goals
  simp only[aP,encS,aB,aK,eu,bS,↓M9,KH,uP,sG,G8,Jz,ne_eq,reduceCtorEq,not_false_eq_true,true_and,Bool.not_false,Bool.and_self,Nat.reduceAdd,Nat.reduceLeDiff,forall_const,false_implies]
theorem agP :
  (∀t,(aP t).cells=[.int .i64 t.kind,.int .i64 t.many,.str t.name,.str t.s,.int .i64 t.n,.int .i64 t.c.kind,.int .i64 t.c.many,.str t.c.name,.str t.c.s,.bool t.c.neg,.int .i64 t.c.e])∧
  (∀n,(aP n).isAgg=true)∧(∀n,(aP n).pure=true)∧(∀d m O n,eZ d m O (aP n)=aP n)∧(∀d m O n,iB d m O (aP n)=aP n)∧
  (∀s,(encS s).cells=[.bool s.part,.str s.name,.int .i64 s.n])∧
  (∀n,(encS n).isAgg=true)∧(∀n,(encS n).pure=true)∧(∀d m O n,eZ d m O (encS n)=encS n)∧(∀d m O n,iB d m O (encS n)=encS n):=
 ⟨λ_=>rfl,λ_=>rfl,λ_=>rfl,λ_ _ _ _=>rfl,λ_ _ _ _=>rfl,λ_=>rfl,λ_=>rfl,λ_=>rfl,λ_ _ _ _=>rfl,λ_ _ _ _=>rfl⟩
theorem agQ(a:dR) :
  (∀x,(aP a).putCells 0 [.int .i64 x]=aP { a with kind:=x })∧(∀x,(aP a).putCells 1 [.int .i64 x]=aP { a with many:=x })∧
  (∀x,(aP a).putCells 2 [.str x]=aP { a with name:=x })∧(∀x,(aP a).putCells 3 [.str x]=aP { a with s:=x })∧(∀x,(aP a).putCells 4 [.int .i64 x]=aP { a with n:=x })∧
  (∀c:Nd,(aP a).putCells 5 [.int .i64 c.kind,.int .i64 c.many,.str c.name,.str c.s,.bool c.neg,.int .i64 c.e]=aP { a with c:=c })∧
  (∀t:dR,(aP a).putCells 0 [.int .i64 t.kind,.int .i64 t.many,.str t.name,.str t.s,.int .i64 t.n,.int .i64 t.c.kind,.int .i64 t.c.many,.str t.c.name,.str t.c.s,.bool t.c.neg,.int .i64 t.c.e]=aP t):=
 ⟨λ_=>rfl,λ_=>rfl,λ_=>rfl,λ_=>rfl,λ_=>rfl,λ_=>rfl,λ_=>rfl⟩
theorem afA(a b:dR):Ac (aP a).cells (aP b).cells=some (decide (a=b)):=by
 obtain⟨k,m,nm,s,n,⟨a1,a2,a3,a4,a5,a6⟩⟩:=a
 obtain⟨k',m',Ou,s',n',⟨b1,b2,b3,b4,b5,b6⟩⟩:=b
 simp only[aP,PV.cells,Ac,eqS,if_true,Bool.and_true,dR.mk.injEq,Nd.mk.injEq,Option.some.injEq]
 rw[Bool.eq_iff_iff]
 simp[and_assoc]
theorem inY:xk aP:=by intro d n o x;cases d<;>rfl
theorem agS:xk ay:=by intro d n o x;cases d<;>rfl
theorem agT:xk encS:=by intro d n o x;cases d<;>rfl
theorem aeQ :
  (∀a0,PV.sl 11 [aP a0] none=ay [a0])∧(∀a0 a1,PV.sl 11 [aP a0,aP a1] none=ay [a0,a1])∧
  (∀a0,PV.sl 1 [ay a0] none=dh [a0])∧(∀a0 a1,PV.sl 1 [ay a0,ay a1] none=dh [a0,a1])∧
  (∀a0,PV.sl 3 [encS a0] none=dO [a0]):=
 ⟨λ_=>rfl,λ_ _=>rfl,λ_=>rfl,λ_ _=>rfl,λ_=>rfl⟩
theorem agU:type_of% (kE hTy)∧type_of% (kE hTs)∧type_of% (kE hPa)∧type_of% (aW pQ)∧type_of% (aW uU)∧type_of% (aW zD)∧type_of% (aW yG)∧type_of% (aW uV):=
 ⟨kE hTy,kE hTs,kE hPa,aW pQ,aW uU,aW zD,aW yG,aW uV⟩
theorem aeR :
  type_of% (agO)∧type_of% (agP)∧type_of% (agQ)∧type_of% (aeQ)∧
  type_of% (uQ hTy)∧type_of% (uQ hTs)∧type_of% (uQ hPa)∧type_of% (kE hTy)∧type_of% (kE hTs)∧type_of% (kE hPa)∧type_of% (uR hTy)∧type_of% (uR hTs)∧type_of% (uR hPa)∧
  type_of% (aW pQ)∧type_of% (aW uU)∧type_of% (aW zD)∧type_of% (aW yG)∧type_of% (aW uV)∧
  type_of% (jv hTy inY)∧type_of% (jv hTs agS)∧type_of% (jv hPa agT)∧
  type_of% (t_ (enc:=aP) (sz:=11) (λ_=>rfl) (λ_=>rfl))∧type_of% (t_ (enc:=ay) (sz:=1) (λ_=>rfl) (λ_=>rfl))∧type_of% (t_ (enc:=encS) (sz:=3) (λ_=>rfl) (λ_=>rfl))∧
  type_of% (λ(l:aD) (k:Nat)=>Na (ay l) rfl k)∧type_of% (λ(l:List aD) (k:Nat)=>Na (dh l) rfl k)∧type_of% (λ(l:List Stp) (k:Nat)=>Na (dO l) rfl k):=
 ⟨agO,agP,agQ,aeQ,uQ hTy,uQ hTs,uQ hPa,kE hTy,kE hTs,kE hPa,uR hTy,uR hTs,uR hPa,aW pQ,aW uU,aW zD,aW yG,aW uV,jv hTy inY,jv hTs agS,jv hPa agT,
  t_ (enc:=aP) (sz:=11) (λ_=>rfl) (λ_=>rfl),t_ (enc:=ay) (sz:=1) (λ_=>rfl) (λ_=>rfl),t_ (enc:=encS) (sz:=3) (λ_=>rfl) (λ_=>rfl),λ(l:aD) (k:Nat)=>Na (ay l) rfl k,λ(l:List aD) (k:Nat)=>Na (dh l) rfl k,λ(l:List Stp) (k:Nat)=>Na (dO l) rfl k⟩
theorem ak:type_of% @bf∧type_of% @agU:=⟨@bf,@agU⟩
theorem au:type_of% @bg∧type_of% @aeR:=⟨@bg,@aeR⟩
end Lp
namespace Lp
open Go Go.Proofs
theorem BI:aO Tryz.prog 72 27 [.tmp 4,.tmp 5] (gen [] [(195,none)] [] Tryz.f72):=a_ Tryz.func72 rfl (by kernel_rfl)
end Lp
namespace Lp
open Go Go.Proofs
theorem Dl:aO Tryz.prog 119 49 [.tmp 2] (gen [] [(9,none)] [] Tryz.f119):=a_ Tryz.func119 rfl (by kernel_rfl)
theorem yH:aO Tryz.prog 122 63 [.tmp 4,.tmp 5] (gen [] [(195,none)] [] Tryz.f122):=a_ Tryz.func122 rfl (by kernel_rfl)
theorem Fv:aO Tryz.prog 153 7 [.tmp 2] (gen [] [] [] Tryz.f153):=a_ Tryz.func153 rfl (by kernel_rfl)
theorem yI:aO Tryz.prog 130 33 [.tmp 2] (gen [31] [] [] Tryz.f130):=a_ Tryz.func130 rfl (by kernel_rfl)
theorem BJ:aO Tryz.prog 121 19 [.tmp 2] (gen [] [(25,none)] [] Tryz.f121):=a_ Tryz.func121 rfl (by kernel_rfl)
theorem Dm:aO Tryz.prog 175 77 [.tmp 4] (gen [] [(99,none)] [] Tryz.f175):=a_ Tryz.func175 rfl (by kernel_rfl)
theorem Fw:aO Tryz.prog 176 58 [.tmp 2] (gen [7,19,36,56] [] [] Tryz.f176):=a_ Tryz.func176 rfl (by kernel_rfl)
theorem Al:aO Tryz.prog 152 74 [.tmp 4,.tmp 5] (gen [] [(451,none)] [] Tryz.f152):=a_ Tryz.func152 rfl (by kernel_rfl)
theorem BK:aO Tryz.prog 129 26 [.tmp 4,.tmp 5] (gen [] [] [] Tryz.f129):=a_ Tryz.func129 rfl (by kernel_rfl)
theorem yJ:aO Tryz.prog 120 50 [.tmp 2,.tmp 3,.tmp 4] (gen [] [(97,none)] [] Tryz.f120):=a_ Tryz.func120 rfl (by kernel_rfl)
def bX:LC:=
 (.seq (.seq (.reg [⟨some 43,.move (.tmp 9),none,false⟩,
  ⟨some 44,.move (.tmp 1),none,false⟩,
  ⟨some 45,.binOp .gtr 3 (.tmp 43) (.tmp 44) 3,none,false⟩])
  (.cond (.tmp 45)
   (.seq (.reg [⟨some 46,.move (.tmp 0),none,false⟩,
    ⟨some 47,.move (.tmp 1),none,false⟩,
    ⟨some 48,.move (.tmp 9),none,false⟩,
    ⟨some 49,.slice 9 (.tmp 46) (some (.tmp 47)) (some (.tmp 48)) none,none,false⟩,
    ⟨some 50,.build 61 ⟨[(1,(.tmp 49))]⟩,none,false⟩,
    ⟨some 51,.move (.tmp 9),none,false⟩,
    ⟨none,.store 61 (.tmp 6) (.tmp 50),none,false⟩,
    ⟨some 7,.assign (.tmp 51),none,false⟩])
   .ret)
   .skip))
  (.seq (.reg [⟨some 53,.move (.tmp 0),none,false⟩,
   ⟨some 54,.move (.tmp 1),none,false⟩,
   ⟨some 55,.slice 9 (.tmp 53) (some (.tmp 54)) none none,none,false⟩,
   ⟨some 56,.call ⟨.value (.func 120),⟨[(.tmp 55)]⟩,⟨[9]⟩⟩,none,false⟩,
   ⟨some 52,.move (.tmp 56),none,false⟩,
   ⟨some 57,.extract (.tmp 52) 0,none,false⟩,
   ⟨some 58,.extract (.tmp 52) 1,none,false⟩,
   ⟨some 59,.extract (.tmp 52) 2,none,false⟩,
   ⟨some 10,.assign (.tmp 57),none,false⟩,
   ⟨some 11,.assign (.tmp 58),none,false⟩,
   ⟨some 12,.assign (.tmp 59),none,false⟩])
  (.seq (.seq (.draw [⟨some 60,.move (.tmp 12),none,false⟩,
   ⟨some 61,.binOp .eql 34 (.tmp 60) (.const (.int .i64 0)) 34,none,false⟩,
   ⟨some 62,.move (.tmp 61),none,false⟩,
   ⟨some 63,.move (.tmp 10),some (some 62,true),false⟩,
   ⟨some 64,.call ⟨.value (.func 119),⟨[(.tmp 63)]⟩,⟨[9]⟩⟩,some (some 62,true),false⟩,
   ⟨some 65,.unOp .not 4 (.tmp 64),some (some 62,true),false⟩,
   ⟨some 66,.pick (.tmp 62) (.tmp 65) (.const (.bool false)),none,false⟩,
   ⟨some 67,.move (.tmp 66),none,false⟩,
   ⟨some 68,.move (.tmp 10),some (some 67,true),false⟩,
   ⟨some 69,.call ⟨.value (.func 121),⟨[(.tmp 68)]⟩,⟨[9]⟩⟩,some (some 67,true),false⟩,
   ⟨some 70,.move (.tmp 0),some (some 67,true),false⟩,
   ⟨some 71,.move (.tmp 1),some (some 67,true),false⟩,
   ⟨some 72,.move (.tmp 1),some (some 67,true),false⟩,
   ⟨some 73,.move (.tmp 11),some (some 67,true),false⟩,
   ⟨some 74,.binOp .add 3 (.tmp 72) (.tmp 73) 3,some (some 67,true),false⟩,
   ⟨some 75,.slice 9 (.tmp 70) (some (.tmp 71)) (some (.tmp 74)) none,some (some 67,true),false⟩,
   ⟨some 76,.binOp .eql 9 (.tmp 69) (.tmp 75) 9,some (some 67,true),false⟩,
   ⟨some 77,.pick (.tmp 67) (.tmp 76) (.const (.bool false)),none,false⟩]
  [0,0,0,0,0,0,0,0,0,0,768,1792,3840,7936,3840,768,0,0])
  (.cond (.tmp 77)
   (.seq (.reg [⟨some 78,.move (.tmp 10),none,false⟩,
    ⟨some 79,.build 61 ⟨[(1,(.tmp 78))]⟩,none,false⟩,
    ⟨some 80,.move (.tmp 1),none,false⟩,
    ⟨some 81,.move (.tmp 11),none,false⟩,
    ⟨some 82,.binOp .add 3 (.tmp 80) (.tmp 81) 3,none,false⟩,
    ⟨none,.store 61 (.tmp 6) (.tmp 79),none,false⟩,
    ⟨some 7,.assign (.tmp 82),none,false⟩])
   .ret)
   .skip))
  (.seq (.reg [⟨some 83,.move (.tmp 2),none,false⟩,
   ⟨some 84,.unOp .not 4 (.tmp 83),none,false⟩])
  (.cond (.tmp 84)
   (.seq (.reg [⟨some 85,.build 61 ⟨[]⟩,none,false⟩,
    ⟨some 86,.move (.tmp 8),none,false⟩,
    ⟨none,.store 61 (.tmp 6) (.tmp 85),none,false⟩,
    ⟨some 7,.assign (.tmp 86),none,false⟩])
   .ret)
   .skip)))))
def cB:LC:=
 (.seq (.seq (.reg [⟨some 90,.move (.tmp 1),none,false⟩,
  ⟨some 91,.move (.tmp 0),none,false⟩,
  ⟨some 92,.call ⟨.builtin .len,⟨[(.tmp 91)]⟩,⟨[9]⟩⟩,none,false⟩,
  ⟨some 93,.binOp .geq 3 (.tmp 90) (.tmp 92) 3,none,false⟩,
  ⟨some 94,.move (.tmp 93),none,false⟩,
  ⟨some 95,.move (.tmp 0),some (some 94,false),false⟩,
  ⟨some 96,.move (.tmp 1),some (some 94,false),false⟩,
  ⟨some 97,.index 9 (.tmp 95) (.tmp 96),some (some 94,false),false⟩,
  ⟨some 98,.binOp .neq 5 (.tmp 97) (.const (.int .u8 91)) 5,some (some 94,false),false⟩,
  ⟨some 99,.pick (.tmp 94) (.const (.bool true)) (.tmp 98),none,false⟩])
 (.cond (.tmp 99)
  (.seq (.reg [⟨some 100,.build 61 ⟨[]⟩,none,false⟩,
   ⟨some 101,.move (.tmp 8),none,false⟩,
   ⟨none,.store 61 (.tmp 6) (.tmp 100),none,false⟩,
   ⟨some 7,.assign (.tmp 101),none,false⟩])
  .ret)
  .skip))
 (.seq (.reg [⟨some 103,.move (.tmp 0),none,false⟩,
  ⟨some 104,.move (.tmp 1),none,false⟩,
  ⟨some 105,.binOp .add 3 (.tmp 104) (.const (.int .i64 1)) 3,none,false⟩,
  ⟨some 106,.call ⟨.value (.func 122),⟨[(.tmp 103),(.tmp 105)]⟩,⟨[9,3]⟩⟩,none,false⟩,
  ⟨some 102,.move (.tmp 106),none,false⟩,
  ⟨some 107,.extract (.tmp 102) 0,none,false⟩,
  ⟨some 108,.extract (.tmp 102) 1,none,false⟩,
  ⟨some 13,.assign (.tmp 107),none,false⟩,
  ⟨some 14,.assign (.tmp 108),none,false⟩])
 (.seq (.seq (.reg [⟨some 109,.move (.tmp 13),none,false⟩,
  ⟨some 110,.binOp .lss 3 (.tmp 109) (.const (.int .i64 0)) 3,none,false⟩,
  ⟨some 111,.move (.tmp 110),none,false⟩,
  ⟨some 112,.move (.tmp 14),some (some 111,false),false⟩,
  ⟨some 113,.move (.tmp 0),some (some 111,false),false⟩,
  ⟨some 114,.call ⟨.builtin .len,⟨[(.tmp 113)]⟩,⟨[9]⟩⟩,some (some 111,false),false⟩,
  ⟨some 115,.binOp .geq 3 (.tmp 112) (.tmp 114) 3,some (some 111,false),false⟩,
  ⟨some 116,.pick (.tmp 111) (.const (.bool true)) (.tmp 115),none,false⟩,
  ⟨some 117,.move (.tmp 116),none,false⟩,
  ⟨some 118,.move (.tmp 0),some (some 117,false),false⟩,
  ⟨some 119,.move (.tmp 14),some (some 117,false),false⟩,
  ⟨some 120,.index 9 (.tmp 118) (.tmp 119),some (some 117,false),false⟩,
  ⟨some 121,.binOp .neq 5 (.tmp 120) (.const (.int .u8 93)) 5,some (some 117,false),false⟩,
  ⟨some 122,.pick (.tmp 117) (.const (.bool true)) (.tmp 121),none,false⟩])
 (.cond (.tmp 122)
  (.seq (.reg [⟨some 123,.build 61 ⟨[]⟩,none,false⟩,
   ⟨some 124,.move (.tmp 8),none,false⟩,
   ⟨none,.store 61 (.tmp 6) (.tmp 123),none,false⟩,
   ⟨some 7,.assign (.tmp 124),none,false⟩])
  .ret)
  .skip))
 (.seq (.reg [⟨some 125,.move (.tmp 13),none,false⟩,
  ⟨some 126,.build 61 ⟨[(0,(.const (.bool true))),(2,(.tmp 125))]⟩,none,false⟩,
  ⟨some 127,.move (.tmp 14),none,false⟩,
  ⟨some 128,.binOp .add 3 (.tmp 127) (.const (.int .i64 1)) 3,none,false⟩,
  ⟨none,.store 61 (.tmp 6) (.tmp 126),none,false⟩,
  ⟨some 7,.assign (.tmp 128),none,false⟩])
 .ret))))
def gU:LC:=
 (.seq (.reg [⟨some 6,.alloc 61,none,false⟩,
  ⟨some 7,.assign (.const (.int .i64 0)),none,false⟩])
 (.seq (.reg [⟨some 15,.move (.tmp 1),none,false⟩,
  ⟨some 8,.assign (.tmp 15),none,false⟩])
 (.seq (.seq (.reg [⟨some 16,.move (.tmp 1),none,false⟩,
  ⟨some 17,.move (.tmp 0),none,false⟩,
  ⟨some 18,.call ⟨.builtin .len,⟨[(.tmp 17)]⟩,⟨[9]⟩⟩,none,false⟩,
  ⟨some 19,.binOp .lss 3 (.tmp 16) (.tmp 18) 3,none,false⟩,
  ⟨some 20,.move (.tmp 19),none,false⟩,
  ⟨some 21,.move (.tmp 0),some (some 20,true),false⟩,
  ⟨some 22,.move (.tmp 1),some (some 20,true),false⟩,
  ⟨some 23,.index 9 (.tmp 21) (.tmp 22),some (some 20,true),false⟩,
  ⟨some 24,.binOp .eql 5 (.tmp 23) (.const (.int .u8 46)) 5,some (some 20,true),false⟩,
  ⟨some 25,.pick (.tmp 20) (.tmp 24) (.const (.bool false)),none,false⟩])
 (.cond (.tmp 25)
  (.seq (.reg [⟨some 26,.move (.tmp 1),none,false⟩,
   ⟨some 27,.binOp .add 3 (.tmp 26) (.const (.int .i64 1)) 3,none,false⟩,
   ⟨some 1,.assign (.tmp 27),none,false⟩])
  (.seq (.reg [⟨some 28,.move (.tmp 1),none,false⟩,
   ⟨some 9,.assign (.tmp 28),none,false⟩])
  (.seq (.block 0 (.loop [true,true,true,false,false,false,true,false,true,true,false,false,false,false,false,false,false,false,false,false,false,false,false,false,false,false,false,false,false,false,false,false,false,false,false,false,false,false,false,false,false,false,false,false,false,false,false,false,false,false,false,false,false,false,false,false,false,false,false,false,false,false,false,false,false,false,false,false,false,false,false,false,false,false,false,false,false,false,false,false,false,false,false,false,false,false,false,false,false,false,false,false,false,false,false,false,false,false,false,false,false,false,false,false,false,false,false,false,false,false,false,false,false,false,false,false,false,false,false,false,false,false,false,false,false,false,false,false,false] none
   (.seq (.seq (.reg [⟨some 29,.move (.tmp 9),none,false⟩,
    ⟨some 30,.move (.tmp 0),none,false⟩,
    ⟨some 31,.call ⟨.builtin .len,⟨[(.tmp 30)]⟩,⟨[9]⟩⟩,none,false⟩,
    ⟨some 32,.binOp .lss 3 (.tmp 29) (.tmp 31) 3,none,false⟩,
    ⟨some 33,.move (.tmp 32),none,false⟩,
    ⟨some 34,.move (.tmp 0),some (some 33,true),false⟩,
    ⟨some 35,.move (.tmp 1),some (some 33,true),false⟩,
    ⟨some 36,.move (.tmp 9),some (some 33,true),false⟩,
    ⟨some 37,.binOp .add 3 (.tmp 36) (.const (.int .i64 1)) 3,some (some 33,true),false⟩,
    ⟨some 38,.slice 9 (.tmp 34) (some (.tmp 35)) (some (.tmp 37)) none,some (some 33,true),false⟩,
    ⟨some 39,.call ⟨.value (.func 119),⟨[(.tmp 38)]⟩,⟨[9]⟩⟩,some (some 33,true),false⟩,
    ⟨some 40,.pick (.tmp 33) (.tmp 39) (.const (.bool false)),none,false⟩])
    (.cond (.tmp 40)
     .skip
     (.exit 0)))
    (.block 1 (.reg [⟨some 41,.move (.tmp 9),none,false⟩,
     ⟨some 42,.binOp .add 3 (.tmp 41) (.const (.int .i64 1)) 3,none,false⟩,
     ⟨some 9,.assign (.tmp 42),none,false⟩])))))
  bX)))
  (.seq (.reg [⟨some 87,.move (.tmp 2),none,false⟩])
  (.cond (.tmp 87)
   (.seq (.reg [⟨some 88,.build 61 ⟨[]⟩,none,false⟩,
    ⟨some 89,.move (.tmp 8),none,false⟩,
    ⟨none,.store 61 (.tmp 6) (.tmp 88),none,false⟩,
    ⟨some 7,.assign (.tmp 89),none,false⟩])
   .ret)
   .skip))))
 cB)))
theorem Dn:aO Tryz.prog 107 129 [.cell 6 61,.tmp 7] gU:=⟨_,_,Tryz.func107,by kernel_rfl,rfl,Tryz.ntmps107,rfl,by kernel_rfl⟩
theorem Am:aO Tryz.prog 96 52 [.tmp 4,.tmp 5] (gen [10] [(195,some (1,1))] [] Tryz.f96):=a_ Tryz.func96 rfl (by kernel_rfl)
theorem Dp:aO Tryz.prog 66 24 [.tmp 2,.tmp 3,.tmp 4] (gen [] [] [] Tryz.f66):=a_ Tryz.func66 rfl (by kernel_rfl)
theorem Ao:aO Tryz.prog 67 15 [.tmp 2] (gen [] [(9,none)] [] Tryz.f67):=a_ Tryz.func67 rfl (by kernel_rfl)
theorem Dq:aO Tryz.prog 34 20 [.tmp 2,.tmp 3] (gen [] [] [] Tryz.f34):=a_ Tryz.func34 rfl (by kernel_rfl)
theorem Dr:aO Tryz.prog 99 11 [.tmp 2] (gen [] [] [] Tryz.f99):=a_ Tryz.func99 rfl (by kernel_rfl)
end Lp
namespace Lp
open Go Go.Proofs
theorem Ry(v:Vl)(i c:Nat)(hv:v.length≤4611686018427387904)(h:skip (v.drop i) 1=some c):ai Tryz.prog 187 [aJ v,.int .i64 i] [] (.int .i64 (i+c:Nat)) []:=by
 refine Oj.pure (T:=aR Tryz.prog []) 0 hD (aj ah) aV (by decide) ?_
 (conv=>arg 4;cbv);simp only[↓Bq,Gf,↓CY,↓Af,↓CZ,Ag,↓nN,oh,jZ,fU,Fg,Nat.reduceAdd,Nat.reduceSub,sG,bS,Ik,Il,yo]
 refine aF (λm S=>∃(j k c':Nat),m=c'∧skip (v.drop j) k=some c'∧j+c'=i+c∧S=⟨mkT 19 [(0,aJ v),(1,.int .i64 j),(5,.int .i64 k)],[]⟩) c ⟨i,1,c,rfl,h,rfl,?_⟩ ?_
 ·simp only[Uq,aJ,sG];rfl
 rintro m S ⟨j,k,c',rfl,hs,hj,rfl⟩
 simp only[↓Bq,Gf,↓CY,↓Af,↓CZ,Ag,↓nN,oh,jZ,fU,Fg,Nat.reduceAdd,Nat.reduceSub,sG,Uq,bS,aJ,aB,Ik,Il,yo,bC,fQ,aK,eu,↓AU,↓M9,KH,uP,G8,Jz,Bool.not_false,Bool.and_self,Nat.reduceLeDiff,forall_const,ne_eq,reduceCtorEq,not_false_eq_true,true_and,PV.bool.injEq,Int.toNat_natCast,Nat.zero_add,decide_eq_true_eq,List.length_cons,List.length_nil]
 refine⟨λhk=>?_,λhk=>?_⟩
 ·obtain⟨k,rfl⟩:∃k',k=k'+1:=⟨k-1,by omega⟩
  have hjl:j<v.length:=by
   rcases Nat.lt_or_ge j v.length with h' | h'
   ·exact h'
   ·rw[List.drop_eq_nil_of_le h']at hs;simp[skip]at hs
  rw[List.drop_eq_getElem_cons hjl]at hs
  obtain⟨hm,c'',rfl,hs'⟩:=dF hs
  have hle:=dS _ _ _ hs'
  simp only[List.length_drop]at hle
  have hk2:((k+1:Nat):Int)+(v[j].many-1)=((k+v[j].many.toNat:Nat):Int):=by omega
  exact⟨by omega,v[j],List.getElem?_eq_getElem hjl,by omega,by omega,by omega,c'',by omega,j+1,k+v[j].many.toNat,c'',rfl,hs',by omega,by rw[hk2];rfl⟩
 ·rw[if_pos trivial]
  have hk0:k=0:=by have:=of_decide_eq_false hk;omega
  subst hk0
  have:m=0:=by cases hd:v.drop j<;>rw[hd]at hs<;>simp[skip]at hs<;>exact hs.symm
  subst this
  congr 1;omega
def sH(v:Vl):Obj:=⟨27,6,v.map aB,true,0⟩
theorem yK(v:Vl):fI [sH v]:=by
 intro o ho x hx p hp
 simp only[List.mem_singleton]at ho
 subst ho
 simp only[sH,List.mem_map]at hx
 obtain⟨n,_,rfl⟩:=hx
 simp only[aB,PV.cells,List.mem_cons,List.not_mem_nil,or_false]at hp
 rcases hp with rfl | rfl | rfl | rfl | rfl | rfl<;>rfl
theorem U0(n:Nd):(aB n).cells.length=6∧(aB n).cells.all PV.storable=true:=⟨rfl,rfl⟩
theorem abD(d n:Nat)(objs:List Obj)(v:Vl):(v.map aB).map (PV.bL (eZ d n objs))=v.map aB:=by
 rw[List.map_map]
 exact List.map_congr_left λx _=>rfl
theorem Za:ai Tryz.prog 188 [.sl 6 [] (some true)] [] (.bO 0 0) [sH []]:=by
 refine ji.made (T:=aR Tryz.prog []) 0 hD (aj ah) aV ?_
 (conv=>arg 4;cbv);simp only[↓Bq,Gf,↓CY,↓Af,↓CZ,Ag,↓nN,Gg,Fg,Nat.reduceAdd,Nat.reduceSub,sG,Uq,bS,Ik,Il,yo,eP,forall_const,reduceCtorEq,false_imp_iff,and_true,TK.slice.injEq,exists_eq',true_and]
 exact⟨_,0,0,_,Weak.Gb 2 27 6 rfl,rfl,rfl,rfl,rfl,rfl,yK []⟩
theorem U1(v:Vl)(hv:v.length≤1099511627776):ai Tryz.prog 188 [.sl 6 (v.map aB) (some false)] [] (.bO 0 0) [sH v]:=by
 refine ji.made (T:=aR Tryz.prog []) 0 hD (aj ah) aV ?_
 (conv=>arg 4;cbv);simp only[↓Bq,Gf,↓CY,↓Af,↓CZ,Ag,↓nN,Gg,Fg,Nat.reduceAdd,Nat.reduceSub,sG,Uq,bS,Ik,Il,yo,eP,forall_const,reduceCtorEq,false_imp_iff,and_true,TK.slice.injEq,exists_eq',true_and]
 simp only[bW,eB,nE,newObj,jq,bS,ne_eq,reduceCtorEq,not_false_eq_true,true_and,if_true,List.all_nil,Nat.zero_mul,Nat.zero_le,List.nil_append,List.length_nil,List.getElem?_cons_zero,Option.some.injEq]
 refine⟨rfl,rfl,rfl,rfl,?_,_,rfl,rfl,rfl,rfl,rfl,?_,?_,λ_ _ h=>h.elim,_,0,2,_,Weak.refl _ _,rfl,rfl,rfl,rfl,?_,yK v⟩
 ·intro y hy
  obtain⟨n,_,rfl⟩:=List.mem_map.1 hy
  exact U0 n
 ·simp;omega
 ·simp;omega
 ·simp only[f_,sH,List.replicate_zero,List.nil_append,abD]
theorem U2(v:Vl)(hv:v.length≤1099511627776):ai Tryz.prog 188 [aJ v] [] (.bO 0 0) [sH v]:=
 ai.split (pre:=[]) (post:=[]) (λh=>by
  have:v=[]:=by simpa using h
  subst this
  exact Za) (U1 v hv)
end Lp
namespace Lp
open Go Go.Proofs
open List (length_cons length_nil)
def rowOf(p:Vl):List PV:=[.str (nameOf p),aJ (ic p)]
def Fx:dD:=λargs objs K=>∃(v:Vl) (i c:Nat),args=[aJ v,.int .i64 i]∧v.length≤4611686018427387904∧skip (v.drop i) 1=some c∧K (.int .i64 (i+c:Nat)) objs 0
def JD:dD:=λargs objs K=>∃v:Vl,args=[aJ v]∧v.length≤1099511627776∧K (.bO objs.length 0) (objs++[sH v]) 2
theorem Ov:aC Tryz.prog 187 Fx:=by
 rintro args objs K ⟨v,i,c,rfl,hv,hs,hk⟩
 exact⟨_,_,_,.pure _ rfl (Ry v i c hv hs),hk⟩
theorem Rz:aC Tryz.prog 188 JD:=by
 rintro args objs K ⟨v,rfl,hv,hk⟩
 have h:=nJ.made (objs:=objs) _ _ rfl (yK v) (U2 v hv)
 exact⟨_,_,_,h,by simpa[PV.shift,PV.rq] using hk⟩
theorem Zb(v:Vl):ai Tryz.prog 174 [aJ v] [] (.fn 186 [] [.addr (aJ v)]) []:=by
 refine UY.pure (T:=aR Tryz.prog []) 1 hD (aj ah) aV (by decide) ?_
 (conv=>arg 4;cbv);simp only[↓Bq,Gf,↓CY,↓Af,↓CZ,Ag,↓nN,oh,jZ,fU,Nat.reduceAdd,Nat.reduceSub,sG,bS,KN,kH,newObj,aJ,G8,Jz,ne_eq,reduceCtorEq,not_false_eq_true,true_and,length_cons,length_nil,List.nil_append]
 exact⟨rfl,rfl,rfl⟩
theorem Gj(v:Vl)(n:Nd)(r:Vl)(ps:List Vl)(hv:v=n::r)(hl:v.length≤1099511627776)(hm:0≤n.many)(hp:parts n.many.toNat r=some ps) :
  Gives Tryz.prog 186 [.addr (aJ v)] (ps.map rowOf):=by
 refine Oi.gives (fnT:=uO [(187,Fx),(188,JD)]) hD (af Ov (af Rz ah)) aV ?_
 intro I J objs y hI KY hJl
 subst hv
 (conv=>arg 4;cbv);simp only[↓Bq,kiR,↓CY,↓Af,↓CZ,Ag,↓nN,Nat.reduceAdd,Nat.reduceSub,sG,bS,Ik,Il,yo,bC,fQ,aK,eu,↓AU,↓M9,KH,uP,G8,Jz,aJ,aB,List.map_cons,Int.reduceToNat,Int.toNat_zero,Int.reduceLE,Bool.not_false,Bool.and_self,Nat.reduceLeDiff,forall_const,ne_eq,reduceCtorEq,not_false_eq_true,true_and,PV.bool.injEq,Int.toNat_natCast,Nat.zero_add,length_cons,length_nil]
 refine aF (λm S=>∃(k i:Nat) (O:List Obj) (rest:List Vl),k+rest.length=ps.length∧m=rest.length∧parts rest.length ((n::r).drop i)=some rest∧ps.drop k=rest∧I k O∧
  S=⟨mkT 34 [(0,.H7 y),(1,.addr (aJ (n::r))),(3,.int .i64 i),(9,.int .i64 n.many),(10,.int .i64 k)],O⟩) ps.length ?_ ?_
 ·have hpl:=bD _ _ _ hp
  refine⟨0,1,objs,ps,by omega,rfl,by rw[hpl];simpa using hp,by simp,hI,?_⟩
  simp only[Uq,aJ,sG];rfl
 have hpl:=bD _ _ _ hp
 have Fy:n.many.toNat≤1099511627776:=by have:=fu _ _ _ hp;simp at hl;omega
 generalize hv:n::r=v at *
 rintro m S ⟨k,i,O,rest,hk,rfl,hps,hd,Zc,rfl⟩
 simp only[↓Bq,kiR,↓CY,↓Af,↓CZ,Ag,↓nN,Nat.reduceAdd,Nat.reduceSub,sG,bS,Ik,Il,yo,caR,taR,Fx,JD,Nat.reduceBEq,BEq.rfl,cond_true,cond_false,jJ,dJ,bC,fQ,aK,eu,↓AU,↓M9,KH,uP,G8,Jz,aJ,List.map_cons,Int.reduceToNat,Int.toNat_zero,Int.reduceLE,Bool.not_false,Bool.and_self,Nat.reduceLeDiff,forall_const,ne_eq,reduceCtorEq,not_false_eq_true,true_and,PV.bool.injEq,Int.toNat_natCast,Nat.zero_add,length_cons,length_nil]
 refine⟨λhkm=>?_,λhkm=>?_⟩
 ·have agV:(k:Int)<n.many:=of_decide_eq_true hkm
  obtain⟨q,hq⟩:∃q,rest.length=q+1:=⟨rest.length-1,by omega⟩
  rw[hq]at hps
  obtain⟨c,qs,hsk,hr',hqs⟩:=d9 hps
  have hc:=dS _ _ _ hsk
  simp only[List.length_drop]at hc
  have hlv:v.length≤1099511627776:=hl
  refine⟨v,i,c,rfl,by omega,hsk,.inr trivial,by omega,by omega,by simp;omega,(v.drop i).take c,?_,by simp;omega,sH ((v.drop i).take c),by simp,rfl,rfl,by simp[sH];omega,rfl,sH ((v.drop i).take c),by simp,rfl,rfl,?_⟩
  ·rw[←List.map_take,←List.map_drop,←List.take_drop]
  ·obtain⟨hdn,tl,hpe⟩:∃a b,(v.drop i).take c=a::b:=by
     cases hx:(v.drop i).take c with
     | nil=>have:=congrArg List.length hx;simp at this;omega
     | cons a b=>exact⟨a,b,rfl⟩
   rw[hpe]at hr' ⊢
   refine⟨sH (hdn::tl),aB hdn,by simp,rfl,rfl,rfl,by simp,rfl,by simp[aB,PV.cells],(λh=>by cases h),rfl,?_⟩
   have hset:(O++[sH (hdn::tl)]).set O.length { sH (hdn::tl) with xs:=(sH (hdn::tl)).xs.set 0 ((aB hdn).putCells 2 (PV.str []).cells) }=O++[sH (ic (hdn::tl))]:=by
    rw[List.set_append_right _ _ (Nat.le_refl _),Nat.sub_self]
    rfl
   rw[hset]
   refine aN _ (Weak.freeze 1 O.length (KY k O Zc).1 _) ?_
   have hgo:(O++[sH (ic (hdn::tl))])[O.length]?=some (sH (ic (hdn::tl))):=by simp
   have hfr:eZ 1 O.length (O++[sH (ic (hdn::tl))]) (.bO O.length 0)=aJ (ic (hdn::tl)):=by
    simp only[eZ,Nat.lt_irrefl,if_false,gX,hgo]
    simp only[sH,Nat.le_refl,decide_true,Bool.and_self,BEq.rfl,if_true,aJ,List.map_map]
    congr 1
   have hro:(O++[sH (ic (hdn::tl))]).take O.length=O:=by simp
   have hpost:∃w,w=ic (hdn::tl):=⟨_,rfl⟩
   obtain⟨pc,hpc⟩:=hpost
   rw[←hpc]at hfr hro hgo ⊢
   have hq1:(eZ 1 O.length (O++[sH pc]) (.bP O.length 0 0 0)).pure=true:=AV (Nat.le_refl _)
   have hq2:(eZ 1 O.length (O++[sH pc]) (.bP O.length 0 0 2)).pure=true:=AV (Nat.le_refl _)
   have hq3:(aJ pc).pure=true:=rfl
   simp only[St.freeze,sG,fzR,Fg,hfr,hro,hq1,hq2,hq3,puR,Qu,Bool.not_true,aB,Ic (KY k O Zc).2,↓Bq,kiR,↓CY,↓Af,↓CZ,Ag,↓nN,Nat.reduceAdd,Nat.reduceSub,bS,Ik,Il,yo,caR,Yof,bC,fQ,aK,eu,↓AU,↓M9,KH,uP,G8,Jz,Int.reduceToNat,Int.toNat_zero,Int.reduceLE,Bool.not_false,Bool.and_self,Nat.reduceLeDiff,forall_const,ne_eq,reduceCtorEq,not_false_eq_true,true_and,PV.bool.injEq,Int.toNat_natCast,Nat.zero_add,length_cons,length_nil]
   have hvi:v[i]?=some hdn:=by
    have:=congrArg (λl=>l[0]?) hpe
    simp only[List.getElem?_cons_zero,List.getElem?_take,List.getElem?_drop,Nat.add_zero]at this
    rw[if_pos (by omega)]at this
    exact this
   have hpk:ps[k]?=some (hdn::tl):=by
    have:=congrArg (λl=>l[0]?) (hd.trans hr')
    simpa using this
   have hdq:ps.drop (k+1)=qs:=by
    have:=congrArg List.tail (hd.trans hr')
    simpa[List.tail_drop] using this
   have hlq:qs.length=q:=by rw[hr']at hq;simpa using hq
   refine⟨by omega,hdn,hvi,k,Zc,?_,λobjs' hI'=>⟨λh=>h.elim,⟨by omega,by omega⟩,qs.length,by omega,k+1,i+c,objs',qs,by omega,rfl,?_,hdq,hI',?_⟩,λobjs' hJ'=>?_⟩
   ·rw[List.getElem?_map,hpk,hpc];rfl
   ·rw[hlq];rw[List.drop_drop]at hqs;exact hqs
   ·simp only[Uq,aJ,sG];rfl
   ·exact⟨⟨.inr rfl,.inr ⟨k,by rw[List.length_map];omega,hJ'⟩⟩,λh=>h.elim⟩
 ·rw[if_pos trivial]
  have hge:¬ (k:Int)<n.many:=of_decide_eq_false hkm
  refine⟨.inl rfl,?_⟩
  have:k=ps.length:=by omega
  rw[List.length_map,←this]
  exact .inl Zc
end Lp
namespace Lp
open Go Go.Proofs
open List (length_cons length_nil mem_singleton nil_append)
def Dt:dD:=λargs objs K=>∃v:Vl,args=[aJ v]∧K (.fn 186 [] [.addr (aJ v)]) objs 0
theorem JE:aC Tryz.prog 174 Dt:=by
 rintro args objs K ⟨v,rfl,hk⟩
 exact⟨_,_,_,.pure _ rfl (Zb v),hk⟩
def Zd(done:List Vl)(O:List Obj):Prop:=
 (done=[]∧O=[⟨80,1,[.sl 0 [] (some true)],true,1⟩])∨
 (done≠[]∧∃ver,O=[⟨80,1,[.bO 1 ver],true,1⟩,⟨41,1,done.map λp=>aJ (ic p),true,ver⟩])
theorem RA(v:Vl)(n:Nd)(r:Vl)(ps:List Vl)(hv:v=n::r)(hl:v.length≤1099511627776)(hm:0≤n.many)(hp:parts n.many.toNat r=some ps) :
  ai Tryz.prog 151 [aJ v] [] (if ps=[] then .sl 0 [] (some true) else .sl 1 (ps.map λp=>aJ (ic p)) none) []:=by
 refine Rn.pure (T:=aR Tryz.prog [(174,Dt)]) 2 hD (aj (af JE ah)) aV (by decide) ?_
 (conv=>arg 4;cbv);simp only[↓Bq,Gf,↓CY,↓Af,↓CZ,Ag,↓nN,Nat.reduceAdd,Nat.reduceSub,sG,bS,caR,taR,Dt,Nat.reduceBEq,BEq.rfl,cond_true,cond_false,tQ,newObj,aL,G8,Jz,ne_eq,reduceCtorEq,not_false_eq_true,true_and,length_cons,length_nil,nil_append]
 refine⟨rfl,v,rfl,?_⟩
 refine UW 186 [.addr (aJ v)] (ps.map rowOf) (λi O=>Zd (ps.take i) O∧i≤ps.length) rfl rfl rfl trivial (Gj v n r ps hv hl hm hp) ?_ ⟨.inl ⟨by simp,rfl⟩,Nat.zero_le _⟩ ?_ ?_ ?_
 ·intro y hy
  obtain⟨p,_,rfl⟩:=List.mem_map.1 hy
  rfl
 ·rintro i O ⟨h | ⟨_,ver,rfl⟩,_⟩
  ·rw[h.2]
   refine⟨by simp,?_⟩
   intro o ho x hx c hc
   simp only[mem_singleton]at ho
   subst ho
   simp only[mem_singleton]at hx
   subst hx
   simp only[PV.cells,mem_singleton]at hc
   subst hc
   rfl
  ·refine⟨by simp,?_⟩
   intro o ho x hx c hc
   simp only[List.mem_cons,List.not_mem_nil,or_false]at ho
   rcases ho with rfl | rfl
   ·simp only[mem_singleton]at hx
    subst hx
    simp only[PV.cells,mem_singleton]at hc
    subst hc
    rfl
   ·simp only[List.mem_map]at hx
    obtain⟨p,_,rfl⟩:=hx
    simp only[aJ,PV.cells,mem_singleton]at hc
    subst hc
    rfl
 ·rintro i args O ⟨hO,hi⟩ ha
  rw[List.getElem?_map]at ha
  obtain⟨p,hpi,rfl⟩:∃p,ps[i]?=some p∧rowOf p=args:=by
   cases hx:ps[i]? with
   | none=>rw[hx]at ha;simp at ha
   | some p=>rw[hx]at ha;exact⟨p,rfl,by simpa using ha⟩
  have hil:i<ps.length:=(List.getElem?_eq_some_iff.1 hpi).1
  have htk:ps.take (i+1)=ps.take i++[p]:=by rw[List.take_add_one,hpi];rfl
  rcases hO with ⟨h0,rfl⟩ | ⟨h0,ver,rfl⟩
  ·simp only[rowOf,rG,obR,↓M9,↓JA,reduceIte,Bool.false_eq_true,if_false,↓Bq,↓CY,↓Af,↓CZ,Ag,↓nN,Nat.reduceAdd,Nat.reduceSub,sG,bS,eP,fQ,bW,eB,nE,newObj,jq,kK,aL,KH,uP,G8,Jz,ne_eq,reduceCtorEq,not_false_eq_true,true_and,length_cons,length_nil,nil_append]
   refine⟨by decide,λ_=>trivial,rfl,by decide,rfl,rfl,rfl,?_,by decide,by decide,by decide,λ_=>trivial,rfl,.inr ⟨by rw[htk];simp,1,?_⟩,by omega⟩
   ·intro y hy
    simp only[mem_singleton]at hy
    subst hy
    exact⟨rfl,rfl⟩
   ·rw[htk,h0];rfl
  ·have hlen:ps.length≤1099511627776:=by
     have h1:=bD _ _ _ hp
     have h2:=fu _ _ _ hp
     rw[hv]at hl
     simp at hl
     omega
   simp only[rowOf,rG,obR,↓M9,↓JA,reduceIte,Bool.false_eq_true,if_false,↓Bq,↓CY,↓Af,↓CZ,Ag,↓nN,Nat.reduceAdd,Nat.reduceSub,sG,bS,eP,fQ,bW,eB,nE,newObj,jq,kK,aL,KH,uP,G8,Jz,ne_eq,reduceCtorEq,not_false_eq_true,true_and,length_cons,length_nil,nil_append]
   refine⟨by decide,λ_=>trivial,rfl,by decide,rfl,rfl,rfl,?_,by simp;omega,by simp;omega,λ_ _ h=>h.elim,by decide,λ_=>trivial,rfl,.inr ⟨by rw[htk];simp,ver+1,?_⟩,by omega⟩
   ·intro y hy
    simp only[mem_singleton]at hy
    subst hy
    exact⟨rfl,rfl⟩
   ·rw[htk,List.map_append];rfl
 ·rintro O ⟨hO,_⟩
  rw[List.length_map,List.take_length]at hO
  rcases hO with ⟨h0,rfl⟩ | ⟨h0,ver,rfl⟩
  ·rw[if_pos h0]
   simp only[obR,↓M9,↓JA,reduceIte,↓Af,Ag,sG,fQ,KH,uP,G8,Jz,oh,jZ,fU,Fg,fzR,ne_eq,reduceCtorEq,not_false_eq_true,true_and,length_cons,length_nil,nil_append]
   exact⟨by decide,λ_=>trivial,rfl,trivial⟩
  ·rw[if_neg h0]
   simp only[obR,↓M9,↓JA,reduceIte,↓Af,Ag,sG,fQ,KH,uP,G8,Jz,oh,jZ,fU,Fg,fzR,ne_eq,reduceCtorEq,not_false_eq_true,true_and,length_cons,length_nil,nil_append]
   refine⟨by decide,λ_=>trivial,rfl,?_⟩
   simp only[eZ,Nat.not_lt_zero,if_false,gX,List.getElem?_cons_succ,List.getElem?_cons_zero,Nat.le_refl,Nat.zero_le,decide_true,Bool.and_self,BEq.rfl,if_true,List.map_map]
   congr 1
theorem U3(v:Vl)(n:Nd)(r:Vl)(ps:List Vl)(hv:v=n::r)(hl:v.length≤1099511627776)(hm:0≤n.many)(hp:parts n.many.toNat r=some ps) :
  ai Tryz.prog 151 [aJ v] [] (.sl 1 (ps.map λp=>aJ (ic p)) none) []:=by
 refine (RA v n r ps hv hl hm hp).abk λw ok u h=>?_
 split at h
 ·rename_i h0
  subst h0
  exact Oe h (by simp)
 ·exact h
end Lp
namespace Lp
open Go Go.Proofs
open List (length_cons length_nil map_map mem_singleton nil_append)
def Ze(done:List Vl)(O:List Obj):Prop:=
 (done=[]∧O=[⟨91,1,[.sl 0 [] (some true)],true,1⟩])∨
 (done≠[]∧∃ver,O=[⟨91,1,[.bO 1 ver],true,1⟩,⟨9,1,done.map λp=>.str (nameOf p),true,ver⟩])
theorem RB(v:Vl)(n:Nd)(r:Vl)(ps:List Vl)(hv:v=n::r)(hl:v.length≤1099511627776)(hm:0≤n.many)(hp:parts n.many.toNat r=some ps) :
  ai Tryz.prog 149 [aJ v] [] (if n.kind=6∧ps≠[] then .sl 1 (ps.map λp=>.str (nameOf p)) none else .sl 0 [] (some true)) []:=by
 subst hv
 refine Rm.pure (T:=aR Tryz.prog [(174,Dt)]) 2 hD (aj (af JE ah)) aV (by decide) ?_
 (conv=>arg 4;cbv);simp only[↓Bq,Gf,↓CY,↓Af,↓CZ,Ag,↓nN,Nat.reduceAdd,Nat.reduceSub,sG,bS,caR,taR,Dt,Nat.reduceBEq,BEq.rfl,cond_true,cond_false,tQ,newObj,aL,↓AU,↓M9,bC,fQ,aK,eu,aJ,aB,Ik,Il,KH,uP,List.map_cons,Int.reduceToNat,Int.toNat_zero,Int.reduceLE,Nat.reduceLeDiff,forall_const,Bool.not_false,Bool.and_self,↓JA,obR,oh,jZ,fU,Fg,G8,Jz,ne_eq,reduceCtorEq,not_false_eq_true,true_and,length_cons,length_nil,nil_append]
 refine⟨rfl,λhk=>⟨n::r,rfl,?_⟩,λhk=>?_⟩
 ·have hk6:n.kind=6:=of_decide_eq_true hk
  refine UW 186 [.addr (aJ (n::r))] (ps.map rowOf) (λi O=>Ze (ps.take i) O∧i≤ps.length) rfl rfl rfl trivial (Gj (n::r) n r ps rfl hl hm hp) ?_ ⟨.inl ⟨by simp,rfl⟩,Nat.zero_le _⟩ ?_ ?_ ?_
  ·intro y hy
   obtain⟨p,_,rfl⟩:=List.mem_map.1 hy
   rfl
  ·rintro i O ⟨h | ⟨_,ver,rfl⟩,_⟩
   ·rw[h.2]
    refine⟨by simp,?_⟩
    intro o ho x hx c hc
    simp only[mem_singleton]at ho
    subst ho
    simp only[mem_singleton]at hx
    subst hx
    simp only[PV.cells,mem_singleton]at hc
    subst hc
    rfl
   ·refine⟨by simp,?_⟩
    intro o ho x hx c hc
    simp only[List.mem_cons,List.not_mem_nil,or_false]at ho
    rcases ho with rfl | rfl
    ·simp only[mem_singleton]at hx
     subst hx
     simp only[PV.cells,mem_singleton]at hc
     subst hc
     rfl
    ·simp only[List.mem_map]at hx
     obtain⟨p,_,rfl⟩:=hx
     simp only[PV.cells,mem_singleton]at hc
     subst hc
     rfl
  ·rintro i args O ⟨hO,hi⟩ ha
   rw[List.getElem?_map]at ha
   obtain⟨p,hpi,rfl⟩:∃p,ps[i]?=some p∧rowOf p=args:=by
    cases hx:ps[i]? with
    | none=>rw[hx]at ha;simp at ha
    | some p=>rw[hx]at ha;exact⟨p,rfl,by simpa using ha⟩
   have hil:i<ps.length:=(List.getElem?_eq_some_iff.1 hpi).1
   have htk:ps.take (i+1)=ps.take i++[p]:=by rw[List.take_add_one,hpi];rfl
   rcases hO with ⟨h0,rfl⟩ | ⟨h0,ver,rfl⟩
   ·simp only[rowOf,rG,obR,↓M9,↓JA,reduceIte,Bool.false_eq_true,if_false,↓Bq,↓CY,↓Af,↓CZ,Ag,↓nN,Nat.reduceAdd,Nat.reduceSub,sG,bS,eP,fQ,bW,eB,nE,newObj,jq,kK,aL,KH,uP,G8,Jz,ne_eq,reduceCtorEq,not_false_eq_true,true_and,length_cons,length_nil,nil_append]
    refine⟨by decide,λ_=>trivial,rfl,by decide,rfl,rfl,rfl,?_,by decide,by decide,by decide,λ_=>trivial,rfl,.inr ⟨by rw[htk];simp,1,?_⟩,by omega⟩
    ·intro y hy
     simp only[mem_singleton]at hy
     subst hy
     exact⟨rfl,rfl⟩
    ·rw[htk,h0];rfl
   ·have hlen:ps.length≤1099511627776:=by
      have h1:=bD _ _ _ hp
      have h2:=fu _ _ _ hp
      simp at hl
      omega
    simp only[rowOf,rG,obR,↓M9,↓JA,reduceIte,Bool.false_eq_true,if_false,↓Bq,↓CY,↓Af,↓CZ,Ag,↓nN,Nat.reduceAdd,Nat.reduceSub,sG,bS,eP,fQ,bW,eB,nE,newObj,jq,kK,aL,KH,uP,G8,Jz,ne_eq,reduceCtorEq,not_false_eq_true,true_and,length_cons,length_nil,nil_append]
    refine⟨by decide,λ_=>trivial,rfl,by decide,rfl,rfl,rfl,?_,by simp;omega,by simp;omega,λ_ _ h=>h.elim,by decide,λ_=>trivial,rfl,.inr ⟨by rw[htk];simp,ver+1,?_⟩,by omega⟩
    ·intro y hy
     simp only[mem_singleton]at hy
     subst hy
     exact⟨rfl,rfl⟩
    ·rw[htk,List.map_append];rfl
  ·rintro O ⟨hO,_⟩
   rw[List.length_map,List.take_length]at hO
   rcases hO with ⟨h0,rfl⟩ | ⟨h0,ver,rfl⟩
   ·rw[if_neg (λh=>h.2 h0)]
    simp only[obR,↓M9,↓JA,reduceIte,↓Af,Ag,sG,fQ,KH,uP,G8,Jz,oh,jZ,fU,Fg,fzR,ne_eq,reduceCtorEq,not_false_eq_true,true_and,length_cons,length_nil,nil_append]
    simp
   ·rw[if_pos ⟨hk6,h0⟩]
    simp only[obR,↓M9,↓JA,reduceIte,↓Af,Ag,sG,fQ,KH,uP,G8,Jz,oh,jZ,fU,Fg,fzR,ne_eq,reduceCtorEq,not_false_eq_true,true_and,length_cons,length_nil,nil_append]
    refine⟨by decide,rfl,?_⟩
    simp only[eZ,Nat.not_lt_zero,if_false,gX,List.getElem?_cons_succ,List.getElem?_cons_zero,Nat.le_refl,Nat.zero_le,decide_true,Bool.and_self,BEq.rfl,if_true,map_map]
    congr 1
 ·have hk6:n.kind≠6:=of_decide_eq_false hk
  rw[if_neg (λh=>hk6 h.1)]
theorem U4(v:Vl)(n:Nd)(r:Vl)(ps:List Vl)(hv:v=n::r)(hl:v.length≤1099511627776)(hm:0≤n.many)(hp:parts n.many.toNat r=some ps) :
  ai Tryz.prog 149 [aJ v] [] (.sl 1 ((NF n ps).map .str) none) []:=by
 refine (RB v n r ps hv hl hm hp).abk λw ok u h=>?_
 unfold NF
 by_cases hk:n.kind=6
 ·rw[if_pos hk]
  by_cases h0:ps=[]
  ·subst h0
   rw[if_neg (λh=>h.2 rfl)]at h
   exact Oe h (by simp)
  ·rw[if_pos ⟨hk,h0⟩]at h
   rw[map_map]
   exact h
 ·rw[if_neg hk]
  rw[if_neg (λh=>hk h.1)]at h
  exact Oe h (by simp)
end Lp
namespace Lp
open Go Go.Proofs
theorem abE(x y:Nd):eZ 1 0 [⟨27,6,[aB x],true,1⟩,⟨27,6,[aB y],true,1⟩] (.bP 0 1 0 0)=.addr (aB x):=rfl
theorem abF(x y:Nd):eZ 1 0 [⟨27,6,[aB x],true,1⟩,⟨27,6,[aB y],true,1⟩] (.bP 1 1 0 0)=.addr (aB y):=rfl
theorem jT(x:Nd):eZ 1 0 [⟨27,6,[aB x],true,1⟩] (.bP 0 1 0 0)=.addr (aB x):=rfl
theorem tf(p:Prop):p=True∨p=False:=by
 by_cases h:p
 ·exact .inl (eq_true h)
 ·exact .inr (eq_false h)
end Lp
namespace Lp
open Go Go.Proofs
open Bool (false_eq_true)
theorem jU(c:UInt8)(n:Nat)(h:n<256):(c<UInt8.ofNat n↔c.toNat<n)∧(UInt8.ofNat n≤c↔n≤c.toNat):=by
 have e:(UInt8.ofNat n).toNat=n:=by simp[UInt8.toNat_ofNat'];omega
 constructor
 ·rw[UInt8.lt_iff_toNat_lt,e]
 ·rw[UInt8.le_iff_toNat_le,e]
theorem U5{s:List UInt8}{i:Nat}{c:UInt8}(h:s[i]?=some c):iK s i=(decide (128≤c.toNat) && decide (c.toNat<192)):=by
 have h1:128≤c↔128≤c.toNat:=(jU c 128 (by omega)).2
 have h2:c<192↔c.toNat<192:=(jU c 192 (by omega)).1
 simp only[iK,h]
 rw[decide_eq_decide.2 h1,decide_eq_decide.2 h2]
theorem Zf(s:List UInt8)(i:Int)(hi:0≤i):ai Tryz.prog 92 [.str s,.int .i64 i] [] (.bool (iK s i.toNat)) []:=by
 refine Df.pure (T:=aR Tryz.prog []) 0 hD (aj ah) aV (by decide) ?_
 rcases Nat.lt_or_ge i.toNat s.length with h | h
 ·have hg:=List.getElem?_eq_getElem h
  generalize s[i.toNat]=c at hg
  (conv=>arg 4;cbv);simp (maxSteps:=400000) only[↓aS,aT,BEq.rfl,seval,hg,U5 hg]
  refine⟨λ_=>⟨hi,λh1=>⟨hi,?_⟩,λh1=>?_⟩,λh2=>absurd (by omega) h2⟩
  ·have:128≤c.toNat:=by omega
   simp only[this,decide_true,Bool.true_and]
   exact decide_eq_decide.2 (by omega)
  ·have:¬ 128≤c.toNat:=by omega
   simp only[this,decide_false,Bool.false_and]
 ·have hn:s[i.toNat]?=none:=List.getElem?_eq_none h
  (conv=>arg 4;cbv);simp (maxSteps:=400000) only[↓aS,aT,BEq.rfl,seval]
  simp only[iK,hn]
  exact⟨λhh=>absurd hh (by omega),λ_=>trivial⟩
def fC:dD:=λargs objs K=>match args with
 | [.str s,.int .i64 i]=>(0≤i)∧K (.bool (iK s i.toNat)) objs 0
 | _=>False
theorem U6:aC Tryz.prog 92 (fC):=by
 intro args objs K h
 unfold fC at h
 split at h
 ·rename_i s i
  obtain⟨h1,hk⟩:=h
  exact⟨_,_,_,.pure _ rfl (Zf s i h1),hk⟩
 ·exact h.elim
theorem BL(s:List UInt8)(i k:Nat):iK (s.drop i) k=iK s (i+k):=by
 simp only[iK,List.getElem?_drop]
theorem Fz{s:List UInt8}{i:Nat}(h:iK s i=true):∃d,s[i]?=some d:=by
 unfold iK at h
 split at h
 ·rename_i b hb;exact⟨b,hb⟩
 ·cases h
theorem Zg(s:List UInt8)(i:Nat)(hi:i<s.length)(hl:s.length≤4611686018427387904):ai Tryz.prog 62 [.str s,.int .i64 i] [] (.int .i64 (cZ (s.drop i):Nat)) []:=by
 have hg:=List.getElem?_eq_getElem hi
 have hd:=List.drop_eq_getElem_cons hi
 generalize s[i]=c at hg hd
 have c0:iK (s.drop (i+1)) 0=iK s (i+1):=BL s (i+1) 0
 have c1:iK (s.drop (i+1)) 1=iK s (i+2):=BL s (i+1) 1
 have c2:iK (s.drop (i+1)) 2=iK s (i+3):=BL s (i+1) 2
 have n1:((i:Int)+1).toNat=i+1:=by omega
 have n2:((i:Int)+2).toNat=i+2:=by omega
 have n3:((i:Int)+3).toNat=i+3:=by omega
 have z0:(0≤(i:Int))=True:=eq_true (by omega)
 have z1:(0≤(i:Int)+1)=True:=eq_true (by omega)
 have z2:(0≤(i:Int)+2)=True:=eq_true (by omega)
 have z3:(0≤(i:Int)+3)=True:=eq_true (by omega)
 have i1:(-9223372036854775808≤(i:Int)+1∧(i:Int)+1≤9223372036854775807)=True:=eq_true ⟨by omega,by omega⟩
 have i2:(-9223372036854775808≤(i:Int)+2∧(i:Int)+2≤9223372036854775807)=True:=eq_true ⟨by omega,by omega⟩
 have i3:(-9223372036854775808≤(i:Int)+3∧(i:Int)+3≤9223372036854775807)=True:=eq_true ⟨by omega,by omega⟩
 suffices gen:∀Q:Exit→St→Prop,(∀(l:List (Nat×PV)) (v:Nat),nu l 4=.int .i64 v→v=cZ (c::s.drop (i+1))→Q .ret ⟨dG 109 l,[]⟩)→
   l7 Tryz.prog D (aR Tryz.prog [(92,fC)]) sV Q (cK [.str s,.int .i64 i] 109) by
  rw[hd]
  refine Db.pure (T:=aR Tryz.prog [(92,fC)]) 0 hD (aj (af U6 ah)) aV (by decide) ?_
  refine gen _ λl v h1 h2=>?_
  subst h2
  simp only[oh,jZ,fU,afv,tZ,Nat.reduceLT,h1,List.map_cons,List.map_nil,Fg]
 intro Q hQ
 have hc:c.toNat<256:=c.toNat_lt
 have h6:c.toNat<128∨(128≤c.toNat∧c.toNat<194)∨(194≤c.toNat∧c.toNat<224)∨(224≤c.toNat∧c.toNat<240)∨(240≤c.toNat∧c.toNat<245)∨245≤c.toNat:=by omega
 rcases h6 with h | h | h | h | h | h
 ·skip
  have f0:(((c.toNat:Int)<128)=True):=eq_true (by omega)
  have f1:((128≤(c.toNat:Int))=False):=eq_false (by omega)
  have f2:((c<128)=True):=eq_true ((jU c 128 (by omega)).1.2 (by omega))
  have f3:((128≤c)=False):=eq_false λhh=>by have:=(jU c 128 (by omega)).2.1 hh;omega
  have f4:(((c.toNat:Int)<194)=True):=eq_true (by omega)
  have f5:((194≤(c.toNat:Int))=False):=eq_false (by omega)
  have f6:((c<194)=True):=eq_true ((jU c 194 (by omega)).1.2 (by omega))
  have f7:((194≤c)=False):=eq_false λhh=>by have:=(jU c 194 (by omega)).2.1 hh;omega
  have f8:(((c.toNat:Int)<224)=True):=eq_true (by omega)
  have f9:((224≤(c.toNat:Int))=False):=eq_false (by omega)
  have f10:((c<224)=True):=eq_true ((jU c 224 (by omega)).1.2 (by omega))
  have f11:((224≤c)=False):=eq_false λhh=>by have:=(jU c 224 (by omega)).2.1 hh;omega
  have f12:(((c.toNat:Int)<240)=True):=eq_true (by omega)
  have f13:((240≤(c.toNat:Int))=False):=eq_false (by omega)
  have f14:((c<240)=True):=eq_true ((jU c 240 (by omega)).1.2 (by omega))
  have f15:((240≤c)=False):=eq_false λhh=>by have:=(jU c 240 (by omega)).2.1 hh;omega
  have f16:(((c.toNat:Int)<245)=True):=eq_true (by omega)
  have f17:((245≤(c.toNat:Int))=False):=eq_false (by omega)
  have f18:((c<245)=True):=eq_true ((jU c 245 (by omega)).1.2 (by omega))
  have f19:((245≤c)=False):=eq_false λhh=>by have:=(jU c 245 (by omega)).2.1 hh;omega
  (conv=>arg 4;cbv);simp (maxSteps:=400000) only[↓aS,aT,BEq.rfl,seval,hg,↓fC,n1,n2,n3,z0,z1,z2,z3,i1,i2,i3,f0,f1,f2,f3,f4,f5,f6,f7,f8,f9,f10,f11,f12,f13,f14,f15,f16,f17,f18,f19]
  exact hQ _ 1 rfl (by simp only[true_or,or_true,or_self,or_false,false_or,and_self,true_and,and_true,false_and,and_false,if_true,if_false,false_eq_true,c0,c1,c2,cZ,f0,f1,f2,f3,f4,f5,f6,f7,f8,f9,f10,f11,f12,f13,f14,f15,f16,f17,f18,f19])
 ·skip
  have f0:(((c.toNat:Int)<128)=False):=eq_false (by omega)
  have f1:((128≤(c.toNat:Int))=True):=eq_true (by omega)
  have f2:((c<128)=False):=eq_false λhh=>by have:=(jU c 128 (by omega)).1.1 hh;omega
  have f3:((128≤c)=True):=eq_true ((jU c 128 (by omega)).2.2 (by omega))
  have f4:(((c.toNat:Int)<194)=True):=eq_true (by omega)
  have f5:((194≤(c.toNat:Int))=False):=eq_false (by omega)
  have f6:((c<194)=True):=eq_true ((jU c 194 (by omega)).1.2 (by omega))
  have f7:((194≤c)=False):=eq_false λhh=>by have:=(jU c 194 (by omega)).2.1 hh;omega
  have f8:(((c.toNat:Int)<224)=True):=eq_true (by omega)
  have f9:((224≤(c.toNat:Int))=False):=eq_false (by omega)
  have f10:((c<224)=True):=eq_true ((jU c 224 (by omega)).1.2 (by omega))
  have f11:((224≤c)=False):=eq_false λhh=>by have:=(jU c 224 (by omega)).2.1 hh;omega
  have f12:(((c.toNat:Int)<240)=True):=eq_true (by omega)
  have f13:((240≤(c.toNat:Int))=False):=eq_false (by omega)
  have f14:((c<240)=True):=eq_true ((jU c 240 (by omega)).1.2 (by omega))
  have f15:((240≤c)=False):=eq_false λhh=>by have:=(jU c 240 (by omega)).2.1 hh;omega
  have f16:(((c.toNat:Int)<245)=True):=eq_true (by omega)
  have f17:((245≤(c.toNat:Int))=False):=eq_false (by omega)
  have f18:((c<245)=True):=eq_true ((jU c 245 (by omega)).1.2 (by omega))
  have f19:((245≤c)=False):=eq_false λhh=>by have:=(jU c 245 (by omega)).2.1 hh;omega
  (conv=>arg 4;cbv);simp (maxSteps:=400000) only[↓aS,aT,BEq.rfl,seval,hg,↓fC,n1,n2,n3,z0,z1,z2,z3,i1,i2,i3,f0,f1,f2,f3,f4,f5,f6,f7,f8,f9,f10,f11,f12,f13,f14,f15,f16,f17,f18,f19]
  exact hQ _ 0 rfl (by simp only[true_or,or_true,or_self,or_false,false_or,and_self,true_and,and_true,false_and,and_false,if_true,if_false,false_eq_true,c0,c1,c2,cZ,f0,f1,f2,f3,f4,f5,f6,f7,f8,f9,f10,f11,f12,f13,f14,f15,f16,f17,f18,f19])
 ·skip
  have f0:(((c.toNat:Int)<128)=False):=eq_false (by omega)
  have f1:((128≤(c.toNat:Int))=True):=eq_true (by omega)
  have f2:((c<128)=False):=eq_false λhh=>by have:=(jU c 128 (by omega)).1.1 hh;omega
  have f3:((128≤c)=True):=eq_true ((jU c 128 (by omega)).2.2 (by omega))
  have f4:(((c.toNat:Int)<194)=False):=eq_false (by omega)
  have f5:((194≤(c.toNat:Int))=True):=eq_true (by omega)
  have f6:((c<194)=False):=eq_false λhh=>by have:=(jU c 194 (by omega)).1.1 hh;omega
  have f7:((194≤c)=True):=eq_true ((jU c 194 (by omega)).2.2 (by omega))
  have f8:(((c.toNat:Int)<224)=True):=eq_true (by omega)
  have f9:((224≤(c.toNat:Int))=False):=eq_false (by omega)
  have f10:((c<224)=True):=eq_true ((jU c 224 (by omega)).1.2 (by omega))
  have f11:((224≤c)=False):=eq_false λhh=>by have:=(jU c 224 (by omega)).2.1 hh;omega
  have f12:(((c.toNat:Int)<240)=True):=eq_true (by omega)
  have f13:((240≤(c.toNat:Int))=False):=eq_false (by omega)
  have f14:((c<240)=True):=eq_true ((jU c 240 (by omega)).1.2 (by omega))
  have f15:((240≤c)=False):=eq_false λhh=>by have:=(jU c 240 (by omega)).2.1 hh;omega
  have f16:(((c.toNat:Int)<245)=True):=eq_true (by omega)
  have f17:((245≤(c.toNat:Int))=False):=eq_false (by omega)
  have f18:((c<245)=True):=eq_true ((jU c 245 (by omega)).1.2 (by omega))
  have f19:((245≤c)=False):=eq_false λhh=>by have:=(jU c 245 (by omega)).2.1 hh;omega
  cases k1:iK s (i+1)
  ·skip
   (conv=>arg 4;cbv);simp (maxSteps:=400000) only[↓aS,aT,BEq.rfl,seval,hg,↓fC,n1,n2,n3,z0,z1,z2,z3,i1,i2,i3,f0,f1,f2,f3,f4,f5,f6,f7,f8,f9,f10,f11,f12,f13,f14,f15,f16,f17,f18,f19,k1]
   exact hQ _ 0 rfl (by simp only[true_or,or_true,or_self,or_false,false_or,and_self,true_and,and_true,false_and,and_false,if_true,if_false,false_eq_true,c0,c1,c2,cZ,f0,f1,f2,f3,f4,f5,f6,f7,f8,f9,f10,f11,f12,f13,f14,f15,f16,f17,f18,f19,k1])
  ·skip
   (conv=>arg 4;cbv);simp (maxSteps:=400000) only[↓aS,aT,BEq.rfl,seval,hg,↓fC,n1,n2,n3,z0,z1,z2,z3,i1,i2,i3,f0,f1,f2,f3,f4,f5,f6,f7,f8,f9,f10,f11,f12,f13,f14,f15,f16,f17,f18,f19,k1]
   exact hQ _ 2 rfl (by simp only[true_or,or_true,or_self,or_false,false_or,and_self,true_and,and_true,false_and,and_false,if_true,if_false,false_eq_true,c0,c1,c2,cZ,f0,f1,f2,f3,f4,f5,f6,f7,f8,f9,f10,f11,f12,f13,f14,f15,f16,f17,f18,f19,k1])
 ·skip
  have f0:(((c.toNat:Int)<128)=False):=eq_false (by omega)
  have f1:((128≤(c.toNat:Int))=True):=eq_true (by omega)
  have f2:((c<128)=False):=eq_false λhh=>by have:=(jU c 128 (by omega)).1.1 hh;omega
  have f3:((128≤c)=True):=eq_true ((jU c 128 (by omega)).2.2 (by omega))
  have f4:(((c.toNat:Int)<194)=False):=eq_false (by omega)
  have f5:((194≤(c.toNat:Int))=True):=eq_true (by omega)
  have f6:((c<194)=False):=eq_false λhh=>by have:=(jU c 194 (by omega)).1.1 hh;omega
  have f7:((194≤c)=True):=eq_true ((jU c 194 (by omega)).2.2 (by omega))
  have f8:(((c.toNat:Int)<224)=False):=eq_false (by omega)
  have f9:((224≤(c.toNat:Int))=True):=eq_true (by omega)
  have f10:((c<224)=False):=eq_false λhh=>by have:=(jU c 224 (by omega)).1.1 hh;omega
  have f11:((224≤c)=True):=eq_true ((jU c 224 (by omega)).2.2 (by omega))
  have f12:(((c.toNat:Int)<240)=True):=eq_true (by omega)
  have f13:((240≤(c.toNat:Int))=False):=eq_false (by omega)
  have f14:((c<240)=True):=eq_true ((jU c 240 (by omega)).1.2 (by omega))
  have f15:((240≤c)=False):=eq_false λhh=>by have:=(jU c 240 (by omega)).2.1 hh;omega
  have f16:(((c.toNat:Int)<245)=True):=eq_true (by omega)
  have f17:((245≤(c.toNat:Int))=False):=eq_false (by omega)
  have f18:((c<245)=True):=eq_true ((jU c 245 (by omega)).1.2 (by omega))
  have f19:((245≤c)=False):=eq_false λhh=>by have:=(jU c 245 (by omega)).2.1 hh;omega
  cases k1:iK s (i+1)
  ·skip
   (conv=>arg 4;cbv);simp (maxSteps:=400000) only[↓aS,aT,BEq.rfl,seval,hg,↓fC,n1,n2,n3,z0,z1,z2,z3,i1,i2,i3,f0,f1,f2,f3,f4,f5,f6,f7,f8,f9,f10,f11,f12,f13,f14,f15,f16,f17,f18,f19,k1]
   exact hQ _ 0 rfl (by simp only[true_or,or_true,or_self,or_false,false_or,and_self,true_and,and_true,false_and,and_false,if_true,if_false,false_eq_true,c0,c1,c2,cZ,f0,f1,f2,f3,f4,f5,f6,f7,f8,f9,f10,f11,f12,f13,f14,f15,f16,f17,f18,f19,k1])
  cases k2:iK s (i+2)
  ·skip
   (conv=>arg 4;cbv);simp (maxSteps:=400000) only[↓aS,aT,BEq.rfl,seval,hg,↓fC,n1,n2,n3,z0,z1,z2,z3,i1,i2,i3,f0,f1,f2,f3,f4,f5,f6,f7,f8,f9,f10,f11,f12,f13,f14,f15,f16,f17,f18,f19,k1,k2]
   exact hQ _ 0 rfl (by simp only[true_or,or_true,or_self,or_false,false_or,and_self,true_and,and_true,false_and,and_false,if_true,if_false,false_eq_true,c0,c1,c2,cZ,f0,f1,f2,f3,f4,f5,f6,f7,f8,f9,f10,f11,f12,f13,f14,f15,f16,f17,f18,f19,k1,k2])
  obtain⟨d,hd1⟩:=Fz k1
  have hhd:(List.drop (i+1) s).headD 0=d:=by rw[List.headD_eq_head?_getD,List.head?_drop,hd1];rfl
  by_cases hc224:c.toNat=224
  ·have XE:c.toNat≠237:=by omega
   have e0:(((c.toNat:Int)=224)=True):=eq_true (by omega)
   have e1:((c=224)=True):=eq_true (UInt8.toNat_inj.1 (by simpa using hc224))
   have e2:(((c.toNat:Int)=237)=False):=eq_false (by omega)
   have e3:((c=237)=False):=eq_false λhh=>XE (by rw[hh];rfl)
   by_cases hdl:d.toNat<160
   ·skip
    have g0:(((d.toNat:Int)<160)=True):=eq_true (by omega)
    have g1:((160≤(d.toNat:Int))=False):=eq_false (by omega)
    have g2:((d<160)=True):=eq_true ((jU d 160 (by omega)).1.2 (by omega))
    have g3:((160≤d)=False):=eq_false λhh=>by have:=(jU d 160 (by omega)).2.1 hh;omega
    (conv=>arg 4;cbv);simp (maxSteps:=400000) only[↓aS,aT,BEq.rfl,seval,hg,↓fC,n1,n2,n3,z0,z1,z2,z3,i1,i2,i3,f0,f1,f2,f3,f4,f5,f6,f7,f8,f9,f10,f11,f12,f13,f14,f15,f16,f17,f18,f19,k1,k2,hd1,hhd,e0,e1,e2,e3,g0,g1,g2,g3]
    exact hQ _ 0 rfl (by simp only[true_or,or_true,or_self,or_false,false_or,and_self,true_and,and_true,false_and,and_false,if_true,if_false,false_eq_true,c0,c1,c2,cZ,f0,f1,f2,f3,f4,f5,f6,f7,f8,f9,f10,f11,f12,f13,f14,f15,f16,f17,f18,f19,k1,k2,hd1,hhd,e0,e1,e2,e3,g0,g1,g2,g3])
   ·skip
    have g0:(((d.toNat:Int)<160)=False):=eq_false (by omega)
    have g1:((160≤(d.toNat:Int))=True):=eq_true (by omega)
    have g2:((d<160)=False):=eq_false λhh=>by have:=(jU d 160 (by omega)).1.1 hh;omega
    have g3:((160≤d)=True):=eq_true ((jU d 160 (by omega)).2.2 (by omega))
    (conv=>arg 4;cbv);simp (maxSteps:=400000) only[↓aS,aT,BEq.rfl,seval,hg,↓fC,n1,n2,n3,z0,z1,z2,z3,i1,i2,i3,f0,f1,f2,f3,f4,f5,f6,f7,f8,f9,f10,f11,f12,f13,f14,f15,f16,f17,f18,f19,k1,k2,hd1,hhd,e0,e1,e2,e3,g0,g1,g2,g3]
    exact hQ _ 3 rfl (by simp only[true_or,or_true,or_self,or_false,false_or,and_self,true_and,and_true,false_and,and_false,if_true,if_false,false_eq_true,c0,c1,c2,cZ,f0,f1,f2,f3,f4,f5,f6,f7,f8,f9,f10,f11,f12,f13,f14,f15,f16,f17,f18,f19,k1,k2,hd1,hhd,e0,e1,e2,e3,g0,g1,g2,g3])
  ·by_cases XE:c.toNat=237
   ·skip
    have e0:(((c.toNat:Int)=224)=False):=eq_false (by omega)
    have e1:((c=224)=False):=eq_false λhh=>hc224 (by rw[hh];rfl)
    have e2:(((c.toNat:Int)=237)=True):=eq_true (by omega)
    have e3:((c=237)=True):=eq_true (UInt8.toNat_inj.1 (by simpa using XE))
    by_cases hdl:d.toNat<160
    ·skip
     have g0:(((d.toNat:Int)<160)=True):=eq_true (by omega)
     have g1:((160≤(d.toNat:Int))=False):=eq_false (by omega)
     have g2:((d<160)=True):=eq_true ((jU d 160 (by omega)).1.2 (by omega))
     have g3:((160≤d)=False):=eq_false λhh=>by have:=(jU d 160 (by omega)).2.1 hh;omega
     (conv=>arg 4;cbv);simp (maxSteps:=400000) only[↓aS,aT,BEq.rfl,seval,hg,↓fC,n1,n2,n3,z0,z1,z2,z3,i1,i2,i3,f0,f1,f2,f3,f4,f5,f6,f7,f8,f9,f10,f11,f12,f13,f14,f15,f16,f17,f18,f19,k1,k2,hd1,hhd,e0,e1,e2,e3,g0,g1,g2,g3]
     exact hQ _ 3 rfl (by simp only[true_or,or_true,or_self,or_false,false_or,and_self,true_and,and_true,false_and,and_false,if_true,if_false,false_eq_true,c0,c1,c2,cZ,f0,f1,f2,f3,f4,f5,f6,f7,f8,f9,f10,f11,f12,f13,f14,f15,f16,f17,f18,f19,k1,k2,hd1,hhd,e0,e1,e2,e3,g0,g1,g2,g3])
    ·skip
     have g0:(((d.toNat:Int)<160)=False):=eq_false (by omega)
     have g1:((160≤(d.toNat:Int))=True):=eq_true (by omega)
     have g2:((d<160)=False):=eq_false λhh=>by have:=(jU d 160 (by omega)).1.1 hh;omega
     have g3:((160≤d)=True):=eq_true ((jU d 160 (by omega)).2.2 (by omega))
     (conv=>arg 4;cbv);simp (maxSteps:=400000) only[↓aS,aT,BEq.rfl,seval,hg,↓fC,n1,n2,n3,z0,z1,z2,z3,i1,i2,i3,f0,f1,f2,f3,f4,f5,f6,f7,f8,f9,f10,f11,f12,f13,f14,f15,f16,f17,f18,f19,k1,k2,hd1,hhd,e0,e1,e2,e3,g0,g1,g2,g3]
     exact hQ _ 0 rfl (by simp only[true_or,or_true,or_self,or_false,false_or,and_self,true_and,and_true,false_and,and_false,if_true,if_false,false_eq_true,c0,c1,c2,cZ,f0,f1,f2,f3,f4,f5,f6,f7,f8,f9,f10,f11,f12,f13,f14,f15,f16,f17,f18,f19,k1,k2,hd1,hhd,e0,e1,e2,e3,g0,g1,g2,g3])
   ·skip
    have e0:(((c.toNat:Int)=224)=False):=eq_false (by omega)
    have e1:((c=224)=False):=eq_false λhh=>hc224 (by rw[hh];rfl)
    have e2:(((c.toNat:Int)=237)=False):=eq_false (by omega)
    have e3:((c=237)=False):=eq_false λhh=>XE (by rw[hh];rfl)
    (conv=>arg 4;cbv);simp (maxSteps:=400000) only[↓aS,aT,BEq.rfl,seval,hg,↓fC,n1,n2,n3,z0,z1,z2,z3,i1,i2,i3,f0,f1,f2,f3,f4,f5,f6,f7,f8,f9,f10,f11,f12,f13,f14,f15,f16,f17,f18,f19,k1,k2,hd1,hhd,e0,e1,e2,e3]
    exact hQ _ 3 rfl (by simp only[true_or,or_true,or_self,or_false,false_or,and_self,true_and,and_true,false_and,and_false,if_true,if_false,false_eq_true,c0,c1,c2,cZ,f0,f1,f2,f3,f4,f5,f6,f7,f8,f9,f10,f11,f12,f13,f14,f15,f16,f17,f18,f19,k1,k2,hd1,hhd,e0,e1,e2,e3])
 ·skip
  have f0:(((c.toNat:Int)<128)=False):=eq_false (by omega)
  have f1:((128≤(c.toNat:Int))=True):=eq_true (by omega)
  have f2:((c<128)=False):=eq_false λhh=>by have:=(jU c 128 (by omega)).1.1 hh;omega
  have f3:((128≤c)=True):=eq_true ((jU c 128 (by omega)).2.2 (by omega))
  have f4:(((c.toNat:Int)<194)=False):=eq_false (by omega)
  have f5:((194≤(c.toNat:Int))=True):=eq_true (by omega)
  have f6:((c<194)=False):=eq_false λhh=>by have:=(jU c 194 (by omega)).1.1 hh;omega
  have f7:((194≤c)=True):=eq_true ((jU c 194 (by omega)).2.2 (by omega))
  have f8:(((c.toNat:Int)<224)=False):=eq_false (by omega)
  have f9:((224≤(c.toNat:Int))=True):=eq_true (by omega)
  have f10:((c<224)=False):=eq_false λhh=>by have:=(jU c 224 (by omega)).1.1 hh;omega
  have f11:((224≤c)=True):=eq_true ((jU c 224 (by omega)).2.2 (by omega))
  have f12:(((c.toNat:Int)<240)=False):=eq_false (by omega)
  have f13:((240≤(c.toNat:Int))=True):=eq_true (by omega)
  have f14:((c<240)=False):=eq_false λhh=>by have:=(jU c 240 (by omega)).1.1 hh;omega
  have f15:((240≤c)=True):=eq_true ((jU c 240 (by omega)).2.2 (by omega))
  have f16:(((c.toNat:Int)<245)=True):=eq_true (by omega)
  have f17:((245≤(c.toNat:Int))=False):=eq_false (by omega)
  have f18:((c<245)=True):=eq_true ((jU c 245 (by omega)).1.2 (by omega))
  have f19:((245≤c)=False):=eq_false λhh=>by have:=(jU c 245 (by omega)).2.1 hh;omega
  cases k1:iK s (i+1)
  ·skip
   (conv=>arg 4;cbv);simp (maxSteps:=400000) only[↓aS,aT,BEq.rfl,seval,hg,↓fC,n1,n2,n3,z0,z1,z2,z3,i1,i2,i3,f0,f1,f2,f3,f4,f5,f6,f7,f8,f9,f10,f11,f12,f13,f14,f15,f16,f17,f18,f19,k1]
   exact hQ _ 0 rfl (by simp only[true_or,or_true,or_self,or_false,false_or,and_self,true_and,and_true,false_and,and_false,if_true,if_false,false_eq_true,c0,c1,c2,cZ,f0,f1,f2,f3,f4,f5,f6,f7,f8,f9,f10,f11,f12,f13,f14,f15,f16,f17,f18,f19,k1])
  cases k2:iK s (i+2)
  ·skip
   (conv=>arg 4;cbv);simp (maxSteps:=400000) only[↓aS,aT,BEq.rfl,seval,hg,↓fC,n1,n2,n3,z0,z1,z2,z3,i1,i2,i3,f0,f1,f2,f3,f4,f5,f6,f7,f8,f9,f10,f11,f12,f13,f14,f15,f16,f17,f18,f19,k1,k2]
   exact hQ _ 0 rfl (by simp only[true_or,or_true,or_self,or_false,false_or,and_self,true_and,and_true,false_and,and_false,if_true,if_false,false_eq_true,c0,c1,c2,cZ,f0,f1,f2,f3,f4,f5,f6,f7,f8,f9,f10,f11,f12,f13,f14,f15,f16,f17,f18,f19,k1,k2])
  cases k3:iK s (i+3)
  ·skip
   (conv=>arg 4;cbv);simp (maxSteps:=400000) only[↓aS,aT,BEq.rfl,seval,hg,↓fC,n1,n2,n3,z0,z1,z2,z3,i1,i2,i3,f0,f1,f2,f3,f4,f5,f6,f7,f8,f9,f10,f11,f12,f13,f14,f15,f16,f17,f18,f19,k1,k2,k3]
   exact hQ _ 0 rfl (by simp only[true_or,or_true,or_self,or_false,false_or,and_self,true_and,and_true,false_and,and_false,if_true,if_false,false_eq_true,c0,c1,c2,cZ,f0,f1,f2,f3,f4,f5,f6,f7,f8,f9,f10,f11,f12,f13,f14,f15,f16,f17,f18,f19,k1,k2,k3])
  obtain⟨d,hd1⟩:=Fz k1
  have hhd:(List.drop (i+1) s).headD 0=d:=by rw[List.headD_eq_head?_getD,List.head?_drop,hd1];rfl
  by_cases hc240:c.toNat=240
  ·have XF:c.toNat≠244:=by omega
   have e0:(((c.toNat:Int)=240)=True):=eq_true (by omega)
   have e1:((c=240)=True):=eq_true (UInt8.toNat_inj.1 (by simpa using hc240))
   have e2:(((c.toNat:Int)=244)=False):=eq_false (by omega)
   have e3:((c=244)=False):=eq_false λhh=>XF (by rw[hh];rfl)
   by_cases hdl:d.toNat<144
   ·skip
    have g0:(((d.toNat:Int)<144)=True):=eq_true (by omega)
    have g1:((144≤(d.toNat:Int))=False):=eq_false (by omega)
    have g2:((d<144)=True):=eq_true ((jU d 144 (by omega)).1.2 (by omega))
    have g3:((144≤d)=False):=eq_false λhh=>by have:=(jU d 144 (by omega)).2.1 hh;omega
    (conv=>arg 4;cbv);simp (maxSteps:=400000) only[↓aS,aT,BEq.rfl,seval,hg,↓fC,n1,n2,n3,z0,z1,z2,z3,i1,i2,i3,f0,f1,f2,f3,f4,f5,f6,f7,f8,f9,f10,f11,f12,f13,f14,f15,f16,f17,f18,f19,k1,k2,k3,hd1,hhd,e0,e1,e2,e3,g0,g1,g2,g3]
    exact hQ _ 0 rfl (by simp only[true_or,or_true,or_self,or_false,false_or,and_self,true_and,and_true,false_and,and_false,if_true,if_false,false_eq_true,c0,c1,c2,cZ,f0,f1,f2,f3,f4,f5,f6,f7,f8,f9,f10,f11,f12,f13,f14,f15,f16,f17,f18,f19,k1,k2,k3,hd1,hhd,e0,e1,e2,e3,g0,g1,g2,g3])
   ·skip
    have g0:(((d.toNat:Int)<144)=False):=eq_false (by omega)
    have g1:((144≤(d.toNat:Int))=True):=eq_true (by omega)
    have g2:((d<144)=False):=eq_false λhh=>by have:=(jU d 144 (by omega)).1.1 hh;omega
    have g3:((144≤d)=True):=eq_true ((jU d 144 (by omega)).2.2 (by omega))
    (conv=>arg 4;cbv);simp (maxSteps:=400000) only[↓aS,aT,BEq.rfl,seval,hg,↓fC,n1,n2,n3,z0,z1,z2,z3,i1,i2,i3,f0,f1,f2,f3,f4,f5,f6,f7,f8,f9,f10,f11,f12,f13,f14,f15,f16,f17,f18,f19,k1,k2,k3,hd1,hhd,e0,e1,e2,e3,g0,g1,g2,g3]
    exact hQ _ 4 rfl (by simp only[true_or,or_true,or_self,or_false,false_or,and_self,true_and,and_true,false_and,and_false,if_true,if_false,false_eq_true,c0,c1,c2,cZ,f0,f1,f2,f3,f4,f5,f6,f7,f8,f9,f10,f11,f12,f13,f14,f15,f16,f17,f18,f19,k1,k2,k3,hd1,hhd,e0,e1,e2,e3,g0,g1,g2,g3])
  ·by_cases XF:c.toNat=244
   ·skip
    have e0:(((c.toNat:Int)=240)=False):=eq_false (by omega)
    have e1:((c=240)=False):=eq_false λhh=>hc240 (by rw[hh];rfl)
    have e2:(((c.toNat:Int)=244)=True):=eq_true (by omega)
    have e3:((c=244)=True):=eq_true (UInt8.toNat_inj.1 (by simpa using XF))
    by_cases hdl:d.toNat<144
    ·skip
     have g0:(((d.toNat:Int)<144)=True):=eq_true (by omega)
     have g1:((144≤(d.toNat:Int))=False):=eq_false (by omega)
     have g2:((d<144)=True):=eq_true ((jU d 144 (by omega)).1.2 (by omega))
     have g3:((144≤d)=False):=eq_false λhh=>by have:=(jU d 144 (by omega)).2.1 hh;omega
     (conv=>arg 4;cbv);simp (maxSteps:=400000) only[↓aS,aT,BEq.rfl,seval,hg,↓fC,n1,n2,n3,z0,z1,z2,z3,i1,i2,i3,f0,f1,f2,f3,f4,f5,f6,f7,f8,f9,f10,f11,f12,f13,f14,f15,f16,f17,f18,f19,k1,k2,k3,hd1,hhd,e0,e1,e2,e3,g0,g1,g2,g3]
     exact hQ _ 4 rfl (by simp only[true_or,or_true,or_self,or_false,false_or,and_self,true_and,and_true,false_and,and_false,if_true,if_false,false_eq_true,c0,c1,c2,cZ,f0,f1,f2,f3,f4,f5,f6,f7,f8,f9,f10,f11,f12,f13,f14,f15,f16,f17,f18,f19,k1,k2,k3,hd1,hhd,e0,e1,e2,e3,g0,g1,g2,g3])
    ·skip
     have g0:(((d.toNat:Int)<144)=False):=eq_false (by omega)
     have g1:((144≤(d.toNat:Int))=True):=eq_true (by omega)
     have g2:((d<144)=False):=eq_false λhh=>by have:=(jU d 144 (by omega)).1.1 hh;omega
     have g3:((144≤d)=True):=eq_true ((jU d 144 (by omega)).2.2 (by omega))
     (conv=>arg 4;cbv);simp (maxSteps:=400000) only[↓aS,aT,BEq.rfl,seval,hg,↓fC,n1,n2,n3,z0,z1,z2,z3,i1,i2,i3,f0,f1,f2,f3,f4,f5,f6,f7,f8,f9,f10,f11,f12,f13,f14,f15,f16,f17,f18,f19,k1,k2,k3,hd1,hhd,e0,e1,e2,e3,g0,g1,g2,g3]
     exact hQ _ 0 rfl (by simp only[true_or,or_true,or_self,or_false,false_or,and_self,true_and,and_true,false_and,and_false,if_true,if_false,false_eq_true,c0,c1,c2,cZ,f0,f1,f2,f3,f4,f5,f6,f7,f8,f9,f10,f11,f12,f13,f14,f15,f16,f17,f18,f19,k1,k2,k3,hd1,hhd,e0,e1,e2,e3,g0,g1,g2,g3])
   ·skip
    have e0:(((c.toNat:Int)=240)=False):=eq_false (by omega)
    have e1:((c=240)=False):=eq_false λhh=>hc240 (by rw[hh];rfl)
    have e2:(((c.toNat:Int)=244)=False):=eq_false (by omega)
    have e3:((c=244)=False):=eq_false λhh=>XF (by rw[hh];rfl)
    (conv=>arg 4;cbv);simp (maxSteps:=400000) only[↓aS,aT,BEq.rfl,seval,hg,↓fC,n1,n2,n3,z0,z1,z2,z3,i1,i2,i3,f0,f1,f2,f3,f4,f5,f6,f7,f8,f9,f10,f11,f12,f13,f14,f15,f16,f17,f18,f19,k1,k2,k3,hd1,hhd,e0,e1,e2,e3]
    exact hQ _ 4 rfl (by simp only[true_or,or_true,or_self,or_false,false_or,and_self,true_and,and_true,false_and,and_false,if_true,if_false,false_eq_true,c0,c1,c2,cZ,f0,f1,f2,f3,f4,f5,f6,f7,f8,f9,f10,f11,f12,f13,f14,f15,f16,f17,f18,f19,k1,k2,k3,hd1,hhd,e0,e1,e2,e3])
 ·skip
  have f0:(((c.toNat:Int)<128)=False):=eq_false (by omega)
  have f1:((128≤(c.toNat:Int))=True):=eq_true (by omega)
  have f2:((c<128)=False):=eq_false λhh=>by have:=(jU c 128 (by omega)).1.1 hh;omega
  have f3:((128≤c)=True):=eq_true ((jU c 128 (by omega)).2.2 (by omega))
  have f4:(((c.toNat:Int)<194)=False):=eq_false (by omega)
  have f5:((194≤(c.toNat:Int))=True):=eq_true (by omega)
  have f6:((c<194)=False):=eq_false λhh=>by have:=(jU c 194 (by omega)).1.1 hh;omega
  have f7:((194≤c)=True):=eq_true ((jU c 194 (by omega)).2.2 (by omega))
  have f8:(((c.toNat:Int)<224)=False):=eq_false (by omega)
  have f9:((224≤(c.toNat:Int))=True):=eq_true (by omega)
  have f10:((c<224)=False):=eq_false λhh=>by have:=(jU c 224 (by omega)).1.1 hh;omega
  have f11:((224≤c)=True):=eq_true ((jU c 224 (by omega)).2.2 (by omega))
  have f12:(((c.toNat:Int)<240)=False):=eq_false (by omega)
  have f13:((240≤(c.toNat:Int))=True):=eq_true (by omega)
  have f14:((c<240)=False):=eq_false λhh=>by have:=(jU c 240 (by omega)).1.1 hh;omega
  have f15:((240≤c)=True):=eq_true ((jU c 240 (by omega)).2.2 (by omega))
  have f16:(((c.toNat:Int)<245)=False):=eq_false (by omega)
  have f17:((245≤(c.toNat:Int))=True):=eq_true (by omega)
  have f18:((c<245)=False):=eq_false λhh=>by have:=(jU c 245 (by omega)).1.1 hh;omega
  have f19:((245≤c)=True):=eq_true ((jU c 245 (by omega)).2.2 (by omega))
  (conv=>arg 4;cbv);simp (maxSteps:=400000) only[↓aS,aT,BEq.rfl,seval,hg,↓fC,n1,n2,n3,z0,z1,z2,z3,i1,i2,i3,f0,f1,f2,f3,f4,f5,f6,f7,f8,f9,f10,f11,f12,f13,f14,f15,f16,f17,f18,f19]
  exact hQ _ 0 rfl (by simp only[true_or,or_true,or_self,or_false,false_or,and_self,true_and,and_true,false_and,and_false,if_true,if_false,false_eq_true,c0,c1,c2,cZ,f0,f1,f2,f3,f4,f5,f6,f7,f8,f9,f10,f11,f12,f13,f14,f15,f16,f17,f18,f19])
theorem U7(s:List UInt8)(i:Int)(h0:0≤i)(hi:i.toNat<s.length)(hl:s.length≤4611686018427387904):ai Tryz.prog 62 [.str s,.int .i64 i] [] (.int .i64 (cZ (s.drop i.toNat):Nat)) []:=by
 have e:i=(i.toNat:Int):=by omega
 rw[e]
 exact Zg s i.toNat hi hl
def zF:dD:=λargs objs K=>match args with
 | [.str s,.int .i64 i]=>(0≤i)∧(i.toNat<s.length)∧(s.length≤4611686018427387904)∧K (.int .i64 (cZ (s.drop i.toNat):Nat)) objs 0
 | _=>False
theorem JF:aC Tryz.prog 62 (zF):=by
 intro args objs K h
 unfold zF at h
 split at h
 ·rename_i s i
  obtain⟨h1,h2,h3,hk⟩:=h
  exact⟨_,_,_,.pure _ rfl (U7 s i h1 h2 h3),hk⟩
 ·exact h.elim
end Lp
namespace Lp
open Go Go.Proofs
theorem JG(s:List UInt8):cZ s≤s.length:=by
 cases s with
 | nil=>simp[cZ]
 | cons c t=>
  have h0:∀i,iK t i=true→i<t.length:=by
   intro i h
   obtain⟨d,hd⟩:=Fz h
   exact (List.getElem?_eq_some_iff.1 hd).1
  simp only[cZ,List.length_cons]
  split
  ·omega
  ·split
   ·rename_i h;have:=h0 0 h.2.2;omega
   ·split
    ·rename_i h;have:=h0 1 h.2.2.2;split<;>omega
    ·split
     ·rename_i h;have:=h0 2 h.2.2.2.2;split<;>omega
     ·omega
theorem abG(s:List UInt8)(hl:s.length≤4611686018427387904):ai Tryz.prog 25 [.str s] [] (.bool (utf s)) []:=by
 refine Fp.aX (T:=aR Tryz.prog [(62,zF)]) 0 hD (aj (af JF ah)) aV (by decide) λQ hQ=>?_
 (conv=>arg 4;cbv);simp (maxSteps:=400000) only[↓aS,aT,BEq.rfl,seval,hQ]
 refine aF (λm S=>∃i:Nat,i+m=s.length∧IJ m (s.drop i)=utf s∧S=⟨dG 17 [(0,.str s),(3,.int .i64 i)],[]⟩) s.length ⟨0,by omega,rfl,?_⟩ ?_
 ·simp only[bN,keepR,Nat.reduceAdd,lJ,Nat.reduceBEq,List.map_nil]
  rfl
 rintro m S ⟨i,him,hu,rfl⟩
 simp (maxSteps:=400000) only[↓aS,aT,BEq.rfl,seval,hQ,↓zF]
 have hle:=JG (s.drop i)
 simp only[List.length_drop]at hle
 refine⟨λh=>⟨by omega,by omega,hl,λh0=>?_,λh0=>⟨⟨by omega,by omega⟩,m-cZ (s.drop i),by omega,i+cZ (s.drop i),by omega,?_,by simp⟩⟩,λh=>?_⟩
 ·obtain⟨m,rfl⟩:∃k,m=k+1:=⟨m-1,by omega⟩
  have hne:(s.drop i).isEmpty=false:=by
   rw[List.isEmpty_eq_false_iff]
   intro he
   have:=congrArg List.length he
   simp at this;omega
  rw[←hu,IJ,hne]
  have:cZ (s.drop i)=0:=by omega
  simp[this]
 ·obtain⟨m,rfl⟩:∃k,m=k+1:=⟨m-1,by omega⟩
  have hne:(s.drop i).isEmpty=false:=by
   rw[List.isEmpty_eq_false_iff]
   intro he
   have:=congrArg List.length he
   simp at this;omega
  rw[←hu]
  conv=>rhs;rw[IJ,hne]
  have h1:(cZ (s.drop i) !=0)=true:=by simp;omega
  rw[h1,Bool.false_or,Bool.true_and,List.drop_drop]
  refine EN _ _ _ ?_ ?_
  ·simp;omega
  ·simp;omega
 ·rw[←hu]
  have hn:s.drop i=[]:=List.drop_eq_nil_of_le (by omega)
  rw[hn]
  cases m<;>rfl
def gq:dD:=λargs objs K=>match args with
 | [.str s]=>(s.length≤4611686018427387904)∧K (.bool (utf s)) objs 0
 | _=>False
theorem zG:aC Tryz.prog 25 (gq):=by
 intro args objs K h
 unfold gq at h
 split at h
 ·rename_i s
  obtain⟨h1,hk⟩:=h
  exact⟨_,_,_,.pure _ rfl (abG s h1),hk⟩
 ·exact h.elim
theorem Ow(s:List UInt8)(hl:s.length≤4611686018427387904):ai Tryz.prog 108 [.str s] [] (.bool (gT s)) []:=by
 refine yu.aX (T:=aR Tryz.prog []) 0 hD (aj ah) aV (by decide) λQ hQ=>?_
 (conv=>arg 4;cbv);simp (maxSteps:=400000) only[↓aS,aT,BEq.rfl,seval,hQ]
 refine aF (λm S=>∃i:Nat,i+m=s.length∧gT (s.drop i)=gT s∧S=⟨dG 20 [(0,.str s),(3,.int .i64 i)],[]⟩) s.length ⟨0,by omega,rfl,?_⟩ ?_
 ·simp only[bN,keepR,Nat.reduceAdd,lJ,Nat.reduceBEq,List.map_nil]
  rfl
 rintro m S ⟨i,him,hu,rfl⟩
 rcases Nat.lt_or_ge i s.length with h | h
 ·have hg:=List.getElem?_eq_getElem h
  have hd:=List.drop_eq_getElem_cons h
  generalize s[i]=c at hg hd
  simp (maxSteps:=400000) only[↓aS,aT,BEq.rfl,seval,hQ,hg]
  have hf:gT (c::s.drop (i+1))=(decide (48≤c) && decide (c≤57) && gT (s.drop (i+1))):=by simp[gT]
  rw[hd,hf]at hu
  refine⟨λ_=>⟨by omega,λh1=>?_,λh1=>⟨by omega,λh2=>?_,λh2=>⟨⟨by omega,by omega⟩,m-1,by omega,i+1,by omega,?_,by simp⟩⟩⟩,λh1=>absurd (by omega) h1⟩
  ·have:¬ (48≤c):=λh=>by have:=(jU c 48 (by omega)).2.1 h;omega
   rw[←hu];simp[this]
  ·have:¬ (c≤57):=λh=>by have:c.toNat≤(57:UInt8).toNat:=UInt8.le_iff_toNat_le.1 h;have h57:(57:UInt8).toNat=57:=rfl;omega
   rw[←hu];simp[this]
  ·have h3:48≤c:=(jU c 48 (by omega)).2.2 (by omega)
   have h4:c≤57:=UInt8.le_iff_toNat_le.2 (by have h57:(57:UInt8).toNat=57:=rfl;omega)
   rw[←hu];simp[h3,h4]
 ·simp (maxSteps:=400000) only[↓aS,aT,BEq.rfl,seval,hQ]
  refine⟨λh1=>absurd h1 (by omega),λ_=>?_⟩
  rw[←hu,List.drop_eq_nil_of_le h];rfl
def qB:dD:=λargs objs K=>match args with
 | [.str s]=>(s.length≤4611686018427387904)∧K (.bool (gT s)) objs 0
 | _=>False
theorem JH:aC Tryz.prog 108 (qB):=by
 intro args objs K h
 unfold qB at h
 split at h
 ·rename_i s
  obtain⟨h1,hk⟩:=h
  exact⟨_,_,_,.pure _ rfl (Ow s h1),hk⟩
 ·exact h.elim
theorem pR(n:Nd):tN n=true↔n.many=0∧gT n.s=true∧n.s.length≤100∧-1000≤n.e∧n.e≤1000∧n.s.length+n.e≤1000∧
  (if n.s=[] then n.neg=false∧n.e=0 else n.s.head?≠some 48∧n.s.getLast?≠some 48):=by
 simp only[tN,Bool.and_eq_true,decide_eq_true_eq,beq_iff_eq,and_assoc]
 split<;>simp
theorem jL{b:Bool}(h:b=true→False):b=false:=by cases b<;>simp_all
theorem K8(n:Nd)(hl:n.s.length≤4611686018427387904)(hk:n.kind=3)(hn:n.name=[]):ai Tryz.prog 97 [aB n] [] (.bool (tN n)) []:=by
 refine BB.aX (T:=aR Tryz.prog [(108,qB)]) 0 hD (aj (af JH ah)) aV (by decide) λQ hQ=>?_
 (conv=>arg 4;cbv);simp (maxSteps:=400000) only[↓aS,aT,BEq.rfl,seval,hQ]
 refine aN _ (Weak.freeze 1 0 (Nat.le_refl _) _) ?_
 cases hf:gT n.s
 ·simp (maxSteps:=400000) only[↓aS,aT,BEq.rfl,seval,hQ,jT,↓qB,hk,hn,hf]
  have:tN n=false:=jL λh=>by have:=((pR n).1 h).2.1;rw[hf]at this;cases this
  exact⟨λ_=>⟨hl,this⟩,λ_=>this⟩
 by_cases hs:n.s=[]
 ·simp (maxSteps:=400000) only[↓aS,aT,BEq.rfl,seval,hQ,jT,↓qB,hk,hn,hs]
  have hf0:gT []=true:=rfl
  have key:=pR n
  rw[if_pos hs,hs]at key
  have hlz:(([]:List UInt8).length:Int)=0:=rfl
  simp only[hf0,ifR,hlz,Int.zero_add,List.length_nil]
  refine⟨λh0=>⟨λh=>jL λhb=>?_,λh1=>⟨λh=>jL λhb=>?_,λh2=>⟨⟨by omega,by omega⟩,λh=>jL λhb=>?_,λh3=>?_⟩⟩⟩,λh0=>jL λhb=>?_⟩
  ·have:=key.1 hb;omega
  ·have:=key.1 hb;omega
  ·have:=key.1 hb;omega
  ·refine⟨λhng=>jL λhb=>?_,λhng=>?_⟩
   ·have:=(key.1 hb).2.2.2.2.2.2.1;rw[hng]at this;cases this
   ·by_cases hz:n.e=0
    ·rw[decide_eq_true hz,key]
     exact⟨h0,hf0,by simp,by omega,by omega,by simp;omega,hng,hz⟩
    ·rw[decide_eq_false hz]
     exact jL λhb=>hz (key.1 hb).2.2.2.2.2.2.2
  ·have:=key.1 hb;omega
 ·obtain⟨c,t,hct⟩:∃c t,n.s=c::t:=by
    cases h:n.s with
    | nil=>exact absurd h hs
    | cons c t=>exact⟨c,t,rfl⟩
  have hlen:0<n.s.length:=by rw[hct];simp
  have g0:n.s[0]?=some c:=by rw[hct];rfl
  have g1:n.s[n.s.length-1]?=some (n.s[n.s.length-1]'(by omega)):=List.getElem?_eq_getElem (by omega)
  have t1:((n.s.length:Int)-1).toNat=n.s.length-1:=by omega
  have hl1:n.s.getLast?=some (n.s[n.s.length-1]'(by omega)):=by rw[List.getLast?_eq_getElem?,g1]
  have hh1:n.s.head?=some c:=by rw[hct];rfl
  generalize n.s[n.s.length-1]'(by omega)=d at g1 hl1
  have i1:(-9223372036854775808≤(n.s.length:Int)-1∧(n.s.length:Int)-1≤9223372036854775807)=True:=eq_true ⟨by omega,by omega⟩
  have z1:(0≤(n.s.length:Int)-1)=True:=eq_true (by omega)
  simp (maxSteps:=400000) only[↓aS,aT,BEq.rfl,seval,hQ,jT,↓qB,hk,hn,hs,hf,g0,t1,g1,i1,z1]
  have key:=pR n
  rw[if_neg hs,hh1,hl1]at key
  have e48:∀x:UInt8,x=48↔x.toNat=48:=λx=>⟨λh=>by rw[h];rfl,λh=>UInt8.toNat_inj.1 (by simpa using h)⟩
  refine⟨λh0=>⟨hl,λh=>jL λhb=>?_,λh1=>⟨λh=>jL λhb=>?_,λh2=>⟨λh=>jL λhb=>?_,λh3=>⟨⟨by omega,by omega⟩,λh=>jL λhb=>?_,λh4=>⟨λh=>jL λhb=>?_,λh5=>?_⟩⟩⟩⟩⟩,λh0=>jL λhb=>?_⟩
  ·have:=key.1 hb;omega
  ·have:=key.1 hb;omega
  ·have:=key.1 hb;omega
  ·have:=key.1 hb;omega
  ·refine (key.1 hb).2.2.2.2.2.2.1 ?_
   rw[(e48 c).2 (by omega)]
  ·by_cases hz:d.toNat=48
   ·have hz':(d.toNat:Int)=48:=by omega
    rw[decide_eq_true hz']
    refine jL λhb=>(key.1 hb).2.2.2.2.2.2.2 ?_
    rw[(e48 d).2 hz]
   ·have hz':¬ (d.toNat:Int)=48:=by omega
    rw[decide_eq_false hz',Bool.not_false,key]
    refine⟨h0,hf,by omega,by omega,by omega,by omega,λh=>?_,λh=>?_⟩
    ·have:=(e48 c).1 (by simpa using h);omega
    ·exact hz ((e48 d).1 (by simpa using h))
  ·exact h0 (key.1 hb).1
def gP:dD:=λargs objs K=>match args with
 | [a0]=>dZ aB a0 (HK.mk:HK λn=>(n.s.length≤4611686018427387904)∧(n.kind=3)∧(n.name=[])∧K (.bool (tN n)) objs 0)
 | _=>False
theorem JI:aC Tryz.prog 97 (gP):=by
 intro args objs K h
 unfold gP at h
 split at h
 ·rename_i a0
  obtain⟨n,rfl,h1,h2,h3,hk⟩:=h
  exact⟨_,_,_,.pure _ rfl (K8 n h1 h2 h3),hk⟩
 ·exact h.elim
end Lp
namespace Lp
open Go Go.Proofs
def uW(v:Vl)(i:Nat):Int:=match iX v.length (v.drop i) 1 with
 | some c=>(i+c:Nat)
 | none=>-1
theorem BM{v:Vl}{i:Nat}(h:(iX v.length (v.drop i) 1).map (λc=>i+c)=none):uW v i=-1:=by
 unfold uW
 cases hx:iX v.length (v.drop i) 1 with
 | none=>rfl
 | some c=>rw[hx]at h;simp at h
theorem JJ{v:Vl}{i j:Nat}(h:(iX v.length (v.drop i) 1).map (λc=>i+c)=some j):uW v i=j:=by
 unfold uW
 cases hx:iX v.length (v.drop i) 1 with
 | none=>rw[hx]at h;simp at h
 | some c=>rw[hx]at h;simp only[Option.map_some,Option.some.injEq]at h;rw[←h]
theorem rH(L:Nat)(v:Vl):iX L v 0=some 0:=by cases v<;>rfl
theorem Zh(v:Vl)(i:Nat)(hi:i≤v.length)(hl:v.length≤1000000):ai Tryz.prog 68 [aJ v,.int .i64 i] [] (.int .i64 (uW v i)) []:=by
 refine Dc.aX (T:=aR Tryz.prog []) 0 hD (aj ah) aV (by decide) λQ hQ=>?_
 (conv=>arg 4;cbv);simp (maxSteps:=400000) only[↓aS,aT,BEq.rfl,seval,hQ]
 refine aF (λm S=>∃j k:Nat,j+m=v.length∧k≤1+j*1000000∧(iX v.length (v.drop i) 1).map (λc=>i+c)=(iX v.length (v.drop j) k).map (λc=>j+c)∧
  S=⟨dG 41 [(0,aJ v),(1,.int .i64 j),(5,.int .i64 k)],[]⟩) (v.length-i) ⟨i,1,by omega,by omega,rfl,?_⟩ ?_
 ·simp only[bN,keepR,Nat.reduceAdd,lJ,Nat.reduceBEq,List.map_nil]
  rfl
 rintro m S ⟨j,k,hjm,hk,hn,rfl⟩
 rcases Nat.lt_or_ge j v.length with h | h
 ·have hg:=List.getElem?_eq_getElem h
  have hd:=List.drop_eq_getElem_cons h
  generalize v[j]=n at hg hd
  simp (maxSteps:=400000) only[↓aS,aT,BEq.rfl,seval,hQ,hg]
  refine⟨λhk0=>⟨λh'=>absurd h' (by omega),λ_=>⟨by omega,λhm=>?_,λhm=>⟨by omega,λhm2=>?_,λhm2=>?_⟩⟩⟩,λhk0=>?_⟩
  ·obtain⟨k,rfl⟩:∃q,k=q+1:=⟨k-1,by omega⟩
   rw[hd,iX,if_pos (.inl hm)]at hn
   rw[BM hn]
  ·obtain⟨k,rfl⟩:∃q,k=q+1:=⟨k-1,by omega⟩
   rw[hd,iX,if_pos (.inr hm2)]at hn
   rw[BM hn]
  ·obtain⟨k,rfl⟩:∃q,k=q+1:=⟨k-1,by omega⟩
   rw[hd,iX,if_neg (by omega)]at hn
   have hk2:(((k+1:Nat):Int)-1+n.many)=((k+n.many.toNat:Nat):Int):=by omega
   refine⟨⟨by omega,by omega⟩,by omega,⟨by omega,by omega⟩,⟨by omega,by omega⟩,m-1,by omega,j+1,k+n.many.toNat,by omega,by omega,?_,?_⟩
   ·rw[hn]
    cases iX v.length (v.drop (j+1)) (k+n.many.toNat) with
    | none=>rfl
    | some c=>simp;omega
   ·rw[hk2];rfl
  ·have hk1:k=0:=by omega
   subst hk1
   rw[rH]at hn
   rw[JJ (j:=j) (by simpa using hn)]
 ·simp (maxSteps:=400000) only[↓aS,aT,BEq.rfl,seval,hQ]
  refine⟨λhk0=>⟨λ_=>?_,λh'=>absurd (by omega) h'⟩,λhk0=>?_⟩
  ·obtain⟨k,rfl⟩:∃q,k=q+1:=⟨k-1,by omega⟩
   rw[List.drop_eq_nil_of_le h]at hn
   simp only[iX,Option.map_none]at hn
   rw[BM hn]
  ·have hk1:k=0:=by omega
   subst hk1
   rw[rH]at hn
   rw[JJ (j:=j) (by simpa using hn)]
theorem U8(v:Vl)(i:Int)(h0:0≤i)(hi:i.toNat≤v.length)(hl:v.length≤1000000):ai Tryz.prog 68 [aJ v,.int .i64 i] [] (.int .i64 (uW v i.toNat)) []:=by
 have e:i=(i.toNat:Int):=by omega
 rw[e]
 exact Zh v i.toNat hi hl
def jH:dD:=λargs objs K=>match args with
 | [a0,.int .i64 i]=>dZ aJ a0 (HK.mk:HK λv=>(0≤i)∧(i.toNat≤v.length)∧(v.length≤1000000)∧K (.int .i64 (uW v i.toNat)) objs 0)
 | _=>False
theorem wu:aC Tryz.prog 68 (jH):=by
 intro args objs K h
 unfold jH at h
 split at h
 ·rename_i a0 i
  obtain⟨v,rfl,h1,h2,h3,hk⟩:=h
  exact⟨_,_,_,.pure _ rfl (U8 v i h1 h2 h3),hk⟩
 ·exact h.elim
end Lp
namespace Lp
open Go Go.Proofs
open Int (reduceEq)
theorem U9(n:Nd)(hl:n.s.length≤4611686018427387904):ai Tryz.prog 69 [aB n] [] (.bool (bR n)) []:=by
 refine BA.aX (T:=aR Tryz.prog [(25,gq),(97,gP)]) 0 hD (aj (af zG (af JI ah))) aV (by decide) λQ hQ=>?_
 have h8:n.kind=0∨n.kind=1∨n.kind=2∨n.kind=3∨n.kind=4∨n.kind=5∨n.kind=6∨(n.kind≠0∧n.kind≠1∧n.kind≠2∧n.kind≠3∧n.kind≠4∧n.kind≠5∧n.kind≠6):=by omega
 rcases h8 with hk | hk | hk | hk | hk | hk | hk | ⟨k0,k1,k2,k3,k4,k5,k6⟩
 ·(conv=>arg 4;cbv);simp (maxSteps:=400000) only[↓aS,aT,BEq.rfl,seval,hQ,↓gq,↓gP,hk,reduceEq]
  rw[Bool.eq_iff_iff]
  simp[bR,hk,and_assoc]
 ·(conv=>arg 4;cbv);simp (maxSteps:=400000) only[↓aS,aT,BEq.rfl,seval,hQ,↓gq,↓gP,hk,reduceEq]
  rw[Bool.eq_iff_iff]
  simp[bR,hk,and_assoc]
 ·(conv=>arg 4;cbv);simp (maxSteps:=400000) only[↓aS,aT,BEq.rfl,seval,hQ,↓gq,↓gP,hk,reduceEq]
  rw[Bool.eq_iff_iff]
  simp[bR,hk,and_assoc]
 ·(conv=>arg 4;cbv);simp (maxSteps:=400000) only[↓aS,aT,BEq.rfl,seval,hQ,↓gq,↓gP,hk,reduceEq]
  refine⟨hl,?_⟩
  simp[bR,hk,tN]
 ·(conv=>arg 4;cbv);simp (maxSteps:=400000) only[↓aS,aT,BEq.rfl,seval,hQ,↓gq,↓gP,hk,reduceEq]
  refine⟨hl,?_⟩
  cases hu:utf n.s
  ·simp[BH,bR,hk,hu]
  ·simp only[ifR]
   rw[Bool.eq_iff_iff]
   simp[bR,hk,hu,and_assoc]
 ·(conv=>arg 4;cbv);simp (maxSteps:=400000) only[↓aS,aT,BEq.rfl,seval,hQ,↓gq,↓gP,hk,reduceEq]
  refine⟨λhm=>?_,λhm=>?_⟩
  ·rw[Bool.eq_iff_iff]
   simp[bR,hk,hm,and_assoc]
  ·simp[bR,hk,hm]
 ·(conv=>arg 4;cbv);simp (maxSteps:=400000) only[↓aS,aT,BEq.rfl,seval,hQ,↓gq,↓gP,hk,reduceEq]
  refine⟨λhm=>?_,λhm=>?_⟩
  ·rw[Bool.eq_iff_iff]
   simp[bR,hk,hm,and_assoc]
  ·simp[bR,hk,hm]
 ·(conv=>arg 4;cbv);simp (maxSteps:=400000) only[↓aS,aT,BEq.rfl,seval,hQ,↓gq,↓gP,k0,k1,k2,k3,k4,k5,k6]
  simp[bR,k0,k1,k2,k3,k4,k5,k6]
def uX:dD:=λargs objs K=>match args with
 | [a0]=>dZ aB a0 (HK.mk:HK λn=>(n.s.length≤4611686018427387904)∧K (.bool (bR n)) objs 0)
 | _=>False
theorem RD:aC Tryz.prog 69 (uX):=by
 intro args objs K h
 unfold uX at h
 split at h
 ·rename_i a0
  obtain⟨n,rfl,h1,hk⟩:=h
  exact⟨_,_,_,.pure _ rfl (U9 n h1),hk⟩
 ·exact h.elim
end Lp
namespace Lp
open Go Go.Proofs
def BN(kind:Int)(name:List UInt8):List Vl→Bool
 | []=>true
 | q::_=>kind !=6 || Op.bytesLess name (nameOf q)
structure Small (v:Vl):Prop where
 len:v.length≤1000000
 txt:∀n∈v,n.s.length≤4611686018427387904∧n.name.length≤4611686018427387904
theorem uY(L:Nat):∀(v:Vl) (j k c:Nat),iX L v (j+k)=some c→∃c1 c2,iX L v j=some c1∧iX L (v.drop c1) k=some c2∧c=c1+c2
 | v,0,k,c,h=>⟨0,c,rH L v,by simpa using h,by simp⟩
 | [],j+1,k,c,h=>by
  rw[show j+1+k=(j+k)+1 by omega]at h
  simp[iX]at h
 | n::v,j+1,k,c,h=>by
  rw[show j+1+k=(j+k)+1 by omega,iX]at h
  split at h
  ·cases h
  ·rename_i hn
   cases hs:iX L v (j+k+n.many.toNat) with
   | none=>rw[hs]at h;simp at h
   | some c'=>
    rw[hs]at h
    simp only[Option.map_some,Option.some.injEq]at h
    rw[show j+k+n.many.toNat=(j+n.many.toNat)+k by omega]at hs
    obtain⟨c1,c2,h1,h2,rfl⟩:=uY L v _ k c' hs
    refine⟨c1+1,c2,?_,by simpa using h2,by omega⟩
    rw[iX,if_neg hn,h1];rfl
theorem Du{v:Vl}{i c:Nat}(h:iX v.length (v.drop i) 1=some c):uW v i=(i+c:Nat):=by
 simp only[uW,h]
theorem RF(v:Vl)(at':Nat)(n:Nd)(c:Nat)(hs:Small v)(hat:v[at']?=some n)(hm:0≤n.many)(hc:iX v.length (v.drop (at'+1)) n.many.toNat=some c)(ps:List Vl)(hps:parts n.many.toNat (v.drop (at'+1))=some ps) :
  ai Tryz.prog 70 [aJ v,.int .i64 at'] [] (.bool (l8 n.kind ps)) []:=by
 obtain⟨hl,htx⟩:=hs
 have adD:=(List.getElem?_eq_some_iff.1 hat).1
 have hpl:=bD _ _ _ hps
 have Fy:=fu _ _ _ hps
 simp only[List.length_drop]at Fy
 refine Ah.aX (T:=aR Tryz.prog [(25,gq),(68,jH)]) 0 hD (aj (af zG (af wu ah))) aV (by decide) λQ hQ=>?_
 (conv=>arg 4;cbv);simp (maxSteps:=400000) only[↓aS,aT,BEq.rfl,seval,hQ]
 refine⟨⟨by omega,by omega⟩,?_⟩
 refine aF (λm S=>∃(i c':Nat) (rest:List Vl),m=rest.length∧rest.length≤ps.length∧parts rest.length (v.drop i)=some rest∧iX v.length (v.drop i) rest.length=some c'∧l8 n.kind rest=l8 n.kind ps∧
  S=⟨dG 75 [(0,aJ v),(1,.int .i64 at'),(5,.int .i64 i),(6,.int .i64 ((ps.length:Int)-rest.length))],[]⟩) ps.length ⟨at'+1,c,ps,rfl,Nat.le_refl _,by rw[hpl];exact hps,by rw[hpl];exact hc,rfl,?_⟩ ?_
 ·simp only[bN,keepR,Nat.reduceAdd,lJ,Nat.reduceBEq,List.map_nil]
  simp
 rintro m S ⟨i,c',rest,rfl,hrl,hrp,hrn,hrb,rfl⟩
 have hmn:n.many=(ps.length:Int):=by omega
 have z0:(0≤(at':Int))=True:=eq_true (by omega)
 have zi:(0≤(i:Int))=True:=eq_true (by omega)
 cases rest with
 | nil=>
  simp (maxSteps:=400000) only[↓aS,aT,BEq.rfl,seval,hQ,hat,hmn,z0]
  refine⟨λh=>absurd h (by simp),λ_=>?_⟩
  rw[←hrb];rfl
 | cons p qs=>
  obtain⟨pc,qs',h1,h2,h3⟩:=d9 (k:=qs.length) hrp
  simp only[List.cons.injEq]at h2
  obtain⟨rfl,rfl⟩:=h2
  have hpc:=dS _ _ _ h1
  simp only[List.length_drop]at hpc
  have hil:i<v.length:=by omega
  have hgi:=List.getElem?_eq_getElem hil
  have hdi:=List.drop_eq_getElem_cons hil
  have Hf:=htx _ (List.getElem_mem hil)
  generalize v[i]=pn at hgi hdi Hf
  have hname:nameOf (List.take pc (v.drop i))=pn.name:=by
   obtain⟨q,hq⟩:∃q,pc=q+1:=⟨pc-1,by omega⟩
   rw[hdi,hq];rfl
  obtain⟨c1,c2,e1,e2,e3⟩:=uY v.length (v.drop i) 1 qs.length c' (by rw[Nat.add_comm];exact hrn)
  have hcc:c1=pc:=by
   have:=o_ _ _ _ _ e1
   rw[h1]at this
   exact (Option.some.inj this).symm
  subst hcc
  have hnx:=Du e1
  simp only[List.length_cons]at hrl
  have ht1:((i+c1:Nat):Int).toNat=i+c1:=by omega
  have h3':parts qs.length (v.drop (i+c1))=some qs:=by rw[←List.drop_drop];exact h3
  have e2':iX v.length (v.drop (i+c1)) qs.length=some c2:=by rw[←List.drop_drop];exact e2
  have hun:∀x:Bool,BN n.kind pn.name qs=x→l8 n.kind (List.take c1 (v.drop i)::qs)=((n.kind !=5 || pn.name==[]) && utf pn.name && x && l8 n.kind qs):=by
   intro x hx
   rw[←hx]
   cases qs<;>simp only[l8,BN,hname]
  have ug:((ps.length:Int)-((qs.length+1:Nat):Int)<(ps.length:Int))=True:=eq_true (by omega)
  cases hu:utf pn.name
  ·have hfin:l8 n.kind ps=false:=by rw[←hrb,hun _ rfl,hu];simp
   simp (maxSteps:=400000) only[↓aS,aT,BEq.rfl,seval,hQ,hat,hmn,z0,zi,hgi,↓gq,↓jH,hnx,hu,ug,hfin]
   exact⟨λ_ _=>Hf.2,λ_=>Hf.2⟩
  by_cases h5:n.kind=5∧pn.name≠[]
  ·have hfin:l8 n.kind ps=false:=by rw[←hrb,hun _ rfl];simp[h5.1,h5.2]
   simp (maxSteps:=400000) only[↓aS,aT,BEq.rfl,seval,hQ,hat,hmn,z0,zi,hgi,↓gq,↓jH,hnx,hu,ug,h5.1,h5.2]
   rw[←h5.1];exact hfin
  have hc5:(n.kind !=5 || pn.name==[])=true:=by
   by_cases hk:n.kind=5
   ·have:pn.name=[]:=Decidable.of_not_not λh=>h5 ⟨hk,h⟩
    simp[this]
   ·simp[hk]
  rw[hc5,hu]at hun
  have good:n.kind=5→pn.name=[]:=λhk=>Decidable.of_not_not λh=>h5 ⟨hk,h⟩
  have hlt1:(-9223372036854775808≤(ps.length:Int)-((qs.length+1:Nat):Int)+1∧(ps.length:Int)-((qs.length+1:Nat):Int)+1≤9223372036854775807)=True:=eq_true ⟨by omega,by omega⟩
  have hiv:i≤v.length:=by omega
  have e:(ps.length:Int)-((qs.length+1:Nat):Int)+1=(ps.length:Int)-qs.length:=by omega
  have l1:qs.length<qs.length+1:=Nat.lt_succ_self _
  have l2:qs.length≤ps.length:=by omega
  have zc:(0≤((i+c1:Nat):Int))=True:=eq_true (by omega)
  have step:BN n.kind pn.name qs=true→∃m',m'<qs.length+1∧∃(Im c':Nat) (rest:List Vl),m'=rest.length∧rest.length≤ps.length∧parts rest.length (v.drop Im)=some rest∧iX v.length (v.drop Im) rest.length=some c'∧l8 n.kind rest=l8 n.kind ps∧
      (⟨dG 75 [(0,aJ v),(1,.int .i64 at'),(5,.int .i64 (i+c1:Nat)),(6,.int .i64 ((ps.length:Int)-((qs.length+1:Nat):Int)+1))],[]⟩:St)=⟨dG 75 [(0,aJ v),(1,.int .i64 at'),(5,.int .i64 Im),(6,.int .i64 ((ps.length:Int)-rest.length))],[]⟩:=by
   intro hx
   refine⟨qs.length,l1,i+c1,c2,qs,rfl,l2,h3',e2',?_,?_⟩
   ·rw[←hrb,hun true hx];simp
   ·rw[e]
  have stop:BN n.kind pn.name qs=false→l8 n.kind ps=false:=λhx=>by rw[←hrb,hun false hx];simp
  by_cases h6:n.kind=6
  ·have h5':¬ n.kind=5:=by omega
   rcases Nat.eq_zero_or_pos qs.length with hq0 | hqp
   ·have hq:qs=[]:=List.length_eq_zero_iff.1 hq0
    have hlast:((ps.length:Int)-((qs.length+1:Nat):Int)+1<(ps.length:Int))=False:=eq_false (by omega)
    have hst:=step (by rw[hq];rfl)
    simp (maxSteps:=400000) only[↓aS,aT,BEq.rfl,seval,hQ,hat,hmn,z0,zi,hgi,↓gq,↓jH,hnx,hu,ug,h6,Int.reduceEq,hlt1,hlast]
    simp only[h6]at hst
    exact⟨Hf.2,hiv,hl,hst⟩
   ·obtain⟨q,r,hqr⟩:∃q r,qs=q::r:=by
      cases qs with
      | nil=>simp at hqp
      | cons q r=>exact⟨q,r,rfl⟩
    have hmore:((ps.length:Int)-((qs.length+1:Nat):Int)+1<(ps.length:Int))=True:=eq_true (by omega)
    have g0:=h3'
    rw[hqr]at g0
    obtain⟨pc2,qs2,g1,g2,g3⟩:=d9 (k:=r.length) g0
    simp only[List.cons.injEq]at g2
    have ahN:=dS _ _ _ g1
    simp only[List.length_drop]at ahN
    have agW:i+c1<v.length:=by omega
    have afB:=List.getElem?_eq_getElem agW
    have afC:=List.drop_eq_getElem_cons agW
    generalize v[i+c1]=qn at afB afC
    have abH:nameOf q=qn.name:=by
     obtain⟨w,hw⟩:∃w,pc2=w+1:=⟨pc2-1,by omega⟩
     rw[g2.1,afC,hw];rfl
    have hno:BN n.kind pn.name qs=Op.bytesLess pn.name qn.name:=by
     rw[hqr,BN,abH];simp[h6]
    clear g0 g1 g2 g3 hqr abH afC hdi
    cases hbl:Op.bytesLess pn.name qn.name
    ·have hfin:=stop (by rw[hno,hbl])
     simp (maxSteps:=400000) only[↓aS,aT,BEq.rfl,seval,hQ,hat,hmn,z0,zi,hgi,↓gq,↓jH,hnx,hu,ug,h6,Int.reduceEq,hlt1,hmore,zc,ht1,afB,hbl]
     rw[h6]at hfin
     exact⟨Hf.2,hiv,hl,hfin⟩
    ·have hst:=step (by rw[hno,hbl])
     simp (maxSteps:=400000) only[↓aS,aT,BEq.rfl,seval,hQ,hat,hmn,z0,zi,hgi,↓gq,↓jH,hnx,hu,ug,h6,Int.reduceEq,hlt1,hmore,zc,ht1,afB,hbl]
     simp only[h6]at hst
     exact⟨Hf.2,hiv,hl,hst⟩
  ·have hst:=step (by cases qs<;>simp[BN,h6])
   simp (maxSteps:=400000) only[↓aS,aT,BEq.rfl,seval,hQ,hat,hmn,z0,zi,hgi,↓gq,↓jH,hnx,hu,ug,h6,hlt1]
   exact⟨λh5'=>⟨λ_=>⟨Hf.2,hiv,hl,hst⟩,λhne=>absurd (good h5') hne⟩,λ_=>⟨Hf.2,hiv,hl,hst⟩⟩
end Lp
namespace Lp
open Go Go.Proofs
theorem Ox(L:Nat):∀(v:Vl) (k c i:Nat),iX L v k=some c→i<c→∃k' c',iX L (v.drop i) (k'+1)=some c'
 | v,0,c,i,h,hi=>by rw[rH]at h;cases h;omega
 | [],k+1,c,i,h,hi=>by simp[iX]at h
 | n::v,k+1,c,0,h,hi=>⟨k,c,by simpa using h⟩
 | n::v,k+1,c,i+1,h,hi=>by
  rw[iX]at h
  split at h
  ·cases h
  ·cases hs:iX L v (k+n.many.toNat) with
   | none=>rw[hs]at h;simp at h
   | some c'=>
    rw[hs]at h
    simp only[Option.map_some,Option.some.injEq]at h
    simpa using Ox L v _ c' i hs (by omega)
def FB(v:Vl)(i:Nat):Bool:=match v.drop i with
 | n::r=>(match parts n.many.toNat r with | some ps=>l8 n.kind ps | none=>false)
 | []=>true
theorem U_{v:Vl}{i:Nat}{n:Nd}(hi:v[i]?=some n):gF (v.drop i)=(bR n && FB v i && gF (v.drop (i+1))):=by
 have hl:=(List.getElem?_eq_some_iff.1 hi).1
 have hd:=List.drop_eq_getElem_cons hl
 rw[List.getElem?_eq_getElem hl]at hi
 cases hi
 simp only[FB,hd,gF]
 rfl
theorem RH(v:Vl)(i:Int)(h0:0≤i)(hi:i.toNat<v.length)(hs:Small v)(hn:iX v.length v 1=some v.length) :
  ai Tryz.prog 70 [aJ v,.int .i64 i] [] (.bool (FB v i.toNat)) []:=by
 obtain⟨i,rfl⟩:∃k:Nat,i=k:=⟨i.toNat,by omega⟩
 simp only[Int.toNat_natCast]at hi ⊢
 have hg:=List.getElem?_eq_getElem hi
 have hd:=List.drop_eq_getElem_cons hi
 generalize v[i]=n at hg hd
 obtain⟨k',c',h'⟩:=Ox v.length v 1 _ i hn hi
 rw[Nat.add_comm]at h'
 obtain⟨c1,_,h1,_,_⟩:=uY v.length _ 1 k' c' h'
 rw[hd,iX]at h1
 split at h1
 ·cases h1
 ·rename_i hm
  cases hx:iX v.length (v.drop (i+1)) (0+n.many.toNat) with
  | none=>rw[hx]at h1;simp at h1
  | some c=>
   rw[Nat.zero_add]at hx
   obtain⟨ps,hp,_,_⟩:=fF _ _ _ (o_ _ _ _ _ hx)
   have:=RF v i n c hs hg (by omega) hx ps hp
   simp only[FB,hd,hp]
   exact this
def qQ:dD:=λargs objs K=>match args with
 | [a0,.int .i64 i]=>dZ aJ a0 (HK.mk:HK λv=>(0≤i)∧(i.toNat<v.length)∧(Small v)∧(iX v.length v 1=some v.length)∧K (.bool (FB v i.toNat)) objs 0)
 | _=>False
theorem Oy:aC Tryz.prog 70 (qQ):=by
 intro args objs K h
 unfold qQ at h
 split at h
 ·rename_i a0 i
  obtain⟨v,rfl,h1,h2,h3,h4,hk⟩:=h
  exact⟨_,_,_,.pure _ rfl (RH v i h1 h2 h3 h4),hk⟩
 ·exact h.elim
theorem Va(v:Vl)(hs:Small v):ai Tryz.prog 36 [aJ v] [] (.bool (dI v)) []:=by
 have hl:=hs.len
 refine Bt.aX (T:=aR Tryz.prog [(68,jH),(69,uX),(70,qQ)]) 0 hD (aj (af wu (af RD (af Oy ah)))) aV (by decide) λQ hQ=>?_
 rcases Nat.eq_zero_or_pos v.length with hv | hv
 ·have hr:dI v=false:=by
    have:v=[]:=List.length_eq_zero_iff.1 hv
    rw[this];rfl
  have hv':((v.length:Int)=0)=True:=eq_true (by omega)
  (conv=>arg 4;cbv);simp (maxSteps:=400000) only[↓aS,aT,BEq.rfl,seval,hQ,hr,hv']
 have hv':((v.length:Int)=0)=False:=eq_false (by omega)
 obtain⟨n0,r0,Io⟩:∃n r,v=n::r:=by
  cases v with
  | nil=>simp at hv
  | cons n r=>exact⟨n,r,rfl⟩
 have hg0:v[0]?=some n0:=by rw[Io];rfl
 have hnm:nameOf v=n0.name:=by rw[Io];rfl
 have hne:v.isEmpty=false:=by rw[Io];rfl
 by_cases hname:n0.name=[]
 rotate_left 1
 ·have hr:dI v=false:=by simp[dI,hnm,hname]
  (conv=>arg 4;cbv);simp (maxSteps:=400000) only[↓aS,aT,BEq.rfl,seval,hQ,hr,hv',hg0,hname]
 have hz:Int.toNat 0=0:=rfl
 by_cases hnx:uW v 0=(v.length:Int)
 rotate_left 1
 ·have hr:dI v=false:=by
    have:iX v.length v 1≠some v.length:=λh=>hnx (by rw[Du (i:=0) (by simpa using h)];simp)
    simp[dI,this]
  (conv=>arg 4;cbv);simp (maxSteps:=400000) only[↓aS,aT,BEq.rfl,seval,hQ,hr,hv',hg0,hname,↓jH,hnx]
  exact⟨by omega,hl⟩
 have hn:iX v.length v 1=some v.length:=by
  unfold uW at hnx
  rw[List.drop_zero]at hnx
  cases hx:iX v.length v 1 with
  | none=>rw[hx]at hnx;simp only at hnx;omega
  | some c=>rw[hx]at hnx;simp only at hnx;congr 1;omega
 have hr:dI v=gF v:=by simp[dI,hnm,hname,hn,hne]
 (conv=>arg 4;cbv);simp (maxSteps:=400000) only[↓aS,aT,BEq.rfl,seval,hQ,hv',hg0,hname,↓jH,hnx]
 refine⟨by omega,hl,?_⟩
 refine aF (λm S=>∃i:Nat,i+m=v.length∧gF (v.drop i)=gF v∧S=⟨dG 39 [(0,aJ v),(3,.int .i64 i)],[]⟩) v.length ⟨0,by omega,rfl,?_⟩ ?_
 ·simp only[bN,keepR,Nat.reduceAdd,lJ,Nat.reduceBEq,List.map_nil]
  rfl
 rintro m S ⟨i,him,hgd,rfl⟩
 rcases Nat.lt_or_ge i v.length with h | h
 ·have hg:=List.getElem?_eq_getElem h
  have htx:=hs.txt _ (List.getElem_mem h)
  generalize v[i]=n at hg htx
  have hd:=U_ hg
  rw[hgd]at hd
  have zi:(0≤(i:Int))=True:=eq_true (by omega)
  have hlt:((i:Int)<(v.length:Int))=True:=eq_true (by omega)
  cases hp:bR n
  ·have hr2:dI v=false:=by rw[hr,hd,hp];rfl
   simp (maxSteps:=400000) only[↓aS,aT,BEq.rfl,seval,hQ,hg,↓uX,↓qQ,hp,zi,hlt,hr2]
   exact htx.1
  cases hq:FB v i
  ·have hr2:dI v=false:=by rw[hr,hd,hp,hq];rfl
   simp (maxSteps:=400000) only[↓aS,aT,BEq.rfl,seval,hQ,hg,↓uX,↓qQ,hp,hq,zi,hlt,hr2]
   exact⟨htx.1,h,hs,hn⟩
  ·simp (maxSteps:=400000) only[↓aS,aT,BEq.rfl,seval,hQ,hg,↓uX,↓qQ,hp,hq,zi,hlt]
   refine⟨htx.1,h,hs,hn,⟨by omega,by omega⟩,m-1,by omega,i+1,by omega,?_,by simp⟩
   rw[hd,hp,hq];simp
 ·have hlt:((i:Int)<(v.length:Int))=False:=eq_false (by omega)
  simp (maxSteps:=400000) only[↓aS,aT,BEq.rfl,seval,hQ,hlt]
  rw[hr,←hgd,List.drop_eq_nil_of_le h];rfl
def rJ:dD:=λargs objs K=>match args with
 | [a0]=>dZ aJ a0 (HK.mk:HK λv=>(Small v)∧K (.bool (dI v)) objs 0)
 | _=>False
theorem Gl:aC Tryz.prog 36 (rJ):=by
 intro args objs K h
 unfold rJ at h
 split at h
 ·rename_i a0
  obtain⟨v,rfl,h1,hk⟩:=h
  exact⟨_,_,_,.pure _ rfl (Va v h1),hk⟩
 ·exact h.elim
def FC(n:Nd):Bool:=decide (n.s.length≤200) && decide (n.name.length≤200)
theorem abI(v:Vl)(k:Nat)(hk:k≤1000000)(hs:v.length≤4611686018427387904)(htx:∀n∈v,n.s.length≤4611686018427387904∧n.name.length≤4611686018427387904):ai Tryz.prog 15 [aJ v,.int .i64 k] [] (.bool (Cu v k)) []:=by
 refine Fh.aX (T:=aR Tryz.prog [(36,rJ)]) 0 hD (aj (af Gl ah)) aV (by decide) λQ hQ=>?_
 rcases Nat.lt_or_ge k v.length with hlen | hlen
 ·have hr:Cu v k=false:=by
    have:decide (v.length≤k)=false:=by simp;omega
    simp[Cu,this]
  have hlt:((k:Int)<(v.length:Int))=True:=eq_true (by omega)
  (conv=>arg 4;cbv);simp (maxSteps:=400000) only[↓aS,aT,BEq.rfl,seval,hQ,hr,hlt]
 have hlt:((k:Int)<(v.length:Int))=False:=eq_false (by omega)
 have hr:Cu v k=(v.all FC && dI v):=by
  have:decide (v.length≤k)=true:=by simpa using hlen
  simp only[Cu,this,Bool.true_and]
  rfl
 have hsm:Small v:=⟨by omega,htx⟩
 (conv=>arg 4;cbv);simp (maxSteps:=400000) only[↓aS,aT,BEq.rfl,seval,hQ,hlt]
 refine aF (λm S=>∃i:Nat,i+m=v.length∧(v.drop i).all FC=v.all FC∧S=⟨dG 34 [(0,aJ v),(5,.int .i64 i)],[]⟩) v.length ⟨0,by omega,rfl,?_⟩ ?_
 ·simp only[bN,keepR,Nat.reduceAdd,lJ,Nat.reduceBEq,List.map_nil]
  rfl
 rintro m S ⟨i,him,hal,rfl⟩
 rcases Nat.lt_or_ge i v.length with h | h
 ·have hg:=List.getElem?_eq_getElem h
  have hd:=List.drop_eq_getElem_cons h
  generalize v[i]=n at hg hd
  have zi:(0≤(i:Int))=True:=eq_true (by omega)
  have hlt:((i:Int)<(v.length:Int))=True:=eq_true (by omega)
  rw[hd,List.all_cons]at hal
  by_cases h1:n.s.length≤200
  rotate_left 1
  ·have e1:((200:Int)<(n.s.length:Int))=True:=eq_true (by omega)
   have hr2:Cu v k=false:=by rw[hr,←hal];simp[FC,h1]
   simp (maxSteps:=400000) only[↓aS,aT,BEq.rfl,seval,hQ,hg,zi,hlt,e1,hr2]
  have e1:((200:Int)<(n.s.length:Int))=False:=eq_false (by omega)
  by_cases h2:n.name.length≤200
  rotate_left 1
  ·have e2:((200:Int)<(n.name.length:Int))=True:=eq_true (by omega)
   have hr2:Cu v k=false:=by rw[hr,←hal];simp[FC,h2]
   simp (maxSteps:=400000) only[↓aS,aT,BEq.rfl,seval,hQ,hg,zi,hlt,e1,e2,hr2]
  have e2:((200:Int)<(n.name.length:Int))=False:=eq_false (by omega)
  simp (maxSteps:=400000) only[↓aS,aT,BEq.rfl,seval,hQ,hg,zi,hlt,e1,e2]
  refine⟨⟨by omega,by omega⟩,m-1,by omega,i+1,by omega,?_,by simp⟩
  rw[←hal];simp[FC,h1,h2]
 ·have hlt:((i:Int)<(v.length:Int))=False:=eq_false (by omega)
  have hr2:Cu v k=dI v:=by
   rw[hr,←hal,List.drop_eq_nil_of_le h];rfl
  simp (maxSteps:=400000) only[↓aS,aT,BEq.rfl,seval,hQ,hlt,↓rJ,hr2]
  exact hsm
theorem Zi(v:Vl)(k:Int)(hk:0≤k∧k≤1000000)(hs:v.length≤4611686018427387904)(htx:∀n∈v,n.s.length≤4611686018427387904∧n.name.length≤4611686018427387904):ai Tryz.prog 15 [aJ v,.int .i64 k] [] (.bool (Cu v k.toNat)) []:=by
 have e:k=(k.toNat:Int):=by omega
 rw[e]
 exact abI v k.toNat (by omega) hs htx
def yL:dD:=λargs objs K=>match args with
 | [a0,.int .i64 k]=>dZ aJ a0 (HK.mk:HK λv=>(0≤k∧k≤1000000)∧(v.length≤4611686018427387904)∧(∀n∈v,n.s.length≤4611686018427387904∧n.name.length≤4611686018427387904)∧K (.bool (Cu v k.toNat)) objs 0)
 | _=>False
theorem Zj:aC Tryz.prog 15 (yL):=by
 intro args objs K h
 unfold yL at h
 split at h
 ·rename_i a0 k
  obtain⟨v,rfl,h1,h2,h3,hk⟩:=h
  exact⟨_,_,_,.pure _ rfl (Zi v k h1 h2 h3),hk⟩
 ·exact h.elim
end Lp
namespace Lp
open Go Go.Proofs
open List (length_append length_cons length_nil map_map map_nil mem_singleton)
theorem bT:PV.xH (.agg ⟨[.int .i64 0,.int .i64 0,.string ⟨⟨[]⟩⟩,.string ⟨⟨[]⟩⟩,.bool false,.int .i64 0]⟩)=aB ⟨0,0,[],[],false,0⟩:=rfl
theorem bU(a:Nd)(k m:Int)(x y:List UInt8)(g:Bool)(e:Int):(aB a).putCells 0 [.int .i64 k,.int .i64 m,.str x,.str y,.bool g,.int .i64 e]=aB ⟨k,m,x,y,g,e⟩:=rfl
theorem agX(n:Nd)(r:Vl):(∀y,y∈aB n::r.map aB→y.cells.length=6∧y.cells.all PV.storable=true)=True:=by
 have:=t_ (enc:=aB) (sz:=6) (λ_=>rfl) (λ_=>rfl) (n::r)
 rwa[List.map_cons]at this
theorem abJ(v:Vl)(i j:Nat)(hij:i<j)(hj:j≤v.length)(hl:v.length≤1000000):ai Tryz.prog 74 [aJ v,.int .i64 i,.int .i64 j] [] (aJ (ic ((v.take j).drop i))) []:=by
 obtain⟨n,r,hnr⟩:∃n r,(v.take j).drop i=n::r:=by
  cases h:(v.take j).drop i with
  | nil=>have:=congrArg List.length h;simp at this;omega
  | cons n r=>exact⟨n,r,rfl⟩
 have hlen:((v.take j).drop i).length≤1000000:=by simp;omega
 rw[hnr]at hlen ⊢
 simp only[length_cons]at hlen
 have zi:(0≤(i:Int))=True:=eq_true (by omega)
 have c1:((i:Int)≤(j:Int))=True:=eq_true (by omega)
 have c2:((j:Int)≤(v.length:Int))=True:=eq_true (by omega)
 refine Fu.aX (T:=aR Tryz.prog []) 1 hD (aj ah) aV (by decide) λQ hQ=>?_
 (conv=>arg 4;cbv);simp (maxSteps:=400000) only[↓aS,aT,BEq.rfl,seval,hQ,zi,c1,c2,hnr,bT,bU,agX,List.set_cons_zero]
 exact⟨by omega,by omega,by omega,by omega,((jv hV inN).1 _ _ (ic (n::r)) 2 _).symm⟩
theorem Zk(v:Vl)(i j:Int)(h:0≤i∧i<j∧j≤v.length)(hl:v.length≤1000000):ai Tryz.prog 74 [aJ v,.int .i64 i,.int .i64 j] [] (aJ (ic ((v.take j.toNat).drop i.toNat))) []:=by
 have e1:i=(i.toNat:Int):=by omega
 have e2:j=(j.toNat:Int):=by omega
 have:=abJ v i.toNat j.toNat (by omega) (by omega) hl
 rw[←e1,←e2]at this
 exact this
def Oz:dD:=λargs objs K=>match args with
 | [a0,.int .i64 i,.int .i64 j]=>dZ aJ a0 (HK.mk:HK λv=>(0≤i∧i<j∧j≤v.length)∧(v.length≤1000000)∧K (aJ (ic ((v.take j.toNat).drop i.toNat))) objs 0)
 | _=>False
theorem Zl:aC Tryz.prog 74 (Oz):=by
 intro args objs K h
 unfold Oz at h
 split at h
 ·rename_i a0 i j
  obtain⟨v,rfl,h1,h2,hk⟩:=h
  exact⟨_,_,_,.pure _ rfl (Zk v i j h1 h2),hk⟩
 ·exact h.elim
theorem nP(L:Nat):∀(v:Vl) (k c:Nat),skip v k=some c→c≤L→iX L v k=some c
 | v,0,c,h,_=>by cases v<;>simpa[iX,skip] using h
 | [],k+1,c,h,_=>by simp[skip]at h
 | n::v,k+1,c,h,hc=>by
  obtain⟨hm,c',rfl,h'⟩:=dF h
  have:=dS _ _ _ h'
  rw[iX,if_neg (by omega),nP L v _ c' h' (by omega)];rfl
def agY(l:List Vl)(ver:Nat):Obj:=⟨41,1,l.map aJ,true,ver⟩
def agZ(l:List (List UInt8))(ver:Nat):Obj:=⟨9,1,l.map .str,true,ver⟩
theorem Zm(d n:Nat)(O:List Obj)(t:TypeId)(sz:Nat)(l:List Vl)(ver:Nat):f_ d n O ⟨t,sz,l.map aJ,true,ver⟩=⟨t,sz,l.map aJ,true,ver⟩:=by
 have:(l.map aJ).map (PV.bL (eZ d n O))=l.map aJ:=by
  rw[map_map]
  exact List.map_congr_left λx _=>rfl
 simp only[f_,this]
theorem Nb(d n:Nat)(O:List Obj)(t:TypeId)(sz:Nat)(l:List (List UInt8))(ver:Nat):f_ d n O ⟨t,sz,l.map .str,true,ver⟩=⟨t,sz,l.map .str,true,ver⟩:=by
 have:(l.map PV.str).map (PV.bL (eZ d n O))=l.map PV.str:=by
  rw[map_map]
  exact List.map_congr_left λx _=>rfl
 simp only[f_,this]
theorem Nc(l:List Vl)(ver:Nat):fI [agY l ver]:=by
 intro o ho x hx c hc
 simp only[mem_singleton]at ho;subst ho
 obtain⟨y,_,rfl⟩:=List.mem_map.1 hx
 simp only[aJ,PV.cells,mem_singleton]at hc
 subst hc;rfl
theorem FD(l:List (List UInt8))(ver:Nat):fI [agZ l ver]:=by
 intro o ho x hx c hc
 simp only[mem_singleton]at ho;subst ho
 obtain⟨y,_,rfl⟩:=List.mem_map.1 hx
 simp only[PV.cells,mem_singleton]at hc
 subst hc;rfl
theorem K9(v:Vl)(ho:One v)(hl:v.length≤1000000):ai Tryz.prog 42 [aJ v] [] (.bO 0 0) [agY (aG v) 0]:=by
 obtain⟨n,r,hv⟩:∃n r,v=n::r:=by
  cases v with
  | nil=>exact absurd rfl ho.ne
  | cons n r=>exact⟨n,r,rfl⟩
 have ho':=ho
 rw[hv]at ho'
 obtain⟨hm,ps,hp,hfl,hps⟩:=ho'.parts
 have hpl:=bD _ _ _ hp
 have hg0:v[0]?=some n:=by rw[hv];rfl
 have hr:aG v=ps.map ic:=by rw[hv,aG];exact (fq hp).1
 have hmn:n.many=(ps.length:Int):=by omega
 have hd1:v.drop 1=r:=by rw[hv];rfl
 have Fy:=fu _ _ _ hp
 have hrl:r.length+1=v.length:=by rw[hv];rfl
 rw[hr]
 refine Bv.aeI (T:=aR Tryz.prog [(68,jH),(74,Oz)]) 1 hD (aj (af wu (af Zl ah))) aV λQ hQ=>?_
 (conv=>arg 4;cbv);simp (maxSteps:=400000) only[↓aS,aT,BEq.rfl,seval,hQ]
 refine aF (λm S=>∃(i ver:Nat) (done:List Vl) (rest:List Vl),m=rest.length∧done.length+rest.length=ps.length∧done++rest.map ic=ps.map ic∧parts rest.length (v.drop i)=some rest∧
  S=⟨dG 28 [(0,aJ v),(3,.bO 0 ver),(4,.int .i64 i),(5,.int .i64 done.length)],[⟨41,1,done.map aJ,true,ver⟩]⟩) ps.length ⟨1,1,[],ps,rfl,by simp,rfl,by rw[hd1,hpl];exact hp,?_⟩ ?_
 ·simp only[bN,keepR,Nat.reduceAdd,lJ,Nat.reduceBEq,map_nil]
  rfl
 rintro m S ⟨i,ver,done,rest,rfl,hdl,hdr,hrp,rfl⟩
 cases rest with
 | nil=>
  simp only[length_nil,Nat.add_zero]at hdl
  have hlt:((done.length:Int)<(ps.length:Int))=False:=eq_false (by omega)
  simp only[map_nil,List.append_nil]at hdr
  simp (maxSteps:=400000) only[↓aS,aT,BEq.rfl,seval,hQ,hg0,hmn,hlt]
  rw[hdr]
  exact afz (k:=0) (ver:=ver) rfl rfl rfl rfl (congrArg (λo:Obj=>{ o with ver:=0 }) (Zm 1 1 _ 41 1 (ps.map ic) ver)) (Nc _ 0)
 | cons p qs=>
  obtain⟨c,qs',h1,h2,h3⟩:=d9 (k:=qs.length) hrp
  simp only[List.cons.injEq]at h2
  obtain⟨hp1,rfl⟩:=h2
  simp only[length_cons]at hdl
  have hlt:((done.length:Int)<(ps.length:Int))=True:=eq_true (by omega)
  have hc:=dS _ _ _ h1
  simp only[List.length_drop]at hc
  have hnx:uW v i=(i+c:Nat):=Du (nP _ _ _ _ h1 (by omega))
  have zi:(0≤(i:Int))=True:=eq_true (by omega)
  simp (maxSteps:=400000) only[↓aS,aT,BEq.rfl,seval,hQ,hg0,hmn,hlt,↓jH,↓Oz,hnx,zi]
  have hpe:List.drop i (List.take (i+c) v)=p:=by
   rw[List.drop_take,hp1,show i+c-i=c by omega]
  have happ:List.map aJ done++[aJ (ic p)]=List.map aJ (done++[ic p]):=by simp
  rw[hpe,happ]
  refine⟨by omega,hl,⟨by omega,by omega⟩,hl,by omega,by omega,⟨by omega,by omega⟩,qs.length,by omega,i+c,ver+1,done++[ic p],qs,rfl,?_,?_,?_,?_⟩
  ·simp only[length_append,length_cons,length_nil];omega
  ·rw[←hdr];simp
  ·rw[←List.drop_drop];exact h3
  ·simp only[length_append,length_cons,length_nil,Nat.zero_add,Int.natCast_add,Int.cast_ofNat_Int,Int.natCast_one]
theorem K_(v:Vl)(ho:One v)(hl:v.length≤1000000):ai Tryz.prog 42 [aJ v] [] (iq (aG v)) []:=
 (K9 v ho hl).froze rfl rfl (Nc _ 0)
def bB:dD:=λargs objs K=>match args with
 | [a0]=>dZ aJ a0 (HK.mk:HK λv=>(One v)∧(v.length≤1000000)∧K (iq (aG v)) objs 0)
 | _=>False
theorem lq:aC Tryz.prog 42 (bB):=by
 intro args objs K h
 unfold bB at h
 split at h
 ·rename_i a0
  obtain⟨v,rfl,h1,h2,hk⟩:=h
  exact⟨_,_,_,.pure _ rfl (K_ v h1 h2),hk⟩
 ·exact h.elim
theorem Hg(v:Vl)(ho:One v)(hl:v.length≤1000000):ai Tryz.prog 82 [aJ v] [] (.bO 0 0) [agZ (cu v) 0]:=by
 obtain⟨n,r,hv⟩:∃n r,v=n::r:=by
  cases v with
  | nil=>exact absurd rfl ho.ne
  | cons n r=>exact⟨n,r,rfl⟩
 have ho':=ho
 rw[hv]at ho'
 obtain⟨hm,ps,hp,hfl,hps⟩:=ho'.parts
 have hpl:=bD _ _ _ hp
 have hg0:v[0]?=some n:=by rw[hv];rfl
 have hr:cu v=if n.kind=6 then ps.map nameOf else []:=by rw[hv,cu,(fq hp).2]
 have hmn:n.many=(ps.length:Int):=by omega
 have hd1:v.drop 1=r:=by rw[hv];rfl
 have Fy:=fu _ _ _ hp
 have hrl:r.length+1=v.length:=by rw[hv];rfl
 refine Bz.aeI (T:=aR Tryz.prog [(68,jH)]) 1 hD (aj (af wu ah)) aV λQ hQ=>?_
 (conv=>arg 4;cbv);simp (maxSteps:=400000) only[↓aS,aT,BEq.rfl,seval,hQ]
 refine aF (λm S=>∃(i ver:Nat) (done:List (List UInt8)) (rest:List Vl),m=rest.length∧(done=[]∨n.kind=6)∧done.length+rest.length=ps.length∧done++rest.map nameOf=ps.map nameOf∧parts rest.length (v.drop i)=some rest∧
  S=⟨dG 34 [(0,aJ v),(3,.bO 0 ver),(4,.int .i64 i),(5,.int .i64 done.length)],[⟨9,1,done.map .str,true,ver⟩]⟩) ps.length ⟨1,1,[],ps,rfl,.inl rfl,by simp,rfl,by rw[hd1,hpl];exact hp,?_⟩ ?_
 ·simp only[bN,keepR,Nat.reduceAdd,lJ,Nat.reduceBEq,map_nil]
  rfl
 rintro m S ⟨i,ver,done,rest,rfl,hdn,hdl,hdr,hrp,rfl⟩
 cases rest with
 | nil=>
  simp only[length_nil,Nat.add_zero]at hdl
  have hlt:((done.length:Int)<(ps.length:Int))=False:=eq_false (by omega)
  simp only[map_nil,List.append_nil]at hdr
  simp (maxSteps:=400000) only[↓aS,aT,BEq.rfl,seval,hQ,hg0,hmn,hlt]
  have hd:done=cu v:=by
   rw[hr]
   split
   ·exact hdr
   ·rename_i h6
    exact hdn.resolve_right h6
  rw[hd]
  exact afz (k:=0) (ver:=ver) rfl rfl rfl rfl (congrArg (λo:Obj=>{ o with ver:=0 }) (Nb 1 1 _ 9 1 (cu v) ver)) (FD _ 0)
 | cons p qs=>
  obtain⟨c,qs',h1,h2,h3⟩:=d9 (k:=qs.length) hrp
  simp only[List.cons.injEq]at h2
  obtain⟨hp1,rfl⟩:=h2
  simp only[length_cons]at hdl
  have hlt:((done.length:Int)<(ps.length:Int))=True:=eq_true (by omega)
  have hc:=dS _ _ _ h1
  simp only[List.length_drop]at hc
  have hnx:uW v i=(i+c:Nat):=Du (nP _ _ _ _ h1 (by omega))
  have zi:(0≤(i:Int))=True:=eq_true (by omega)
  have hil:i<v.length:=by omega
  have hgi:=List.getElem?_eq_getElem hil
  have hdi:=List.drop_eq_getElem_cons hil
  generalize v[i]=pn at hgi hdi
  have hname:nameOf p=pn.name:=by
   obtain⟨w,hw⟩:∃w,c=w+1:=⟨c-1,by omega⟩
   rw[hp1,hdi,hw];rfl
  by_cases h6:n.kind=6
  rotate_left 1
  ·simp (maxSteps:=400000) only[↓aS,aT,BEq.rfl,seval,hQ,hg0,hmn,hlt,h6]
   have hd:done=cu v:=by rw[hr,if_neg h6,hdn.resolve_right h6]
   rw[hd]
   exact afz (k:=0) (ver:=ver) rfl rfl rfl rfl (congrArg (λo:Obj=>{ o with ver:=0 }) (Nb 1 1 _ 9 1 (cu v) ver)) (FD _ 0)
  simp (maxSteps:=400000) only[↓aS,aT,BEq.rfl,seval,hQ,hg0,hmn,hlt,h6,↓jH,hnx,zi,hgi]
  have happ:List.map PV.str done++[PV.str pn.name]=List.map PV.str (done++[pn.name]):=by simp
  rw[happ]
  refine⟨by omega,by omega,by omega,hl,⟨by omega,by omega⟩,qs.length,by omega,i+c,ver+1,done++[pn.name],qs,rfl,?_,?_,?_,?_⟩
  ·simp only[length_append,length_cons,length_nil];omega
  ·rw[←hdr,List.map_cons,hname];simp
  ·rw[←List.drop_drop];exact h3
  ·simp only[length_append,length_cons,length_nil,Nat.zero_add,Int.natCast_add,Int.cast_ofNat_Int,Int.natCast_one]
theorem Hl(v:Vl)(ho:One v)(hl:v.length≤1000000):ai Tryz.prog 82 [aJ v] [] (jQ (cu v)) []:=
 (Hg v ho hl).froze rfl rfl (FD _ 0)
def kI:dD:=λargs objs K=>match args with
 | [a0]=>dZ aJ a0 (HK.mk:HK λv=>(One v)∧(v.length≤1000000)∧K (jQ (cu v)) objs 0)
 | _=>False
theorem uZ:aC Tryz.prog 82 (kI):=by
 intro args objs K h
 unfold kI at h
 split at h
 ·rename_i a0
  obtain⟨v,rfl,h1,h2,hk⟩:=h
  exact⟨_,_,_,.pure _ rfl (Hl v h1 h2),hk⟩
 ·exact h.elim
end Lp
namespace Lp
open Go Go.Proofs
theorem Zn(a b:Vl)(ha:a.length≤1000000)(hb:b.length≤1000000):ai Tryz.prog 76 [aJ a,aJ b] [] (.bool (decide (a=b))) []:=by
 refine C9.aX (T:=aR Tryz.prog []) 0 hD (aj ah) aV (by decide) λQ hQ=>?_
 by_cases hl:a.length=b.length
 rotate_left 1
 ·have hl':((a.length:Int)=(b.length:Int))=False:=eq_false (by omega)
  have hr:decide (a=b)=false:=decide_eq_false λh=>hl (by rw[h])
  (conv=>arg 4;cbv);simp (maxSteps:=400000) only[↓aS,aT,BEq.rfl,seval,hQ,hl',hr]
 have hl':((a.length:Int)=(b.length:Int))=True:=eq_true (by omega)
 (conv=>arg 4;cbv);simp (maxSteps:=400000) only[↓aS,aT,BEq.rfl,seval,hQ,hl']
 refine aF (λm S=>∃i:Nat,i+m=a.length∧(∀j,j<i→a[j]?=b[j]?)∧S=⟨dG 26 [(0,aJ a),(1,aJ b),(5,.int .i64 i)],[]⟩) a.length ⟨0,by omega,λj h=>absurd h (by omega),?_⟩ ?_
 ·simp only[bN,keepR,Nat.reduceAdd,lJ,Nat.reduceBEq,List.map_nil]
  rfl
 rintro m S ⟨i,him,hj,rfl⟩
 have zi:(0≤(i:Int))=True:=eq_true (by omega)
 rcases Nat.lt_or_ge i a.length with h | h
 rotate_left 1
 ·have hlt:((i:Int)<(a.length:Int))=False:=eq_false (by omega)
  have hab:a=b:=List.ext_getElem? λj=>by
   by_cases hji:j<i
   ·exact hj j hji
   ·rw[List.getElem?_eq_none (by omega),List.getElem?_eq_none (by omega)]
  have hr:decide (a=b)=true:=decide_eq_true hab
  simp (maxSteps:=400000) only[↓aS,aT,BEq.rfl,seval,hQ,hlt,hr]
 have hlt:((i:Int)<(a.length:Int))=True:=eq_true (by omega)
 have ga:=List.getElem?_eq_getElem h
 have gb:b[i]?=some (b[i]'(by omega)):=List.getElem?_eq_getElem (by omega)
 generalize a[i]=x at ga
 generalize b[i]'(by omega)=y at gb
 by_cases hxy:x=y
 ·have hxy':(x=y)=True:=eq_true hxy
  simp (maxSteps:=400000) only[↓aS,aT,BEq.rfl,seval,hQ,hlt,zi,ga,gb,hxy']
  refine⟨⟨by omega,by omega⟩,m-1,by omega,i+1,by omega,?_,by simp⟩
  intro j hji
  by_cases hjj:j=i
  ·subst hjj;rw[ga,gb,hxy]
  ·exact hj j (by omega)
 ·have hxy':(x=y)=False:=eq_false hxy
  have hr:decide (a=b)=false:=decide_eq_false λh=>hxy (by rw[h,gb]at ga;exact (Option.some.inj ga).symm)
  simp (maxSteps:=400000) only[↓aS,aT,BEq.rfl,seval,hQ,hlt,zi,ga,gb,hxy',hr]
def Dv:dD:=λargs objs K=>match args with
 | [a0,a1]=>dZ aJ a0 (HK.mk:HK λa=>dZ aJ a1 (HK.mk:HK λb=>(a.length≤1000000)∧(b.length≤1000000)∧K (.bool (decide (a=b))) objs 0))
 | _=>False
theorem Vb:aC Tryz.prog 76 (Dv):=by
 intro args objs K h
 unfold Dv at h
 split at h
 ·rename_i a0 a1
  obtain⟨a,rfl,b,rfl,h1,h2,hk⟩:=h
  exact⟨_,_,_,.pure _ rfl (Zn a b h1 h2),hk⟩
 ·exact h.elim
end Lp
namespace Lp
open Go Go.Proofs
theorem nmP(n:Nd)(nm:List UInt8):(aB n).putCells 2 [.str nm]=aB { n with name:=nm }:=rfl
theorem ahO(n:Nd):(aB n).cells.length=6:=rfl
theorem La:(PV.xH (Value.agg { toList:=[Value.int IntKind.i64 0,Value.int IntKind.i64 0,Value.string { data:={ toList:=[] } },Value.string { data:={ toList:=[] } },Value.bool false,Value.int IntKind.i64 0] })).cells.length=6:=rfl
theorem Lb:(PV.xH (Value.agg { toList:=[Value.int IntKind.i64 0,Value.int IntKind.i64 0,Value.string { data:={ toList:=[] } },Value.string { data:={ toList:=[] } },Value.bool false,Value.int IntKind.i64 0] })).cells.all PV.storable=true:=rfl
theorem Zo(n:Nat)(objs:List Obj)(v:Vl):(v.map aB).map (PV.bL (gX 0 n objs))=v.map aB:=by
 rw[List.map_map]
 exact List.map_congr_left λx _=>rfl
theorem Zp(v:Vl)(ver:Nat)(t:TypeId)(rest:List Obj):eZ 1 0 (⟨t,6,v.map aB,true,ver⟩::rest) (.bO 0 ver)=aJ v:=by
 simp only[eZ,Nat.not_lt_zero,if_false,gX,List.getElem?_cons_zero,Nat.le_refl,decide_true,Bool.true_and,beq_self_eq_true,if_true,Zo]
 rfl
end Lp
namespace Lp
open Go Go.Proofs
end Lp
namespace Lp
open Go Go.Proofs
theorem knI(l:List (FuncId×dD))(n:Nat):(((aR Tryz.prog l).inner n).fn=uO l)∧(((aR Tryz.prog l).inner n).noY.fn=uO l)∧(((aR Tryz.prog l).inner n).nx=n):=⟨rfl,rfl,rfl⟩
end Lp
namespace Lp
open Go Go.Lib
open List (length_cons length_drop length_take)
def abK(b0:Nat):Bool:=
 decide (b0<128) || (firstT b0 % 8==1 && (decide (b0<194) || decide (245≤b0))) || (firstT b0 % 8==2 && accLo (firstT b0 / 16)==128 && accHi (firstT b0 / 16)==191 && decide (194≤b0) && decide (b0<224)) ||
  (firstT b0 % 8==3 && accLo (firstT b0 / 16)==(if b0=224 then 160 else 128) && accHi (firstT b0 / 16)==(if b0=237 then 159 else 191) && decide (224≤b0) && decide (b0<240)) ||
  (firstT b0 % 8==4 && accLo (firstT b0 / 16)==(if b0=240 then 144 else 128) && accHi (firstT b0 / 16)==(if b0=244 then 143 else 191) && decide (240≤b0) && decide (b0<245))
theorem Vd:(List.range 256).all abK=true:=by decide
theorem Ve(b0:Nat)(h:b0<256)(h':128≤b0):(firstT b0 % 8=1∧(b0<194∨245≤b0))∨(firstT b0 % 8=2∧accLo (firstT b0 / 16)=128∧accHi (firstT b0 / 16)=191∧194≤b0∧b0<224)∨
  (firstT b0 % 8=3∧accLo (firstT b0 / 16)=(if b0=224 then 160 else 128)∧accHi (firstT b0 / 16)=(if b0=237 then 159 else 191)∧224≤b0∧b0<240)∨
  (firstT b0 % 8=4∧accLo (firstT b0 / 16)=(if b0=240 then 144 else 128)∧accHi (firstT b0 / 16)=(if b0=244 then 143 else 191)∧240≤b0∧b0<245):=by
 have:=List.all_eq_true.1 Vd b0 (List.mem_range.2 h)
 simp only[abK,Bool.or_eq_true,Bool.and_eq_true,decide_eq_true_eq,beq_iff_eq,and_assoc]at this
 rcases this with (((g | g) | g) | g) | g
 ·omega
 ·exact .inl g
 ·exact .inr (.inl g)
 ·exact .inr (.inr (.inl g))
 ·exact .inr (.inr (.inr g))
theorem abL(c:UInt8)(t:List UInt8):utf (c::t)=(cZ (c::t) !=0 && utf ((c::t).drop (cZ (c::t)))):=by
 unfold utf
 rw[length_cons,IJ]
 simp only[List.isEmpty_cons,Bool.false_or]
 by_cases h:cZ (c::t)=0
 ·simp[h]
 ·congr 1
  exact EN _ _ _ (by simp only[length_drop,length_cons];omega) (Nat.le_refl _)
theorem u8n(c:UInt8)(n:Nat)(h:n<256):c=UInt8.ofNat n↔c.toNat=n:=by
 constructor
 ·rintro rfl;simp[UInt8.toNat_ofNat'];omega
 ·intro e;rw[←e];simp
theorem Vf(c:UInt8)(t:List UInt8)(h:128≤c.toNat) :
  checkN (t.length+1) (t.getD 0 0).toNat (t.getD 1 0).toNat (t.getD 2 0).toNat (firstT c.toNat % 8) (accLo (firstT c.toNat / 16)) (accHi (firstT c.toNat / 16))=
   if cZ (c::t)=0 then none else some (cZ (c::t)):=by
 have e1:(c<128)↔c.toNat<128:=UInt8.lt_iff_toNat_lt
 have e2:(194≤c)↔194≤c.toNat:=UInt8.le_iff_toNat_le
 have e3:(c<224)↔c.toNat<224:=UInt8.lt_iff_toNat_lt
 have e4:(224≤c)↔224≤c.toNat:=UInt8.le_iff_toNat_le
 have e5:(c<240)↔c.toNat<240:=UInt8.lt_iff_toNat_lt
 have e6:(240≤c)↔240≤c.toNat:=UInt8.le_iff_toNat_le
 have e7:(c<245)↔c.toNat<245:=UInt8.lt_iff_toNat_lt
 have e8:c=224↔c.toNat=224:=u8n c 224 (by decide)
 have e9:c=237↔c.toNat=237:=u8n c 237 (by decide)
 have ea:c=240↔c.toNat=240:=u8n c 240 (by decide)
 have eb:c=244↔c.toNat=244:=u8n c 244 (by decide)
 have hc:∀i,iK t i=true↔i<t.length∧128≤(t.getD i 0).toNat∧(t.getD i 0).toNat<192:=by
  intro i
  unfold iK
  cases hg:t[i]? with
  | none=>
   have:=List.getElem?_eq_none_iff.1 hg
   simp;omega
  | some d=>
   have hl:=(List.getElem?_eq_some_iff.1 hg).1
   have hd:t.getD i 0=d:=by simp[List.getD,hg]
   rw[hd]
   simp only[Bool.and_eq_true,decide_eq_true_eq]
   have x1:(128≤d)↔128≤d.toNat:=UInt8.le_iff_toNat_le
   have x2:(d<192)↔d.toNat<192:=UInt8.lt_iff_toNat_lt
   rw[x1,x2]
   exact⟨λg=>⟨hl,g⟩,λg=>g.2⟩
 have hh:t.headD 0=t.getD 0 0:=by cases t<;>rfl
 have f1:(t.getD 0 0<160)↔(t.getD 0 0).toNat<160:=UInt8.lt_iff_toNat_lt
 have f2:(160≤t.getD 0 0)↔160≤(t.getD 0 0).toNat:=UInt8.le_iff_toNat_le
 have f3:(t.getD 0 0<144)↔(t.getD 0 0).toNat<144:=UInt8.lt_iff_toNat_lt
 have f4:(144≤t.getD 0 0)↔144≤(t.getD 0 0).toNat:=UInt8.le_iff_toNat_le
 simp only[cZ,e1,e2,e3,e4,e5,e6,e7,e8,e9,ea,eb,hc,hh,f1,f2,f3,f4]
 have hn:=c.toNat_lt
 generalize c.toNat=n at *
 generalize (t.getD 0 0).toNat=b1 at *
 generalize (t.getD 1 0).toNat=b2 at *
 generalize (t.getD 2 0).toNat=b3 at *
 generalize t.length=L at *
 clear e1 e2 e3 e4 e5 e6 e7 e8 e9 ea eb hc f1 f2 f3 f4 hh
 obtain⟨R,hR⟩:∃R,(if n<128 then 1 else if 194≤n∧n<224∧0<L∧128≤b1∧b1<192 then 2
  else if 224≤n∧n<240∧(0<L∧128≤b1∧b1<192)∧1<L∧128≤b2∧b2<192 then (if n=224∧b1<160∨n=237∧160≤b1 then 0 else 3)
  else if 240≤n∧n<245∧(0<L∧128≤b1∧b1<192)∧(1<L∧128≤b2∧b2<192)∧2<L∧128≤b3∧b3<192 then (if n=240∧b1<144∨n=244∧144≤b1 then 0 else 4) else 0)=R:=⟨_,rfl⟩
 rw[hR]
 rw[if_neg (by omega)]at hR
 rcases Ve n hn h with ⟨k1,k2⟩ | ⟨k1,k2,k3,k4,k5⟩ | ⟨k1,k2,k3,k4,k5⟩ | ⟨k1,k2,k3,k4,k5⟩
 ·rw[k1]
  rw[if_neg (by omega),if_neg (by omega),if_neg (by omega)]at hR
  subst hR;rfl
 ·rw[k1,k2,k3]
  simp only[checkN,if_true]
  by_cases g:0<L∧128≤b1∧b1<192
  ·rw[if_pos ⟨k4,k5,g⟩]at hR
   subst hR
   rw[if_neg (by omega)];rfl
  ·rw[if_neg (by omega),if_neg (by omega),if_neg (by omega)]at hR
   subst hR
   rw[if_pos (by omega)];rfl
 ·rw[k1,k2,k3]
  simp only[checkN,Nat.reduceEqDiff,if_false,if_true]
  rw[if_neg (by omega)]at hR
  by_cases g:(0<L∧128≤b1∧b1<192)∧1<L∧128≤b2∧b2<192
  ·rw[if_pos ⟨k4,k5,g⟩]at hR
   by_cases g2:n=224∧b1<160∨n=237∧160≤b1
   ·rw[if_pos g2]at hR
    subst hR
    rw[if_pos (by split<;>split<;>omega)];rfl
   ·rw[if_neg g2]at hR
    subst hR
    rw[if_neg (by split<;>split<;>omega)];rfl
  ·rw[if_neg (λx=>g x.2.2),if_neg (by omega)]at hR
   subst hR
   rw[if_pos (by split<;>split<;>omega)];rfl
 ·rw[k1,k2,k3]
  simp only[checkN,Nat.reduceEqDiff,if_false,if_true]
  rw[if_neg (by omega),if_neg (by omega)]at hR
  by_cases g:(0<L∧128≤b1∧b1<192)∧(1<L∧128≤b2∧b2<192)∧2<L∧128≤b3∧b3<192
  ·rw[if_pos ⟨k4,k5,g⟩]at hR
   by_cases g2:n=240∧b1<144∨n=244∧144≤b1
   ·rw[if_pos g2]at hR
    subst hR
    rw[if_pos (by split<;>split<;>omega)];rfl
   ·rw[if_neg g2]at hR
    subst hR
    rw[if_neg (by split<;>split<;>omega)];rfl
  ·rw[if_neg (λx=>g x.2.2)]at hR
   subst hR
   rw[if_pos (by split<;>split<;>omega)];rfl
theorem BO:∀(k:Nat) (l:List UInt8),l.length≤k→validD l=utf l
 | _,[],_=>rfl
 | 0,_::_,h=>by simp at h
 | k+1,c::t,h=>by
  simp only[length_cons]at h
  rw[abL]
  by_cases hc:c.toNat<128
  ·have hr:cZ (c::t)=1:=by
     simp only[cZ];rw[if_pos (UInt8.lt_iff_toNat_lt.2 hc)]
   rw[validD_cons c t hc,hr,BO k t (by omega)];simp
  ·rw[validD_lead _ (by simp) (by simpa using hc)]
   have e:=Vf c t (by omega)
   simp only[List.getD_cons_zero,List.getD_cons_succ,length_cons]at e ⊢
   rw[e]
   by_cases h0:cZ (c::t)=0
   ·rw[if_pos h0,h0];rfl
   ·rw[if_neg h0]
    have:((c::t).drop (cZ (c::t))).length≤k:=by simp only[length_drop,length_cons];omega
    rw[show (cZ (c::t) !=0)=true by simpa using h0,Bool.true_and]
    exact BO k _ this
theorem Zq(l:List UInt8):validD l=utf l:=BO _ l (Nat.le_refl _)
def nk(x:Nat):Bool:=decide (48≤x) && decide (x≤57)
theorem Gm(n b0 b1 b2 b3:Nat)(h:(decodeN n b0 b1 b2 b3).1<128):b0<128∧decodeN n b0 b1 b2 b3=(b0,1):=by
 unfold decodeN at *
 split at h
 ·rename_i h0;rw[if_pos h0];exact⟨h0,rfl⟩
 ·exfalso
  repeat' split at h
  all_goals (simp at h;try omega)
theorem Gn(n b0 b1 b2 b3:Nat)(h:b0<128):decodeN n b0 b1 b2 b3=(b0,1):=by unfold decodeN;rw[if_pos h]
theorem Ip{x:Nat}(h:nk x=true):x<128:=by simp[nk]at h;omega
def Iq(l:List UInt8)(i:Nat):Prop:=∀j,i≤j→j<l.length→nk (l.getD j 0).toNat=true
theorem RI(s:ByteArray):∀(f pos:Nat),s.data.toList.length-pos≤f→(idxFuncFrom nk false s f pos=-1↔Iq s.data.toList pos)
 | 0,pos,h=>by
  simp only[idxFuncFrom,true_iff]
  intro j h1 h2;omega
 | f+1,pos,h=>by
  unfold idxFuncFrom
  rw[size_eq]
  split
  ·rename_i hp
   rw[decode_N]
   generalize hd:decodeN _ _ _ _ _=d
   split
   ·rename_i hf
    have:¬ Iq s.data.toList pos:=λhg=>by
     have g:=hg pos (Nat.le_refl _) hp
     rw[Gn _ _ _ _ _ (Ip g)]at hd
     rw[←hd]at hf
     simp only at hf
     rw[g]at hf;cases hf
    simp only[this,iff_false];omega
   ·rename_i hf
    simp only[Bool.not_eq_false]at hf
    have hlt:=Ip hf
    rw[←hd]at hlt
    obtain⟨g1,g2⟩:=Gm _ _ _ _ _ hlt
    rw[g2]at hd
    subst hd
    rw[RI s f (pos+1) (by omega)]
    constructor
    ·intro hh j h1 h2
     rcases Nat.eq_or_lt_of_le h1 with rfl | h1
     ·exact hf
     ·exact hh j h1 h2
    ·intro hh j h1 h2;exact hh j (by omega) h2
  ·rename_i hp
   simp only[true_iff]
   intro j h1 h2;omega
theorem JK(l:List UInt8)(h:(decodeLastL l).1<128):l≠[]∧(l.getD (l.length-1) 0).toNat<128∧decodeLastL l=((l.getD (l.length-1) 0).toNat,1):=by
 unfold decodeLastL at *
 split at h
 ·simp[Utf8.runeError]at h
 ·rename_i hne
  rw[if_neg hne]
  split at h
  ·rename_i h1;rw[if_pos h1];exact⟨hne,h1,rfl⟩
  ·rename_i h1
   exfalso
   simp only at h
   split at h
   ·rename_i h2
    rw[decodeL_N]at h h2
    obtain⟨g1,g2⟩:=Gm _ _ _ _ _ h
    rw[g2]at h2
    simp only[getD_dropU]at g1
    have:lastStart l+0=l.length-1:=by omega
    rw[this]at g1
    exact h1 g1
   ·simp[Utf8.runeError]at h
theorem Nf(s:ByteArray):∀(f i:Nat),i≤f→i≤s.data.toList.length→lastIdxFuncFrom nk false s f i=-1→∀j,j<i→nk (s.data.toList.getD j 0).toNat=true
 | 0,i,h,_,_,j,hj=>by omega
 | f+1,i,h,hi,hx,j,hj=>by
  unfold lastIdxFuncFrom at hx
  rw[if_pos (by omega)]at hx
  split at hx
  ·omega
  ·rename_i hf
   simp only[Bool.not_eq_false]at hf
   obtain⟨g0,g1,g2⟩:=JK _ (Ip hf)
   rw[g2]at hf hx
   have hl:(s.data.toList.take i).length=i:=by rw[length_take];omega
   rw[hl]at hf hx
   have e:(s.data.toList.take i).getD (i-1) 0=s.data.toList.getD (i-1) 0:=by
    simp only[List.getD,List.getElem?_take];rw[if_pos (by omega)]
   rw[e]at hf
   rcases Nat.lt_or_ge j (i-1) with h1 | h1
   ·exact Nf s f (i-1) (by omega) (by omega) hx j h1
   ·have:j=i-1:=by omega
    subst this;exact hf
theorem abM(l:List UInt8):gT l=true↔Iq l 0:=by
 unfold gT Iq
 rw[List.all_eq_true]
 have key:∀c:UInt8,(decide (48≤c) && decide (c≤57))=nk c.toNat:=λc=>by
  have x1:(48≤c)↔48≤c.toNat:=UInt8.le_iff_toNat_le
  have x2:(c≤57)↔c.toNat≤57:=UInt8.le_iff_toNat_le
  simp only[nk,x1,x2]
 constructor
 ·intro h j _ hj
  rw[←key]
  have:l.getD j 0=l[j]:=by simp[List.getD,hj]
  rw[this]
  exact h _ (List.getElem_mem hj)
 ·intro h c hc
  obtain⟨j,hj,rfl⟩:=List.mem_iff_getElem.1 hc
  rw[key]
  have:l.getD j 0=l[j]:=by simp[List.getD,hj]
  rw[←this]
  exact h j (Nat.zero_le _) hj
theorem Gp(p:Nat→Bool)(truth:Bool)(s:ByteArray):∀(f i:Nat),i≤s.size→lastIdxFuncFrom p truth s f i=-1∨(0≤lastIdxFuncFrom p truth s f i∧lastIdxFuncFrom p truth s f i<i)
 | 0,_,_=>.inl rfl
 | f+1,i,hi=>by
  unfold lastIdxFuncFrom
  split
  ·rename_i h0
   have hk:=decodeLastL_width (s.data.toList.take i) (by rw[length_take,←size_eq];omega)
   rw[length_take,←size_eq,Nat.min_eq_left hi]at hk
   split
   ·exact .inr ⟨by omega,by omega⟩
   ·rcases Gp p truth s f (i-(decodeLastL (s.data.toList.take i)).2) (by omega) with h | ⟨h1,h2⟩
    ·exact .inl h
    ·exact .inr ⟨h1,by omega⟩
  ·exact .inl rfl
theorem Vg(l:List UInt8):(trimF nk ⟨⟨l⟩⟩=⟨⟨[]⟩⟩)↔gT l=true:=by
 have hi:=RI ⟨⟨l⟩⟩ l.length 0 (by simp)
 rw[abM,←(show (({ data:={ toList:=l } }:ByteArray).data.toList)=l from rfl),←hi]
 have hidx:idxFunc nk false ⟨⟨l⟩⟩=idxFuncFrom nk false ⟨⟨l⟩⟩ l.length 0:=rfl
 rw[←hidx]
 unfold trimF trimLeftF
 constructor
 ·intro h
  refine Classical.byContradiction λhne=>?_
  rw[if_neg hne]at h
  have hr:=idxFunc_range nk false ⟨⟨l⟩⟩
  obtain⟨r1,r2⟩:=hr.resolve_left hne
  rw[size_eq]at r2
  generalize hk:(idxFunc nk false ⟨⟨l⟩⟩).toNat=k at *
  have hkl:k<l.length:=by simp at r2;omega
  rw[extract_from]at h
  simp only at h
  have hnd:nk (l.getD k 0).toNat=false:=by
   have key:∀f pos,idxFuncFrom nk false ⟨⟨l⟩⟩ f pos≠-1→nk (Utf8.decode ⟨⟨l⟩⟩ (idxFuncFrom nk false ⟨⟨l⟩⟩ f pos).toNat).1=false:=by
    intro f
    induction f with
    | zero=>intro pos h;exact absurd rfl h
    | succ f ih=>
     intro pos h
     unfold idxFuncFrom at h ⊢
     split at h
     ·rename_i hp
      rw[if_pos hp]
      split at h
      ·rename_i hf;rw[if_pos hf];simpa using hf
      ·rename_i hf;rw[if_neg hf];exact ih _ h
     ·exact absurd rfl h
   have:=key _ _ hne
   rw[show (⟨⟨l⟩⟩:ByteArray).size=l.length from rfl,←hidx,hk,decode_N]at this
   cases hb:nk (l.getD k 0).toNat with
   | false=>rfl
   | true=>
    have hlow:=Ip hb
    rw[Gn _ _ _ _ _ hlow]at this
    simp only at this
    rw[hb]at this;cases this
  unfold trimRightF at h
  rw[extract_upto]at h
  have hlen:=congrArg (λb:ByteArray=>b.data.toList.length) h
  simp only[length_take,length_drop,List.length_nil]at hlen
  have hz:rightEndF nk ⟨(l.drop k).toArray⟩=0:=by omega
  unfold rightEndF at hz
  have hlt:=Gp nk false ⟨(l.drop k).toArray⟩ (l.drop k).length (l.drop k).length (by rw[size_eq];exact Nat.le_refl _)
  have hli:lastIdxFunc nk false ⟨(l.drop k).toArray⟩=lastIdxFuncFrom nk false ⟨(l.drop k).toArray⟩ (l.drop k).length (l.drop k).length:=rfl
  split at hz
  ·rename_i h0
   rw[hli]at h0 hz
   obtain⟨h1,h2⟩:=hlt.resolve_left (by omega)
   have h3:1≤(decodeGoB ((⟨(l.drop k).toArray⟩:ByteArray).extract (lastIdxFuncFrom nk false ⟨(l.drop k).toArray⟩ (l.drop k).length (l.drop k).length).toNat (⟨(l.drop k).toArray⟩:ByteArray).size)).2:=by
    unfold decodeGoB
    rw[if_neg]
    ·exact width_pos _ _
    ·rw[extract_from,size_eq]
     simp only[length_drop]at h2 ⊢
     omega
   omega
  ·rename_i h0
   rw[hli]at h0
   have h1:=hlt.resolve_right (by omega)
   have:=Nf ⟨(l.drop k).toArray⟩ _ _ (Nat.le_refl _) (Nat.le_refl _) h1 0 (by rw[length_drop];omega)
   simp only[getD_dropU]at this
   rw[Nat.add_zero,hnd]at this
   cases this
 ·intro h
  rw[if_pos h]
  rfl
theorem uh{α:Type}(p:α→Bool)(l:List α):(l.dropWhile p).length≤l.length:=(List.dropWhile_suffix p).length_le
theorem JL{α:Type}(p:α→Bool):∀l:List α,l.dropWhile p=l↔(∀x,l.head?=some x→p x=false)
 | []=>by simp
 | x::t=>by
  rw[List.dropWhile_cons]
  split
  ·rename_i h
   constructor
   ·intro e
    have:=congrArg List.length e
    have h2:=uh p t
    simp at this;omega
   ·intro g;rw[g x rfl]at h;cases h
  ·rename_i h;simpa using h
theorem Vh(l:List UInt8)(c:UInt8):trimB l c=l↔l.head?≠some c∧l.getLast?≠some c:=by
 have h1:∀m:List UInt8,(m.dropWhile (·==c)=m)↔m.head?≠some c:=λm=>by
  rw[JL]
  constructor
  ·intro h e;simpa using h c e
  ·intro h x hx;rw[hx]at h;simpa using h
 unfold trimB trimLeftB
 have hlen:(trimRightB l c).length≤l.length:=by
  unfold trimRightB
  have:=uh (·==c) l.reverse
  simpa using this
 have hr:trimRightB l c=l↔l.getLast?≠some c:=by
  unfold trimRightB
  rw[List.reverse_eq_iff,h1,List.head?_reverse]
 constructor
 ·intro h
  have h2:=uh (·==c) (trimRightB l c)
  have h3:=congrArg List.length h
  have h4:trimRightB l c=l:=by
   unfold trimRightB at *
   have:=List.dropWhile_suffix (l:=l.reverse) (p:=(·==c))
   have e:=this.eq_of_length (by simp at *;omega)
   rw[e,List.reverse_reverse]
  rw[h4]at h
  exact⟨(h1 l).1 h,hr.1 h4⟩
 ·rintro⟨g1,g2⟩
  rw[hr.2 g2];exact (h1 l).2 g1
end Lp
namespace Go.Proofs
open Go.Shelf
def Tryz.RJ:Go.Shelf.Ren:=⟨λ| 160=>185 | 232=>160 | 231=>156 | 227=>157 | 234=>161 | 233=>158 | 236=>162 | 235=>159 | 228=>179 | 271=>182 | 151=>181 | 197=>180 | 120=>193 | 152=>192 | 260=>191 | 137=>194 | 119=>195 | 224=>196 | 225=>197 | 217=>198 | 266=>199 | n=>n,λ| 9=>9 | 4=>4 | 3=>3 | 5=>5 | 117=>181 | 116=>180 | 0=>0 | 124=>184 | 21=>21 | 105=>203 | 46=>152 | 119=>193 | 139=>196 | 138=>195 | n=>n,λ| 3=>0 | 4=>1 | n=>n⟩
theorem Tryz.XG:Go.Proofs.Lays.n160 Tryz.prog Tryz.RJ:={
 mixed:=by kernel_rfl
 f119:=Tryz.func195.trans (congrArg some (by kernel_rfl))
 f120:=Tryz.func193.trans (congrArg some (by kernel_rfl))
 f137:=Tryz.func194.trans (congrArg some (by kernel_rfl))
 f151:=Tryz.func181.trans (congrArg some (by kernel_rfl))
 f152:=Tryz.func192.trans (congrArg some (by kernel_rfl))
 f160:=Tryz.func185.trans (congrArg some (by kernel_rfl))
 f197:=Tryz.func180.trans (congrArg some (by kernel_rfl))
 f217:=Tryz.func198.trans (congrArg some (by kernel_rfl))
 f224:=Tryz.func196.trans (congrArg some (by kernel_rfl))
 f225:=Tryz.func197.trans (congrArg some (by kernel_rfl))
 f227:=Tryz.func157.trans (congrArg some (by kernel_rfl))
 f228:=Tryz.func179.trans (congrArg some (by kernel_rfl))
 f231:=Tryz.func156.trans (congrArg some (by kernel_rfl))
 f232:=Tryz.func160.trans (congrArg some (by kernel_rfl))
 f233:=Tryz.func158.trans (congrArg some (by kernel_rfl))
 f234:=Tryz.func161.trans (congrArg some (by kernel_rfl))
 f235:=Tryz.func159.trans (congrArg some (by kernel_rfl))
 f236:=Tryz.func162.trans (congrArg some (by kernel_rfl))
 f260:=Tryz.func191.trans (congrArg some (by kernel_rfl))
 f266:=Tryz.func199.trans (congrArg some (by kernel_rfl))
 f271:=Tryz.func182.trans (congrArg some (by kernel_rfl))
 t0:=Tryz.underlying0
 a0:=Tryz.isAgg0
 z0:=Tryz.sizeOf0
 v0:=Tryz.zeroValue0
 t3:=Tryz.underlying3
 a3:=Tryz.isAgg3
 z3:=Tryz.sizeOf3
 v3:=Tryz.zeroValue3
 t4:=Tryz.underlying4
 a4:=Tryz.isAgg4
 z4:=Tryz.sizeOf4
 v4:=Tryz.zeroValue4
 t5:=Tryz.underlying5
 a5:=Tryz.isAgg5
 z5:=Tryz.sizeOf5
 v5:=Tryz.zeroValue5
 t9:=Tryz.underlying9
 a9:=Tryz.isAgg9
 z9:=Tryz.sizeOf9
 v9:=Tryz.zeroValue9
 t21:=Tryz.underlying21
 a21:=Tryz.isAgg21
 z21:=Tryz.sizeOf21
 v21:=Tryz.zeroValue21
 t46:=Tryz.underlying152
 a46:=Tryz.isAgg152
 z46:=Tryz.sizeOf152
 v46:=Tryz.zeroValue152
 t105:=Tryz.underlying203
 a105:=Tryz.isAgg203
 z105:=Tryz.sizeOf203
 v105:=Tryz.zeroValue203
 t116:=Tryz.underlying180
 a116:=Tryz.isAgg180
 z116:=Tryz.sizeOf180
 t117:=Tryz.underlying181
 a117:=Tryz.isAgg181
 z117:=Tryz.sizeOf181
 v117:=Tryz.zeroValue181
 t119:=Tryz.underlying193
 a119:=Tryz.isAgg193
 z119:=Tryz.sizeOf193
 t124:=Tryz.underlying184
 a124:=Tryz.isAgg184
 z124:=Tryz.sizeOf184
 v124:=Tryz.zeroValue184
 t138:=Tryz.underlying195
 a138:=Tryz.isAgg195
 z138:=Tryz.sizeOf195
 v138:=Tryz.zeroValue195
 t139:=Tryz.underlying196
 a139:=Tryz.isAgg196
 z139:=Tryz.sizeOf196
 v139:=Tryz.zeroValue196
 g3:=by kernel_rfl
 g4:=by kernel_rfl }
def Tryz.RL:Go.Shelf.Ren:=⟨λ| 196=>142 | 259=>169 | n=>n,λ| 9=>9 | 4=>4 | 3=>3 | 5=>5 | 12=>12 | 119=>193 | 0=>0 | 46=>152 | 139=>196 | 138=>195 | 53=>188 | n=>n,λ| 3=>0 | 4=>1 | n=>n⟩
theorem Tryz.OA:Go.Proofs.Lays.n196 Tryz.prog Tryz.RL:={
 mixed:=by kernel_rfl
 f196:=Tryz.func142.trans (congrArg some (by kernel_rfl))
 f259:=Tryz.func169.trans (congrArg some (by kernel_rfl))
 t0:=Tryz.underlying0
 a0:=Tryz.isAgg0
 z0:=Tryz.sizeOf0
 v0:=Tryz.zeroValue0
 t3:=Tryz.underlying3
 a3:=Tryz.isAgg3
 z3:=Tryz.sizeOf3
 v3:=Tryz.zeroValue3
 t4:=Tryz.underlying4
 a4:=Tryz.isAgg4
 z4:=Tryz.sizeOf4
 v4:=Tryz.zeroValue4
 t5:=Tryz.underlying5
 a5:=Tryz.isAgg5
 z5:=Tryz.sizeOf5
 v5:=Tryz.zeroValue5
 t9:=Tryz.underlying9
 a9:=Tryz.isAgg9
 z9:=Tryz.sizeOf9
 v9:=Tryz.zeroValue9
 t12:=Tryz.underlying12
 a12:=Tryz.isAgg12
 z12:=Tryz.sizeOf12
 v12:=Tryz.zeroValue12
 t46:=Tryz.underlying152
 a46:=Tryz.isAgg152
 z46:=Tryz.sizeOf152
 v46:=Tryz.zeroValue152
 t53:=Tryz.underlying188
 a53:=Tryz.isAgg188
 z53:=Tryz.sizeOf188
 v53:=Tryz.zeroValue188
 t119:=Tryz.underlying193
 a119:=Tryz.isAgg193
 z119:=Tryz.sizeOf193
 t138:=Tryz.underlying195
 a138:=Tryz.isAgg195
 z138:=Tryz.sizeOf195
 v138:=Tryz.zeroValue195
 t139:=Tryz.underlying196
 a139:=Tryz.isAgg196
 z139:=Tryz.sizeOf196
 v139:=Tryz.zeroValue196
 g3:=by kernel_rfl
 g4:=by kernel_rfl }
def Tryz.RN:Go.Shelf.Ren:=⟨λ| 237=>154 | 272=>178 | 238=>177 | 315=>190 | 273=>189 | 197=>180 | 271=>182 | 260=>191 | 120=>193 | n=>n,λ| 9=>9 | 40=>177 | 4=>4 | 3=>3 | 105=>203 | 21=>21 | 0=>0 | 5=>5 | 119=>193 | 46=>152 | 139=>196 | 138=>195 | n=>n,λ| 3=>0 | 4=>1 | n=>n⟩
theorem Tryz.XH:Go.Proofs.Lays.n237 Tryz.prog Tryz.RN:={
 mixed:=by kernel_rfl
 f120:=Tryz.func193.trans (congrArg some (by kernel_rfl))
 f197:=Tryz.func180.trans (congrArg some (by kernel_rfl))
 f237:=Tryz.func154.trans (congrArg some (by kernel_rfl))
 f238:=Tryz.func177.trans (congrArg some (by kernel_rfl))
 f260:=Tryz.func191.trans (congrArg some (by kernel_rfl))
 f271:=Tryz.func182.trans (congrArg some (by kernel_rfl))
 f272:=Tryz.func178.trans (congrArg some (by kernel_rfl))
 f273:=Tryz.func189.trans (congrArg some (by kernel_rfl))
 f315:=Tryz.func190.trans (congrArg some (by kernel_rfl))
 t0:=Tryz.underlying0
 a0:=Tryz.isAgg0
 z0:=Tryz.sizeOf0
 v0:=Tryz.zeroValue0
 t3:=Tryz.underlying3
 a3:=Tryz.isAgg3
 z3:=Tryz.sizeOf3
 v3:=Tryz.zeroValue3
 t4:=Tryz.underlying4
 a4:=Tryz.isAgg4
 z4:=Tryz.sizeOf4
 v4:=Tryz.zeroValue4
 t5:=Tryz.underlying5
 a5:=Tryz.isAgg5
 z5:=Tryz.sizeOf5
 v5:=Tryz.zeroValue5
 t9:=Tryz.underlying9
 a9:=Tryz.isAgg9
 z9:=Tryz.sizeOf9
 v9:=Tryz.zeroValue9
 t21:=Tryz.underlying21
 a21:=Tryz.isAgg21
 z21:=Tryz.sizeOf21
 v21:=Tryz.zeroValue21
 t40:=Tryz.underlying177
 a40:=Tryz.isAgg177
 z40:=Tryz.sizeOf177
 v40:=Tryz.zeroValue177
 t46:=Tryz.underlying152
 a46:=Tryz.isAgg152
 z46:=Tryz.sizeOf152
 v46:=Tryz.zeroValue152
 t105:=Tryz.underlying203
 a105:=Tryz.isAgg203
 z105:=Tryz.sizeOf203
 v105:=Tryz.zeroValue203
 t119:=Tryz.underlying193
 a119:=Tryz.isAgg193
 z119:=Tryz.sizeOf193
 t138:=Tryz.underlying195
 a138:=Tryz.isAgg195
 z138:=Tryz.sizeOf195
 v138:=Tryz.zeroValue195
 t139:=Tryz.underlying196
 a139:=Tryz.isAgg196
 z139:=Tryz.sizeOf196
 v139:=Tryz.zeroValue196
 g3:=by kernel_rfl
 g4:=by kernel_rfl }
def Tryz.Dw:Go.Shelf.Ren:=⟨λ| 4=>118 | n=>n,λ| 22=>23 | 25=>51 | 3=>3 | 4=>4 | 9=>9 | 20=>20 | 0=>0 | n=>n,λ| n=>n⟩
theorem Tryz.JM:Go.Proofs.Lays8.n4 Tryz.prog Tryz.Dw:={
 mixed:=by kernel_rfl
 f4:=⟨Tryz.f118.name,by decide,Tryz.func118.trans (congrArg some (by kernel_rfl))⟩
 t0:=Tryz.underlying0
 a0:=Tryz.isAgg0
 z0:=Tryz.sizeOf0
 v0:=Tryz.zeroValue0
 t3:=Tryz.underlying3
 a3:=Tryz.isAgg3
 z3:=Tryz.sizeOf3
 v3:=Tryz.zeroValue3
 t4:=Tryz.underlying4
 a4:=Tryz.isAgg4
 z4:=Tryz.sizeOf4
 v4:=Tryz.zeroValue4
 t9:=Tryz.underlying9
 a9:=Tryz.isAgg9
 z9:=Tryz.sizeOf9
 v9:=Tryz.zeroValue9
 t20:=Tryz.underlying20
 a20:=Tryz.isAgg20
 z20:=Tryz.sizeOf20
 v20:=Tryz.zeroValue20
 t22:=Tryz.underlying23
 a22:=Tryz.isAgg23
 z22:=Tryz.sizeOf23
 v22:=Tryz.zeroValue23 }
def Tryz.Gq:Go.Shelf.Ren:=⟨λ| 105=>126 | 212=>135 | 99=>136 | 165=>137 | 166=>138 | 170=>139 | 169=>140 | 263=>163 | 264=>164 | 206=>165 | 240=>166 | 241=>167 | 276=>183 | 277=>184 | n=>n,λ| 9=>9 | 3=>3 | 4=>4 | 20=>20 | 0=>0 | 46=>152 | 109=>153 | 5=>5 | 72=>158 | 76=>162 | 51=>185 | 146=>186 | 53=>188 | 148=>189 | 70=>156 | 37=>146 | 75=>161 | 127=>191 | 164=>206 | 80=>165 | n=>n,λ| n=>n⟩
theorem Tryz.zH:Go.Proofs.Lays.n105 Tryz.prog Tryz.Gq:={
 mixed:=by kernel_rfl
 f99:=Tryz.func136.trans (congrArg some (by kernel_rfl))
 f105:=Tryz.func126.trans (congrArg some (by kernel_rfl))
 f165:=Tryz.func137.trans (congrArg some (by kernel_rfl))
 f166:=Tryz.func138.trans (congrArg some (by kernel_rfl))
 f169:=Tryz.func140.trans (congrArg some (by kernel_rfl))
 f170:=Tryz.func139.trans (congrArg some (by kernel_rfl))
 f206:=Tryz.func165.trans (congrArg some (by kernel_rfl))
 f212:=Tryz.func135.trans (congrArg some (by kernel_rfl))
 f240:=Tryz.func166.trans (congrArg some (by kernel_rfl))
 f241:=Tryz.func167.trans (congrArg some (by kernel_rfl))
 f263:=Tryz.func163.trans (congrArg some (by kernel_rfl))
 f264:=Tryz.func164.trans (congrArg some (by kernel_rfl))
 f276:=Tryz.func183.trans (congrArg some (by kernel_rfl))
 f277:=Tryz.func184.trans (congrArg some (by kernel_rfl))
 t0:=Tryz.underlying0
 a0:=Tryz.isAgg0
 z0:=Tryz.sizeOf0
 v0:=Tryz.zeroValue0
 t3:=Tryz.underlying3
 a3:=Tryz.isAgg3
 z3:=Tryz.sizeOf3
 v3:=Tryz.zeroValue3
 t4:=Tryz.underlying4
 a4:=Tryz.isAgg4
 z4:=Tryz.sizeOf4
 v4:=Tryz.zeroValue4
 t5:=Tryz.underlying5
 a5:=Tryz.isAgg5
 z5:=Tryz.sizeOf5
 v5:=Tryz.zeroValue5
 t9:=Tryz.underlying9
 a9:=Tryz.isAgg9
 z9:=Tryz.sizeOf9
 v9:=Tryz.zeroValue9
 t20:=Tryz.underlying20
 a20:=Tryz.isAgg20
 z20:=Tryz.sizeOf20
 v20:=Tryz.zeroValue20
 t37:=Tryz.underlying146
 a37:=Tryz.isAgg146
 z37:=Tryz.sizeOf146
 v37:=Tryz.zeroValue146
 t46:=Tryz.underlying152
 a46:=Tryz.isAgg152
 z46:=Tryz.sizeOf152
 v46:=Tryz.zeroValue152
 t51:=Tryz.underlying185
 a51:=Tryz.isAgg185
 z51:=Tryz.sizeOf185
 v51:=Tryz.zeroValue185
 t53:=Tryz.underlying188
 a53:=Tryz.isAgg188
 z53:=Tryz.sizeOf188
 v53:=Tryz.zeroValue188
 t70:=Tryz.underlying156
 a70:=Tryz.isAgg156
 z70:=Tryz.sizeOf156
 v70:=Tryz.zeroValue156
 t72:=Tryz.underlying158
 a72:=Tryz.isAgg158
 z72:=Tryz.sizeOf158
 v72:=Tryz.zeroValue158
 t75:=Tryz.underlying161
 a75:=Tryz.isAgg161
 z75:=Tryz.sizeOf161
 v75:=Tryz.zeroValue161
 t76:=Tryz.underlying162
 a76:=Tryz.isAgg162
 z76:=Tryz.sizeOf162
 v76:=Tryz.zeroValue162
 t109:=Tryz.underlying153
 a109:=Tryz.isAgg153
 z109:=Tryz.sizeOf153
 v109:=Tryz.zeroValue153
 t127:=Tryz.underlying191
 a127:=Tryz.isAgg191
 z127:=Tryz.sizeOf191
 v127:=Tryz.zeroValue191
 t146:=Tryz.underlying186
 a146:=Tryz.isAgg186
 z146:=Tryz.sizeOf186
 v146:=Tryz.zeroValue186
 t148:=Tryz.underlying189
 a148:=Tryz.isAgg189
 z148:=Tryz.sizeOf189
 v148:=Tryz.zeroValue189
 t164:=Tryz.underlying206
 a164:=Tryz.isAgg206
 z164:=Tryz.sizeOf206
 v164:=Tryz.zeroValue206 }
def Tryz.RO:Go.Shelf.Ren:=⟨λ| 161=>132 | 231=>156 | 227=>157 | 233=>158 | 235=>159 | 228=>179 | 197=>180 | 151=>181 | 260=>191 | 152=>192 | 137=>194 | 119=>195 | 224=>196 | 225=>197 | 217=>198 | 266=>199 | n=>n,λ| 9=>9 | 4=>4 | 3=>3 | 5=>5 | 117=>181 | 116=>180 | 0=>0 | 124=>184 | 105=>203 | 21=>21 | 119=>193 | 46=>152 | 139=>196 | 138=>195 | n=>n,λ| 3=>0 | 4=>1 | n=>n⟩
theorem Tryz.XI:Go.Proofs.Lays.n161 Tryz.prog Tryz.RO:={
 mixed:=by kernel_rfl
 f119:=Tryz.func195.trans (congrArg some (by kernel_rfl))
 f137:=Tryz.func194.trans (congrArg some (by kernel_rfl))
 f151:=Tryz.func181.trans (congrArg some (by kernel_rfl))
 f152:=Tryz.func192.trans (congrArg some (by kernel_rfl))
 f161:=Tryz.func132.trans (congrArg some (by kernel_rfl))
 f197:=Tryz.func180.trans (congrArg some (by kernel_rfl))
 f217:=Tryz.func198.trans (congrArg some (by kernel_rfl))
 f224:=Tryz.func196.trans (congrArg some (by kernel_rfl))
 f225:=Tryz.func197.trans (congrArg some (by kernel_rfl))
 f227:=Tryz.func157.trans (congrArg some (by kernel_rfl))
 f228:=Tryz.func179.trans (congrArg some (by kernel_rfl))
 f231:=Tryz.func156.trans (congrArg some (by kernel_rfl))
 f233:=Tryz.func158.trans (congrArg some (by kernel_rfl))
 f235:=Tryz.func159.trans (congrArg some (by kernel_rfl))
 f260:=Tryz.func191.trans (congrArg some (by kernel_rfl))
 f266:=Tryz.func199.trans (congrArg some (by kernel_rfl))
 t0:=Tryz.underlying0
 a0:=Tryz.isAgg0
 z0:=Tryz.sizeOf0
 v0:=Tryz.zeroValue0
 t3:=Tryz.underlying3
 a3:=Tryz.isAgg3
 z3:=Tryz.sizeOf3
 v3:=Tryz.zeroValue3
 t4:=Tryz.underlying4
 a4:=Tryz.isAgg4
 z4:=Tryz.sizeOf4
 v4:=Tryz.zeroValue4
 t5:=Tryz.underlying5
 a5:=Tryz.isAgg5
 z5:=Tryz.sizeOf5
 v5:=Tryz.zeroValue5
 t9:=Tryz.underlying9
 a9:=Tryz.isAgg9
 z9:=Tryz.sizeOf9
 v9:=Tryz.zeroValue9
 t21:=Tryz.underlying21
 a21:=Tryz.isAgg21
 z21:=Tryz.sizeOf21
 v21:=Tryz.zeroValue21
 t46:=Tryz.underlying152
 a46:=Tryz.isAgg152
 z46:=Tryz.sizeOf152
 v46:=Tryz.zeroValue152
 t105:=Tryz.underlying203
 a105:=Tryz.isAgg203
 z105:=Tryz.sizeOf203
 v105:=Tryz.zeroValue203
 t116:=Tryz.underlying180
 a116:=Tryz.isAgg180
 z116:=Tryz.sizeOf180
 t117:=Tryz.underlying181
 a117:=Tryz.isAgg181
 z117:=Tryz.sizeOf181
 v117:=Tryz.zeroValue181
 t119:=Tryz.underlying193
 a119:=Tryz.isAgg193
 z119:=Tryz.sizeOf193
 t124:=Tryz.underlying184
 a124:=Tryz.isAgg184
 z124:=Tryz.sizeOf184
 v124:=Tryz.zeroValue184
 t138:=Tryz.underlying195
 a138:=Tryz.isAgg195
 z138:=Tryz.sizeOf195
 v138:=Tryz.zeroValue195
 t139:=Tryz.underlying196
 a139:=Tryz.isAgg196
 z139:=Tryz.sizeOf196
 v139:=Tryz.zeroValue196
 g3:=by kernel_rfl
 g4:=by kernel_rfl }
def Tryz.RP:Go.Shelf.Ren:=⟨λ| 162=>133 | 232=>160 | 227=>157 | 234=>161 | 236=>162 | 228=>179 | 271=>182 | 151=>181 | 120=>193 | 197=>180 | 152=>192 | 260=>191 | 137=>194 | 119=>195 | 224=>196 | 225=>197 | 217=>198 | 266=>199 | n=>n,λ| 9=>9 | 4=>4 | 3=>3 | 5=>5 | 117=>181 | 116=>180 | 0=>0 | 124=>184 | 21=>21 | 105=>203 | 46=>152 | 119=>193 | 139=>196 | 138=>195 | n=>n,λ| 3=>0 | 4=>1 | n=>n⟩
theorem Tryz.XJ:Go.Proofs.Lays.n162 Tryz.prog Tryz.RP:={
 mixed:=by kernel_rfl
 f119:=Tryz.func195.trans (congrArg some (by kernel_rfl))
 f120:=Tryz.func193.trans (congrArg some (by kernel_rfl))
 f137:=Tryz.func194.trans (congrArg some (by kernel_rfl))
 f151:=Tryz.func181.trans (congrArg some (by kernel_rfl))
 f152:=Tryz.func192.trans (congrArg some (by kernel_rfl))
 f162:=Tryz.func133.trans (congrArg some (by kernel_rfl))
 f197:=Tryz.func180.trans (congrArg some (by kernel_rfl))
 f217:=Tryz.func198.trans (congrArg some (by kernel_rfl))
 f224:=Tryz.func196.trans (congrArg some (by kernel_rfl))
 f225:=Tryz.func197.trans (congrArg some (by kernel_rfl))
 f227:=Tryz.func157.trans (congrArg some (by kernel_rfl))
 f228:=Tryz.func179.trans (congrArg some (by kernel_rfl))
 f232:=Tryz.func160.trans (congrArg some (by kernel_rfl))
 f234:=Tryz.func161.trans (congrArg some (by kernel_rfl))
 f236:=Tryz.func162.trans (congrArg some (by kernel_rfl))
 f260:=Tryz.func191.trans (congrArg some (by kernel_rfl))
 f266:=Tryz.func199.trans (congrArg some (by kernel_rfl))
 f271:=Tryz.func182.trans (congrArg some (by kernel_rfl))
 t0:=Tryz.underlying0
 a0:=Tryz.isAgg0
 z0:=Tryz.sizeOf0
 v0:=Tryz.zeroValue0
 t3:=Tryz.underlying3
 a3:=Tryz.isAgg3
 z3:=Tryz.sizeOf3
 v3:=Tryz.zeroValue3
 t4:=Tryz.underlying4
 a4:=Tryz.isAgg4
 z4:=Tryz.sizeOf4
 v4:=Tryz.zeroValue4
 t5:=Tryz.underlying5
 a5:=Tryz.isAgg5
 z5:=Tryz.sizeOf5
 v5:=Tryz.zeroValue5
 t9:=Tryz.underlying9
 a9:=Tryz.isAgg9
 z9:=Tryz.sizeOf9
 v9:=Tryz.zeroValue9
 t21:=Tryz.underlying21
 a21:=Tryz.isAgg21
 z21:=Tryz.sizeOf21
 v21:=Tryz.zeroValue21
 t46:=Tryz.underlying152
 a46:=Tryz.isAgg152
 z46:=Tryz.sizeOf152
 v46:=Tryz.zeroValue152
 t105:=Tryz.underlying203
 a105:=Tryz.isAgg203
 z105:=Tryz.sizeOf203
 v105:=Tryz.zeroValue203
 t116:=Tryz.underlying180
 a116:=Tryz.isAgg180
 z116:=Tryz.sizeOf180
 t117:=Tryz.underlying181
 a117:=Tryz.isAgg181
 z117:=Tryz.sizeOf181
 v117:=Tryz.zeroValue181
 t119:=Tryz.underlying193
 a119:=Tryz.isAgg193
 z119:=Tryz.sizeOf193
 t124:=Tryz.underlying184
 a124:=Tryz.isAgg184
 z124:=Tryz.sizeOf184
 v124:=Tryz.zeroValue184
 t138:=Tryz.underlying195
 a138:=Tryz.isAgg195
 z138:=Tryz.sizeOf195
 v138:=Tryz.zeroValue195
 t139:=Tryz.underlying196
 a139:=Tryz.isAgg196
 z139:=Tryz.sizeOf196
 v139:=Tryz.zeroValue196
 g3:=by kernel_rfl
 g4:=by kernel_rfl }
end Go.Proofs
namespace Lp
open Go Go.Proofs Go.RowKit
theorem Gr{w:World}{ok:Nat→Prop}{blk:Nat→Option Nat}{args:List PV}{vs:List Value}(h:dB (aY w ok [] blk) args vs):dB (dM w ok) args vs:=h.mono λ_ _ h=>yh h
theorem ai.sZ {P:Program}{f:FuncId}{args:List PV}{r:PV}(hent:Enters P f)
  (h:∀(w:World) (vs:List Value) (ok:Nat→Prop),tO.holds w.heap→dB (dM w ok) args vs→Calls P f ⟨vs⟩ w λe w'=>∃v,e=.returned v∧(∀w ok,dM w ok r v)∧Below w.heap.size w w') :
  ai P f args [] r []:=by
 refine⟨hent,λw blk vs base hb _ hargs=>(h w vs _ hb.1 (Gr hargs)).mono ?_⟩
 rintro e w' ⟨v,h1,h2,h3⟩
 exact⟨v,blk,h1,yj,.aM (h2 _ _),λb hb _=>h3.block b hb,h3.size,h3.os,h3.output⟩
theorem ai.Vi {P:Program}{f:FuncId}{args:List PV}{ty:TypeId}{sz:Nat}(hent:Enters P f)(hty:ty≠MT)
  (h:∀(w:World) (vs:List Value) (ok:Nat→Prop),tO.holds w.heap→dB (dM w ok) args vs→Calls P f ⟨vs⟩ w λe w'=>∃v,e=.returned v∧Below w.heap.size w w'∧
   (v=.slice none 0 0∨∃g cap c,w.heap.size≤g∧v=.slice (some ⟨g,0,none⟩) 0 cap∧w'.heap[g]?=some (.cells c ty (0,0))∧cap≤maxLen∧c.size=cap*sz)) :
  ai P f args [] (.bO 0 0) [⟨ty,sz,[],true,0⟩]:=by
 refine⟨hent,λw blk vs base hb _ hargs=>(h w vs _ hb.1 (Gr hargs)).mono ?_⟩
 have one:∀(k:Nat) (o:Obj),([⟨ty,sz,[],true,0⟩]:List Obj)[k]?=some o→k=0∧o=⟨ty,sz,[],true,0⟩:=λk o ho=>by
  match k,ho with
  | 0,ho=>cases ho;exact⟨rfl,rfl⟩
  | _+1,ho=>simp at ho
 rintro e w' ⟨v,h1,h3,h4⟩
 rcases h4 with rfl | ⟨g,cap,c,hg,rfl,hc,hm,hs⟩
 ·refine⟨_,λ_=>none,h1,⟨λk o ho _=>?_,λk k' o o' g _ _ _ _ _ hx=>(by cases hx),λk o g _ _ hx=>(by cases hx)⟩,⟨rfl,_,rfl,Nat.le_refl _,λ_ _=>⟨hty,?_⟩⟩,λb hb _=>h3.block b hb,h3.size,h3.os,h3.output⟩
  ·obtain⟨rfl,rfl⟩:=one k o ho;rfl
  ·exact⟨rfl,rfl⟩
 ·refine⟨_,λ_=>some g,h1,⟨λk o ho _=>?_,λk k' o o' g hkk ho _ ho' _ _=>?_,λk o g' ho _ hx hp=>?_⟩,⟨rfl,_,rfl,Nat.le_refl _,λ_ _=>⟨hty,?_⟩⟩,λb hb _=>h3.block b hb,h3.size,h3.os,h3.output⟩
  ·obtain⟨rfl,rfl⟩:=one k o ho
   exact⟨c,by rw[mE hty];exact hc,vR hty (by simp),λi x hx=>by simp at hx⟩
  ·obtain⟨rfl,_⟩:=one k o ho
   obtain⟨rfl,_⟩:=one k' o' ho'
   exact absurd rfl hkk
  ·simp only[Option.some.injEq]at hx
   subst hx
   exact absurd hp.1 (by omega)
  ·exact⟨cap,c,rfl,hc,Nat.zero_le _,hm,hs⟩
theorem afD{w:World}{ok:Nat→Prop}{p:PV}{vs:List Value}(h:dB (dM w ok) [p] vs):∃u,vs=[u]∧dM w ok p u:=by
 obtain⟨hl,h⟩:=h
 match vs,hl with
 | [u],_=>exact⟨u,rfl,h 0 _ _ rfl rfl⟩
theorem RQ{w:World}{ok:Nat→Prop}{p q:PV}{vs:List Value}(h:dB (dM w ok) [p,q] vs):∃u v,vs=[u,v]∧dM w ok p u∧dM w ok q v:=by
 obtain⟨hl,h⟩:=h
 match vs,hl with
 | [u,v],_=>exact⟨u,v,rfl,h 0 _ _ rfl rfl,h 1 _ _ rfl rfl⟩
theorem lu{w:World}{ok:Nat→Prop}{s:List UInt8}{v:Value}(h:dM w ok (.str s) v):v=.string ⟨⟨s⟩⟩:=by cases h;rfl
theorem RS{w:World}{ok:Nat→Prop}{k:IntKind}{n:Int}{v:Value}(h:dM w ok (.int k n) v):v=.int k n:=by cases h;rfl
theorem Vj(w:World):Below w.heap.size w w.drew:=(Below.refl _ _).drew
theorem Ng{w:World}(h:tO.holds w.heap):Lib.Utf8Tabs 0 1 w:=h w rfl
theorem FE(s:List UInt8)(hs:s.length≤4611686018427387904):ai Tryz.prog 142 [.str s] [] (.bool (utf s)) []:=by
 refine ai.sZ ⟨_,Tryz.OA.f196,by kernel_rfl,by kernel_rfl⟩ λw vs ok hg hr=>?_
 obtain⟨u,rfl,h⟩:=afD hr
 cases lu h
 refine (Any.utf8_ValidString Tryz.OA ⟨⟨s⟩⟩ w (by rw[Lib.size_eq];simp;omega) (Ng hg)).mono ?_
 rintro e w' ⟨h1,h2⟩
 exact⟨_,h1,λw ok=>by rw[Zq];exact .bool _,h2⟩
theorem Vk(s:List UInt8)(hs:s.length≤4611686018427387904):ai Tryz.prog 185 [.str s,.str [48]] [] (.str (Lib.trimB s 48)) []:=by
 refine ai.sZ ⟨_,Tryz.XG.f160,by kernel_rfl,by kernel_rfl⟩ λw vs ok hg hr=>?_
 obtain⟨u,v,rfl,h,h'⟩:=RQ hr
 cases lu h
 cases lu h'
 refine (Any.strings_Trim_one Tryz.XG ⟨⟨s⟩⟩ 48 (by decide) w (by rw[Lib.size_eq];simp;omega)).mono ?_
 rintro e w' ⟨h1,h2⟩
 refine⟨_,h1,λw ok=>.str _,?_⟩
 rcases h2 with rfl | rfl
 ·exact .refl _ _
 ·exact Vj w
theorem Lc(W:World)(x:Nat)(hx:x≤1114111):Calls Tryz.prog 155 #[.int .i32 (x:Int)] W λe w'=>e=.returned (.bool (nk x))∧Below W.heap.size W w':=by
 have mixed:Tryz.prog.follows .mixedOrders=true:=by kernel_rfl
 have e1:nk x=(decide (48≤(x:Int)) && decide ((x:Int)≤57)):=by
  have a:decide (48≤x)=decide (48≤(x:Int)):=decide_eq_decide.2 (by omega)
  have b:decide (x≤57)=decide ((x:Int)≤57):=decide_eq_decide.2 (by omega)
  rw[nk,a,b]
 rw[e1]
 have h1:(x:Int)<48∨48≤(x:Int):=by omega
 rcases h1 with h1 | h1
 ·have h2:¬ (48≤(x:Int)):=by omega
  rw[decide_eq_false h2]
  go_enter Tryz.func155,Tryz.ntmps155
  go_wp2
  go_ret
  exact⟨rfl,.refl _ _⟩
 ·rw[decide_eq_true h1]
  rcases (by omega:(x:Int)≤57∨57<(x:Int)) with h2 | h2
  ·rw[decide_eq_true h2]
   go_enter Tryz.func155,Tryz.ntmps155
   go_wp2
   go_ret
   exact⟨rfl,.refl _ _⟩
  ·have h3:¬ ((x:Int)≤57):=by omega
   rw[decide_eq_false h3]
   go_enter Tryz.func155,Tryz.ntmps155
   go_wp2
   go_ret
   exact⟨rfl,.refl _ _⟩
theorem OB(s:List UInt8)(hs:s.length≤4611686018427387904):ai Tryz.prog 154 [.str s,.fn 155 [] []] [] (.str (Lib.trimF nk ⟨⟨s⟩⟩).data.toList) []:=by
 refine ai.sZ ⟨_,Tryz.XH.f237,by kernel_rfl,by kernel_rfl⟩ λw vs ok hg hr=>?_
 obtain⟨u,v,rfl,h,h'⟩:=RQ hr
 cases lu h
 have hv:v=.func (.func 155) #[] #[]:=by
  cases h' with
  | fn _ _ _ va vc hla hlc ha hc=>
   have e1:va=[]:=List.length_eq_zero_iff.1 (by simpa using hla.symm)
   have e2:vc=[]:=List.length_eq_zero_iff.1 (by simpa using hlc.symm)
   subst e1;subst e2;rfl
 subst hv
 have eg:∀args w,(callFunc 155 args).run Tryz.prog w=.ok (.enter 155 args) w:=enters_of Tryz.func155 (by kernel_rfl) rfl
 refine (Any.strings_TrimFunc_grows Tryz.XH 155 #[] eg nk ⟨⟨s⟩⟩ w (by rw[Lib.size_eq];simp;omega) (Ng hg) λW x hx _=>Lc W x hx).mono ?_
 rintro e w' ⟨h1,h2⟩
 exact⟨_,h1,λw ok=>.str _,h2⟩
def wz:dD:=λargs objs K=>match args with
 | [.str s,a1]=>a1=(.fn 155 [] [])∧(s.length≤4611686018427387904)∧K (.str (Lib.trimF nk ⟨⟨s⟩⟩).data.toList) objs 0
 | _=>False
theorem Ld:aC Tryz.prog 154 (wz):=by
 intro args objs K h
 unfold wz at h
 split at h
 ·rename_i s a1
  obtain⟨rfl,h1,hk⟩:=h
  exact⟨_,_,_,.pure _ rfl (OB s h1),hk⟩
 ·exact h.elim
def fB:dD:=λargs objs K=>match args with
 | [.str s]=>(s.length≤4611686018427387904)∧K (.bool (utf s)) objs 0
 | _=>False
theorem Dx:aC Tryz.prog 142 (fB):=by
 intro args objs K h
 unfold fB at h
 split at h
 ·rename_i s
  obtain⟨h1,hk⟩:=h
  exact⟨_,_,_,.pure _ rfl (FE s h1),hk⟩
 ·exact h.elim
def Dy:dD:=λargs objs K=>match args with
 | [.str s,a1]=>a1=(.str [48])∧(s.length≤4611686018427387904)∧K (.str (Lib.trimB s 48)) objs 0
 | _=>False
theorem RU:aC Tryz.prog 185 (Dy):=by
 intro args objs K h
 unfold Dy at h
 split at h
 ·rename_i s a1
  obtain⟨rfl,h1,hk⟩:=h
  exact⟨_,_,_,.pure _ rfl (Vk s h1),hk⟩
 ·exact h.elim
end Lp
namespace Lp
open Go Go.Proofs
theorem rM(d n:Nat)(O:List Obj)(t:TypeId)(sz:Nat)(v:Vl)(ver:Nat):f_ d n O ⟨t,sz,v.map aB,true,ver⟩=⟨t,sz,v.map aB,true,ver⟩:=by
 have:(v.map aB).map (PV.bL (eZ d n O))=v.map aB:=by
  rw[List.map_map]
  exact List.map_congr_left λx _=>rfl
 simp only[f_,this]
end Lp
namespace Lp
open Go Go.Proofs
section
variable {α:Type}{enc:α→PV}{sz:Nat}
def ofR(enc:α→PV)(xs:List PV){K:List α→Prop}(_h:HK K):Prop:=∃l,xs=l.map enc∧K l
theorem Vm(hi:∀a b,enc a=enc b→a=b)(K:List α→Prop)(l:List α):ofR enc (l.map enc) (HK.mk:HK K)=K l:=by
 refine propext ⟨λ⟨m,h1,h2⟩=>?_,λh=>⟨l,rfl,h⟩⟩
 have:l=m:=(List.map_inj_right (λa b h=>hi a b h)).1 h1
 subst this;exact h2
end
end Lp
namespace Lp
open Go Go.Proofs
theorem aO.abN {P:Program}{D:TypeId→aH}{T:Know}{f:FuncId}{n t u v:Nat}{C:LC}{args:List PV}{r:PV}(h:aO P f n [.tmp t,.tmp u,.tmp v] C)(d:Nat)(hD:∀t,je P t (D t))(hT:Ii P none tY T)(hm:P.follows .mixedOrders=true)(ht:t<n)(hu:u<n)(hv:v<n)
  (hw:∀Q:Exit→St→Prop,(∀l ob,Q .ret ⟨dG n l,ob⟩=(r=.bY [iB d 0 ob (nu l t),iB d 0 ob (nu l u),iB d 0 ob (nu l v)]))→l7 P D T C Q (cK args n)):ai P f args [] r []:=by
 refine h.pure d hD hT hm (by simp) (hw _ λl ob=>?_)
 simp only[oh,jZ,tZ.2.1 n l t ht,tZ.2.1 n l u hu,tZ.2.1 n l v hv,List.map_cons,List.map_nil,fU]
theorem Zr(s:List UInt8)(hs:s.length≤1000000000):ai Tryz.prog 119 [.str s] [] (.bool (oo s)) []:=by
 refine Dl.aX (T:=aR Tryz.prog []) 0 hD (aj ah) aV (by decide) λQ hQ=>?_
 (conv=>arg 4;cbv);simp (maxSteps:=400000) only[↓ak,au,BEq.rfl,seval,hQ]
 refine aF (λm S=>∃i:Nat,i+m=s.length∧(∀(j:Nat) c,j<i→s[j]?=some c→(qx c || (decide (0<j) && oD c))=true)∧S=⟨dG 49 [(0,.str s),(3,.int .i64 i)],[]⟩) s.length ⟨0,by omega,λj c h=>absurd h (Nat.not_lt_zero j),?_⟩ ?_
 ·simp only[bN,keepR,Nat.reduceAdd,lJ,Nat.reduceBEq,List.map_nil]
  rfl
 rintro m S ⟨i,him,hb,rfl⟩
 rcases Nat.lt_or_ge i s.length with h | h
 ·have hlt:((i:Int)<(s.length:Int))=True:=eq_true (by omega)
  have zi:(0≤(i:Int))=True:=eq_true (by omega)
  have hgi:=List.getElem?_eq_getElem h
  generalize s[i]=c at hgi
  have hw:=QH hgi
  have hn:(qx c || (decide (0<i) && oD c))=true→(∀(j:Nat) c,j<i+1→s[j]?=some c→(qx c || (decide (0<j) && oD c))=true):=λhc j x hj hx=>by
   rcases Nat.lt_or_ge j i with g | g
   ·exact hb j x g hx
   ·have:j=i:=by omega
    subst this
    rw[hgi]at hx;cases hx;exact hc
  have hiff:(qx c || (decide (0<i) && oD c))=true↔((97≤(c.toNat:Int)∧(c.toNat:Int)≤122)∨(65≤(c.toNat:Int)∧(c.toNat:Int)≤90)∨(c.toNat:Int)=95∨(0<i∧48≤(c.toNat:Int)∧(c.toNat:Int)≤57)):=by
   simp only[qx,oD,Bool.or_eq_true,Bool.and_eq_true,decide_eq_true_eq,or_assoc]
  have hw':=λh=>hw (by rw[←Bool.not_eq_true,hiff];exact h)
  have hn':=λh=>hn (hiff.2 h)
  clear hw hn hiff
  simp (maxSteps:=400000) only[↓ak,au,BEq.rfl,seval,hQ,hlt,zi,hgi]
  repeat' (first | exact⟨⟨by omega,by omega⟩,m-1,by omega,i+1,by omega,hn' (by omega),rfl⟩ | exact hw' (by omega) | intro _ | refine⟨?_,?_⟩)
 ·have hlt:((i:Int)<(s.length:Int))=False:=eq_false (by omega)
  simp (maxSteps:=400000) only[↓ak,au,BEq.rfl,seval,hQ,hlt]
  cases hs0:s with
  | nil=>rfl
  | cons a t=>
   rw[←hs0,Uv (by rw[hs0];simp) λj c hc=>hb j c (by have:=(List.getElem?_eq_some_iff.1 hc).1;omega) hc]
   simp[hs0]
def kT:dD:=λargs objs K=>match args with
 | [.str s]=>(s.length≤1000000000)∧K (.bool (oo s)) objs 0
 | _=>False
theorem Vn:aC Tryz.prog 119 (kT):=by
 intro args objs K h
 unfold kT at h
 split at h
 ·rename_i s
  obtain⟨h1,hk⟩:=h
  exact⟨_,_,_,.pure _ rfl (Zr s h1),hk⟩
 ·exact h.elim
theorem cv8(objs:List Obj)(K:KT):(∀x,kZ D 5 3 (.int .u8 x) objs K=K (.int .i64 (IntKind.i64.wrap x)) objs 0)∧(∀x,kZ D 3 5 (.int .i64 x) objs K=K (.int .u8 (IntKind.u8.wrap x)) objs 0):=by
 refine⟨λx=>?_,λx=>?_⟩
 all_goals simp[kZ,ou,bS]
theorem adE:∀k:Nat,k≤7→(10:Int) ^ k≤10000000:=by
 intro k hk
 have:∀k∈List.range 8,(10:Int) ^ k≤10000000:=by decide
 exact this k (List.mem_range.2 (by omega))
theorem RV{s:List UInt8}{f i:Nat}{n:Int}(h:f=0∨s[i]?=none∨∃c,s[i]?=some c∧¬ (48≤(c.toNat:Int)∧(c.toNat:Int)≤57)):sD s f i n=(n,i):=by
 cases f with
 | zero=>rfl
 | succ f=>
  rcases h with h | h | ⟨c,h,hc⟩
  ·omega
  ·simp only[sD,h]
  ·have:oD c=false:=by simp only[oD,Bool.and_eq_false_iff,decide_eq_false_iff_not];omega
   simp only[sD,h,this];rfl
theorem adF{s:List UInt8}{f i:Nat}{n:Int}{c:UInt8}(h:s[i]?=some c)(h1:48≤(c.toNat:Int))(h2:(c.toNat:Int)≤57):sD s (f+1) i n=sD s f (i+1) (n*10+((c.toNat:Int)-48)):=by
 have:oD c=true:=by simp only[oD,Bool.and_eq_true,decide_eq_true_eq];exact⟨h1,h2⟩
 simp only[sD,h,this,if_true]
theorem adG{s:List UInt8}{i0 i:Nat}{n:Int}(hF:sD s 7 i0 0=(n,i)) :
  ((i=i0∨(s[i0]?=some 48∧i0+1<i)∨1000000<n)→dK s i0=(-1,i0))∧(¬ (i=i0∨(s[i0]?=some 48∧i0+1<i)∨1000000<n)→dK s i0=(n,i)):=by
 constructor
 ·intro h;unfold dK;rw[hF,if_pos h]
 ·intro h;unfold dK;rw[hF,if_neg h]
theorem qC{a b:Int×Nat}(h:a=b):PV.bY [PV.int .i64 a.1,PV.int .i64 (a.2:Int)]=PV.bY [PV.int .i64 b.1,PV.int .i64 (b.2:Int)]:=by rw[h]
theorem Zt(s:List UInt8)(i0:Nat)(hs:s.length≤1000000000)(hi0:i0≤s.length):ai Tryz.prog 122 [.str s,.int .i64 i0] [] (.bY [.int .i64 (dK s i0).1,.int .i64 (dK s i0).2]) []:=by
 refine yH.wo (T:=aR Tryz.prog []) 0 hD (aj ah) aV (by decide) (by decide) λQ hQ=>?_
 (conv=>arg 4;cbv);simp (maxSteps:=400000) only[↓ak,au,BEq.rfl,seval,hQ]
 refine aF (λm S=>∃(i:Nat) (n:Int),m=7-(i-i0)∧i0≤i∧i-i0≤7∧i≤s.length∧0≤n∧n<10 ^ (i-i0)∧sD s 7 i0 0=sD s (7-(i-i0)) i n∧S=⟨dG 63 [(0,.str s),(1,.int .i64 i),(6,.int .i64 n),(7,.int .i64 i0)],[]⟩) 7 ⟨i0,0,by omega,by omega,by omega,hi0,by omega,by simp,by simp,?_⟩ ?_
 ·simp only[bN,keepR,Nat.reduceAdd,lJ,Nat.reduceBEq,List.map_nil]
 rintro m S ⟨i,n,hm,h1,h2,h3,h4,h5,hF,rfl⟩
 have hn7:n<10000000:=by have:=adE (i-i0) h2;omega
 have zi:(0≤(i:Int))=True:=eq_true (by omega)
 have zi0:(0≤(i0:Int))=True:=eq_true (by omega)
 have hend:sD s (7-(i-i0)) i n=(n,i)→((∀c0,s[i0]?=some c0→(i=i0∨((c0.toNat:Int)=48∧i0+1<i)∨1000000<n)→dK s i0=(-1,i0))∧(∀c0,s[i0]?=some c0→¬ (i=i0∨((c0.toNat:Int)=48∧i0+1<i)∨1000000<n)→dK s i0=(n,i))∧(i=i0→dK s i0=(-1,i0))):=λe=>by
  obtain⟨g1,g2⟩:=adG (hF.trans e)
  have b48:∀c0:UInt8,(c0.toNat:Int)=48↔c0=48:=λc0=>nC (k:=48) (by omega)
  refine⟨λc0 h0 hc=>g1 ?_,λc0 h0 hc=>g2 ?_,λh=>g1 (Or.inl h)⟩
  ·rw[h0,Option.some.injEq,←b48];exact hc
  ·rw[h0,Option.some.injEq,←b48];exact hc
 have e0:((i:Int)=(i0:Int))=(i=i0):=propext (by omega)
 rcases Nat.lt_or_ge i s.length with h | h
 ·have hlt:((i:Int)<(s.length:Int))=True:=eq_true (by omega)
  have hgi:=List.getElem?_eq_getElem h
  generalize s[i]=c at hgi
  have hstep:i-i0<7→48≤(c.toNat:Int)→(c.toNat:Int)≤57→sD s 7 i0 0=sD s (7-(i+1-i0)) (i+1) (n*10+((c.toNat:Int)-48))∧0≤n*10+((c.toNat:Int)-48)∧n*10+((c.toNat:Int)-48)<10 ^ (i+1-i0):=λa1 a2 a3=>by
   obtain⟨k,hk⟩:∃k,i-i0=k:=⟨_,rfl⟩
   have e1:7-(i-i0)=(7-(i+1-i0))+1:=by omega
   refine⟨by rw[hF,e1,adF hgi a2 a3],by omega,?_⟩
   have e2:i+1-i0=k+1:=by omega
   rw[e2,Int.pow_succ]
   rw[hk]at h5
   omega
  have hE:(¬ (48≤(c.toNat:Int)∧(c.toNat:Int)≤57)∨i-i0=7)→sD s (7-(i-i0)) i n=(n,i):=λhc=>RV (by
   rcases hc with hc | hc
   ·exact .inr (.inr ⟨c,hgi,hc⟩)
   ·exact .inl (by omega))
  have hcv:48≤(c.toNat:Int)→IntKind.i64.wrap ((c.toNat:Int)-48)=(c.toNat:Int)-48:=λ_=>by have:=Cw c;rw[IntKind.wrap_i64];omega
  rcases Nat.eq_or_lt_of_le h1 with hi | hi
  ·subst hi
   by_cases h48:48≤(c.toNat:Int)
   ·have afE:=hcv h48
    simp (maxSteps:=400000) only[↓ak,au,BEq.rfl,seval,hQ,hlt,zi,hgi,cv8,afE,zi0]
    repeat' (first | exact⟨⟨by omega,by omega⟩,m-1,by omega,i0+1,_,by omega,by omega,by omega,by omega,(hstep (by omega) (by omega) (by omega)).2.1,(hstep (by omega) (by omega) (by omega)).2.2,(hstep (by omega) (by omega) (by omega)).1,rfl⟩ | exact (qC ((hend (hE (by omega))).2.2 rfl)) | exact (by omega) | intro _ | refine⟨?_,?_⟩)
   ·simp (maxSteps:=400000) only[↓ak,au,BEq.rfl,seval,hQ,hlt,zi,hgi,zi0]
    repeat' (first | exact (qC ((hend (hE (by omega))).2.2 rfl)) | exact (by omega) | intro _ | refine⟨?_,?_⟩)
  ·have hg0:=List.getElem?_eq_getElem (show i0<s.length by omega)
   generalize s[i0]=c0 at hg0
   by_cases h48:48≤(c.toNat:Int)
   ·have afE:=hcv h48
    simp (maxSteps:=400000) only[↓ak,au,BEq.rfl,seval,hQ,hlt,zi,hgi,cv8,afE,zi0,hg0]
    repeat' (first | exact⟨⟨by omega,by omega⟩,m-1,by omega,i+1,_,by omega,by omega,by omega,by omega,(hstep (by omega) (by omega) (by omega)).2.1,(hstep (by omega) (by omega) (by omega)).2.2,(hstep (by omega) (by omega) (by omega)).1,rfl⟩ | exact (qC ((hend (hE (by omega))).1 c0 hg0 (by omega))) | exact (qC ((hend (hE (by omega))).2.1 c0 hg0 (by omega))) | exact (by omega) | intro _ | refine⟨?_,?_⟩)
   ·simp (maxSteps:=400000) only[↓ak,au,BEq.rfl,seval,hQ,hlt,zi,hgi,zi0,hg0]
    repeat' (first | exact (qC ((hend (hE (by omega))).1 c0 hg0 (by omega))) | exact (qC ((hend (hE (by omega))).2.1 c0 hg0 (by omega))) | exact (by omega) | intro _ | refine⟨?_,?_⟩)
 ·have hlt:((i:Int)<(s.length:Int))=False:=eq_false (by omega)
  have hE:sD s (7-(i-i0)) i n=(n,i):=RV (.inr (.inl (List.getElem?_eq_none_iff.2 h)))
  rcases Nat.eq_or_lt_of_le h1 with hi | hi
  ·subst hi
   simp (maxSteps:=400000) only[↓ak,au,BEq.rfl,seval,hQ,hlt,zi0]
   repeat' (first | exact (qC ((hend hE).2.2 rfl)) | exact (by omega) | intro _ | refine⟨?_,?_⟩)
  ·have hg0:=List.getElem?_eq_getElem (show i0<s.length by omega)
   generalize s[i0]=c0 at hg0
   simp (maxSteps:=400000) only[↓ak,au,BEq.rfl,seval,hQ,hlt,zi0,hg0]
   repeat' (first | exact (qC ((hend hE).1 c0 hg0 (by omega))) | exact (qC ((hend hE).2.1 c0 hg0 (by omega))) | exact (by omega) | intro _ | refine⟨?_,?_⟩)
def o6:dD:=λargs objs K=>match args with
 | [.str s,.int .i64 i]=>(s.length≤1000000000)∧(0≤i)∧(i≤s.length)∧K (.bY [.int .i64 (dK s i.toNat).1,.int .i64 (dK s i.toNat).2]) objs 0
 | _=>False
theorem Vo:aC Tryz.prog 122 (o6):=by
 intro args objs K h
 unfold o6 at h
 split at h
 ·rename_i s i
  obtain⟨h1,h2,h3,hk⟩:=h
  exact⟨_,_,_,.pure _ rfl ((by have:=Zt s i.toNat h1 (by omega);rwa[Int.toNat_of_nonneg h2]at this)),hk⟩
 ·exact h.elim
theorem abO:∀bs bs':List UInt8,bs.map (λb:UInt8=>PV.int .u8 b.toNat)=bs'.map (λb:UInt8=>PV.int .u8 b.toNat)→bs=bs'
 | [],[],_=>rfl
 | [],_::_,h=>by simp at h
 | _::_,[],h=>by simp at h
 | a::t,b::u,h=>by
  simp only[List.map_cons,List.cons.injEq,PV.int.injEq,true_and]at h
  have h1:a.toNat=b.toNat:=by omega
  rw[UInt8.toNat_inj.1 h1,abO t u h.2]
theorem JN(bs:List UInt8)(hb:bs≠[])(K:KT):kZ D 146 9 (.bO 0 1) [⟨5,1,bs.map (λb:UInt8=>PV.int .u8 b.toNat),true,1⟩] K=K (.str bs) [⟨5,1,bs.map (λb:UInt8=>PV.int .u8 b.toNat),true,1⟩] 4:=by
 refine propext ⟨?_,λh=>⟨_,bs,rfl,rfl,rfl,rfl,hb,rfl,by simp only[bS],⟨5,by simp only[bS],by simp only[bS]⟩,h⟩⟩
 rintro⟨o,bs',h1,_,_,_,_,h2,_,_,h⟩
 cases h1
 have:bs=bs':=abO _ _ h2
 subst this
 exact h
theorem abP(n:Int):IntKind.u8.wrap n=((Aa n).toNat:Int):=by
 have h1:0≤n % 256:=by omega
 have h2:n % 256<256:=by omega
 have:(Aa n).toNat=(n % 256).toNat:=by simp only[Aa,UInt8.toNat_ofNat'];omega
 rw[this,IntKind.wrap_u8];omega
theorem aeS :
  (∀(c:UInt8) K,kZ D 146 9 (.bO 0 1) [⟨5,1,[.int .u8 c.toNat],true,1⟩] K=K (.str [c]) [⟨5,1,[.int .u8 c.toNat],true,1⟩] 4)∧
  (∀a K,kZ D 146 9 (.bO 0 1) [⟨5,1,[.int .u8 (IntKind.u8.wrap a)],true,1⟩] K=K (.str [Aa a]) [⟨5,1,[.int .u8 (IntKind.u8.wrap a)],true,1⟩] 4)∧
  (∀a b K,kZ D 146 9 (.bO 0 1) [⟨5,1,[.int .u8 (IntKind.u8.wrap a),.int .u8 (IntKind.u8.wrap b)],true,1⟩] K=K (.str [Aa a,Aa b]) [⟨5,1,[.int .u8 (IntKind.u8.wrap a),.int .u8 (IntKind.u8.wrap b)],true,1⟩] 4)∧
  (∀a b c K,kZ D 146 9 (.bO 0 1) [⟨5,1,[.int .u8 (IntKind.u8.wrap a),.int .u8 (IntKind.u8.wrap b),.int .u8 (IntKind.u8.wrap c)],true,1⟩] K=K (.str [Aa a,Aa b,Aa c]) [⟨5,1,[.int .u8 (IntKind.u8.wrap a),.int .u8 (IntKind.u8.wrap b),.int .u8 (IntKind.u8.wrap c)],true,1⟩] 4)∧
  (∀a b c d K,kZ D 146 9 (.bO 0 1) [⟨5,1,[.int .u8 (IntKind.u8.wrap a),.int .u8 (IntKind.u8.wrap b),.int .u8 (IntKind.u8.wrap c),.int .u8 (IntKind.u8.wrap d)],true,1⟩] K=K (.str [Aa a,Aa b,Aa c,Aa d]) [⟨5,1,[.int .u8 (IntKind.u8.wrap a),.int .u8 (IntKind.u8.wrap b),.int .u8 (IntKind.u8.wrap c),.int .u8 (IntKind.u8.wrap d)],true,1⟩] 4):=by
 simp only[abP]
 exact⟨λc K=>JN [c] (by simp) K,λa K=>JN [Aa a] (by simp) K,λa b K=>JN [Aa a,Aa b] (by simp) K,λa b c K=>JN [Aa a,Aa b,Aa c] (by simp) K,λa b c d K=>JN [Aa a,Aa b,Aa c,Aa d] (by simp) K⟩
theorem abQ{l:List PV}{i:Nat}{a:PV}(h:l[i]?=some a)(objs:List Obj)(K:KT):bq (.bY l) i objs K=K a objs 0:=by
 unfold bq
 exact propext ⟨λ⟨p,h1,h2⟩=>by rw[h]at h1;cases h1;exact h2,λk=>⟨_,h,k⟩⟩
theorem eY :
  (∀a b objs K,bq (.bY [a,b]) 0 objs K=K a objs 0)∧(∀a b objs K,bq (.bY [a,b]) 1 objs K=K b objs 0)∧
  (∀a b c objs K,bq (.bY [a,b,c]) 0 objs K=K a objs 0)∧(∀a b c objs K,bq (.bY [a,b,c]) 1 objs K=K b objs 0)∧(∀a b c objs K,bq (.bY [a,b,c]) 2 objs K=K c objs 0):=
 ⟨λ_ _=>abQ rfl,λ_ _=>abQ rfl,λ_ _ _=>abQ rfl,λ_ _ _=>abQ rfl,λ_ _ _=>abQ rfl⟩
end Lp
namespace Lp
open Go Go.Proofs
open List (length_cons length_drop length_take map_nil)
open Nat (lt_or_ge reduceAdd)
theorem Dz(n:Nat):(Yk n).length≤1:=by simp only[Yk,length_drop,length_take];omega
theorem abR(n:Nat)(hn:n<16):ai Tryz.prog 153 [.int .i64 n] [] (.str (Yk n)) []:=by
 refine Fv.aX (T:=aR Tryz.prog []) 0 hD (aj ah) aV (by decide) λQ hQ=>?_
 (conv=>arg 4;cbv);simp (maxSteps:=400000) only[↓ak,au,BEq.rfl,seval,hQ]
 have t1:((n:Int)+1).toNat=n+1:=by omega
 refine⟨⟨by omega,by omega⟩,by omega,by omega,by have:((16:Nat):Int)=16:=rfl;omega,?_⟩
 rw[t1];rfl
def OC:dD:=λargs objs K=>match args with
 | [.int .i64 n]=>(0≤n)∧(n<16)∧K (.str (Yk n.toNat)) objs 0
 | _=>False
theorem Zu:aC Tryz.prog 153 (OC):=by
 intro args objs K h
 unfold OC at h
 split at h
 ·rename_i n
  obtain⟨h1,h2,hk⟩:=h
  exact⟨_,_,_,.pure _ rfl ((by have:=abR n.toNat (by omega);rwa[Int.toNat_of_nonneg h1]at this)),hk⟩
 ·exact h.elim
theorem OD(c:UInt8):ai Tryz.prog 130 [.int .u8 c.toNat] [] (.str (pF c)) []:=by
 refine yI.aX (T:=aR Tryz.prog [(153,OC)]) 0 hD (aj (af Zu ah)) aV (by decide) λQ hQ=>?_
 have hl:=Cw c
 have hw:IntKind.i64.wrap (c.toNat:Int)=(c.toNat:Int):=by rw[IntKind.wrap_i64];omega
 have hd:((c.toNat:Int)).tdiv 16=((c.toNat / 16:Nat):Int):=rfl
 have hm:((c.toNat:Int)).tmod 16=((c.toNat % 16:Nat):Int):=rfl
 have l1:=Dz (c.toNat / 16)
 have l2:=Dz (c.toNat % 16)
 (conv=>arg 4;cbv);simp (maxSteps:=400000) only[↓ak,au,BEq.rfl,seval,hQ,↓OC,cv8,hw,aeS,hd,hm,Int.toNat_natCast]
 repeat' (first | ((simp only[pF, *,if_true,if_false,Int.reduceEq,Int.reduceLT,reduceIte]<;>fail)) | (omega) | intro _ | refine⟨?_,?_⟩)
def wB:dD:=λargs objs K=>match args with
 | [.int .u8 x]=>(0≤x)∧(x<256)∧K (.str (pF (UInt8.ofNat x.toNat))) objs 0
 | _=>False
theorem Le:aC Tryz.prog 130 (wB):=by
 intro args objs K h
 unfold wB at h
 split at h
 ·rename_i x
  obtain⟨h1,h2,hk⟩:=h
  exact⟨_,_,_,.pure _ rfl ((by have:=OD (UInt8.ofNat x.toNat);rwa[show ((UInt8.ofNat x.toNat).toNat:Int)=x by simp only[UInt8.toNat_ofNat'];omega]at this)),hk⟩
 ·exact h.elim
theorem aeT:∀k:Nat,k≤4→(16:Int) ^ k≤65536:=by
 intro k hk
 have:∀k∈List.range 5,(16:Int) ^ k≤65536:=by decide
 exact this k (List.mem_range.2 (by omega))
theorem Zv(s:List UInt8)(i:Nat)(hs:s.length≤1000000000)(hi:i≤1000000010):ai Tryz.prog 175 [.str s,.int .i64 i] [] (.int .i64 (fA s i)) []:=by
 refine Dm.aX (T:=aR Tryz.prog []) 0 hD (aj ah) aV (by decide) λQ hQ=>?_
 have zi:(0≤(i:Int))=True:=eq_true (by omega)
 have Qv:(0≤(i:Int)+1)=True:=eq_true (by omega)
 rcases lt_or_ge s.length (i+6) with h | h
 ·have hlt:((s.length:Int)<(i:Int)+6)=True:=eq_true (by omega)
  have e:fA s i=-1:=if_pos (.inl h)
  (conv=>arg 4;cbv);simp (maxSteps:=400000) only[↓ak,au,BEq.rfl,seval,hQ,zi,Qv,hlt,e]
  omega
 have hlt:((s.length:Int)<(i:Int)+6)=False:=eq_false (by omega)
 have hg0:=List.getElem?_eq_getElem (show i<s.length by omega)
 have hg1:=List.getElem?_eq_getElem (show i+1<s.length by omega)
 generalize s[i]=c0 at hg0
 generalize s[i+1]=c1 at hg1
 have t1:((i:Int)+1).toNat=i+1:=by omega
 have b0:(c0.toNat:Int)=92↔c0=92:=nC (k:=92) (by omega)
 have b1:(c1.toNat:Int)=117↔c1=117:=nC (k:=117) (by omega)
 by_cases hc:(c0.toNat:Int)=92∧(c1.toNat:Int)=117
 ·obtain⟨k0,k1⟩:=hc
  have e0:fA s i=pG ((s.take (i+6)).drop (i+2)) 0:=by
   unfold fA
   rw[if_neg]
   rintro (g | g | g)
   ·omega
   ·exact g (by rw[hg0,b0.1 k0])
   ·exact g (by rw[hg1,b1.1 k1])
  (conv=>arg 4;cbv);simp (maxSteps:=400000) only[↓ak,au,BEq.rfl,seval,hQ,zi,Qv,hlt,hg0,hg1,t1,k0,k1]
  refine⟨⟨by omega,by omega⟩,⟨by omega,by omega⟩,⟨by omega,by omega⟩,?_⟩
  refine aF (λm S=>∃(k:Nat) (n:Int),m=i+6-k∧i+2≤k∧k≤i+6∧0≤n∧n<16 ^ (k-(i+2))∧fA s i=pG ((s.take (i+6)).drop k) n∧S=⟨dG 77 [(0,.str s),(1,.int .i64 i),(5,.int .i64 n),(6,.int .i64 k)],[]⟩) 4 ⟨i+2,0,by omega,by omega,by omega,by omega,by simp,e0,?_⟩ ?_
  ·simp only[bN,keepR,reduceAdd,lJ,Nat.reduceBEq,map_nil]
   rfl
  rintro m S ⟨k,n,hm,h1,h2,h3,h4,hU,rfl⟩
  have hn:n<65536:=by have:=aeT (k-(i+2)) (by omega);omega
  have zk:(0≤(k:Int))=True:=eq_true (by omega)
  rcases lt_or_ge k (i+6) with g | g
  ·have hg:((k:Int)<(i:Int)+6)=True:=eq_true (by omega)
   have OE:=List.getElem?_eq_getElem (show k<s.length by omega)
   have hdr:(s.take (i+6)).drop k=s[k]'(by omega)::(s.take (i+6)).drop (k+1):=by
    rw[List.drop_eq_getElem_cons (by rw[length_take];omega),List.getElem_take]
   generalize s[k]'(by omega)=c at OE hdr
   have hl:=Cw c
   have hw:IntKind.i64.wrap (c.toNat:Int)=(c.toNat:Int):=by rw[IntKind.wrap_i64];omega
   have hb:∀x:Int,0≤x→x≤n*16+15→0≤x∧x<16 ^ (k+1-(i+2)):=λx x0 x1=>by
    obtain⟨j,hj⟩:∃j,k-(i+2)=j:=⟨_,rfl⟩
    have e2:k+1-(i+2)=j+1:=by omega
    rw[e2,Int.pow_succ]
    rw[hj]at h4
    omega
   rw[hdr]at hU
   have u1:48≤(c.toNat:Int)→(c.toNat:Int)≤57→fA s i=pG ((s.take (i+6)).drop (k+1)) (n*16+c.toNat-48):=λa b=>by rw[hU,pG,if_pos ⟨a,b⟩]
   have u2:97≤(c.toNat:Int)→(c.toNat:Int)≤102→fA s i=pG ((s.take (i+6)).drop (k+1)) (n*16+c.toNat-97+10):=λa b=>by rw[hU,pG,if_neg (by omega),if_pos ⟨a,b⟩]
   have u3:65≤(c.toNat:Int)→(c.toNat:Int)≤70→fA s i=pG ((s.take (i+6)).drop (k+1)) (n*16+c.toNat-65+10):=λa b=>by rw[hU,pG,if_neg (by omega),if_neg (by omega),if_pos ⟨a,b⟩]
   have u4:¬ (48≤(c.toNat:Int)∧(c.toNat:Int)≤57)→¬ (97≤(c.toNat:Int)∧(c.toNat:Int)≤102)→¬ (65≤(c.toNat:Int)∧(c.toNat:Int)≤70)→PV.int .i64 (fA s i)=PV.int .i64 (-1):=λa b d=>by rw[hU,pG,if_neg a,if_neg b,if_neg d]
   simp (maxSteps:=400000) only[↓ak,au,BEq.rfl,seval,hQ,hg,zk,OE,cv8,hw]
   repeat' (first | exact u4 (by omega) (by omega) (by omega) | exact⟨m-1,by omega,k+1,_,by omega,by omega,by omega,(hb _ (by omega) (by omega)).1,(hb _ (by omega) (by omega)).2,u1 (by omega) (by omega),rfl⟩ | exact⟨m-1,by omega,k+1,_,by omega,by omega,by omega,(hb _ (by omega) (by omega)).1,(hb _ (by omega) (by omega)).2,u2 (by omega) (by omega),rfl⟩ | exact⟨m-1,by omega,k+1,_,by omega,by omega,by omega,(hb _ (by omega) (by omega)).1,(hb _ (by omega) (by omega)).2,u3 (by omega) (by omega),rfl⟩ | (omega) | intro _ | refine⟨?_,?_⟩)
  ·have hg:((k:Int)<(i:Int)+6)=False:=eq_false (by omega)
   have hk:k=i+6:=by omega
   subst hk
   rw[List.drop_eq_nil_of_le (by rw[length_take];omega),pG]at hU
   simp (maxSteps:=400000) only[↓ak,au,BEq.rfl,seval,hQ,hg,hU]
   omega
 ·have e:fA s i=-1:=by
    unfold fA
    rw[if_pos]
    by_cases k0:(c0.toNat:Int)=92
    ·exact .inr (.inr (by rw[hg1];intro e;exact hc ⟨k0,b1.2 (Option.some.inj e)⟩))
    ·exact .inr (.inl (by rw[hg0];intro e;exact k0 (b0.2 (Option.some.inj e))))
  by_cases k0:(c0.toNat:Int)=92
  ·have k1:((c1.toNat:Int)=117)=False:=eq_false λg=>hc ⟨k0,g⟩
   (conv=>arg 4;cbv);simp (maxSteps:=400000) only[↓ak,au,BEq.rfl,seval,hQ,zi,Qv,hlt,hg0,hg1,t1,k0,k1,e]
   omega
  ·have k0':=eq_false k0
   (conv=>arg 4;cbv);simp (maxSteps:=400000) only[↓ak,au,BEq.rfl,seval,hQ,zi,Qv,hlt,hg0,hg1,t1,k0',e]
   omega
theorem Zw(n:Int)(h0:0≤n)(h1:n<2000000):ai Tryz.prog 176 [.int .i64 n] [] (.str (ES n)) []:=by
 refine Fw.aX (T:=aR Tryz.prog []) 0 hD (aj ah) aV (by decide) λQ hQ=>?_
 have d64:¬ (64:Int)=0:=by omega
 have m64:∀x:Int,0≤x→(0≤x.tdiv 64∧x.tdiv 64≤x)∧0≤x.tmod 64∧x.tmod 64<64:=λx hx=>⟨⟨Int.tdiv_nonneg hx (by omega),Int.tdiv_le_self _ hx⟩,Int.tmod_nonneg _ hx,Int.tmod_lt_of_pos _ (by omega)⟩
 have a0:=m64 n h0
 have a1:0≤n.tdiv 4096∧n.tdiv 4096≤n:=⟨Int.tdiv_nonneg h0 (by omega),Int.tdiv_le_self _ h0⟩
 have a2:0≤n.tdiv 262144∧n.tdiv 262144≤n:=⟨Int.tdiv_nonneg h0 (by omega),Int.tdiv_le_self _ h0⟩
 have a3:=m64 _ a0.1.1
 have a4:=m64 _ a1.1
 (conv=>arg 4;cbv);simp (maxSteps:=400000) only[↓ak,au,BEq.rfl,seval,hQ,cv8,aeS]
 repeat' (first | ((simp only[ES, *,if_true,if_false]<;>fail)) | (omega) | intro _ | refine⟨?_,?_⟩)
def Ir:dD:=λargs objs K=>match args with
 | [.str s,.int .i64 i]=>(s.length≤1000000000)∧(0≤i)∧(i≤1000000010)∧K (.int .i64 (fA s i.toNat)) objs 0
 | _=>False
theorem Vp:aC Tryz.prog 175 (Ir):=by
 intro args objs K h
 unfold Ir at h
 split at h
 ·rename_i s i
  obtain⟨h1,h2,h3,hk⟩:=h
  exact⟨_,_,_,.pure _ rfl ((by have:=Zv s i.toNat h1 (by omega);rwa[Int.toNat_of_nonneg h2]at this)),hk⟩
 ·exact h.elim
def Iu:dD:=λargs objs K=>match args with
 | [.int .i64 n]=>(0≤n)∧(n<2000000)∧K (.str (ES n)) objs 0
 | _=>False
theorem Vq:aC Tryz.prog 176 (Iu):=by
 intro args objs K h
 unfold Iu at h
 split at h
 ·rename_i n
  obtain⟨h1,h2,hk⟩:=h
  exact⟨_,_,_,.pure _ rfl (Zw n h1 h2),hk⟩
 ·exact h.elim
theorem Gs(c:UInt8):(pF c).length≤6:=by
 have l1:=Dz (c.toNat / 16)
 have l2:=Dz (c.toNat % 16)
 unfold pF
 repeat' split
 all_goals simp only[List.length_append,length_cons,List.length_nil]
 all_goals omega
theorem DC:∀l:List UInt8,(l.map pF).flatten.length≤6*l.length
 | []=>by simp
 | c::t=>by
  have:=Gs c
  have:=DC t
  simp only[List.map_cons,List.flatten_cons,List.length_append,length_cons];omega
theorem Vr(s:List UInt8)(hs:s.length≤1000000000):ai Tryz.prog 121 [.str s] [] (.str (Be s)) []:=by
 refine BJ.aX (T:=aR Tryz.prog [(130,wB)]) 0 hD (aj (af Le ah)) aV (by decide) λQ hQ=>?_
 (conv=>arg 4;cbv);simp (maxSteps:=400000) only[↓ak,au,BEq.rfl,seval,hQ]
 refine aF (λm S=>∃i:Nat,i+m=s.length∧S=⟨dG 19 [(0,.str s),(3,.str ([34]++((s.take i).map pF).flatten)),(4,.int .i64 i)],[]⟩) s.length ⟨0,by omega,?_⟩ ?_
 ·simp only[bN,keepR,reduceAdd,lJ,Nat.reduceBEq,map_nil]
  rfl
 rintro m S ⟨i,him,rfl⟩
 have hfl:=DC (s.take i)
 have htl:(s.take i).length≤s.length:=List.length_take_le' _ _
 rcases lt_or_ge i s.length with h | h
 ·have hlt:((i:Int)<(s.length:Int))=True:=eq_true (by omega)
  have zi:(0≤(i:Int))=True:=eq_true (by omega)
  have hgi:=List.getElem?_eq_getElem h
  have htk:s.take (i+1)=s.take i++[s[i]]:=List.take_succ_eq_append_getElem h
  generalize s[i]=c at hgi htk
  have hwl:=Gs c
  have hl:=Cw c
  simp (maxSteps:=400000) only[↓ak,au,BEq.rfl,seval,hQ,hlt,zi,hgi,↓wB,Int.toNat_natCast,UInt8.ofNat_toNat]
  exact⟨by omega,by omega,by omega,⟨by omega,by omega⟩,m-1,by omega,i+1,by omega,by rw[htk];simp only[List.map_append,List.map_cons,map_nil,List.flatten_append,List.flatten_cons,List.flatten_nil,List.append_nil,List.append_assoc,Int.natCast_add,Int.natCast_one]⟩
 ·have hlt:((i:Int)<(s.length:Int))=False:=eq_false (by omega)
  rw[List.take_of_length_le h]
  rw[List.take_of_length_le h]at hfl
  simp (maxSteps:=400000) only[↓ak,au,BEq.rfl,seval,hQ,hlt]
  exact⟨by omega,rfl⟩
def nQ:dD:=λargs objs K=>match args with
 | [.str s]=>(s.length≤1000000000)∧K (.str (Be s)) objs 0
 | _=>False
theorem RX:aC Tryz.prog 121 (nQ):=by
 intro args objs K h
 unfold nQ at h
 split at h
 ·rename_i s
  obtain⟨h1,hk⟩:=h
  exact⟨_,_,_,.pure _ rfl (Vr s h1),hk⟩
 ·exact h.elim
theorem RY:∀(l:List UInt8) (n N:Int),0≤n→n<N→pG l n<N*16 ^ l.length
 | [],n,N,_,h=>by simpa[pG] using h
 | c::t,n,N,h0,h=>by
  have ih:=λx (a:0≤x) (b:x<N*16)=>RY t x (N*16) a b
  have e:N*16 ^ (c::t).length=N*16*16 ^ t.length:=by rw[length_cons,Int.pow_succ,Int.mul_assoc,Int.mul_comm (16 ^ t.length) 16]
  have hp:(0:Int)<16 ^ t.length:=Int.pow_pos (by omega)
  have hq:0<N*16*16 ^ t.length:=Int.mul_pos (by omega) hp
  rw[e,pG]
  split
  ·exact ih _ (by omega) (by omega)
  ·split
   ·exact ih _ (by omega) (by omega)
   ·split
    ·exact ih _ (by omega) (by omega)
    ·omega
theorem RZ(s:List UInt8)(i:Nat):fA s i<65536:=by
 unfold fA
 split
 ·omega
 ·have h1:=RY ((s.take (i+6)).drop (i+2)) 0 1 (by omega) (by omega)
  have h2:=aeT ((s.take (i+6)).drop (i+2)).length (by rw[length_drop,length_take];omega)
  omega
theorem abS{c:UInt8}(h:∀j,j<8→lN[j]?≠some c):lN.findIdx? (·=c)=none:=by
 rw[List.findIdx?_eq_none_iff]
 intro x hx
 obtain⟨j,hj⟩:=List.mem_iff_getElem?.1 hx
 have:=(List.getElem?_eq_some_iff.1 hj).1
 have h1:=h j this
 rw[hj]at h1
 simpa using λe=>h1 (by rw[e])
theorem abT{c:UInt8}{k:Nat}(h:∀j,j<k→lN[j]?≠some c)(hk:lN[k]?=some c):lN.findIdx? (·=c)=some k:=by
 obtain⟨h1,h2⟩:=List.getElem?_eq_some_iff.1 hk
 rw[List.findIdx?_eq_some_iff_getElem]
 refine⟨h1,by simpa using h2,λj hj=>?_⟩
 have:=h j hj
 rw[List.getElem?_eq_getElem (by omega)]at this
 simpa using λe=>this (by rw[e])
theorem OG{a b:List UInt8×Int}(h:a=b):PV.bY [PV.str a.1,PV.int .i64 a.2]=PV.bY [PV.str b.1,PV.int .i64 b.2]:=by rw[h]
theorem R7(s:List UInt8)(i:Nat)(hs:s.length≤1000000000)(hi:i<s.length):ai Tryz.prog 152 [.str s,.int .i64 i] [] (.bY [.str (gJ s i).1,.int .i64 (gJ s i).2]) []:=by
 refine Al.wo (T:=aR Tryz.prog [(175,Ir),(176,Iu)]) 0 hD (aj (af Vp (af Vq ah))) aV (by decide) (by decide) λQ hQ=>?_
 have Qv:(0≤(i:Int)+1)=True:=eq_true (by omega)
 have t1:((i:Int)+1).toNat=i+1:=by omega
 have t6:((i:Int)+6).toNat=i+6:=by omega
 have ua:=RZ s i
 have ub:=RZ s (i+6)
 rcases lt_or_ge (i+1) s.length with h | h
 ·have hlt:((s.length:Int)≤(i:Int)+1)=False:=eq_false (by omega)
  have hlt':((i:Int)+1<(s.length:Int))=True:=eq_true (by omega)
  have hgi:=List.getElem?_eq_getElem h
  generalize s[i+1]=c at hgi
  (conv=>arg 4;cbv);simp (maxSteps:=400000) only[↓ak,au,BEq.rfl,seval,hQ,Qv,t1,hlt,hlt']
  refine⟨⟨by omega,by omega⟩,?_⟩
  refine aF (λm S=>∃k:Nat,k+m=8∧(∀j,j<k→lN[j]?≠some c)∧S=⟨dG 74 [(0,.str s),(1,.int .i64 i),(6,.str [34,92,47,98,102,110,114,116]),(7,.str [34,92,47,8,12,10,13,9]),(8,.int .i64 k)],[]⟩) 8 ⟨0,by omega,λj hj=>absurd hj (Nat.not_lt_zero j),?_⟩ ?_
  ·simp only[bN,keepR,reduceAdd,lJ,Nat.reduceBEq,map_nil]
   rfl
  rintro m S ⟨k,him,hb,rfl⟩
  have zk:(0≤(k:Int))=True:=eq_true (by omega)
  have tk:((k:Int)+1).toNat=k+1:=by omega
  have hl:=Cw c
  rcases lt_or_ge k 8 with g | g
  ·have h8:((8:Nat):Int)=8:=rfl
   have hg:((k:Int)<((8:Nat):Int))=True:=eq_true (by omega)
   have OE:lN[k]?=some lN[k]:=List.getElem?_eq_getElem g
   generalize lN[k]=d at OE
   by_cases hcd:c=d
   ·have hq:((c.toNat:Int)=(d.toNat:Int))=True:=eq_true (by rw[hcd])
    have e:gJ s i=((Xh.take (k+1)).drop k,2):=by
     simp only[gJ,hgi,abT hb (by rw[OE,hcd])]
    rw[lN]at OE
    rw[Xh]at e
    simp (maxSteps:=400000) only[↓ak,au,BEq.rfl,seval,hQ,hg,zk,OE,hgi,Qv,t1,tk,hq,e]
    repeat' (first | (omega) | intro _ | refine⟨?_,?_⟩)
   ·have hq:((c.toNat:Int)=(d.toNat:Int))=False:=eq_false (λh=>hcd (UInt8.toNat_inj.1 (by omega)))
    have hb':∀j,j<k+1→lN[j]?≠some c:=λj hj=>by
     rcases lt_or_ge j k with h1 | h1
     ·exact hb j h1
     ·have:j=k:=by omega
      subst this
      rw[OE];intro e;exact hcd (Option.some.inj e).symm
    rw[lN]at OE
    simp (maxSteps:=400000) only[↓ak,au,BEq.rfl,seval,hQ,hg,zk,OE,hgi,Qv,t1,tk,hq]
    repeat' (first | exact⟨m-1,by omega,k+1,by omega,hb',rfl⟩ | (omega) | intro _ | refine⟨?_,?_⟩)
  ·have h8:((8:Nat):Int)=8:=rfl
   have hg:((k:Int)<((8:Nat):Int))=False:=eq_false (by omega)
   have hn:=abS λj hj=>hb j (by omega)
   have e:gJ s i=if fA s i<0∨(56320≤fA s i∧fA s i<57344) then ([],0) else if fA s i<55296∨57344≤fA s i then (ES (fA s i),6) else if fA s (i+6)<56320∨57344≤fA s (i+6) then ([],0) else (ES (65536+1024*(fA s i-55296)+fA s (i+6)-56320),12):=by
    simp only[gJ,hgi,hn]
   simp (maxSteps:=400000) only[↓ak,au,BEq.rfl,seval,hQ,hg,↓Ir,↓Iu,Int.toNat_natCast,t6]
   generalize fA s i=a at *
   generalize fA s (i+6)=b at *
   have e1:(a<0∨(56320≤a∧a<57344))→gJ s i=([],0):=λx=>by rw[e,if_pos x]
   have e2:¬ (a<0∨(56320≤a∧a<57344))→(a<55296∨57344≤a)→gJ s i=(ES a,6):=λx y=>by rw[e,if_neg x,if_pos y]
   have e3:¬ (a<0∨(56320≤a∧a<57344))→¬ (a<55296∨57344≤a)→(b<56320∨57344≤b)→gJ s i=([],0):=λx y z=>by rw[e,if_neg x,if_neg y,if_pos z]
   have e4:¬ (a<0∨(56320≤a∧a<57344))→¬ (a<55296∨57344≤a)→¬ (b<56320∨57344≤b)→gJ s i=(ES (65536+1024*(a-55296)+b-56320),12):=λx y z=>by rw[e,if_neg x,if_neg y,if_neg z]
   clear e
   repeat' (first | (omega) | exact (OG (e1 (by omega))) | exact (OG (e2 (by omega) (by omega))) | exact (OG (e3 (by omega) (by omega) (by omega))) | exact (OG (e4 (by omega) (by omega) (by omega))) | intro _ | refine⟨?_,?_⟩)
 ·have hlt:((s.length:Int)≤(i:Int)+1)=True:=eq_true (by omega)
  have hlt':((i:Int)+1<(s.length:Int))=False:=eq_false (by omega)
  have e:gJ s i=([],0):=by simp only[gJ,List.getElem?_eq_none_iff.2 h]
  (conv=>arg 4;cbv);simp (maxSteps:=400000) only[↓ak,au,BEq.rfl,seval,hQ,Qv,t1,hlt,hlt',e]
  omega
def zI:dD:=λargs objs K=>match args with
 | [.str s,.int .i64 i]=>(s.length≤1000000000)∧(0≤i)∧(i<s.length)∧K (.bY [.str (gJ s i.toNat).1,.int .i64 (gJ s i.toNat).2]) objs 0
 | _=>False
theorem OH:aC Tryz.prog 152 (zI):=by
 intro args objs K h
 unfold zI at h
 split at h
 ·rename_i s i
  obtain⟨h1,h2,h3,hk⟩:=h
  exact⟨_,_,_,.pure _ rfl ((by have:=R7 s i.toNat h1 (by omega);rwa[Int.toNat_of_nonneg h2]at this)),hk⟩
 ·exact h.elim
theorem Vs(s:List UInt8)(i:Nat)(hs:s.length≤1000000000)(hi:i<s.length):ai Tryz.prog 129 [.str s,.int .i64 i] [] (.bY [.str (kY s i).1,.int .i64 (kY s i).2]) []:=by
 refine BK.wo (T:=aR Tryz.prog [(152,zI),(62,zF)]) 0 hD (aj (af OH (af JF ah))) aV (by decide) (by decide) λQ hQ=>?_
 have zi:(0≤(i:Int))=True:=eq_true (by omega)
 have hgi:=List.getElem?_eq_getElem hi
 generalize s[i]=c at hgi
 have b0:(c.toNat:Int)=92↔c=92:=nC (k:=92) (by omega)
 by_cases h:(c.toNat:Int)=92
 ·have e:kY s i=gJ s i:=by unfold kY;rw[if_pos (by rw[hgi,b0.1 h])]
  (conv=>arg 4;cbv);simp (maxSteps:=400000) only[↓ak,au,BEq.rfl,seval,hQ,zi,hgi,h,↓zI,e,Int.toNat_natCast,eY]
  omega
 ·have h':=eq_false h
  have e:kY s i=((s.drop i).take (cZ (s.drop i)),(cZ (s.drop i):Int)):=by
   unfold kY;rw[if_neg];rw[hgi];intro x;exact h (b0.2 (Option.some.inj x))
  have hrl:=JG (s.drop i)
  rw[length_drop]at hrl
  (conv=>arg 4;cbv);simp (maxSteps:=400000) only[↓ak,au,BEq.rfl,seval,hQ,zi,hgi,h',↓zF,Int.toNat_natCast]
  refine⟨by omega,by omega,⟨by omega,by omega⟩,by omega,by omega,?_⟩
  have tn:((i:Int)+(cZ (s.drop i):Int)).toNat=i+cZ (s.drop i):=by omega
  rw[e,tn,List.take_drop]
def DF:dD:=λargs objs K=>match args with
 | [.str s,.int .i64 i]=>(s.length≤1000000000)∧(0≤i)∧(i<s.length)∧K (.bY [.str (kY s i.toNat).1,.int .i64 (kY s i.toNat).2]) objs 0
 | _=>False
theorem R8:aC Tryz.prog 129 (DF):=by
 intro args objs K h
 unfold DF at h
 split at h
 ·rename_i s i
  obtain⟨h1,h2,h3,hk⟩:=h
  exact⟨_,_,_,.pure _ rfl ((by have:=Vs s i.toNat h1 (by omega);rwa[Int.toNat_of_nonneg h2]at this)),hk⟩
 ·exact h.elim
end Lp
namespace Lp
open Go Go.Proofs
theorem R9(n:Int):(ES n).length≤4:=by
 unfold ES
 repeat' split
 all_goals simp
theorem R_{s:List UInt8}{i:Nat}(h:0≤fA s i):i+6≤s.length:=by
 unfold fA at h
 split at h
 ·omega
 ·rename_i g;simp only[not_or]at g;omega
theorem OI(s:List UInt8)(i:Nat)(hi:i<s.length):0≤(gJ s i).2∧i+(gJ s i).2≤s.length∧((gJ s i).1.length:Int)≤(gJ s i).2:=by
 unfold gJ
 split
 ·exact⟨by omega,by show (i:Int)+0≤_;omega,by simp⟩
 ·rename_i c hc
  have h1:=(List.getElem?_eq_some_iff.1 hc).1
  split
  ·rename_i k _
   refine⟨by omega,by show (i:Int)+2≤_;omega,?_⟩
   show (((Xh.take (k+1)).drop k).length:Int)≤2
   simp only[List.length_drop,List.length_take];omega
  ·have l1:=R9 (fA s i)
   have l2:=R9 (65536+1024*(fA s i-55296)+fA s (i+6)-56320)
   split
   ·exact⟨by omega,by show (i:Int)+0≤_;omega,by simp⟩
   ·rename_i h2
    have:=R_ (s:=s) (i:=i) (by omega)
    split
    ·exact⟨by show (0:Int)≤6;omega,by show (i:Int)+6≤_;omega,by show ((ES _).length:Int)≤6;omega⟩
    ·split
     ·exact⟨by omega,by show (i:Int)+0≤_;omega,by simp⟩
     ·rename_i h3
      have:=R_ (s:=s) (i:=i+6) (by omega)
      exact⟨by show (0:Int)≤12;omega,by show (i:Int)+12≤_;omega,by show ((ES _).length:Int)≤12;omega⟩
theorem Gt(s:List UInt8)(i:Nat)(hi:i<s.length):0≤(kY s i).2∧i+(kY s i).2≤s.length∧((kY s i).1.length:Int)≤(kY s i).2:=by
 unfold kY
 split
 ·exact OI s i hi
 ·have hrl:=JG (s.drop i)
  rw[List.length_drop]at hrl
  refine⟨by show (0:Int)≤(cZ (s.drop i):Int);omega,by show (i:Int)+(cZ (s.drop i):Int)≤_;omega,?_⟩
  show (((s.drop i).take (cZ (s.drop i))).length:Int)≤(cZ (s.drop i):Int)
  simp only[List.length_take,List.length_drop];omega
theorem abU{a b:List UInt8×Int×Int}(h:a=b):PV.bY [PV.str a.1,PV.int .i64 a.2.1,PV.int .i64 a.2.2]=PV.bY [PV.str b.1,PV.int .i64 b.2.1,PV.int .i64 b.2.2]:=by rw[h]
theorem OJ(s:List UInt8)(hs:s.length≤1000000000):ai Tryz.prog 120 [.str s] [] (.bY [.str (bK s).1,.int .i64 (bK s).2.1,.int .i64 (bK s).2.2]) []:=by
 refine yJ.abN (T:=aR Tryz.prog [(129,DF)]) 0 hD (aj (af R8 ah)) aV (by decide) (by decide) (by decide) λQ hQ=>?_
 cases s with
 | nil=>
  have e:bK []=([],0,1):=rfl
  (conv=>arg 4;cbv);simp (maxSteps:=400000) only[↓ak,au,BEq.rfl,seval,hQ,e]
 | cons a t=>
  have he:((a::t:List UInt8)=[])=False:=eq_false (by simp)
  have hg0:(a::t)[0]?=some a:=rfl
  generalize hst:a::t=s at *
  have b0:(a.toNat:Int)=34↔a=34:=nC (k:=34) (by omega)
  by_cases h34:(a.toNat:Int)=34
  ·have e0:bK s=GY s s.length 1 []:=by
     unfold bK;rw[if_neg];rintro (g | g)
     ·exact he.mp g
     ·exact g (by rw[hg0,b0.1 h34])
   have hlen:0<s.length:=by rw[←hst];simp
   (conv=>arg 4;cbv);simp (maxSteps:=400000) only[↓ak,au,BEq.rfl,seval,hQ,he,hg0,h34]
   refine aF (λm S=>∃(i f:Nat) (out:List UInt8),i+m=s.length∧1≤i∧s.length+1≤i+f∧out.length≤i∧bK s=GY s f i out∧S=⟨dG 50 [(0,.str s),(5,.str out),(6,.int .i64 i)],[]⟩) (s.length-1) ⟨1,s.length,[],by omega,by omega,by omega,by simp,e0,?_⟩ ?_
   ·simp only[bN,keepR,Nat.reduceAdd,lJ,Nat.reduceBEq,List.map_nil]
    rfl
   rintro m S ⟨i,f,out,him,h1,h2,h3,hU,rfl⟩
   have zi:(0≤(i:Int))=True:=eq_true (by omega)
   obtain⟨f,rfl⟩:∃g,f=g+1:=⟨f-1,by omega⟩
   rcases Nat.lt_or_ge i s.length with h | h
   ·have hlt:((i:Int)<(s.length:Int))=True:=eq_true (by omega)
    have hgi:=List.getElem?_eq_getElem h
    generalize s[i]=c at hgi
    obtain⟨f1,f2,f3⟩:=Gt s i h
    simp only[GY,hgi]at hU
    simp (maxSteps:=400000) only[↓ak,au,BEq.rfl,seval,hQ,hlt,zi,hgi,↓DF,Int.toNat_natCast,eY]
    generalize kY s i=x at *
    obtain⟨y,z⟩:=x
    simp only at f1 f2 f3 hU ⊢
    obtain⟨n,rfl⟩:∃n:Nat,z=n:=⟨z.toNat,by omega⟩
    rw[Int.toNat_natCast]at hU
    have u1:(c.toNat:Int)=34→bK s=(out,(i:Int)+1,0):=λg=>by rw[hU,if_pos g]
    have u2:¬ (c.toNat:Int)=34→((n:Int)=0∨(c.toNat:Int)<32)→bK s=([],(i:Int),1):=λg g'=>by rw[hU,if_neg g,if_pos g']
    have u3:¬ (c.toNat:Int)=34→¬ ((n:Int)=0∨(c.toNat:Int)<32)→bK s=GY s f (i+n) (out++y):=λg g'=>by rw[hU,if_neg g,if_neg g']
    repeat' (first | (omega) | exact (abU (u1 (by omega))) | exact (abU (u2 (by omega) (by omega))) | exact⟨m-n,by omega,i+n,f,out++y,by omega,by omega,by omega,by rw[List.length_append];omega,u3 (by omega) (by omega),by rw[Int.natCast_add]⟩ | intro _ | refine⟨?_,?_⟩)
   ·have hlt:((i:Int)<(s.length:Int))=False:=eq_false (by omega)
    have hU':bK s=([],(s.length:Int),1):=by rw[hU];simp only[GY,List.getElem?_eq_none_iff.2 h]
    simp (maxSteps:=400000) only[↓ak,au,BEq.rfl,seval,hQ,hlt,hU']
  ·have e0:bK s=([],0,1):=by
     unfold bK;rw[if_pos];right;rw[hg0];intro g;exact h34 (b0.2 (Option.some.inj g))
   have ahP:=eq_false h34
   (conv=>arg 4;cbv);simp (maxSteps:=400000) only[↓ak,au,BEq.rfl,seval,hQ,he,hg0,ahP,e0]
def gu:dD:=λargs objs K=>match args with
 | [.str s]=>(s.length≤1000000000)∧K (.bY [.str (bK s).1,.int .i64 (bK s).2.1,.int .i64 (bK s).2.2]) objs 0
 | _=>False
theorem Lf:aC Tryz.prog 120 (gu):=by
 intro args objs K h
 unfold gu at h
 split at h
 ·rename_i s
  obtain⟨h1,hk⟩:=h
  exact⟨_,_,_,.pure _ rfl (OJ s h1),hk⟩
 ·exact h.elim
theorem AY(s:List UInt8):((bK s).2.2=0→1≤(bK s).2.1∧(bK s).2.1≤s.length)∧(bK s).1.length≤s.length:=by
 have gen:∀(f i:Nat) (out:List UInt8),i≤s.length→out.length≤i→((GY s f i out).2.2=0→1≤(GY s f i out).2.1∧(GY s f i out).2.1≤s.length)∧(GY s f i out).1.length≤s.length:=by
  intro f
  induction f with
  | zero=>intro i out _ _;exact⟨λh=>absurd (show (1:Int)=0 from h) (by decide),Nat.zero_le _⟩
  | succ f ih=>
   intro i out hi ho
   simp only[GY]
   split
   ·exact⟨λh=>absurd (show (1:Int)=0 from h) (by decide),Nat.zero_le _⟩
   ·rename_i c hc
    have hl:=(List.getElem?_eq_some_iff.1 hc).1
    obtain⟨f1,f2,f3⟩:=Gt s i hl
    split
    ·exact⟨λ_=>⟨by show (1:Int)≤(i:Int)+1;omega,by show (i:Int)+1≤_;omega⟩,by show out.length≤_;omega⟩
    ·split
     ·exact⟨λh=>absurd (show (1:Int)=0 from h) (by decide),Nat.zero_le _⟩
     ·exact ih _ _ (by omega) (by rw[List.length_append];omega)
 unfold bK
 split
 ·exact⟨λh=>absurd (show (1:Int)=0 from h) (by decide),Nat.zero_le _⟩
 ·rename_i g
  have:s≠[]:=λe=>g (.inl e)
  have:0<s.length:=List.length_pos_iff.2 this
  exact gen _ _ _ (by omega) (by simp)
theorem Lg(s:List UInt8)(i:Nat)(hi:i≤s.length):(dK s i).2≤s.length∧i≤(dK s i).2:=by
 have gen:∀(f i:Nat) (n:Int),i≤s.length→(sD s f i n).2≤s.length∧i≤(sD s f i n).2:=by
  intro f
  induction f with
  | zero=>intro i n h;exact⟨h,Nat.le_refl _⟩
  | succ f ih=>
   intro i n h
   simp only[sD]
   split
   ·exact⟨h,Nat.le_refl _⟩
   ·rename_i c hc
    have hl:=(List.getElem?_eq_some_iff.1 hc).1
    split
    ·have:=ih (i+1) (n*10+((c.toNat:Int)-48)) (by omega);omega
    ·exact⟨h,Nat.le_refl _⟩
 unfold dK
 split
 ·exact⟨hi,Nat.le_refl _⟩
 ·exact gen 7 i 0 hi
end Lp
namespace Lp
open Go Go.Proofs
theorem Zx{s:List UInt8}{i f k:Nat}(h:f=0∨¬ (k<s.length∧oo ((s.take (k+1)).drop i)=true)):pI s i f k=k:=by
 cases f with
 | zero=>rfl
 | succ f=>
  rcases h with h | h
  ·omega
  ·simp only[pI];rw[if_neg h]
theorem abV{s:List UInt8}{i f k:Nat}(h1:k<s.length)(h2:oo ((s.take (k+1)).drop i)=true):pI s i (f+1) k=pI s i f (k+1):=by
 simp only[pI];rw[if_pos ⟨h1,h2⟩]
theorem Sb:∀(s:List UInt8) (i f k:Nat),k≤s.length→pI s i f k≤s.length
 | _,_,0,_,h=>h
 | s,i,f+1,k,h=>by
  simp only[pI]
  split
  ·exact Sb s i f (k+1) (by omega)
  ·exact h
theorem abW{a b:Stp×Nat}(h:a=b):PV.bY [encS a.1,PV.int .i64 (a.2:Int)]=PV.bY [.agg [.bool b.1.part,.str b.1.name,.int .i64 b.1.n],PV.int .i64 (b.2:Int)]:=by rw[h];rfl
theorem nR:PV.xH (.agg ⟨[.bool false,.string ⟨⟨[]⟩⟩,.int .i64 0]⟩)=encS ⟨false,[],0⟩:=rfl
theorem nS(a:Stp):(∀p nm n,(encS a).putCells 0 [.bool p,.str nm,.int .i64 n]=encS ⟨p,nm,n⟩):=λ_ _ _=>rfl
theorem nT(objs:List Obj)(K:KT) :
  (bM D 61 [] objs K=K (encS ⟨false,[],0⟩) objs 0)∧
  (∀nm,bM D 61 [(1,.str nm)] objs K=K (encS ⟨false,nm,0⟩) objs 0)∧
  (∀n,bM D 61 [(0,.bool true),(2,.int .i64 n)] objs K=K (encS ⟨true,[],n⟩) objs 0):=by
 have z:aL (D 61)=encS ⟨false,[],0⟩:=by kernel_rfl
 have a:(D 61).agg=true:=by kernel_rfl
 simp only[bS]at z a
 refine⟨?_,λnm=>?_,λn=>?_⟩
 all_goals
  simp[bM,mI,a,z,bS,nD,encS,PV.isAgg,q9,PV.cells,PV.storable,PV.mV,PV.pure]
theorem FH(s:List UInt8)(i p:Nat)(P:Int)(hP:P=p)(hs:s.length≤1000000000)(hi:i≤s.length)(hp:p≤s.length)(l:List (Nat×PV))(h0:nu l 0=.str s)(h1:nu l 1=.int .i64 P)(h6:nu l 6=.bP 0 1 0 0)(h8:nu l 8=.int .i64 i)(r:PV)(hr:r=.bY [encS (mU s i p).1,.int .i64 (mU s i p).2])(Q:Exit→St→Prop)
  (hQ:∀l ob,Q .ret ⟨dG 129 l,ob⟩=fQ (D 61) (nu l 6) ob λp _ _=>r=.bY [iB 0 0 ob p,iB 0 0 ob (nu l 7)]) :
  l7 Tryz.prog D (aR Tryz.prog [(119,kT),(120,gu),(121,nQ),(122,o6)]) cB Q ⟨dG 129 l,[⟨61,3,[encS ⟨false,[],0⟩],true,1⟩]⟩:=by
 subst hP
 have zp:(0≤(p:Int))=True:=eq_true (by omega)
 rcases Nat.lt_or_ge p s.length with h | h
 ·have pl:((s.length:Int)≤(p:Int))=False:=eq_false (by omega)
  have pg:=List.getElem?_eq_getElem h
  generalize s[p]=d at pg
  have b91:(d.toNat:Int)=91↔d=91:=nC (k:=91) (by omega)
  by_cases h91:(d.toNat:Int)=91
  ·have ff:=Lg s (p+1) (by omega)
   have e1:mU s i p=if (dK s (p+1)).1<0∨s[(dK s (p+1)).2]?≠some 93 then (⟨false,[],0⟩,i) else (⟨true,[],(dK s (p+1)).1⟩,(dK s (p+1)).2+1):=by
    unfold mU;rw[if_neg];rw[pg,b91.1 h91];exact λg=>g rfl
   have tp:((p:Int)+1).toNat=p+1:=by omega
   generalize hF:dK s (p+1)=F at *
   obtain⟨fn,ft⟩:=F
   simp only at ff e1
   have zf:(0≤(ft:Int))=True:=eq_true (by omega)
   by_cases n0:fn<0
   ·rw[if_pos (.inl n0)]at e1
    have OL:=eq_true n0
    rw[e1]at hr
    simp (maxSteps:=400000) only[↓ak,au,BEq.rfl,seval,hQ,cB,nR,nS,nT,zp,pl,pg,h91,↓o6,tp,hF,eY,OL,h0,h1,h6,h8]
    repeat' (first | (omega) | exact hr | intro _ | refine⟨?_,?_⟩)
   ·have OL:=eq_false n0
    rcases Nat.lt_or_ge ft s.length with hf | hf
    ·have fl:((s.length:Int)≤(ft:Int))=False:=eq_false (by omega)
     have fg:=List.getElem?_eq_getElem hf
     generalize s[ft]=g at fg
     have b93:(g.toNat:Int)=93↔g=93:=nC (k:=93) (by omega)
     by_cases h93:(g.toNat:Int)=93
     ·rw[if_neg (by rintro (x | x);exact n0 x;exact x (by rw[fg,b93.1 h93]))]at e1
      rw[e1]at hr
      simp (maxSteps:=400000) only[↓ak,au,BEq.rfl,seval,hQ,cB,nR,nS,nT,zp,pl,pg,h91,↓o6,tp,hF,eY,OL,zf,fl,fg,h93,h0,h1,h6,h8]
      repeat' (first | (omega) | exact hr | intro _ | refine⟨?_,?_⟩)
     ·rw[if_pos (.inr (by rw[fg];intro x;exact h93 (b93.2 (Option.some.inj x))))]at e1
      rw[e1]at hr
      have ahQ:=eq_false h93
      simp (maxSteps:=400000) only[↓ak,au,BEq.rfl,seval,hQ,cB,nR,nS,nT,zp,pl,pg,h91,↓o6,tp,hF,eY,OL,zf,fl,fg,ahQ,h0,h1,h6,h8]
      repeat' (first | (omega) | exact hr | intro _ | refine⟨?_,?_⟩)
    ·have fl:((s.length:Int)≤(ft:Int))=True:=eq_true (by omega)
     rw[if_pos (.inr (by rw[List.getElem?_eq_none_iff.2 hf];simp))]at e1
     rw[e1]at hr
     simp (maxSteps:=400000) only[↓ak,au,BEq.rfl,seval,hQ,cB,nR,nS,nT,zp,pl,pg,h91,↓o6,tp,hF,eY,OL,zf,fl,h0,h1,h6,h8]
     repeat' (first | (omega) | exact hr | intro _ | refine⟨?_,?_⟩)
  ·have ahR:=eq_false h91
   have e1:mU s i p=(⟨false,[],0⟩,i):=by unfold mU;rw[if_pos];rw[pg];intro x;exact h91 (b91.2 (Option.some.inj x))
   rw[e1]at hr
   simp (maxSteps:=400000) only[↓ak,au,BEq.rfl,seval,hQ,cB,nR,nS,nT,zp,pl,pg,ahR,h0,h1,h6,h8]
   repeat' (first | (omega) | exact hr | intro _ | refine⟨?_,?_⟩)
 ·have pl:((s.length:Int)≤(p:Int))=True:=eq_true (by omega)
  have e1:mU s i p=(⟨false,[],0⟩,i):=by unfold mU;rw[if_pos];rw[List.getElem?_eq_none_iff.2 h];simp
  rw[e1]at hr
  simp (maxSteps:=400000) only[↓ak,au,BEq.rfl,seval,hQ,cB,nR,nS,nT,zp,pl,h0,h1,h6,h8]
  repeat' (first | (omega) | exact hr | intro _ | refine⟨?_,?_⟩)
end Lp
namespace Lp
open Go Go.Proofs
open List (take_length)
theorem Sc(s:List UInt8)(i k:Nat)(first:Bool)(hs:s.length≤1000000000)(hi:i<s.length)(hd:s[i]?=some 46)(hik:i+1≤k)(hk2:k≤s.length)(hE:pI s (i+1) (s.length-(i+1)) (i+1)=k)(l:List (Nat×PV))(h0:nu l 0=.str s)(h1:nu l 1=.int .i64 ((i:Int)+1))(h2:nu l 2=.bool first)(h6:nu l 6=.bP 0 1 0 0)(h8:nu l 8=.int .i64 i)(h9:nu l 9=.int .i64 k)(r:PV)(hr:r=.bY [encS (ig s i first).1,.int .i64 (ig s i first).2])(Q:Exit→St→Prop)
  (hQ:∀l ob,Q .ret ⟨dG 129 l,ob⟩=fQ (D 61) (nu l 6) ob λp _ _=>r=.bY [iB 0 0 ob p,iB 0 0 ob (nu l 7)]) :
  l7 Tryz.prog D (aR Tryz.prog [(119,kT),(120,gu),(121,nQ),(122,o6)]) bX (thenS (λS'=>l7 Tryz.prog D (aR Tryz.prog [(119,kT),(120,gu),(121,nQ),(122,o6)]) cB Q S') Q) ⟨dG 129 l,[⟨61,3,[encS ⟨false,[],0⟩],true,1⟩]⟩:=by
 have abX:=λ(l:List (Nat×PV)) a0 a1 a6 a8 hr=>FH s i (i+1) ((i:Int)+1) (by omega) hs (by omega) (by omega) l a0 a1 a6 a8 r hr Q hQ
 have zk:(0≤(k:Int))=True:=eq_true (by omega)
 have Qv:(0≤(i:Int)+1)=True:=eq_true (by omega)
 have OM:((i:Int)+1).toNat=i+1:=by omega
 have e0:ig s i first=if i+1<k then (⟨false,(s.take k).drop (i+1),0⟩,k) else if (bK (s.drop (i+1))).2.2=0∧oo (bK (s.drop (i+1))).1=false∧Be (bK (s.drop (i+1))).1=(s.take (i+1+(bK (s.drop (i+1))).2.1.toNat)).drop (i+1) then (⟨false,(bK (s.drop (i+1))).1,0⟩,i+1+(bK (s.drop (i+1))).2.1.toNat) else if first then mU s i (i+1) else (⟨false,[],0⟩,i):=by
  unfold ig;rw[if_pos hd,hE]
 have ul:(s.drop (i+1)).length=s.length-(i+1):=List.length_drop
 have uf:=AY (s.drop (i+1))
 rw[ul]at uf
 generalize hU:bK (s.drop (i+1))=U at *
 obtain⟨nm,n,e⟩:=U
 simp only at e0 uf
 rcases Nat.lt_or_ge (i+1) k with hk | hk
 ·have kg:((i:Int)+1<(k:Int))=True:=eq_true (by omega)
  rw[if_pos hk]at e0
  rw[e0]at hr
  simp (maxSteps:=400000) only[↓ak,au,BEq.rfl,seval,hQ,bX,nR,nS,nT,zk,OM,kg,Int.toNat_natCast,h0,h1,h2,h6,h8,h9]
  repeat' (first | (omega) | exact hr | intro _ | refine⟨?_,?_⟩)
 ·have kg:((i:Int)+1<(k:Int))=False:=eq_false (by omega)
  rw[if_neg (by omega)]at e0
  have abY:first=false→¬ (e=0∧oo nm=false∧Be nm=(s.take (i+1+n.toNat)).drop (i+1))→r=.bY [encS ⟨false,[],0⟩,.int .i64 i]:=λa b=>by rw[hr,e0,if_neg b,if_neg (by rw[a];simp)]
  have abZ:first=true→¬ (e=0∧oo nm=false∧Be nm=(s.take (i+1+n.toNat)).drop (i+1))→r=.bY [encS (mU s i (i+1)).1,.int .i64 (mU s i (i+1)).2]:=λa b=>by rw[hr,e0,if_neg b,if_pos a]
  by_cases he:e=0
  ·subst he
   have un:=uf.1 rfl
   have tn:((i:Int)+1+n).toNat=i+1+n.toNat:=by omega
   cases c2:oo nm with
   | false=>
    by_cases c3:Be nm=(s.take (i+1+n.toNat)).drop (i+1)
    ·rw[if_pos ⟨rfl,c2,c3⟩]at e0
     have zn:(((i+1+n.toNat:Nat)):Int)=(i:Int)+1+n:=by omega
     have c3':=eq_true c3
     rw[e0]at hr
     simp only[zn]at hr
     simp (maxSteps:=400000) only[↓ak,au,BEq.rfl,seval,hQ,bX,nR,nS,nT,zk,Qv,OM,kg,↓gu,take_length,hU,eY,↓kT,c2,↓nQ,tn,c3',h0,h1,h2,h6,h8,h9]
     repeat' (first | (omega) | exact hr | intro _ | refine⟨?_,?_⟩)
    ·have c3':=eq_false c3
     cases first with
     | false=>
      have g:=abY rfl λx=>c3 x.2.2
      simp (maxSteps:=400000) only[↓ak,au,BEq.rfl,seval,hQ,bX,nR,nS,nT,zk,Qv,OM,kg,↓gu,take_length,hU,eY,↓kT,c2,↓nQ,tn,c3',h0,h1,h2,h6,h8,h9]
      repeat' (first | (omega) | exact g | intro _ | refine⟨?_,?_⟩)
     | true=>
      have g:=abZ rfl λx=>c3 x.2.2
      simp (maxSteps:=400000) only[↓ak,au,BEq.rfl,seval,hQ,bX,nR,nS,nT,zk,Qv,OM,kg,↓gu,take_length,hU,eY,↓kT,c2,↓nQ,tn,c3',h0,h1,h2,h6,h8,h9]
      repeat' (first | (omega) | exact (abX _ h0 h1 h6 h8 g) | intro _ | refine⟨?_,?_⟩)
   | true=>
    cases first with
    | false=>
     have g:=abY rfl λx=>absurd (c2.symm.trans x.2.1) (by decide)
     simp (maxSteps:=400000) only[↓ak,au,BEq.rfl,seval,hQ,bX,nR,nS,nT,zk,Qv,OM,kg,↓gu,take_length,hU,eY,↓kT,c2,h0,h1,h2,h6,h8,h9]
     repeat' (first | (omega) | exact g | intro _ | refine⟨?_,?_⟩)
    | true=>
     have g:=abZ rfl λx=>absurd (c2.symm.trans x.2.1) (by decide)
     simp (maxSteps:=400000) only[↓ak,au,BEq.rfl,seval,hQ,bX,nR,nS,nT,zk,Qv,OM,kg,↓gu,take_length,hU,eY,↓kT,c2,h0,h1,h2,h6,h8,h9]
     repeat' (first | (omega) | exact (abX _ h0 h1 h6 h8 g) | intro _ | refine⟨?_,?_⟩)
  ·have he':=eq_false he
   cases first with
   | false=>
    have g:=abY rfl λx=>he x.1
    simp (maxSteps:=400000) only[↓ak,au,BEq.rfl,seval,hQ,bX,nR,nS,nT,zk,Qv,OM,kg,↓gu,take_length,hU,eY,he',h0,h1,h2,h6,h8,h9]
    repeat' (first | (omega) | exact g | intro _ | refine⟨?_,?_⟩)
   | true=>
    have g:=abZ rfl λx=>he x.1
    simp (maxSteps:=400000) only[↓ak,au,BEq.rfl,seval,hQ,bX,nR,nS,nT,zk,Qv,OM,kg,↓gu,take_length,hU,eY,he',h0,h1,h2,h6,h8,h9]
    repeat' (first | (omega) | exact (abX _ h0 h1 h6 h8 g) | intro _ | refine⟨?_,?_⟩)
theorem Zy(s:List UInt8)(i:Nat)(first:Bool)(hs:s.length≤1000000000)(hi:i≤s.length):ai Tryz.prog 107 [.str s,.int .i64 i,.bool first] [] (.bY [encS (ig s i first).1,.int .i64 (ig s i first).2]) []:=by
 refine Dn.afy (T:=aR Tryz.prog [(119,kT),(120,gu),(121,nQ),(122,o6)]) 0 hD (aj (af Vn (af Lf (af RX (af Vo ah))))) aV (by decide) (by decide) λQ hQ=>?_
 have zi:(0≤(i:Int))=True:=eq_true (by omega)
 by_cases hd:s[i]?=some 46
 ·have h:=(List.getElem?_eq_some_iff.1 hd).1
  have hlt:((i:Int)<(s.length:Int))=True:=eq_true (by omega)
  have h46:(((46:UInt8).toNat:Int)=46)=True:=eq_true rfl
  have OM:((i:Int)+1).toNat=i+1:=by omega
  simp (maxSteps:=400000) only[↓ak,au,BEq.rfl,seval,hQ,gU,nR,nS,nT,zi,hlt,hd,h46]
  refine⟨⟨by omega,by omega⟩,?_⟩
  refine aF (λm S=>∃k:Nat,m=s.length-k∧i+1≤k∧k≤s.length∧pI s (i+1) (s.length-(i+1)) (i+1)=pI s (i+1) (s.length-k) k∧S=⟨dG 129 [(0,.str s),(1,.int .i64 ((i:Int)+1)),(2,.bool first),(6,.bP 0 1 0 0),(8,.int .i64 i),(9,.int .i64 k)],[⟨61,3,[encS ⟨false,[],0⟩],true,1⟩]⟩) (s.length-(i+1)) ⟨i+1,rfl,by omega,by omega,rfl,?_⟩ ?_
  ·simp only[bN,keepR,Nat.reduceAdd,lJ,Nat.reduceBEq,List.map_nil]
   rfl
  rintro m S ⟨k,hm,h1,h2,hW,rfl⟩
  have zk:(0≤(k:Int))=True:=eq_true (by omega)
  have tk:((k:Int)+1).toNat=k+1:=by omega
  have wl:((s.take (k+1)).drop (i+1)).length≤1000000000:=by rw[List.length_drop,List.length_take];omega
  by_cases hw:k<s.length∧oo ((s.take (k+1)).drop (i+1))=true
  ·have kl:((k:Int)<(s.length:Int))=True:=eq_true (by omega)
   have hwb:=hw.2
   have hW':pI s (i+1) (s.length-k) k=pI s (i+1) (s.length-(k+1)) (k+1):=by
    rw[show s.length-k=s.length-(k+1)+1 by omega,abV hw.1 hw.2]
   simp (maxSteps:=400000) only[↓ak,au,BEq.rfl,seval,hQ,nR,nS,nT,zk,kl,↓kT,OM,tk,hwb]
   exact⟨⟨by omega,by omega⟩,by omega,by omega,by omega,wl,⟨by omega,by omega⟩,s.length-(k+1),by omega,k+1,rfl,by omega,by omega,by rw[hW,hW'],rfl⟩
  ·have hE:pI s (i+1) (s.length-(i+1)) (i+1)=k:=by rw[hW];exact Zx (.inr hw)
   rcases Nat.lt_or_ge k s.length with hkl | hkl
   ·have kl:((k:Int)<(s.length:Int))=True:=eq_true (by omega)
    have hwb:oo ((s.take (k+1)).drop (i+1))=false:=by
     cases x:oo ((s.take (k+1)).drop (i+1)) with
     | false=>rfl
     | true=>exact absurd ⟨hkl,x⟩ hw
    simp (maxSteps:=400000) only[↓ak,au,BEq.rfl,seval,hQ,nR,nS,nT,zk,↓kT,OM,tk,kl,hwb]
    repeat' (first | (omega) | exact wl | exact (Sc s i k first hs h hd h1 h2 hE _ rfl rfl rfl rfl rfl rfl _ rfl Q hQ) | intro _ | refine⟨?_,?_⟩)
   ·have kl:((k:Int)<(s.length:Int))=False:=eq_false (by omega)
    simp (maxSteps:=400000) only[↓ak,au,BEq.rfl,seval,hQ,nR,nS,nT,zk,↓kT,OM,tk,kl]
    repeat' (first | (omega) | exact (Sc s i k first hs h hd h1 h2 hE _ rfl rfl rfl rfl rfl rfl _ rfl Q hQ) | intro _ | refine⟨?_,?_⟩)
 ·have e0:ig s i first=if first then (⟨false,[],0⟩,i) else mU s i i:=by unfold ig;rw[if_neg hd]
  rcases Nat.lt_or_ge i s.length with h | h
  ·have hlt:((i:Int)<(s.length:Int))=True:=eq_true (by omega)
   have hg:=List.getElem?_eq_getElem h
   generalize s[i]=c at hg
   have b46:(c.toNat:Int)=46↔c=46:=nC (k:=46) (by omega)
   have h46:((c.toNat:Int)=46)=False:=eq_false λx=>hd (by rw[hg,b46.1 x])
   cases first with
   | false=>
    simp (maxSteps:=400000) only[↓ak,au,BEq.rfl,seval,hQ,gU,nR,nS,nT,zi,hlt,hg,h46]
    repeat' (first | (omega) | exact (FH s i i i rfl hs hi hi _ rfl rfl rfl rfl _ (by rw[e0];rfl) Q hQ) | intro _ | refine⟨?_,?_⟩)
   | true=>
    have g:=abW e0
    simp (maxSteps:=400000) only[↓ak,au,BEq.rfl,seval,hQ,gU,nR,nS,nT,zi,hlt,hg,h46]
    repeat' (first | (omega) | exact g | intro _ | refine⟨?_,?_⟩)
  ·have hlt:((i:Int)<(s.length:Int))=False:=eq_false (by omega)
   cases first with
   | false=>
    simp (maxSteps:=400000) only[↓ak,au,BEq.rfl,seval,hQ,gU,nR,nS,nT,zi,hlt]
    repeat' (first | (omega) | exact (FH s i i i rfl hs hi hi _ rfl rfl rfl rfl _ (by rw[e0];rfl) Q hQ) | intro _ | refine⟨?_,?_⟩)
   | true=>
    have g:=abW e0
    simp (maxSteps:=400000) only[↓ak,au,BEq.rfl,seval,hQ,gU,nR,nS,nT,zi,hlt]
    repeat' (first | (omega) | exact g | intro _ | refine⟨?_,?_⟩)
end Lp
namespace Lp
open Go Go.Proofs
open List (length_cons length_nil map_map map_nil)
def qD:dD:=λargs objs K=>match args with
 | [.str s,.int .i64 i,.bool b]=>(s.length≤1000000000)∧(0≤i)∧(i≤s.length)∧K (.bY [encS (ig s i.toNat b).1,.int .i64 (ig s i.toNat b).2]) objs 0
 | _=>False
theorem Vt:aC Tryz.prog 107 (qD):=by
 intro args objs K h
 unfold qD at h
 split at h
 ·rename_i s i b
  obtain⟨h1,h2,h3,hk⟩:=h
  exact⟨_,_,_,.pure _ rfl ((by have:=Zy s i.toNat b h1 (by omega);rwa[Int.toNat_of_nonneg h2]at this)),hk⟩
 ·exact h.elim
theorem Sd(s:List UInt8)(a i:Nat)(ha:a≤s.length)(hi:i+1≤s.length∨s.length≤i):(mU s a i).2≤s.length:=by
 unfold mU
 split
 ·exact ha
 ·split
  ·exact ha
  ·rename_i h1 h2
   have h3:s[(dK s (i+1)).2]?=some 93:=Decidable.of_not_not λh=>h2 (.inr h)
   exact (List.getElem?_eq_some_iff.1 h3).1
theorem ab0(s:List UInt8)(i:Nat)(b:Bool)(hi:i≤s.length):(ig s i b).2≤s.length:=by
 unfold ig
 split
 ·rename_i hd
  have h:=(List.getElem?_eq_some_iff.1 hd).1
  split
  ·exact Sb s (i+1) (s.length-(i+1)) (i+1) (by omega)
  ·split
   ·rename_i hc
    have hu:=(AY (s.drop (i+1))).1 hc.1
    rw[List.length_drop]at hu
    show i+1+(bK (s.drop (i+1))).2.1.toNat≤s.length
    omega
   ·split
    ·exact Sd s i (i+1) hi (by omega)
    ·exact hi
 ·split
  ·exact hi
  ·exact Sd s i i hi (by omega)
theorem FI{s:List UInt8}{f i:Nat}{out:List Stp}(h:f=0∨(ig s i out.isEmpty).2=i):Bf s f i out=(out,i):=by
 cases f with
 | zero=>rfl
 | succ f=>
  rcases h with h | h
  ·omega
  ·simp only[Bf];rw[if_pos h]
theorem XK{s:List UInt8}{f i:Nat}{out:List Stp}(h:¬ (ig s i out.isEmpty).2=i):Bf s (f+1) i out=Bf s f (ig s i out.isEmpty).2 (out++[(ig s i out.isEmpty).1]):=by
 simp only[Bf];rw[if_neg h]
def Sg(l:List Stp)(ver:Nat):Obj:=⟨61,3,l.map encS,true,ver⟩
theorem DI(v:List Stp)(ver:Nat)(t:TypeId)(rest:List Obj):eZ 1 0 (⟨t,3,v.map encS,true,ver⟩::rest) (.bO 0 ver)=dO v:=by
 have:(v.map encS).map (PV.bL (gX 0 0 (⟨t,3,v.map encS,true,ver⟩::rest)))=v.map encS:=by
  rw[map_map];exact List.map_congr_left λx _=>rfl
 simp only[eZ,Nat.not_lt_zero,if_false,gX,List.getElem?_cons_zero,Nat.le_refl,decide_true,Bool.true_and,beq_self_eq_true,if_true,this]
 rfl
theorem zSl:(PV.xH (.agg ⟨[.bool false,.string ⟨⟨[]⟩⟩,.int .i64 0]⟩)).cells.length=3:=rfl
theorem zSs:(PV.xH (.agg ⟨[.bool false,.string ⟨⟨[]⟩⟩,.int .i64 0]⟩)).cells.all PV.storable=true:=rfl
theorem ag0(a:Stp):PV.agg [.bool a.part,.str a.name,.int .i64 a.n]=encS a:=rfl
theorem aeU(a:Stp):encS ⟨a.part,a.name,a.n⟩=encS a:=rfl
theorem ab1:∀d X v,eZ d 1 X (.bO 0 v)=.bO 0 v:=λ_ _ _=>rfl
theorem ag1(X:List Obj)(l:List Stp)(a:Stp)(v:Nat):f_ 1 1 X ⟨61,3,l.map encS++[encS a],true,v⟩=⟨61,3,l.map encS++[encS a],true,v⟩:=by
 unfold f_
 simp only[List.map_append,map_map,List.map_cons,map_nil]
 rfl
theorem Si(s:List UInt8)(hs:s.length≤1000000000):ai Tryz.prog 96 [.str s,.int .i64 0] [] (.bY [dO (fe s).1,.int .i64 (fe s).2]) []:=by
 refine Am.wo (T:=aR Tryz.prog [(107,qD)]) 1 hD (aj (af Vt ah)) aV (by decide) (by decide) λQ hQ=>?_
 (conv=>arg 4;cbv);simp (maxSteps:=400000) only[↓ak,au,BEq.rfl,seval,hQ,nR,nS,nT,zSl,zSs]
 refine aF (λm S=>∃(i ver:Nat) (out:List Stp),m+out.length=20∧i≤s.length∧Bf s 20 0 []=Bf s m i out∧S=⟨dG 52 [(0,.str s),(1,.int .i64 i),(6,.bO 0 ver),(7,.int .i64 0)],[Sg out ver]⟩) 20 (hz:=Nat.zero_le _) ⟨0,1,[],rfl,by omega,rfl,?_⟩ ?_
 ·simp only[bN,keepR,Nat.reduceAdd,lJ,Nat.reduceBEq,map_nil]
  rfl
 rintro m S ⟨i,ver,out,hm,hi,hB,rfl⟩
 rcases Nat.eq_zero_or_pos m with h0 | h0
 ·subst h0
  have hlt:((out.length:Int)<20)=False:=eq_false (by omega)
  have b0:decide ((out.length:Int)=0)=false:=decide_eq_false (by omega)
  have hb:fe s=(out,i):=by
   unfold fe;rw[hB,FI (.inl rfl)]
   rw[if_neg];rintro⟨h,_⟩;simp only at h;rw[h]at hm;simp at hm
  unfold Sg
  simp (maxSteps:=400000) only[↓ak,au,BEq.rfl,seval,hQ,hlt,b0,hb,DI]
 ·obtain⟨m,rfl⟩:∃k,m=k+1:=⟨m-1,by omega⟩
  have hlt:((out.length:Int)<20)=True:=eq_true (by omega)
  have hle:=ab0 s i out.isEmpty hi
  have z0:Int.toNat 0=0:=rfl
  cases hE:out.isEmpty with
  | true=>
   have ho:out=[]:=List.isEmpty_iff.1 hE
   have b0:decide ((out.length:Int)=0)=true:=decide_eq_true (by rw[ho];rfl)
   have b1:((out.length:Int)=0)=True:=eq_true (by rw[ho];rfl)
   rw[hE]at hle
   by_cases hst:(ig s i true).2=i
   ·have hst':(((ig s i true).2:Int)=(i:Int))=True:=eq_true (by omega)
    have hF:Bf s 20 0 []=([],i):=by rw[hB,FI (.inr (by rw[hE];exact hst)),ho]
    rcases Nat.lt_or_ge 0 s.length with hp | hp
    ·have pl:((0:Int)<(s.length:Int))=True:=eq_true (by omega)
     have pg:=List.getElem?_eq_getElem hp
     generalize s[0]=d at pg
     have b46:(d.toNat:Int)=46↔d=46:=nC (k:=46) (by omega)
     by_cases hd:(d.toNat:Int)=46
     ·have hb:fe s=(out,1):=by rw[ho];unfold fe;rw[hF,if_pos ⟨rfl,by rw[pg,b46.1 hd]⟩]
      unfold Sg
      simp (maxSteps:=400000) only[↓ak,au,BEq.rfl,seval,hQ,hlt,b0,b1,↓qD,Int.toNat_natCast,eY,nR,nS,nT,zSl,zSs,hst',pl,z0,pg,hd,hb,DI]
      repeat' (first | (omega) | exact rfl | intro _ | refine⟨?_,?_⟩)
     ·have hb:fe s=(out,i):=by rw[ho];unfold fe;rw[hF,if_neg];rintro⟨_,h⟩;rw[pg]at h;exact hd (b46.2 (Option.some.inj h))
      have hd':=eq_false hd
      unfold Sg
      simp (maxSteps:=400000) only[↓ak,au,BEq.rfl,seval,hQ,hlt,b0,b1,↓qD,Int.toNat_natCast,eY,nR,nS,nT,zSl,zSs,hst',pl,z0,pg,hd',hb,DI]
      repeat' (first | (omega) | exact rfl | intro _ | refine⟨?_,?_⟩)
    ·have pl:((0:Int)<(s.length:Int))=False:=eq_false (by omega)
     have hb:fe s=(out,i):=by rw[ho];unfold fe;rw[hF,if_neg];rintro⟨_,h⟩;rw[List.getElem?_eq_none_iff.2 hp]at h;cases h
     unfold Sg
     simp (maxSteps:=400000) only[↓ak,au,BEq.rfl,seval,hQ,hlt,b0,b1,↓qD,Int.toNat_natCast,eY,nR,nS,nT,zSl,zSs,hst',pl,hb,DI]
     repeat' (first | (omega) | exact rfl | intro _ | refine⟨?_,?_⟩)
   ·have hst':(((ig s i true).2:Int)=(i:Int))=False:=eq_false (by omega)
    have hg:=XK (s:=s) (f:=m) (i:=i) (out:=out) (by rw[hE];exact hst)
    rw[hE]at hg
    unfold Sg
    simp (maxSteps:=400000) only[↓ak,au,BEq.rfl,seval,hQ,hlt,b0,↓qD,Int.toNat_natCast,eY,nR,nS,nT,zSl,zSs,hst',ag0,aeU,ab1,List.take_succ_cons,List.take_zero,ag1]
    repeat' (first | (omega) | exact⟨m,by omega,(ig s i true).2,ver+1,out++[(ig s i true).1],by rw[List.length_append];simp only[length_cons,length_nil];omega,hle,hB.trans hg,by simp⟩ | intro _ | refine⟨?_,?_⟩)
  | false=>
   have hon:out≠[]:=λe=>by rw[e]at hE;cases hE
   have hol:0<out.length:=List.length_pos_iff.2 hon
   have b0:decide ((out.length:Int)=0)=false:=decide_eq_false (by omega)
   rw[hE]at hle
   by_cases hst:(ig s i false).2=i
   ·have hst':(((ig s i false).2:Int)=(i:Int))=True:=eq_true (by omega)
    have hb:fe s=(out,i):=by
     unfold fe;rw[hB,FI (.inr (by rw[hE];exact hst)),if_neg];rintro⟨h,_⟩;exact hon h
    unfold Sg
    simp (maxSteps:=400000) only[↓ak,au,BEq.rfl,seval,hQ,hlt,b0,↓qD,Int.toNat_natCast,eY,nR,nS,nT,zSl,zSs,hst',hb,DI]
    repeat' (first | (omega) | exact rfl | intro _ | refine⟨?_,?_⟩)
   ·have hst':(((ig s i false).2:Int)=(i:Int))=False:=eq_false (by omega)
    have hg:=XK (s:=s) (f:=m) (i:=i) (out:=out) (by rw[hE];exact hst)
    rw[hE]at hg
    unfold Sg
    simp (maxSteps:=400000) only[↓ak,au,BEq.rfl,seval,hQ,hlt,b0,↓qD,Int.toNat_natCast,eY,nR,nS,nT,zSl,zSs,hst',ag0,aeU,ab1,List.take_succ_cons,List.take_zero,ag1]
    repeat' (first | (omega) | exact⟨m,by omega,(ig s i false).2,ver+1,out++[(ig s i false).1],by rw[List.length_append];simp only[length_cons,length_nil];omega,hle,hB.trans hg,by simp⟩ | intro _ | refine⟨?_,?_⟩)
def oQ:dD:=λargs objs K=>match args with
 | [.str s,a1]=>a1=(.int .i64 0)∧(s.length≤1000000000)∧K (.bY [dO (fe s).1,.int .i64 (fe s).2]) objs 0
 | _=>False
theorem OO:aC Tryz.prog 96 (oQ):=by
 intro args objs K h
 unfold oQ at h
 split at h
 ·rename_i s a1
  obtain⟨rfl,h1,hk⟩:=h
  exact⟨_,_,_,.pure _ rfl (Si s h1),hk⟩
 ·exact h.elim
def AZ(s:List UInt8):PV:=if (jA s).2.2=0 then .bY [dO (jA s).1,.int .i64 (jA s).2.1,.int .i64 (jA s).2.2] else .bY [.sl 0 [] (some true),.int .i64 (jA s).2.1,.int .i64 (jA s).2.2]
theorem Vu(s:List UInt8)(hs:s.length≤1000000000):ai Tryz.prog 66 [.str s] [] (AZ s) []:=by
 refine Dp.abN (T:=aR Tryz.prog [(96,oQ)]) 0 hD (aj (af OO ah)) aV (by decide) (by decide) (by decide) λQ hQ=>?_
 by_cases h46:s=[46]
 ·have hr:AZ s=.bY [dO (fe s).1,.int .i64 0,.int .i64 0]:=by simp only[AZ,jA,if_pos h46,if_true]
  have ab2:=eq_true h46
  (conv=>arg 4;cbv);simp (maxSteps:=400000) only[↓ak,au,BEq.rfl,seval,hQ,↓oQ,eY,ab2,hr]
  repeat' (first | (omega) | exact rfl | intro _ | refine⟨?_,?_⟩)
 have ab2:=eq_false h46
 cases hB:fe s with
 | mk p n=>
 by_cases hp:p=[]
 ·have hr:AZ s=.bY [.sl 0 [] (some true),.int .i64 0,.int .i64 1]:=by simp[AZ,jA,h46,hB,hp]
  subst hp
  have b0:((([]:List Stp).length:Int)=0)=True:=eq_true rfl
  (conv=>arg 4;cbv);simp (maxSteps:=400000) only[↓ak,au,BEq.rfl,seval,hQ,↓oQ,eY,ab2,hB,b0,hr]
  repeat' (first | (omega) | exact rfl | intro _ | refine⟨?_,?_⟩)
 ·have hpl:0<p.length:=List.length_pos_iff.2 hp
  have b0:((p.length:Int)=0)=False:=eq_false (by omega)
  rcases Nat.lt_or_ge n s.length with hn | hn
  ·have hn':((n:Int)<(s.length:Int))=True:=eq_true (by omega)
   have hr:AZ s=.bY [.sl 0 [] (some true),.int .i64 n,.int .i64 1]:=by simp[AZ,jA,h46,hB,hp,hn]
   (conv=>arg 4;cbv);simp (maxSteps:=400000) only[↓ak,au,BEq.rfl,seval,hQ,↓oQ,eY,ab2,hB,b0,hn',hr]
   repeat' (first | (omega) | exact rfl | intro _ | refine⟨?_,?_⟩)
  ·have hn':((n:Int)<(s.length:Int))=False:=eq_false (by omega)
   have hr:AZ s=.bY [dO p,.int .i64 0,.int .i64 0]:=by simp[AZ,jA,h46,hB,hp,Nat.not_lt.2 hn]
   (conv=>arg 4;cbv);simp (maxSteps:=400000) only[↓ak,au,BEq.rfl,seval,hQ,↓oQ,eY,ab2,hB,b0,hn',hr]
   repeat' (first | (omega) | exact rfl | intro _ | refine⟨?_,?_⟩)
theorem afF{a b c a':PV}(h:lX a a'):lX (.bY [a,b,c]) (.bY [a',b,c]):=
 .bY rfl λi p q hp hq=>by
  match i with
  | 0=>cases hp;cases hq;exact h
  | 1=>cases hp;cases hq;exact .refl _
  | 2=>cases hp;cases hq;exact .refl _
  | _+3=>simp at hp
theorem Zz{s:List UInt8}(h:¬ (jA s).2.2=0):(jA s).1=[]:=by
 unfold jA at h ⊢
 split
 ·rename_i h1;rw[if_pos h1]at h;exact absurd rfl h
 ·rename_i h1
  rw[if_neg h1]at h
  split
  ·rfl
  ·rename_i h2
   rw[if_neg h2]at h
   split
   ·rfl
   ·rename_i h3;rw[if_neg h3]at h;exact absurd rfl h
theorem ZA(s:List UInt8)(hs:s.length≤1000000000):ai Tryz.prog 66 [.str s] [] (.bY [dO (jA s).1,.int .i64 (jA s).2.1,.int .i64 (jA s).2.2]) []:=by
 refine (Vu s hs).res ?_
 unfold AZ
 split
 ·exact .refl _
 ·rename_i h;rw[Zz h];exact afF (lT 0 3)
def DJ:dD:=λargs objs K=>match args with
 | [.str s]=>(s.length≤1000000000)∧K (.bY [dO (jA s).1,.int .i64 (jA s).2.1,.int .i64 (jA s).2.2]) objs 0
 | _=>False
theorem Vv:aC Tryz.prog 66 (DJ):=by
 intro args objs K h
 unfold DJ at h
 split at h
 ·rename_i s
  obtain⟨h1,hk⟩:=h
  exact⟨_,_,_,.pure _ rfl (ZA s h1),hk⟩
 ·exact h.elim
theorem Sj(s:List UInt8):∀(f i:Nat) (out:List Stp),(Bf s f i out).1.length≤out.length+f
 | 0,_,_=>Nat.le_refl _
 | f+1,i,out=>by
  simp only[Bf]
  split
  ·show out.length≤_;omega
  ·have:=Sj s f (ig s i out.isEmpty).2 (out++[(ig s i out.isEmpty).1])
   rw[List.length_append]at this
   simp only[length_cons,length_nil]at this
   omega
theorem FJ(s:List UInt8):(cO s).length≤20:=by
 have hb:(fe s).1.length≤20:=by
  unfold fe
  split
  ·simp
  ·have:=Sj s 20 0 [];simpa using this
 unfold cO jA
 split
 ·exact hb
 ·split
  ·simp
  ·split
   ·simp
   ·exact hb
theorem Sk(p:List Stp)(hp:p.length≤1000000):ai Tryz.prog 67 [dO p] [] (.bool (p.all λx=>!x.part)) []:=by
 refine Ao.aX (T:=aR Tryz.prog []) 0 hD (aj ah) aV (by decide) λQ hQ=>?_
 (conv=>arg 4;cbv);simp (maxSteps:=400000) only[↓ak,au,BEq.rfl,seval,hQ]
 refine aF (λm S=>∃i:Nat,i+m=p.length∧(∀(j:Nat) x,j<i→p[j]?=some x→x.part=false)∧S=⟨dG 15 [(0,dO p),(3,.int .i64 i)],[]⟩) p.length ⟨0,by omega,λj x h=>absurd h (Nat.not_lt_zero j),?_⟩ ?_
 ·simp only[bN,keepR,Nat.reduceAdd,lJ,Nat.reduceBEq,map_nil]
  rfl
 rintro m S ⟨i,him,hb,rfl⟩
 have zi:(0≤(i:Int))=True:=eq_true (by omega)
 rcases Nat.lt_or_ge i p.length with h | h
 ·have hlt:((i:Int)<(p.length:Int))=True:=eq_true (by omega)
  have hgi:=List.getElem?_eq_getElem h
  generalize p[i]=x at hgi
  cases hx:x.part with
  | true=>
   have hr:(p.all λx=>!x.part)=false:=by rw[List.all_eq_false];exact⟨x,List.mem_of_getElem? hgi,by simp[hx]⟩
   simp (maxSteps:=400000) only[↓ak,au,BEq.rfl,seval,hQ,hlt,zi,hgi,hx,hr]
  | false=>
   simp (maxSteps:=400000) only[↓ak,au,BEq.rfl,seval,hQ,hlt,zi,hgi,hx]
   refine⟨⟨by omega,by omega⟩,m-1,by omega,i+1,by omega,λj y hj hy=>?_,rfl⟩
   rcases Nat.lt_or_ge j i with g | g
   ·exact hb j y g hy
   ·have:j=i:=by omega
    subst this
    rw[hgi]at hy;cases hy;exact hx
 ·have hlt:((i:Int)<(p.length:Int))=False:=eq_false (by omega)
  have hr:(p.all λx=>!x.part)=true:=by
   rw[List.all_eq_true];intro x hx
   obtain⟨j,hj⟩:=List.mem_iff_getElem?.1 hx
   have:=(List.getElem?_eq_some_iff.1 hj).1
   rw[hb j x (by omega) hj];rfl
  simp (maxSteps:=400000) only[↓ak,au,BEq.rfl,seval,hQ,hlt,hr]
def u6:dD:=λargs objs K=>match args with
 | [a0]=>dZ dO a0 (HK.mk:HK λp=>(p.length≤1000000)∧K (.bool (p.all λx=>!x.part)) objs 0)
 | _=>False
theorem OP:aC Tryz.prog 67 (u6):=by
 intro args objs K h
 unfold u6 at h
 split at h
 ·rename_i a0
  obtain⟨p,rfl,h1,hk⟩:=h
  exact⟨_,_,_,.pure _ rfl (Sk p h1),hk⟩
 ·exact h.elim
theorem ZB(s:List UInt8)(hs:s.length≤1000000000):ai Tryz.prog 34 [.str s] [] (.bY [dO (cO s),.bool (bA s)]) []:=by
 refine Dq.wo (T:=aR Tryz.prog [(66,DJ),(67,u6)]) 0 hD (aj (af Vv (af OP ah))) aV (by decide) (by decide) λQ hQ=>?_
 have hl:=FJ s
 unfold cO at hl
 by_cases he:(jA s).2.2=0
 ·have he':=eq_true he
  have d1:decide ((jA s).2.2=0)=true:=decide_eq_true he
  have hr:bA s=(jA s).1.all λx=>!x.part:=by unfold bA;rw[d1];rfl
  (conv=>arg 4;cbv);simp (maxSteps:=400000) only[↓ak,au,BEq.rfl,seval,hQ,↓DJ,↓u6,eY,he',cO,hr]
  repeat' (first | (omega) | exact rfl | intro _ | refine⟨?_,?_⟩)
 ·have he':=eq_false he
  have d1:decide ((jA s).2.2=0)=false:=decide_eq_false he
  have hr:bA s=false:=by unfold bA;rw[d1];rfl
  (conv=>arg 4;cbv);simp (maxSteps:=400000) only[↓ak,au,BEq.rfl,seval,hQ,↓DJ,↓u6,eY,he',cO,hr]
  repeat' (first | (omega) | exact rfl | intro _ | refine⟨?_,?_⟩)
def fK:dD:=λargs objs K=>match args with
 | [.str s]=>(s.length≤1000000000)∧K (.bY [dO (cO s),.bool (bA s)]) objs 0
 | _=>False
theorem wC:aC Tryz.prog 34 (fK):=by
 intro args objs K h
 unfold fK at h
 split at h
 ·rename_i s
  obtain⟨h1,hk⟩:=h
  exact⟨_,_,_,.pure _ rfl (ZB s h1),hk⟩
 ·exact h.elim
theorem Vw(s:List UInt8)(hs:s.length≤1000000000):ai Tryz.prog 99 [.str s] [] (dO (cO s)) []:=by
 refine Dr.aX (T:=aR Tryz.prog [(34,fK)]) 0 hD (aj (af wC ah)) aV (by decide) λQ hQ=>?_
 (conv=>arg 4;cbv);simp (maxSteps:=400000) only[↓ak,au,BEq.rfl,seval,hQ,↓fK,eY]
 repeat' (first | (omega) | exact rfl | intro _ | refine⟨?_,?_⟩)
def u7:dD:=λargs objs K=>match args with
 | [.str s]=>(s.length≤1000000000)∧K (dO (cO s)) objs 0
 | _=>False
theorem OQ:aC Tryz.prog 99 (u7):=by
 intro args objs K h
 unfold u7 at h
 split at h
 ·rename_i s
  obtain⟨h1,hk⟩:=h
  exact⟨_,_,_,.pure _ rfl (Vw s h1),hk⟩
 ·exact h.elim
end Lp
namespace Lp
open Go Go.Proofs
def A7(n:Nd)(p:Int):Int:=
 let i:Int:=n.s.length-1-(p-n.e)
 if i<0 then 0 else match n.s[i.toNat]? with
  | some c=>(c.toNat:Int)-48
  | none=>0
def nU(a b:Nd):Nat→Int→Int
 | 0,_=>0
 | k+1,p=>if A7 a p<A7 b p then -1 else if A7 b p<A7 a p then 1 else nU a b k (p-1)
def lY(a b:Nd):Int:=if (b.s.length+b.e:Int) > a.s.length+a.e then (b.s.length+b.e:Int) else a.s.length+a.e
def kV(a b:Nd):Int:=if b.e<a.e then b.e else a.e
def jM(a b:Nd):Int:=
 let side:Int:=if a.neg then -1 else 1
 if a.neg≠b.neg then side else side*nU a b (lY a b-kV a b+1).toNat (lY a b)
structure DK (n:Nd):Prop where
 len:n.s.length≤200
 gT:gT n.s=true
 lo:-1000≤n.e
 hi:n.e≤1000
theorem rO{s:List UInt8}(h:gT s=true){i:Nat}{c:UInt8}(hc:s[i]?=some c):48≤c.toNat∧c.toNat≤57:=by
 simp only[gT,List.all_eq_true,Bool.and_eq_true,decide_eq_true_eq]at h
 have:=h c (List.mem_of_getElem? hc)
 exact⟨UInt8.le_iff_toNat_le.1 this.1,UInt8.le_iff_toNat_le.1 this.2⟩
theorem adH(n:Nd)(p:Int)(hn:DK n)(hp:-2000≤p∧p≤2000):ai Tryz.prog 100 [aB n,.int .i64 p] [] (.int .i64 (A7 n p)) []:=by
 obtain⟨h1,h2,h3,h4⟩:=hn
 refine G9.pure (T:=aR Tryz.prog []) 0 hD (aj ah) aV (by decide) ?_
 (conv=>arg 4;cbv);simp (maxSteps:=400000) only[↓aS,aT,BEq.rfl,seval]
 refine aN _ (Weak.freeze 1 0 (Nat.le_refl _) _) ?_
 simp (maxSteps:=400000) only[↓aS,aT,BEq.rfl,seval,jT]
 refine⟨⟨by omega,by omega⟩,⟨by omega,by omega⟩,⟨by omega,by omega⟩,λh=>?_,λh=>⟨λh'=>?_,λh'=>⟨by omega,?_⟩⟩⟩
 ·simp only[A7,if_pos h]
 ·have:n.s[(↑n.s.length-1-(p-n.e)).toNat]?=none:=List.getElem?_eq_none (by omega)
  simp only[A7,if_neg h,this]
 ·have hi:(↑n.s.length-1-(p-n.e)).toNat<n.s.length:=by omega
  have hg:=List.getElem?_eq_getElem hi
  have hf:=rO h2 hg
  generalize hc:n.s[(↑n.s.length-1-(p-n.e)).toNat]=c at *
  simp (maxSteps:=400000) only[↓aS,aT,BEq.rfl,seval,hg,kZ,ou,IntKind.wrap]
  refine⟨⟨by omega,by omega⟩,?_⟩
  simp only[A7,if_neg h,hg]
  have hm:((c.toNat:Int)-48) % 2 ^ IntKind.i64.bits=(c.toNat:Int)-48:=Int.emod_eq_of_lt (by omega) (by have:(2:Int) ^ IntKind.i64.bits=18446744073709551616:=rfl;omega)
  rw[hm,if_neg]
  have h2:(2:Int) ^ (IntKind.i64.bits-1)=9223372036854775808:=rfl
  have h3:IntKind.i64.signed=true:=rfl
  rw[h2,h3]
  simp
  omega
def XL:dD:=λargs objs K=>match args with
 | [a0,.int .i64 p]=>dZ aB a0 (HK.mk:HK λn=>(DK n)∧(-2000≤p∧p≤2000)∧K (.int .i64 (A7 n p)) objs 0)
 | _=>False
theorem ab3:aC Tryz.prog 100 (XL):=by
 intro args objs K h
 unfold XL at h
 split at h
 ·rename_i a0 p
  obtain⟨n,rfl,h1,h2,hk⟩:=h
  exact⟨_,_,_,.pure _ rfl (adH n p h1 h2),hk⟩
 ·exact h.elim
theorem Sl(a b:Nd)(ha:DK a)(hb:DK b):ai Tryz.prog 79 [aB a,aB b] [] (.int .i64 (jM a b)) []:=by
 refine Fq.pure (T:=aR Tryz.prog [(100,XL)]) 0 hD (aj (af ab3 ah)) aV (by decide) ?_
 (conv=>arg 4;cbv);simp (maxSteps:=400000) only[↓aS,aT,BEq.rfl,seval]
 refine aN _ (Weak.freeze 1 0 (Nat.le_refl _) _) ?_
 cases hx:a.neg<;>cases hy:b.neg
 all_goals simp (maxSteps:=400000) only[↓aS,aT,BEq.rfl,seval,abE,abF,hx,hy]
 case false.true=>simp[jM,hx,hy]
 case true.false=>simp[jM,hx,hy]
 all_goals
  have b1:-2000≤lY a b∧lY a b≤2000:=by obtain⟨a1,a2,a3,a4⟩:=ha;obtain⟨b1,b2,b3,b4⟩:=hb;unfold lY;split<;>omega
  have b2:-1000≤kV a b∧kV a b≤1000:=by obtain⟨a1,a2,a3,a4⟩:=ha;obtain⟨b1,b2,b3,b4⟩:=hb;unfold kV;split<;>omega
  have l1:=ha.len
  have l2:=hb.len
  have e1:=ha.lo
  have e2:=ha.hi
  have e3:=hb.lo
  have e4:=hb.hi
  refine⟨⟨by omega,by omega⟩,⟨by omega,by omega⟩,?_⟩
  refine aF (λm S=>∃p:Int,(m:Int)=(if 0≤p-kV a b+1 then p-kV a b+1 else 0)∧p≤lY a b∧-2000≤p∧
   (nU a b (lY a b-kV a b+1).toNat (lY a b)=nU a b (p-kV a b+1).toNat p)∧
   S=⟨dG 56 [(2,.addr (aB a)),(3,.addr (aB b)),(5,.int .i64 (if a.neg=true then -1 else 1)),(7,.int .i64 p)],[]⟩) (lY a b-kV a b+1).toNat ⟨lY a b,?_,Int.le_refl _,by omega,rfl,?_⟩ ?_
  ·split<;>omega
  ·simp only[bN,keepR,Nat.reduceAdd,lJ,Nat.reduceBEq,hx,if_true,if_false,lY,Bool.false_eq_true]
  rintro m S ⟨p,hm,hp1,hp2,hd,rfl⟩
  simp (maxSteps:=400000) only[↓aS,aT,BEq.rfl,seval,↓XL]
  refine⟨λhlow=>⟨ha,⟨by omega,by omega⟩,hb,⟨by omega,by omega⟩,λhlt=>?_,λhlt=>⟨λhgt=>?_,λhgt=>?_⟩⟩,λhlow=>?_⟩
  ·have hl:kV a b≤p:=hlow
   have e:(p-kV a b+1).toNat=(p-kV a b).toNat+1:=by omega
   rw[e]at hd
   simp only[nU,if_pos hlt]at hd
   simp only[jM,hd,hx,hy]
   simp
  ·have hl:kV a b≤p:=hlow
   have e:(p-kV a b+1).toNat=(p-kV a b).toNat+1:=by omega
   rw[e]at hd
   simp only[nU,if_neg hlt,if_pos hgt]at hd
   simp only[jM,hd,hx,hy]
   simp
  ·have hl:kV a b≤p:=hlow
   have e:(p-kV a b+1).toNat=(p-1-kV a b+1).toNat+1:=by omega
   rw[e]at hd
   simp only[nU,if_neg hlt,if_neg hgt]at hd
   rw[if_pos (by omega)]at hm
   refine⟨⟨by omega,by omega⟩,m-1,by omega,p-1,?_,by omega,by omega,hd,rfl⟩
   split<;>omega
  ·have hl:¬ kV a b≤p:=hlow
   have e:(p-kV a b+1).toNat=0:=by omega
   rw[e]at hd
   simp only[nU]at hd
   simp only[jM,hd,hx,hy]
   simp
def zJ:dD:=λargs objs K=>match args with
 | [a0,a1]=>dZ aB a0 (HK.mk:HK λa=>dZ aB a1 (HK.mk:HK λb=>(DK a)∧(DK b)∧K (.int .i64 (jM a b)) objs 0))
 | _=>False
theorem OT:aC Tryz.prog 79 (zJ):=by
 intro args objs K h
 unfold zJ at h
 split at h
 ·rename_i a0 a1
  obtain⟨a,rfl,b,rfl,h1,h2,hk⟩:=h
  exact⟨_,_,_,.pure _ rfl (Sl a b h1 h2),hk⟩
 ·exact h.elim
end Lp
namespace Lp
open Go Go.Proofs
theorem JO(x:Int):ai Tryz.prog 171 [.int .i64 x] [] (.bool false) []:=by
 refine Fs.pure (T:=aR Tryz.prog []) 0 hD (aj ah) aV (by decide) ?_
 (conv=>arg 4;cbv);simp only[↓Bq,Gf,↓CY,↓Af,↓CZ,Ag,↓nN,oh,jZ,fU,Fg,Nat.reduceAdd,Nat.reduceSub,sG,bS,Ik,Il]
 simp
def OU:dD:=λargs objs K=>∃x:Int,args=[.int .i64 x]∧K (.bool false) objs 0
theorem Vx:aC Tryz.prog 171 OU:=by
 rintro args objs K ⟨x,rfl,hk⟩
 exact⟨_,_,_,.pure _ rfl (JO x),hk⟩
theorem FK(x y:Int):ai Tryz.prog 145 [.int .i64 x,.int .i64 y] [] (.int .i64 (vL x y)) []:=by
 refine Bu.pure (T:=aR Tryz.prog [(171,OU)]) 0 hD (aj (af Vx ah)) aV (by decide) ?_
 (conv=>arg 4;cbv);simp only[↓Bq,Gf,↓CY,↓Af,↓CZ,Ag,↓nN,oh,jZ,fU,Fg,Nat.reduceAdd,Nat.reduceSub,sG,bS,caR,taR,OU,Nat.reduceBEq,BEq.rfl,cond_true,cond_false,sP,Ik,Il]
 refine⟨x,rfl,y,rfl,(λh=>by cases h),λ_=>⟨(λh=>by cases h),λ_=>⟨λh=>?_,λh=>⟨λh'=>?_,λh'=>?_⟩⟩⟩⟩
 ·rw[vL,if_pos (of_decide_eq_true h)]
 ·rw[vL,if_neg (of_decide_eq_false h),if_pos (of_decide_eq_true h')]
 ·rw[vL,if_neg (of_decide_eq_false h),if_neg (of_decide_eq_false h')]
theorem JP(x:List UInt8):ai Tryz.prog 173 [.str x] [] (.bool false) []:=by
 refine Ai.pure (T:=aR Tryz.prog []) 0 hD (aj ah) aV (by decide) ?_
 (conv=>arg 4;cbv);simp only[↓Bq,Gf,↓CY,↓Af,↓CZ,Ag,↓nN,oh,jZ,fU,Fg,Nat.reduceAdd,Nat.reduceSub,sG,bS,Ik,jI]
 simp
def OV:dD:=λargs objs K=>∃x:List UInt8,args=[.str x]∧K (.bool false) objs 0
theorem Vy:aC Tryz.prog 173 OV:=by
 rintro args objs K ⟨x,rfl,hk⟩
 exact⟨_,_,_,.pure _ rfl (JP x),hk⟩
theorem u_(x y:List UInt8):ai Tryz.prog 147 [.str x,.str y] [] (.int .i64 (ko x y)) []:=by
 refine xJ.pure (T:=aR Tryz.prog [(173,OV)]) 0 hD (aj (af Vy ah)) aV (by decide) ?_
 (conv=>arg 4;cbv);simp only[↓Bq,Gf,↓CY,↓Af,↓CZ,Ag,↓nN,oh,jZ,fU,Fg,Nat.reduceAdd,Nat.reduceSub,sG,bS,caR,taR,OV,Nat.reduceBEq,BEq.rfl,cond_true,cond_false,sP,Ik,jI]
 refine⟨x,rfl,y,rfl,(λh=>by cases h),λ_=>⟨(λh=>by cases h),λ_=>⟨λh=>?_,λh=>⟨λh'=>?_,λh'=>?_⟩⟩⟩⟩
 ·rw[ko,if_pos h]
 ·rw[h,Bool.false_or]at h'
  have hne:x≠y:=by simpa using h'
  rw[ko,if_neg (by rw[h];simp),if_neg hne]
 ·rw[h,Bool.false_or]at h'
  have he:x=y:=by simpa using h'
  rw[ko,if_neg (by rw[h];simp),if_pos he]
end Lp
namespace Lp
open Go Go.Proofs
def OW:dD:=λargs objs K=>∃x y:List UInt8,args=[.str x,.str y]∧K (.int .i64 (ko x y)) objs 0
theorem Vz:aC Tryz.prog 147 OW:=by
 rintro args objs K ⟨x,y,rfl,hk⟩
 exact⟨_,_,_,.pure _ rfl (u_ x y),hk⟩
theorem BP(a b:List (List UInt8))(ha:a.length≤9223372036854775807)(_hb:b.length≤9223372036854775807) :
  ai Tryz.prog 148 [jQ a,jQ b] [] (.int .i64 (fG ko a b)) []:=by
 refine ni.pure (T:=aR Tryz.prog [(147,OW)]) 0 hD (aj (af Vz ah)) aV (by decide) ?_
 (conv=>arg 4;cbv);simp only[↓Bq,Gf,↓CY,↓Af,↓CZ,Ag,↓nN,oh,jZ,fU,Fg,Nat.reduceAdd,Nat.reduceSub,sG,bS,eP,qZ,jQ,List.length_map,Ik,Il]
 refine aF (λm S=>∃i:Nat,m=a.length-i∧i≤a.length∧i≤b.length∧fG ko (a.drop i) (b.drop i)=fG ko a b∧
  S=⟨mkT 36 [(0,jQ a),(1,jQ b),(9,jQ a),(10,.int .i64 a.length),(11,.int .i64 i)],[]⟩) a.length ⟨0,rfl,Nat.zero_le _,Nat.zero_le _,rfl,?_⟩ ?_
 ·simp only[Uq,jQ,sG];rfl
 rintro m S ⟨i,rfl,hi,hib,hlex,rfl⟩
 simp only[↓Bq,Gf,↓CY,↓Af,↓CZ,Ag,↓nN,oh,jZ,fU,Fg,Nat.reduceAdd,Nat.reduceSub,sG,Uq,bS,caR,taR,OW,Nat.reduceBEq,BEq.rfl,cond_true,cond_false,eP,qZ,jQ,Ik,Il,yo,List.length_map,bC,fQ,↓AU,KH,G8,ne_eq,reduceCtorEq,not_false_eq_true,true_and,PV.bool.injEq,Int.toNat_natCast,List.length_cons,List.length_nil]
 refine⟨λh=>?_,λh=>?_⟩
 ·have hlt:i<a.length:=by have:=of_decide_eq_true h;omega
  rw[List.drop_eq_getElem_cons hlt]at hlex
  refine⟨by omega,a[i],List.getElem?_eq_getElem hlt,λhge=>?_,λhgl=>?_⟩
  ·have hbe:b.length≤i:=by have:=of_decide_eq_true hge;omega
   rw[List.drop_eq_nil_of_le hbe]at hlex
   rw[←hlex];rfl
  ·have hbl:i<b.length:=by have:=of_decide_eq_false hgl;omega
   rw[List.drop_eq_getElem_cons hbl]at hlex
   refine⟨by omega,b[i],List.getElem?_eq_getElem hbl,a[i],b[i],rfl,λhne=>?_,λheq=>⟨by omega,a.length-(i+1),by omega,i+1,rfl,by omega,by omega,?_,rfl⟩⟩
   ·have hne':ko a[i] b[i]≠0:=by simpa using hne
    rw[←hlex,fG,if_neg hne']
   ·have heq':ko a[i] b[i]=0:=by simpa using heq
    rw[←hlex,fG,if_pos heq']
 ·rw[if_pos trivial]
  have hge:a.length≤i:=by have:=of_decide_eq_false h;omega
  rw[List.drop_eq_nil_of_le hge]at hlex
  refine⟨λhl=>?_,λhl=>?_⟩
  ·have hl':i<b.length:=by have:=of_decide_eq_true hl;omega
   rw[List.drop_eq_getElem_cons hl']at hlex
   rw[←hlex];rfl
  ·have hl':b.length≤i:=by have:=of_decide_eq_false hl;omega
   rw[List.drop_eq_nil_of_le hl']at hlex
   rw[←hlex];rfl
end Lp
namespace Lp
open Go Go.Proofs
def afG(a b:List Vl)(f:Vl→Vl→Int):dD:=λargs objs K=>∃x y:Vl,(x∈a∧y∈b)∧args=[aJ x,aJ y]∧K (.int .i64 (f x y)) objs 0
theorem adI(a b:List Vl)(g:FuncId)(f:Vl→Vl→Int)(hg:∀x∈a,∀y∈b,ai Tryz.prog g [aJ x,aJ y] [] (.int .i64 (f x y)) []):aC Tryz.prog g (afG a b f):=by
 rintro args objs K ⟨x,y,⟨hx,hy⟩,rfl,hk⟩
 exact⟨_,_,_,.pure _ rfl (hg x hx y hy),hk⟩
theorem wD(a b:List Vl)(g:FuncId)(f:Vl→Vl→Int)(ha:a.length≤9223372036854775807)(hg:∀x∈a,∀y∈b,ai Tryz.prog g [aJ x,aJ y] [] (.int .i64 (f x y)) []) :
  ai Tryz.prog 150 [iq a,iq b,.fn g [] []] [] (.int .i64 (fG f a b)) []:=by
 refine gK.pure (T:=aR Tryz.prog [(g,afG a b f)]) 0 hD (aj (af (adI a b g f hg) ah)) aV (by decide) ?_
 (conv=>arg 4;cbv);simp only[↓Bq,Gf,↓CY,↓Af,↓CZ,Ag,↓nN,oh,jZ,fU,Fg,Nat.reduceAdd,Nat.reduceSub,sG,bS,eP,qZ,iq,List.length_map,Ik,Il]
 refine aF (λm S=>∃i:Nat,m=a.length-i∧i≤a.length∧i≤b.length∧fG f (a.drop i) (b.drop i)=fG f a b∧
  S=⟨mkT 39 [(0,iq a),(1,iq b),(2,.fn g [] []),(11,iq a),(12,.int .i64 a.length),(13,.int .i64 i)],[]⟩) a.length ⟨0,rfl,Nat.zero_le _,Nat.zero_le _,rfl,?_⟩ ?_
 ·simp only[Uq,iq,sG];rfl
 rintro m S ⟨i,rfl,hi,hib,hlex,rfl⟩
 simp only[↓Bq,Gf,↓CY,↓Af,↓CZ,Ag,↓nN,oh,jZ,fU,Fg,Nat.reduceAdd,Nat.reduceSub,sG,Uq,bS,caR,taR,afG,Nat.reduceBEq,BEq.rfl,cond_true,cond_false,eP,qZ,iq,Ik,Il,yo,List.length_map,bC,fQ,↓AU,KH,G8,ne_eq,reduceCtorEq,not_false_eq_true,true_and,PV.bool.injEq,Int.toNat_natCast,List.length_cons,List.length_nil]
 refine⟨λh=>?_,λh=>?_⟩
 ·have hlt:i<a.length:=by have:=of_decide_eq_true h;omega
  rw[List.drop_eq_getElem_cons hlt]at hlex
  refine⟨by omega,a[i],List.getElem?_eq_getElem hlt,rfl,rfl,λhge=>?_,λhgl=>?_⟩
  ·have hbe:b.length≤i:=by have:=of_decide_eq_true hge;omega
   rw[List.drop_eq_nil_of_le hbe]at hlex
   rw[←hlex];rfl
  ·have hbl:i<b.length:=by have:=of_decide_eq_false hgl;omega
   rw[List.drop_eq_getElem_cons hbl]at hlex
   refine⟨by omega,b[i],List.getElem?_eq_getElem hbl,rfl,rfl,a[i],b[i],⟨List.getElem_mem _,List.getElem_mem _⟩,rfl,λhne=>?_,λheq=>⟨by omega,a.length-(i+1),by omega,i+1,rfl,by omega,by omega,?_,rfl⟩⟩
   ·have hne':f a[i] b[i]≠0:=by simpa using hne
    rw[←hlex,fG,if_neg hne']
   ·have heq':f a[i] b[i]=0:=by simpa using heq
    rw[←hlex,fG,if_pos heq']
 ·rw[if_pos trivial]
  have hge:a.length≤i:=by have:=of_decide_eq_false h;omega
  rw[List.drop_eq_nil_of_le hge]at hlex
  refine⟨λhl=>?_,λhl=>?_⟩
  ·have hl':i<b.length:=by have:=of_decide_eq_true hl;omega
   rw[List.drop_eq_getElem_cons hl']at hlex
   rw[←hlex];rfl
  ·have hl':b.length≤i:=by have:=of_decide_eq_false hl;omega
   rw[List.drop_eq_nil_of_le hl']at hlex
   rw[←hlex];rfl
end Lp
namespace Lp
open Go Go.Proofs
def zL:dD:=λargs objs K=>match args with
 | [.int .i64 x,.int .i64 y]=>K (.int .i64 (vL x y)) objs 0
 | _=>False
theorem JQ:aC Tryz.prog 145 (zL):=by
 intro args objs K h
 unfold zL at h
 split at h
 ·rename_i x y
  have hk:=h
  exact⟨_,_,_,.pure _ rfl (FK x y),hk⟩
 ·exact h.elim
def zM:dD:=λargs objs K=>match args with
 | [.str x,.str y]=>K (.int .i64 (ko x y)) objs 0
 | _=>False
theorem JR:aC Tryz.prog 147 (zM):=by
 intro args objs K h
 unfold zM at h
 split at h
 ·rename_i x y
  have hk:=h
  exact⟨_,_,_,.pure _ rfl (u_ x y),hk⟩
 ·exact h.elim
theorem ZC(a b:Nd)(ha:a.s.length≤1000000)(hb:b.s.length≤1000000)(hae:-1000≤a.e∧a.e≤1000)(hbe:-1000≤b.e∧b.e≤1000):ai Tryz.prog 172 [aB a,aB b] [] (.int .i64 (qh a b)) []:=by
 refine UX.pure (T:=aR Tryz.prog [(145,zL),(147,zM)]) 0 hD (aj (af JQ (af JR ah))) aV (by decide) ?_
 (conv=>arg 4;cbv);simp (maxSteps:=400000) only[↓aS,aT,BEq.rfl,seval]
 refine aN _ (Weak.freeze 1 0 (Nat.le_refl _) _) ?_
 simp (maxSteps:=400000) only[↓aS,aT,BEq.rfl,seval,abE,abF,↓zL,↓zM]
 refine⟨λh=>?_,λh=>⟨λh'=>?_,λh'=>⟨⟨by omega,by omega⟩,⟨by omega,by omega⟩,λh0=>?_,λh0=>?_⟩⟩⟩
 ·rw[qh,if_pos (.inl h)]
 ·rw[qh,if_pos (.inr h')]
 ·rw[qh,if_neg (by simp[h,h']),if_pos h0]
 ·rw[qh,if_neg (by simp[h,h']),if_neg h0]
def okN(n:Nd):Prop:=n.s.length≤1000000∧-1000≤n.e∧n.e≤1000
def Iw:dD:=λargs objs K=>match args with
 | [a0,a1]=>dZ aB a0 (HK.mk:HK λa=>dZ aB a1 (HK.mk:HK λb=>(okN a)∧(okN b)∧K (.int .i64 (qh a b)) objs 0))
 | _=>False
theorem VA:aC Tryz.prog 172 (Iw):=by
 intro args objs K h
 unfold Iw at h
 split at h
 ·rename_i a0 a1
  obtain⟨a,rfl,b,rfl,h1,h2,hk⟩:=h
  exact⟨_,_,_,.pure _ rfl (ZC a b h1.1 h2.1 h1.2 h2.2),hk⟩
 ·exact h.elim
theorem Sn(a b:Nd)(ha:okN a)(hb:okN b):ai Tryz.prog 146 [aB a,aB b] [] (.int .i64 (Yd a b)) []:=by
 refine Y6.pure (T:=aR Tryz.prog [(172,Iw)]) 0 hD (aj (af VA ah)) aV (by decide) ?_
 (conv=>arg 4;cbv);simp (maxSteps:=400000) only[↓aS,aT,BEq.rfl,seval]
 refine aN _ (Weak.freeze 1 0 (Nat.le_refl _) _) ?_
 simp (maxSteps:=400000) only[↓aS,aT,BEq.rfl,seval,abE,abF,↓Iw]
 cases hx:a.neg<;>cases hy:b.neg
 all_goals simp only[ifR,Yd,hx,hy,Bool.not_true,Bool.not_false,reduceIte,Bool.and_true,Bool.and_false,Bool.and_self,Bool.false_eq_true,ha,hb]
 all_goals exact⟨trivial,trivial,trivial⟩
def zN:dD:=λargs objs K=>match args with
 | [a0,a1]=>dZ aB a0 (HK.mk:HK λa=>dZ aB a1 (HK.mk:HK λb=>(okN a)∧(okN b)∧K (.int .i64 (Yd a b)) objs 0))
 | _=>False
theorem OX:aC Tryz.prog 146 (zN):=by
 intro args objs K h
 unfold zN at h
 split at h
 ·rename_i a0 a1
  obtain⟨a,rfl,b,rfl,h1,h2,hk⟩:=h
  exact⟨_,_,_,.pure _ rfl (Sn a b h1 h2),hk⟩
 ·exact h.elim
end Lp
namespace Lp
open Go Go.Proofs
theorem Sq(v:Vl)(hl:v.length≤1099511627776)(ho:One v):ai Tryz.prog 151 [aJ v] [] (iq (aG v)) []:=by
 cases v with
 | nil=>exact absurd rfl ho.ne
 | cons n r=>
  obtain⟨hm,ps,h1,_,_⟩:=ho.parts
  have:=U3 (n::r) n r ps rfl hl hm h1
  rw[aG,iq,(fq h1).1,List.map_map]
  exact this
theorem Sr(v:Vl)(hl:v.length≤1099511627776)(ho:One v):ai Tryz.prog 149 [aJ v] [] (jQ (cu v)) []:=by
 cases v with
 | nil=>exact absurd rfl ho.ne
 | cons n r=>
  obtain⟨hm,ps,h1,_,_⟩:=ho.parts
  have:=U4 (n::r) n r ps rfl hl hm h1
  rw[NF]at this
  rw[cu,jQ,(fq h1).2]
  exact this
def DL:dD:=λargs objs K=>match args with
 | [a0]=>dZ aJ a0 (HK.mk:HK λv=>(v.length≤1099511627776)∧(One v)∧K (iq (aG v)) objs 0)
 | _=>False
theorem Sv:aC Tryz.prog 151 (DL):=by
 intro args objs K h
 unfold DL at h
 split at h
 ·rename_i a0
  obtain⟨v,rfl,h1,h2,hk⟩:=h
  exact⟨_,_,_,.pure _ rfl (Sq v h1 h2),hk⟩
 ·exact h.elim
def DN:dD:=λargs objs K=>match args with
 | [a0]=>dZ aJ a0 (HK.mk:HK λv=>(v.length≤1099511627776)∧(One v)∧K (jQ (cu v)) objs 0)
 | _=>False
theorem Sw:aC Tryz.prog 149 (DN):=by
 intro args objs K h
 unfold DN at h
 split at h
 ·rename_i a0
  obtain⟨v,rfl,h1,h2,hk⟩:=h
  exact⟨_,_,_,.pure _ rfl (Sr v h1 h2),hk⟩
 ·exact h.elim
end Lp
namespace Lp
open Go Go.Proofs
def OY:dD:=λargs objs K=>match args with
 | [a0,a1]=>dZ jQ a0 (HK.mk:HK λa=>dZ jQ a1 (HK.mk:HK λb=>(a.length≤9223372036854775807)∧(b.length≤9223372036854775807)∧K (.int .i64 (fG ko a b)) objs 0))
 | _=>False
theorem ZE:aC Tryz.prog 148 (OY):=by
 intro args objs K h
 unfold OY at h
 split at h
 ·rename_i a0 a1
  obtain⟨a,rfl,b,rfl,h1,h2,hk⟩:=h
  exact⟨_,_,_,.pure _ rfl (BP a b h1 h2),hk⟩
 ·exact h.elim
def XM(f:Nat):dD:=λargs objs K=>match args with
 | [a0,a1,a2]=>dZ iq a0 (HK.mk:HK λx=>dZ iq a1 (HK.mk:HK λy=>a2=(.fn 128 [] [])∧(x.length≤9223372036854775807)∧(∀p∈x,∀q∈y,ai Tryz.prog 128 [aJ p,aJ q] [] (.int .i64 (uz f p q)) [])∧K (.int .i64 (fG (uz f) x y)) objs 0))
 | _=>False
theorem ab4(f:Nat):aC Tryz.prog 150 (XM f):=by
 intro args objs K h
 unfold XM at h
 split at h
 ·rename_i a0 a1 a2
  obtain⟨x,rfl,y,rfl,rfl,h1,h2,hk⟩:=h
  exact⟨_,_,_,.pure _ rfl (wD x y _ _ h1 h2),hk⟩
 ·exact h.elim
structure Ok (v:Vl):Prop where
 one:One v
 len:v.length≤1099511627776
 all:∀n∈v,okN n
theorem Ok.parts {v:Vl}(h:Ok v):(aG v).length≤1099511627776∧(cu v).length≤1099511627776∧∀p∈aG v,Ok p∧p.length+1≤v.length:=by
 cases v with
 | nil=>exact absurd rfl h.one.ne
 | cons n r=>
  obtain⟨hm,ps,h1,h2,h3⟩:=h.one.parts
  have hpl:=fu _ _ _ h1
  have hpn:=bD _ _ _ h1
  have hlen:=h.len
  simp only[List.length_cons]at hlen
  refine⟨?_,?_,?_⟩
  ·rw[aG,(fq h1).1,List.length_map];omega
  ·rw[cu];split
   ·rw[(fq h1).2,List.length_map];omega
   ·simp
  ·intro p hp
   rw[aG,(fq h1).1]at hp
   obtain⟨q,hq,rfl⟩:=List.mem_map.1 hp
   have hql:=mr hq
   rw[h2]at hql
   refine⟨⟨(h3 q hq).ic,by rw[fH];omega,?_⟩,by rw[fH,List.length_cons];omega⟩
   have hin:∀x∈q,okN x:=λx hx=>h.all x (List.mem_cons_of_mem _ (by rw[←h2];exact List.mem_flatten.2 ⟨q,hq,hx⟩))
   intro x hx
   cases q with
   | nil=>cases hx
   | cons m s=>
    rcases List.mem_cons.1 hx with rfl | hx
    ·exact hin m (List.mem_cons_self ..)
    ·exact hin x (List.mem_cons_of_mem _ hx)
theorem A8:∀(f:Nat) (a b:Vl),a.length≤f→Ok a→Ok b→ai Tryz.prog 128 [aJ a,aJ b] [] (.int .i64 (uz f a b)) []
 | 0,a,b,h,ha,_=>by have:=ha.one.ne;cases a<;>simp at h this
 | f+1,[],b,_,ha,_=>absurd rfl ha.one.ne
 | f+1,n::r,[],_,_,hb=>absurd rfl hb.one.ne
 | f+1,n::r,m::q,h,ha,hb=>by
  have hpa:=ha.parts
  have hpb:=hb.parts
  have ih:∀p∈aG (n::r),∀p'∈aG (m::q),ai Tryz.prog 128 [aJ p,aJ p'] [] (.int .i64 (uz f p p')) []:=
   λp hp p' hp'=>A8 f p p' (by have:=(hpa.2.2 p hp).2;omega) (hpa.2.2 p hp).1 (hpb.2.2 p' hp').1
  refine Rl.pure (T:=aR Tryz.prog [(145,zL),(146,zN),(147,zM),(148,OY),(149,DN),(151,DL),(150,(XM f))]) 0 hD (aj (af JQ (af OX (af JR (af ZE (af Sw (af Sv (af (ab4 f) ah)))))))) aV (by decide) ?_
  (conv=>arg 4;cbv);simp (maxSteps:=400000) only[↓aS,aT,BEq.rfl,seval,↓zL,↓zN,↓zM,↓OY,↓DN,↓DL,↓XM]
  have e1:okN n:=ha.all n (List.mem_cons_self ..)
  have e2:okN m:=hb.all m (List.mem_cons_self ..)
  have l1:r.length≤1099511627775:=by have:=ha.len;simp only[List.length_cons]at this;omega
  have l2:q.length≤1099511627775:=by have:=hb.len;simp only[List.length_cons]at this;omega
  have l3:(aG (n::r)).length≤9223372036854775807:=by have:=hpa.1;omega
  have l4:(cu (n::r)).length≤9223372036854775807:=by have:=hpa.2.1;omega
  have l5:(cu (m::q)).length≤9223372036854775807:=by have:=hpb.2.1;omega
  refine⟨λhk=>?_,λhk=>?_⟩
  ·have hk:n.kind=m.kind:=(qJ.zero _ _ trivial trivial).1 hk
   have k0:¬ (n.kind≠m.kind):=λh=>h hk
   refine⟨λh3=>⟨e1,e2,?_⟩,λh3=>⟨λh4=>?_,λh4=>⟨λh6=>⟨l1,ha.one,l2,hb.one,l4,l5,λhl=>⟨l1,ha.one,l2,hb.one,l3,ih,?_⟩,λhl=>?_⟩,λh6=>⟨λh5=>⟨l1,ha.one,l2,hb.one,l3,ih,?_⟩,λh5=>?_⟩⟩⟩⟩
   ·simp only[uz,iH,if_neg k0,if_pos h3]
   ·simp only[uz,iH,if_neg k0,if_neg h3,if_pos h4]
   ·have h5:¬ n.kind=5:=by omega
    have h6':m.kind=6:=by omega
    simp only[cu,if_pos h6,if_pos h6']at hl
    simp only[uz,iH,if_neg k0,if_neg h3,if_neg h4,if_neg h5,if_pos h6,if_pos hl,aG]
   ·have h5:¬ n.kind=5:=by omega
    have h6':m.kind=6:=by omega
    simp only[cu,if_pos h6,if_pos h6']at hl ⊢
    simp only[uz,iH,if_neg k0,if_neg h3,if_neg h4,if_neg h5,if_pos h6,if_neg hl]
   ·simp only[uz,iH,if_neg k0,if_neg h3,if_neg h4,if_pos h5,aG]
   ·simp only[uz,iH,if_neg k0,if_neg h3,if_neg h4,if_neg h5,if_neg h6]
  ·have hk':n.kind≠m.kind:=λh=>hk ((qJ.zero _ _ trivial trivial).2 h)
   simp only[uz,iH,if_pos hk']
def zO(f:Nat):dD:=λargs objs K=>match args with
 | [a0,a1]=>dZ aJ a0 (HK.mk:HK λa=>dZ aJ a1 (HK.mk:HK λb=>(a.length≤f)∧(Ok a)∧(Ok b)∧K (.int .i64 (uz f a b)) objs 0))
 | _=>False
theorem OZ(f:Nat):aC Tryz.prog 128 (zO f):=by
 intro args objs K h
 unfold zO at h
 split at h
 ·rename_i a0 a1
  obtain⟨a,rfl,b,rfl,h1,h2,h3,hk⟩:=h
  exact⟨_,_,_,.pure _ rfl (A8 f a b h1 h2 h3),hk⟩
 ·exact h.elim
end Lp
namespace Lp
open Go Go.Proofs
def Gu(a b:Bool):Int:=if b then 0 else if a then -1 else 1
theorem ZF(a b:Bool):ai Tryz.prog 78 [.bool a,.bool b] [] (.int .i64 (Gu a b)) []:=by
 refine C_.aX (T:=aR Tryz.prog []) 0 hD (aj ah) aV (by decide) λQ hQ=>?_
 cases a<;>cases b
 all_goals (conv=>arg 4;cbv);simp (maxSteps:=400000) only[↓aS,aT,BEq.rfl,seval,hQ,Gu]
def iC:dD:=λargs objs K=>match args with
 | [.bool a,.bool b]=>K (.int .i64 (Gu a b)) objs 0
 | _=>False
theorem BQ:aC Tryz.prog 78 (iC):=by
 intro args objs K h
 unfold iC at h
 split at h
 ·rename_i a b
  have hk:=h
  exact⟨_,_,_,.pure _ rfl (ZF a b),hk⟩
 ·exact h.elim
theorem Nh{α:Type}(f:α→α→Int)(a b:List α)(h:a=[]∨b=[]):fG f a b=Gu (decide ((a.length:Int)<b.length)) (decide ((a.length:Int)=b.length)):=by
 rcases h with rfl | rfl
 ·cases b with
  | nil=>rfl
  | cons y ys=>
   have h1:decide ((([]:List α).length:Int)<((y::ys).length:Int))=true:=by simp<;>omega
   have h2:decide ((([]:List α).length:Int)=((y::ys).length:Int))=false:=by simp<;>omega
   rw[h1,h2];rfl
 ·cases a with
  | nil=>rfl
  | cons y ys=>
   have h1:decide (((y::ys).length:Int)<(([]:List α).length:Int))=false:=by simp<;>omega
   have h2:decide (((y::ys).length:Int)=(([]:List α).length:Int))=false:=by simp<;>omega
   rw[h1,h2];rfl
theorem Lh(a b:List (List UInt8))(ha:a.length≤1000000)(hb:b.length≤1000000):ai Tryz.prog 81 [jQ a,jQ b] [] (.int .i64 (fG ko a b)) []:=by
 refine Bw.aX (T:=aR Tryz.prog [(78,iC)]) 0 hD (aj (af BQ ah)) aV (by decide) λQ hQ=>?_
 (conv=>arg 4;cbv);simp (maxSteps:=400000) only[↓aS,aT,BEq.rfl,seval,hQ]
 refine aF (λm S=>∃i:Nat,i+m=a.length∧i≤b.length∧fG ko (a.drop i) (b.drop i)=fG ko a b∧S=⟨dG 48 [(0,jQ a),(1,jQ b),(5,.int .i64 i)],[]⟩) a.length ⟨0,by omega,by omega,rfl,?_⟩ ?_
 ·simp only[bN,keepR,Nat.reduceAdd,lJ,Nat.reduceBEq,List.map_nil]
  rfl
 rintro m S ⟨i,him,hib,hlx,rfl⟩
 have zi:(0≤(i:Int))=True:=eq_true (by omega)
 have fin:a.length≤i∨b.length≤i→fG ko a b=Gu (decide ((a.length:Int)<b.length)) (decide ((a.length:Int)=b.length)):=by
  intro h
  rw[←hlx,Nh]
  ·simp only[List.length_drop]
   congr 1
   ·exact decide_eq_decide.2 (by omega)
   ·exact decide_eq_decide.2 (by omega)
  ·rcases h with h | h
   ·exact .inl (List.drop_eq_nil_of_le h)
   ·exact .inr (List.drop_eq_nil_of_le h)
 rcases Nat.lt_or_ge i a.length with h | h
 rotate_left 1
 ·have hlt:((i:Int)<(a.length:Int))=False:=eq_false (by omega)
  simp (maxSteps:=400000) only[↓aS,aT,BEq.rfl,seval,hQ,hlt,↓iC]
  rw[fin (.inl h)]
 have hlt:((i:Int)<(a.length:Int))=True:=eq_true (by omega)
 rcases Nat.lt_or_ge i b.length with h' | h'
 rotate_left 1
 ·have hlt2:((i:Int)<(b.length:Int))=False:=eq_false (by omega)
  simp (maxSteps:=400000) only[↓aS,aT,BEq.rfl,seval,hQ,hlt,hlt2,↓iC]
  rw[fin (.inr h')]
 have hlt2:((i:Int)<(b.length:Int))=True:=eq_true (by omega)
 have ga:=List.getElem?_eq_getElem h
 have gb:=List.getElem?_eq_getElem h'
 have da:=List.drop_eq_getElem_cons h
 have db:=List.drop_eq_getElem_cons h'
 generalize a[i]=x at ga da
 generalize b[i]=y at gb db
 rw[da,db,fG]at hlx
 by_cases hxy:x=y
 ·subst hxy
  rw[if_pos ((EP.zero _ _ trivial trivial).2 rfl)]at hlx
  simp (maxSteps:=400000) only[↓aS,aT,BEq.rfl,seval,hQ,hlt,hlt2,zi,ga,gb,↓iC]
  exact⟨⟨by omega,by omega⟩,m-1,by omega,i+1,by omega,by omega,hlx,by simp⟩
 ·have hne:ko x y≠0:=λh=>hxy ((EP.zero _ _ trivial trivial).1 h)
  rw[if_neg hne]at hlx
  simp (maxSteps:=400000) only[↓aS,aT,BEq.rfl,seval,hQ,hlt,hlt2,zi,ga,gb,hxy,↓iC]
  rw[←hlx]
  rcases kX x y with ⟨h1,e1⟩ | ⟨h1,_⟩ | ⟨h1,e1⟩
  ·rw[e1,h1];rfl
  ·exact absurd h1 hxy
  ·rw[e1,ny _ _ h1];rfl
def tq:dD:=λargs objs K=>match args with
 | [a0,a1]=>dZ jQ a0 (HK.mk:HK λa=>dZ jQ a1 (HK.mk:HK λb=>(a.length≤1000000)∧(b.length≤1000000)∧K (.int .i64 (fG ko a b)) objs 0))
 | _=>False
theorem JS:aC Tryz.prog 81 (tq):=by
 intro args objs K h
 unfold tq at h
 split at h
 ·rename_i a0 a1
  obtain⟨a,rfl,b,rfl,h1,h2,hk⟩:=h
  exact⟨_,_,_,.pure _ rfl (Lh a b h1 h2),hk⟩
 ·exact h.elim
def DR(f:Vl→Vl→Int):dD:=λargs objs K=>match args with
 | [a0,a1]=>dZ aJ a0 (HK.mk:HK λp=>dZ aJ a1 (HK.mk:HK λq=>(ai Tryz.prog 51 [aJ p,aJ q] [] (.int .i64 (f p q)) [])∧K (.int .i64 (f p q)) objs 0))
 | _=>False
theorem VB(f:Vl→Vl→Int):aC Tryz.prog 51 (DR f):=by
 intro args objs K h
 unfold DR at h
 split at h
 ·rename_i a0 a1
  obtain⟨p,rfl,q,rfl,h1,hk⟩:=h
  exact⟨_,_,_,.pure _ rfl (h1),hk⟩
 ·exact h.elim
theorem O0(f:Vl→Vl→Int)(a b:List Vl)(ha:a.length≤1000000)(hb:b.length≤1000000)(hf:∀p∈a,∀q∈b,ai Tryz.prog 51 [aJ p,aJ q] [] (.int .i64 (f p q)) []):ai Tryz.prog 80 [iq a,iq b] [] (.int .i64 (fG f a b)) []:=by
 refine Da.aX (T:=aR Tryz.prog [(51,(DR f)),(78,iC)]) 0 hD (aj (af (VB f) (af BQ ah))) aV (by decide) λQ hQ=>?_
 (conv=>arg 4;cbv);simp (maxSteps:=400000) only[↓aS,aT,BEq.rfl,seval,hQ]
 refine aF (λm S=>∃i:Nat,i+m=a.length∧i≤b.length∧fG f (a.drop i) (b.drop i)=fG f a b∧S=⟨dG 42 [(0,iq a),(1,iq b),(5,.int .i64 i)],[]⟩) a.length ⟨0,by omega,by omega,rfl,?_⟩ ?_
 ·simp only[bN,keepR,Nat.reduceAdd,lJ,Nat.reduceBEq,List.map_nil]
  rfl
 rintro m S ⟨i,him,hib,hlx,rfl⟩
 have zi:(0≤(i:Int))=True:=eq_true (by omega)
 have fin:a.length≤i∨b.length≤i→fG f a b=Gu (decide ((a.length:Int)<b.length)) (decide ((a.length:Int)=b.length)):=by
  intro h
  rw[←hlx,Nh]
  ·simp only[List.length_drop]
   congr 1
   ·exact decide_eq_decide.2 (by omega)
   ·exact decide_eq_decide.2 (by omega)
  ·rcases h with h | h
   ·exact .inl (List.drop_eq_nil_of_le h)
   ·exact .inr (List.drop_eq_nil_of_le h)
 rcases Nat.lt_or_ge i a.length with h | h
 rotate_left 1
 ·have hlt:((i:Int)<(a.length:Int))=False:=eq_false (by omega)
  simp (maxSteps:=400000) only[↓aS,aT,BEq.rfl,seval,hQ,hlt,↓iC]
  rw[fin (.inl h)]
 have hlt:((i:Int)<(a.length:Int))=True:=eq_true (by omega)
 rcases Nat.lt_or_ge i b.length with h' | h'
 rotate_left 1
 ·have hlt2:((i:Int)<(b.length:Int))=False:=eq_false (by omega)
  simp (maxSteps:=400000) only[↓aS,aT,BEq.rfl,seval,hQ,hlt,hlt2,↓iC]
  rw[fin (.inr h')]
 have hlt2:((i:Int)<(b.length:Int))=True:=eq_true (by omega)
 have ga:=List.getElem?_eq_getElem h
 have gb:=List.getElem?_eq_getElem h'
 have da:=List.drop_eq_getElem_cons h
 have db:=List.drop_eq_getElem_cons h'
 have hfx:=hf _ (List.getElem_mem h) _ (List.getElem_mem h')
 generalize a[i]=x at ga da hfx
 generalize b[i]=y at gb db hfx
 rw[da,db,fG]at hlx
 by_cases hxy:f x y=0
 ·rw[if_pos hxy]at hlx
  simp (maxSteps:=400000) only[↓aS,aT,BEq.rfl,seval,hQ,hlt,hlt2,zi,ga,gb,hxy,↓iC,↓DR]
  exact⟨by rw[←hxy];exact hfx,⟨by omega,by omega⟩,m-1,by omega,i+1,by omega,by omega,hlx,by simp⟩
 ·rw[if_neg hxy]at hlx
  simp (maxSteps:=400000) only[↓aS,aT,BEq.rfl,seval,hQ,hlt,hlt2,zi,ga,gb,hxy,↓iC,↓DR]
  exact⟨hfx,by rw[hlx]⟩
end Lp
namespace Lp
open Go Go.Proofs
structure Ok2 (v:Vl):Prop where
 one:One v
 len:v.length≤1000000
 all:∀n∈v,n.kind=3→DK n
theorem Ok2.parts {v:Vl}(h:Ok2 v):(aG v).length≤1000000∧(cu v).length≤1000000∧∀p∈aG v,Ok2 p∧p.length+1≤v.length:=by
 cases v with
 | nil=>exact absurd rfl h.one.ne
 | cons n r=>
  obtain⟨hm,ps,h1,h2,h3⟩:=h.one.parts
  have hpl:=fu _ _ _ h1
  have hpn:=bD _ _ _ h1
  have hlen:=h.len
  simp only[List.length_cons]at hlen
  refine⟨?_,?_,?_⟩
  ·rw[aG,(fq h1).1,List.length_map];omega
  ·rw[cu];split
   ·rw[(fq h1).2,List.length_map];omega
   ·simp
  ·intro p hp
   rw[aG,(fq h1).1]at hp
   obtain⟨q,hq,rfl⟩:=List.mem_map.1 hp
   have hql:=mr hq
   rw[h2]at hql
   refine⟨⟨(h3 q hq).ic,by rw[fH];omega,?_⟩,by rw[fH,List.length_cons];omega⟩
   have hin:∀x∈q,x.kind=3→DK x:=λx hx=>h.all x (List.mem_cons_of_mem _ (by rw[←h2];exact List.mem_flatten.2 ⟨q,hq,hx⟩))
   intro x hx
   cases q with
   | nil=>cases hx
   | cons m s=>
    rcases List.mem_cons.1 hx with rfl | hx
    ·intro hk
     have:=hin m (List.mem_cons_self ..) hk
     exact⟨this.len,this.gT,this.lo,this.hi⟩
    ·exact hin x (List.mem_cons_of_mem _ hx)
def DT(f:Vl→Vl→Int):dD:=λargs objs K=>match args with
 | [a0,a1]=>dZ iq a0 (HK.mk:HK λx=>dZ iq a1 (HK.mk:HK λy=>(x.length≤1000000)∧(y.length≤1000000)∧(∀p∈x,∀q∈y,ai Tryz.prog 51 [aJ p,aJ q] [] (.int .i64 (f p q)) [])∧K (.int .i64 (fG f x y)) objs 0))
 | _=>False
theorem VD(f:Vl→Vl→Int):aC Tryz.prog 80 (DT f):=by
 intro args objs K h
 unfold DT at h
 split at h
 ·rename_i a0 a1
  obtain⟨x,rfl,y,rfl,h1,h2,h3,hk⟩:=h
  exact⟨_,_,_,.pure _ rfl (O0 f x y h1 h2 h3),hk⟩
 ·exact h.elim
theorem JU{a b a' b':Nd}(h1:∀p,A7 a p=A7 a' p)(h2:∀p,A7 b p=A7 b' p):∀(k:Nat) (p:Int),nU a b k p=nU a' b' k p
 | 0,_=>rfl
 | k+1,p=>by simp only[nU,h1,h2,JU h1 h2 k]
theorem VE(n m:Nd)(k l:Int)(x y:List UInt8):jM { n with kind:=k,name:=x } { m with kind:=l,name:=y }=jM n m:=by
 have hd:∀(j:Nat) (p:Int),nU { n with kind:=k,name:=x } { m with kind:=l,name:=y } j p=nU n m j p:=JU (λ_=>rfl) (λ_=>rfl)
 simp only[jM,hd]
 rfl
theorem DU:∀(f:Nat) (a b:Vl),a.length≤f→Ok2 a→Ok2 b→ai Tryz.prog 51 [aJ a,aJ b] [] (.int .i64 (iH jM f a b)) []
 | 0,a,b,h,ha,_=>by have:=ha.one.ne;cases a<;>simp at h this
 | f+1,[],b,_,ha,_=>absurd rfl ha.one.ne
 | f+1,n::r,[],_,_,hb=>absurd rfl hb.one.ne
 | f+1,n::r,m::q,h,ha,hb=>by
  have hpa:=ha.parts
  have hpb:=hb.parts
  have ih:∀p∈aG (n::r),∀p'∈aG (m::q),ai Tryz.prog 51 [aJ p,aJ p'] [] (.int .i64 (iH jM f p p')) []:=
   λp hp p' hp'=>DU f p p' (by have:=(hpa.2.2 p hp).2;omega) (hpa.2.2 p hp).1 (hpb.2.2 p' hp').1
  have l1:=ha.len
  have l2:=hb.len
  have o1:=ha.one
  have o2:=hb.one
  generalize hA:n::r=A at *
  generalize hB:m::q=B at *
  have ga:A[0]?=some n:=by rw[←hA];rfl
  have gb:B[0]?=some m:=by rw[←hB];rfl
  have na:=ha.all n (by rw[←hA];exact List.mem_cons_self ..)
  have nb:=hb.all m (by rw[←hB];exact List.mem_cons_self ..)
  have pA:aG A=partsOf n r:=by rw[←hA];rfl
  have pB:aG B=partsOf m q:=by rw[←hB];rfl
  have sA:cu A=if n.kind=6 then vM n r else []:=by rw[←hA];rfl
  have sB:cu B=if m.kind=6 then vM m q else []:=by rw[←hB];rfl
  have res:iH jM (f+1) A B=iH jM (f+1) (n::r) (m::q):=by rw[hA,hB]
  refine Fj.aX (T:=aR Tryz.prog [(78,iC),(79,zJ),(42,bB),(82,kI),(81,tq),(80,(DT (iH jM f)))]) 0 hD (aj (af BQ (af OT (af lq (af uZ (af JS (af (VD (iH jM f)) ah))))))) aV (by decide) λQ hQ=>?_
  by_cases hk:n.kind=m.kind
  rotate_left 1
  ·(conv=>arg 4;cbv);simp (maxSteps:=400000) only[↓aS,aT,BEq.rfl,seval,hQ,ga,gb,hk,↓iC]
   have:iH jM (f+1) A B=Gu (decide (n.kind<m.kind)) false:=by
    rw[res]
    simp only[iH,ne_eq,hk,not_false_eq_true,if_true,vL,Gu,decide_eq_true_eq,Bool.false_eq_true,if_false]
    split
    ·rfl
    ·rw[if_pos (by omega)]
   rw[this]
  by_cases h3:n.kind=3
  ·have h3':m.kind=3:=by omega
   have e3:iH jM (f+1) A B=jM n m:=by
    rw[res];simp[iH,hk,h3']
   (conv=>arg 4;cbv);simp (maxSteps:=400000) only[↓aS,aT,BEq.rfl,seval,hQ,ga,gb,h3,h3',↓iC,↓zJ,Int.reduceEq,bT,bU]
   refine⟨by decide,?_,?_,?_⟩
   ·have:=na h3;exact⟨this.len,this.gT,this.lo,this.hi⟩
   ·have:=nb h3';exact⟨this.len,this.gT,this.lo,this.hi⟩
   ·rw[e3];exact congrArg _ (VE n m 3 3 [] []).symm
  by_cases h4:n.kind=4
  ·have h4':m.kind=4:=by omega
   (conv=>arg 4;cbv);simp (maxSteps:=400000) only[↓aS,aT,BEq.rfl,seval,hQ,ga,gb,h4,h4',↓iC,Int.reduceEq]
   have e4:iH jM (f+1) A B=ko n.s m.s:=by
    rw[res];simp[iH,hk,h4']
   rw[e4]
   rcases kX n.s m.s with ⟨g1,e1⟩ | ⟨g1,e1⟩ | ⟨g1,e1⟩
   ·have:n.s≠m.s:=λhh=>by rw[hh,fw]at g1;cases g1
    rw[e1,g1,decide_eq_false this];rfl
   ·rw[e1,decide_eq_true g1];rfl
   ·have:n.s≠m.s:=λhh=>by rw[hh,fw]at g1;cases g1
    rw[e1,decide_eq_false this,ny _ _ g1];rfl
  by_cases h5:n.kind=5
  ·have h5':m.kind=5:=by omega
   (conv=>arg 4;cbv);simp (maxSteps:=400000) only[↓aS,aT,BEq.rfl,seval,hQ,ga,gb,h5,h5',↓iC,Int.reduceEq,↓bB,↓DT]
   have e5:iH jM (f+1) A B=fG (iH jM f) (aG A) (aG B):=by
    rw[res,pA,pB];simp[iH,hk,h5']
   exact⟨o1,l1,o2,l2,hpa.1,hpb.1,ih,by rw[e5]⟩
  by_cases h6:n.kind=6
  ·have h6':m.kind=6:=by omega
   (conv=>arg 4;cbv);simp (maxSteps:=400000) only[↓aS,aT,BEq.rfl,seval,hQ,ga,gb,h6,h6',↓iC,Int.reduceEq,↓bB,↓DT,↓kI,↓tq]
   have e6:iH jM (f+1) A B=if fG ko (cu A) (cu B)=0 then fG (iH jM f) (aG A) (aG B) else fG ko (cu A) (cu B):=by
    rw[res,pA,pB,sA,sB,if_pos h6,if_pos h6'];simp[iH,hk,h6']
   refine⟨o1,l1,o2,l2,hpa.2.1,hpb.2.1,λhz=>⟨o1,l1,o2,l2,hpa.1,hpb.1,ih,?_⟩,λhz=>?_⟩
   ·rw[e6,if_pos hz]
   ·rw[e6,if_neg hz]
  ·have e0:iH jM (f+1) A B=0:=by
     rw[res];simp only[iH,hk,ne_eq,not_true_eq_false,if_false,hk ▸ h3,hk ▸ h4,hk ▸ h5,hk ▸ h6]
   (conv=>arg 4;cbv);simp (maxSteps:=400000) only[↓aS,aT,BEq.rfl,seval,hQ,ga,gb,hk ▸ h3,hk ▸ h4,hk ▸ h5,hk ▸ h6,hk,↓iC,e0]
def o7(f:Nat):dD:=λargs objs K=>match args with
 | [a0,a1]=>dZ aJ a0 (HK.mk:HK λa=>dZ aJ a1 (HK.mk:HK λb=>(a.length≤f)∧(Ok2 a)∧(Ok2 b)∧K (.int .i64 (iH jM f a b)) objs 0))
 | _=>False
theorem BR(f:Nat):aC Tryz.prog 51 (o7 f):=by
 intro args objs K h
 unfold o7 at h
 split at h
 ·rename_i a0 a1
  obtain⟨a,rfl,b,rfl,h1,h2,h3,hk⟩:=h
  exact⟨_,_,_,.pure _ rfl (DU f a b h1 h2 h3),hk⟩
 ·exact h.elim
end Lp
namespace Lp
open Go
theorem O1{v:Vl}(h:dI v=true):∀n∈v,bR n=true:=by
 have hg:=(uF h).good
 intro n hn
 obtain⟨i,hi,rfl⟩:=List.getElem_of_mem hn
 exact (hg i v[i] (v.drop (i+1)) (List.drop_eq_getElem_cons hi)).1
theorem rP{n:Nd}(h:bR n=true)(hk:n.kind=3):tN n=true:=by
 rw[bR,if_neg (by omega),if_pos hk]at h
 exact h
theorem XO{n:Nd}(h:tN n=true):DK n:=by
 have:=(pR n).1 h
 exact⟨by omega,this.2.1,by omega,by omega⟩
theorem ZG{n:Nd}(h:bR n=true)(hs:n.s.length≤1000000):okN n:=by
 refine⟨hs,?_⟩
 by_cases h3:n.kind=3
 ·have:=XO (rP h h3)
  exact⟨this.lo,this.hi⟩
 ·have he:n.e=0:=by
    unfold bR at h
    split at h
    ·simp only[Bool.and_eq_true,beq_iff_eq]at h;exact h.2
    ·split at h
     ·simp only[Bool.and_eq_true,beq_iff_eq]at h;exact h.2
     ·split at h
      ·simp only[Bool.and_eq_true,beq_iff_eq]at h;exact h.2
      ·cases h
  omega
structure ag2 (v:Vl) (k:Nat):Prop where
 len:v.length≤k
 rt:Rt v
 ok:Ok v
 ok2:Ok2 v
end Lp
