/-
  Part 4 of what the statement rests on: LpU2, LpX, LpUse, LpRes, LpE0, LpTA0, LpC7, LpC8, LpW1, LpW2, LpW3, LpW4, LpW8, LpW14, LpW15, LpW16, LpW17, LpW18, LpW19, LpW20, LpW23, LpW30, LpD1, LpD2, LpV5, LpLay, LpLib, LpD4, LpX1, LpTA1, LpTA2, LpTA3, LpTA3s, LpTA3t, LpTA4, LpW13, LpW5, LpW6, LpW7. No condition.
-/
import Derived.Test.YtgfdogdnlgfcpaaGreatDoorLp3
import Derived.Deep.Slices
import Derived.ChangeShapes
import Derived.SizedLaws
import Derived.Deep.DeepHandedRow
import Derived.JoinedOf
import Derived.Below
import Derived.Carry
import Derived.ChangeOld
import Derived.RowKit
import Derived.OpenShut
import Derived.Lib.ValidLaws
import Derived.Shelf.Strings.FuncGrows
import Derived.Lib.TrimByte
import Derived.Shelf.SlGeneric
import Derived.Ground.NamesProg
import Derived.Ground.Names8Prog
import Derived.Shelf.Strings.Trim
import Derived.Shelf.Sort.Plain
import Derived.Shelf.Slices.In.SortNone
import Derived.Shelf.Unicode.ValidAny
import Derived.Shelf.Spec.SlicesGrow
import Derived.Shelf.Strings.Repeat
import Derived.Test.YtgfdogdnlgfcpaaGreatDoorProg

set_option linter.all false
set_option maxHeartbeats 8000000
set_option maxRecDepth 100000
namespace Lp
open Go Go.Proofs
def lX (l:List (List UInt8)):PV:=.sl 1 (l.map .str) none
def lY (l:List Vl):PV:=.sl 1 (l.map aM) none
def encI (l:List Int):PV:=.sl 1 (l.map (.int .i64)) none
def M_ (l:List (List Int)):PV:=.sl 1 (l.map encI) none
theorem hV:∀ l,aM l=.sl 6 (l.map av) none:=fun _=>rfl
theorem hT:∀ l,lX l=.sl 1 (l.map .str) none:=fun _=>rfl
theorem hL:∀ l,lY l=.sl 1 (l.map aM) none:=fun _=>rfl
theorem hI:∀ l,encI l=.sl 1 (l.map (.int .i64)) none:=fun _=>rfl
theorem hG:∀ l,M_ l=.sl 1 (l.map encI) none:=fun _=>rfl
theorem vH:∀ a b,av a=av b→a=b:=by
 intro a b h
 cases a;cases b
 simp only [av,PV.agg.injEq,List.cons.injEq,PV.int.injEq,PV.str.injEq,PV.bool.injEq,true_and,and_true] at h
 obtain ⟨rfl,rfl,rfl,rfl,rfl,rfl⟩:=h
 rfl
theorem vI:∀ a b,aM a=aM b→a=b:=ni hV vH
theorem Ay:∀ a b,lX a=lX b→a=b:=ni hT fun _ _ h=>by injection h
theorem vJ:∀ a b,encI a=encI b→a=b:=ni hI fun _ _ h=>by injection h
theorem Az:∀ a b,lY a=lY b→a=b:=ni hL vI
theorem AA:∀ a b,M_ a=M_ b→a=b:=ni hG vJ
theorem ZP (objs:List Obj) (K:KT) :
  (∀ n,aI D 27 (.addr (av n)) 0 objs K=K (.addr (.int .i64 n.kind)) objs 0)∧
  (∀ n,aI D 27 (.addr (av n)) 1 objs K=K (.addr (.int .i64 n.many)) objs 0)∧
  (∀ n,aI D 27 (.addr (av n)) 2 objs K=K (.addr (.str n.name)) objs 0)∧
  (∀ n,aI D 27 (.addr (av n)) 3 objs K=K (.addr (.str n.s)) objs 0)∧
  (∀ n,aI D 27 (.addr (av n)) 4 objs K=K (.addr (.bool n.neg)) objs 0)∧
  (∀ n,aI D 27 (.addr (av n)) 5 objs K=K (.addr (.int .i64 n.e)) objs 0):=by
 refine ⟨fun n=>?_,fun n=>?_,fun n=>?_,fun n=>?_,fun n=>?_,fun n=>?_⟩
 all_goals
  simp only [av,aI,dX,bL,↓Ke,G7,sZ,qm,Eu,GH,ne_eq,reduceCtorEq,not_false_eq_true,true_and,Bool.not_false,Bool.and_self,Nat.reduceAdd,Nat.reduceLeDiff,forall_const]
theorem ZQ :
  (∀ n,(av n).cells=[.int .i64 n.kind,.int .i64 n.many,.str n.name,.str n.s,.bool n.neg,.int .i64 n.e])∧
  (∀ n,(av n).isAgg=true)∧(∀ n,(av n).pure=true)∧(∀ d m O n,fJ d m O (av n)=av n)∧(∀ d m O n,gG d m O (av n)=av n):=
 ⟨fun _=>rfl,fun _=>rfl,fun _=>rfl,fun _ _ _ _=>rfl,fun _ _ _ _=>rfl⟩
theorem Wy (a b:Nd):zU Tryz.prog 27 (av a).cells (av b).cells:=
 YO (by kernel_rfl) (by kernel_rfl) (by kernel_rfl) (by
  have h:(Tryz.prog.fieldsOf 27).toList.map (fun f=>(f.name != "_",f.offset,Tryz.prog.underlying f.type))=[(true,0,some (.int .i64)),(true,1,some (.int .i64)),(true,2,some .string),(true,3,some .string),(true,4,some .bool),(true,5,some (.int .i64))]:=by kernel_rfl
  generalize (Tryz.prog.fieldsOf 27).toList=fs at h
  obtain _ | ⟨f0,_ | ⟨f1,_ | ⟨f2,_ | ⟨f3,_ | ⟨f4,_ | ⟨f5,_ | ⟨f6,fr⟩⟩⟩⟩⟩⟩⟩:=fs
  all_goals simp only [List.map_cons,List.map_nil,List.cons.injEq,Prod.mk.injEq,and_true,reduceCtorEq,and_false] at h
  obtain ⟨⟨a0,b0,c0⟩,⟨a1,b1,c1⟩,⟨a2,b2,c2⟩,⟨a3,b3,c3⟩,⟨a4,b4,c4⟩,⟨a5,b5,c5⟩⟩:=h
  simp only [vF,Uc,av,PV.cells,a0,b0,c0,a1,b1,c1,a2,b2,c2,a3,b3,c3,a4,b4,c4,a5,b5,c5,Bool.and_true,BEq.rfl,decide_true,Nat.zero_add,Nat.reduceAdd])
theorem abX (a b:Nd):xB (av a).cells (av b).cells=some (decide (a=b)):=by
 cases a;cases b
 simp only [av,PV.cells,xB,X4,if_true,Bool.and_true,Nd.mk.injEq,Option.some.injEq]
 rw [Bool.eq_iff_iff]
 simp
theorem WA (ti:aB) (K:PV→Prop) :
  (∀ a b,nN Tryz.prog ti 27 .eql (av a) (av b) K=K (.bool (decide (a=b))))∧
  (∀ a b,nN Tryz.prog ti 27 .neq (av a) (av b) K=K (.bool (!decide (a=b))))∧
  (∀ a k m x y g e,nN Tryz.prog ti 27 .eql (av a) (.agg [.int .i64 k,.int .i64 m,.str x,.str y,.bool g,.int .i64 e]) K=K (.bool (decide (a=⟨k,m,x,y,g,e⟩)))):=by
 have h:∀ a b,nN Tryz.prog ti 27 .eql (av a) (av b) K=K (.bool (decide (a=b))):=fun a b=>by
  show (zU Tryz.prog 27 (av a).cells (av b).cells∧∃ r,xB (av a).cells (av b).cells=some r∧K (.bool r))=_
  rw [abX]
  simp [Wy]
 refine ⟨h,fun a b=>?_,fun a k m x y g e=>h a ⟨k,m,x,y,g,e⟩⟩
 show (zU Tryz.prog 27 (av a).cells (av b).cells∧∃ r,xB (av a).cells (av b).cells=some r∧K (.bool (!r)))=_
 rw [abX]
 simp [Wy]
theorem ZR (n:Nd) :
  (∀ x,(av n).putCells 0 [.int .i64 x]=av { n with kind:=x })∧(∀ x,(av n).putCells 1 [.int .i64 x]=av { n with many:=x })∧
  (∀ x,(av n).putCells 2 [.str x]=av { n with name:=x })∧(∀ x,(av n).putCells 3 [.str x]=av { n with s:=x })∧
  (∀ x,(av n).putCells 4 [.bool x]=av { n with neg:=x })∧(∀ x,(av n).putCells 5 [.int .i64 x]=av { n with e:=x }):=
 ⟨fun _=>rfl,fun _=>rfl,fun _=>rfl,fun _=>rfl,fun _=>rfl,fun _=>rfl⟩
theorem ZT (k m:Int) (x y:List UInt8) (g:Bool) (e:Int):PV.agg [.int .i64 k,.int .i64 m,.str x,.str y,.bool g,.int .i64 e]=av ⟨k,m,x,y,g,e⟩:=rfl
theorem ZU (objs:List Obj) (K:KT) :
  (∀ k,bD D 27 [(0,.int .i64 k)] objs K=K (av ⟨k,0,[],[],false,0⟩) objs 0)∧
  (∀ k m,bD D 27 [(0,.int .i64 k),(1,.int .i64 m)] objs K=K (av ⟨k,m,[],[],false,0⟩) objs 0)∧
  (∀ k s,bD D 27 [(0,.int .i64 k),(3,.str s)] objs K=K (av ⟨k,0,[],s,false,0⟩) objs 0)∧
  (∀ k s g e,bD D 27 [(0,.int .i64 k),(3,.str s),(4,.bool g),(5,.int .i64 e)] objs K=K (av ⟨k,0,[],s,g,e⟩) objs 0):=by
 have z:aF (D 27)=av ⟨0,0,[],[],false,0⟩:=by kernel_rfl
 have a:(D 27).agg=true:=by kernel_rfl
 simp only [bL] at z a
 refine ⟨fun k=>?_,fun k m=>?_,fun k s=>?_,fun k s g e=>?_⟩
 all_goals
  simp [bD,kR,a,z,bL,lJ,av,PV.isAgg,pE,PV.cells,PV.storable,PV.kW,PV.pure]
theorem ZV :
  (∀ n0,PV.sl 6 [av n0] none=aM [n0])∧
  (∀ n0 n1,PV.sl 6 [av n0,av n1] none=aM [n0,n1])∧
  (∀ n0 n1 n2,PV.sl 6 [av n0,av n1,av n2] none=aM [n0,n1,n2])∧
  (∀ s0,PV.sl 1 [PV.str s0] none=lX [s0])∧
  (∀ s0 s1,PV.sl 1 [PV.str s0,PV.str s1] none=lX [s0,s1])∧
  (∀ s0 s1 s2,PV.sl 1 [PV.str s0,PV.str s1,PV.str s2] none=lX [s0,s1,s2])∧
  (∀ i0,PV.sl 1 [PV.int .i64 i0] none=encI [i0])∧
  (∀ i0 i1,PV.sl 1 [PV.int .i64 i0,PV.int .i64 i1] none=encI [i0,i1])∧
  (∀ i0 i1 i2,PV.sl 1 [PV.int .i64 i0,PV.int .i64 i1,PV.int .i64 i2] none=encI [i0,i1,i2])∧
  (∀ v0,PV.sl 1 [aM v0] none=lY [v0])∧
  (∀ v0 v1,PV.sl 1 [aM v0,aM v1] none=lY [v0,v1])∧
  (∀ v0 v1 v2,PV.sl 1 [aM v0,aM v1,aM v2] none=lY [v0,v1,v2])∧
  (∀ g0,PV.sl 1 [encI g0] none=M_ [g0])∧
  (∀ g0 g1,PV.sl 1 [encI g0,encI g1] none=M_ [g0,g1])∧
  (∀ g0 g1 g2,PV.sl 1 [encI g0,encI g1,encI g2] none=M_ [g0,g1,g2]):=
 ⟨fun _=>rfl,fun _ _=>rfl,fun _ _ _=>rfl,fun _=>rfl,fun _ _=>rfl,fun _ _ _=>rfl,fun _=>rfl,fun _ _=>rfl,fun _ _ _=>rfl,fun _=>rfl,fun _ _=>rfl,fun _ _ _=>rfl,fun _=>rfl,fun _ _=>rfl,fun _ _ _=>rfl⟩
theorem inN:uE av:=by intro d n o x;cases d <;> rfl
theorem inV:uE aM:=by intro d n o x;cases d <;> rfl
theorem inS:uE PV.str:=by intro d n o x;cases d <;> rfl
theorem inI:uE (PV.int .i64):=by intro d n o x;cases d <;> rfl
theorem inG:uE encI:=by intro d n o x;cases d <;> rfl
theorem abY :
  type_of% (jA hV)∧
  type_of% (jA hT)∧
  type_of% (jA hL)∧
  type_of% (jA hI)∧
  type_of% (jA hG)∧
  type_of% (aL vH)∧
  type_of% (aL vI)∧
  type_of% (aL Ay)∧
  type_of% (aL Az)∧
  type_of% (aL vJ)∧
  type_of% (aL AA):=
 ⟨jA hV,jA hT,jA hL,jA hI,jA hG,aL vH,aL vI,aL Ay,aL Az,aL vJ,aL AA⟩
theorem ZW :
  type_of% (ZP)∧
  type_of% (ZQ)∧
  type_of% (WA)∧
  type_of% (ZR)∧
  type_of% (ZT)∧
  type_of% (ZU)∧
  type_of% (ZV)∧
  type_of% (rz hV)∧
  type_of% (rz hT)∧
  type_of% (rz hL)∧
  type_of% (rz hI)∧
  type_of% (rz hG)∧
  type_of% (jA hV)∧
  type_of% (jA hT)∧
  type_of% (jA hL)∧
  type_of% (jA hI)∧
  type_of% (jA hG)∧
  type_of% (rC hV)∧
  type_of% (rC hT)∧
  type_of% (rC hL)∧
  type_of% (rC hI)∧
  type_of% (rC hG)∧
  type_of% (aL vH)∧
  type_of% (aL vI)∧
  type_of% (aL Ay)∧
  type_of% (aL Az)∧
  type_of% (aL vJ)∧
  type_of% (aL AA)∧
  type_of% (iJ hV inN)∧
  type_of% (iJ hT inS)∧
  type_of% (iJ hL inV)∧
  type_of% (iJ hI inI)∧
  type_of% (iJ hG inG)∧
  type_of% (qG (enc:=av) (sz:=6) (fun _=>rfl) (fun _=>rfl))∧
  type_of% (qG (enc:=aM) (sz:=1) (fun _=>rfl) (fun _=>rfl))∧
  type_of% (qG (enc:=PV.str) (sz:=1) (fun _=>rfl) (fun _=>rfl))∧
  type_of% (qG (enc:=(PV.int .i64)) (sz:=1) (fun _=>rfl) (fun _=>rfl))∧
  type_of% (qG (enc:=encI) (sz:=1) (fun _=>rfl) (fun _=>rfl))∧
  type_of% (qG (enc:=PV.bool) (sz:=1) (fun _=>rfl) (fun _=>rfl))∧
  type_of% (fun (l:Vl) (k:Nat)=>Ji (aM l) rfl k)∧
  type_of% (fun (l:List (List UInt8)) (k:Nat)=>Ji (lX l) rfl k)∧
  type_of% (fun (l:List Vl) (k:Nat)=>Ji (lY l) rfl k)∧
  type_of% (fun (l:List Int) (k:Nat)=>Ji (encI l) rfl k)∧
  type_of% (fun (l:List (List Int)) (k:Nat)=>Ji (M_ l) rfl k)∧
  type_of% (fun (z:Nat) (xs:List PV) (q:Option Bool) (k:Nat)=>Ji (.sl z xs q) rfl k):=
 ⟨ZP,ZQ,WA,ZR,ZT,ZU,ZV,rz hV,rz hT,rz hL,rz hI,rz hG,jA hV,jA hT,jA hL,jA hI,jA hG,rC hV,rC hT,rC hL,rC hI,rC hG,aL vH,aL vI,aL Ay,aL Az,aL vJ,aL AA,iJ hV inN,iJ hT inS,iJ hL inV,iJ hI inI,iJ hG inG,qG (enc:=av) (sz:=6) (fun _=>rfl) (fun _=>rfl),qG (enc:=aM) (sz:=1) (fun _=>rfl) (fun _=>rfl),qG (enc:=PV.str) (sz:=1) (fun _=>rfl) (fun _=>rfl),qG (enc:=(PV.int .i64)) (sz:=1) (fun _=>rfl) (fun _=>rfl),qG (enc:=encI) (sz:=1) (fun _=>rfl) (fun _=>rfl),qG (enc:=PV.bool) (sz:=1) (fun _=>rfl) (fun _=>rfl),fun (l:Vl) (k:Nat)=>Ji (aM l) rfl k,fun (l:List (List UInt8)) (k:Nat)=>Ji (lX l) rfl k,fun (l:List Vl) (k:Nat)=>Ji (lY l) rfl k,fun (l:List Int) (k:Nat)=>Ji (encI l) rfl k,fun (l:List (List Int)) (k:Nat)=>Ji (M_ l) rfl k,fun (z:Nat) (xs:List PV) (q:Option Bool) (k:Nat)=>Ji (.sl z xs q) rfl k⟩
theorem aN:type_of% @abU∧type_of% @abY∧type_of% @abV:=⟨@abU,@abY,@abV⟩
theorem aO:type_of% @ZM∧type_of% @ZN∧type_of% @ZW∧type_of% bL∧type_of% @abW:=⟨@ZM,@ZN,@ZW,bL,@abW⟩
end Lp
namespace Lp
open Go
open List (append_nil mem_append)
def Rd (P:Program) (t:TypeId){α:Type}(enc:α→PV) (good:α→Prop):Prop:=
 ∀ {H:Type}(eh:TypeId×Value→H) (w:World) (fuel:Nat) (cs:List Value) (x:DataW H×List MemPlace),DataW.trod eh P w 0 (fun _=>true) true fuel t cs=some x→
  (∀ n ∈ DataW.weights P t x.1,n≤reachBytes)→∃ a:α,good a∧cu (dA w (fun _=>True)) (enc a).cells cs
variable {P:Program}
theorem rD {R:PV→Value→Prop}{p:PV}{v:Value}(h:R p v):cu R [p] [v]:=
 ⟨rfl,fun i q u h1 h2=>by
  cases i with
  | zero=>simp at h1 h2;subst h1;subst h2;exact h
  | succ i=>simp at h1⟩
theorem Rd.int {t:TypeId}{k:IntKind}(ht:P.underlying t=some (.int k)):Rd P t (.int k) (GK k):=by
 intro H eh w fuel cs x h _
 obtain ⟨n,rfl,rfl,hw⟩:=DataW.trod_int ht h
 refine ⟨n,?_,rD (.int k n)⟩
 simp only [Lit.wf,Bool.and_eq_true,decide_eq_true_eq] at hw
 cases k <;> simp only [IntKind.min,IntKind.max,IntKind.signed,IntKind.bits,GK] at hw ⊢ <;> first | exact ⟨by simpa using hw.1,by simpa using hw.2⟩ | (simp at hw;omega)
theorem Rd.bool {t:TypeId}(ht:P.underlying t=some .bool):Rd P t PV.bool (fun _=>True):=by
 intro H eh w fuel cs x h _
 obtain ⟨b,rfl,rfl⟩:=DataW.trod_bool ht h
 exact ⟨b,trivial,rD (.bool b)⟩
theorem Rd.str {t:TypeId}(ht:P.underlying t=some .string):Rd P t PV.str (fun s=>s.length≤reachBytes):=by
 intro H eh w fuel cs x h hw
 obtain ⟨s,rfl,rfl,_⟩:=DataW.trod_string ht h
 refine ⟨s.data.toList,hw _ ?_,rD (JL w _ s)⟩
 rw [DataW.weights];simp
theorem Rd.slice {t e:TypeId}{α:Type} [Inhabited α] {enc:α→PV}{good:α→Prop}{sz:Nat}(ht:P.underlying t=some (.slice e)) (he:Rd P e enc good) (hsz:P.cellsOf e=sz) (hpos:sz≠0) (hc:∀ a,(enc a).cells.length=sz) :
  Rd P t (fun l:List α=>.sl sz (l.map enc) none) (fun l=>l.length*P.bytesOf e≤reachBytes∧∀ a ∈ l,good a):=by
 intro H eh w fuel cs x h hw
 rcases Go.Deep.open_slice ht h with ⟨rfl,rfl⟩ | ⟨a,len,cap,m,n,D,Pl,rfl,hb,hl,hm,hmm,rfl,hx⟩
 · exact ⟨[],by simp,rD (.slnil _ _ (by simp))⟩
 · simp only [if_true] at hmm
   subst hmm
   have hwt:∀ i,i<len→∀ n ∈ DataW.weights P e (D i),n≤reachBytes:=by
    intro i hi n hn
    refine hw n ?_
    rw [DataW.weights,ht]
    simp only [List.mem_cons,mem_append]
    right;left
    have key:∀ (l:List (DataW H)) d,d ∈ l→n ∈ DataW.weights P e d→n ∈ DataW.weightsAll P e l:=by
     intro l
     induction l with
     | nil=>intro d hd;cases hd
     | cons y ys ih=>
      intro d hd hn
      rw [DataW.weightsAll,mem_append]
      rcases List.mem_cons.1 hd with rfl | hd
      · exact .inl hn
      · exact .inr (ih d hd hn)
    exact key _ (D i) (List.mem_map.2 ⟨i,List.mem_range.2 hi,rfl⟩) hn
   have hlen:(len:Nat)*P.bytesOf e≤reachBytes:=by
    have:=hw ((((List.range len).map D).length+((List.range (m-len)).map fun j=>D (len+j)).length)*P.bytesOf e) (by rw [DataW.weights,ht];exact List.mem_cons_self)
    simp only [List.length_map,List.length_range] at this
    exact Nat.le_trans (Nat.mul_le_mul_right _ (by omega)) this
   obtain ⟨f,hf⟩:∃ f:Nat→α×List Value,∀ i,i<len→good (f i).1∧w.cells? 0 (a.add (i*P.cellsOf e)) (P.cellsOf e)=some (f i).2∧cu (dA w (fun _=>True)) (enc (f i).1).cells (f i).2:=by
    have hex:∀ i,i<len→∃ y:α×List Value,good y.1∧w.cells? 0 (a.add (i*P.cellsOf e)) (P.cellsOf e)=some y.2∧cu (dA w (fun _=>True)) (enc y.1).cells y.2:=by
     intro i hi
     obtain ⟨cs',h1,h2⟩:=hx i (by omega)
     obtain ⟨y,g1,g2⟩:=he eh w n cs' _ h2 (hwt i hi)
     exact ⟨(y,cs'),g1,h1,g2⟩
    exact Go.Deep.choose_lt hex
   rcases Nat.eq_zero_or_pos len with h0 | h0
   · subst h0
     exact ⟨[],by simp,rD (.JK _ _ (by simp) a m hm)⟩
   have hspot:a.spot=none:=by
    obtain ⟨_,h2,h3⟩:=hf 0 h0
    obtain ⟨_,g1,g2⟩:=World.cells?_some h2
    have:=g2 0 (by omega)
    rw [List.getElem?_eq_getElem (by omega)] at this
    have:=World.cell?_spot this
    simpa [Addr.add] using this
   obtain ⟨b,off,spot⟩:=a
   simp only at hspot
   subst hspot
   have hcells:∀ i,i<len→∀ j,j<sz→w.cell? ⟨b,off+i*sz+j,none⟩=(f i).2[j]?:=by
    intro i hi j hj
    obtain ⟨_,h2,_⟩:=hf i hi
    obtain ⟨_,_,g2⟩:=World.cells?_some h2
    have:=g2 j (by omega)
    rw [hsz,add_lit,add_lit] at this
    exact this
   have hget:∀ (i:Nat) (x:PV),(((List.range len).map fun i=>(f i).1).map enc)[i]?=some x→i<len∧x=enc (f i).1:=by
    intro i x hx
    have hi:i<len:=by
     have:=(List.getElem?_eq_some_iff.1 hx).1
     simpa using this
    rw [List.getElem?_map,List.getElem?_map,List.getElem?_range hi] at hx
    simp only [Option.map_some,Option.some.injEq] at hx
    exact ⟨hi,hx.symm⟩
   have hL:(((List.range len).map fun i=>(f i).1).map enc).length=len:=by simp
   refine ⟨(List.range len).map fun i=>(f i).1,⟨by simpa using hlen,fun y hy=>?_⟩,rD ?_⟩
   · obtain ⟨i,hi,rfl⟩:=List.mem_map.1 hy
     exact (hf i (List.mem_range.1 hi)).1
   · have:dA w (fun _=>True) (.sl sz (((List.range len).map fun i=>(f i).1).map enc) none) (.slice (some ⟨b,off,none⟩) (((List.range len).map fun i=>(f i).1).map enc).length m):=by
      refine .sl sz _ none (by simp) b off m (fun i j=>(f i).2.getD j undef) (fun _=>⟨trivial,?_⟩) (by rw [hL];exact hl) hm (fun i x hx=>?_) (fun i x j p hx hp=>?_) (fun i x j p hx hp=>?_)
      · have:=hcells 0 h0 0 (by omega)
        obtain ⟨_,h2,_⟩:=hf 0 h0
        obtain ⟨_,g1,_⟩:=World.cells?_some h2
        rw [List.getElem?_eq_getElem (by omega)] at this
        unfold World.cell? at this
        simp only at this
        cases hb':w.heap[b]? with
        | none=>rw [hb'] at this;simp at this
        | some o=>exact (Array.getElem?_eq_some_iff.1 hb').1
      · obtain ⟨_,rfl⟩:=hget i x hx
        exact hc _
      · obtain ⟨hi,rfl⟩:=hget i x hx
        have hj:j<sz:=by rw [← hc (f i).1];exact (List.getElem?_eq_some_iff.1 hp).1
        rw [hcells i hi j hj]
        obtain ⟨_,h2,_⟩:=hf i hi
        obtain ⟨_,g1,_⟩:=World.cells?_some h2
        rw [List.getD_eq_getElem?_getD,List.getElem?_eq_getElem (by omega)]
        rfl
      · obtain ⟨hi,rfl⟩:=hget i x hx
        have hj:j<sz:=by rw [← hc (f i).1];exact (List.getElem?_eq_some_iff.1 hp).1
        obtain ⟨_,h2,h3⟩:=hf i hi
        obtain ⟨_,g1,_⟩:=World.cells?_some h2
        exact h3.2 j p _ hp (by rw [List.getD_eq_getElem?_getD,List.getElem?_eq_getElem (by omega)];rfl)
     rw [hL] at this
     exact this
theorem uF {H:Type}{n:Nat}:∀ (ts:List TypeId) (ds:List (DataW H)) (i:Nat) (t:TypeId) (d:DataW H),ts[i]?=some t→ds[i]?=some d→n ∈ DataW.weights P t d→n ∈ DataW.weightsEach P ts ds
 | [],_,i,t,d,h,_,_=>by simp at h
 | _::_,[],i,t,d,_,h,_=>by simp at h
 | t'::ts,d'::ds,i,t,d,h1,h2,hn=>by
  rw [DataW.weightsEach,mem_append]
  cases i with
  | zero=>simp at h1 h2;subst h1;subst h2;exact .inl hn
  | succ i=>exact .inr (uF ts ds i t d (by simpa using h1) (by simpa using h2) hn)
theorem oL {H:Type}{eh:TypeId×Value→H}{w:World}{fuel:Nat}{t:TypeId}{fs:Array Field}{cs:List Value}{x:DataW H×List MemPlace}(ht:P.underlying t=some (.struct fs))
  (h:DataW.trod eh P w 0 (fun _=>true) true fuel t cs=some x) (hw:∀ n ∈ DataW.weights P t x.1,n≤reachBytes) :
  cs.length=P.cellsOf t∧∀ (i off:Nat) (e:TypeId),(fs.toList.map fun f=>(f.offset,f.type))[i]?=some (off,e)→∃ n y,DataW.trod eh P w 0 (fun _=>true) true n e ((cs.drop off).take (P.cellsOf e))=some y∧(∀ m ∈ DataW.weights P e y.1,m≤reachBytes):=by
 obtain ⟨xs,n,_,rfl,hl,hlen,hf⟩:=DataW.trod_struct ht h
 refine ⟨hl,fun i off e he=>?_⟩
 rw [List.getElem?_map] at he
 cases hfi:fs.toList[i]? with
 | none=>rw [hfi] at he;simp at he
 | some f=>
  rw [hfi] at he
  simp only [Option.map_some,Option.some.injEq,Prod.mk.injEq] at he
  obtain ⟨rfl,rfl⟩:=he
  have abZ:fs[i]?=some f:=by simpa using hfi
  have hi:i<xs.length:=by rw [hlen];exact (Array.getElem?_eq_some_iff.1 abZ).1
  have h1:=hf i f abZ
  rw [List.getElem?_eq_getElem hi] at h1
  refine ⟨n,xs[i],h1,fun m hm=>hw m ?_⟩
  rw [DataW.weights,ht]
  exact uF _ _ i f.type xs[i].1 (by rw [List.getElem?_map,hfi];rfl) (by rw [List.getElem?_map,List.getElem?_eq_getElem hi];rfl) hm
theorem yt {H:Type}{eh:TypeId×Value→H}(hl:laidOutB P=true){W W':World}(hb:∀ b,b<W.heap.size→W'.heap[b]?=W.heap[b]?) :
  ∀ (ts:List TypeId) (vs:List Value) (ds:List (DataW H)) (ps:List MemPlace),(∀ t ∈ ts,P.readableRec t=true∧t<P.types.size)→DataW.TrodAll eh P W 0 (fun _=>true) true ts vs ds ps→
   DataW.TrodAll eh P W' 0 (fun b=>decide (b<W.heap.size)) true ts vs ds ps
 | [],[],[],ps,_,h=>h
 | t::ts,v::vs,d::ds,ps,hr,⟨p,q,h1,h2,h3⟩=>by
  have hlt:∀ x ∈ p,x.block<W.heap.size:=by obtain ⟨m,hm⟩:=h1;exact DataW.trod_lt m _ _ _ hm
  refine ⟨p,q,Go.WideElems.Trod_stays hl (hr t (by simp)).1 (hr t (by simp)).2 h1 (fun x hx=>?_) (fun x hx=>by simpa using hlt x hx),yt hl hb ts vs ds q (fun t ht=>hr t (by simp [ht])) h2,h3⟩
  cases x with
  | cell b o=>exact World.cell?_of_block (w:=W) (hb b (hlt _ hx))
  | map b=>exact hb b (hlt _ hx)
 | [],_::_,_,_,_,h=>h.elim
 | [],[],_::_,_,_,h=>h.elim
 | _::_,[],_,_,_,h=>h.elim
 | _::_,_::_,[],_,_,h=>h.elim
theorem WB {C:Checked}{H:Type}{enc:TypeId×Value→H}{f:FuncId}{fn:Func}{s:ChangeSpec}{tb:TypeId}
  (hlaid:laidOutB C.prog=true) (hr:∀ t ∈ fn.params.toList,C.prog.readableRec t=true∧t<C.prog.types.size)
  (hres:fn.resultTypes.toList=[tb]) (hsz:fn.resultTypes.size=1) (hb:C.prog.underlying tb=some .bool)
  (hvars:s.vars=[]) (hpl:s.plain.varTypes C.prog=[]) (hs:∀ ds:List (DataW H),ds.length=fn.params.toList.length→s.fn H ds={ results:=[.lit (.bool true)],args:=ds })
  (hread:∀ (W:World) (base:Nat) (args:List Value) (ds:List (DataW H)) (ps:List MemPlace),(∀ (j:Nat) t v,fn.params[j]?=some t→args[j]?=some v→Value.okWide C.prog W .any base t v)→DataW.TrodAll enc C.prog W 0 (fun _=>true) true fn.params.toList args ds ps→(∀ n ∈ DataW.weightsEach C.prog fn.params.toList ds,n≤reachBytes)→
   ∃ pvs,cu (dA W (fun _=>True)) pvs args∧ai C.prog f pvs [] (.bool true) [])
  {W:World}{base:Nat}{args:Array Value}{ds gs:List (DataW H)}{before:List MemPlace}(hg:qQ.holds W.heap)
  (hval:∀ (j:Nat) t v,fn.params[j]?=some t→args[j]?=some v→Value.okWide C.prog W .any base t v) (hW:DataW.Whole enc C.prog fn.params.toList s.vars false W args.toList ds gs before)
  (hsize:(DataW.weightsEach C.prog (fn.params.toList++s.plain.varTypes C.prog) (ds++gs)).all (·≤reachBytes)=true) :
  Calls C.prog f args W fun e W'=>∃ v,e=.returned v∧s.post enc C.prog fn false true false false W args v W':=by
 have hW':=hW
 obtain ⟨p,q,hA,hV,rfl,hfz,hnd⟩:=hW
 rw [hvars] at hV
 obtain ⟨rfl,rfl⟩:=Go.ChangeShapes.trodVars_none hV
 have hlen:ds.length=fn.params.toList.length:=by
  have:∀ (ts:List TypeId) (vs:List Value) (ds:List (DataW H)) (ps:List MemPlace),DataW.TrodAll enc C.prog W 0 (fun _=>true) true ts vs ds ps→ds.length=ts.length:=by
   intro ts
   induction ts with
   | nil=>intro vs ds ps h;cases vs <;> cases ds <;> simp [DataW.TrodAll] at h ⊢
   | cons t ts ih=>
    intro vs ds ps h
    cases vs <;> cases ds <;> simp [DataW.TrodAll] at h ⊢
    obtain ⟨_,_,_,h2,_⟩:=h
    exact ih _ _ _ h2
  exact this _ _ _ _ hA
 rw [hpl,append_nil,append_nil,List.all_eq_true] at hsize
 obtain ⟨pvs,hrep,hspec⟩:=hread W base args.toList ds p (fun j t v h1 h2=>hval j t v h1 (by simpa using h2)) hA (fun n hn=>by simpa using hsize n hn)
 have hargs:cu (aP W (bR (fun _=>True) [] (fun _=>none)) [] (fun _=>none)) pvs args.toList:=
  ⟨hrep.1,fun i p v a b=>.aG ((hrep.2 i p v a b).ow fun _ _ _=>⟨trivial,dL _ _⟩)⟩
 have hc:=hspec.2 W (fun _=>none) args.toList (fun _=>True) ⟨hg,fun _ _=>trivial⟩ (sQ _ _ _ _) hargs
 refine Calls.mono hc fun e W' ⟨v,au,he,_,hv,hheap,hsize',hsm⟩=>?_
 subst he
 have hv':=hv.bool
 subst hv'
 have hkeep:∀ b,b<W.heap.size→W'.heap[b]?=W.heap[b]?:=fun b hb=>hheap b hb (dL _ _)
 refine ⟨_,rfl,ds,[],p++[],[],p,[],hW',?_,?_,?_,?_,fun h=>by cases h⟩
 · rw [append_nil,hs ds hlen,hres,hsz]
   exact Go.ChangeShapes.trodAll_mk1 (Go.RowKit.shut_bool hb true)
 · rw [append_nil,hs ds hlen]
   exact yt hlaid hkeep _ _ _ _ hr hA
 · rw [hvars,append_nil,hs ds hlen];rfl
 · refine ⟨hsm.1,hsm.2,fun i hi=>?_⟩
   rw [hkeep i hi]
   split <;> simp_all
theorem ZX {C:Checked}{os:Os}{H:Type}{enc:TypeId×Value→H}{f:FuncId}{fn:Func}{s:ChangeSpec}{tb:TypeId}{dom:List PathCond}{laid:List (String×DataW Unit)}
  (own:ownKnob C.prog.godebug=none) (started:os.Started) (noInit:C.prog.inits.idxOf? f=none) (hfn:C.prog.funcs[f]?=some fn)
  (witness:∃ (w:World) (tape:Tape) (i:Input),w.os=os∧(w.forCall tape i).Shaped C.prog∧i.vars=[]∧Input.okWide C.prog (w.forCall tape i) .any w.heap.size f i∧
   (OpenSpec.ofChange s).preRow enc C.prog fn dom false laid (w.forCall tape i).memory i.args∧({}:Assume).holds C.prog (lone (Frame.enter C.prog f i.args .normal) [] (w.forCall tape i)))
  (hlaid:laidOutB C.prog=true) (hr:∀ t ∈ fn.params.toList,C.prog.readableRec t=true∧t<C.prog.types.size)
  (hres:fn.resultTypes.toList=[tb]) (hsz:fn.resultTypes.size=1) (hb:C.prog.underlying tb=some .bool)
  (hvars:s.vars=[]) (hpl:s.plain.varTypes C.prog=[]) (hs:∀ ds:List (DataW H),ds.length=fn.params.toList.length→s.fn H ds={ results:=[.lit (.bool true)],args:=ds })
  (hread:∀ (W:World) (base:Nat) (args:List Value) (ds:List (DataW H)) (ps:List MemPlace),(∀ (j:Nat) t v,fn.params[j]?=some t→args[j]?=some v→Value.okWide C.prog W .any base t v)→DataW.TrodAll enc C.prog W 0 (fun _=>true) true fn.params.toList args ds ps→(∀ n ∈ DataW.weightsEach C.prog fn.params.toList ds,n≤reachBytes)→
   ∃ pvs,cu (dA W (fun _=>True)) pvs args∧ai C.prog f pvs [] (.bool true) [])
  (hg:∀ W:World,laidMetH C.prog laid W→qQ.holds W.heap) :
  ReturnsInHanded {} C os f .any ((OpenSpec.ofChange s).preRow enc C.prog fn dom false laid) (s.post enc C.prog fn false true false false):=by
 refine returnsInHanded_of_row (C:=C) (s:=OpenSpec.ofChange s) (F:=fun _ _=>default) own started noInit hfn witness ?_
 intro W base args ds gs before hval hW _ _ hsize hL _ _
 exact WB hlaid hr hres hsz hb hvars hpl hs hread (hg W hL) hval hW hsize
end Lp
namespace Lp
open Go
variable {P:Program}{D:TypeId→aB}{T:Know}
def ab0 (n:Nat):Env:=fun _ _ V=>∀ w0,V w0→w0.nx≤n
def ab1 (t:Nat) (r:PV) (objs':List Obj) (e:Exit) (S:St):Prop:=
 (e=.normal∨e=.ret)∧S.tmps.getD t .dead=r∧S.objs=objs'
theorem RH.Er {f:FuncId}{fn:Func}{c:Code}{C:LC}{args:List PV}{r:PV}{objs objs':List Obj}{t n:Nat}(hD:∀ t,iR P t (D t)) (hT:Jf P none (ab0 objs.length) T) (hm:P.follows .mixedOrders=true)
  (hf:P.funcs[f]?=some fn) (hname:(fn.name== "runtime.NumGoroutine")=false) (hb:fn.body=some c) (hn:fn.ntmps=n) (hr:fn.results=#[.tmp t]) (hC:strip C=comp c) (hlen:objs'.length=objs.length)
  (h:kZ P D T C (ab1 t r objs') ⟨(dw args n).tmps,objs⟩):RH P f args objs r objs':=by
 refine ⟨⟨fn,hf,hname,by rw [hb];rfl⟩,hlen,fun base ak w0 tmps blk a w vs R hargs=>?_⟩
 have hpw:PW P none (ab0 objs.length) c (ab1 t r objs') ⟨(dw args n).tmps,objs⟩:=wL hD hm C _ _ _ c _ _ hT hC h
 have hpp:∀ b,ak b→b<w.heap.size∧aX objs blk b:=fun b hb=>⟨Nat.lt_of_lt_of_le (R.pr b hb) R.gr,fun k o h1 h2 h3=>R.objs.np k o b h1 h2 h3 hb⟩
 have hz:∀ x ∈ tmps.zip a.tmps.toList,aP w (bR base objs blk) objs blk x.1 x.2:=by
  intro x hx
  obtain ⟨i,hi,rfl⟩:=List.mem_iff_getElem.1 hx
  have hi':i<tmps.length∧i<a.tmps.toList.length:=by
   rw [List.length_zip] at hi
   omega
  rw [List.getElem_zip]
  have:=R.tm i tmps[i] (List.getElem?_eq_getElem hi'.1)
  have e:a.tmps.getD i undef=a.tmps.toList[i]:=by
   rw [Array.getD_eq_getD_getElem?,Array.getElem?_eq_getElem (by simpa using hi'.2)];simp
  rw [e] at this
  exact this
 have R2:Rel base (fun b=>b<w.heap.size∧aX objs blk b) ⟨w.heap,tmps.zip a.tmps.toList++w0.xs,objs.length,w⟩ ⟨(dw args n).tmps,objs⟩ blk { tmps:=(⟨vs⟩:Array Value)++Array.replicate (n-(⟨vs⟩:Array Value).size) undef,defers:=[] } w:=by
  have hl:=hargs.1
  have hext:∀ x ∈ tmps.zip a.tmps.toList++w0.xs,aP w (bR base objs blk) objs blk x.1 x.2:=fun x hx=>by
   rcases List.mem_append.1 hx with hx | hx
   · exact hz x hx
   · exact R.ext x hx
  refine ⟨.nil _ _,?_,fun t p hp=>?_,⟨R.objs.ob,R.objs.GJ,fun k o g h1 h2 h3 hp=>hp.2 k o h1 h2 h3⟩,fun b hb=>hb.1,fun _ _=>rfl,Nat.le_refl _,fun b hn=>?_,hext,fun x hx=>Eo (hext x hx),.refl w,⟨R.mM,fun b hb=>hpp b (R.gl.2 b hb)⟩⟩
  · simp [dw,hl]
  · simp only [dw] at hp
    rw [List.getElem?_append] at hp
    split at hp
    · rename_i ht
      obtain ⟨v,hv⟩:∃ v,vs[t]?=some v:=⟨vs[t]'(by omega),List.getElem?_eq_getElem (by omega)⟩
      have hg:((⟨vs⟩:Array Value)++Array.replicate (n-(⟨vs⟩:Array Value).size) undef).getD t undef=v:=by
       rw [Array.getD_eq_getD_getElem?,Array.getElem?_append,if_pos (by simpa using (by omega:t<vs.length))]
       simp [hv]
      rw [hg]
      exact hargs.2 t p v hp hv
    · rw [List.getElem?_replicate] at hp
      split at hp
      · cases hp;exact .dead _
      · cases hp
  · rcases Nat.lt_or_ge b w.heap.size with h1 | h1
    · refine R.pb b fun hp=>hn (hpp b hp)
    · exact R.bs b (Nat.le_trans R.gr h1)
 have hw:=hpw base _ (fun x=>(⟨w.heap,tmps.zip a.tmps.toList++w0.xs,objs.length,w⟩:Wz)=x) (by rintro z rfl;exact Nat.le_refl _) _ _ _ ⟨_,rfl,R2⟩
 rw [← callsIn_wide (n:=0)]
 refine callsIn_of_wp_marks hf hb trivial ?_
 rw [hn]
 refine wpIn_mono hw ?_
 rintro e a' w' ⟨S',au,⟨he,ho,n_⟩,_,rfl,R'⟩
 have key:∀ w',Rel base (fun b=>b<w.heap.size∧aX objs blk b) ⟨w.heap,tmps.zip a.tmps.toList++w0.xs,objs.length,w⟩ S' au { a' with defers:=[] } w'→
     ∃ v,(results fn a'.tmps).run P w'=.ok v w'∧(∃ v' au,Ending.returned v=.returned v'∧Rel base ak w0 ⟨tmps,objs'⟩ au a w'∧aP w' (bR base objs' au) objs' au r v'):=by
  intro w' R'
  have hx:=R'.ev (.tmp t)
  change aP w' _ _ au (S'.tmps.getD t .dead) (a'.tmps.getD t undef) at hx
  rw [ho,n_] at hx
  refine ⟨_,results_tmp hr _ _ _,_,au,rfl,?_,hx⟩
  have hpr:∀ b,b<w.heap.size∧aX objs blk b→w'.heap[b]?=w.heap[b]?:=fun b hb=>R'.fr b hb
  obtain ⟨Ds,e1,e2,e3⟩:=R.nM
  have ob:=R'.objs
  have ex:=R'.ext
  rw [n_] at ob ex
  refine ⟨⟨Ds,e1,e2,fun b hb=>?_⟩,R.BV,fun t p hp=>?_,⟨ob.ob,ob.GJ,fun k o g h1 h2 h3 hp=>ob.np k o g h1 h2 h3 (hpp g hp)⟩,R.pr,fun b hb=>?_,Nat.le_trans R.gr R'.gr,R.pb,fun x hx=>ex x (List.mem_append_right _ hx),R.IU,R.sm.trans R'.sm,R.gl⟩
  · obtain ⟨h1,h2,h3⟩:=e3 b hb
    have hpb:b<w.heap.size∧aX objs blk b:=⟨(Array.getElem?_eq_some_iff.1 h1).1,h2.2⟩
    exact ⟨by rw [hpr b hpb];exact h1,⟨h2.1,fun k o g1 g2 g3=>ob.np k o b g1 g2 g3 hpb⟩,h3⟩
  · refine ex (p,a.tmps.getD t undef) (List.mem_append_left _ ?_)
    have hlt:t<tmps.length:=(List.getElem?_eq_some_iff.1 hp).1
    have htz:t<a.tmps.size:=by rw [R.BV];exact hlt
    refine List.mem_iff_getElem.2 ⟨t,by rw [List.length_zip,Array.length_toList];exact Nat.lt_min.2 ⟨hlt,htz⟩,?_⟩
    rw [List.getElem_zip]
    have e:a.tmps.getD t undef=a.tmps.toList[t]'(by simpa using htz):=by
     rw [Array.getD_eq_getD_getElem?,Array.getElem?_eq_getElem htz];simp
    rw [e,(List.getElem?_eq_some_iff.1 hp).2]
  · rw [hpr b (hpp b hb)];exact R.fr b hb
 rcases he with rfl | rfl <;> exact q8 _ _ R' key
end Lp
namespace Lp
open Go
variable {P:Program}{D:TypeId→aB}{T:Know}
def mI (p q:PV):Prop:=∀ (w:World) (ok:Nat→Prop) (v:Value),dA w ok p v→dA w ok q v
theorem mI.refl (p:PV):mI p p:=fun _ _ _ h=>h
theorem rE (sz sz':Nat):mI (.sl sz [] (some true)) (.sl sz' [] none):=by
 intro w ok v h
 cases h with
 | slnil _ _ _=>exact .slnil sz' none (by decide)
 | JK _ _ hq=>exact absurd rfl hq
 | sl _ _ _ hq=>exact absurd rfl hq
theorem mI.agg {ps qs:List PV}(hl:ps.length=qs.length) (h:∀ (i:Nat) (p q:PV),ps[i]?=some p→qs[i]?=some q→mI p q):mI (.agg ps) (.agg qs):=by
 intro w ok v hr
 cases hr with
 | agg _ vs hl' hh=>
  refine .agg _ _ (by omega) fun i q u hq hu=>?_
  have hi:i<ps.length:=by rw [hl];exact (List.getElem?_eq_some_iff.1 hq).1
  exact h i _ q (List.getElem?_eq_getElem hi) hq w ok u (hh i _ u (List.getElem?_eq_getElem hi) hu)
theorem mI.bT {ps qs:List PV}(hl:ps.length=qs.length) (h:∀ (i:Nat) (p q:PV),ps[i]?=some p→qs[i]?=some q→mI p q):mI (.bT ps) (.bT qs):=by
 intro w ok v hr
 cases hr with
 | bT _ vs hl' hh=>
  refine .bT _ _ (by omega) fun i q u hq hu=>?_
  have hi:i<ps.length:=by rw [hl];exact (List.getElem?_eq_some_iff.1 hq).1
  exact h i _ q (List.getElem?_eq_getElem hi) hq w ok u (hh i _ u (List.getElem?_eq_getElem hi) hu)
theorem aaW {f:List PV→PV}(hf:f=PV.agg∨f=PV.bT){a b c d:PV}(h1:mI a c) (h2:mI b d):mI (f [a,b]) (f [c,d]):=by
 have key:∀ (i:Nat) (p q:PV),[a,b][i]?=some p→[c,d][i]?=some q→mI p q:=by
  intro i p q hp hq
  match i with
  | 0=>cases hp;cases hq;exact h1
  | 1=>cases hp;cases hq;exact h2
  | _+2=>simp at hp
 rcases hf with rfl | rfl
 · exact .agg rfl key
 · exact .bT rfl key
theorem ai.res {f:FuncId}{args:List PV}{objs:List Obj}{r r':PV}(h:ai P f args objs r []) (ht:mI r r'):ai P f args objs r' []:=by
 refine ⟨h.1,fun w blk vs base hb R ha=>(h.2 w blk vs base hb R ha).mono ?_⟩
 rintro e w' ⟨v,au,h1,h2,h3,h4⟩
 exact ⟨v,au,h1,h2,.aG (ht _ _ _ (vo h3)),h4⟩
theorem ai.arg {f:FuncId}{args args':List PV}{r:PV}{objs':List Obj}(h:ai P f args [] r objs') (hl:args'.length=args.length) (ht:∀ (i:Nat) (p q:PV),args'[i]?=some p→args[i]?=some q→mI p q):ai P f args' [] r objs':=by
 refine ⟨h.1,fun w blk vs base hb R ha=>h.2 w blk vs base hb R ⟨by rw [← hl];exact ha.1,fun i q v hq hv=>?_⟩⟩
 have hi:i<args'.length:=by rw [hl];exact (List.getElem?_eq_some_iff.1 hq).1
 exact .aG (ht i _ q (List.getElem?_eq_getElem hi) hq _ _ _ (vo (ha.2 i _ v (List.getElem?_eq_getElem hi) hv)))
theorem aS.aaX {f:FuncId}{n t u:Nat}{ty:TypeId}{C:LC}{args:List PV}{r:PV}(h:aS P f n [.cell t ty,.tmp u] C) (d:Nat) (hD:∀ t,iR P t (D t)) (hT:Jf P none yO T) (hm:P.follows .mixedOrders=true) (ht:t<n) (hu:u<n)
  (hw:∀ Q:Exit→St→Prop,(∀ l ob,Q .ret ⟨dU n l,ob⟩=eY (D ty) (lW l t) ob fun p _ _=>r=.bT [gG d 0 ob p,gG d 0 ob (lW l u)])→kZ P D T C Q (dw args n)):ai P f args [] r []:=by
 refine h.pure d hD hT hm (by simp) (hw _ fun l ob=>?_)
 simp only [mE,jo,rq.2.1 n l t ht,rq.2.1 n l u hu,List.map_cons,List.map_nil,fK]
structure ab2 (d t:Nat) (o':Obj) (S:St):Prop where
 h:PI d t o' .ret S
theorem aaY {d t n:Nat}{o':Obj}{l:List (Nat×PV)}{ob:List Obj}{k ver:Nat}{o:Obj}(h1:(dU n l).getD t .dead=.bO k ver) (h2:ob[k]?=some o) (h3:o.live=true) (h4:o.ver=ver) (h5:{ gy d (k+1) ob o with ver:=0 }=o') (h6:fQ [o']):ab2 d t o' ⟨dU n l,ob⟩:=
 ⟨.inr rfl,_,k,ver,o,Weak.refl _ _,h1,h2,h3,h4,h5,h6⟩
theorem aS.ZY {f:FuncId}{n t:Nat}{C:LC}{args:List PV}{o':Obj}(h:aS P f n [.tmp t] C) (d:Nat) (hD:∀ t,iR P t (D t)) (hT:Jf P none yO T) (hm:P.follows .mixedOrders=true)
  (hw:∀ Q:Exit→St→Prop,(∀ l ob,Q .ret ⟨dU n l,ob⟩=ab2 d t o' ⟨dU n l,ob⟩)→kZ P D T C Q (dw args n)):ai P f args [] (.bO 0 0) [o']:=
 h.made d hD hT hm (hw _ fun l ob=>propext ⟨fun h=>⟨h⟩,fun h=>h.h⟩)
structure adI (D:TypeId→aB) (d:Nat) (rs:List ResultVar) (qs:List PV) (o':Obj) (S:St):Prop where
 h:ac3 D d rs qs o' .ret S
theorem Ud {base ak:Nat→Prop}{w':World}{au:Nat→Option Nat}{o:Obj}{v:Value}(h2:dW base ak [o] au w') (h3:bC w' (bR base [o] au) [o] au (.bO 0 0) v) (hb:∀ b,¬ ak b→base b) (hl:o.live=true) (hv:o.ver=0) (hn:fQ [o]) :
  dA w' (bR base [] au) (.sl o.sz o.xs none) v:=by
 obtain ⟨_,o1,g1,_,g3⟩:=h3
 cases g1
 obtain ⟨hM,hh⟩:=g3 hl hv
 have ho:=h2.ob 0 o rfl hl
 unfold xA at hh
 unfold bX at ho
 cases hg:au 0 with
 | none=>rw [hg] at hh;rw [hh.1,hh.2];exact .slnil _ _ (by decide)
 | some g=>
  rw [hg] at hh ho
  obtain ⟨cap,c,rfl,x1,x2,x3,x4⟩:=hh
  obtain ⟨c',y1,y2,y3⟩:=ho
  rw [lI hM] at y1
  rw [x1] at y1;cases y1
  have hgb:base g:=hb g (h2.np 0 o g rfl hl hg)
  refine .sl o.sz o.xs none (by decide) g 0 cap (fun i j=>(c[i*o.sz+j]?).getD undef) (fun _=>⟨⟨hgb,dL _ _⟩,(Array.getElem?_eq_some_iff.1 x1).1⟩) x2 x3 (fun i x hx=>(y3 i x hx).1) ?_ ?_
  · intro i x j p hx hp
    obtain ⟨u,u1,_⟩:=(y3 i x hx).2 j p hp
    simp [World.cell?,x1,u1]
  · intro i x j p hx hp
    obtain ⟨u,u1,u2⟩:=(y3 i x hx).2 j p hp
    rw [u1,Option.getD_some]
    exact (u2.zR (hn o (by simp) x (List.mem_of_getElem? hx) p (List.mem_of_getElem? hp))).ow fun b _ hb=>⟨hb.1,dL _ _⟩
theorem WC {base:Nat→Prop}{w:World}{blk:Nat→Option Nat}(hb:qQ.holds w.heap∧∀ b,w.heap.size≤b→base b) (b:Nat) (h:¬ (b<w.heap.size∧aX [] blk b)):base b:=
 hb.2 b (Nat.not_lt.1 fun q=>h ⟨q,dL _ _⟩)
theorem ai.froze {f:FuncId}{args:List PV}{o:Obj}(h:ai P f args [] (.bO 0 0) [o]) (hl:o.live=true) (hv:o.ver=0) (hn:fQ [o]):ai P f args [] (.sl o.sz o.xs none) []:=by
 refine ⟨h.1,fun w blk vs base hb R ha=>(h.2 w blk vs base hb R ha).mono ?_⟩
 rintro e w' ⟨v,au,h1,h2,h3,h4⟩
 exact ⟨v,au,h1,sQ _ _ _ _,.aG (Ud h2 h3 (WC hb) hl hv hn),h4⟩
@[congr] theorem Z0 {s t:TypeId}{x x':PV}{objs objs':List Obj}{K:KT}(h:x=x') (ho:objs=objs'):jP D s t x objs K=jP D s t x' objs' K:=by rw [h,ho]
@[congr] theorem Ue {x x':PV}{objs objs':List Obj}{K:KT}(h:x=x') (ho:objs=objs'):dH x objs K=dH x' objs' K:=by rw [h,ho]
end Lp
namespace Lp
open Go Go.Proofs
def bP (a:f_):PV:=.agg [.int .i64 a.n,.int .i64 a.c.kind,.int .i64 a.c.many,.str a.c.name,.str a.c.s,.bool a.c.neg,.int .i64 a.c.e]
def bg (l:List f_):PV:=.sl 7 (l.map bP) none
theorem hA:∀ l,bg l=.sl 7 (l.map bP) none:=fun _=>rfl
theorem vK:∀ a b,bP a=bP b→a=b:=by
 intro a b h
 obtain ⟨an,⟨a1,a2,a3,a4,a5,a6⟩⟩:=a
 obtain ⟨bn,⟨b1,b2,b3,b4,b5,b6⟩⟩:=b
 simp only [bP,PV.agg.injEq,List.cons.injEq,PV.int.injEq,PV.str.injEq,PV.bool.injEq,true_and,and_true] at h
 obtain ⟨rfl,rfl,rfl,rfl,rfl,rfl,rfl⟩:=h
 rfl
theorem wN:∀ a b,bg a=bg b→a=b:=ni hA vK
theorem Z4 (objs:List Obj) (K:KT) :
  (∀ a,aI D 29 (.addr (bP a)) 0 objs K=K (.addr (.int .i64 a.n)) objs 0)∧
  (∀ a,aI D 29 (.addr (bP a)) 1 objs K=K (.addr (av a.c)) objs 0):=by
 refine ⟨fun n=>?_,fun n=>?_⟩
 all_goals
  simp only [bP,av,aI,dX,bL,↓Ke,G7,sZ,qm,Eu,GH,ne_eq,reduceCtorEq,not_false_eq_true,true_and,Bool.not_false,Bool.and_self,Nat.reduceAdd,Nat.reduceLeDiff,forall_const,false_implies]
theorem Z5 :
  (∀ a,(bP a).cells=[.int .i64 a.n,.int .i64 a.c.kind,.int .i64 a.c.many,.str a.c.name,.str a.c.s,.bool a.c.neg,.int .i64 a.c.e])∧
  (∀ n,(bP n).isAgg=true)∧(∀ n,(bP n).pure=true)∧(∀ d m O n,fJ d m O (bP n)=bP n)∧(∀ d m O n,gG d m O (bP n)=bP n):=
 ⟨fun _=>rfl,fun _=>rfl,fun _=>rfl,fun _ _ _ _=>rfl,fun _ _ _ _=>rfl⟩
theorem Z6 (a:f_):(∀ x,(bP a).putCells 0 [.int .i64 x]=bP { a with n:=x })∧(∀ b:f_,(bP a).putCells 0 [.int .i64 b.n,.int .i64 b.c.kind,.int .i64 b.c.many,.str b.c.name,.str b.c.s,.bool b.c.neg,.int .i64 b.c.e]=bP b):=
 ⟨fun _=>rfl,fun _=>rfl⟩
theorem Z7 (objs:List Obj) (K:KT) :
  (∀ k n,bD D 29 [(0,.int .i64 k),(1,av n)] objs K=K (bP ⟨k,n⟩) objs 0)∧
  (∀ n,bD D 29 [(1,av n)] objs K=K (bP ⟨0,n⟩) objs 0)∧
  (bD D 27 [] objs K=K (av ⟨0,0,[],[],false,0⟩) objs 0):=by
 have z:aF (D 29)=bP ⟨0,⟨0,0,[],[],false,0⟩⟩:=by kernel_rfl
 have a:(D 29).agg=true:=by kernel_rfl
 have z2:aF (D 27)=av ⟨0,0,[],[],false,0⟩:=by kernel_rfl
 have a2:(D 27).agg=true:=by kernel_rfl
 simp only [bL] at z a z2 a2
 refine ⟨fun k n=>?_,fun n=>?_,?_⟩
 all_goals
  simp [bD,kR,a,z,a2,z2,bL,lJ,av,bP,PV.isAgg,pE,PV.cells,PV.storable,PV.kW,PV.pure]
theorem inA:uE bP:=by intro d n o x;cases d <;> rfl
theorem Z8 :
  (∀ a0,PV.sl 7 [bP a0] none=bg [a0])∧(∀ a0 a1,PV.sl 7 [bP a0,bP a1] none=bg [a0,a1]):=
 ⟨fun _=>rfl,fun _ _=>rfl⟩
theorem ab3:type_of% (jA hA)∧type_of% (aL vK)∧type_of% (aL wN):=⟨jA hA,aL vK,aL wN⟩
theorem Z9 :
  type_of% (Z4)∧type_of% (Z5)∧type_of% (Z6)∧type_of% (Z7)∧type_of% (Z8)∧
  type_of% (rz hA)∧type_of% (jA hA)∧type_of% (rC hA)∧type_of% (aL vK)∧type_of% (aL wN)∧type_of% (iJ hA inA)∧
  type_of% (qG (enc:=bP) (sz:=7) (fun _=>rfl) (fun _=>rfl))∧
  type_of% (fun (l:List f_) (k:Nat)=>Ji (bg l) rfl k):=
 ⟨Z4,Z5,Z6,Z7,Z8,rz hA,jA hA,rC hA,aL vK,aL wN,iJ hA inA,qG (enc:=bP) (sz:=7) (fun _=>rfl) (fun _=>rfl),fun (l:List f_) (k:Nat)=>Ji (bg l) rfl k⟩
theorem aQ:type_of% @aN∧type_of% @ab3:=⟨@aN,@ab3⟩
theorem aR:type_of% @aO∧type_of% @Z9:=⟨@aO,@Z9⟩
theorem Na (x:f_):fJ 1 0 [⟨29,7,[bP x],true,1⟩] (.bM 0 1 0 0)=.addr (bP x):=rfl
theorem WE (x:f_) (y:Nd):fJ 1 0 [⟨29,7,[bP x],true,1⟩,⟨27,6,[av y],true,1⟩] (.bM 0 1 0 0)=.addr (bP x):=rfl
theorem WG (x:f_) (y:Nd):fJ 1 0 [⟨29,7,[bP x],true,1⟩,⟨27,6,[av y],true,1⟩] (.bM 1 1 0 0)=.addr (av y):=rfl
end Lp
namespace Lp
open Go Go.Proofs
def aV (t:eT):PV:=.agg [.int .i64 t.kind,.int .i64 t.many,.str t.name,.str t.s,.int .i64 t.n,.int .i64 t.c.kind,.int .i64 t.c.many,.str t.c.name,.str t.c.s,.bool t.c.neg,.int .i64 t.c.e]
def aA (l:aK):PV:=.sl 11 (l.map aV) none
def pQ (l:List aK):PV:=.sl 1 (l.map aA) none
def encS (s:Stp):PV:=.agg [.bool s.part,.str s.name,.int .i64 s.n]
def dF (l:List Stp):PV:=.sl 3 (l.map encS) none
theorem hTy:∀ l,aA l=.sl 11 (l.map aV) none:=fun _=>rfl
theorem hTs:∀ l,pQ l=.sl 1 (l.map aA) none:=fun _=>rfl
theorem hPa:∀ l,dF l=.sl 3 (l.map encS) none:=fun _=>rfl
theorem nR:∀ a b,aV a=aV b→a=b:=by
 intro a b h
 obtain ⟨k,m,nm,s,n,⟨a1,a2,a3,a4,a5,a6⟩⟩:=a
 obtain ⟨k',m',Km,s',n',⟨b1,b2,b3,b4,b5,b6⟩⟩:=b
 simp only [aV,PV.agg.injEq,List.cons.injEq,PV.int.injEq,PV.str.injEq,PV.bool.injEq,true_and,and_true] at h
 obtain ⟨rfl,rfl,rfl,rfl,rfl,rfl,rfl,rfl,rfl,rfl,rfl⟩:=h
 rfl
theorem vL:∀ a b,encS a=encS b→a=b:=by
 intro a b h
 cases a;cases b
 simp only [encS,PV.agg.injEq,List.cons.injEq,PV.int.injEq,PV.str.injEq,PV.bool.injEq,true_and,and_true] at h
 obtain ⟨rfl,rfl,rfl⟩:=h
 rfl
theorem rF:∀ a b,aA a=aA b→a=b:=ni hTy nR
theorem wO:∀ a b,pQ a=pQ b→a=b:=ni hTs rF
theorem rG:∀ a b,dF a=dF b→a=b:=ni hPa vL
theorem ab4 (objs:List Obj) (K:KT) :
  (∀ t,aI D 51 (.addr (aV t)) 0 objs K=K (.addr (.int .i64 t.kind)) objs 0)∧
  (∀ t,aI D 51 (.addr (aV t)) 1 objs K=K (.addr (.int .i64 t.many)) objs 0)∧
  (∀ t,aI D 51 (.addr (aV t)) 2 objs K=K (.addr (.str t.name)) objs 0)∧
  (∀ t,aI D 51 (.addr (aV t)) 3 objs K=K (.addr (.str t.s)) objs 0)∧
  (∀ t,aI D 51 (.addr (aV t)) 4 objs K=K (.addr (.int .i64 t.n)) objs 0)∧
  (∀ t,aI D 51 (.addr (aV t)) 5 objs K=K (.addr (av t.c)) objs 0)∧
  (∀ s,aI D 61 (.addr (encS s)) 0 objs K=K (.addr (.bool s.part)) objs 0)∧
  (∀ s,aI D 61 (.addr (encS s)) 1 objs K=K (.addr (.str s.name)) objs 0)∧
  (∀ s,aI D 61 (.addr (encS s)) 2 objs K=K (.addr (.int .i64 s.n)) objs 0):=by
 refine ⟨fun n=>?_,fun n=>?_,fun n=>?_,fun n=>?_,fun n=>?_,fun n=>?_,fun n=>?_,fun n=>?_,fun n=>?_⟩
 all_goals
  simp only [aV,encS,av,aI,dX,bL,↓Ke,G7,sZ,qm,Eu,GH,ne_eq,reduceCtorEq,not_false_eq_true,true_and,Bool.not_false,Bool.and_self,Nat.reduceAdd,Nat.reduceLeDiff,forall_const,false_implies]
theorem ab5 :
  (∀ t,(aV t).cells=[.int .i64 t.kind,.int .i64 t.many,.str t.name,.str t.s,.int .i64 t.n,.int .i64 t.c.kind,.int .i64 t.c.many,.str t.c.name,.str t.c.s,.bool t.c.neg,.int .i64 t.c.e])∧
  (∀ n,(aV n).isAgg=true)∧(∀ n,(aV n).pure=true)∧(∀ d m O n,fJ d m O (aV n)=aV n)∧(∀ d m O n,gG d m O (aV n)=aV n)∧
  (∀ s,(encS s).cells=[.bool s.part,.str s.name,.int .i64 s.n])∧
  (∀ n,(encS n).isAgg=true)∧(∀ n,(encS n).pure=true)∧(∀ d m O n,fJ d m O (encS n)=encS n)∧(∀ d m O n,gG d m O (encS n)=encS n):=
 ⟨fun _=>rfl,fun _=>rfl,fun _=>rfl,fun _ _ _ _=>rfl,fun _ _ _ _=>rfl,fun _=>rfl,fun _=>rfl,fun _=>rfl,fun _ _ _ _=>rfl,fun _ _ _ _=>rfl⟩
theorem ab6 (a:eT) :
  (∀ x,(aV a).putCells 0 [.int .i64 x]=aV { a with kind:=x })∧(∀ x,(aV a).putCells 1 [.int .i64 x]=aV { a with many:=x })∧
  (∀ x,(aV a).putCells 2 [.str x]=aV { a with name:=x })∧(∀ x,(aV a).putCells 3 [.str x]=aV { a with s:=x })∧(∀ x,(aV a).putCells 4 [.int .i64 x]=aV { a with n:=x })∧
  (∀ c:Nd,(aV a).putCells 5 [.int .i64 c.kind,.int .i64 c.many,.str c.name,.str c.s,.bool c.neg,.int .i64 c.e]=aV { a with c:=c })∧
  (∀ t:eT,(aV a).putCells 0 [.int .i64 t.kind,.int .i64 t.many,.str t.name,.str t.s,.int .i64 t.n,.int .i64 t.c.kind,.int .i64 t.c.many,.str t.c.name,.str t.c.s,.bool t.c.neg,.int .i64 t.c.e]=aV t):=
 ⟨fun _=>rfl,fun _=>rfl,fun _=>rfl,fun _=>rfl,fun _=>rfl,fun _=>rfl,fun _=>rfl⟩
theorem aaZ (a b:eT):xB (aV a).cells (aV b).cells=some (decide (a=b)):=by
 obtain ⟨k,m,nm,s,n,⟨a1,a2,a3,a4,a5,a6⟩⟩:=a
 obtain ⟨k',m',Km,s',n',⟨b1,b2,b3,b4,b5,b6⟩⟩:=b
 simp only [aV,PV.cells,xB,X4,if_true,Bool.and_true,eT.mk.injEq,Nd.mk.injEq,Option.some.injEq]
 rw [Bool.eq_iff_iff]
 simp [and_assoc]
theorem inY:uE aV:=by intro d n o x;cases d <;> rfl
theorem ab7:uE aA:=by intro d n o x;cases d <;> rfl
theorem ab8:uE encS:=by intro d n o x;cases d <;> rfl
theorem Z_ :
  (∀ a0,PV.sl 11 [aV a0] none=aA [a0])∧(∀ a0 a1,PV.sl 11 [aV a0,aV a1] none=aA [a0,a1])∧
  (∀ a0,PV.sl 1 [aA a0] none=pQ [a0])∧(∀ a0 a1,PV.sl 1 [aA a0,aA a1] none=pQ [a0,a1])∧
  (∀ a0,PV.sl 3 [encS a0] none=dF [a0]):=
 ⟨fun _=>rfl,fun _ _=>rfl,fun _=>rfl,fun _ _=>rfl,fun _=>rfl⟩
theorem ab9:type_of% (jA hTy)∧type_of% (jA hTs)∧type_of% (jA hPa)∧type_of% (aL nR)∧type_of% (aL rF)∧type_of% (aL wO)∧type_of% (aL vL)∧type_of% (aL rG):=
 ⟨jA hTy,jA hTs,jA hPa,aL nR,aL rF,aL wO,aL vL,aL rG⟩
theorem aac :
  type_of% (ab4)∧type_of% (ab5)∧type_of% (ab6)∧type_of% (Z_)∧
  type_of% (rz hTy)∧type_of% (rz hTs)∧type_of% (rz hPa)∧type_of% (jA hTy)∧type_of% (jA hTs)∧type_of% (jA hPa)∧type_of% (rC hTy)∧type_of% (rC hTs)∧type_of% (rC hPa)∧
  type_of% (aL nR)∧type_of% (aL rF)∧type_of% (aL wO)∧type_of% (aL vL)∧type_of% (aL rG)∧
  type_of% (iJ hTy inY)∧type_of% (iJ hTs ab7)∧type_of% (iJ hPa ab8)∧
  type_of% (qG (enc:=aV) (sz:=11) (fun _=>rfl) (fun _=>rfl))∧type_of% (qG (enc:=aA) (sz:=1) (fun _=>rfl) (fun _=>rfl))∧type_of% (qG (enc:=encS) (sz:=3) (fun _=>rfl) (fun _=>rfl))∧
  type_of% (fun (l:aK) (k:Nat)=>Ji (aA l) rfl k)∧type_of% (fun (l:List aK) (k:Nat)=>Ji (pQ l) rfl k)∧type_of% (fun (l:List Stp) (k:Nat)=>Ji (dF l) rfl k):=
 ⟨ab4,ab5,ab6,Z_,rz hTy,rz hTs,rz hPa,jA hTy,jA hTs,jA hPa,rC hTy,rC hTs,rC hPa,aL nR,aL rF,aL wO,aL vL,aL rG,iJ hTy inY,iJ hTs ab7,iJ hPa ab8,
  qG (enc:=aV) (sz:=11) (fun _=>rfl) (fun _=>rfl),qG (enc:=aA) (sz:=1) (fun _=>rfl) (fun _=>rfl),qG (enc:=encS) (sz:=3) (fun _=>rfl) (fun _=>rfl),fun (l:aK) (k:Nat)=>Ji (aA l) rfl k,fun (l:List aK) (k:Nat)=>Ji (pQ l) rfl k,fun (l:List Stp) (k:Nat)=>Ji (dF l) rfl k⟩
theorem ax:type_of% @aQ∧type_of% @ab9:=⟨@aQ,@ab9⟩
theorem ay:type_of% @aR∧type_of% @aac:=⟨@aR,@aac⟩
end Lp
namespace Lp
open Go Go.Proofs
end Lp
namespace Lp
open Go Go.Proofs
theorem AB:aS Tryz.prog 119 49 [.tmp 2] (gen [] [(9,none)] [] Tryz.f119):=bq Tryz.func119 rfl (by kernel_rfl)
theorem vM:aS Tryz.prog 122 63 [.tmp 4,.tmp 5] (gen [] [(195,none)] [] Tryz.f122):=bq Tryz.func122 rfl (by kernel_rfl)
theorem Cr:aS Tryz.prog 153 7 [.tmp 2] (gen [] [] [] Tryz.f153):=bq Tryz.func153 rfl (by kernel_rfl)
theorem vN:aS Tryz.prog 130 33 [.tmp 2] (gen [31] [] [] Tryz.f130):=bq Tryz.func130 rfl (by kernel_rfl)
theorem y9:aS Tryz.prog 121 19 [.tmp 2] (gen [] [(25,none)] [] Tryz.f121):=bq Tryz.func121 rfl (by kernel_rfl)
theorem AJ:aS Tryz.prog 175 77 [.tmp 4] (gen [] [(99,none)] [] Tryz.f175):=bq Tryz.func175 rfl (by kernel_rfl)
theorem Cs:aS Tryz.prog 176 58 [.tmp 2] (gen [7,19,36,56] [] [] Tryz.f176):=bq Tryz.func176 rfl (by kernel_rfl)
theorem xL:aS Tryz.prog 152 74 [.tmp 4,.tmp 5] (gen [] [(451,none)] [] Tryz.f152):=bq Tryz.func152 rfl (by kernel_rfl)
theorem y_:aS Tryz.prog 129 26 [.tmp 4,.tmp 5] (gen [] [] [] Tryz.f129):=bq Tryz.func129 rfl (by kernel_rfl)
theorem vO:aS Tryz.prog 120 50 [.tmp 2,.tmp 3,.tmp 4] (gen [] [(97,none)] [] Tryz.f120):=bq Tryz.func120 rfl (by kernel_rfl)
def bH:LC:=
 (.seq (.seq (.reg [⟨some 43,.move (.tmp 9),none,false⟩,
  ⟨some 44,.move (.tmp 1),none,false⟩,
  ⟨some 45,.binOp .gtr 3 (.tmp 43) (.tmp 44) 3,none,false⟩])
  (.cond (.tmp 45)
   (.seq (.reg [⟨some 46,.move (.tmp 0),none,false⟩,
    ⟨some 47,.move (.tmp 1),none,false⟩,
    ⟨some 48,.move (.tmp 9),none,false⟩,
    ⟨some 49,.slice 9 (.tmp 46) (some (.tmp 47)) (some (.tmp 48)) none,none,false⟩,
    ⟨some 50,.build 61 ⟨[(1,(.tmp 49))]⟩,none,false⟩,
    ⟨some 51,.move (.tmp 9),none,false⟩,
    ⟨none,.store 61 (.tmp 6) (.tmp 50),none,false⟩,
    ⟨some 7,.assign (.tmp 51),none,false⟩])
   .ret)
   .skip))
  (.seq (.reg [⟨some 53,.move (.tmp 0),none,false⟩,
   ⟨some 54,.move (.tmp 1),none,false⟩,
   ⟨some 55,.slice 9 (.tmp 53) (some (.tmp 54)) none none,none,false⟩,
   ⟨some 56,.call ⟨.value (.func 120),⟨[(.tmp 55)]⟩,⟨[9]⟩⟩,none,false⟩,
   ⟨some 52,.move (.tmp 56),none,false⟩,
   ⟨some 57,.extract (.tmp 52) 0,none,false⟩,
   ⟨some 58,.extract (.tmp 52) 1,none,false⟩,
   ⟨some 59,.extract (.tmp 52) 2,none,false⟩,
   ⟨some 10,.assign (.tmp 57),none,false⟩,
   ⟨some 11,.assign (.tmp 58),none,false⟩,
   ⟨some 12,.assign (.tmp 59),none,false⟩])
  (.seq (.seq (.draw [⟨some 60,.move (.tmp 12),none,false⟩,
   ⟨some 61,.binOp .eql 34 (.tmp 60) (.const (.int .i64 0)) 34,none,false⟩,
   ⟨some 62,.move (.tmp 61),none,false⟩,
   ⟨some 63,.move (.tmp 10),some (some 62,true),false⟩,
   ⟨some 64,.call ⟨.value (.func 119),⟨[(.tmp 63)]⟩,⟨[9]⟩⟩,some (some 62,true),false⟩,
   ⟨some 65,.unOp .not 4 (.tmp 64),some (some 62,true),false⟩,
   ⟨some 66,.pick (.tmp 62) (.tmp 65) (.const (.bool false)),none,false⟩,
   ⟨some 67,.move (.tmp 66),none,false⟩,
   ⟨some 68,.move (.tmp 10),some (some 67,true),false⟩,
   ⟨some 69,.call ⟨.value (.func 121),⟨[(.tmp 68)]⟩,⟨[9]⟩⟩,some (some 67,true),false⟩,
   ⟨some 70,.move (.tmp 0),some (some 67,true),false⟩,
   ⟨some 71,.move (.tmp 1),some (some 67,true),false⟩,
   ⟨some 72,.move (.tmp 1),some (some 67,true),false⟩,
   ⟨some 73,.move (.tmp 11),some (some 67,true),false⟩,
   ⟨some 74,.binOp .add 3 (.tmp 72) (.tmp 73) 3,some (some 67,true),false⟩,
   ⟨some 75,.slice 9 (.tmp 70) (some (.tmp 71)) (some (.tmp 74)) none,some (some 67,true),false⟩,
   ⟨some 76,.binOp .eql 9 (.tmp 69) (.tmp 75) 9,some (some 67,true),false⟩,
   ⟨some 77,.pick (.tmp 67) (.tmp 76) (.const (.bool false)),none,false⟩]
  [0,0,0,0,0,0,0,0,0,0,768,1792,3840,7936,3840,768,0,0])
  (.cond (.tmp 77)
   (.seq (.reg [⟨some 78,.move (.tmp 10),none,false⟩,
    ⟨some 79,.build 61 ⟨[(1,(.tmp 78))]⟩,none,false⟩,
    ⟨some 80,.move (.tmp 1),none,false⟩,
    ⟨some 81,.move (.tmp 11),none,false⟩,
    ⟨some 82,.binOp .add 3 (.tmp 80) (.tmp 81) 3,none,false⟩,
    ⟨none,.store 61 (.tmp 6) (.tmp 79),none,false⟩,
    ⟨some 7,.assign (.tmp 82),none,false⟩])
   .ret)
   .skip))
  (.seq (.reg [⟨some 83,.move (.tmp 2),none,false⟩,
   ⟨some 84,.unOp .not 4 (.tmp 83),none,false⟩])
  (.cond (.tmp 84)
   (.seq (.reg [⟨some 85,.build 61 ⟨[]⟩,none,false⟩,
    ⟨some 86,.move (.tmp 8),none,false⟩,
    ⟨none,.store 61 (.tmp 6) (.tmp 85),none,false⟩,
    ⟨some 7,.assign (.tmp 86),none,false⟩])
   .ret)
   .skip)))))
def bS:LC:=
 (.seq (.seq (.reg [⟨some 90,.move (.tmp 1),none,false⟩,
  ⟨some 91,.move (.tmp 0),none,false⟩,
  ⟨some 92,.call ⟨.builtin .len,⟨[(.tmp 91)]⟩,⟨[9]⟩⟩,none,false⟩,
  ⟨some 93,.binOp .geq 3 (.tmp 90) (.tmp 92) 3,none,false⟩,
  ⟨some 94,.move (.tmp 93),none,false⟩,
  ⟨some 95,.move (.tmp 0),some (some 94,false),false⟩,
  ⟨some 96,.move (.tmp 1),some (some 94,false),false⟩,
  ⟨some 97,.index 9 (.tmp 95) (.tmp 96),some (some 94,false),false⟩,
  ⟨some 98,.binOp .neq 5 (.tmp 97) (.const (.int .u8 91)) 5,some (some 94,false),false⟩,
  ⟨some 99,.pick (.tmp 94) (.const (.bool true)) (.tmp 98),none,false⟩])
 (.cond (.tmp 99)
  (.seq (.reg [⟨some 100,.build 61 ⟨[]⟩,none,false⟩,
   ⟨some 101,.move (.tmp 8),none,false⟩,
   ⟨none,.store 61 (.tmp 6) (.tmp 100),none,false⟩,
   ⟨some 7,.assign (.tmp 101),none,false⟩])
  .ret)
  .skip))
 (.seq (.reg [⟨some 103,.move (.tmp 0),none,false⟩,
  ⟨some 104,.move (.tmp 1),none,false⟩,
  ⟨some 105,.binOp .add 3 (.tmp 104) (.const (.int .i64 1)) 3,none,false⟩,
  ⟨some 106,.call ⟨.value (.func 122),⟨[(.tmp 103),(.tmp 105)]⟩,⟨[9,3]⟩⟩,none,false⟩,
  ⟨some 102,.move (.tmp 106),none,false⟩,
  ⟨some 107,.extract (.tmp 102) 0,none,false⟩,
  ⟨some 108,.extract (.tmp 102) 1,none,false⟩,
  ⟨some 13,.assign (.tmp 107),none,false⟩,
  ⟨some 14,.assign (.tmp 108),none,false⟩])
 (.seq (.seq (.reg [⟨some 109,.move (.tmp 13),none,false⟩,
  ⟨some 110,.binOp .lss 3 (.tmp 109) (.const (.int .i64 0)) 3,none,false⟩,
  ⟨some 111,.move (.tmp 110),none,false⟩,
  ⟨some 112,.move (.tmp 14),some (some 111,false),false⟩,
  ⟨some 113,.move (.tmp 0),some (some 111,false),false⟩,
  ⟨some 114,.call ⟨.builtin .len,⟨[(.tmp 113)]⟩,⟨[9]⟩⟩,some (some 111,false),false⟩,
  ⟨some 115,.binOp .geq 3 (.tmp 112) (.tmp 114) 3,some (some 111,false),false⟩,
  ⟨some 116,.pick (.tmp 111) (.const (.bool true)) (.tmp 115),none,false⟩,
  ⟨some 117,.move (.tmp 116),none,false⟩,
  ⟨some 118,.move (.tmp 0),some (some 117,false),false⟩,
  ⟨some 119,.move (.tmp 14),some (some 117,false),false⟩,
  ⟨some 120,.index 9 (.tmp 118) (.tmp 119),some (some 117,false),false⟩,
  ⟨some 121,.binOp .neq 5 (.tmp 120) (.const (.int .u8 93)) 5,some (some 117,false),false⟩,
  ⟨some 122,.pick (.tmp 117) (.const (.bool true)) (.tmp 121),none,false⟩])
 (.cond (.tmp 122)
  (.seq (.reg [⟨some 123,.build 61 ⟨[]⟩,none,false⟩,
   ⟨some 124,.move (.tmp 8),none,false⟩,
   ⟨none,.store 61 (.tmp 6) (.tmp 123),none,false⟩,
   ⟨some 7,.assign (.tmp 124),none,false⟩])
  .ret)
  .skip))
 (.seq (.reg [⟨some 125,.move (.tmp 13),none,false⟩,
  ⟨some 126,.build 61 ⟨[(0,(.const (.bool true))),(2,(.tmp 125))]⟩,none,false⟩,
  ⟨some 127,.move (.tmp 14),none,false⟩,
  ⟨some 128,.binOp .add 3 (.tmp 127) (.const (.int .i64 1)) 3,none,false⟩,
  ⟨none,.store 61 (.tmp 6) (.tmp 126),none,false⟩,
  ⟨some 7,.assign (.tmp 128),none,false⟩])
 .ret))))
def fM:LC:=
 (.seq (.reg [⟨some 6,.alloc 61,none,false⟩,
  ⟨some 7,.assign (.const (.int .i64 0)),none,false⟩])
 (.seq (.reg [⟨some 15,.move (.tmp 1),none,false⟩,
  ⟨some 8,.assign (.tmp 15),none,false⟩])
 (.seq (.seq (.reg [⟨some 16,.move (.tmp 1),none,false⟩,
  ⟨some 17,.move (.tmp 0),none,false⟩,
  ⟨some 18,.call ⟨.builtin .len,⟨[(.tmp 17)]⟩,⟨[9]⟩⟩,none,false⟩,
  ⟨some 19,.binOp .lss 3 (.tmp 16) (.tmp 18) 3,none,false⟩,
  ⟨some 20,.move (.tmp 19),none,false⟩,
  ⟨some 21,.move (.tmp 0),some (some 20,true),false⟩,
  ⟨some 22,.move (.tmp 1),some (some 20,true),false⟩,
  ⟨some 23,.index 9 (.tmp 21) (.tmp 22),some (some 20,true),false⟩,
  ⟨some 24,.binOp .eql 5 (.tmp 23) (.const (.int .u8 46)) 5,some (some 20,true),false⟩,
  ⟨some 25,.pick (.tmp 20) (.tmp 24) (.const (.bool false)),none,false⟩])
 (.cond (.tmp 25)
  (.seq (.reg [⟨some 26,.move (.tmp 1),none,false⟩,
   ⟨some 27,.binOp .add 3 (.tmp 26) (.const (.int .i64 1)) 3,none,false⟩,
   ⟨some 1,.assign (.tmp 27),none,false⟩])
  (.seq (.reg [⟨some 28,.move (.tmp 1),none,false⟩,
   ⟨some 9,.assign (.tmp 28),none,false⟩])
  (.seq (.block 0 (.loop [true,true,true,false,false,false,true,false,true,true,false,false,false,false,false,false,false,false,false,false,false,false,false,false,false,false,false,false,false,false,false,false,false,false,false,false,false,false,false,false,false,false,false,false,false,false,false,false,false,false,false,false,false,false,false,false,false,false,false,false,false,false,false,false,false,false,false,false,false,false,false,false,false,false,false,false,false,false,false,false,false,false,false,false,false,false,false,false,false,false,false,false,false,false,false,false,false,false,false,false,false,false,false,false,false,false,false,false,false,false,false,false,false,false,false,false,false,false,false,false,false,false,false,false,false,false,false,false,false] none
   (.seq (.seq (.reg [⟨some 29,.move (.tmp 9),none,false⟩,
    ⟨some 30,.move (.tmp 0),none,false⟩,
    ⟨some 31,.call ⟨.builtin .len,⟨[(.tmp 30)]⟩,⟨[9]⟩⟩,none,false⟩,
    ⟨some 32,.binOp .lss 3 (.tmp 29) (.tmp 31) 3,none,false⟩,
    ⟨some 33,.move (.tmp 32),none,false⟩,
    ⟨some 34,.move (.tmp 0),some (some 33,true),false⟩,
    ⟨some 35,.move (.tmp 1),some (some 33,true),false⟩,
    ⟨some 36,.move (.tmp 9),some (some 33,true),false⟩,
    ⟨some 37,.binOp .add 3 (.tmp 36) (.const (.int .i64 1)) 3,some (some 33,true),false⟩,
    ⟨some 38,.slice 9 (.tmp 34) (some (.tmp 35)) (some (.tmp 37)) none,some (some 33,true),false⟩,
    ⟨some 39,.call ⟨.value (.func 119),⟨[(.tmp 38)]⟩,⟨[9]⟩⟩,some (some 33,true),false⟩,
    ⟨some 40,.pick (.tmp 33) (.tmp 39) (.const (.bool false)),none,false⟩])
    (.cond (.tmp 40)
     .skip
     (.exit 0)))
    (.block 1 (.reg [⟨some 41,.move (.tmp 9),none,false⟩,
     ⟨some 42,.binOp .add 3 (.tmp 41) (.const (.int .i64 1)) 3,none,false⟩,
     ⟨some 9,.assign (.tmp 42),none,false⟩])))))
  bH)))
  (.seq (.reg [⟨some 87,.move (.tmp 2),none,false⟩])
  (.cond (.tmp 87)
   (.seq (.reg [⟨some 88,.build 61 ⟨[]⟩,none,false⟩,
    ⟨some 89,.move (.tmp 8),none,false⟩,
    ⟨none,.store 61 (.tmp 6) (.tmp 88),none,false⟩,
    ⟨some 7,.assign (.tmp 89),none,false⟩])
   .ret)
   .skip))))
 bS)))
theorem AL:aS Tryz.prog 107 129 [.cell 6 61,.tmp 7] fM:=⟨_,_,Tryz.func107,by kernel_rfl,rfl,Tryz.ntmps107,rfl,by kernel_rfl⟩
theorem xM:aS Tryz.prog 96 52 [.tmp 4,.tmp 5] (gen [10] [(195,some (1,1))] [] Tryz.f96):=bq Tryz.func96 rfl (by kernel_rfl)
theorem AO:aS Tryz.prog 66 24 [.tmp 2,.tmp 3,.tmp 4] (gen [] [] [] Tryz.f66):=bq Tryz.func66 rfl (by kernel_rfl)
theorem xN:aS Tryz.prog 67 15 [.tmp 2] (gen [] [(9,none)] [] Tryz.f67):=bq Tryz.func67 rfl (by kernel_rfl)
theorem AP:aS Tryz.prog 34 20 [.tmp 2,.tmp 3] (gen [] [] [] Tryz.f34):=bq Tryz.func34 rfl (by kernel_rfl)
end Lp
namespace Lp
open Go Go.Proofs
theorem Nb (v:Vl) (i c:Nat) (hv:v.length≤4611686018427387904) (h:skip (v.drop i) 1=some c):ai Tryz.prog 187 [aM v,.int .i64 i] [] (.int .i64 (i+c:Nat)) []:=by
 refine Kh.pure (T:=aU Tryz.prog []) 0 hD (aj ah) aY (by decide) ?_
 (conv=>arg 4;cbv);simp only [↓yP,Dg,↓Aj,↓xE,↓Ak,xG,↓lV,mE,jo,fK,Cj,Nat.reduceAdd,Nat.reduceSub,qm,bL,Es,Et,vz]
 refine aH (fun m S=>∃ (j k c':Nat),m=c'∧skip (v.drop j) k=some c'∧j+c'=i+c∧S=⟨mkT 19 [(0,aM v),(1,.int .i64 j),(5,.int .i64 k)],[]⟩) c ⟨i,1,c,rfl,h,rfl,?_⟩ ?_
 · simp only [O4,aM,qm];rfl
 rintro m S ⟨j,k,c',rfl,hs,hj,rfl⟩
 simp only [↓yP,Dg,↓Aj,↓xE,↓Ak,xG,↓lV,mE,jo,fK,Cj,Nat.reduceAdd,Nat.reduceSub,qm,O4,bL,aM,av,Es,Et,vz,aZ,eY,aI,dX,↓yj,↓Ke,G7,sZ,Eu,GH,Bool.not_false,Bool.and_self,Nat.reduceLeDiff,forall_const,ne_eq,reduceCtorEq,not_false_eq_true,true_and,PV.bool.injEq,Int.toNat_natCast,Nat.zero_add,decide_eq_true_eq,List.length_cons,List.length_nil]
 refine ⟨fun hk=>?_,fun hk=>?_⟩
 · obtain ⟨k,rfl⟩:∃ k',k=k'+1:=⟨k-1,by omega⟩
   have hjl:j<v.length:=by
    rcases Nat.lt_or_ge j v.length with h' | h'
    · exact h'
    · rw [List.drop_eq_nil_of_le h'] at hs;simp [skip] at hs
   rw [List.drop_eq_getElem_cons hjl] at hs
   obtain ⟨hm,c'',rfl,hs'⟩:=cB hs
   have hle:=dV _ _ _ hs'
   simp only [List.length_drop] at hle
   have hk2:((k+1:Nat):Int)+(v[j].many-1)=((k+v[j].many.toNat:Nat):Int):=by omega
   exact ⟨by omega,v[j],List.getElem?_eq_getElem hjl,by omega,by omega,by omega,c'',by omega,j+1,k+v[j].many.toNat,c'',rfl,hs',by omega,by rw [hk2];rfl⟩
 · rw [if_pos trivial]
   have hk0:k=0:=by have:=of_decide_eq_false hk;omega
   subst hk0
   have:m=0:=by cases hd:v.drop j <;> rw [hd] at hs <;> simp [skip] at hs <;> exact hs.symm
   subst this
   congr 1;omega
def qf (v:Vl):Obj:=⟨27,6,v.map av,true,0⟩
theorem vP (v:Vl):fQ [qf v]:=by
 intro o ho x hx p hp
 simp only [List.mem_singleton] at ho
 subst ho
 simp only [qf,List.mem_map] at hx
 obtain ⟨n,_,rfl⟩:=hx
 simp only [av,PV.cells,List.mem_cons,List.not_mem_nil,or_false] at hp
 rcases hp with rfl | rfl | rfl | rfl | rfl | rfl <;> rfl
theorem PS (n:Nd):(av n).cells.length=6∧(av n).cells.all PV.storable=true:=⟨rfl,rfl⟩
theorem WH (d n:Nat) (objs:List Obj) (v:Vl):(v.map av).map (PV.bQ (fJ d n objs))=v.map av:=by
 rw [List.map_map]
 exact List.map_congr_left fun x _=>rfl
theorem Uf:ai Tryz.prog 188 [.sl 6 [] (some true)] [] (.bO 0 0) [qf []]:=by
 refine iD.made (T:=aU Tryz.prog []) 0 hD (aj ah) aY ?_
 (conv=>arg 4;cbv);simp only [↓yP,Dg,↓Aj,↓xE,↓Ak,xG,↓lV,Dh,Cj,Nat.reduceAdd,Nat.reduceSub,qm,O4,bL,Es,Et,vz,dP,forall_const,reduceCtorEq,false_imp_iff,and_true,TK.slice.injEq,exists_eq',true_and]
 exact ⟨_,0,0,_,Weak.Fy 2 27 6 rfl,rfl,rfl,rfl,rfl,rfl,vP []⟩
theorem PU (v:Vl) (hv:v.length≤1099511627776):ai Tryz.prog 188 [.sl 6 (v.map av) (some false)] [] (.bO 0 0) [qf v]:=by
 refine iD.made (T:=aU Tryz.prog []) 0 hD (aj ah) aY ?_
 (conv=>arg 4;cbv);simp only [↓yP,Dg,↓Aj,↓xE,↓Ak,xG,↓lV,Dh,Cj,Nat.reduceAdd,Nat.reduceSub,qm,O4,bL,Es,Et,vz,dP,forall_const,reduceCtorEq,false_imp_iff,and_true,TK.slice.injEq,exists_eq',true_and]
 simp only [bG,dK,lK,newObj,iH,bL,ne_eq,reduceCtorEq,not_false_eq_true,true_and,if_true,List.all_nil,Nat.zero_mul,Nat.zero_le,List.nil_append,List.length_nil,List.getElem?_cons_zero,Option.some.injEq]
 refine ⟨rfl,rfl,rfl,rfl,?_,_,rfl,rfl,rfl,rfl,rfl,?_,?_,fun _ _ h=>h.elim,_,0,2,_,Weak.refl _ _,rfl,rfl,rfl,rfl,?_,vP v⟩
 · intro y hy
   obtain ⟨n,_,rfl⟩:=List.mem_map.1 hy
   exact PS n
 · simp;omega
 · simp;omega
 · simp only [gy,qf,List.replicate_zero,List.nil_append,WH]
theorem PX (v:Vl) (hv:v.length≤1099511627776):ai Tryz.prog 188 [aM v] [] (.bO 0 0) [qf v]:=
 ai.split (pre:=[]) (post:=[]) (fun h=>by
  have:v=[]:=by simpa using h
  subst this
  exact Uf) (PU v hv)
end Lp
namespace Lp
open Go Go.Proofs
open List (length_cons length_nil)
def rowOf (p:Vl):List PV:=[.str (nameOf p),aM (jW p)]
def Ct:dN:=fun args objs K=>∃ (v:Vl) (i c:Nat),args=[aM v,.int .i64 i]∧v.length≤4611686018427387904∧skip (v.drop i) 1=some c∧K (.int .i64 (i+c:Nat)) objs 0
def FN:dN:=fun args objs K=>∃ v:Vl,args=[aM v]∧v.length≤1099511627776∧K (.bO objs.length 0) (objs++[qf v]) 2
theorem Kn:aD Tryz.prog 187 Ct:=by
 rintro args objs K ⟨v,i,c,rfl,hv,hs,hk⟩
 exact ⟨_,_,_,.pure _ rfl (Nb v i c hv hs),hk⟩
theorem Nc:aD Tryz.prog 188 FN:=by
 rintro args objs K ⟨v,rfl,hv,hk⟩
 have h:=nP.made (objs:=objs) _ _ rfl (vP v) (PX v hv)
 exact ⟨_,_,_,h,by simpa [PV.shift,PV.sP] using hk⟩
theorem Ug (v:Vl):ai Tryz.prog 174 [aM v] [] (.fn 186 [] [.addr (aM v)]) []:=by
 refine PN.pure (T:=aU Tryz.prog []) 1 hD (aj ah) aY (by decide) ?_
 (conv=>arg 4;cbv);simp only [↓yP,Dg,↓Aj,↓xE,↓Ak,xG,↓lV,mE,jo,fK,Nat.reduceAdd,Nat.reduceSub,qm,bL,GL,jD,newObj,aM,Eu,GH,ne_eq,reduceCtorEq,not_false_eq_true,true_and,length_cons,length_nil,List.nil_append]
 exact ⟨rfl,rfl,rfl⟩
theorem Dj (v:Vl) (n:Nd) (r:Vl) (ps:List Vl) (hv:v=n::r) (hl:v.length≤1099511627776) (hm:0≤n.many) (hp:parts n.many.toNat r=some ps) :
  Gives Tryz.prog 186 [.addr (aM v)] (ps.map rowOf):=by
 refine Kg.gives (fnT:=q9 [(187,Ct),(188,FN)]) hD (af Kn (af Nc ah)) aY ?_
 intro I J objs y hI G6 Wi
 subst hv
 (conv=>arg 4;cbv);simp only [↓yP,kiR,↓Aj,↓xE,↓Ak,xG,↓lV,Nat.reduceAdd,Nat.reduceSub,qm,bL,Es,Et,vz,aZ,eY,aI,dX,↓yj,↓Ke,G7,sZ,Eu,GH,aM,av,List.map_cons,Int.reduceToNat,Int.toNat_zero,Int.reduceLE,Bool.not_false,Bool.and_self,Nat.reduceLeDiff,forall_const,ne_eq,reduceCtorEq,not_false_eq_true,true_and,PV.bool.injEq,Int.toNat_natCast,Nat.zero_add,length_cons,length_nil]
 refine aH (fun m S=>∃ (k i:Nat) (O:List Obj) (rest:List Vl),k+rest.length=ps.length∧m=rest.length∧parts rest.length ((n::r).drop i)=some rest∧ps.drop k=rest∧I k O∧
  S=⟨mkT 34 [(0,.Ef y),(1,.addr (aM (n::r))),(3,.int .i64 i),(9,.int .i64 n.many),(10,.int .i64 k)],O⟩) ps.length ?_ ?_
 · have hpl:=bN _ _ _ hp
   refine ⟨0,1,objs,ps,by omega,rfl,by rw [hpl];simpa using hp,by simp,hI,?_⟩
   simp only [O4,aM,qm];rfl
 have hpl:=bN _ _ _ hp
 have Hg:n.many.toNat≤1099511627776:=by have:=fZ _ _ _ hp;simp at hl;omega
 generalize hv:n::r=v at *
 rintro m S ⟨k,i,O,rest,hk,rfl,hps,hd,Uh,rfl⟩
 simp only [↓yP,kiR,↓Aj,↓xE,↓Ak,xG,↓lV,Nat.reduceAdd,Nat.reduceSub,qm,bL,Es,Et,vz,Zz,ZA,Ct,FN,Nat.reduceBEq,BEq.rfl,cond_true,cond_false,iZ,dm,aZ,eY,aI,dX,↓yj,↓Ke,G7,sZ,Eu,GH,aM,List.map_cons,Int.reduceToNat,Int.toNat_zero,Int.reduceLE,Bool.not_false,Bool.and_self,Nat.reduceLeDiff,forall_const,ne_eq,reduceCtorEq,not_false_eq_true,true_and,PV.bool.injEq,Int.toNat_natCast,Nat.zero_add,length_cons,length_nil]
 refine ⟨fun hkm=>?_,fun hkm=>?_⟩
 · have adJ:(k:Int)<n.many:=of_decide_eq_true hkm
   obtain ⟨q,hq⟩:∃ q,rest.length=q+1:=⟨rest.length-1,by omega⟩
   rw [hq] at hps
   obtain ⟨c,qs,hsk,hr',hqs⟩:=eB hps
   have hc:=dV _ _ _ hsk
   simp only [List.length_drop] at hc
   have hlv:v.length≤1099511627776:=hl
   refine ⟨v,i,c,rfl,by omega,hsk,.inr trivial,by omega,by omega,by simp;omega,(v.drop i).take c,?_,by simp;omega,qf ((v.drop i).take c),by simp,rfl,rfl,by simp [qf];omega,rfl,qf ((v.drop i).take c),by simp,rfl,rfl,?_⟩
   · rw [← List.map_take,← List.map_drop,← List.take_drop]
   · obtain ⟨hdn,tl,hpe⟩:∃ a b,(v.drop i).take c=a::b:=by
      cases hx:(v.drop i).take c with
      | nil=>have:=congrArg List.length hx;simp at this;omega
      | cons a b=>exact ⟨a,b,rfl⟩
     rw [hpe] at hr' ⊢
     refine ⟨qf (hdn::tl),av hdn,by simp,rfl,rfl,rfl,by simp,rfl,by simp [av,PV.cells],(fun h=>by cases h),rfl,?_⟩
     have hset:(O++[qf (hdn::tl)]).set O.length { qf (hdn::tl) with xs:=(qf (hdn::tl)).xs.set 0 ((av hdn).putCells 2 (PV.str []).cells) }=O++[qf (jW (hdn::tl))]:=by
      rw [List.set_append_right _ _ (Nat.le_refl _),Nat.sub_self]
      rfl
     rw [hset]
     refine aT _ (Weak.freeze 1 O.length (G6 k O Uh).1 _) ?_
     have hgo:(O++[qf (jW (hdn::tl))])[O.length]?=some (qf (jW (hdn::tl))):=by simp
     have hfr:fJ 1 O.length (O++[qf (jW (hdn::tl))]) (.bO O.length 0)=aM (jW (hdn::tl)):=by
      simp only [fJ,Nat.lt_irrefl,if_false,jl,hgo]
      simp only [qf,Nat.le_refl,decide_true,Bool.and_self,BEq.rfl,if_true,aM,List.map_map]
      congr 1
     have hro:(O++[qf (jW (hdn::tl))]).take O.length=O:=by simp
     have hpost:∃ w,w=jW (hdn::tl):=⟨_,rfl⟩
     obtain ⟨pc,hpc⟩:=hpost
     rw [← hpc] at hfr hro hgo ⊢
     have hq1:(fJ 1 O.length (O++[qf pc]) (.bM O.length 0 0 0)).pure=true:=yo (Nat.le_refl _)
     have hq2:(fJ 1 O.length (O++[qf pc]) (.bM O.length 0 0 2)).pure=true:=yo (Nat.le_refl _)
     have hq3:(aM pc).pure=true:=rfl
     simp only [St.freeze,qm,fzR,Cj,hfr,hro,hq1,hq2,hq3,puR,LW,Bool.not_true,av,Em (G6 k O Uh).2,↓yP,kiR,↓Aj,↓xE,↓Ak,xG,↓lV,Nat.reduceAdd,Nat.reduceSub,bL,Es,Et,vz,Zz,VZ,aZ,eY,aI,dX,↓yj,↓Ke,G7,sZ,Eu,GH,Int.reduceToNat,Int.toNat_zero,Int.reduceLE,Bool.not_false,Bool.and_self,Nat.reduceLeDiff,forall_const,ne_eq,reduceCtorEq,not_false_eq_true,true_and,PV.bool.injEq,Int.toNat_natCast,Nat.zero_add,length_cons,length_nil]
     have hvi:v[i]?=some hdn:=by
      have:=congrArg (fun l=>l[0]?) hpe
      simp only [List.getElem?_cons_zero,List.getElem?_take,List.getElem?_drop,Nat.add_zero] at this
      rw [if_pos (by omega)] at this
      exact this
     have hpk:ps[k]?=some (hdn::tl):=by
      have:=congrArg (fun l=>l[0]?) (hd.trans hr')
      simpa using this
     have hdq:ps.drop (k+1)=qs:=by
      have:=congrArg List.tail (hd.trans hr')
      simpa [List.tail_drop] using this
     have hlq:qs.length=q:=by rw [hr'] at hq;simpa using hq
     refine ⟨by omega,hdn,hvi,k,Uh,?_,fun objs' hI'=>⟨fun h=>h.elim,⟨by omega,by omega⟩,qs.length,by omega,k+1,i+c,objs',qs,by omega,rfl,?_,hdq,hI',?_⟩,fun objs' hJ'=>?_⟩
     · rw [List.getElem?_map,hpk,hpc];rfl
     · rw [hlq];rw [List.drop_drop] at hqs;exact hqs
     · simp only [O4,aM,qm];rfl
     · exact ⟨⟨.inr rfl,.inr ⟨k,by rw [List.length_map];omega,hJ'⟩⟩,fun h=>h.elim⟩
 · rw [if_pos trivial]
   have hge:¬ (k:Int)<n.many:=of_decide_eq_false hkm
   refine ⟨.inl rfl,?_⟩
   have:k=ps.length:=by omega
   rw [List.length_map,← this]
   exact .inl Uh
end Lp
namespace Lp
open Go Go.Proofs
open List (length_cons length_nil mem_singleton nil_append)
def AQ:dN:=fun args objs K=>∃ v:Vl,args=[aM v]∧K (.fn 186 [] [.addr (aM v)]) objs 0
theorem FO:aD Tryz.prog 174 AQ:=by
 rintro args objs K ⟨v,rfl,hk⟩
 exact ⟨_,_,_,.pure _ rfl (Ug v),hk⟩
def Ui (done:List Vl) (O:List Obj):Prop:=
 (done=[]∧O=[⟨80,1,[.sl 0 [] (some true)],true,1⟩])∨
 (done≠[]∧∃ ver,O=[⟨80,1,[.bO 1 ver],true,1⟩,⟨41,1,done.map fun p=>aM (jW p),true,ver⟩])
theorem Nf (v:Vl) (n:Nd) (r:Vl) (ps:List Vl) (hv:v=n::r) (hl:v.length≤1099511627776) (hm:0≤n.many) (hp:parts n.many.toNat r=some ps) :
  ai Tryz.prog 151 [aM v] [] (if ps=[] then .sl 0 [] (some true) else .sl 1 (ps.map fun p=>aM (jW p)) none) []:=by
 refine M0.pure (T:=aU Tryz.prog [(174,AQ)]) 2 hD (aj (af FO ah)) aY (by decide) ?_
 (conv=>arg 4;cbv);simp only [↓yP,Dg,↓Aj,↓xE,↓Ak,xG,↓lV,Nat.reduceAdd,Nat.reduceSub,qm,bL,Zz,ZA,AQ,Nat.reduceBEq,BEq.rfl,cond_true,cond_false,qC,newObj,aF,Eu,GH,ne_eq,reduceCtorEq,not_false_eq_true,true_and,length_cons,length_nil,nil_append]
 refine ⟨rfl,v,rfl,?_⟩
 refine PK 186 [.addr (aM v)] (ps.map rowOf) (fun i O=>Ui (ps.take i) O∧i≤ps.length) rfl rfl rfl trivial (Dj v n r ps hv hl hm hp) ?_ ⟨.inl ⟨by simp,rfl⟩,Nat.zero_le _⟩ ?_ ?_ ?_
 · intro y hy
   obtain ⟨p,_,rfl⟩:=List.mem_map.1 hy
   rfl
 · rintro i O ⟨h | ⟨_,ver,rfl⟩,_⟩
   · rw [h.2]
     refine ⟨by simp,?_⟩
     intro o ho x hx c hc
     simp only [mem_singleton] at ho
     subst ho
     simp only [mem_singleton] at hx
     subst hx
     simp only [PV.cells,mem_singleton] at hc
     subst hc
     rfl
   · refine ⟨by simp,?_⟩
     intro o ho x hx c hc
     simp only [List.mem_cons,List.not_mem_nil,or_false] at ho
     rcases ho with rfl | rfl
     · simp only [mem_singleton] at hx
       subst hx
       simp only [PV.cells,mem_singleton] at hc
       subst hc
       rfl
     · simp only [List.mem_map] at hx
       obtain ⟨p,_,rfl⟩:=hx
       simp only [aM,PV.cells,mem_singleton] at hc
       subst hc
       rfl
 · rintro i args O ⟨hO,hi⟩ ha
   rw [List.getElem?_map] at ha
   obtain ⟨p,hpi,rfl⟩:∃ p,ps[i]?=some p∧rowOf p=args:=by
    cases hx:ps[i]? with
    | none=>rw [hx] at ha;simp at ha
    | some p=>rw [hx] at ha;exact ⟨p,rfl,by simpa using ha⟩
   have hil:i<ps.length:=(List.getElem?_eq_some_iff.1 hpi).1
   have htk:ps.take (i+1)=ps.take i++[p]:=by rw [List.take_add_one,hpi];rfl
   rcases hO with ⟨h0,rfl⟩ | ⟨h0,ver,rfl⟩
   · simp only [rowOf,pO,Wn,↓Ke,↓FK,reduceIte,Bool.false_eq_true,if_false,↓yP,↓Aj,↓xE,↓Ak,xG,↓lV,Nat.reduceAdd,Nat.reduceSub,qm,bL,dP,eY,bG,dK,lK,newObj,iH,jF,aF,G7,sZ,Eu,GH,ne_eq,reduceCtorEq,not_false_eq_true,true_and,length_cons,length_nil,nil_append]
     refine ⟨by decide,fun _=>trivial,rfl,by decide,rfl,rfl,rfl,?_,by decide,by decide,by decide,fun _=>trivial,rfl,.inr ⟨by rw [htk];simp,1,?_⟩,by omega⟩
     · intro y hy
       simp only [mem_singleton] at hy
       subst hy
       exact ⟨rfl,rfl⟩
     · rw [htk,h0];rfl
   · have hlen:ps.length≤1099511627776:=by
      have h1:=bN _ _ _ hp
      have h2:=fZ _ _ _ hp
      rw [hv] at hl
      simp at hl
      omega
     simp only [rowOf,pO,Wn,↓Ke,↓FK,reduceIte,Bool.false_eq_true,if_false,↓yP,↓Aj,↓xE,↓Ak,xG,↓lV,Nat.reduceAdd,Nat.reduceSub,qm,bL,dP,eY,bG,dK,lK,newObj,iH,jF,aF,G7,sZ,Eu,GH,ne_eq,reduceCtorEq,not_false_eq_true,true_and,length_cons,length_nil,nil_append]
     refine ⟨by decide,fun _=>trivial,rfl,by decide,rfl,rfl,rfl,?_,by simp;omega,by simp;omega,fun _ _ h=>h.elim,by decide,fun _=>trivial,rfl,.inr ⟨by rw [htk];simp,ver+1,?_⟩,by omega⟩
     · intro y hy
       simp only [mem_singleton] at hy
       subst hy
       exact ⟨rfl,rfl⟩
     · rw [htk,List.map_append];rfl
 · rintro O ⟨hO,_⟩
   rw [List.length_map,List.take_length] at hO
   rcases hO with ⟨h0,rfl⟩ | ⟨h0,ver,rfl⟩
   · rw [if_pos h0]
     simp only [Wn,↓Ke,↓FK,reduceIte,↓xE,xG,qm,eY,G7,sZ,Eu,GH,mE,jo,fK,Cj,fzR,ne_eq,reduceCtorEq,not_false_eq_true,true_and,length_cons,length_nil,nil_append]
     exact ⟨by decide,fun _=>trivial,rfl,trivial⟩
   · rw [if_neg h0]
     simp only [Wn,↓Ke,↓FK,reduceIte,↓xE,xG,qm,eY,G7,sZ,Eu,GH,mE,jo,fK,Cj,fzR,ne_eq,reduceCtorEq,not_false_eq_true,true_and,length_cons,length_nil,nil_append]
     refine ⟨by decide,fun _=>trivial,rfl,?_⟩
     simp only [fJ,Nat.not_lt_zero,if_false,jl,List.getElem?_cons_succ,List.getElem?_cons_zero,Nat.le_refl,Nat.zero_le,decide_true,Bool.and_self,BEq.rfl,if_true,List.map_map]
     congr 1
theorem PY (v:Vl) (n:Nd) (r:Vl) (ps:List Vl) (hv:v=n::r) (hl:v.length≤1099511627776) (hm:0≤n.many) (hp:parts n.many.toNat r=some ps) :
  ai Tryz.prog 151 [aM v] [] (.sl 1 (ps.map fun p=>aM (jW p)) none) []:=by
 refine (Nf v n r ps hv hl hm hp).Wl fun w ok u h=>?_
 split at h
 · rename_i h0
   subst h0
   exact Ka h (by simp)
 · exact h
end Lp
namespace Lp
open Go Go.Proofs
open List (length_cons length_nil map_map mem_singleton nil_append)
def Uj (done:List Vl) (O:List Obj):Prop:=
 (done=[]∧O=[⟨91,1,[.sl 0 [] (some true)],true,1⟩])∨
 (done≠[]∧∃ ver,O=[⟨91,1,[.bO 1 ver],true,1⟩,⟨9,1,done.map fun p=>.str (nameOf p),true,ver⟩])
theorem Ng (v:Vl) (n:Nd) (r:Vl) (ps:List Vl) (hv:v=n::r) (hl:v.length≤1099511627776) (hm:0≤n.many) (hp:parts n.many.toNat r=some ps) :
  ai Tryz.prog 149 [aM v] [] (if n.kind=6∧ps≠[] then .sl 1 (ps.map fun p=>.str (nameOf p)) none else .sl 0 [] (some true)) []:=by
 subst hv
 refine MZ.pure (T:=aU Tryz.prog [(174,AQ)]) 2 hD (aj (af FO ah)) aY (by decide) ?_
 (conv=>arg 4;cbv);simp only [↓yP,Dg,↓Aj,↓xE,↓Ak,xG,↓lV,Nat.reduceAdd,Nat.reduceSub,qm,bL,Zz,ZA,AQ,Nat.reduceBEq,BEq.rfl,cond_true,cond_false,qC,newObj,aF,↓yj,↓Ke,aZ,eY,aI,dX,aM,av,Es,Et,G7,sZ,List.map_cons,Int.reduceToNat,Int.toNat_zero,Int.reduceLE,Nat.reduceLeDiff,forall_const,Bool.not_false,Bool.and_self,↓FK,Wn,mE,jo,fK,Cj,Eu,GH,ne_eq,reduceCtorEq,not_false_eq_true,true_and,length_cons,length_nil,nil_append]
 refine ⟨rfl,fun hk=>⟨n::r,rfl,?_⟩,fun hk=>?_⟩
 · have hk6:n.kind=6:=of_decide_eq_true hk
   refine PK 186 [.addr (aM (n::r))] (ps.map rowOf) (fun i O=>Uj (ps.take i) O∧i≤ps.length) rfl rfl rfl trivial (Dj (n::r) n r ps rfl hl hm hp) ?_ ⟨.inl ⟨by simp,rfl⟩,Nat.zero_le _⟩ ?_ ?_ ?_
   · intro y hy
     obtain ⟨p,_,rfl⟩:=List.mem_map.1 hy
     rfl
   · rintro i O ⟨h | ⟨_,ver,rfl⟩,_⟩
     · rw [h.2]
       refine ⟨by simp,?_⟩
       intro o ho x hx c hc
       simp only [mem_singleton] at ho
       subst ho
       simp only [mem_singleton] at hx
       subst hx
       simp only [PV.cells,mem_singleton] at hc
       subst hc
       rfl
     · refine ⟨by simp,?_⟩
       intro o ho x hx c hc
       simp only [List.mem_cons,List.not_mem_nil,or_false] at ho
       rcases ho with rfl | rfl
       · simp only [mem_singleton] at hx
         subst hx
         simp only [PV.cells,mem_singleton] at hc
         subst hc
         rfl
       · simp only [List.mem_map] at hx
         obtain ⟨p,_,rfl⟩:=hx
         simp only [PV.cells,mem_singleton] at hc
         subst hc
         rfl
   · rintro i args O ⟨hO,hi⟩ ha
     rw [List.getElem?_map] at ha
     obtain ⟨p,hpi,rfl⟩:∃ p,ps[i]?=some p∧rowOf p=args:=by
      cases hx:ps[i]? with
      | none=>rw [hx] at ha;simp at ha
      | some p=>rw [hx] at ha;exact ⟨p,rfl,by simpa using ha⟩
     have hil:i<ps.length:=(List.getElem?_eq_some_iff.1 hpi).1
     have htk:ps.take (i+1)=ps.take i++[p]:=by rw [List.take_add_one,hpi];rfl
     rcases hO with ⟨h0,rfl⟩ | ⟨h0,ver,rfl⟩
     · simp only [rowOf,pO,Wn,↓Ke,↓FK,reduceIte,Bool.false_eq_true,if_false,↓yP,↓Aj,↓xE,↓Ak,xG,↓lV,Nat.reduceAdd,Nat.reduceSub,qm,bL,dP,eY,bG,dK,lK,newObj,iH,jF,aF,G7,sZ,Eu,GH,ne_eq,reduceCtorEq,not_false_eq_true,true_and,length_cons,length_nil,nil_append]
       refine ⟨by decide,fun _=>trivial,rfl,by decide,rfl,rfl,rfl,?_,by decide,by decide,by decide,fun _=>trivial,rfl,.inr ⟨by rw [htk];simp,1,?_⟩,by omega⟩
       · intro y hy
         simp only [mem_singleton] at hy
         subst hy
         exact ⟨rfl,rfl⟩
       · rw [htk,h0];rfl
     · have hlen:ps.length≤1099511627776:=by
        have h1:=bN _ _ _ hp
        have h2:=fZ _ _ _ hp
        simp at hl
        omega
       simp only [rowOf,pO,Wn,↓Ke,↓FK,reduceIte,Bool.false_eq_true,if_false,↓yP,↓Aj,↓xE,↓Ak,xG,↓lV,Nat.reduceAdd,Nat.reduceSub,qm,bL,dP,eY,bG,dK,lK,newObj,iH,jF,aF,G7,sZ,Eu,GH,ne_eq,reduceCtorEq,not_false_eq_true,true_and,length_cons,length_nil,nil_append]
       refine ⟨by decide,fun _=>trivial,rfl,by decide,rfl,rfl,rfl,?_,by simp;omega,by simp;omega,fun _ _ h=>h.elim,by decide,fun _=>trivial,rfl,.inr ⟨by rw [htk];simp,ver+1,?_⟩,by omega⟩
       · intro y hy
         simp only [mem_singleton] at hy
         subst hy
         exact ⟨rfl,rfl⟩
       · rw [htk,List.map_append];rfl
   · rintro O ⟨hO,_⟩
     rw [List.length_map,List.take_length] at hO
     rcases hO with ⟨h0,rfl⟩ | ⟨h0,ver,rfl⟩
     · rw [if_neg (fun h=>h.2 h0)]
       simp only [Wn,↓Ke,↓FK,reduceIte,↓xE,xG,qm,eY,G7,sZ,Eu,GH,mE,jo,fK,Cj,fzR,ne_eq,reduceCtorEq,not_false_eq_true,true_and,length_cons,length_nil,nil_append]
       simp
     · rw [if_pos ⟨hk6,h0⟩]
       simp only [Wn,↓Ke,↓FK,reduceIte,↓xE,xG,qm,eY,G7,sZ,Eu,GH,mE,jo,fK,Cj,fzR,ne_eq,reduceCtorEq,not_false_eq_true,true_and,length_cons,length_nil,nil_append]
       refine ⟨by decide,rfl,?_⟩
       simp only [fJ,Nat.not_lt_zero,if_false,jl,List.getElem?_cons_succ,List.getElem?_cons_zero,Nat.le_refl,Nat.zero_le,decide_true,Bool.and_self,BEq.rfl,if_true,map_map]
       congr 1
 · have hk6:n.kind≠6:=of_decide_eq_false hk
   rw [if_neg (fun h=>hk6 h.1)]
theorem PZ (v:Vl) (n:Nd) (r:Vl) (ps:List Vl) (hv:v=n::r) (hl:v.length≤1099511627776) (hm:0≤n.many) (hp:parts n.many.toNat r=some ps) :
  ai Tryz.prog 149 [aM v] [] (.sl 1 ((JI n ps).map .str) none) []:=by
 refine (Ng v n r ps hv hl hm hp).Wl fun w ok u h=>?_
 unfold JI
 by_cases hk:n.kind=6
 · rw [if_pos hk]
   by_cases h0:ps=[]
   · subst h0
     rw [if_neg (fun h=>h.2 rfl)] at h
     exact Ka h (by simp)
   · rw [if_pos ⟨hk,h0⟩] at h
     rw [map_map]
     exact h
 · rw [if_neg hk]
   rw [if_neg (fun h=>hk h.1)] at h
   exact Ka h (by simp)
end Lp
namespace Lp
open Go Go.Proofs
theorem WI (x y:Nd):fJ 1 0 [⟨27,6,[av x],true,1⟩,⟨27,6,[av y],true,1⟩] (.bM 0 1 0 0)=.addr (av x):=rfl
theorem WJ (x y:Nd):fJ 1 0 [⟨27,6,[av x],true,1⟩,⟨27,6,[av y],true,1⟩] (.bM 1 1 0 0)=.addr (av y):=rfl
theorem je (x:Nd):fJ 1 0 [⟨27,6,[av x],true,1⟩] (.bM 0 1 0 0)=.addr (av x):=rfl
theorem tf (p:Prop):p=True∨p=False:=by
 by_cases h:p
 · exact .inl (eq_true h)
 · exact .inr (eq_false h)
end Lp
namespace Lp
open Go Go.Proofs
open Nat (reduceAdd reduceLeDiff reduceMul reduceSub)
open Int (reduceLE reduceToNat)
open Bool (false_eq_true)
theorem jf (c:UInt8) (n:Nat) (h:n<256):(c<UInt8.ofNat n↔c.toNat<n)∧(UInt8.ofNat n≤c↔n≤c.toNat):=by
 have e:(UInt8.ofNat n).toNat=n:=by simp [UInt8.toNat_ofNat'];omega
 constructor
 · rw [UInt8.lt_iff_toNat_lt,e]
 · rw [UInt8.le_iff_toNat_le,e]
theorem P5 {s:List UInt8}{i:Nat}{c:UInt8}(h:s[i]?=some c):gI s i=(decide (128≤c.toNat) && decide (c.toNat<192)):=by
 have h1:128≤c↔128≤c.toNat:=(jf c 128 (by omega)).2
 have h2:c<192↔c.toNat<192:=(jf c 192 (by omega)).1
 simp only [gI,h]
 rw [decide_eq_decide.2 h1,decide_eq_decide.2 h2]
theorem Uk (s:List UInt8) (i:Int) (hi:0≤i):ai Tryz.prog 92 [.str s,.int .i64 i] [] (.bool (gI s i.toNat)) []:=by
 refine Ar.pure (T:=aU Tryz.prog []) 0 hD (aj ah) aY (by decide) ?_
 rcases Nat.lt_or_ge i.toNat s.length with h | h
 · have hg:=List.getElem?_eq_getElem h
   generalize s[i.toNat]=c at hg
   (conv=>arg 4;cbv);simp(maxSteps:=400000)only[↓aN,aO,BEq.rfl,reduceIte,reduceCtorEq,Nat.reduceLT,reduceAdd,reduceSub,reduceMul,Nat.reduceBEq,reduceLeDiff,reduceToNat,reduceLE,hg,P5 hg]
   refine ⟨fun _=>⟨hi,fun h1=>⟨hi,?_⟩,fun h1=>?_⟩,fun h2=>absurd (by omega) h2⟩
   · have:128≤c.toNat:=by omega
     simp only [this,decide_true,Bool.true_and]
     exact decide_eq_decide.2 (by omega)
   · have:¬ 128≤c.toNat:=by omega
     simp only [this,decide_false,Bool.false_and]
 · have hn:s[i.toNat]?=none:=List.getElem?_eq_none h
   (conv=>arg 4;cbv);simp(maxSteps:=400000)only[↓aN,aO,BEq.rfl,reduceIte,reduceCtorEq,Nat.reduceLT,reduceAdd,reduceSub,reduceMul,Nat.reduceBEq,reduceLeDiff,reduceToNat,reduceLE]
   simp only [gI,hn]
   exact ⟨fun hh=>absurd hh (by omega),fun _=>trivial⟩
def d_:dN:=fun args objs K=>match args with
 | [.str s,.int .i64 i]=>(0≤i)∧K (.bool (gI s i.toNat)) objs 0
 | _=>False
theorem P6:aD Tryz.prog 92 (d_):=by
 intro args objs K h
 unfold d_ at h
 split at h
 · rename_i s i
   obtain ⟨h1,hk⟩:=h
   exact ⟨_,_,_,.pure _ rfl (Uk s i h1),hk⟩
 · exact h.elim
theorem za (s:List UInt8) (i k:Nat):gI (s.drop i) k=gI s (i+k):=by
 simp only [gI,List.getElem?_drop]
theorem Cu {s:List UInt8}{i:Nat}(h:gI s i=true):∃ d,s[i]?=some d:=by
 unfold gI at h
 split at h
 · rename_i b hb;exact ⟨b,hb⟩
 · cases h
theorem Ul (s:List UInt8) (i:Nat) (hi:i<s.length) (hl:s.length≤4611686018427387904):ai Tryz.prog 62 [.str s,.int .i64 i] [] (.int .i64 (bU (s.drop i):Nat)) []:=by
 have hg:=List.getElem?_eq_getElem hi
 have hd:=List.drop_eq_getElem_cons hi
 generalize s[i]=c at hg hd
 have c0:gI (s.drop (i+1)) 0=gI s (i+1):=za s (i+1) 0
 have c1:gI (s.drop (i+1)) 1=gI s (i+2):=za s (i+1) 1
 have c2:gI (s.drop (i+1)) 2=gI s (i+3):=za s (i+1) 2
 have n1:((i:Int)+1).toNat=i+1:=by omega
 have n2:((i:Int)+2).toNat=i+2:=by omega
 have n3:((i:Int)+3).toNat=i+3:=by omega
 have z0:(0≤(i:Int))=True:=eq_true (by omega)
 have z1:(0≤(i:Int)+1)=True:=eq_true (by omega)
 have z2:(0≤(i:Int)+2)=True:=eq_true (by omega)
 have z3:(0≤(i:Int)+3)=True:=eq_true (by omega)
 have i1:(-9223372036854775808≤(i:Int)+1∧(i:Int)+1≤9223372036854775807)=True:=eq_true ⟨by omega,by omega⟩
 have i2:(-9223372036854775808≤(i:Int)+2∧(i:Int)+2≤9223372036854775807)=True:=eq_true ⟨by omega,by omega⟩
 have i3:(-9223372036854775808≤(i:Int)+3∧(i:Int)+3≤9223372036854775807)=True:=eq_true ⟨by omega,by omega⟩
 suffices gen:∀ Q:Exit→St→Prop,(∀ (l:List (Nat×PV)) (v:Nat),lW l 4=.int .i64 v→v=bU (c::s.drop (i+1))→Q .ret ⟨dU 109 l,[]⟩)→
   kZ Tryz.prog D (aU Tryz.prog [(92,d_)]) qo Q (dw [.str s,.int .i64 i] 109) by
  rw [hd]
  refine Ap.pure (T:=aU Tryz.prog [(92,d_)]) 0 hD (aj (af P6 ah)) aY (by decide) ?_
  refine gen _ fun l v h1 h2=>?_
  subst h2
  simp only [mE,jo,fK,aaT,rq,Nat.reduceLT,h1,List.map_cons,List.map_nil,Cj]
 intro Q hQ
 have hc:c.toNat<256:=c.toNat_lt
 have h6:c.toNat<128∨(128≤c.toNat∧c.toNat<194)∨(194≤c.toNat∧c.toNat<224)∨(224≤c.toNat∧c.toNat<240)∨(240≤c.toNat∧c.toNat<245)∨245≤c.toNat:=by omega
 rcases h6 with h | h | h | h | h | h
 · skip
   have f0:(((c.toNat:Int)<128)=True):=eq_true (by omega)
   have f1:((128≤(c.toNat:Int))=False):=eq_false (by omega)
   have f2:((c<128)=True):=eq_true ((jf c 128 (by omega)).1.2 (by omega))
   have f3:((128≤c)=False):=eq_false fun hh=>by have:=(jf c 128 (by omega)).2.1 hh;omega
   have f4:(((c.toNat:Int)<194)=True):=eq_true (by omega)
   have f5:((194≤(c.toNat:Int))=False):=eq_false (by omega)
   have f6:((c<194)=True):=eq_true ((jf c 194 (by omega)).1.2 (by omega))
   have f7:((194≤c)=False):=eq_false fun hh=>by have:=(jf c 194 (by omega)).2.1 hh;omega
   have f8:(((c.toNat:Int)<224)=True):=eq_true (by omega)
   have f9:((224≤(c.toNat:Int))=False):=eq_false (by omega)
   have f10:((c<224)=True):=eq_true ((jf c 224 (by omega)).1.2 (by omega))
   have f11:((224≤c)=False):=eq_false fun hh=>by have:=(jf c 224 (by omega)).2.1 hh;omega
   have f12:(((c.toNat:Int)<240)=True):=eq_true (by omega)
   have f13:((240≤(c.toNat:Int))=False):=eq_false (by omega)
   have f14:((c<240)=True):=eq_true ((jf c 240 (by omega)).1.2 (by omega))
   have f15:((240≤c)=False):=eq_false fun hh=>by have:=(jf c 240 (by omega)).2.1 hh;omega
   have f16:(((c.toNat:Int)<245)=True):=eq_true (by omega)
   have f17:((245≤(c.toNat:Int))=False):=eq_false (by omega)
   have f18:((c<245)=True):=eq_true ((jf c 245 (by omega)).1.2 (by omega))
   have f19:((245≤c)=False):=eq_false fun hh=>by have:=(jf c 245 (by omega)).2.1 hh;omega
   (conv=>arg 4;cbv);simp(maxSteps:=400000)only[↓aN,aO,BEq.rfl,reduceIte,reduceCtorEq,Nat.reduceLT,reduceAdd,reduceSub,reduceMul,Nat.reduceBEq,reduceLeDiff,reduceToNat,reduceLE,hg,↓d_,n1,n2,n3,z0,z1,z2,z3,i1,i2,i3,f0,f1,f2,f3,f4,f5,f6,f7,f8,f9,f10,f11,f12,f13,f14,f15,f16,f17,f18,f19]
   exact hQ _ 1 rfl (by simp only [true_or,or_true,or_self,or_false,false_or,and_self,true_and,and_true,false_and,and_false,if_true,if_false,false_eq_true,c0,c1,c2,bU,f0,f1,f2,f3,f4,f5,f6,f7,f8,f9,f10,f11,f12,f13,f14,f15,f16,f17,f18,f19])
 · skip
   have f0:(((c.toNat:Int)<128)=False):=eq_false (by omega)
   have f1:((128≤(c.toNat:Int))=True):=eq_true (by omega)
   have f2:((c<128)=False):=eq_false fun hh=>by have:=(jf c 128 (by omega)).1.1 hh;omega
   have f3:((128≤c)=True):=eq_true ((jf c 128 (by omega)).2.2 (by omega))
   have f4:(((c.toNat:Int)<194)=True):=eq_true (by omega)
   have f5:((194≤(c.toNat:Int))=False):=eq_false (by omega)
   have f6:((c<194)=True):=eq_true ((jf c 194 (by omega)).1.2 (by omega))
   have f7:((194≤c)=False):=eq_false fun hh=>by have:=(jf c 194 (by omega)).2.1 hh;omega
   have f8:(((c.toNat:Int)<224)=True):=eq_true (by omega)
   have f9:((224≤(c.toNat:Int))=False):=eq_false (by omega)
   have f10:((c<224)=True):=eq_true ((jf c 224 (by omega)).1.2 (by omega))
   have f11:((224≤c)=False):=eq_false fun hh=>by have:=(jf c 224 (by omega)).2.1 hh;omega
   have f12:(((c.toNat:Int)<240)=True):=eq_true (by omega)
   have f13:((240≤(c.toNat:Int))=False):=eq_false (by omega)
   have f14:((c<240)=True):=eq_true ((jf c 240 (by omega)).1.2 (by omega))
   have f15:((240≤c)=False):=eq_false fun hh=>by have:=(jf c 240 (by omega)).2.1 hh;omega
   have f16:(((c.toNat:Int)<245)=True):=eq_true (by omega)
   have f17:((245≤(c.toNat:Int))=False):=eq_false (by omega)
   have f18:((c<245)=True):=eq_true ((jf c 245 (by omega)).1.2 (by omega))
   have f19:((245≤c)=False):=eq_false fun hh=>by have:=(jf c 245 (by omega)).2.1 hh;omega
   (conv=>arg 4;cbv);simp(maxSteps:=400000)only[↓aN,aO,BEq.rfl,reduceIte,reduceCtorEq,Nat.reduceLT,reduceAdd,reduceSub,reduceMul,Nat.reduceBEq,reduceLeDiff,reduceToNat,reduceLE,hg,↓d_,n1,n2,n3,z0,z1,z2,z3,i1,i2,i3,f0,f1,f2,f3,f4,f5,f6,f7,f8,f9,f10,f11,f12,f13,f14,f15,f16,f17,f18,f19]
   exact hQ _ 0 rfl (by simp only [true_or,or_true,or_self,or_false,false_or,and_self,true_and,and_true,false_and,and_false,if_true,if_false,false_eq_true,c0,c1,c2,bU,f0,f1,f2,f3,f4,f5,f6,f7,f8,f9,f10,f11,f12,f13,f14,f15,f16,f17,f18,f19])
 · skip
   have f0:(((c.toNat:Int)<128)=False):=eq_false (by omega)
   have f1:((128≤(c.toNat:Int))=True):=eq_true (by omega)
   have f2:((c<128)=False):=eq_false fun hh=>by have:=(jf c 128 (by omega)).1.1 hh;omega
   have f3:((128≤c)=True):=eq_true ((jf c 128 (by omega)).2.2 (by omega))
   have f4:(((c.toNat:Int)<194)=False):=eq_false (by omega)
   have f5:((194≤(c.toNat:Int))=True):=eq_true (by omega)
   have f6:((c<194)=False):=eq_false fun hh=>by have:=(jf c 194 (by omega)).1.1 hh;omega
   have f7:((194≤c)=True):=eq_true ((jf c 194 (by omega)).2.2 (by omega))
   have f8:(((c.toNat:Int)<224)=True):=eq_true (by omega)
   have f9:((224≤(c.toNat:Int))=False):=eq_false (by omega)
   have f10:((c<224)=True):=eq_true ((jf c 224 (by omega)).1.2 (by omega))
   have f11:((224≤c)=False):=eq_false fun hh=>by have:=(jf c 224 (by omega)).2.1 hh;omega
   have f12:(((c.toNat:Int)<240)=True):=eq_true (by omega)
   have f13:((240≤(c.toNat:Int))=False):=eq_false (by omega)
   have f14:((c<240)=True):=eq_true ((jf c 240 (by omega)).1.2 (by omega))
   have f15:((240≤c)=False):=eq_false fun hh=>by have:=(jf c 240 (by omega)).2.1 hh;omega
   have f16:(((c.toNat:Int)<245)=True):=eq_true (by omega)
   have f17:((245≤(c.toNat:Int))=False):=eq_false (by omega)
   have f18:((c<245)=True):=eq_true ((jf c 245 (by omega)).1.2 (by omega))
   have f19:((245≤c)=False):=eq_false fun hh=>by have:=(jf c 245 (by omega)).2.1 hh;omega
   cases k1:gI s (i+1)
   · skip
     (conv=>arg 4;cbv);simp(maxSteps:=400000)only[↓aN,aO,BEq.rfl,reduceIte,reduceCtorEq,Nat.reduceLT,reduceAdd,reduceSub,reduceMul,Nat.reduceBEq,reduceLeDiff,reduceToNat,reduceLE,hg,↓d_,n1,n2,n3,z0,z1,z2,z3,i1,i2,i3,f0,f1,f2,f3,f4,f5,f6,f7,f8,f9,f10,f11,f12,f13,f14,f15,f16,f17,f18,f19,k1]
     exact hQ _ 0 rfl (by simp only [true_or,or_true,or_self,or_false,false_or,and_self,true_and,and_true,false_and,and_false,if_true,if_false,false_eq_true,c0,c1,c2,bU,f0,f1,f2,f3,f4,f5,f6,f7,f8,f9,f10,f11,f12,f13,f14,f15,f16,f17,f18,f19,k1])
   · skip
     (conv=>arg 4;cbv);simp(maxSteps:=400000)only[↓aN,aO,BEq.rfl,reduceIte,reduceCtorEq,Nat.reduceLT,reduceAdd,reduceSub,reduceMul,Nat.reduceBEq,reduceLeDiff,reduceToNat,reduceLE,hg,↓d_,n1,n2,n3,z0,z1,z2,z3,i1,i2,i3,f0,f1,f2,f3,f4,f5,f6,f7,f8,f9,f10,f11,f12,f13,f14,f15,f16,f17,f18,f19,k1]
     exact hQ _ 2 rfl (by simp only [true_or,or_true,or_self,or_false,false_or,and_self,true_and,and_true,false_and,and_false,if_true,if_false,false_eq_true,c0,c1,c2,bU,f0,f1,f2,f3,f4,f5,f6,f7,f8,f9,f10,f11,f12,f13,f14,f15,f16,f17,f18,f19,k1])
 · skip
   have f0:(((c.toNat:Int)<128)=False):=eq_false (by omega)
   have f1:((128≤(c.toNat:Int))=True):=eq_true (by omega)
   have f2:((c<128)=False):=eq_false fun hh=>by have:=(jf c 128 (by omega)).1.1 hh;omega
   have f3:((128≤c)=True):=eq_true ((jf c 128 (by omega)).2.2 (by omega))
   have f4:(((c.toNat:Int)<194)=False):=eq_false (by omega)
   have f5:((194≤(c.toNat:Int))=True):=eq_true (by omega)
   have f6:((c<194)=False):=eq_false fun hh=>by have:=(jf c 194 (by omega)).1.1 hh;omega
   have f7:((194≤c)=True):=eq_true ((jf c 194 (by omega)).2.2 (by omega))
   have f8:(((c.toNat:Int)<224)=False):=eq_false (by omega)
   have f9:((224≤(c.toNat:Int))=True):=eq_true (by omega)
   have f10:((c<224)=False):=eq_false fun hh=>by have:=(jf c 224 (by omega)).1.1 hh;omega
   have f11:((224≤c)=True):=eq_true ((jf c 224 (by omega)).2.2 (by omega))
   have f12:(((c.toNat:Int)<240)=True):=eq_true (by omega)
   have f13:((240≤(c.toNat:Int))=False):=eq_false (by omega)
   have f14:((c<240)=True):=eq_true ((jf c 240 (by omega)).1.2 (by omega))
   have f15:((240≤c)=False):=eq_false fun hh=>by have:=(jf c 240 (by omega)).2.1 hh;omega
   have f16:(((c.toNat:Int)<245)=True):=eq_true (by omega)
   have f17:((245≤(c.toNat:Int))=False):=eq_false (by omega)
   have f18:((c<245)=True):=eq_true ((jf c 245 (by omega)).1.2 (by omega))
   have f19:((245≤c)=False):=eq_false fun hh=>by have:=(jf c 245 (by omega)).2.1 hh;omega
   cases k1:gI s (i+1)
   · skip
     (conv=>arg 4;cbv);simp(maxSteps:=400000)only[↓aN,aO,BEq.rfl,reduceIte,reduceCtorEq,Nat.reduceLT,reduceAdd,reduceSub,reduceMul,Nat.reduceBEq,reduceLeDiff,reduceToNat,reduceLE,hg,↓d_,n1,n2,n3,z0,z1,z2,z3,i1,i2,i3,f0,f1,f2,f3,f4,f5,f6,f7,f8,f9,f10,f11,f12,f13,f14,f15,f16,f17,f18,f19,k1]
     exact hQ _ 0 rfl (by simp only [true_or,or_true,or_self,or_false,false_or,and_self,true_and,and_true,false_and,and_false,if_true,if_false,false_eq_true,c0,c1,c2,bU,f0,f1,f2,f3,f4,f5,f6,f7,f8,f9,f10,f11,f12,f13,f14,f15,f16,f17,f18,f19,k1])
   cases k2:gI s (i+2)
   · skip
     (conv=>arg 4;cbv);simp(maxSteps:=400000)only[↓aN,aO,BEq.rfl,reduceIte,reduceCtorEq,Nat.reduceLT,reduceAdd,reduceSub,reduceMul,Nat.reduceBEq,reduceLeDiff,reduceToNat,reduceLE,hg,↓d_,n1,n2,n3,z0,z1,z2,z3,i1,i2,i3,f0,f1,f2,f3,f4,f5,f6,f7,f8,f9,f10,f11,f12,f13,f14,f15,f16,f17,f18,f19,k1,k2]
     exact hQ _ 0 rfl (by simp only [true_or,or_true,or_self,or_false,false_or,and_self,true_and,and_true,false_and,and_false,if_true,if_false,false_eq_true,c0,c1,c2,bU,f0,f1,f2,f3,f4,f5,f6,f7,f8,f9,f10,f11,f12,f13,f14,f15,f16,f17,f18,f19,k1,k2])
   obtain ⟨d,hd1⟩:=Cu k1
   have hhd:(List.drop (i+1) s).headD 0=d:=by rw [List.headD_eq_head?_getD,List.head?_drop,hd1];rfl
   by_cases hc224:c.toNat=224
   · have Sb:c.toNat≠237:=by omega
     have e0:(((c.toNat:Int)=224)=True):=eq_true (by omega)
     have e1:((c=224)=True):=eq_true (UInt8.toNat_inj.1 (by simpa using hc224))
     have e2:(((c.toNat:Int)=237)=False):=eq_false (by omega)
     have e3:((c=237)=False):=eq_false fun hh=>Sb (by rw [hh];rfl)
     by_cases hdl:d.toNat<160
     · skip
       have g0:(((d.toNat:Int)<160)=True):=eq_true (by omega)
       have g1:((160≤(d.toNat:Int))=False):=eq_false (by omega)
       have g2:((d<160)=True):=eq_true ((jf d 160 (by omega)).1.2 (by omega))
       have g3:((160≤d)=False):=eq_false fun hh=>by have:=(jf d 160 (by omega)).2.1 hh;omega
       (conv=>arg 4;cbv);simp(maxSteps:=400000)only[↓aN,aO,BEq.rfl,reduceIte,reduceCtorEq,Nat.reduceLT,reduceAdd,reduceSub,reduceMul,Nat.reduceBEq,reduceLeDiff,reduceToNat,reduceLE,hg,↓d_,n1,n2,n3,z0,z1,z2,z3,i1,i2,i3,f0,f1,f2,f3,f4,f5,f6,f7,f8,f9,f10,f11,f12,f13,f14,f15,f16,f17,f18,f19,k1,k2,hd1,hhd,e0,e1,e2,e3,g0,g1,g2,g3]
       exact hQ _ 0 rfl (by simp only [true_or,or_true,or_self,or_false,false_or,and_self,true_and,and_true,false_and,and_false,if_true,if_false,false_eq_true,c0,c1,c2,bU,f0,f1,f2,f3,f4,f5,f6,f7,f8,f9,f10,f11,f12,f13,f14,f15,f16,f17,f18,f19,k1,k2,hd1,hhd,e0,e1,e2,e3,g0,g1,g2,g3])
     · skip
       have g0:(((d.toNat:Int)<160)=False):=eq_false (by omega)
       have g1:((160≤(d.toNat:Int))=True):=eq_true (by omega)
       have g2:((d<160)=False):=eq_false fun hh=>by have:=(jf d 160 (by omega)).1.1 hh;omega
       have g3:((160≤d)=True):=eq_true ((jf d 160 (by omega)).2.2 (by omega))
       (conv=>arg 4;cbv);simp(maxSteps:=400000)only[↓aN,aO,BEq.rfl,reduceIte,reduceCtorEq,Nat.reduceLT,reduceAdd,reduceSub,reduceMul,Nat.reduceBEq,reduceLeDiff,reduceToNat,reduceLE,hg,↓d_,n1,n2,n3,z0,z1,z2,z3,i1,i2,i3,f0,f1,f2,f3,f4,f5,f6,f7,f8,f9,f10,f11,f12,f13,f14,f15,f16,f17,f18,f19,k1,k2,hd1,hhd,e0,e1,e2,e3,g0,g1,g2,g3]
       exact hQ _ 3 rfl (by simp only [true_or,or_true,or_self,or_false,false_or,and_self,true_and,and_true,false_and,and_false,if_true,if_false,false_eq_true,c0,c1,c2,bU,f0,f1,f2,f3,f4,f5,f6,f7,f8,f9,f10,f11,f12,f13,f14,f15,f16,f17,f18,f19,k1,k2,hd1,hhd,e0,e1,e2,e3,g0,g1,g2,g3])
   · by_cases Sb:c.toNat=237
     · skip
       have e0:(((c.toNat:Int)=224)=False):=eq_false (by omega)
       have e1:((c=224)=False):=eq_false fun hh=>hc224 (by rw [hh];rfl)
       have e2:(((c.toNat:Int)=237)=True):=eq_true (by omega)
       have e3:((c=237)=True):=eq_true (UInt8.toNat_inj.1 (by simpa using Sb))
       by_cases hdl:d.toNat<160
       · skip
         have g0:(((d.toNat:Int)<160)=True):=eq_true (by omega)
         have g1:((160≤(d.toNat:Int))=False):=eq_false (by omega)
         have g2:((d<160)=True):=eq_true ((jf d 160 (by omega)).1.2 (by omega))
         have g3:((160≤d)=False):=eq_false fun hh=>by have:=(jf d 160 (by omega)).2.1 hh;omega
         (conv=>arg 4;cbv);simp(maxSteps:=400000)only[↓aN,aO,BEq.rfl,reduceIte,reduceCtorEq,Nat.reduceLT,reduceAdd,reduceSub,reduceMul,Nat.reduceBEq,reduceLeDiff,reduceToNat,reduceLE,hg,↓d_,n1,n2,n3,z0,z1,z2,z3,i1,i2,i3,f0,f1,f2,f3,f4,f5,f6,f7,f8,f9,f10,f11,f12,f13,f14,f15,f16,f17,f18,f19,k1,k2,hd1,hhd,e0,e1,e2,e3,g0,g1,g2,g3]
         exact hQ _ 3 rfl (by simp only [true_or,or_true,or_self,or_false,false_or,and_self,true_and,and_true,false_and,and_false,if_true,if_false,false_eq_true,c0,c1,c2,bU,f0,f1,f2,f3,f4,f5,f6,f7,f8,f9,f10,f11,f12,f13,f14,f15,f16,f17,f18,f19,k1,k2,hd1,hhd,e0,e1,e2,e3,g0,g1,g2,g3])
       · skip
         have g0:(((d.toNat:Int)<160)=False):=eq_false (by omega)
         have g1:((160≤(d.toNat:Int))=True):=eq_true (by omega)
         have g2:((d<160)=False):=eq_false fun hh=>by have:=(jf d 160 (by omega)).1.1 hh;omega
         have g3:((160≤d)=True):=eq_true ((jf d 160 (by omega)).2.2 (by omega))
         (conv=>arg 4;cbv);simp(maxSteps:=400000)only[↓aN,aO,BEq.rfl,reduceIte,reduceCtorEq,Nat.reduceLT,reduceAdd,reduceSub,reduceMul,Nat.reduceBEq,reduceLeDiff,reduceToNat,reduceLE,hg,↓d_,n1,n2,n3,z0,z1,z2,z3,i1,i2,i3,f0,f1,f2,f3,f4,f5,f6,f7,f8,f9,f10,f11,f12,f13,f14,f15,f16,f17,f18,f19,k1,k2,hd1,hhd,e0,e1,e2,e3,g0,g1,g2,g3]
         exact hQ _ 0 rfl (by simp only [true_or,or_true,or_self,or_false,false_or,and_self,true_and,and_true,false_and,and_false,if_true,if_false,false_eq_true,c0,c1,c2,bU,f0,f1,f2,f3,f4,f5,f6,f7,f8,f9,f10,f11,f12,f13,f14,f15,f16,f17,f18,f19,k1,k2,hd1,hhd,e0,e1,e2,e3,g0,g1,g2,g3])
     · skip
       have e0:(((c.toNat:Int)=224)=False):=eq_false (by omega)
       have e1:((c=224)=False):=eq_false fun hh=>hc224 (by rw [hh];rfl)
       have e2:(((c.toNat:Int)=237)=False):=eq_false (by omega)
       have e3:((c=237)=False):=eq_false fun hh=>Sb (by rw [hh];rfl)
       (conv=>arg 4;cbv);simp(maxSteps:=400000)only[↓aN,aO,BEq.rfl,reduceIte,reduceCtorEq,Nat.reduceLT,reduceAdd,reduceSub,reduceMul,Nat.reduceBEq,reduceLeDiff,reduceToNat,reduceLE,hg,↓d_,n1,n2,n3,z0,z1,z2,z3,i1,i2,i3,f0,f1,f2,f3,f4,f5,f6,f7,f8,f9,f10,f11,f12,f13,f14,f15,f16,f17,f18,f19,k1,k2,hd1,hhd,e0,e1,e2,e3]
       exact hQ _ 3 rfl (by simp only [true_or,or_true,or_self,or_false,false_or,and_self,true_and,and_true,false_and,and_false,if_true,if_false,false_eq_true,c0,c1,c2,bU,f0,f1,f2,f3,f4,f5,f6,f7,f8,f9,f10,f11,f12,f13,f14,f15,f16,f17,f18,f19,k1,k2,hd1,hhd,e0,e1,e2,e3])
 · skip
   have f0:(((c.toNat:Int)<128)=False):=eq_false (by omega)
   have f1:((128≤(c.toNat:Int))=True):=eq_true (by omega)
   have f2:((c<128)=False):=eq_false fun hh=>by have:=(jf c 128 (by omega)).1.1 hh;omega
   have f3:((128≤c)=True):=eq_true ((jf c 128 (by omega)).2.2 (by omega))
   have f4:(((c.toNat:Int)<194)=False):=eq_false (by omega)
   have f5:((194≤(c.toNat:Int))=True):=eq_true (by omega)
   have f6:((c<194)=False):=eq_false fun hh=>by have:=(jf c 194 (by omega)).1.1 hh;omega
   have f7:((194≤c)=True):=eq_true ((jf c 194 (by omega)).2.2 (by omega))
   have f8:(((c.toNat:Int)<224)=False):=eq_false (by omega)
   have f9:((224≤(c.toNat:Int))=True):=eq_true (by omega)
   have f10:((c<224)=False):=eq_false fun hh=>by have:=(jf c 224 (by omega)).1.1 hh;omega
   have f11:((224≤c)=True):=eq_true ((jf c 224 (by omega)).2.2 (by omega))
   have f12:(((c.toNat:Int)<240)=False):=eq_false (by omega)
   have f13:((240≤(c.toNat:Int))=True):=eq_true (by omega)
   have f14:((c<240)=False):=eq_false fun hh=>by have:=(jf c 240 (by omega)).1.1 hh;omega
   have f15:((240≤c)=True):=eq_true ((jf c 240 (by omega)).2.2 (by omega))
   have f16:(((c.toNat:Int)<245)=True):=eq_true (by omega)
   have f17:((245≤(c.toNat:Int))=False):=eq_false (by omega)
   have f18:((c<245)=True):=eq_true ((jf c 245 (by omega)).1.2 (by omega))
   have f19:((245≤c)=False):=eq_false fun hh=>by have:=(jf c 245 (by omega)).2.1 hh;omega
   cases k1:gI s (i+1)
   · skip
     (conv=>arg 4;cbv);simp(maxSteps:=400000)only[↓aN,aO,BEq.rfl,reduceIte,reduceCtorEq,Nat.reduceLT,reduceAdd,reduceSub,reduceMul,Nat.reduceBEq,reduceLeDiff,reduceToNat,reduceLE,hg,↓d_,n1,n2,n3,z0,z1,z2,z3,i1,i2,i3,f0,f1,f2,f3,f4,f5,f6,f7,f8,f9,f10,f11,f12,f13,f14,f15,f16,f17,f18,f19,k1]
     exact hQ _ 0 rfl (by simp only [true_or,or_true,or_self,or_false,false_or,and_self,true_and,and_true,false_and,and_false,if_true,if_false,false_eq_true,c0,c1,c2,bU,f0,f1,f2,f3,f4,f5,f6,f7,f8,f9,f10,f11,f12,f13,f14,f15,f16,f17,f18,f19,k1])
   cases k2:gI s (i+2)
   · skip
     (conv=>arg 4;cbv);simp(maxSteps:=400000)only[↓aN,aO,BEq.rfl,reduceIte,reduceCtorEq,Nat.reduceLT,reduceAdd,reduceSub,reduceMul,Nat.reduceBEq,reduceLeDiff,reduceToNat,reduceLE,hg,↓d_,n1,n2,n3,z0,z1,z2,z3,i1,i2,i3,f0,f1,f2,f3,f4,f5,f6,f7,f8,f9,f10,f11,f12,f13,f14,f15,f16,f17,f18,f19,k1,k2]
     exact hQ _ 0 rfl (by simp only [true_or,or_true,or_self,or_false,false_or,and_self,true_and,and_true,false_and,and_false,if_true,if_false,false_eq_true,c0,c1,c2,bU,f0,f1,f2,f3,f4,f5,f6,f7,f8,f9,f10,f11,f12,f13,f14,f15,f16,f17,f18,f19,k1,k2])
   cases k3:gI s (i+3)
   · skip
     (conv=>arg 4;cbv);simp(maxSteps:=400000)only[↓aN,aO,BEq.rfl,reduceIte,reduceCtorEq,Nat.reduceLT,reduceAdd,reduceSub,reduceMul,Nat.reduceBEq,reduceLeDiff,reduceToNat,reduceLE,hg,↓d_,n1,n2,n3,z0,z1,z2,z3,i1,i2,i3,f0,f1,f2,f3,f4,f5,f6,f7,f8,f9,f10,f11,f12,f13,f14,f15,f16,f17,f18,f19,k1,k2,k3]
     exact hQ _ 0 rfl (by simp only [true_or,or_true,or_self,or_false,false_or,and_self,true_and,and_true,false_and,and_false,if_true,if_false,false_eq_true,c0,c1,c2,bU,f0,f1,f2,f3,f4,f5,f6,f7,f8,f9,f10,f11,f12,f13,f14,f15,f16,f17,f18,f19,k1,k2,k3])
   obtain ⟨d,hd1⟩:=Cu k1
   have hhd:(List.drop (i+1) s).headD 0=d:=by rw [List.headD_eq_head?_getD,List.head?_drop,hd1];rfl
   by_cases hc240:c.toNat=240
   · have Sc:c.toNat≠244:=by omega
     have e0:(((c.toNat:Int)=240)=True):=eq_true (by omega)
     have e1:((c=240)=True):=eq_true (UInt8.toNat_inj.1 (by simpa using hc240))
     have e2:(((c.toNat:Int)=244)=False):=eq_false (by omega)
     have e3:((c=244)=False):=eq_false fun hh=>Sc (by rw [hh];rfl)
     by_cases hdl:d.toNat<144
     · skip
       have g0:(((d.toNat:Int)<144)=True):=eq_true (by omega)
       have g1:((144≤(d.toNat:Int))=False):=eq_false (by omega)
       have g2:((d<144)=True):=eq_true ((jf d 144 (by omega)).1.2 (by omega))
       have g3:((144≤d)=False):=eq_false fun hh=>by have:=(jf d 144 (by omega)).2.1 hh;omega
       (conv=>arg 4;cbv);simp(maxSteps:=400000)only[↓aN,aO,BEq.rfl,reduceIte,reduceCtorEq,Nat.reduceLT,reduceAdd,reduceSub,reduceMul,Nat.reduceBEq,reduceLeDiff,reduceToNat,reduceLE,hg,↓d_,n1,n2,n3,z0,z1,z2,z3,i1,i2,i3,f0,f1,f2,f3,f4,f5,f6,f7,f8,f9,f10,f11,f12,f13,f14,f15,f16,f17,f18,f19,k1,k2,k3,hd1,hhd,e0,e1,e2,e3,g0,g1,g2,g3]
       exact hQ _ 0 rfl (by simp only [true_or,or_true,or_self,or_false,false_or,and_self,true_and,and_true,false_and,and_false,if_true,if_false,false_eq_true,c0,c1,c2,bU,f0,f1,f2,f3,f4,f5,f6,f7,f8,f9,f10,f11,f12,f13,f14,f15,f16,f17,f18,f19,k1,k2,k3,hd1,hhd,e0,e1,e2,e3,g0,g1,g2,g3])
     · skip
       have g0:(((d.toNat:Int)<144)=False):=eq_false (by omega)
       have g1:((144≤(d.toNat:Int))=True):=eq_true (by omega)
       have g2:((d<144)=False):=eq_false fun hh=>by have:=(jf d 144 (by omega)).1.1 hh;omega
       have g3:((144≤d)=True):=eq_true ((jf d 144 (by omega)).2.2 (by omega))
       (conv=>arg 4;cbv);simp(maxSteps:=400000)only[↓aN,aO,BEq.rfl,reduceIte,reduceCtorEq,Nat.reduceLT,reduceAdd,reduceSub,reduceMul,Nat.reduceBEq,reduceLeDiff,reduceToNat,reduceLE,hg,↓d_,n1,n2,n3,z0,z1,z2,z3,i1,i2,i3,f0,f1,f2,f3,f4,f5,f6,f7,f8,f9,f10,f11,f12,f13,f14,f15,f16,f17,f18,f19,k1,k2,k3,hd1,hhd,e0,e1,e2,e3,g0,g1,g2,g3]
       exact hQ _ 4 rfl (by simp only [true_or,or_true,or_self,or_false,false_or,and_self,true_and,and_true,false_and,and_false,if_true,if_false,false_eq_true,c0,c1,c2,bU,f0,f1,f2,f3,f4,f5,f6,f7,f8,f9,f10,f11,f12,f13,f14,f15,f16,f17,f18,f19,k1,k2,k3,hd1,hhd,e0,e1,e2,e3,g0,g1,g2,g3])
   · by_cases Sc:c.toNat=244
     · skip
       have e0:(((c.toNat:Int)=240)=False):=eq_false (by omega)
       have e1:((c=240)=False):=eq_false fun hh=>hc240 (by rw [hh];rfl)
       have e2:(((c.toNat:Int)=244)=True):=eq_true (by omega)
       have e3:((c=244)=True):=eq_true (UInt8.toNat_inj.1 (by simpa using Sc))
       by_cases hdl:d.toNat<144
       · skip
         have g0:(((d.toNat:Int)<144)=True):=eq_true (by omega)
         have g1:((144≤(d.toNat:Int))=False):=eq_false (by omega)
         have g2:((d<144)=True):=eq_true ((jf d 144 (by omega)).1.2 (by omega))
         have g3:((144≤d)=False):=eq_false fun hh=>by have:=(jf d 144 (by omega)).2.1 hh;omega
         (conv=>arg 4;cbv);simp(maxSteps:=400000)only[↓aN,aO,BEq.rfl,reduceIte,reduceCtorEq,Nat.reduceLT,reduceAdd,reduceSub,reduceMul,Nat.reduceBEq,reduceLeDiff,reduceToNat,reduceLE,hg,↓d_,n1,n2,n3,z0,z1,z2,z3,i1,i2,i3,f0,f1,f2,f3,f4,f5,f6,f7,f8,f9,f10,f11,f12,f13,f14,f15,f16,f17,f18,f19,k1,k2,k3,hd1,hhd,e0,e1,e2,e3,g0,g1,g2,g3]
         exact hQ _ 4 rfl (by simp only [true_or,or_true,or_self,or_false,false_or,and_self,true_and,and_true,false_and,and_false,if_true,if_false,false_eq_true,c0,c1,c2,bU,f0,f1,f2,f3,f4,f5,f6,f7,f8,f9,f10,f11,f12,f13,f14,f15,f16,f17,f18,f19,k1,k2,k3,hd1,hhd,e0,e1,e2,e3,g0,g1,g2,g3])
       · skip
         have g0:(((d.toNat:Int)<144)=False):=eq_false (by omega)
         have g1:((144≤(d.toNat:Int))=True):=eq_true (by omega)
         have g2:((d<144)=False):=eq_false fun hh=>by have:=(jf d 144 (by omega)).1.1 hh;omega
         have g3:((144≤d)=True):=eq_true ((jf d 144 (by omega)).2.2 (by omega))
         (conv=>arg 4;cbv);simp(maxSteps:=400000)only[↓aN,aO,BEq.rfl,reduceIte,reduceCtorEq,Nat.reduceLT,reduceAdd,reduceSub,reduceMul,Nat.reduceBEq,reduceLeDiff,reduceToNat,reduceLE,hg,↓d_,n1,n2,n3,z0,z1,z2,z3,i1,i2,i3,f0,f1,f2,f3,f4,f5,f6,f7,f8,f9,f10,f11,f12,f13,f14,f15,f16,f17,f18,f19,k1,k2,k3,hd1,hhd,e0,e1,e2,e3,g0,g1,g2,g3]
         exact hQ _ 0 rfl (by simp only [true_or,or_true,or_self,or_false,false_or,and_self,true_and,and_true,false_and,and_false,if_true,if_false,false_eq_true,c0,c1,c2,bU,f0,f1,f2,f3,f4,f5,f6,f7,f8,f9,f10,f11,f12,f13,f14,f15,f16,f17,f18,f19,k1,k2,k3,hd1,hhd,e0,e1,e2,e3,g0,g1,g2,g3])
     · skip
       have e0:(((c.toNat:Int)=240)=False):=eq_false (by omega)
       have e1:((c=240)=False):=eq_false fun hh=>hc240 (by rw [hh];rfl)
       have e2:(((c.toNat:Int)=244)=False):=eq_false (by omega)
       have e3:((c=244)=False):=eq_false fun hh=>Sc (by rw [hh];rfl)
       (conv=>arg 4;cbv);simp(maxSteps:=400000)only[↓aN,aO,BEq.rfl,reduceIte,reduceCtorEq,Nat.reduceLT,reduceAdd,reduceSub,reduceMul,Nat.reduceBEq,reduceLeDiff,reduceToNat,reduceLE,hg,↓d_,n1,n2,n3,z0,z1,z2,z3,i1,i2,i3,f0,f1,f2,f3,f4,f5,f6,f7,f8,f9,f10,f11,f12,f13,f14,f15,f16,f17,f18,f19,k1,k2,k3,hd1,hhd,e0,e1,e2,e3]
       exact hQ _ 4 rfl (by simp only [true_or,or_true,or_self,or_false,false_or,and_self,true_and,and_true,false_and,and_false,if_true,if_false,false_eq_true,c0,c1,c2,bU,f0,f1,f2,f3,f4,f5,f6,f7,f8,f9,f10,f11,f12,f13,f14,f15,f16,f17,f18,f19,k1,k2,k3,hd1,hhd,e0,e1,e2,e3])
 · skip
   have f0:(((c.toNat:Int)<128)=False):=eq_false (by omega)
   have f1:((128≤(c.toNat:Int))=True):=eq_true (by omega)
   have f2:((c<128)=False):=eq_false fun hh=>by have:=(jf c 128 (by omega)).1.1 hh;omega
   have f3:((128≤c)=True):=eq_true ((jf c 128 (by omega)).2.2 (by omega))
   have f4:(((c.toNat:Int)<194)=False):=eq_false (by omega)
   have f5:((194≤(c.toNat:Int))=True):=eq_true (by omega)
   have f6:((c<194)=False):=eq_false fun hh=>by have:=(jf c 194 (by omega)).1.1 hh;omega
   have f7:((194≤c)=True):=eq_true ((jf c 194 (by omega)).2.2 (by omega))
   have f8:(((c.toNat:Int)<224)=False):=eq_false (by omega)
   have f9:((224≤(c.toNat:Int))=True):=eq_true (by omega)
   have f10:((c<224)=False):=eq_false fun hh=>by have:=(jf c 224 (by omega)).1.1 hh;omega
   have f11:((224≤c)=True):=eq_true ((jf c 224 (by omega)).2.2 (by omega))
   have f12:(((c.toNat:Int)<240)=False):=eq_false (by omega)
   have f13:((240≤(c.toNat:Int))=True):=eq_true (by omega)
   have f14:((c<240)=False):=eq_false fun hh=>by have:=(jf c 240 (by omega)).1.1 hh;omega
   have f15:((240≤c)=True):=eq_true ((jf c 240 (by omega)).2.2 (by omega))
   have f16:(((c.toNat:Int)<245)=False):=eq_false (by omega)
   have f17:((245≤(c.toNat:Int))=True):=eq_true (by omega)
   have f18:((c<245)=False):=eq_false fun hh=>by have:=(jf c 245 (by omega)).1.1 hh;omega
   have f19:((245≤c)=True):=eq_true ((jf c 245 (by omega)).2.2 (by omega))
   (conv=>arg 4;cbv);simp(maxSteps:=400000)only[↓aN,aO,BEq.rfl,reduceIte,reduceCtorEq,Nat.reduceLT,reduceAdd,reduceSub,reduceMul,Nat.reduceBEq,reduceLeDiff,reduceToNat,reduceLE,hg,↓d_,n1,n2,n3,z0,z1,z2,z3,i1,i2,i3,f0,f1,f2,f3,f4,f5,f6,f7,f8,f9,f10,f11,f12,f13,f14,f15,f16,f17,f18,f19]
   exact hQ _ 0 rfl (by simp only [true_or,or_true,or_self,or_false,false_or,and_self,true_and,and_true,false_and,and_false,if_true,if_false,false_eq_true,c0,c1,c2,bU,f0,f1,f2,f3,f4,f5,f6,f7,f8,f9,f10,f11,f12,f13,f14,f15,f16,f17,f18,f19])
theorem P7 (s:List UInt8) (i:Int) (h0:0≤i) (hi:i.toNat<s.length) (hl:s.length≤4611686018427387904):ai Tryz.prog 62 [.str s,.int .i64 i] [] (.int .i64 (bU (s.drop i.toNat):Nat)) []:=by
 have e:i=(i.toNat:Int):=by omega
 rw [e]
 exact Ul s i.toNat hi hl
def wP:dN:=fun args objs K=>match args with
 | [.str s,.int .i64 i]=>(0≤i)∧(i.toNat<s.length)∧(s.length≤4611686018427387904)∧K (.int .i64 (bU (s.drop i.toNat):Nat)) objs 0
 | _=>False
theorem FP:aD Tryz.prog 62 (wP):=by
 intro args objs K h
 unfold wP at h
 split at h
 · rename_i s i
   obtain ⟨h1,h2,h3,hk⟩:=h
   exact ⟨_,_,_,.pure _ rfl (P7 s i h1 h2 h3),hk⟩
 · exact h.elim
end Lp
namespace Lp
open Go Go.Proofs
open Nat (reduceAdd reduceLeDiff reduceMul reduceSub)
open Int (reduceLE reduceToNat)
theorem FQ (s:List UInt8):bU s≤s.length:=by
 cases s with
 | nil=>simp [bU]
 | cons c t=>
  have h0:∀ i,gI t i=true→i<t.length:=by
   intro i h
   obtain ⟨d,hd⟩:=Cu h
   exact (List.getElem?_eq_some_iff.1 hd).1
  simp only [bU,List.length_cons]
  split
  · omega
  · split
    · rename_i h;have:=h0 0 h.2.2;omega
    · split
      · rename_i h;have:=h0 1 h.2.2.2;split <;> omega
      · split
        · rename_i h;have:=h0 2 h.2.2.2.2;split <;> omega
        · omega
theorem WK (s:List UInt8) (hl:s.length≤4611686018427387904):ai Tryz.prog 25 [.str s] [] (.bool (utf s)) []:=by
 refine Cm.bE (T:=aU Tryz.prog [(62,wP)]) 0 hD (aj (af FP ah)) aY (by decide) fun Q hQ=>?_
 (conv=>arg 4;cbv);simp(maxSteps:=400000)only[↓aN,aO,BEq.rfl,reduceIte,reduceCtorEq,Nat.reduceLT,reduceAdd,reduceSub,reduceMul,Nat.reduceBEq,reduceLeDiff,reduceToNat,reduceLE,hQ]
 refine aH (fun m S=>∃ i:Nat,i+m=s.length∧EL m (s.drop i)=utf s∧S=⟨dU 17 [(0,.str s),(3,.int .i64 i)],[]⟩) s.length ⟨0,by omega,rfl,?_⟩ ?_
 · simp only [dh,keepR,reduceAdd,oC,Nat.reduceBEq,List.map_nil]
   rfl
 rintro m S ⟨i,him,hu,rfl⟩
 simp(maxSteps:=400000)only[↓aN,aO,BEq.rfl,reduceIte,reduceCtorEq,Nat.reduceLT,reduceAdd,reduceSub,reduceMul,Nat.reduceBEq,reduceLeDiff,reduceToNat,reduceLE,hQ,↓wP]
 have hle:=FQ (s.drop i)
 simp only [List.length_drop] at hle
 refine ⟨fun h=>⟨by omega,by omega,hl,fun h0=>?_,fun h0=>⟨⟨by omega,by omega⟩,m-bU (s.drop i),by omega,i+bU (s.drop i),by omega,?_,by simp⟩⟩,fun h=>?_⟩
 · obtain ⟨m,rfl⟩:∃ k,m=k+1:=⟨m-1,by omega⟩
   have hne:(s.drop i).isEmpty=false:=by
    rw [List.isEmpty_eq_false_iff]
    intro he
    have:=congrArg List.length he
    simp at this;omega
   rw [← hu,EL,hne]
   have:bU (s.drop i)=0:=by omega
   simp [this]
 · obtain ⟨m,rfl⟩:∃ k,m=k+1:=⟨m-1,by omega⟩
   have hne:(s.drop i).isEmpty=false:=by
    rw [List.isEmpty_eq_false_iff]
    intro he
    have:=congrArg List.length he
    simp at this;omega
   rw [← hu]
   conv=>rhs;rw [EL,hne]
   have h1:(bU (s.drop i) !=0)=true:=by simp;omega
   rw [h1,Bool.false_or,Bool.true_and,List.drop_drop]
   refine BM _ _ _ ?_ ?_
   · simp;omega
   · simp;omega
 · rw [← hu]
   have hn:s.drop i=[]:=List.drop_eq_nil_of_le (by omega)
   rw [hn]
   cases m <;> rfl
def fq:dN:=fun args objs K=>match args with
 | [.str s]=>(s.length≤4611686018427387904)∧K (.bool (utf s)) objs 0
 | _=>False
theorem wQ:aD Tryz.prog 25 (fq):=by
 intro args objs K h
 unfold fq at h
 split at h
 · rename_i s
   obtain ⟨h1,hk⟩:=h
   exact ⟨_,_,_,.pure _ rfl (WK s h1),hk⟩
 · exact h.elim
theorem Ko (s:List UInt8) (hl:s.length≤4611686018427387904):ai Tryz.prog 108 [.str s] [] (.bool (fI s)) []:=by
 refine vC.bE (T:=aU Tryz.prog []) 0 hD (aj ah) aY (by decide) fun Q hQ=>?_
 (conv=>arg 4;cbv);simp(maxSteps:=400000)only[↓aN,aO,BEq.rfl,reduceIte,reduceCtorEq,Nat.reduceLT,reduceAdd,reduceSub,reduceMul,Nat.reduceBEq,reduceLeDiff,reduceToNat,reduceLE,hQ]
 refine aH (fun m S=>∃ i:Nat,i+m=s.length∧fI (s.drop i)=fI s∧S=⟨dU 20 [(0,.str s),(3,.int .i64 i)],[]⟩) s.length ⟨0,by omega,rfl,?_⟩ ?_
 · simp only [dh,keepR,reduceAdd,oC,Nat.reduceBEq,List.map_nil]
   rfl
 rintro m S ⟨i,him,hu,rfl⟩
 rcases Nat.lt_or_ge i s.length with h | h
 · have hg:=List.getElem?_eq_getElem h
   have hd:=List.drop_eq_getElem_cons h
   generalize s[i]=c at hg hd
   simp(maxSteps:=400000)only[↓aN,aO,BEq.rfl,reduceIte,reduceCtorEq,Nat.reduceLT,reduceAdd,reduceSub,reduceMul,Nat.reduceBEq,reduceLeDiff,reduceToNat,reduceLE,hQ,hg]
   have hf:fI (c::s.drop (i+1))=(decide (48≤c) && decide (c≤57) && fI (s.drop (i+1))):=by simp [fI]
   rw [hd,hf] at hu
   refine ⟨fun _=>⟨by omega,fun h1=>?_,fun h1=>⟨by omega,fun h2=>?_,fun h2=>⟨⟨by omega,by omega⟩,m-1,by omega,i+1,by omega,?_,by simp⟩⟩⟩,fun h1=>absurd (by omega) h1⟩
   · have:¬ (48≤c):=fun h=>by have:=(jf c 48 (by omega)).2.1 h;omega
     rw [← hu];simp [this]
   · have:¬ (c≤57):=fun h=>by have:c.toNat≤(57:UInt8).toNat:=UInt8.le_iff_toNat_le.1 h;have h57:(57:UInt8).toNat=57:=rfl;omega
     rw [← hu];simp [this]
   · have h3:48≤c:=(jf c 48 (by omega)).2.2 (by omega)
     have h4:c≤57:=UInt8.le_iff_toNat_le.2 (by have h57:(57:UInt8).toNat=57:=rfl;omega)
     rw [← hu];simp [h3,h4]
 · simp(maxSteps:=400000)only[↓aN,aO,BEq.rfl,reduceIte,reduceCtorEq,Nat.reduceLT,reduceAdd,reduceSub,reduceMul,Nat.reduceBEq,reduceLeDiff,reduceToNat,reduceLE,hQ]
   refine ⟨fun h1=>absurd h1 (by omega),fun _=>?_⟩
   rw [← hu,List.drop_eq_nil_of_le h];rfl
def oM:dN:=fun args objs K=>match args with
 | [.str s]=>(s.length≤4611686018427387904)∧K (.bool (fI s)) objs 0
 | _=>False
theorem FR:aD Tryz.prog 108 (oM):=by
 intro args objs K h
 unfold oM at h
 split at h
 · rename_i s
   obtain ⟨h1,hk⟩:=h
   exact ⟨_,_,_,.pure _ rfl (Ko s h1),hk⟩
 · exact h.elim
theorem nS (n:Nd):qB n=true↔n.many=0∧fI n.s=true∧n.s.length≤100∧-1000≤n.e∧n.e≤1000∧n.s.length+n.e≤1000∧
  (if n.s=[] then n.neg=false∧n.e=0 else n.s.head?≠some 48∧n.s.getLast?≠some 48):=by
 simp only [qB,Bool.and_eq_true,decide_eq_true_eq,beq_iff_eq,and_assoc]
 split <;> simp
theorem jb {b:Bool}(h:b=true→False):b=false:=by cases b <;> simp_all
theorem Hl (n:Nd) (hl:n.s.length≤4611686018427387904) (hk:n.kind=3) (hn:n.name=[]):ai Tryz.prog 97 [av n] [] (.bool (qB n)) []:=by
 refine yX.bE (T:=aU Tryz.prog [(108,oM)]) 0 hD (aj (af FR ah)) aY (by decide) fun Q hQ=>?_
 (conv=>arg 4;cbv);simp(maxSteps:=400000)only[↓aN,aO,BEq.rfl,reduceIte,reduceCtorEq,Nat.reduceLT,reduceAdd,reduceSub,reduceMul,Nat.reduceBEq,reduceLeDiff,reduceToNat,reduceLE,hQ]
 refine aT _ (Weak.freeze 1 0 (Nat.le_refl _) _) ?_
 cases hf:fI n.s
 · simp(maxSteps:=400000)only[↓aN,aO,BEq.rfl,reduceIte,reduceCtorEq,Nat.reduceLT,reduceAdd,reduceSub,reduceMul,Nat.reduceBEq,reduceLeDiff,reduceToNat,reduceLE,hQ,je,↓oM,hk,hn,hf]
   have:qB n=false:=jb fun h=>by have:=((nS n).1 h).2.1;rw [hf] at this;cases this
   exact ⟨fun _=>⟨hl,this⟩,fun _=>this⟩
 by_cases hs:n.s=[]
 · simp(maxSteps:=400000)only[↓aN,aO,BEq.rfl,reduceIte,reduceCtorEq,Nat.reduceLT,reduceAdd,reduceSub,reduceMul,Nat.reduceBEq,reduceLeDiff,reduceToNat,reduceLE,hQ,je,↓oM,hk,hn,hs]
   have hf0:fI []=true:=rfl
   have key:=nS n
   rw [if_pos hs,hs] at key
   have hlz:(([]:List UInt8).length:Int)=0:=rfl
   simp only [hf0,ZI,hlz,Int.zero_add,List.length_nil]
   refine ⟨fun h0=>⟨fun h=>absurd h (by omega),fun _=>⟨fun h=>jb fun hb=>?_,fun h1=>⟨fun h=>jb fun hb=>?_,fun h2=>⟨⟨by omega,by omega⟩,fun h=>jb fun hb=>?_,fun h3=>?_⟩⟩⟩⟩,fun h0=>jb fun hb=>?_⟩
   · have:=key.1 hb;omega
   · have:=key.1 hb;omega
   · have:=key.1 hb;omega
   · refine ⟨fun hng=>jb fun hb=>?_,fun hng=>?_⟩
     · have:=(key.1 hb).2.2.2.2.2.2.1;rw [hng] at this;cases this
     · by_cases hz:n.e=0
       · rw [decide_eq_true hz,key]
         exact ⟨h0,hf0,by simp,by omega,by omega,by simp;omega,hng,hz⟩
       · rw [decide_eq_false hz]
         exact jb fun hb=>hz (key.1 hb).2.2.2.2.2.2.2
   · have:=key.1 hb;omega
 · obtain ⟨c,t,hct⟩:∃ c t,n.s=c::t:=by
    cases h:n.s with
    | nil=>exact absurd h hs
    | cons c t=>exact ⟨c,t,rfl⟩
   have hlen:0<n.s.length:=by rw [hct];simp
   have g0:n.s[0]?=some c:=by rw [hct];rfl
   have g1:n.s[n.s.length-1]?=some (n.s[n.s.length-1]'(by omega)):=List.getElem?_eq_getElem (by omega)
   have t1:((n.s.length:Int)-1).toNat=n.s.length-1:=by omega
   have hl1:n.s.getLast?=some (n.s[n.s.length-1]'(by omega)):=by rw [List.getLast?_eq_getElem?,g1]
   have hh1:n.s.head?=some c:=by rw [hct];rfl
   generalize n.s[n.s.length-1]'(by omega)=d at g1 hl1
   have i1:(-9223372036854775808≤(n.s.length:Int)-1∧(n.s.length:Int)-1≤9223372036854775807)=True:=eq_true ⟨by omega,by omega⟩
   have z1:(0≤(n.s.length:Int)-1)=True:=eq_true (by omega)
   simp(maxSteps:=400000)only[↓aN,aO,BEq.rfl,reduceIte,reduceCtorEq,Nat.reduceLT,reduceAdd,reduceSub,reduceMul,Nat.reduceBEq,reduceLeDiff,reduceToNat,reduceLE,hQ,je,↓oM,hk,hn,hs,hf,g0,t1,g1,i1,z1]
   have key:=nS n
   rw [if_neg hs,hh1,hl1] at key
   have e48:∀ x:UInt8,x=48↔x.toNat=48:=fun x=>⟨fun h=>by rw [h];rfl,fun h=>UInt8.toNat_inj.1 (by simpa using h)⟩
   refine ⟨fun h0=>⟨hl,fun h=>jb fun hb=>?_,fun h1=>⟨fun h=>jb fun hb=>?_,fun h2=>⟨fun h=>jb fun hb=>?_,fun h3=>⟨⟨by omega,by omega⟩,fun h=>jb fun hb=>?_,fun h4=>⟨fun h=>jb fun hb=>?_,fun h5=>?_⟩⟩⟩⟩⟩,fun h0=>jb fun hb=>?_⟩
   · have:=key.1 hb;omega
   · have:=key.1 hb;omega
   · have:=key.1 hb;omega
   · have:=key.1 hb;omega
   · refine (key.1 hb).2.2.2.2.2.2.1 ?_
     rw [(e48 c).2 (by omega)]
   · by_cases hz:d.toNat=48
     · have hz':(d.toNat:Int)=48:=by omega
       rw [decide_eq_true hz']
       refine jb fun hb=>(key.1 hb).2.2.2.2.2.2.2 ?_
       rw [(e48 d).2 hz]
     · have hz':¬ (d.toNat:Int)=48:=by omega
       rw [decide_eq_false hz',Bool.not_false,key]
       refine ⟨h0,hf,by omega,by omega,by omega,by omega,fun h=>?_,fun h=>?_⟩
       · have:=(e48 c).1 (by simpa using h);omega
       · exact hz ((e48 d).1 (by simpa using h))
   · exact h0 (key.1 hb).1
def fH:dN:=fun args objs K=>match args with
 | [a0]=>gu av a0 (HK.mk:HK fun n=>(n.s.length≤4611686018427387904)∧(n.kind=3)∧(n.name=[])∧K (.bool (qB n)) objs 0)
 | _=>False
theorem FT:aD Tryz.prog 97 (fH):=by
 intro args objs K h
 unfold fH at h
 split at h
 · rename_i a0
   obtain ⟨n,rfl,h1,h2,h3,hk⟩:=h
   exact ⟨_,_,_,.pure _ rfl (Hl n h1 h2 h3),hk⟩
 · exact h.elim
end Lp
namespace Lp
open Go Go.Proofs
def rH (v:Vl) (i:Nat):Int:=match gX v.length (v.drop i) 1 with
 | some c=>(i+c:Nat)
 | none=>-1
theorem zb {v:Vl}{i:Nat}(h:(gX v.length (v.drop i) 1).map (fun c=>i+c)=none):rH v i=-1:=by
 unfold rH
 cases hx:gX v.length (v.drop i) 1 with
 | none=>rfl
 | some c=>rw [hx] at h;simp at h
theorem FU {v:Vl}{i j:Nat}(h:(gX v.length (v.drop i) 1).map (fun c=>i+c)=some j):rH v i=j:=by
 unfold rH
 cases hx:gX v.length (v.drop i) 1 with
 | none=>rw [hx] at h;simp at h
 | some c=>rw [hx] at h;simp only [Option.map_some,Option.some.injEq] at h;rw [← h]
theorem pR (L:Nat) (v:Vl):gX L v 0=some 0:=by cases v <;> rfl
theorem Um (v:Vl) (i:Nat) (hi:i≤v.length) (hl:v.length≤1000000):ai Tryz.prog 68 [aM v,.int .i64 i] [] (.int .i64 (rH v i)) []:=by
 refine Aq.bE (T:=aU Tryz.prog []) 0 hD (aj ah) aY (by decide) fun Q hQ=>?_
 (conv=>arg 4;cbv);simp(maxSteps:=400000)only[↓aN,aO,BEq.rfl,reduceIte,reduceCtorEq,Nat.reduceLT,Nat.reduceAdd,Nat.reduceSub,Nat.reduceMul,Nat.reduceBEq,Nat.reduceLeDiff,Int.reduceToNat,Int.reduceLE,hQ]
 refine aH (fun m S=>∃ j k:Nat,j+m=v.length∧k≤1+j*1000000∧(gX v.length (v.drop i) 1).map (fun c=>i+c)=(gX v.length (v.drop j) k).map (fun c=>j+c)∧
  S=⟨dU 41 [(0,aM v),(1,.int .i64 j),(5,.int .i64 k)],[]⟩) (v.length-i) ⟨i,1,by omega,by omega,rfl,?_⟩ ?_
 · simp only [dh,keepR,Nat.reduceAdd,oC,Nat.reduceBEq,List.map_nil]
   rfl
 rintro m S ⟨j,k,hjm,hk,hn,rfl⟩
 rcases Nat.lt_or_ge j v.length with h | h
 · have hg:=List.getElem?_eq_getElem h
   have hd:=List.drop_eq_getElem_cons h
   generalize v[j]=n at hg hd
   simp(maxSteps:=400000)only[↓aN,aO,BEq.rfl,reduceIte,reduceCtorEq,Nat.reduceLT,Nat.reduceAdd,Nat.reduceSub,Nat.reduceMul,Nat.reduceBEq,Nat.reduceLeDiff,Int.reduceToNat,Int.reduceLE,hQ,hg]
   refine ⟨fun hk0=>⟨fun h'=>absurd h' (by omega),fun _=>⟨by omega,fun hm=>?_,fun hm=>⟨by omega,fun hm2=>?_,fun hm2=>?_⟩⟩⟩,fun hk0=>?_⟩
   · obtain ⟨k,rfl⟩:∃ q,k=q+1:=⟨k-1,by omega⟩
     rw [hd,gX,if_pos (.inl hm)] at hn
     rw [zb hn]
   · obtain ⟨k,rfl⟩:∃ q,k=q+1:=⟨k-1,by omega⟩
     rw [hd,gX,if_pos (.inr hm2)] at hn
     rw [zb hn]
   · obtain ⟨k,rfl⟩:∃ q,k=q+1:=⟨k-1,by omega⟩
     rw [hd,gX,if_neg (by omega)] at hn
     have hk2:(((k+1:Nat):Int)-1+n.many)=((k+n.many.toNat:Nat):Int):=by omega
     refine ⟨⟨by omega,by omega⟩,by omega,⟨by omega,by omega⟩,⟨by omega,by omega⟩,m-1,by omega,j+1,k+n.many.toNat,by omega,by omega,?_,?_⟩
     · rw [hn]
       cases gX v.length (v.drop (j+1)) (k+n.many.toNat) with
       | none=>rfl
       | some c=>simp;omega
     · rw [hk2];rfl
   · have hk1:k=0:=by omega
     subst hk1
     rw [pR] at hn
     rw [FU (j:=j) (by simpa using hn)]
 · simp(maxSteps:=400000)only[↓aN,aO,BEq.rfl,reduceIte,reduceCtorEq,Nat.reduceLT,Nat.reduceAdd,Nat.reduceSub,Nat.reduceMul,Nat.reduceBEq,Nat.reduceLeDiff,Int.reduceToNat,Int.reduceLE,hQ]
   refine ⟨fun hk0=>⟨fun _=>?_,fun h'=>absurd (by omega) h'⟩,fun hk0=>?_⟩
   · obtain ⟨k,rfl⟩:∃ q,k=q+1:=⟨k-1,by omega⟩
     rw [List.drop_eq_nil_of_le h] at hn
     simp only [gX,Option.map_none] at hn
     rw [zb hn]
   · have hk1:k=0:=by omega
     subst hk1
     rw [pR] at hn
     rw [FU (j:=j) (by simpa using hn)]
theorem P8 (v:Vl) (i:Int) (h0:0≤i) (hi:i.toNat≤v.length) (hl:v.length≤1000000):ai Tryz.prog 68 [aM v,.int .i64 i] [] (.int .i64 (rH v i.toNat)) []:=by
 have e:i=(i.toNat:Int):=by omega
 rw [e]
 exact Um v i.toNat hi hl
def iW:dN:=fun args objs K=>match args with
 | [a0,.int .i64 i]=>gu aM a0 (HK.mk:HK fun v=>(0≤i)∧(i.toNat≤v.length)∧(v.length≤1000000)∧K (.int .i64 (rH v i.toNat)) objs 0)
 | _=>False
theorem tu:aD Tryz.prog 68 (iW):=by
 intro args objs K h
 unfold iW at h
 split at h
 · rename_i a0 i
   obtain ⟨v,rfl,h1,h2,h3,hk⟩:=h
   exact ⟨_,_,_,.pure _ rfl (P8 v i h1 h2 h3),hk⟩
 · exact h.elim
end Lp
namespace Lp
open Go Go.Proofs
open Nat (reduceAdd reduceLeDiff reduceMul reduceSub)
open Int (reduceEq reduceLE reduceToNat)
theorem P9 (n:Nd) (hl:n.s.length≤4611686018427387904):ai Tryz.prog 69 [av n] [] (.bool (bF n)) []:=by
 refine yV.bE (T:=aU Tryz.prog [(25,fq),(97,fH)]) 0 hD (aj (af wQ (af FT ah))) aY (by decide) fun Q hQ=>?_
 have h8:n.kind=0∨n.kind=1∨n.kind=2∨n.kind=3∨n.kind=4∨n.kind=5∨n.kind=6∨(n.kind≠0∧n.kind≠1∧n.kind≠2∧n.kind≠3∧n.kind≠4∧n.kind≠5∧n.kind≠6):=by omega
 rcases h8 with hk | hk | hk | hk | hk | hk | hk | ⟨k0,k1,k2,k3,k4,k5,k6⟩
 · (conv=>arg 4;cbv);simp(maxSteps:=400000)only[↓aN,aO,BEq.rfl,reduceIte,reduceCtorEq,Nat.reduceLT,reduceAdd,reduceSub,reduceMul,Nat.reduceBEq,reduceLeDiff,reduceToNat,reduceLE,hQ,↓fq,↓fH,hk,reduceEq]
   rw [Bool.eq_iff_iff]
   simp [bF,hk,and_assoc]
 · (conv=>arg 4;cbv);simp(maxSteps:=400000)only[↓aN,aO,BEq.rfl,reduceIte,reduceCtorEq,Nat.reduceLT,reduceAdd,reduceSub,reduceMul,Nat.reduceBEq,reduceLeDiff,reduceToNat,reduceLE,hQ,↓fq,↓fH,hk,reduceEq]
   rw [Bool.eq_iff_iff]
   simp [bF,hk,and_assoc]
 · (conv=>arg 4;cbv);simp(maxSteps:=400000)only[↓aN,aO,BEq.rfl,reduceIte,reduceCtorEq,Nat.reduceLT,reduceAdd,reduceSub,reduceMul,Nat.reduceBEq,reduceLeDiff,reduceToNat,reduceLE,hQ,↓fq,↓fH,hk,reduceEq]
   rw [Bool.eq_iff_iff]
   simp [bF,hk,and_assoc]
 · (conv=>arg 4;cbv);simp(maxSteps:=400000)only[↓aN,aO,BEq.rfl,reduceIte,reduceCtorEq,Nat.reduceLT,reduceAdd,reduceSub,reduceMul,Nat.reduceBEq,reduceLeDiff,reduceToNat,reduceLE,hQ,↓fq,↓fH,hk,reduceEq]
   refine ⟨hl,?_⟩
   simp [bF,hk,qB]
 · (conv=>arg 4;cbv);simp(maxSteps:=400000)only[↓aN,aO,BEq.rfl,reduceIte,reduceCtorEq,Nat.reduceLT,reduceAdd,reduceSub,reduceMul,Nat.reduceBEq,reduceLeDiff,reduceToNat,reduceLE,hQ,↓fq,↓fH,hk,reduceEq]
   refine ⟨hl,?_⟩
   cases hu:utf n.s
   · simp [y8,bF,hk,hu]
   · simp only [ZI]
     rw [Bool.eq_iff_iff]
     simp [bF,hk,hu,and_assoc]
 · (conv=>arg 4;cbv);simp(maxSteps:=400000)only[↓aN,aO,BEq.rfl,reduceIte,reduceCtorEq,Nat.reduceLT,reduceAdd,reduceSub,reduceMul,Nat.reduceBEq,reduceLeDiff,reduceToNat,reduceLE,hQ,↓fq,↓fH,hk,reduceEq]
   refine ⟨fun hm=>?_,fun hm=>?_⟩
   · rw [Bool.eq_iff_iff]
     simp [bF,hk,hm,and_assoc]
   · simp [bF,hk,hm]
 · (conv=>arg 4;cbv);simp(maxSteps:=400000)only[↓aN,aO,BEq.rfl,reduceIte,reduceCtorEq,Nat.reduceLT,reduceAdd,reduceSub,reduceMul,Nat.reduceBEq,reduceLeDiff,reduceToNat,reduceLE,hQ,↓fq,↓fH,hk,reduceEq]
   refine ⟨fun hm=>?_,fun hm=>?_⟩
   · rw [Bool.eq_iff_iff]
     simp [bF,hk,hm,and_assoc]
   · simp [bF,hk,hm]
 · (conv=>arg 4;cbv);simp(maxSteps:=400000)only[↓aN,aO,BEq.rfl,reduceIte,reduceCtorEq,Nat.reduceLT,reduceAdd,reduceSub,reduceMul,Nat.reduceBEq,reduceLeDiff,reduceToNat,reduceLE,hQ,↓fq,↓fH,k0,k1,k2,k3,k4,k5,k6]
   simp [bF,k0,k1,k2,k3,k4,k5,k6]
def rJ:dN:=fun args objs K=>match args with
 | [a0]=>gu av a0 (HK.mk:HK fun n=>(n.s.length≤4611686018427387904)∧K (.bool (bF n)) objs 0)
 | _=>False
theorem Nh:aD Tryz.prog 69 (rJ):=by
 intro args objs K h
 unfold rJ at h
 split at h
 · rename_i a0
   obtain ⟨n,rfl,h1,hk⟩:=h
   exact ⟨_,_,_,.pure _ rfl (P9 n h1),hk⟩
 · exact h.elim
end Lp
namespace Lp
open Go Go.Proofs
open Nat (reduceAdd reduceLeDiff reduceMul reduceSub)
open Int (reduceEq reduceLE reduceToNat)
def ze (kind:Int) (name:List UInt8):List Vl→Bool
 | []=>true
 | q::_=>kind !=6 || Op.bytesLess name (nameOf q)
structure Small (v:Vl):Prop where
 len:v.length≤1000000
 txt:∀ n ∈ v,n.s.length≤4611686018427387904∧n.name.length≤4611686018427387904
theorem rM (L:Nat):∀ (v:Vl) (j k c:Nat),gX L v (j+k)=some c→∃ c1 c2,gX L v j=some c1∧gX L (v.drop c1) k=some c2∧c=c1+c2
 | v,0,k,c,h=>⟨0,c,pR L v,by simpa using h,by simp⟩
 | [],j+1,k,c,h=>by
  rw [show j+1+k=(j+k)+1 by omega] at h
  simp [gX] at h
 | n::v,j+1,k,c,h=>by
  rw [show j+1+k=(j+k)+1 by omega,gX] at h
  split at h
  · cases h
  · rename_i hn
    cases hs:gX L v (j+k+n.many.toNat) with
    | none=>rw [hs] at h;simp at h
    | some c'=>
     rw [hs] at h
     simp only [Option.map_some,Option.some.injEq] at h
     rw [show j+k+n.many.toNat=(j+n.many.toNat)+k by omega] at hs
     obtain ⟨c1,c2,h1,h2,rfl⟩:=rM L v _ k c' hs
     refine ⟨c1+1,c2,?_,by simpa using h2,by omega⟩
     rw [gX,if_neg hn,h1];rfl
theorem AR {v:Vl}{i c:Nat}(h:gX v.length (v.drop i) 1=some c):rH v i=(i+c:Nat):=by
 simp only [rH,h]
theorem Ni (v:Vl) (at':Nat) (n:Nd) (c:Nat) (hs:Small v) (hat:v[at']?=some n) (hm:0≤n.many) (hc:gX v.length (v.drop (at'+1)) n.many.toNat=some c) (ps:List Vl) (hps:parts n.many.toNat (v.drop (at'+1))=some ps) :
  ai Tryz.prog 70 [aM v,.int .i64 at'] [] (.bool (kH n.kind ps)) []:=by
 obtain ⟨hl,htx⟩:=hs
 have YP:=(List.getElem?_eq_some_iff.1 hat).1
 have hpl:=bN _ _ _ hps
 have Hg:=fZ _ _ _ hps
 simp only [List.length_drop] at Hg
 refine xH.bE (T:=aU Tryz.prog [(25,fq),(68,iW)]) 0 hD (aj (af wQ (af tu ah))) aY (by decide) fun Q hQ=>?_
 (conv=>arg 4;cbv);simp(maxSteps:=400000)only[↓aN,aO,BEq.rfl,reduceIte,reduceCtorEq,Nat.reduceLT,reduceAdd,reduceSub,reduceMul,Nat.reduceBEq,reduceLeDiff,reduceToNat,reduceLE,hQ]
 refine ⟨⟨by omega,by omega⟩,?_⟩
 refine aH (fun m S=>∃ (i c':Nat) (rest:List Vl),m=rest.length∧rest.length≤ps.length∧parts rest.length (v.drop i)=some rest∧gX v.length (v.drop i) rest.length=some c'∧kH n.kind rest=kH n.kind ps∧
  S=⟨dU 75 [(0,aM v),(1,.int .i64 at'),(5,.int .i64 i),(6,.int .i64 ((ps.length:Int)-rest.length))],[]⟩) ps.length ⟨at'+1,c,ps,rfl,Nat.le_refl _,by rw [hpl];exact hps,by rw [hpl];exact hc,rfl,?_⟩ ?_
 · simp only [dh,keepR,reduceAdd,oC,Nat.reduceBEq,List.map_nil]
   simp
 rintro m S ⟨i,c',rest,rfl,hrl,hrp,hrn,hrb,rfl⟩
 have hmn:n.many=(ps.length:Int):=by omega
 have z0:(0≤(at':Int))=True:=eq_true (by omega)
 have zi:(0≤(i:Int))=True:=eq_true (by omega)
 cases rest with
 | nil=>
  simp(maxSteps:=400000)only[↓aN,aO,BEq.rfl,reduceIte,reduceCtorEq,Nat.reduceLT,reduceAdd,reduceSub,reduceMul,Nat.reduceBEq,reduceLeDiff,reduceToNat,reduceLE,hQ,hat,hmn,z0]
  refine ⟨fun h=>absurd h (by simp),fun _=>?_⟩
  rw [← hrb];rfl
 | cons p qs=>
  obtain ⟨pc,qs',h1,h2,h3⟩:=eB (k:=qs.length) hrp
  simp only [List.cons.injEq] at h2
  obtain ⟨rfl,rfl⟩:=h2
  have hpc:=dV _ _ _ h1
  simp only [List.length_drop] at hpc
  have hil:i<v.length:=by omega
  have hgi:=List.getElem?_eq_getElem hil
  have hdi:=List.drop_eq_getElem_cons hil
  have DX:=htx _ (List.getElem_mem hil)
  generalize v[i]=pn at hgi hdi DX
  have hname:nameOf (List.take pc (v.drop i))=pn.name:=by
   obtain ⟨q,hq⟩:∃ q,pc=q+1:=⟨pc-1,by omega⟩
   rw [hdi,hq];rfl
  obtain ⟨c1,c2,e1,e2,e3⟩:=rM v.length (v.drop i) 1 qs.length c' (by rw [Nat.add_comm];exact hrn)
  have hcc:c1=pc:=by
   have:=nC _ _ _ _ e1
   rw [h1] at this
   exact (Option.some.inj this).symm
  subst hcc
  have hnx:=AR e1
  simp only [List.length_cons] at hrl
  have ht1:((i+c1:Nat):Int).toNat=i+c1:=by omega
  have h3':parts qs.length (v.drop (i+c1))=some qs:=by rw [← List.drop_drop];exact h3
  have e2':gX v.length (v.drop (i+c1)) qs.length=some c2:=by rw [← List.drop_drop];exact e2
  have hun:∀ x:Bool,ze n.kind pn.name qs=x→kH n.kind (List.take c1 (v.drop i)::qs)=((n.kind !=5 || pn.name==[]) && utf pn.name && x && kH n.kind qs):=by
   intro x hx
   rw [← hx]
   cases qs <;> simp only [kH,ze,hname]
  have qH:((ps.length:Int)-((qs.length+1:Nat):Int)<(ps.length:Int))=True:=eq_true (by omega)
  cases hu:utf pn.name
  · have hfin:kH n.kind ps=false:=by rw [← hrb,hun _ rfl,hu];simp
    simp(maxSteps:=400000)only[↓aN,aO,BEq.rfl,reduceIte,reduceCtorEq,Nat.reduceLT,reduceAdd,reduceSub,reduceMul,Nat.reduceBEq,reduceLeDiff,reduceToNat,reduceLE,hQ,hat,hmn,z0,zi,hgi,↓fq,↓iW,hnx,hu,qH,hfin]
    exact ⟨fun _ _=>DX.2,fun _=>DX.2⟩
  by_cases h5:n.kind=5∧pn.name≠[]
  · have hfin:kH n.kind ps=false:=by rw [← hrb,hun _ rfl];simp [h5.1,h5.2]
    simp(maxSteps:=400000)only[↓aN,aO,BEq.rfl,reduceIte,reduceCtorEq,Nat.reduceLT,reduceAdd,reduceSub,reduceMul,Nat.reduceBEq,reduceLeDiff,reduceToNat,reduceLE,hQ,hat,hmn,z0,zi,hgi,↓fq,↓iW,hnx,hu,qH,h5.1,h5.2]
    rw [← h5.1];exact hfin
  have hc5:(n.kind !=5 || pn.name==[])=true:=by
   by_cases hk:n.kind=5
   · have:pn.name=[]:=Decidable.of_not_not fun h=>h5 ⟨hk,h⟩
     simp [this]
   · simp [hk]
  rw [hc5,hu] at hun
  have good:n.kind=5→pn.name=[]:=fun hk=>Decidable.of_not_not fun h=>h5 ⟨hk,h⟩
  have hlt1:(-9223372036854775808≤(ps.length:Int)-((qs.length+1:Nat):Int)+1∧(ps.length:Int)-((qs.length+1:Nat):Int)+1≤9223372036854775807)=True:=eq_true ⟨by omega,by omega⟩
  have hiv:i≤v.length:=by omega
  have e:(ps.length:Int)-((qs.length+1:Nat):Int)+1=(ps.length:Int)-qs.length:=by omega
  have l1:qs.length<qs.length+1:=Nat.lt_succ_self _
  have l2:qs.length≤ps.length:=by omega
  have zc:(0≤((i+c1:Nat):Int))=True:=eq_true (by omega)
  have step:ze n.kind pn.name qs=true→∃ m',m'<qs.length+1∧∃ (Ev c':Nat) (rest:List Vl),m'=rest.length∧rest.length≤ps.length∧parts rest.length (v.drop Ev)=some rest∧gX v.length (v.drop Ev) rest.length=some c'∧kH n.kind rest=kH n.kind ps∧
      (⟨dU 75 [(0,aM v),(1,.int .i64 at'),(5,.int .i64 (i+c1:Nat)),(6,.int .i64 ((ps.length:Int)-((qs.length+1:Nat):Int)+1))],[]⟩:St)=⟨dU 75 [(0,aM v),(1,.int .i64 at'),(5,.int .i64 Ev),(6,.int .i64 ((ps.length:Int)-rest.length))],[]⟩:=by
   intro hx
   refine ⟨qs.length,l1,i+c1,c2,qs,rfl,l2,h3',e2',?_,?_⟩
   · rw [← hrb,hun true hx];simp
   · rw [e]
  have stop:ze n.kind pn.name qs=false→kH n.kind ps=false:=fun hx=>by rw [← hrb,hun false hx];simp
  by_cases h6:n.kind=6
  · have h5':¬ n.kind=5:=by omega
    rcases Nat.eq_zero_or_pos qs.length with hq0 | hqp
    · have hq:qs=[]:=List.length_eq_zero_iff.1 hq0
      have hlast:((ps.length:Int)-((qs.length+1:Nat):Int)+1<(ps.length:Int))=False:=eq_false (by omega)
      have hst:=step (by rw [hq];rfl)
      simp(maxSteps:=400000)only[↓aN,aO,BEq.rfl,reduceIte,reduceCtorEq,Nat.reduceLT,reduceAdd,reduceSub,reduceMul,Nat.reduceBEq,reduceLeDiff,reduceToNat,reduceLE,hQ,hat,hmn,z0,zi,hgi,↓fq,↓iW,hnx,hu,qH,h6,reduceEq,hlt1,hlast]
      simp only [h6] at hst
      exact ⟨DX.2,hiv,hl,hst⟩
    · obtain ⟨q,r,hqr⟩:∃ q r,qs=q::r:=by
       cases qs with
       | nil=>simp at hqp
       | cons q r=>exact ⟨q,r,rfl⟩
      have hmore:((ps.length:Int)-((qs.length+1:Nat):Int)+1<(ps.length:Int))=True:=eq_true (by omega)
      have g0:=h3'
      rw [hqr] at g0
      obtain ⟨pc2,qs2,g1,g2,g3⟩:=eB (k:=r.length) g0
      simp only [List.cons.injEq] at g2
      have ac7:=dV _ _ _ g1
      simp only [List.length_drop] at ac7
      have ab_:i+c1<v.length:=by omega
      have aa0:=List.getElem?_eq_getElem ab_
      have aa1:=List.drop_eq_getElem_cons ab_
      generalize v[i+c1]=qn at aa0 aa1
      have WL:nameOf q=qn.name:=by
       obtain ⟨w,hw⟩:∃ w,pc2=w+1:=⟨pc2-1,by omega⟩
       rw [g2.1,aa1,hw];rfl
      have hno:ze n.kind pn.name qs=Op.bytesLess pn.name qn.name:=by
       rw [hqr,ze,WL];simp [h6]
      clear g0 g1 g2 g3 hqr WL aa1 hdi
      cases hbl:Op.bytesLess pn.name qn.name
      · have hfin:=stop (by rw [hno,hbl])
        simp(maxSteps:=400000)only[↓aN,aO,BEq.rfl,reduceIte,reduceCtorEq,Nat.reduceLT,reduceAdd,reduceSub,reduceMul,Nat.reduceBEq,reduceLeDiff,reduceToNat,reduceLE,hQ,hat,hmn,z0,zi,hgi,↓fq,↓iW,hnx,hu,qH,h6,reduceEq,hlt1,hmore,zc,ht1,aa0,hbl]
        rw [h6] at hfin
        exact ⟨DX.2,hiv,hl,hfin⟩
      · have hst:=step (by rw [hno,hbl])
        simp(maxSteps:=400000)only[↓aN,aO,BEq.rfl,reduceIte,reduceCtorEq,Nat.reduceLT,reduceAdd,reduceSub,reduceMul,Nat.reduceBEq,reduceLeDiff,reduceToNat,reduceLE,hQ,hat,hmn,z0,zi,hgi,↓fq,↓iW,hnx,hu,qH,h6,reduceEq,hlt1,hmore,zc,ht1,aa0,hbl]
        simp only [h6] at hst
        exact ⟨DX.2,hiv,hl,hst⟩
  · have hst:=step (by cases qs <;> simp [ze,h6])
    simp(maxSteps:=400000)only[↓aN,aO,BEq.rfl,reduceIte,reduceCtorEq,Nat.reduceLT,reduceAdd,reduceSub,reduceMul,Nat.reduceBEq,reduceLeDiff,reduceToNat,reduceLE,hQ,hat,hmn,z0,zi,hgi,↓fq,↓iW,hnx,hu,qH,h6,hlt1]
    exact ⟨fun h5'=>⟨fun _=>⟨DX.2,hiv,hl,hst⟩,fun hne=>absurd (good h5') hne⟩,fun _=>⟨DX.2,hiv,hl,hst⟩⟩
end Lp
namespace Lp
open Go Go.Proofs
open Nat (reduceAdd reduceLeDiff reduceMul reduceSub)
open Int (reduceLE reduceToNat)
theorem Kq (L:Nat):∀ (v:Vl) (k c i:Nat),gX L v k=some c→i<c→∃ k' c',gX L (v.drop i) (k'+1)=some c'
 | v,0,c,i,h,hi=>by rw [pR] at h;cases h;omega
 | [],k+1,c,i,h,hi=>by simp [gX] at h
 | n::v,k+1,c,0,h,hi=>⟨k,c,by simpa using h⟩
 | n::v,k+1,c,i+1,h,hi=>by
  rw [gX] at h
  split at h
  · cases h
  · cases hs:gX L v (k+n.many.toNat) with
    | none=>rw [hs] at h;simp at h
    | some c'=>
     rw [hs] at h
     simp only [Option.map_some,Option.some.injEq] at h
     simpa using Kq L v _ c' i hs (by omega)
def Cv (v:Vl) (i:Nat):Bool:=match v.drop i with
 | n::r=>(match parts n.many.toNat r with | some ps=>kH n.kind ps | none=>false)
 | []=>true
theorem P_ {v:Vl}{i:Nat}{n:Nd}(hi:v[i]?=some n):fw (v.drop i)=(bF n && Cv v i && fw (v.drop (i+1))):=by
 have hl:=(List.getElem?_eq_some_iff.1 hi).1
 have hd:=List.drop_eq_getElem_cons hl
 rw [List.getElem?_eq_getElem hl] at hi
 cases hi
 simp only [Cv,hd,fw]
 rfl
theorem Nj (v:Vl) (i:Int) (h0:0≤i) (hi:i.toNat<v.length) (hs:Small v) (hn:gX v.length v 1=some v.length) :
  ai Tryz.prog 70 [aM v,.int .i64 i] [] (.bool (Cv v i.toNat)) []:=by
 obtain ⟨i,rfl⟩:∃ k:Nat,i=k:=⟨i.toNat,by omega⟩
 simp only [Int.toNat_natCast] at hi ⊢
 have hg:=List.getElem?_eq_getElem hi
 have hd:=List.drop_eq_getElem_cons hi
 generalize v[i]=n at hg hd
 obtain ⟨k',c',h'⟩:=Kq v.length v 1 _ i hn hi
 rw [Nat.add_comm] at h'
 obtain ⟨c1,_,h1,_,_⟩:=rM v.length _ 1 k' c' h'
 rw [hd,gX] at h1
 split at h1
 · cases h1
 · rename_i hm
   cases hx:gX v.length (v.drop (i+1)) (0+n.many.toNat) with
   | none=>rw [hx] at h1;simp at h1
   | some c=>
    rw [Nat.zero_add] at hx
    obtain ⟨ps,hp,_,_⟩:=eu _ _ _ (nC _ _ _ _ hx)
    have:=Ni v i n c hs hg (by omega) hx ps hp
    simp only [Cv,hd,hp]
    exact this
def o7:dN:=fun args objs K=>match args with
 | [a0,.int .i64 i]=>gu aM a0 (HK.mk:HK fun v=>(0≤i)∧(i.toNat<v.length)∧(Small v)∧(gX v.length v 1=some v.length)∧K (.bool (Cv v i.toNat)) objs 0)
 | _=>False
theorem Kr:aD Tryz.prog 70 (o7):=by
 intro args objs K h
 unfold o7 at h
 split at h
 · rename_i a0 i
   obtain ⟨v,rfl,h1,h2,h3,h4,hk⟩:=h
   exact ⟨_,_,_,.pure _ rfl (Nj v i h1 h2 h3 h4),hk⟩
 · exact h.elim
theorem Qa (v:Vl) (hs:Small v):ai Tryz.prog 36 [aM v] [] (.bool (dG v)) []:=by
 have hl:=hs.len
 refine yQ.bE (T:=aU Tryz.prog [(68,iW),(69,rJ),(70,o7)]) 0 hD (aj (af tu (af Nh (af Kr ah)))) aY (by decide) fun Q hQ=>?_
 rcases Nat.eq_zero_or_pos v.length with hv | hv
 · have hr:dG v=false:=by
    have:v=[]:=List.length_eq_zero_iff.1 hv
    rw [this];rfl
   have hv':((v.length:Int)=0)=True:=eq_true (by omega)
   (conv=>arg 4;cbv);simp(maxSteps:=400000)only[↓aN,aO,BEq.rfl,reduceIte,reduceCtorEq,Nat.reduceLT,reduceAdd,reduceSub,reduceMul,Nat.reduceBEq,reduceLeDiff,reduceToNat,reduceLE,hQ,hr,hv']
 have hv':((v.length:Int)=0)=False:=eq_false (by omega)
 obtain ⟨n0,r0,hvr⟩:∃ n r,v=n::r:=by
  cases v with
  | nil=>simp at hv
  | cons n r=>exact ⟨n,r,rfl⟩
 have hg0:v[0]?=some n0:=by rw [hvr];rfl
 have hnm:nameOf v=n0.name:=by rw [hvr];rfl
 have hne:v.isEmpty=false:=by rw [hvr];rfl
 by_cases hname:n0.name=[]
 rotate_left 1
 · have hr:dG v=false:=by simp [dG,hnm,hname]
   (conv=>arg 4;cbv);simp(maxSteps:=400000)only[↓aN,aO,BEq.rfl,reduceIte,reduceCtorEq,Nat.reduceLT,reduceAdd,reduceSub,reduceMul,Nat.reduceBEq,reduceLeDiff,reduceToNat,reduceLE,hQ,hr,hv',hg0,hname]
 have hz:Int.toNat 0=0:=rfl
 by_cases hnx:rH v 0=(v.length:Int)
 rotate_left 1
 · have hr:dG v=false:=by
    have:gX v.length v 1≠some v.length:=fun h=>hnx (by rw [AR (i:=0) (by simpa using h)];simp)
    simp [dG,this]
   (conv=>arg 4;cbv);simp(maxSteps:=400000)only[↓aN,aO,BEq.rfl,reduceIte,reduceCtorEq,Nat.reduceLT,reduceAdd,reduceSub,reduceMul,Nat.reduceBEq,reduceLeDiff,reduceToNat,reduceLE,hQ,hr,hv',hg0,hname,↓iW,hnx]
   exact ⟨by omega,hl⟩
 have hn:gX v.length v 1=some v.length:=by
  unfold rH at hnx
  rw [List.drop_zero] at hnx
  cases hx:gX v.length v 1 with
  | none=>rw [hx] at hnx;simp only at hnx;omega
  | some c=>rw [hx] at hnx;simp only at hnx;congr 1;omega
 have hr:dG v=fw v:=by simp [dG,hnm,hname,hn,hne]
 (conv=>arg 4;cbv);simp(maxSteps:=400000)only[↓aN,aO,BEq.rfl,reduceIte,reduceCtorEq,Nat.reduceLT,reduceAdd,reduceSub,reduceMul,Nat.reduceBEq,reduceLeDiff,reduceToNat,reduceLE,hQ,hv',hg0,hname,↓iW,hnx]
 refine ⟨by omega,hl,?_⟩
 refine aH (fun m S=>∃ i:Nat,i+m=v.length∧fw (v.drop i)=fw v∧S=⟨dU 39 [(0,aM v),(3,.int .i64 i)],[]⟩) v.length ⟨0,by omega,rfl,?_⟩ ?_
 · simp only [dh,keepR,reduceAdd,oC,Nat.reduceBEq,List.map_nil]
   rfl
 rintro m S ⟨i,him,hgd,rfl⟩
 rcases Nat.lt_or_ge i v.length with h | h
 · have hg:=List.getElem?_eq_getElem h
   have htx:=hs.txt _ (List.getElem_mem h)
   generalize v[i]=n at hg htx
   have hd:=P_ hg
   rw [hgd] at hd
   have zi:(0≤(i:Int))=True:=eq_true (by omega)
   have hlt:((i:Int)<(v.length:Int))=True:=eq_true (by omega)
   cases hp:bF n
   · have hr2:dG v=false:=by rw [hr,hd,hp];rfl
     simp(maxSteps:=400000)only[↓aN,aO,BEq.rfl,reduceIte,reduceCtorEq,Nat.reduceLT,reduceAdd,reduceSub,reduceMul,Nat.reduceBEq,reduceLeDiff,reduceToNat,reduceLE,hQ,hg,↓rJ,↓o7,hp,zi,hlt,hr2]
     exact htx.1
   cases hq:Cv v i
   · have hr2:dG v=false:=by rw [hr,hd,hp,hq];rfl
     simp(maxSteps:=400000)only[↓aN,aO,BEq.rfl,reduceIte,reduceCtorEq,Nat.reduceLT,reduceAdd,reduceSub,reduceMul,Nat.reduceBEq,reduceLeDiff,reduceToNat,reduceLE,hQ,hg,↓rJ,↓o7,hp,hq,zi,hlt,hr2]
     exact ⟨htx.1,h,hs,hn⟩
   · simp(maxSteps:=400000)only[↓aN,aO,BEq.rfl,reduceIte,reduceCtorEq,Nat.reduceLT,reduceAdd,reduceSub,reduceMul,Nat.reduceBEq,reduceLeDiff,reduceToNat,reduceLE,hQ,hg,↓rJ,↓o7,hp,hq,zi,hlt]
     refine ⟨htx.1,h,hs,hn,⟨by omega,by omega⟩,m-1,by omega,i+1,by omega,?_,by simp⟩
     rw [hd,hp,hq];simp
 · have hlt:((i:Int)<(v.length:Int))=False:=eq_false (by omega)
   simp(maxSteps:=400000)only[↓aN,aO,BEq.rfl,reduceIte,reduceCtorEq,Nat.reduceLT,reduceAdd,reduceSub,reduceMul,Nat.reduceBEq,reduceLeDiff,reduceToNat,reduceLE,hQ,hlt]
   rw [hr,← hgd,List.drop_eq_nil_of_le h];rfl
def vQ:dN:=fun args objs K=>match args with
 | [a0]=>gu aM a0 (HK.mk:HK fun v=>(Small v)∧K (.bool (dG v)) objs 0)
 | _=>False
theorem Nk:aD Tryz.prog 36 (vQ):=by
 intro args objs K h
 unfold vQ at h
 split at h
 · rename_i a0
   obtain ⟨v,rfl,h1,hk⟩:=h
   exact ⟨_,_,_,.pure _ rfl (Qa v h1),hk⟩
 · exact h.elim
end Lp
namespace Lp
open Go Go.Proofs
open List (length_append length_cons length_nil map_map map_nil mem_singleton)
open Nat (reduceAdd reduceLeDiff reduceMul reduceSub)
open Int (reduceLE reduceToNat)
theorem bI:PV.uL (.agg ⟨[.int .i64 0,.int .i64 0,.string ⟨⟨[]⟩⟩,.string ⟨⟨[]⟩⟩,.bool false,.int .i64 0]⟩)=av ⟨0,0,[],[],false,0⟩:=rfl
theorem bJ (a:Nd) (k m:Int) (x y:List UInt8) (g:Bool) (e:Int):(av a).putCells 0 [.int .i64 k,.int .i64 m,.str x,.str y,.bool g,.int .i64 e]=av ⟨k,m,x,y,g,e⟩:=rfl
theorem acd (n:Nd) (r:Vl):(∀ y,y ∈ av n::r.map av→y.cells.length=6∧y.cells.all PV.storable=true)=True:=by
 have:=qG (enc:=av) (sz:=6) (fun _=>rfl) (fun _=>rfl) (n::r)
 rwa [List.map_cons] at this
theorem WM (v:Vl) (i j:Nat) (hij:i<j) (hj:j≤v.length) (hl:v.length≤1000000):ai Tryz.prog 74 [aM v,.int .i64 i,.int .i64 j] [] (aM (jW ((v.take j).drop i))) []:=by
 obtain ⟨n,r,hnr⟩:∃ n r,(v.take j).drop i=n::r:=by
  cases h:(v.take j).drop i with
  | nil=>have:=congrArg List.length h;simp at this;omega
  | cons n r=>exact ⟨n,r,rfl⟩
 have hlen:((v.take j).drop i).length≤1000000:=by simp;omega
 rw [hnr] at hlen ⊢
 simp only [length_cons] at hlen
 have zi:(0≤(i:Int))=True:=eq_true (by omega)
 have c1:((i:Int)≤(j:Int))=True:=eq_true (by omega)
 have c2:((j:Int)≤(v.length:Int))=True:=eq_true (by omega)
 refine Cq.bE (T:=aU Tryz.prog []) 1 hD (aj ah) aY (by decide) fun Q hQ=>?_
 (conv=>arg 4;cbv);simp(maxSteps:=400000)only[↓aN,aO,BEq.rfl,reduceIte,reduceCtorEq,Nat.reduceLT,reduceAdd,reduceSub,reduceMul,Nat.reduceBEq,reduceLeDiff,reduceToNat,reduceLE,hQ,zi,c1,c2,hnr,bI,bJ,acd,List.set_cons_zero]
 exact ⟨by omega,by omega,by omega,by omega,((iJ hV inN).1 _ _ (jW (n::r)) 2 _).symm⟩
theorem Un (v:Vl) (i j:Int) (h:0≤i∧i<j∧j≤v.length) (hl:v.length≤1000000):ai Tryz.prog 74 [aM v,.int .i64 i,.int .i64 j] [] (aM (jW ((v.take j.toNat).drop i.toNat))) []:=by
 have e1:i=(i.toNat:Int):=by omega
 have e2:j=(j.toNat:Int):=by omega
 have:=WM v i.toNat j.toNat (by omega) (by omega) hl
 rw [← e1,← e2] at this
 exact this
def Kt:dN:=fun args objs K=>match args with
 | [a0,.int .i64 i,.int .i64 j]=>gu aM a0 (HK.mk:HK fun v=>(0≤i∧i<j∧j≤v.length)∧(v.length≤1000000)∧K (aM (jW ((v.take j.toNat).drop i.toNat))) objs 0)
 | _=>False
theorem Uo:aD Tryz.prog 74 (Kt):=by
 intro args objs K h
 unfold Kt at h
 split at h
 · rename_i a0 i j
   obtain ⟨v,rfl,h1,h2,hk⟩:=h
   exact ⟨_,_,_,.pure _ rfl (Un v i j h1 h2),hk⟩
 · exact h.elim
theorem nT (L:Nat):∀ (v:Vl) (k c:Nat),skip v k=some c→c≤L→gX L v k=some c
 | v,0,c,h,_=>by cases v <;> simpa [gX,skip] using h
 | [],k+1,c,h,_=>by simp [skip] at h
 | n::v,k+1,c,h,hc=>by
  obtain ⟨hm,c',rfl,h'⟩:=cB h
  have:=dV _ _ _ h'
  rw [gX,if_neg (by omega),nT L v _ c' h' (by omega)];rfl
def ace (l:List Vl) (ver:Nat):Obj:=⟨41,1,l.map aM,true,ver⟩
def acf (l:List (List UInt8)) (ver:Nat):Obj:=⟨9,1,l.map .str,true,ver⟩
theorem Uq (d n:Nat) (O:List Obj) (t:TypeId) (sz:Nat) (l:List Vl) (ver:Nat):gy d n O ⟨t,sz,l.map aM,true,ver⟩=⟨t,sz,l.map aM,true,ver⟩:=by
 have:(l.map aM).map (PV.bQ (fJ d n O))=l.map aM:=by
  rw [map_map]
  exact List.map_congr_left fun x _=>rfl
 simp only [gy,this]
theorem Jj (d n:Nat) (O:List Obj) (t:TypeId) (sz:Nat) (l:List (List UInt8)) (ver:Nat):gy d n O ⟨t,sz,l.map .str,true,ver⟩=⟨t,sz,l.map .str,true,ver⟩:=by
 have:(l.map PV.str).map (PV.bQ (fJ d n O))=l.map PV.str:=by
  rw [map_map]
  exact List.map_congr_left fun x _=>rfl
 simp only [gy,this]
theorem Jk (l:List Vl) (ver:Nat):fQ [ace l ver]:=by
 intro o ho x hx c hc
 simp only [mem_singleton] at ho;subst ho
 obtain ⟨y,_,rfl⟩:=List.mem_map.1 hx
 simp only [aM,PV.cells,mem_singleton] at hc
 subst hc;rfl
theorem Cw (l:List (List UInt8)) (ver:Nat):fQ [acf l ver]:=by
 intro o ho x hx c hc
 simp only [mem_singleton] at ho;subst ho
 obtain ⟨y,_,rfl⟩:=List.mem_map.1 hx
 simp only [PV.cells,mem_singleton] at hc
 subst hc;rfl
theorem Ho (v:Vl) (ho:One v) (hl:v.length≤1000000):ai Tryz.prog 42 [aM v] [] (.bO 0 0) [ace (bK v) 0]:=by
 obtain ⟨n,r,hv⟩:∃ n r,v=n::r:=by
  cases v with
  | nil=>exact absurd rfl ho.ne
  | cons n r=>exact ⟨n,r,rfl⟩
 have ho':=ho
 rw [hv] at ho'
 obtain ⟨hm,ps,hp,hfl,hps⟩:=ho'.parts
 have hpl:=bN _ _ _ hp
 have hg0:v[0]?=some n:=by rw [hv];rfl
 have hr:bK v=ps.map jW:=by rw [hv,bK];exact (fP hp).1
 have hmn:n.many=(ps.length:Int):=by omega
 have hd1:v.drop 1=r:=by rw [hv];rfl
 have Hg:=fZ _ _ _ hp
 have hrl:r.length+1=v.length:=by rw [hv];rfl
 rw [hr]
 refine yS.ZY (T:=aU Tryz.prog [(68,iW),(74,Kt)]) 1 hD (aj (af tu (af Uo ah))) aY fun Q hQ=>?_
 (conv=>arg 4;cbv);simp(maxSteps:=400000)only[↓aN,aO,BEq.rfl,reduceIte,reduceCtorEq,Nat.reduceLT,reduceAdd,reduceSub,reduceMul,Nat.reduceBEq,reduceLeDiff,reduceToNat,reduceLE,hQ]
 refine aH (fun m S=>∃ (i ver:Nat) (done:List Vl) (rest:List Vl),m=rest.length∧done.length+rest.length=ps.length∧done++rest.map jW=ps.map jW∧parts rest.length (v.drop i)=some rest∧
  S=⟨dU 28 [(0,aM v),(3,.bO 0 ver),(4,.int .i64 i),(5,.int .i64 done.length)],[⟨41,1,done.map aM,true,ver⟩]⟩) ps.length ⟨1,1,[],ps,rfl,by simp,rfl,by rw [hd1,hpl];exact hp,?_⟩ ?_
 · simp only [dh,keepR,reduceAdd,oC,Nat.reduceBEq,map_nil]
   rfl
 rintro m S ⟨i,ver,done,rest,rfl,hdl,hdr,hrp,rfl⟩
 cases rest with
 | nil=>
  simp only [length_nil,Nat.add_zero] at hdl
  have hlt:((done.length:Int)<(ps.length:Int))=False:=eq_false (by omega)
  simp only [map_nil,List.append_nil] at hdr
  simp(maxSteps:=400000)only[↓aN,aO,BEq.rfl,reduceIte,reduceCtorEq,Nat.reduceLT,reduceAdd,reduceSub,reduceMul,Nat.reduceBEq,reduceLeDiff,reduceToNat,reduceLE,hQ,hg0,hmn,hlt]
  rw [hdr]
  exact aaY (k:=0) (ver:=ver) rfl rfl rfl rfl (congrArg (fun o:Obj=>{ o with ver:=0 }) (Uq 1 1 _ 41 1 (ps.map jW) ver)) (Jk _ 0)
 | cons p qs=>
  obtain ⟨c,qs',h1,h2,h3⟩:=eB (k:=qs.length) hrp
  simp only [List.cons.injEq] at h2
  obtain ⟨hp1,rfl⟩:=h2
  simp only [length_cons] at hdl
  have hlt:((done.length:Int)<(ps.length:Int))=True:=eq_true (by omega)
  have hc:=dV _ _ _ h1
  simp only [List.length_drop] at hc
  have hnx:rH v i=(i+c:Nat):=AR (nT _ _ _ _ h1 (by omega))
  have zi:(0≤(i:Int))=True:=eq_true (by omega)
  simp(maxSteps:=400000)only[↓aN,aO,BEq.rfl,reduceIte,reduceCtorEq,Nat.reduceLT,reduceAdd,reduceSub,reduceMul,Nat.reduceBEq,reduceLeDiff,reduceToNat,reduceLE,hQ,hg0,hmn,hlt,↓iW,↓Kt,hnx,zi]
  have hpe:List.drop i (List.take (i+c) v)=p:=by
   rw [List.drop_take,hp1,show i+c-i=c by omega]
  have happ:List.map aM done++[aM (jW p)]=List.map aM (done++[jW p]):=by simp
  rw [hpe,happ]
  refine ⟨by omega,hl,⟨by omega,by omega⟩,hl,by omega,by omega,⟨by omega,by omega⟩,qs.length,by omega,i+c,ver+1,done++[jW p],qs,rfl,?_,?_,?_,?_⟩
  · simp only [length_append,length_cons,length_nil];omega
  · rw [← hdr];simp
  · rw [← List.drop_drop];exact h3
  · simp only [length_append,length_cons,length_nil,Nat.zero_add,Int.natCast_add,Int.cast_ofNat_Int,Int.natCast_one]
theorem Hq (v:Vl) (ho:One v) (hl:v.length≤1000000):ai Tryz.prog 42 [aM v] [] (lY (bK v)) []:=
 (Ho v ho hl).froze rfl rfl (Jk _ 0)
def nU:dN:=fun args objs K=>match args with
 | [a0]=>gu aM a0 (HK.mk:HK fun v=>(One v)∧(v.length≤1000000)∧K (lY (bK v)) objs 0)
 | _=>False
theorem FV:aD Tryz.prog 42 (nU):=by
 intro args objs K h
 unfold nU at h
 split at h
 · rename_i a0
   obtain ⟨v,rfl,h1,h2,hk⟩:=h
   exact ⟨_,_,_,.pure _ rfl (Hq v h1 h2),hk⟩
 · exact h.elim
theorem DY (v:Vl) (ho:One v) (hl:v.length≤1000000):ai Tryz.prog 82 [aM v] [] (.bO 0 0) [acf (fe v) 0]:=by
 obtain ⟨n,r,hv⟩:∃ n r,v=n::r:=by
  cases v with
  | nil=>exact absurd rfl ho.ne
  | cons n r=>exact ⟨n,r,rfl⟩
 have ho':=ho
 rw [hv] at ho'
 obtain ⟨hm,ps,hp,hfl,hps⟩:=ho'.parts
 have hpl:=bN _ _ _ hp
 have hg0:v[0]?=some n:=by rw [hv];rfl
 have hr:fe v=if n.kind=6 then ps.map nameOf else []:=by rw [hv,fe,(fP hp).2]
 have hmn:n.many=(ps.length:Int):=by omega
 have hd1:v.drop 1=r:=by rw [hv];rfl
 have Hg:=fZ _ _ _ hp
 have hrl:r.length+1=v.length:=by rw [hv];rfl
 refine yU.ZY (T:=aU Tryz.prog [(68,iW)]) 1 hD (aj (af tu ah)) aY fun Q hQ=>?_
 (conv=>arg 4;cbv);simp(maxSteps:=400000)only[↓aN,aO,BEq.rfl,reduceIte,reduceCtorEq,Nat.reduceLT,reduceAdd,reduceSub,reduceMul,Nat.reduceBEq,reduceLeDiff,reduceToNat,reduceLE,hQ]
 refine aH (fun m S=>∃ (i ver:Nat) (done:List (List UInt8)) (rest:List Vl),m=rest.length∧(done=[]∨n.kind=6)∧done.length+rest.length=ps.length∧done++rest.map nameOf=ps.map nameOf∧parts rest.length (v.drop i)=some rest∧
  S=⟨dU 34 [(0,aM v),(3,.bO 0 ver),(4,.int .i64 i),(5,.int .i64 done.length)],[⟨9,1,done.map .str,true,ver⟩]⟩) ps.length ⟨1,1,[],ps,rfl,.inl rfl,by simp,rfl,by rw [hd1,hpl];exact hp,?_⟩ ?_
 · simp only [dh,keepR,reduceAdd,oC,Nat.reduceBEq,map_nil]
   rfl
 rintro m S ⟨i,ver,done,rest,rfl,hdn,hdl,hdr,hrp,rfl⟩
 cases rest with
 | nil=>
  simp only [length_nil,Nat.add_zero] at hdl
  have hlt:((done.length:Int)<(ps.length:Int))=False:=eq_false (by omega)
  simp only [map_nil,List.append_nil] at hdr
  simp(maxSteps:=400000)only[↓aN,aO,BEq.rfl,reduceIte,reduceCtorEq,Nat.reduceLT,reduceAdd,reduceSub,reduceMul,Nat.reduceBEq,reduceLeDiff,reduceToNat,reduceLE,hQ,hg0,hmn,hlt]
  have hd:done=fe v:=by
   rw [hr]
   split
   · exact hdr
   · rename_i h6
     exact hdn.resolve_right h6
  rw [hd]
  exact aaY (k:=0) (ver:=ver) rfl rfl rfl rfl (congrArg (fun o:Obj=>{ o with ver:=0 }) (Jj 1 1 _ 9 1 (fe v) ver)) (Cw _ 0)
 | cons p qs=>
  obtain ⟨c,qs',h1,h2,h3⟩:=eB (k:=qs.length) hrp
  simp only [List.cons.injEq] at h2
  obtain ⟨hp1,rfl⟩:=h2
  simp only [length_cons] at hdl
  have hlt:((done.length:Int)<(ps.length:Int))=True:=eq_true (by omega)
  have hc:=dV _ _ _ h1
  simp only [List.length_drop] at hc
  have hnx:rH v i=(i+c:Nat):=AR (nT _ _ _ _ h1 (by omega))
  have zi:(0≤(i:Int))=True:=eq_true (by omega)
  have hil:i<v.length:=by omega
  have hgi:=List.getElem?_eq_getElem hil
  have hdi:=List.drop_eq_getElem_cons hil
  generalize v[i]=pn at hgi hdi
  have hname:nameOf p=pn.name:=by
   obtain ⟨w,hw⟩:∃ w,c=w+1:=⟨c-1,by omega⟩
   rw [hp1,hdi,hw];rfl
  by_cases h6:n.kind=6
  rotate_left 1
  · simp(maxSteps:=400000)only[↓aN,aO,BEq.rfl,reduceIte,reduceCtorEq,Nat.reduceLT,reduceAdd,reduceSub,reduceMul,Nat.reduceBEq,reduceLeDiff,reduceToNat,reduceLE,hQ,hg0,hmn,hlt,h6]
    have hd:done=fe v:=by rw [hr,if_neg h6,hdn.resolve_right h6]
    rw [hd]
    exact aaY (k:=0) (ver:=ver) rfl rfl rfl rfl (congrArg (fun o:Obj=>{ o with ver:=0 }) (Jj 1 1 _ 9 1 (fe v) ver)) (Cw _ 0)
  simp(maxSteps:=400000)only[↓aN,aO,BEq.rfl,reduceIte,reduceCtorEq,Nat.reduceLT,reduceAdd,reduceSub,reduceMul,Nat.reduceBEq,reduceLeDiff,reduceToNat,reduceLE,hQ,hg0,hmn,hlt,h6,↓iW,hnx,zi,hgi]
  have happ:List.map PV.str done++[PV.str pn.name]=List.map PV.str (done++[pn.name]):=by simp
  rw [happ]
  refine ⟨by omega,by omega,by omega,hl,⟨by omega,by omega⟩,qs.length,by omega,i+c,ver+1,done++[pn.name],qs,rfl,?_,?_,?_,?_⟩
  · simp only [length_append,length_cons,length_nil];omega
  · rw [← hdr,List.map_cons,hname];simp
  · rw [← List.drop_drop];exact h3
  · simp only [length_append,length_cons,length_nil,Nat.zero_add,Int.natCast_add,Int.cast_ofNat_Int,Int.natCast_one]
theorem DZ (v:Vl) (ho:One v) (hl:v.length≤1000000):ai Tryz.prog 82 [aM v] [] (lX (fe v)) []:=
 (DY v ho hl).froze rfl rfl (Cw _ 0)
def nk:dN:=fun args objs K=>match args with
 | [a0]=>gu aM a0 (HK.mk:HK fun v=>(One v)∧(v.length≤1000000)∧K (lX (fe v)) objs 0)
 | _=>False
theorem Cx:aD Tryz.prog 82 (nk):=by
 intro args objs K h
 unfold nk at h
 split at h
 · rename_i a0
   obtain ⟨v,rfl,h1,h2,hk⟩:=h
   exact ⟨_,_,_,.pure _ rfl (DZ v h1 h2),hk⟩
 · exact h.elim
end Lp
namespace Lp
open Go Go.Proofs
end Lp
namespace Lp
open Go Go.Proofs
theorem nmP (n:Nd) (nm:List UInt8):(av n).putCells 2 [.str nm]=av { n with name:=nm }:=rfl
theorem ac8 (n:Nd):(av n).cells.length=6:=rfl
theorem Hr:(PV.uL (Value.agg { toList:=[Value.int IntKind.i64 0,Value.int IntKind.i64 0,Value.string { data:={ toList:=[] } },Value.string { data:={ toList:=[] } },Value.bool false,Value.int IntKind.i64 0] })).cells.length=6:=rfl
theorem Ht:(PV.uL (Value.agg { toList:=[Value.int IntKind.i64 0,Value.int IntKind.i64 0,Value.string { data:={ toList:=[] } },Value.string { data:={ toList:=[] } },Value.bool false,Value.int IntKind.i64 0] })).cells.all PV.storable=true:=rfl
theorem Ur (n:Nat) (objs:List Obj) (v:Vl):(v.map av).map (PV.bQ (jl 0 n objs))=v.map av:=by
 rw [List.map_map]
 exact List.map_congr_left fun x _=>rfl
theorem Us (v:Vl) (ver:Nat) (t:TypeId) (rest:List Obj):fJ 1 0 (⟨t,6,v.map av,true,ver⟩::rest) (.bO 0 ver)=aM v:=by
 simp only [fJ,Nat.not_lt_zero,if_false,jl,List.getElem?_cons_zero,Nat.le_refl,decide_true,Bool.true_and,beq_self_eq_true,if_true,Ur]
 rfl
end Lp
namespace Lp
open Go Go.Proofs
end Lp
namespace Lp
open Go Go.Proofs
theorem knI (l:List (FuncId×dN)) (n:Nat):(((aU Tryz.prog l).inner n).fn=q9 l)∧(((aU Tryz.prog l).inner n).Yx.fn=q9 l)∧(((aU Tryz.prog l).inner n).nx=n):=⟨rfl,rfl,rfl⟩
end Lp
namespace Lp
open Go Go.Lib
open List (length_cons length_drop length_take)
def WN (b0:Nat):Bool:=
 decide (b0<128) || (firstT b0 % 8==1 && (decide (b0<194) || decide (245≤b0))) || (firstT b0 % 8==2 && accLo (firstT b0 / 16)==128 && accHi (firstT b0 / 16)==191 && decide (194≤b0) && decide (b0<224)) ||
  (firstT b0 % 8==3 && accLo (firstT b0 / 16)==(if b0=224 then 160 else 128) && accHi (firstT b0 / 16)==(if b0=237 then 159 else 191) && decide (224≤b0) && decide (b0<240)) ||
  (firstT b0 % 8==4 && accLo (firstT b0 / 16)==(if b0=240 then 144 else 128) && accHi (firstT b0 / 16)==(if b0=244 then 143 else 191) && decide (240≤b0) && decide (b0<245))
theorem Qb:(List.range 256).all WN=true:=by decide
theorem Qc (b0:Nat) (h:b0<256) (h':128≤b0):(firstT b0 % 8=1∧(b0<194∨245≤b0))∨(firstT b0 % 8=2∧accLo (firstT b0 / 16)=128∧accHi (firstT b0 / 16)=191∧194≤b0∧b0<224)∨
  (firstT b0 % 8=3∧accLo (firstT b0 / 16)=(if b0=224 then 160 else 128)∧accHi (firstT b0 / 16)=(if b0=237 then 159 else 191)∧224≤b0∧b0<240)∨
  (firstT b0 % 8=4∧accLo (firstT b0 / 16)=(if b0=240 then 144 else 128)∧accHi (firstT b0 / 16)=(if b0=244 then 143 else 191)∧240≤b0∧b0<245):=by
 have:=List.all_eq_true.1 Qb b0 (List.mem_range.2 h)
 simp only [WN,Bool.or_eq_true,Bool.and_eq_true,decide_eq_true_eq,beq_iff_eq,and_assoc] at this
 rcases this with (((g | g) | g) | g) | g
 · omega
 · exact .inl g
 · exact .inr (.inl g)
 · exact .inr (.inr (.inl g))
 · exact .inr (.inr (.inr g))
theorem WO (c:UInt8) (t:List UInt8):utf (c::t)=(bU (c::t) !=0 && utf ((c::t).drop (bU (c::t)))):=by
 unfold utf
 rw [length_cons,EL]
 simp only [List.isEmpty_cons,Bool.false_or]
 by_cases h:bU (c::t)=0
 · simp [h]
 · congr 1
   exact BM _ _ _ (by simp only [length_drop,length_cons];omega) (Nat.le_refl _)
theorem u8n (c:UInt8) (n:Nat) (h:n<256):c=UInt8.ofNat n↔c.toNat=n:=by
 constructor
 · rintro rfl;simp [UInt8.toNat_ofNat'];omega
 · intro e;rw [← e];simp
theorem Qd (c:UInt8) (t:List UInt8) (h:128≤c.toNat) :
  checkN (t.length+1) (t.getD 0 0).toNat (t.getD 1 0).toNat (t.getD 2 0).toNat (firstT c.toNat % 8) (accLo (firstT c.toNat / 16)) (accHi (firstT c.toNat / 16))=
   if bU (c::t)=0 then none else some (bU (c::t)):=by
 have e1:(c<128)↔c.toNat<128:=UInt8.lt_iff_toNat_lt
 have e2:(194≤c)↔194≤c.toNat:=UInt8.le_iff_toNat_le
 have e3:(c<224)↔c.toNat<224:=UInt8.lt_iff_toNat_lt
 have e4:(224≤c)↔224≤c.toNat:=UInt8.le_iff_toNat_le
 have e5:(c<240)↔c.toNat<240:=UInt8.lt_iff_toNat_lt
 have e6:(240≤c)↔240≤c.toNat:=UInt8.le_iff_toNat_le
 have e7:(c<245)↔c.toNat<245:=UInt8.lt_iff_toNat_lt
 have e8:c=224↔c.toNat=224:=u8n c 224 (by decide)
 have e9:c=237↔c.toNat=237:=u8n c 237 (by decide)
 have ea:c=240↔c.toNat=240:=u8n c 240 (by decide)
 have eb:c=244↔c.toNat=244:=u8n c 244 (by decide)
 have hc:∀ i,gI t i=true↔i<t.length∧128≤(t.getD i 0).toNat∧(t.getD i 0).toNat<192:=by
  intro i
  unfold gI
  cases hg:t[i]? with
  | none=>
   have:=List.getElem?_eq_none_iff.1 hg
   simp;omega
  | some d=>
   have hl:=(List.getElem?_eq_some_iff.1 hg).1
   have hd:t.getD i 0=d:=by simp [List.getD,hg]
   rw [hd]
   simp only [Bool.and_eq_true,decide_eq_true_eq]
   have x1:(128≤d)↔128≤d.toNat:=UInt8.le_iff_toNat_le
   have x2:(d<192)↔d.toNat<192:=UInt8.lt_iff_toNat_lt
   rw [x1,x2]
   exact ⟨fun g=>⟨hl,g⟩,fun g=>g.2⟩
 have hh:t.headD 0=t.getD 0 0:=by cases t <;> rfl
 have f1:(t.getD 0 0<160)↔(t.getD 0 0).toNat<160:=UInt8.lt_iff_toNat_lt
 have f2:(160≤t.getD 0 0)↔160≤(t.getD 0 0).toNat:=UInt8.le_iff_toNat_le
 have f3:(t.getD 0 0<144)↔(t.getD 0 0).toNat<144:=UInt8.lt_iff_toNat_lt
 have f4:(144≤t.getD 0 0)↔144≤(t.getD 0 0).toNat:=UInt8.le_iff_toNat_le
 simp only [bU,e1,e2,e3,e4,e5,e6,e7,e8,e9,ea,eb,hc,hh,f1,f2,f3,f4]
 have hn:=c.toNat_lt
 generalize c.toNat=n at *
 generalize (t.getD 0 0).toNat=b1 at *
 generalize (t.getD 1 0).toNat=b2 at *
 generalize (t.getD 2 0).toNat=b3 at *
 generalize t.length=L at *
 clear e1 e2 e3 e4 e5 e6 e7 e8 e9 ea eb hc f1 f2 f3 f4 hh
 obtain ⟨R,hR⟩:∃ R,(if n<128 then 1 else if 194≤n∧n<224∧0<L∧128≤b1∧b1<192 then 2
  else if 224≤n∧n<240∧(0<L∧128≤b1∧b1<192)∧1<L∧128≤b2∧b2<192 then (if n=224∧b1<160∨n=237∧160≤b1 then 0 else 3)
  else if 240≤n∧n<245∧(0<L∧128≤b1∧b1<192)∧(1<L∧128≤b2∧b2<192)∧2<L∧128≤b3∧b3<192 then (if n=240∧b1<144∨n=244∧144≤b1 then 0 else 4) else 0)=R:=⟨_,rfl⟩
 rw [hR]
 rw [if_neg (by omega)] at hR
 rcases Qc n hn h with ⟨k1,k2⟩ | ⟨k1,k2,k3,k4,k5⟩ | ⟨k1,k2,k3,k4,k5⟩ | ⟨k1,k2,k3,k4,k5⟩
 · rw [k1]
   rw [if_neg (by omega),if_neg (by omega),if_neg (by omega)] at hR
   subst hR;rfl
 · rw [k1,k2,k3]
   simp only [checkN,if_true]
   by_cases g:0<L∧128≤b1∧b1<192
   · rw [if_pos ⟨k4,k5,g⟩] at hR
     subst hR
     rw [if_neg (by omega)];rfl
   · rw [if_neg (by omega),if_neg (by omega),if_neg (by omega)] at hR
     subst hR
     rw [if_pos (by omega)];rfl
 · rw [k1,k2,k3]
   simp only [checkN,Nat.reduceEqDiff,if_false,if_true]
   rw [if_neg (by omega)] at hR
   by_cases g:(0<L∧128≤b1∧b1<192)∧1<L∧128≤b2∧b2<192
   · rw [if_pos ⟨k4,k5,g⟩] at hR
     by_cases g2:n=224∧b1<160∨n=237∧160≤b1
     · rw [if_pos g2] at hR
       subst hR
       rw [if_pos (by split <;> split <;> omega)];rfl
     · rw [if_neg g2] at hR
       subst hR
       rw [if_neg (by split <;> split <;> omega)];rfl
   · rw [if_neg (fun x=>g x.2.2),if_neg (by omega)] at hR
     subst hR
     rw [if_pos (by split <;> split <;> omega)];rfl
 · rw [k1,k2,k3]
   simp only [checkN,Nat.reduceEqDiff,if_false,if_true]
   rw [if_neg (by omega),if_neg (by omega)] at hR
   by_cases g:(0<L∧128≤b1∧b1<192)∧(1<L∧128≤b2∧b2<192)∧2<L∧128≤b3∧b3<192
   · rw [if_pos ⟨k4,k5,g⟩] at hR
     by_cases g2:n=240∧b1<144∨n=244∧144≤b1
     · rw [if_pos g2] at hR
       subst hR
       rw [if_pos (by split <;> split <;> omega)];rfl
     · rw [if_neg g2] at hR
       subst hR
       rw [if_neg (by split <;> split <;> omega)];rfl
   · rw [if_neg (fun x=>g x.2.2)] at hR
     subst hR
     rw [if_pos (by split <;> split <;> omega)];rfl
theorem zh:∀ (k:Nat) (l:List UInt8),l.length≤k→validD l=utf l
 | _,[],_=>rfl
 | 0,_::_,h=>by simp at h
 | k+1,c::t,h=>by
  simp only [length_cons] at h
  rw [WO]
  by_cases hc:c.toNat<128
  · have hr:bU (c::t)=1:=by
     simp only [bU];rw [if_pos (UInt8.lt_iff_toNat_lt.2 hc)]
    rw [validD_cons c t hc,hr,zh k t (by omega)];simp
  · rw [validD_lead _ (by simp) (by simpa using hc)]
    have e:=Qd c t (by omega)
    simp only [List.getD_cons_zero,List.getD_cons_succ,length_cons] at e ⊢
    rw [e]
    by_cases h0:bU (c::t)=0
    · rw [if_pos h0,h0];rfl
    · rw [if_neg h0]
      have:((c::t).drop (bU (c::t))).length≤k:=by simp only [length_drop,length_cons];omega
      rw [show (bU (c::t) !=0)=true by simpa using h0,Bool.true_and]
      exact zh k _ this
theorem Ut (l:List UInt8):validD l=utf l:=zh _ l (Nat.le_refl _)
def lC (x:Nat):Bool:=decide (48≤x) && decide (x≤57)
theorem Dk (n b0 b1 b2 b3:Nat) (h:(decodeN n b0 b1 b2 b3).1<128):b0<128∧decodeN n b0 b1 b2 b3=(b0,1):=by
 unfold decodeN at *
 split at h
 · rename_i h0;rw [if_pos h0];exact ⟨h0,rfl⟩
 · exfalso
   repeat' split at h
   all_goals (simp at h;try omega)
theorem Dl (n b0 b1 b2 b3:Nat) (h:b0<128):decodeN n b0 b1 b2 b3=(b0,1):=by unfold decodeN;rw [if_pos h]
theorem Ew {x:Nat}(h:lC x=true):x<128:=by simp [lC] at h;omega
def Ey (l:List UInt8) (i:Nat):Prop:=∀ j,i≤j→j<l.length→lC (l.getD j 0).toNat=true
theorem Nl (s:ByteArray):∀ (f pos:Nat),s.data.toList.length-pos≤f→(idxFuncFrom lC false s f pos=-1↔Ey s.data.toList pos)
 | 0,pos,h=>by
  simp only [idxFuncFrom,true_iff]
  intro j h1 h2;omega
 | f+1,pos,h=>by
  unfold idxFuncFrom
  rw [size_eq]
  split
  · rename_i hp
    rw [decode_N]
    generalize hd:decodeN _ _ _ _ _=d
    split
    · rename_i hf
      have:¬ Ey s.data.toList pos:=fun hg=>by
       have g:=hg pos (Nat.le_refl _) hp
       rw [Dl _ _ _ _ _ (Ew g)] at hd
       rw [← hd] at hf
       simp only at hf
       rw [g] at hf;cases hf
      simp only [this,iff_false];omega
    · rename_i hf
      simp only [Bool.not_eq_false] at hf
      have hlt:=Ew hf
      rw [← hd] at hlt
      obtain ⟨g1,g2⟩:=Dk _ _ _ _ _ hlt
      rw [g2] at hd
      subst hd
      rw [Nl s f (pos+1) (by omega)]
      constructor
      · intro hh j h1 h2
        rcases Nat.eq_or_lt_of_le h1 with rfl | h1
        · exact hf
        · exact hh j h1 h2
      · intro hh j h1 h2;exact hh j (by omega) h2
  · rename_i hp
    simp only [true_iff]
    intro j h1 h2;omega
theorem FW (l:List UInt8) (h:(decodeLastL l).1<128):l≠[]∧(l.getD (l.length-1) 0).toNat<128∧decodeLastL l=((l.getD (l.length-1) 0).toNat,1):=by
 unfold decodeLastL at *
 split at h
 · simp [Utf8.runeError] at h
 · rename_i hne
   rw [if_neg hne]
   split at h
   · rename_i h1;rw [if_pos h1];exact ⟨hne,h1,rfl⟩
   · rename_i h1
     exfalso
     simp only at h
     split at h
     · rename_i h2
       rw [decodeL_N] at h h2
       obtain ⟨g1,g2⟩:=Dk _ _ _ _ _ h
       rw [g2] at h2
       simp only [getD_dropU] at g1
       have:lastStart l+0=l.length-1:=by omega
       rw [this] at g1
       exact h1 g1
     · simp [Utf8.runeError] at h
theorem Jl (s:ByteArray):∀ (f i:Nat),i≤f→i≤s.data.toList.length→lastIdxFuncFrom lC false s f i=-1→∀ j,j<i→lC (s.data.toList.getD j 0).toNat=true
 | 0,i,h,_,_,j,hj=>by omega
 | f+1,i,h,hi,hx,j,hj=>by
  unfold lastIdxFuncFrom at hx
  rw [if_pos (by omega)] at hx
  split at hx
  · omega
  · rename_i hf
    simp only [Bool.not_eq_false] at hf
    obtain ⟨g0,g1,g2⟩:=FW _ (Ew hf)
    rw [g2] at hf hx
    have hl:(s.data.toList.take i).length=i:=by rw [length_take];omega
    rw [hl] at hf hx
    have e:(s.data.toList.take i).getD (i-1) 0=s.data.toList.getD (i-1) 0:=by
     simp only [List.getD,List.getElem?_take];rw [if_pos (by omega)]
    rw [e] at hf
    rcases Nat.lt_or_ge j (i-1) with h1 | h1
    · exact Jl s f (i-1) (by omega) (by omega) hx j h1
    · have:j=i-1:=by omega
      subst this;exact hf
theorem WQ (l:List UInt8):fI l=true↔Ey l 0:=by
 unfold fI Ey
 rw [List.all_eq_true]
 have key:∀ c:UInt8,(decide (48≤c) && decide (c≤57))=lC c.toNat:=fun c=>by
  have x1:(48≤c)↔48≤c.toNat:=UInt8.le_iff_toNat_le
  have x2:(c≤57)↔c.toNat≤57:=UInt8.le_iff_toNat_le
  simp only [lC,x1,x2]
 constructor
 · intro h j _ hj
   rw [← key]
   have:l.getD j 0=l[j]:=by simp [List.getD,hj]
   rw [this]
   exact h _ (List.getElem_mem hj)
 · intro h c hc
   obtain ⟨j,hj,rfl⟩:=List.mem_iff_getElem.1 hc
   rw [key]
   have:l.getD j 0=l[j]:=by simp [List.getD,hj]
   rw [← this]
   exact h j (Nat.zero_le _) hj
theorem Dm (p:Nat→Bool) (truth:Bool) (s:ByteArray):∀ (f i:Nat),i≤s.size→lastIdxFuncFrom p truth s f i=-1∨(0≤lastIdxFuncFrom p truth s f i∧lastIdxFuncFrom p truth s f i<i)
 | 0,_,_=>.inl rfl
 | f+1,i,hi=>by
  unfold lastIdxFuncFrom
  split
  · rename_i h0
    have hk:=decodeLastL_width (s.data.toList.take i) (by rw [length_take,← size_eq];omega)
    rw [length_take,← size_eq,Nat.min_eq_left hi] at hk
    split
    · exact .inr ⟨by omega,by omega⟩
    · rcases Dm p truth s f (i-(decodeLastL (s.data.toList.take i)).2) (by omega) with h | ⟨h1,h2⟩
      · exact .inl h
      · exact .inr ⟨h1,by omega⟩
  · exact .inl rfl
theorem Qe (l:List UInt8):(trimF lC ⟨⟨l⟩⟩=⟨⟨[]⟩⟩)↔fI l=true:=by
 have hi:=Nl ⟨⟨l⟩⟩ l.length 0 (by simp)
 rw [WQ,← (show (({ data:={ toList:=l } }:ByteArray).data.toList)=l from rfl),← hi]
 have hidx:idxFunc lC false ⟨⟨l⟩⟩=idxFuncFrom lC false ⟨⟨l⟩⟩ l.length 0:=rfl
 rw [← hidx]
 unfold trimF trimLeftF
 constructor
 · intro h
   refine Classical.byContradiction fun hne=>?_
   rw [if_neg hne] at h
   have hr:=idxFunc_range lC false ⟨⟨l⟩⟩
   obtain ⟨r1,r2⟩:=hr.resolve_left hne
   rw [size_eq] at r2
   generalize hk:(idxFunc lC false ⟨⟨l⟩⟩).toNat=k at *
   have hkl:k<l.length:=by simp at r2;omega
   rw [extract_from] at h
   simp only at h
   have hnd:lC (l.getD k 0).toNat=false:=by
    have key:∀ f pos,idxFuncFrom lC false ⟨⟨l⟩⟩ f pos≠-1→lC (Utf8.decode ⟨⟨l⟩⟩ (idxFuncFrom lC false ⟨⟨l⟩⟩ f pos).toNat).1=false:=by
     intro f
     induction f with
     | zero=>intro pos h;exact absurd rfl h
     | succ f ih=>
      intro pos h
      unfold idxFuncFrom at h ⊢
      split at h
      · rename_i hp
        rw [if_pos hp]
        split at h
        · rename_i hf;rw [if_pos hf];simpa using hf
        · rename_i hf;rw [if_neg hf];exact ih _ h
      · exact absurd rfl h
    have:=key _ _ hne
    rw [show (⟨⟨l⟩⟩:ByteArray).size=l.length from rfl,← hidx,hk,decode_N] at this
    cases hb:lC (l.getD k 0).toNat with
    | false=>rfl
    | true=>
     have hlow:=Ew hb
     rw [Dl _ _ _ _ _ hlow] at this
     simp only at this
     rw [hb] at this;cases this
   unfold trimRightF at h
   rw [extract_upto] at h
   have hlen:=congrArg (fun b:ByteArray=>b.data.toList.length) h
   simp only [length_take,length_drop,List.length_nil] at hlen
   have hz:rightEndF lC ⟨(l.drop k).toArray⟩=0:=by omega
   unfold rightEndF at hz
   have hlt:=Dm lC false ⟨(l.drop k).toArray⟩ (l.drop k).length (l.drop k).length (by rw [size_eq];exact Nat.le_refl _)
   have WR:lastIdxFunc lC false ⟨(l.drop k).toArray⟩=lastIdxFuncFrom lC false ⟨(l.drop k).toArray⟩ (l.drop k).length (l.drop k).length:=rfl
   split at hz
   · rename_i h0
     rw [WR] at h0 hz
     obtain ⟨h1,h2⟩:=hlt.resolve_left (by omega)
     have h3:1≤(decodeGoB ((⟨(l.drop k).toArray⟩:ByteArray).extract (lastIdxFuncFrom lC false ⟨(l.drop k).toArray⟩ (l.drop k).length (l.drop k).length).toNat (⟨(l.drop k).toArray⟩:ByteArray).size)).2:=by
      unfold decodeGoB
      rw [if_neg]
      · exact width_pos _ _
      · rw [extract_from,size_eq]
        simp only [length_drop] at h2 ⊢
        omega
     omega
   · rename_i h0
     rw [WR] at h0
     have h1:=hlt.resolve_right (by omega)
     have:=Jl ⟨(l.drop k).toArray⟩ _ _ (Nat.le_refl _) (Nat.le_refl _) h1 0 (by rw [length_drop];omega)
     simp only [getD_dropU] at this
     rw [Nat.add_zero,hnd] at this
     cases this
 · intro h
   rw [if_pos h]
   rfl
theorem qI {α:Type}(p:α→Bool) (l:List α):(l.dropWhile p).length≤l.length:=(List.dropWhile_suffix p).length_le
theorem FX {α:Type}(p:α→Bool):∀ l:List α,l.dropWhile p=l↔(∀ x,l.head?=some x→p x=false)
 | []=>by simp
 | x::t=>by
  rw [List.dropWhile_cons]
  split
  · rename_i h
    constructor
    · intro e
      have:=congrArg List.length e
      have h2:=qI p t
      simp at this;omega
    · intro g;rw [g x rfl] at h;cases h
  · rename_i h;simpa using h
theorem Qf (l:List UInt8) (c:UInt8):trimB l c=l↔l.head?≠some c∧l.getLast?≠some c:=by
 have h1:∀ m:List UInt8,(m.dropWhile (·==c)=m)↔m.head?≠some c:=fun m=>by
  rw [FX]
  constructor
  · intro h e;simpa using h c e
  · intro h x hx;rw [hx] at h;simpa using h
 unfold trimB trimLeftB
 have hlen:(trimRightB l c).length≤l.length:=by
  unfold trimRightB
  have:=qI (·==c) l.reverse
  simpa using this
 have hr:trimRightB l c=l↔l.getLast?≠some c:=by
  unfold trimRightB
  rw [List.reverse_eq_iff,h1,List.head?_reverse]
 constructor
 · intro h
   have h2:=qI (·==c) (trimRightB l c)
   have h3:=congrArg List.length h
   have h4:trimRightB l c=l:=by
    unfold trimRightB at *
    have:=List.dropWhile_suffix (l:=l.reverse) (p:=(·==c))
    have e:=this.eq_of_length (by simp at *;omega)
    rw [e,List.reverse_reverse]
   rw [h4] at h
   exact ⟨(h1 l).1 h,hr.1 h4⟩
 · rintro ⟨g1,g2⟩
   rw [hr.2 g2];exact (h1 l).2 g1
end Lp
namespace Go.Proofs
open Go.Shelf
def Tryz.Nn:Go.Shelf.Ren:=⟨fun | 160=>185 | 232=>160 | 231=>156 | 227=>157 | 234=>161 | 233=>158 | 236=>162 | 235=>159 | 228=>179 | 271=>182 | 151=>181 | 197=>180 | 120=>193 | 152=>192 | 260=>191 | 137=>194 | 119=>195 | 224=>196 | 225=>197 | 217=>198 | 266=>199 | n=>n,fun | 9=>9 | 4=>4 | 3=>3 | 5=>5 | 117=>181 | 116=>180 | 0=>0 | 124=>184 | 21=>21 | 105=>203 | 46=>152 | 119=>193 | 139=>196 | 138=>195 | n=>n,fun | 3=>0 | 4=>1 | n=>n⟩
theorem Tryz.Sd:Go.Proofs.Lays.n160 Tryz.prog Tryz.Nn:={
 mixed:=by kernel_rfl
 f119:=Tryz.func195.trans (congrArg some (by kernel_rfl))
 f120:=Tryz.func193.trans (congrArg some (by kernel_rfl))
 f137:=Tryz.func194.trans (congrArg some (by kernel_rfl))
 f151:=Tryz.func181.trans (congrArg some (by kernel_rfl))
 f152:=Tryz.func192.trans (congrArg some (by kernel_rfl))
 f160:=Tryz.func185.trans (congrArg some (by kernel_rfl))
 f197:=Tryz.func180.trans (congrArg some (by kernel_rfl))
 f217:=Tryz.func198.trans (congrArg some (by kernel_rfl))
 f224:=Tryz.func196.trans (congrArg some (by kernel_rfl))
 f225:=Tryz.func197.trans (congrArg some (by kernel_rfl))
 f227:=Tryz.func157.trans (congrArg some (by kernel_rfl))
 f228:=Tryz.func179.trans (congrArg some (by kernel_rfl))
 f231:=Tryz.func156.trans (congrArg some (by kernel_rfl))
 f232:=Tryz.func160.trans (congrArg some (by kernel_rfl))
 f233:=Tryz.func158.trans (congrArg some (by kernel_rfl))
 f234:=Tryz.func161.trans (congrArg some (by kernel_rfl))
 f235:=Tryz.func159.trans (congrArg some (by kernel_rfl))
 f236:=Tryz.func162.trans (congrArg some (by kernel_rfl))
 f260:=Tryz.func191.trans (congrArg some (by kernel_rfl))
 f266:=Tryz.func199.trans (congrArg some (by kernel_rfl))
 f271:=Tryz.func182.trans (congrArg some (by kernel_rfl))
 t0:=Tryz.underlying0
 a0:=Tryz.isAgg0
 z0:=Tryz.sizeOf0
 v0:=Tryz.zeroValue0
 t3:=Tryz.underlying3
 a3:=Tryz.isAgg3
 z3:=Tryz.sizeOf3
 v3:=Tryz.zeroValue3
 t4:=Tryz.underlying4
 a4:=Tryz.isAgg4
 z4:=Tryz.sizeOf4
 v4:=Tryz.zeroValue4
 t5:=Tryz.underlying5
 a5:=Tryz.isAgg5
 z5:=Tryz.sizeOf5
 v5:=Tryz.zeroValue5
 t9:=Tryz.underlying9
 a9:=Tryz.isAgg9
 z9:=Tryz.sizeOf9
 v9:=Tryz.zeroValue9
 t21:=Tryz.underlying21
 a21:=Tryz.isAgg21
 z21:=Tryz.sizeOf21
 v21:=Tryz.zeroValue21
 t46:=Tryz.underlying152
 a46:=Tryz.isAgg152
 z46:=Tryz.sizeOf152
 v46:=Tryz.zeroValue152
 t105:=Tryz.underlying203
 a105:=Tryz.isAgg203
 z105:=Tryz.sizeOf203
 v105:=Tryz.zeroValue203
 t116:=Tryz.underlying180
 a116:=Tryz.isAgg180
 z116:=Tryz.sizeOf180
 t117:=Tryz.underlying181
 a117:=Tryz.isAgg181
 z117:=Tryz.sizeOf181
 v117:=Tryz.zeroValue181
 t119:=Tryz.underlying193
 a119:=Tryz.isAgg193
 z119:=Tryz.sizeOf193
 t124:=Tryz.underlying184
 a124:=Tryz.isAgg184
 z124:=Tryz.sizeOf184
 v124:=Tryz.zeroValue184
 t138:=Tryz.underlying195
 a138:=Tryz.isAgg195
 z138:=Tryz.sizeOf195
 v138:=Tryz.zeroValue195
 t139:=Tryz.underlying196
 a139:=Tryz.isAgg196
 z139:=Tryz.sizeOf196
 v139:=Tryz.zeroValue196
 g3:=by kernel_rfl
 g4:=by kernel_rfl }
def Tryz.Np:Go.Shelf.Ren:=⟨fun | 196=>142 | 259=>169 | n=>n,fun | 9=>9 | 4=>4 | 3=>3 | 5=>5 | 12=>12 | 119=>193 | 0=>0 | 46=>152 | 139=>196 | 138=>195 | 53=>188 | n=>n,fun | 3=>0 | 4=>1 | n=>n⟩
theorem Tryz.Ku:Go.Proofs.Lays.n196 Tryz.prog Tryz.Np:={
 mixed:=by kernel_rfl
 f196:=Tryz.func142.trans (congrArg some (by kernel_rfl))
 f259:=Tryz.func169.trans (congrArg some (by kernel_rfl))
 t0:=Tryz.underlying0
 a0:=Tryz.isAgg0
 z0:=Tryz.sizeOf0
 v0:=Tryz.zeroValue0
 t3:=Tryz.underlying3
 a3:=Tryz.isAgg3
 z3:=Tryz.sizeOf3
 v3:=Tryz.zeroValue3
 t4:=Tryz.underlying4
 a4:=Tryz.isAgg4
 z4:=Tryz.sizeOf4
 v4:=Tryz.zeroValue4
 t5:=Tryz.underlying5
 a5:=Tryz.isAgg5
 z5:=Tryz.sizeOf5
 v5:=Tryz.zeroValue5
 t9:=Tryz.underlying9
 a9:=Tryz.isAgg9
 z9:=Tryz.sizeOf9
 v9:=Tryz.zeroValue9
 t12:=Tryz.underlying12
 a12:=Tryz.isAgg12
 z12:=Tryz.sizeOf12
 v12:=Tryz.zeroValue12
 t46:=Tryz.underlying152
 a46:=Tryz.isAgg152
 z46:=Tryz.sizeOf152
 v46:=Tryz.zeroValue152
 t53:=Tryz.underlying188
 a53:=Tryz.isAgg188
 z53:=Tryz.sizeOf188
 v53:=Tryz.zeroValue188
 t119:=Tryz.underlying193
 a119:=Tryz.isAgg193
 z119:=Tryz.sizeOf193
 t138:=Tryz.underlying195
 a138:=Tryz.isAgg195
 z138:=Tryz.sizeOf195
 v138:=Tryz.zeroValue195
 t139:=Tryz.underlying196
 a139:=Tryz.isAgg196
 z139:=Tryz.sizeOf196
 v139:=Tryz.zeroValue196
 g3:=by kernel_rfl
 g4:=by kernel_rfl }
def Tryz.Nq:Go.Shelf.Ren:=⟨fun | 237=>154 | 272=>178 | 238=>177 | 315=>190 | 273=>189 | 197=>180 | 271=>182 | 260=>191 | 120=>193 | n=>n,fun | 9=>9 | 40=>177 | 4=>4 | 3=>3 | 105=>203 | 21=>21 | 0=>0 | 5=>5 | 119=>193 | 46=>152 | 139=>196 | 138=>195 | n=>n,fun | 3=>0 | 4=>1 | n=>n⟩
theorem Tryz.Sg:Go.Proofs.Lays.n237 Tryz.prog Tryz.Nq:={
 mixed:=by kernel_rfl
 f120:=Tryz.func193.trans (congrArg some (by kernel_rfl))
 f197:=Tryz.func180.trans (congrArg some (by kernel_rfl))
 f237:=Tryz.func154.trans (congrArg some (by kernel_rfl))
 f238:=Tryz.func177.trans (congrArg some (by kernel_rfl))
 f260:=Tryz.func191.trans (congrArg some (by kernel_rfl))
 f271:=Tryz.func182.trans (congrArg some (by kernel_rfl))
 f272:=Tryz.func178.trans (congrArg some (by kernel_rfl))
 f273:=Tryz.func189.trans (congrArg some (by kernel_rfl))
 f315:=Tryz.func190.trans (congrArg some (by kernel_rfl))
 t0:=Tryz.underlying0
 a0:=Tryz.isAgg0
 z0:=Tryz.sizeOf0
 v0:=Tryz.zeroValue0
 t3:=Tryz.underlying3
 a3:=Tryz.isAgg3
 z3:=Tryz.sizeOf3
 v3:=Tryz.zeroValue3
 t4:=Tryz.underlying4
 a4:=Tryz.isAgg4
 z4:=Tryz.sizeOf4
 v4:=Tryz.zeroValue4
 t5:=Tryz.underlying5
 a5:=Tryz.isAgg5
 z5:=Tryz.sizeOf5
 v5:=Tryz.zeroValue5
 t9:=Tryz.underlying9
 a9:=Tryz.isAgg9
 z9:=Tryz.sizeOf9
 v9:=Tryz.zeroValue9
 t21:=Tryz.underlying21
 a21:=Tryz.isAgg21
 z21:=Tryz.sizeOf21
 v21:=Tryz.zeroValue21
 t40:=Tryz.underlying177
 a40:=Tryz.isAgg177
 z40:=Tryz.sizeOf177
 v40:=Tryz.zeroValue177
 t46:=Tryz.underlying152
 a46:=Tryz.isAgg152
 z46:=Tryz.sizeOf152
 v46:=Tryz.zeroValue152
 t105:=Tryz.underlying203
 a105:=Tryz.isAgg203
 z105:=Tryz.sizeOf203
 v105:=Tryz.zeroValue203
 t119:=Tryz.underlying193
 a119:=Tryz.isAgg193
 z119:=Tryz.sizeOf193
 t138:=Tryz.underlying195
 a138:=Tryz.isAgg195
 z138:=Tryz.sizeOf195
 v138:=Tryz.zeroValue195
 t139:=Tryz.underlying196
 a139:=Tryz.isAgg196
 z139:=Tryz.sizeOf196
 v139:=Tryz.zeroValue196
 g3:=by kernel_rfl
 g4:=by kernel_rfl }
def Tryz.Dn:Go.Shelf.Ren:=⟨fun | 105=>126 | 212=>135 | 99=>136 | 165=>137 | 166=>138 | 170=>139 | 169=>140 | 263=>163 | 264=>164 | 206=>165 | 240=>166 | 241=>167 | 276=>183 | 277=>184 | n=>n,fun | 9=>9 | 3=>3 | 4=>4 | 20=>20 | 0=>0 | 46=>152 | 109=>153 | 5=>5 | 72=>158 | 76=>162 | 51=>185 | 146=>186 | 53=>188 | 148=>189 | 70=>156 | 37=>146 | 75=>161 | 127=>191 | 164=>206 | 80=>165 | n=>n,fun | n=>n⟩
theorem Tryz.wR:Go.Proofs.Lays.n105 Tryz.prog Tryz.Dn:={
 mixed:=by kernel_rfl
 f99:=Tryz.func136.trans (congrArg some (by kernel_rfl))
 f105:=Tryz.func126.trans (congrArg some (by kernel_rfl))
 f165:=Tryz.func137.trans (congrArg some (by kernel_rfl))
 f166:=Tryz.func138.trans (congrArg some (by kernel_rfl))
 f169:=Tryz.func140.trans (congrArg some (by kernel_rfl))
 f170:=Tryz.func139.trans (congrArg some (by kernel_rfl))
 f206:=Tryz.func165.trans (congrArg some (by kernel_rfl))
 f212:=Tryz.func135.trans (congrArg some (by kernel_rfl))
 f240:=Tryz.func166.trans (congrArg some (by kernel_rfl))
 f241:=Tryz.func167.trans (congrArg some (by kernel_rfl))
 f263:=Tryz.func163.trans (congrArg some (by kernel_rfl))
 f264:=Tryz.func164.trans (congrArg some (by kernel_rfl))
 f276:=Tryz.func183.trans (congrArg some (by kernel_rfl))
 f277:=Tryz.func184.trans (congrArg some (by kernel_rfl))
 t0:=Tryz.underlying0
 a0:=Tryz.isAgg0
 z0:=Tryz.sizeOf0
 v0:=Tryz.zeroValue0
 t3:=Tryz.underlying3
 a3:=Tryz.isAgg3
 z3:=Tryz.sizeOf3
 v3:=Tryz.zeroValue3
 t4:=Tryz.underlying4
 a4:=Tryz.isAgg4
 z4:=Tryz.sizeOf4
 v4:=Tryz.zeroValue4
 t5:=Tryz.underlying5
 a5:=Tryz.isAgg5
 z5:=Tryz.sizeOf5
 v5:=Tryz.zeroValue5
 t9:=Tryz.underlying9
 a9:=Tryz.isAgg9
 z9:=Tryz.sizeOf9
 v9:=Tryz.zeroValue9
 t20:=Tryz.underlying20
 a20:=Tryz.isAgg20
 z20:=Tryz.sizeOf20
 v20:=Tryz.zeroValue20
 t37:=Tryz.underlying146
 a37:=Tryz.isAgg146
 z37:=Tryz.sizeOf146
 v37:=Tryz.zeroValue146
 t46:=Tryz.underlying152
 a46:=Tryz.isAgg152
 z46:=Tryz.sizeOf152
 v46:=Tryz.zeroValue152
 t51:=Tryz.underlying185
 a51:=Tryz.isAgg185
 z51:=Tryz.sizeOf185
 v51:=Tryz.zeroValue185
 t53:=Tryz.underlying188
 a53:=Tryz.isAgg188
 z53:=Tryz.sizeOf188
 v53:=Tryz.zeroValue188
 t70:=Tryz.underlying156
 a70:=Tryz.isAgg156
 z70:=Tryz.sizeOf156
 v70:=Tryz.zeroValue156
 t72:=Tryz.underlying158
 a72:=Tryz.isAgg158
 z72:=Tryz.sizeOf158
 v72:=Tryz.zeroValue158
 t75:=Tryz.underlying161
 a75:=Tryz.isAgg161
 z75:=Tryz.sizeOf161
 v75:=Tryz.zeroValue161
 t76:=Tryz.underlying162
 a76:=Tryz.isAgg162
 z76:=Tryz.sizeOf162
 v76:=Tryz.zeroValue162
 t109:=Tryz.underlying153
 a109:=Tryz.isAgg153
 z109:=Tryz.sizeOf153
 v109:=Tryz.zeroValue153
 t127:=Tryz.underlying191
 a127:=Tryz.isAgg191
 z127:=Tryz.sizeOf191
 v127:=Tryz.zeroValue191
 t146:=Tryz.underlying186
 a146:=Tryz.isAgg186
 z146:=Tryz.sizeOf186
 v146:=Tryz.zeroValue186
 t148:=Tryz.underlying189
 a148:=Tryz.isAgg189
 z148:=Tryz.sizeOf189
 v148:=Tryz.zeroValue189
 t164:=Tryz.underlying206
 a164:=Tryz.isAgg206
 z164:=Tryz.sizeOf206
 v164:=Tryz.zeroValue206 }
def Tryz.Nr:Go.Shelf.Ren:=⟨fun | 161=>132 | 231=>156 | 227=>157 | 233=>158 | 235=>159 | 228=>179 | 197=>180 | 151=>181 | 260=>191 | 152=>192 | 137=>194 | 119=>195 | 224=>196 | 225=>197 | 217=>198 | 266=>199 | n=>n,fun | 9=>9 | 4=>4 | 3=>3 | 5=>5 | 117=>181 | 116=>180 | 0=>0 | 124=>184 | 105=>203 | 21=>21 | 119=>193 | 46=>152 | 139=>196 | 138=>195 | n=>n,fun | 3=>0 | 4=>1 | n=>n⟩
theorem Tryz.Si:Go.Proofs.Lays.n161 Tryz.prog Tryz.Nr:={
 mixed:=by kernel_rfl
 f119:=Tryz.func195.trans (congrArg some (by kernel_rfl))
 f137:=Tryz.func194.trans (congrArg some (by kernel_rfl))
 f151:=Tryz.func181.trans (congrArg some (by kernel_rfl))
 f152:=Tryz.func192.trans (congrArg some (by kernel_rfl))
 f161:=Tryz.func132.trans (congrArg some (by kernel_rfl))
 f197:=Tryz.func180.trans (congrArg some (by kernel_rfl))
 f217:=Tryz.func198.trans (congrArg some (by kernel_rfl))
 f224:=Tryz.func196.trans (congrArg some (by kernel_rfl))
 f225:=Tryz.func197.trans (congrArg some (by kernel_rfl))
 f227:=Tryz.func157.trans (congrArg some (by kernel_rfl))
 f228:=Tryz.func179.trans (congrArg some (by kernel_rfl))
 f231:=Tryz.func156.trans (congrArg some (by kernel_rfl))
 f233:=Tryz.func158.trans (congrArg some (by kernel_rfl))
 f235:=Tryz.func159.trans (congrArg some (by kernel_rfl))
 f260:=Tryz.func191.trans (congrArg some (by kernel_rfl))
 f266:=Tryz.func199.trans (congrArg some (by kernel_rfl))
 t0:=Tryz.underlying0
 a0:=Tryz.isAgg0
 z0:=Tryz.sizeOf0
 v0:=Tryz.zeroValue0
 t3:=Tryz.underlying3
 a3:=Tryz.isAgg3
 z3:=Tryz.sizeOf3
 v3:=Tryz.zeroValue3
 t4:=Tryz.underlying4
 a4:=Tryz.isAgg4
 z4:=Tryz.sizeOf4
 v4:=Tryz.zeroValue4
 t5:=Tryz.underlying5
 a5:=Tryz.isAgg5
 z5:=Tryz.sizeOf5
 v5:=Tryz.zeroValue5
 t9:=Tryz.underlying9
 a9:=Tryz.isAgg9
 z9:=Tryz.sizeOf9
 v9:=Tryz.zeroValue9
 t21:=Tryz.underlying21
 a21:=Tryz.isAgg21
 z21:=Tryz.sizeOf21
 v21:=Tryz.zeroValue21
 t46:=Tryz.underlying152
 a46:=Tryz.isAgg152
 z46:=Tryz.sizeOf152
 v46:=Tryz.zeroValue152
 t105:=Tryz.underlying203
 a105:=Tryz.isAgg203
 z105:=Tryz.sizeOf203
 v105:=Tryz.zeroValue203
 t116:=Tryz.underlying180
 a116:=Tryz.isAgg180
 z116:=Tryz.sizeOf180
 t117:=Tryz.underlying181
 a117:=Tryz.isAgg181
 z117:=Tryz.sizeOf181
 v117:=Tryz.zeroValue181
 t119:=Tryz.underlying193
 a119:=Tryz.isAgg193
 z119:=Tryz.sizeOf193
 t124:=Tryz.underlying184
 a124:=Tryz.isAgg184
 z124:=Tryz.sizeOf184
 v124:=Tryz.zeroValue184
 t138:=Tryz.underlying195
 a138:=Tryz.isAgg195
 z138:=Tryz.sizeOf195
 v138:=Tryz.zeroValue195
 t139:=Tryz.underlying196
 a139:=Tryz.isAgg196
 z139:=Tryz.sizeOf196
 v139:=Tryz.zeroValue196
 g3:=by kernel_rfl
 g4:=by kernel_rfl }
def Tryz.Ns:Go.Shelf.Ren:=⟨fun | 162=>133 | 232=>160 | 227=>157 | 234=>161 | 236=>162 | 228=>179 | 271=>182 | 151=>181 | 120=>193 | 197=>180 | 152=>192 | 260=>191 | 137=>194 | 119=>195 | 224=>196 | 225=>197 | 217=>198 | 266=>199 | n=>n,fun | 9=>9 | 4=>4 | 3=>3 | 5=>5 | 117=>181 | 116=>180 | 0=>0 | 124=>184 | 21=>21 | 105=>203 | 46=>152 | 119=>193 | 139=>196 | 138=>195 | n=>n,fun | 3=>0 | 4=>1 | n=>n⟩
theorem Tryz.Sj:Go.Proofs.Lays.n162 Tryz.prog Tryz.Ns:={
 mixed:=by kernel_rfl
 f119:=Tryz.func195.trans (congrArg some (by kernel_rfl))
 f120:=Tryz.func193.trans (congrArg some (by kernel_rfl))
 f137:=Tryz.func194.trans (congrArg some (by kernel_rfl))
 f151:=Tryz.func181.trans (congrArg some (by kernel_rfl))
 f152:=Tryz.func192.trans (congrArg some (by kernel_rfl))
 f162:=Tryz.func133.trans (congrArg some (by kernel_rfl))
 f197:=Tryz.func180.trans (congrArg some (by kernel_rfl))
 f217:=Tryz.func198.trans (congrArg some (by kernel_rfl))
 f224:=Tryz.func196.trans (congrArg some (by kernel_rfl))
 f225:=Tryz.func197.trans (congrArg some (by kernel_rfl))
 f227:=Tryz.func157.trans (congrArg some (by kernel_rfl))
 f228:=Tryz.func179.trans (congrArg some (by kernel_rfl))
 f232:=Tryz.func160.trans (congrArg some (by kernel_rfl))
 f234:=Tryz.func161.trans (congrArg some (by kernel_rfl))
 f236:=Tryz.func162.trans (congrArg some (by kernel_rfl))
 f260:=Tryz.func191.trans (congrArg some (by kernel_rfl))
 f266:=Tryz.func199.trans (congrArg some (by kernel_rfl))
 f271:=Tryz.func182.trans (congrArg some (by kernel_rfl))
 t0:=Tryz.underlying0
 a0:=Tryz.isAgg0
 z0:=Tryz.sizeOf0
 v0:=Tryz.zeroValue0
 t3:=Tryz.underlying3
 a3:=Tryz.isAgg3
 z3:=Tryz.sizeOf3
 v3:=Tryz.zeroValue3
 t4:=Tryz.underlying4
 a4:=Tryz.isAgg4
 z4:=Tryz.sizeOf4
 v4:=Tryz.zeroValue4
 t5:=Tryz.underlying5
 a5:=Tryz.isAgg5
 z5:=Tryz.sizeOf5
 v5:=Tryz.zeroValue5
 t9:=Tryz.underlying9
 a9:=Tryz.isAgg9
 z9:=Tryz.sizeOf9
 v9:=Tryz.zeroValue9
 t21:=Tryz.underlying21
 a21:=Tryz.isAgg21
 z21:=Tryz.sizeOf21
 v21:=Tryz.zeroValue21
 t46:=Tryz.underlying152
 a46:=Tryz.isAgg152
 z46:=Tryz.sizeOf152
 v46:=Tryz.zeroValue152
 t105:=Tryz.underlying203
 a105:=Tryz.isAgg203
 z105:=Tryz.sizeOf203
 v105:=Tryz.zeroValue203
 t116:=Tryz.underlying180
 a116:=Tryz.isAgg180
 z116:=Tryz.sizeOf180
 t117:=Tryz.underlying181
 a117:=Tryz.isAgg181
 z117:=Tryz.sizeOf181
 v117:=Tryz.zeroValue181
 t119:=Tryz.underlying193
 a119:=Tryz.isAgg193
 z119:=Tryz.sizeOf193
 t124:=Tryz.underlying184
 a124:=Tryz.isAgg184
 z124:=Tryz.sizeOf184
 v124:=Tryz.zeroValue184
 t138:=Tryz.underlying195
 a138:=Tryz.isAgg195
 z138:=Tryz.sizeOf195
 v138:=Tryz.zeroValue195
 t139:=Tryz.underlying196
 a139:=Tryz.isAgg196
 z139:=Tryz.sizeOf196
 v139:=Tryz.zeroValue196
 g3:=by kernel_rfl
 g4:=by kernel_rfl }
end Go.Proofs
namespace Lp
open Go Go.Proofs Go.RowKit
theorem Nt {w:World}{ok:Nat→Prop}{blk:Nat→Option Nat}{args:List PV}{vs:List Value}(h:cu (aP w ok [] blk) args vs):cu (dA w ok) args vs:=h.mono fun _ _ h=>vo h
theorem ai.qw {P:Program}{f:FuncId}{args:List PV}{r:PV}(hent:Enters P f)
  (h:∀ (w:World) (vs:List Value) (ok:Nat→Prop),qQ.holds w.heap→cu (dA w ok) args vs→Calls P f ⟨vs⟩ w fun e w'=>∃ v,e=.returned v∧(∀ w ok,dA w ok r v)∧Below w.heap.size w w') :
  ai P f args [] r []:=by
 refine ⟨hent,fun w blk vs base hb _ hargs=>(h w vs _ hb.1 (Nt hargs)).mono ?_⟩
 rintro e w' ⟨v,h1,h2,h3⟩
 exact ⟨v,blk,h1,vw,.aG (h2 _ _),fun b hb _=>h3.block b hb,h3.size,h3.os,h3.output⟩
theorem aa2 {w:World}{ok:Nat→Prop}{p:PV}{vs:List Value}(h:cu (dA w ok) [p] vs):∃ u,vs=[u]∧dA w ok p u:=by
 obtain ⟨hl,h⟩:=h
 match vs,hl with
 | [u],_=>exact ⟨u,rfl,h 0 _ _ rfl rfl⟩
theorem Qg {w:World}{ok:Nat→Prop}{p q:PV}{vs:List Value}(h:cu (dA w ok) [p,q] vs):∃ u v,vs=[u,v]∧dA w ok p u∧dA w ok q v:=by
 obtain ⟨hl,h⟩:=h
 match vs,hl with
 | [u,v],_=>exact ⟨u,v,rfl,h 0 _ _ rfl rfl,h 1 _ _ rfl rfl⟩
theorem jS {w:World}{ok:Nat→Prop}{s:List UInt8}{v:Value}(h:dA w ok (.str s) v):v=.string ⟨⟨s⟩⟩:=by cases h;rfl
theorem WS {w:World}{ok:Nat→Prop}{k:IntKind}{n:Int}{v:Value}(h:dA w ok (.int k n) v):v=.int k n:=by cases h;rfl
theorem Qh (w:World):Below w.heap.size w w.drew:=(Below.refl _ _).drew
theorem Jm {w:World}(h:qQ.holds w.heap):Lib.Utf8Tabs 0 1 w:=h w rfl
theorem Cy (s:List UInt8) (hs:s.length≤4611686018427387904):ai Tryz.prog 142 [.str s] [] (.bool (utf s)) []:=by
 refine ai.qw ⟨_,Tryz.Ku.f196,by kernel_rfl,by kernel_rfl⟩ fun w vs ok hg hr=>?_
 obtain ⟨u,rfl,h⟩:=aa2 hr
 cases jS h
 refine (Any.utf8_ValidString Tryz.Ku ⟨⟨s⟩⟩ w (by rw [Lib.size_eq];simp;omega) (Jm hg)).mono ?_
 rintro e w' ⟨h1,h2⟩
 exact ⟨_,h1,fun w ok=>by rw [Ut];exact .bool _,h2⟩
theorem Qi (s:List UInt8) (hs:s.length≤4611686018427387904):ai Tryz.prog 185 [.str s,.str [48]] [] (.str (Lib.trimB s 48)) []:=by
 refine ai.qw ⟨_,Tryz.Sd.f160,by kernel_rfl,by kernel_rfl⟩ fun w vs ok hg hr=>?_
 obtain ⟨u,v,rfl,h,h'⟩:=Qg hr
 cases jS h
 cases jS h'
 refine (Any.strings_Trim_one Tryz.Sd ⟨⟨s⟩⟩ 48 (by decide) w (by rw [Lib.size_eq];simp;omega)).mono ?_
 rintro e w' ⟨h1,h2⟩
 refine ⟨_,h1,fun w ok=>.str _,?_⟩
 rcases h2 with rfl | rfl
 · exact .refl _ _
 · exact Qh w
theorem Hu (W:World) (x:Nat) (hx:x≤1114111):Calls Tryz.prog 155 #[.int .i32 (x:Int)] W fun e w'=>e=.returned (.bool (lC x))∧Below W.heap.size W w':=by
 have mixed:Tryz.prog.follows .mixedOrders=true:=by kernel_rfl
 have e1:lC x=(decide (48≤(x:Int)) && decide ((x:Int)≤57)):=by
  have a:decide (48≤x)=decide (48≤(x:Int)):=decide_eq_decide.2 (by omega)
  have b:decide (x≤57)=decide ((x:Int)≤57):=decide_eq_decide.2 (by omega)
  rw [lC,a,b]
 rw [e1]
 have h1:(x:Int)<48∨48≤(x:Int):=by omega
 rcases h1 with h1 | h1
 · have h2:¬ (48≤(x:Int)):=by omega
   rw [decide_eq_false h2]
   go_enter Tryz.func155,Tryz.ntmps155
   go_wp2
   go_ret
   exact ⟨rfl,.refl _ _⟩
 · rw [decide_eq_true h1]
   rcases (by omega:(x:Int)≤57∨57<(x:Int)) with h2 | h2
   · rw [decide_eq_true h2]
     go_enter Tryz.func155,Tryz.ntmps155
     go_wp2
     go_ret
     exact ⟨rfl,.refl _ _⟩
   · have h3:¬ ((x:Int)≤57):=by omega
     rw [decide_eq_false h3]
     go_enter Tryz.func155,Tryz.ntmps155
     go_wp2
     go_ret
     exact ⟨rfl,.refl _ _⟩
theorem Kv (s:List UInt8) (hs:s.length≤4611686018427387904):ai Tryz.prog 154 [.str s,.fn 155 [] []] [] (.str (Lib.trimF lC ⟨⟨s⟩⟩).data.toList) []:=by
 refine ai.qw ⟨_,Tryz.Sg.f237,by kernel_rfl,by kernel_rfl⟩ fun w vs ok hg hr=>?_
 obtain ⟨u,v,rfl,h,h'⟩:=Qg hr
 cases jS h
 have hv:v=.func (.func 155) #[] #[]:=by
  cases h' with
  | fn _ _ _ va vc hla hlc ha hc=>
   have e1:va=[]:=List.length_eq_zero_iff.1 (by simpa using hla.symm)
   have e2:vc=[]:=List.length_eq_zero_iff.1 (by simpa using hlc.symm)
   subst e1;subst e2;rfl
 subst hv
 have eg:∀ args w,(callFunc 155 args).run Tryz.prog w=.ok (.enter 155 args) w:=enters_of Tryz.func155 (by kernel_rfl) rfl
 refine (Any.strings_TrimFunc_grows Tryz.Sg 155 #[] eg lC ⟨⟨s⟩⟩ w (by rw [Lib.size_eq];simp;omega) (Jm hg) fun W x hx _=>Hu W x hx).mono ?_
 rintro e w' ⟨h1,h2⟩
 exact ⟨_,h1,fun w ok=>.str _,h2⟩
def tC:dN:=fun args objs K=>match args with
 | [.str s,a1]=>a1=(.fn 155 [] [])∧(s.length≤4611686018427387904)∧K (.str (Lib.trimF lC ⟨⟨s⟩⟩).data.toList) objs 0
 | _=>False
theorem Hw:aD Tryz.prog 154 (tC):=by
 intro args objs K h
 unfold tC at h
 split at h
 · rename_i s a1
   obtain ⟨rfl,h1,hk⟩:=h
   exact ⟨_,_,_,.pure _ rfl (Kv s h1),hk⟩
 · exact h.elim
def d9:dN:=fun args objs K=>match args with
 | [.str s]=>(s.length≤4611686018427387904)∧K (.bool (utf s)) objs 0
 | _=>False
theorem AU:aD Tryz.prog 142 (d9):=by
 intro args objs K h
 unfold d9 at h
 split at h
 · rename_i s
   obtain ⟨h1,hk⟩:=h
   exact ⟨_,_,_,.pure _ rfl (Cy s h1),hk⟩
 · exact h.elim
def AV:dN:=fun args objs K=>match args with
 | [.str s,a1]=>a1=(.str [48])∧(s.length≤4611686018427387904)∧K (.str (Lib.trimB s 48)) objs 0
 | _=>False
theorem Nu:aD Tryz.prog 185 (AV):=by
 intro args objs K h
 unfold AV at h
 split at h
 · rename_i s a1
   obtain ⟨rfl,h1,hk⟩:=h
   exact ⟨_,_,_,.pure _ rfl (Qi s h1),hk⟩
 · exact h.elim
end Lp
namespace Lp
open Go Go.Proofs
theorem pU (d n:Nat) (O:List Obj) (t:TypeId) (sz:Nat) (v:Vl) (ver:Nat):gy d n O ⟨t,sz,v.map av,true,ver⟩=⟨t,sz,v.map av,true,ver⟩:=by
 have:(v.map av).map (PV.bQ (fJ d n O))=v.map av:=by
  rw [List.map_map]
  exact List.map_congr_left fun x _=>rfl
 simp only [gy,this]
end Lp
namespace Lp
open Go Go.Proofs
section
variable {α:Type}{enc:α→PV}{sz:Nat}
def ofR (enc:α→PV) (xs:List PV){K:List α→Prop}(_h:HK K):Prop:=∃ l,xs=l.map enc∧K l
theorem Qj (hi:∀ a b,enc a=enc b→a=b) (K:List α→Prop) (l:List α):ofR enc (l.map enc) (HK.mk:HK K)=K l:=by
 refine propext ⟨fun ⟨m,h1,h2⟩=>?_,fun h=>⟨l,rfl,h⟩⟩
 have:l=m:=(List.map_inj_right (fun a b h=>hi a b h)).1 h1
 subst this;exact h2
end
end Lp
namespace Lp
open Go Go.Proofs
open Nat (lt_or_ge reduceAdd reduceLeDiff reduceMul reduceSub)
open Int (reduceLE reduceToNat)
theorem aS.WT {P:Program}{D:TypeId→aB}{T:Know}{f:FuncId}{n t u v:Nat}{C:LC}{args:List PV}{r:PV}(h:aS P f n [.tmp t,.tmp u,.tmp v] C) (d:Nat) (hD:∀ t,iR P t (D t)) (hT:Jf P none yO T) (hm:P.follows .mixedOrders=true) (ht:t<n) (hu:u<n) (hv:v<n)
  (hw:∀ Q:Exit→St→Prop,(∀ l ob,Q .ret ⟨dU n l,ob⟩=(r=.bT [gG d 0 ob (lW l t),gG d 0 ob (lW l u),gG d 0 ob (lW l v)]))→kZ P D T C Q (dw args n)):ai P f args [] r []:=by
 refine h.pure d hD hT hm (by simp) (hw _ fun l ob=>?_)
 simp only [mE,jo,rq.2.1 n l t ht,rq.2.1 n l u hu,rq.2.1 n l v hv,List.map_cons,List.map_nil,fK]
theorem Uu (s:List UInt8) (hs:s.length≤1000000000):ai Tryz.prog 119 [.str s] [] (.bool (mG s)) []:=by
 refine AB.bE (T:=aU Tryz.prog []) 0 hD (aj ah) aY (by decide) fun Q hQ=>?_
 (conv=>arg 4;cbv);simp(maxSteps:=400000)only[↓ax,ay,BEq.rfl,reduceIte,reduceCtorEq,Nat.reduceLT,reduceAdd,reduceSub,reduceMul,Nat.reduceBEq,reduceLeDiff,reduceToNat,reduceLE,hQ]
 refine aH (fun m S=>∃ i:Nat,i+m=s.length∧(∀ (j:Nat) c,j<i→s[j]?=some c→(oD c || (decide (0<j) && mK c))=true)∧S=⟨dU 49 [(0,.str s),(3,.int .i64 i)],[]⟩) s.length ⟨0,by omega,fun j c h=>absurd h (Nat.not_lt_zero j),?_⟩ ?_
 · simp only [dh,keepR,reduceAdd,oC,Nat.reduceBEq,List.map_nil]
   rfl
 rintro m S ⟨i,him,hb,rfl⟩
 rcases lt_or_ge i s.length with h | h
 · have hlt:((i:Int)<(s.length:Int))=True:=eq_true (by omega)
   have zi:(0≤(i:Int))=True:=eq_true (by omega)
   have hgi:=List.getElem?_eq_getElem h
   generalize s[i]=c at hgi
   have hw:=Mc hgi
   have hn:(oD c || (decide (0<i) && mK c))=true→(∀ (j:Nat) c,j<i+1→s[j]?=some c→(oD c || (decide (0<j) && mK c))=true):=fun hc j x hj hx=>by
    rcases lt_or_ge j i with g | g
    · exact hb j x g hx
    · have:j=i:=by omega
      subst this
      rw [hgi] at hx;cases hx;exact hc
   have hiff:(oD c || (decide (0<i) && mK c))=true↔((97≤(c.toNat:Int)∧(c.toNat:Int)≤122)∨(65≤(c.toNat:Int)∧(c.toNat:Int)≤90)∨(c.toNat:Int)=95∨(0<i∧48≤(c.toNat:Int)∧(c.toNat:Int)≤57)):=by
    simp only [oD,mK,Bool.or_eq_true,Bool.and_eq_true,decide_eq_true_eq,or_assoc]
   have hw':=fun h=>hw (by rw [← Bool.not_eq_true,hiff];exact h)
   have hn':=fun h=>hn (hiff.2 h)
   clear hw hn hiff
   simp(maxSteps:=400000)only[↓ax,ay,BEq.rfl,reduceIte,reduceCtorEq,Nat.reduceLT,reduceAdd,reduceSub,reduceMul,Nat.reduceBEq,reduceLeDiff,reduceToNat,reduceLE,hQ,hlt,zi,hgi]
   repeat' (first | exact ⟨⟨by omega,by omega⟩,m-1,by omega,i+1,by omega,hn' (by omega),rfl⟩ | exact hw' (by omega) | intro _ | refine ⟨?_,?_⟩)
 · have hlt:((i:Int)<(s.length:Int))=False:=eq_false (by omega)
   simp(maxSteps:=400000)only[↓ax,ay,BEq.rfl,reduceIte,reduceCtorEq,Nat.reduceLT,reduceAdd,reduceSub,reduceMul,Nat.reduceBEq,reduceLeDiff,reduceToNat,reduceLE,hQ,hlt]
   cases hs0:s with
   | nil=>rfl
   | cons a t=>
    rw [← hs0,O_ (by rw [hs0];simp) fun j c hc=>hb j c (by have:=(List.getElem?_eq_some_iff.1 hc).1;omega) hc]
    simp [hs0]
def jJ:dN:=fun args objs K=>match args with
 | [.str s]=>(s.length≤1000000000)∧K (.bool (mG s)) objs 0
 | _=>False
theorem Qk:aD Tryz.prog 119 (jJ):=by
 intro args objs K h
 unfold jJ at h
 split at h
 · rename_i s
   obtain ⟨h1,hk⟩:=h
   exact ⟨_,_,_,.pure _ rfl (Uu s h1),hk⟩
 · exact h.elim
theorem cv8 (objs:List Obj) (K:KT):(∀ x,jP D 5 3 (.int .u8 x) objs K=K (.int .i64 (IntKind.i64.wrap x)) objs 0)∧(∀ x,jP D 3 5 (.int .i64 x) objs K=K (.int .u8 (IntKind.u8.wrap x)) objs 0):=by
 refine ⟨fun x=>?_,fun x=>?_⟩
 all_goals simp [jP,mH,bL]
theorem YQ:∀ k:Nat,k≤7→(10:Int) ^ k≤10000000:=by
 intro k hk
 have:∀ k ∈ List.range 8,(10:Int) ^ k≤10000000:=by decide
 exact this k (List.mem_range.2 (by omega))
theorem Nv {s:List UInt8}{f i:Nat}{n:Int}(h:f=0∨s[i]?=none∨∃ c,s[i]?=some c∧¬ (48≤(c.toNat:Int)∧(c.toNat:Int)≤57)):qc s f i n=(n,i):=by
 cases f with
 | zero=>rfl
 | succ f=>
  rcases h with h | h | ⟨c,h,hc⟩
  · omega
  · simp only [qc,h]
  · have:mK c=false:=by simp only [mK,Bool.and_eq_false_iff,decide_eq_false_iff_not];omega
    simp only [qc,h,this];rfl
theorem YR {s:List UInt8}{f i:Nat}{n:Int}{c:UInt8}(h:s[i]?=some c) (h1:48≤(c.toNat:Int)) (h2:(c.toNat:Int)≤57):qc s (f+1) i n=qc s f (i+1) (n*10+((c.toNat:Int)-48)):=by
 have:mK c=true:=by simp only [mK,Bool.and_eq_true,decide_eq_true_eq];exact ⟨h1,h2⟩
 simp only [qc,h,this,if_true]
theorem YS {s:List UInt8}{i0 i:Nat}{n:Int}(hF:qc s 7 i0 0=(n,i)) :
  ((i=i0∨(s[i0]?=some 48∧i0+1<i)∨1000000<n)→dx s i0=(-1,i0))∧(¬ (i=i0∨(s[i0]?=some 48∧i0+1<i)∨1000000<n)→dx s i0=(n,i)):=by
 constructor
 · intro h;unfold dx;rw [hF,if_pos h]
 · intro h;unfold dx;rw [hF,if_neg h]
theorem oN {a b:Int×Nat}(h:a=b):PV.bT [PV.int .i64 a.1,PV.int .i64 (a.2:Int)]=PV.bT [PV.int .i64 b.1,PV.int .i64 (b.2:Int)]:=by rw [h]
theorem Uv (s:List UInt8) (i0:Nat) (hs:s.length≤1000000000) (hi0:i0≤s.length):ai Tryz.prog 122 [.str s,.int .i64 i0] [] (.bT [.int .i64 (dx s i0).1,.int .i64 (dx s i0).2]) []:=by
 refine vM.vE (T:=aU Tryz.prog []) 0 hD (aj ah) aY (by decide) (by decide) fun Q hQ=>?_
 (conv=>arg 4;cbv);simp(maxSteps:=400000)only[↓ax,ay,BEq.rfl,reduceIte,reduceCtorEq,Nat.reduceLT,reduceAdd,reduceSub,reduceMul,Nat.reduceBEq,reduceLeDiff,reduceToNat,reduceLE,hQ]
 refine aH (fun m S=>∃ (i:Nat) (n:Int),m=7-(i-i0)∧i0≤i∧i-i0≤7∧i≤s.length∧0≤n∧n<10 ^ (i-i0)∧qc s 7 i0 0=qc s (7-(i-i0)) i n∧S=⟨dU 63 [(0,.str s),(1,.int .i64 i),(6,.int .i64 n),(7,.int .i64 i0)],[]⟩) 7 ⟨i0,0,by omega,by omega,by omega,hi0,by omega,by simp,by simp,?_⟩ ?_
 · simp only [dh,keepR,reduceAdd,oC,Nat.reduceBEq,List.map_nil]
 rintro m S ⟨i,n,hm,h1,h2,h3,h4,h5,hF,rfl⟩
 have hn7:n<10000000:=by have:=YQ (i-i0) h2;omega
 have zi:(0≤(i:Int))=True:=eq_true (by omega)
 have zi0:(0≤(i0:Int))=True:=eq_true (by omega)
 have hend:qc s (7-(i-i0)) i n=(n,i)→((∀ c0,s[i0]?=some c0→(i=i0∨((c0.toNat:Int)=48∧i0+1<i)∨1000000<n)→dx s i0=(-1,i0))∧(∀ c0,s[i0]?=some c0→¬ (i=i0∨((c0.toNat:Int)=48∧i0+1<i)∨1000000<n)→dx s i0=(n,i))∧(i=i0→dx s i0=(-1,i0))):=fun e=>by
  obtain ⟨g1,g2⟩:=YS (hF.trans e)
  have b48:∀ c0:UInt8,(c0.toNat:Int)=48↔c0=48:=fun c0=>lH (k:=48) (by omega)
  refine ⟨fun c0 h0 hc=>g1 ?_,fun c0 h0 hc=>g2 ?_,fun h=>g1 (Or.inl h)⟩
  · rw [h0,Option.some.injEq,← b48];exact hc
  · rw [h0,Option.some.injEq,← b48];exact hc
 have e0:((i:Int)=(i0:Int))=(i=i0):=propext (by omega)
 rcases lt_or_ge i s.length with h | h
 · have hlt:((i:Int)<(s.length:Int))=True:=eq_true (by omega)
   have hgi:=List.getElem?_eq_getElem h
   generalize s[i]=c at hgi
   have hstep:i-i0<7→48≤(c.toNat:Int)→(c.toNat:Int)≤57→qc s 7 i0 0=qc s (7-(i+1-i0)) (i+1) (n*10+((c.toNat:Int)-48))∧0≤n*10+((c.toNat:Int)-48)∧n*10+((c.toNat:Int)-48)<10 ^ (i+1-i0):=fun a1 a2 a3=>by
    obtain ⟨k,hk⟩:∃ k,i-i0=k:=⟨_,rfl⟩
    have e1:7-(i-i0)=(7-(i+1-i0))+1:=by omega
    refine ⟨by rw [hF,e1,YR hgi a2 a3],by omega,?_⟩
    have e2:i+1-i0=k+1:=by omega
    rw [e2,Int.pow_succ]
    rw [hk] at h5
    omega
   have hE:(¬ (48≤(c.toNat:Int)∧(c.toNat:Int)≤57)∨i-i0=7)→qc s (7-(i-i0)) i n=(n,i):=fun hc=>Nv (by
    rcases hc with hc | hc
    · exact .inr (.inr ⟨c,hgi,hc⟩)
    · exact .inl (by omega))
   have hcv:48≤(c.toNat:Int)→IntKind.i64.wrap ((c.toNat:Int)-48)=(c.toNat:Int)-48:=fun _=>by have:=zS c;rw [IntKind.wrap_i64];omega
   rcases Nat.eq_or_lt_of_le h1 with hi | hi
   · subst hi
     by_cases h48:48≤(c.toNat:Int)
     · have aa3:=hcv h48
       simp(maxSteps:=400000)only[↓ax,ay,BEq.rfl,reduceIte,reduceCtorEq,Nat.reduceLT,reduceAdd,reduceSub,reduceMul,Nat.reduceBEq,reduceLeDiff,reduceToNat,reduceLE,hQ,hlt,zi,hgi,cv8,aa3,zi0]
       repeat' (first | exact ⟨⟨by omega,by omega⟩,m-1,by omega,i0+1,_,by omega,by omega,by omega,by omega,(hstep (by omega) (by omega) (by omega)).2.1,(hstep (by omega) (by omega) (by omega)).2.2,(hstep (by omega) (by omega) (by omega)).1,rfl⟩ | exact (oN ((hend (hE (by omega))).2.2 rfl)) | exact (by omega) | intro _ | refine ⟨?_,?_⟩)
     · simp(maxSteps:=400000)only[↓ax,ay,BEq.rfl,reduceIte,reduceCtorEq,Nat.reduceLT,reduceAdd,reduceSub,reduceMul,Nat.reduceBEq,reduceLeDiff,reduceToNat,reduceLE,hQ,hlt,zi,hgi,zi0]
       repeat' (first | exact (oN ((hend (hE (by omega))).2.2 rfl)) | exact (by omega) | intro _ | refine ⟨?_,?_⟩)
   · have hg0:=List.getElem?_eq_getElem (show i0<s.length by omega)
     generalize s[i0]=c0 at hg0
     by_cases h48:48≤(c.toNat:Int)
     · have aa3:=hcv h48
       simp(maxSteps:=400000)only[↓ax,ay,BEq.rfl,reduceIte,reduceCtorEq,Nat.reduceLT,reduceAdd,reduceSub,reduceMul,Nat.reduceBEq,reduceLeDiff,reduceToNat,reduceLE,hQ,hlt,zi,hgi,cv8,aa3,zi0,hg0]
       repeat' (first | exact ⟨⟨by omega,by omega⟩,m-1,by omega,i+1,_,by omega,by omega,by omega,by omega,(hstep (by omega) (by omega) (by omega)).2.1,(hstep (by omega) (by omega) (by omega)).2.2,(hstep (by omega) (by omega) (by omega)).1,rfl⟩ | exact (oN ((hend (hE (by omega))).1 c0 hg0 (by omega))) | exact (oN ((hend (hE (by omega))).2.1 c0 hg0 (by omega))) | exact (by omega) | intro _ | refine ⟨?_,?_⟩)
     · simp(maxSteps:=400000)only[↓ax,ay,BEq.rfl,reduceIte,reduceCtorEq,Nat.reduceLT,reduceAdd,reduceSub,reduceMul,Nat.reduceBEq,reduceLeDiff,reduceToNat,reduceLE,hQ,hlt,zi,hgi,zi0,hg0]
       repeat' (first | exact (oN ((hend (hE (by omega))).1 c0 hg0 (by omega))) | exact (oN ((hend (hE (by omega))).2.1 c0 hg0 (by omega))) | exact (by omega) | intro _ | refine ⟨?_,?_⟩)
 · have hlt:((i:Int)<(s.length:Int))=False:=eq_false (by omega)
   have hE:qc s (7-(i-i0)) i n=(n,i):=Nv (.inr (.inl (List.getElem?_eq_none_iff.2 h)))
   rcases Nat.eq_or_lt_of_le h1 with hi | hi
   · subst hi
     simp(maxSteps:=400000)only[↓ax,ay,BEq.rfl,reduceIte,reduceCtorEq,Nat.reduceLT,reduceAdd,reduceSub,reduceMul,Nat.reduceBEq,reduceLeDiff,reduceToNat,reduceLE,hQ,hlt,zi0]
     repeat' (first | exact (oN ((hend hE).2.2 rfl)) | exact (by omega) | intro _ | refine ⟨?_,?_⟩)
   · have hg0:=List.getElem?_eq_getElem (show i0<s.length by omega)
     generalize s[i0]=c0 at hg0
     simp(maxSteps:=400000)only[↓ax,ay,BEq.rfl,reduceIte,reduceCtorEq,Nat.reduceLT,reduceAdd,reduceSub,reduceMul,Nat.reduceBEq,reduceLeDiff,reduceToNat,reduceLE,hQ,hlt,zi0,hg0]
     repeat' (first | exact (oN ((hend hE).1 c0 hg0 (by omega))) | exact (oN ((hend hE).2.1 c0 hg0 (by omega))) | exact (by omega) | intro _ | refine ⟨?_,?_⟩)
def nu:dN:=fun args objs K=>match args with
 | [.str s,.int .i64 i]=>(s.length≤1000000000)∧(0≤i)∧(i≤s.length)∧K (.bT [.int .i64 (dx s i.toNat).1,.int .i64 (dx s i.toNat).2]) objs 0
 | _=>False
theorem Ql:aD Tryz.prog 122 (nu):=by
 intro args objs K h
 unfold nu at h
 split at h
 · rename_i s i
   obtain ⟨h1,h2,h3,hk⟩:=h
   exact ⟨_,_,_,.pure _ rfl ((by have:=Uv s i.toNat h1 (by omega);rwa [Int.toNat_of_nonneg h2] at this)),hk⟩
 · exact h.elim
theorem WU:∀ bs bs':List UInt8,bs.map (fun b:UInt8=>PV.int .u8 b.toNat)=bs'.map (fun b:UInt8=>PV.int .u8 b.toNat)→bs=bs'
 | [],[],_=>rfl
 | [],_::_,h=>by simp at h
 | _::_,[],h=>by simp at h
 | a::t,b::u,h=>by
  simp only [List.map_cons,List.cons.injEq,PV.int.injEq,true_and] at h
  have h1:a.toNat=b.toNat:=by omega
  rw [UInt8.toNat_inj.1 h1,WU t u h.2]
theorem FY (bs:List UInt8) (hb:bs≠[]) (K:KT):jP D 146 9 (.bO 0 1) [⟨5,1,bs.map (fun b:UInt8=>PV.int .u8 b.toNat),true,1⟩] K=K (.str bs) [⟨5,1,bs.map (fun b:UInt8=>PV.int .u8 b.toNat),true,1⟩] 4:=by
 refine propext ⟨?_,fun h=>⟨_,bs,rfl,rfl,rfl,rfl,hb,rfl,by simp only [bL],⟨5,by simp only [bL],by simp only [bL]⟩,h⟩⟩
 rintro ⟨o,bs',h1,_,_,_,_,h2,_,_,h⟩
 cases h1
 have:bs=bs':=WU _ _ h2
 subst this
 exact h
theorem WV (n:Int):IntKind.u8.wrap n=((xw n).toNat:Int):=by
 have h1:0≤n % 256:=by omega
 have h2:n % 256<256:=by omega
 have:(xw n).toNat=(n % 256).toNat:=by simp only [xw,UInt8.toNat_ofNat'];omega
 rw [this,IntKind.wrap_u8];omega
theorem aad :
  (∀ (c:UInt8) K,jP D 146 9 (.bO 0 1) [⟨5,1,[.int .u8 c.toNat],true,1⟩] K=K (.str [c]) [⟨5,1,[.int .u8 c.toNat],true,1⟩] 4)∧
  (∀ a K,jP D 146 9 (.bO 0 1) [⟨5,1,[.int .u8 (IntKind.u8.wrap a)],true,1⟩] K=K (.str [xw a]) [⟨5,1,[.int .u8 (IntKind.u8.wrap a)],true,1⟩] 4)∧
  (∀ a b K,jP D 146 9 (.bO 0 1) [⟨5,1,[.int .u8 (IntKind.u8.wrap a),.int .u8 (IntKind.u8.wrap b)],true,1⟩] K=K (.str [xw a,xw b]) [⟨5,1,[.int .u8 (IntKind.u8.wrap a),.int .u8 (IntKind.u8.wrap b)],true,1⟩] 4)∧
  (∀ a b c K,jP D 146 9 (.bO 0 1) [⟨5,1,[.int .u8 (IntKind.u8.wrap a),.int .u8 (IntKind.u8.wrap b),.int .u8 (IntKind.u8.wrap c)],true,1⟩] K=K (.str [xw a,xw b,xw c]) [⟨5,1,[.int .u8 (IntKind.u8.wrap a),.int .u8 (IntKind.u8.wrap b),.int .u8 (IntKind.u8.wrap c)],true,1⟩] 4)∧
  (∀ a b c d K,jP D 146 9 (.bO 0 1) [⟨5,1,[.int .u8 (IntKind.u8.wrap a),.int .u8 (IntKind.u8.wrap b),.int .u8 (IntKind.u8.wrap c),.int .u8 (IntKind.u8.wrap d)],true,1⟩] K=K (.str [xw a,xw b,xw c,xw d]) [⟨5,1,[.int .u8 (IntKind.u8.wrap a),.int .u8 (IntKind.u8.wrap b),.int .u8 (IntKind.u8.wrap c),.int .u8 (IntKind.u8.wrap d)],true,1⟩] 4):=by
 simp only [WV]
 exact ⟨fun c K=>FY [c] (by simp) K,fun a K=>FY [xw a] (by simp) K,fun a b K=>FY [xw a,xw b] (by simp) K,fun a b c K=>FY [xw a,xw b,xw c] (by simp) K,fun a b c d K=>FY [xw a,xw b,xw c,xw d] (by simp) K⟩
theorem WW {l:List PV}{i:Nat}{a:PV}(h:l[i]?=some a) (objs:List Obj) (K:KT):bf (.bT l) i objs K=K a objs 0:=by
 unfold bf
 exact propext ⟨fun ⟨p,h1,h2⟩=>by rw [h] at h1;cases h1;exact h2,fun k=>⟨_,h,k⟩⟩
theorem gM :
  (∀ a b objs K,bf (.bT [a,b]) 0 objs K=K a objs 0)∧(∀ a b objs K,bf (.bT [a,b]) 1 objs K=K b objs 0)∧
  (∀ a b c objs K,bf (.bT [a,b,c]) 0 objs K=K a objs 0)∧(∀ a b c objs K,bf (.bT [a,b,c]) 1 objs K=K b objs 0)∧(∀ a b c objs K,bf (.bT [a,b,c]) 2 objs K=K c objs 0):=
 ⟨fun _ _=>WW rfl,fun _ _=>WW rfl,fun _ _ _=>WW rfl,fun _ _ _=>WW rfl,fun _ _ _=>WW rfl⟩
end Lp
namespace Lp
open Go Go.Proofs
open List (length_cons length_drop length_take map_nil)
open Nat (lt_or_ge reduceAdd reduceLeDiff reduceMul reduceSub)
open Int (reduceLE reduceToNat toNat_natCast)
theorem AX (n:Nat):(SS n).length≤1:=by simp only [SS,length_drop,length_take];omega
theorem WX (n:Nat) (hn:n<16):ai Tryz.prog 153 [.int .i64 n] [] (.str (SS n)) []:=by
 refine Cr.bE (T:=aU Tryz.prog []) 0 hD (aj ah) aY (by decide) fun Q hQ=>?_
 (conv=>arg 4;cbv);simp(maxSteps:=400000)only[↓ax,ay,BEq.rfl,reduceIte,reduceCtorEq,Nat.reduceLT,reduceAdd,reduceSub,reduceMul,Nat.reduceBEq,reduceLeDiff,reduceToNat,reduceLE,hQ]
 have t1:((n:Int)+1).toNat=n+1:=by omega
 refine ⟨⟨by omega,by omega⟩,by omega,by omega,by have:((16:Nat):Int)=16:=rfl;omega,?_⟩
 rw [t1];rfl
def Kw:dN:=fun args objs K=>match args with
 | [.int .i64 n]=>(0≤n)∧(n<16)∧K (.str (SS n.toNat)) objs 0
 | _=>False
theorem Uw:aD Tryz.prog 153 (Kw):=by
 intro args objs K h
 unfold Kw at h
 split at h
 · rename_i n
   obtain ⟨h1,h2,hk⟩:=h
   exact ⟨_,_,_,.pure _ rfl ((by have:=WX n.toNat (by omega);rwa [Int.toNat_of_nonneg h1] at this)),hk⟩
 · exact h.elim
theorem Ky (c:UInt8):ai Tryz.prog 130 [.int .u8 c.toNat] [] (.str (nJ c)) []:=by
 refine vN.bE (T:=aU Tryz.prog [(153,Kw)]) 0 hD (aj (af Uw ah)) aY (by decide) fun Q hQ=>?_
 have hl:=zS c
 have hw:IntKind.i64.wrap (c.toNat:Int)=(c.toNat:Int):=by rw [IntKind.wrap_i64];omega
 have hd:((c.toNat:Int)).tdiv 16=((c.toNat / 16:Nat):Int):=rfl
 have hm:((c.toNat:Int)).tmod 16=((c.toNat % 16:Nat):Int):=rfl
 have l1:=AX (c.toNat / 16)
 have l2:=AX (c.toNat % 16)
 (conv=>arg 4;cbv);simp(maxSteps:=400000)only[↓ax,ay,BEq.rfl,reduceIte,reduceCtorEq,Nat.reduceLT,reduceAdd,reduceSub,reduceMul,Nat.reduceBEq,reduceLeDiff,reduceToNat,reduceLE,hQ,↓Kw,cv8,hw,aad,hd,hm,toNat_natCast]
 repeat' (first | ((simp only [nJ, *,if_true,if_false,Int.reduceEq,Int.reduceLT,reduceIte] <;> fail)) | (omega) | intro _ | refine ⟨?_,?_⟩)
def tF:dN:=fun args objs K=>match args with
 | [.int .u8 x]=>(0≤x)∧(x<256)∧K (.str (nJ (UInt8.ofNat x.toNat))) objs 0
 | _=>False
theorem Hy:aD Tryz.prog 130 (tF):=by
 intro args objs K h
 unfold tF at h
 split at h
 · rename_i x
   obtain ⟨h1,h2,hk⟩:=h
   exact ⟨_,_,_,.pure _ rfl ((by have:=Ky (UInt8.ofNat x.toNat);rwa [show ((UInt8.ofNat x.toNat).toNat:Int)=x by simp only [UInt8.toNat_ofNat'];omega] at this)),hk⟩
 · exact h.elim
theorem aae:∀ k:Nat,k≤4→(16:Int) ^ k≤65536:=by
 intro k hk
 have:∀ k ∈ List.range 5,(16:Int) ^ k≤65536:=by decide
 exact this k (List.mem_range.2 (by omega))
theorem Ux (s:List UInt8) (i:Nat) (hs:s.length≤1000000000) (hi:i≤1000000010):ai Tryz.prog 175 [.str s,.int .i64 i] [] (.int .i64 (dZ s i)) []:=by
 refine AJ.bE (T:=aU Tryz.prog []) 0 hD (aj ah) aY (by decide) fun Q hQ=>?_
 have zi:(0≤(i:Int))=True:=eq_true (by omega)
 have LX:(0≤(i:Int)+1)=True:=eq_true (by omega)
 rcases lt_or_ge s.length (i+6) with h | h
 · have hlt:((s.length:Int)<(i:Int)+6)=True:=eq_true (by omega)
   have e:dZ s i=-1:=if_pos (.inl h)
   (conv=>arg 4;cbv);simp(maxSteps:=400000)only[↓ax,ay,BEq.rfl,reduceIte,reduceCtorEq,Nat.reduceLT,reduceAdd,reduceSub,reduceMul,Nat.reduceBEq,reduceLeDiff,reduceToNat,reduceLE,hQ,zi,LX,hlt,e]
   omega
 have hlt:((s.length:Int)<(i:Int)+6)=False:=eq_false (by omega)
 have hg0:=List.getElem?_eq_getElem (show i<s.length by omega)
 have hg1:=List.getElem?_eq_getElem (show i+1<s.length by omega)
 generalize s[i]=c0 at hg0
 generalize s[i+1]=c1 at hg1
 have t1:((i:Int)+1).toNat=i+1:=by omega
 have b0:(c0.toNat:Int)=92↔c0=92:=lH (k:=92) (by omega)
 have b1:(c1.toNat:Int)=117↔c1=117:=lH (k:=117) (by omega)
 by_cases hc:(c0.toNat:Int)=92∧(c1.toNat:Int)=117
 · obtain ⟨k0,k1⟩:=hc
   have e0:dZ s i=nK ((s.take (i+6)).drop (i+2)) 0:=by
    unfold dZ
    rw [if_neg]
    rintro (g | g | g)
    · omega
    · exact g (by rw [hg0,b0.1 k0])
    · exact g (by rw [hg1,b1.1 k1])
   (conv=>arg 4;cbv);simp(maxSteps:=400000)only[↓ax,ay,BEq.rfl,reduceIte,reduceCtorEq,Nat.reduceLT,reduceAdd,reduceSub,reduceMul,Nat.reduceBEq,reduceLeDiff,reduceToNat,reduceLE,hQ,zi,LX,hlt,hg0,hg1,t1,k0,k1]
   refine ⟨⟨by omega,by omega⟩,⟨by omega,by omega⟩,⟨by omega,by omega⟩,?_⟩
   refine aH (fun m S=>∃ (k:Nat) (n:Int),m=i+6-k∧i+2≤k∧k≤i+6∧0≤n∧n<16 ^ (k-(i+2))∧dZ s i=nK ((s.take (i+6)).drop k) n∧S=⟨dU 77 [(0,.str s),(1,.int .i64 i),(5,.int .i64 n),(6,.int .i64 k)],[]⟩) 4 ⟨i+2,0,by omega,by omega,by omega,by omega,by simp,e0,?_⟩ ?_
   · simp only [dh,keepR,reduceAdd,oC,Nat.reduceBEq,map_nil]
     rfl
   rintro m S ⟨k,n,hm,h1,h2,h3,h4,hU,rfl⟩
   have hn:n<65536:=by have:=aae (k-(i+2)) (by omega);omega
   have zk:(0≤(k:Int))=True:=eq_true (by omega)
   rcases lt_or_ge k (i+6) with g | g
   · have hg:((k:Int)<(i:Int)+6)=True:=eq_true (by omega)
     have X9:=List.getElem?_eq_getElem (show k<s.length by omega)
     have hdr:(s.take (i+6)).drop k=s[k]'(by omega)::(s.take (i+6)).drop (k+1):=by
      rw [List.drop_eq_getElem_cons (by rw [length_take];omega),List.getElem_take]
     generalize s[k]'(by omega)=c at X9 hdr
     have hl:=zS c
     have hw:IntKind.i64.wrap (c.toNat:Int)=(c.toNat:Int):=by rw [IntKind.wrap_i64];omega
     have hb:∀ x:Int,0≤x→x≤n*16+15→0≤x∧x<16 ^ (k+1-(i+2)):=fun x x0 x1=>by
      obtain ⟨j,hj⟩:∃ j,k-(i+2)=j:=⟨_,rfl⟩
      have e2:k+1-(i+2)=j+1:=by omega
      rw [e2,Int.pow_succ]
      rw [hj] at h4
      omega
     rw [hdr] at hU
     have u1:48≤(c.toNat:Int)→(c.toNat:Int)≤57→dZ s i=nK ((s.take (i+6)).drop (k+1)) (n*16+c.toNat-48):=fun a b=>by rw [hU,nK,if_pos ⟨a,b⟩]
     have u2:97≤(c.toNat:Int)→(c.toNat:Int)≤102→dZ s i=nK ((s.take (i+6)).drop (k+1)) (n*16+c.toNat-97+10):=fun a b=>by rw [hU,nK,if_neg (by omega),if_pos ⟨a,b⟩]
     have u3:65≤(c.toNat:Int)→(c.toNat:Int)≤70→dZ s i=nK ((s.take (i+6)).drop (k+1)) (n*16+c.toNat-65+10):=fun a b=>by rw [hU,nK,if_neg (by omega),if_neg (by omega),if_pos ⟨a,b⟩]
     have u4:¬ (48≤(c.toNat:Int)∧(c.toNat:Int)≤57)→¬ (97≤(c.toNat:Int)∧(c.toNat:Int)≤102)→¬ (65≤(c.toNat:Int)∧(c.toNat:Int)≤70)→PV.int .i64 (dZ s i)=PV.int .i64 (-1):=fun a b d=>by rw [hU,nK,if_neg a,if_neg b,if_neg d]
     simp(maxSteps:=400000)only[↓ax,ay,BEq.rfl,reduceIte,reduceCtorEq,Nat.reduceLT,reduceAdd,reduceSub,reduceMul,Nat.reduceBEq,reduceLeDiff,reduceToNat,reduceLE,hQ,hg,zk,X9,cv8,hw]
     repeat' (first | exact u4 (by omega) (by omega) (by omega) | exact ⟨m-1,by omega,k+1,_,by omega,by omega,by omega,(hb _ (by omega) (by omega)).1,(hb _ (by omega) (by omega)).2,u1 (by omega) (by omega),rfl⟩ | exact ⟨m-1,by omega,k+1,_,by omega,by omega,by omega,(hb _ (by omega) (by omega)).1,(hb _ (by omega) (by omega)).2,u2 (by omega) (by omega),rfl⟩ | exact ⟨m-1,by omega,k+1,_,by omega,by omega,by omega,(hb _ (by omega) (by omega)).1,(hb _ (by omega) (by omega)).2,u3 (by omega) (by omega),rfl⟩ | (omega) | intro _ | refine ⟨?_,?_⟩)
   · have hg:((k:Int)<(i:Int)+6)=False:=eq_false (by omega)
     have hk:k=i+6:=by omega
     subst hk
     rw [List.drop_eq_nil_of_le (by rw [length_take];omega),nK] at hU
     simp(maxSteps:=400000)only[↓ax,ay,BEq.rfl,reduceIte,reduceCtorEq,Nat.reduceLT,reduceAdd,reduceSub,reduceMul,Nat.reduceBEq,reduceLeDiff,reduceToNat,reduceLE,hQ,hg,hU]
     omega
 · have e:dZ s i=-1:=by
    unfold dZ
    rw [if_pos]
    by_cases k0:(c0.toNat:Int)=92
    · exact .inr (.inr (by rw [hg1];intro e;exact hc ⟨k0,b1.2 (Option.some.inj e)⟩))
    · exact .inr (.inl (by rw [hg0];intro e;exact k0 (b0.2 (Option.some.inj e))))
   by_cases k0:(c0.toNat:Int)=92
   · have k1:((c1.toNat:Int)=117)=False:=eq_false fun g=>hc ⟨k0,g⟩
     (conv=>arg 4;cbv);simp(maxSteps:=400000)only[↓ax,ay,BEq.rfl,reduceIte,reduceCtorEq,Nat.reduceLT,reduceAdd,reduceSub,reduceMul,Nat.reduceBEq,reduceLeDiff,reduceToNat,reduceLE,hQ,zi,LX,hlt,hg0,hg1,t1,k0,k1,e]
     omega
   · have k0':=eq_false k0
     (conv=>arg 4;cbv);simp(maxSteps:=400000)only[↓ax,ay,BEq.rfl,reduceIte,reduceCtorEq,Nat.reduceLT,reduceAdd,reduceSub,reduceMul,Nat.reduceBEq,reduceLeDiff,reduceToNat,reduceLE,hQ,zi,LX,hlt,hg0,hg1,t1,k0',e]
     omega
theorem Uy (n:Int) (h0:0≤n) (h1:n<2000000):ai Tryz.prog 176 [.int .i64 n] [] (.str (BR n)) []:=by
 refine Cs.bE (T:=aU Tryz.prog []) 0 hD (aj ah) aY (by decide) fun Q hQ=>?_
 have d64:¬ (64:Int)=0:=by omega
 have m64:∀ x:Int,0≤x→(0≤x.tdiv 64∧x.tdiv 64≤x)∧0≤x.tmod 64∧x.tmod 64<64:=fun x hx=>⟨⟨Int.tdiv_nonneg hx (by omega),Int.tdiv_le_self _ hx⟩,Int.tmod_nonneg _ hx,Int.tmod_lt_of_pos _ (by omega)⟩
 have a0:=m64 n h0
 have a1:0≤n.tdiv 4096∧n.tdiv 4096≤n:=⟨Int.tdiv_nonneg h0 (by omega),Int.tdiv_le_self _ h0⟩
 have a2:0≤n.tdiv 262144∧n.tdiv 262144≤n:=⟨Int.tdiv_nonneg h0 (by omega),Int.tdiv_le_self _ h0⟩
 have a3:=m64 _ a0.1.1
 have a4:=m64 _ a1.1
 (conv=>arg 4;cbv);simp(maxSteps:=400000)only[↓ax,ay,BEq.rfl,reduceIte,reduceCtorEq,Nat.reduceLT,reduceAdd,reduceSub,reduceMul,Nat.reduceBEq,reduceLeDiff,reduceToNat,reduceLE,hQ,cv8,aad]
 repeat' (first | ((simp only [BR, *,if_true,if_false] <;> fail)) | (omega) | intro _ | refine ⟨?_,?_⟩)
def Ez:dN:=fun args objs K=>match args with
 | [.str s,.int .i64 i]=>(s.length≤1000000000)∧(0≤i)∧(i≤1000000010)∧K (.int .i64 (dZ s i.toNat)) objs 0
 | _=>False
theorem Qn:aD Tryz.prog 175 (Ez):=by
 intro args objs K h
 unfold Ez at h
 split at h
 · rename_i s i
   obtain ⟨h1,h2,h3,hk⟩:=h
   exact ⟨_,_,_,.pure _ rfl ((by have:=Ux s i.toNat h1 (by omega);rwa [Int.toNat_of_nonneg h2] at this)),hk⟩
 · exact h.elim
def EA:dN:=fun args objs K=>match args with
 | [.int .i64 n]=>(0≤n)∧(n<2000000)∧K (.str (BR n)) objs 0
 | _=>False
theorem Qo:aD Tryz.prog 176 (EA):=by
 intro args objs K h
 unfold EA at h
 split at h
 · rename_i n
   obtain ⟨h1,h2,hk⟩:=h
   exact ⟨_,_,_,.pure _ rfl (Uy n h1 h2),hk⟩
 · exact h.elim
theorem Dp (c:UInt8):(nJ c).length≤6:=by
 have l1:=AX (c.toNat / 16)
 have l2:=AX (c.toNat % 16)
 unfold nJ
 repeat' split
 all_goals simp only [List.length_append,length_cons,List.length_nil]
 all_goals omega
theorem AY:∀ l:List UInt8,(l.map nJ).flatten.length≤6*l.length
 | []=>by simp
 | c::t=>by
  have:=Dp c
  have:=AY t
  simp only [List.map_cons,List.flatten_cons,List.length_append,length_cons];omega
theorem Qp (s:List UInt8) (hs:s.length≤1000000000):ai Tryz.prog 121 [.str s] [] (.str (yG s)) []:=by
 refine y9.bE (T:=aU Tryz.prog [(130,tF)]) 0 hD (aj (af Hy ah)) aY (by decide) fun Q hQ=>?_
 (conv=>arg 4;cbv);simp(maxSteps:=400000)only[↓ax,ay,BEq.rfl,reduceIte,reduceCtorEq,Nat.reduceLT,reduceAdd,reduceSub,reduceMul,Nat.reduceBEq,reduceLeDiff,reduceToNat,reduceLE,hQ]
 refine aH (fun m S=>∃ i:Nat,i+m=s.length∧S=⟨dU 19 [(0,.str s),(3,.str ([34]++((s.take i).map nJ).flatten)),(4,.int .i64 i)],[]⟩) s.length ⟨0,by omega,?_⟩ ?_
 · simp only [dh,keepR,reduceAdd,oC,Nat.reduceBEq,map_nil]
   rfl
 rintro m S ⟨i,him,rfl⟩
 have hfl:=AY (s.take i)
 have htl:(s.take i).length≤s.length:=List.length_take_le' _ _
 rcases lt_or_ge i s.length with h | h
 · have hlt:((i:Int)<(s.length:Int))=True:=eq_true (by omega)
   have zi:(0≤(i:Int))=True:=eq_true (by omega)
   have hgi:=List.getElem?_eq_getElem h
   have htk:s.take (i+1)=s.take i++[s[i]]:=List.take_succ_eq_append_getElem h
   generalize s[i]=c at hgi htk
   have hwl:=Dp c
   have hl:=zS c
   simp(maxSteps:=400000)only[↓ax,ay,BEq.rfl,reduceIte,reduceCtorEq,Nat.reduceLT,reduceAdd,reduceSub,reduceMul,Nat.reduceBEq,reduceLeDiff,reduceToNat,reduceLE,hQ,hlt,zi,hgi,↓tF,toNat_natCast,UInt8.ofNat_toNat]
   exact ⟨by omega,by omega,by omega,⟨by omega,by omega⟩,m-1,by omega,i+1,by omega,by rw [htk];simp only [List.map_append,List.map_cons,map_nil,List.flatten_append,List.flatten_cons,List.flatten_nil,List.append_nil,List.append_assoc,Int.natCast_add,Int.natCast_one]⟩
 · have hlt:((i:Int)<(s.length:Int))=False:=eq_false (by omega)
   rw [List.take_of_length_le h]
   rw [List.take_of_length_le h] at hfl
   simp(maxSteps:=400000)only[↓ax,ay,BEq.rfl,reduceIte,reduceCtorEq,Nat.reduceLT,reduceAdd,reduceSub,reduceMul,Nat.reduceBEq,reduceLeDiff,reduceToNat,reduceLE,hQ,hlt]
   exact ⟨by omega,rfl⟩
def lZ:dN:=fun args objs K=>match args with
 | [.str s]=>(s.length≤1000000000)∧K (.str (yG s)) objs 0
 | _=>False
theorem Nw:aD Tryz.prog 121 (lZ):=by
 intro args objs K h
 unfold lZ at h
 split at h
 · rename_i s
   obtain ⟨h1,hk⟩:=h
   exact ⟨_,_,_,.pure _ rfl (Qp s h1),hk⟩
 · exact h.elim
theorem Ny:∀ (l:List UInt8) (n N:Int),0≤n→n<N→nK l n<N*16 ^ l.length
 | [],n,N,_,h=>by simpa [nK] using h
 | c::t,n,N,h0,h=>by
  have ih:=fun x (a:0≤x) (b:x<N*16)=>Ny t x (N*16) a b
  have e:N*16 ^ (c::t).length=N*16*16 ^ t.length:=by rw [length_cons,Int.pow_succ,Int.mul_assoc,Int.mul_comm (16 ^ t.length) 16]
  have hp:(0:Int)<16 ^ t.length:=Int.pow_pos (by omega)
  have hq:0<N*16*16 ^ t.length:=Int.mul_pos (by omega) hp
  rw [e,nK]
  split
  · exact ih _ (by omega) (by omega)
  · split
    · exact ih _ (by omega) (by omega)
    · split
      · exact ih _ (by omega) (by omega)
      · omega
theorem Nz (s:List UInt8) (i:Nat):dZ s i<65536:=by
 unfold dZ
 split
 · omega
 · have h1:=Ny ((s.take (i+6)).drop (i+2)) 0 1 (by omega) (by omega)
   have h2:=aae ((s.take (i+6)).drop (i+2)).length (by rw [length_drop,length_take];omega)
   omega
theorem WY {c:UInt8}(h:∀ j,j<8→jZ[j]?≠some c):jZ.findIdx? (·=c)=none:=by
 rw [List.findIdx?_eq_none_iff]
 intro x hx
 obtain ⟨j,hj⟩:=List.mem_iff_getElem?.1 hx
 have:=(List.getElem?_eq_some_iff.1 hj).1
 have h1:=h j this
 rw [hj] at h1
 simpa using fun e=>h1 (by rw [e])
theorem WZ {c:UInt8}{k:Nat}(h:∀ j,j<k→jZ[j]?≠some c) (hk:jZ[k]?=some c):jZ.findIdx? (·=c)=some k:=by
 obtain ⟨h1,h2⟩:=List.getElem?_eq_some_iff.1 hk
 rw [List.findIdx?_eq_some_iff_getElem]
 refine ⟨h1,by simpa using h2,fun j hj=>?_⟩
 have:=h j hj
 rw [List.getElem?_eq_getElem (by omega)] at this
 simpa using fun e=>this (by rw [e])
theorem Kz {a b:List UInt8×Int}(h:a=b):PV.bT [PV.str a.1,PV.int .i64 a.2]=PV.bT [PV.str b.1,PV.int .i64 b.2]:=by rw [h]
theorem NA (s:List UInt8) (i:Nat) (hs:s.length≤1000000000) (hi:i<s.length):ai Tryz.prog 152 [.str s,.int .i64 i] [] (.bT [.str (fD s i).1,.int .i64 (fD s i).2]) []:=by
 refine xL.vE (T:=aU Tryz.prog [(175,Ez),(176,EA)]) 0 hD (aj (af Qn (af Qo ah))) aY (by decide) (by decide) fun Q hQ=>?_
 have LX:(0≤(i:Int)+1)=True:=eq_true (by omega)
 have t1:((i:Int)+1).toNat=i+1:=by omega
 have t6:((i:Int)+6).toNat=i+6:=by omega
 have ua:=Nz s i
 have ub:=Nz s (i+6)
 rcases lt_or_ge (i+1) s.length with h | h
 · have hlt:((s.length:Int)≤(i:Int)+1)=False:=eq_false (by omega)
   have hlt':((i:Int)+1<(s.length:Int))=True:=eq_true (by omega)
   have hgi:=List.getElem?_eq_getElem h
   generalize s[i+1]=c at hgi
   (conv=>arg 4;cbv);simp(maxSteps:=400000)only[↓ax,ay,BEq.rfl,reduceIte,reduceCtorEq,Nat.reduceLT,reduceAdd,reduceSub,reduceMul,Nat.reduceBEq,reduceLeDiff,reduceToNat,reduceLE,hQ,LX,t1,hlt,hlt']
   refine ⟨⟨by omega,by omega⟩,?_⟩
   refine aH (fun m S=>∃ k:Nat,k+m=8∧(∀ j,j<k→jZ[j]?≠some c)∧S=⟨dU 74 [(0,.str s),(1,.int .i64 i),(6,.str [34,92,47,98,102,110,114,116]),(7,.str [34,92,47,8,12,10,13,9]),(8,.int .i64 k)],[]⟩) 8 ⟨0,by omega,fun j hj=>absurd hj (Nat.not_lt_zero j),?_⟩ ?_
   · simp only [dh,keepR,reduceAdd,oC,Nat.reduceBEq,map_nil]
     rfl
   rintro m S ⟨k,him,hb,rfl⟩
   have zk:(0≤(k:Int))=True:=eq_true (by omega)
   have tk:((k:Int)+1).toNat=k+1:=by omega
   have hl:=zS c
   rcases lt_or_ge k 8 with g | g
   · have h8:((8:Nat):Int)=8:=rfl
     have hg:((k:Int)<((8:Nat):Int))=True:=eq_true (by omega)
     have X9:jZ[k]?=some jZ[k]:=List.getElem?_eq_getElem g
     generalize jZ[k]=d at X9
     by_cases hcd:c=d
     · have hq:((c.toNat:Int)=(d.toNat:Int))=True:=eq_true (by rw [hcd])
       have e:fD s i=((RA.take (k+1)).drop k,2):=by
        simp only [fD,hgi,WZ hb (by rw [X9,hcd])]
       rw [jZ] at X9
       rw [RA] at e
       simp(maxSteps:=400000)only[↓ax,ay,BEq.rfl,reduceIte,reduceCtorEq,Nat.reduceLT,reduceAdd,reduceSub,reduceMul,Nat.reduceBEq,reduceLeDiff,reduceToNat,reduceLE,hQ,hg,zk,X9,hgi,LX,t1,tk,hq,e]
       repeat' (first | (omega) | intro _ | refine ⟨?_,?_⟩)
     · have hq:((c.toNat:Int)=(d.toNat:Int))=False:=eq_false (fun h=>hcd (UInt8.toNat_inj.1 (by omega)))
       have hb':∀ j,j<k+1→jZ[j]?≠some c:=fun j hj=>by
        rcases lt_or_ge j k with h1 | h1
        · exact hb j h1
        · have:j=k:=by omega
          subst this
          rw [X9];intro e;exact hcd (Option.some.inj e).symm
       rw [jZ] at X9
       simp(maxSteps:=400000)only[↓ax,ay,BEq.rfl,reduceIte,reduceCtorEq,Nat.reduceLT,reduceAdd,reduceSub,reduceMul,Nat.reduceBEq,reduceLeDiff,reduceToNat,reduceLE,hQ,hg,zk,X9,hgi,LX,t1,tk,hq]
       repeat' (first | exact ⟨m-1,by omega,k+1,by omega,hb',rfl⟩ | (omega) | intro _ | refine ⟨?_,?_⟩)
   · have h8:((8:Nat):Int)=8:=rfl
     have hg:((k:Int)<((8:Nat):Int))=False:=eq_false (by omega)
     have hn:=WY fun j hj=>hb j (by omega)
     have e:fD s i=if dZ s i<0∨(56320≤dZ s i∧dZ s i<57344) then ([],0) else if dZ s i<55296∨57344≤dZ s i then (BR (dZ s i),6) else if dZ s (i+6)<56320∨57344≤dZ s (i+6) then ([],0) else (BR (65536+1024*(dZ s i-55296)+dZ s (i+6)-56320),12):=by
      simp only [fD,hgi,hn]
     simp(maxSteps:=400000)only[↓ax,ay,BEq.rfl,reduceIte,reduceCtorEq,Nat.reduceLT,reduceAdd,reduceSub,reduceMul,Nat.reduceBEq,reduceLeDiff,reduceToNat,reduceLE,hQ,hg,↓Ez,↓EA,toNat_natCast,t6]
     generalize dZ s i=a at *
     generalize dZ s (i+6)=b at *
     have e1:(a<0∨(56320≤a∧a<57344))→fD s i=([],0):=fun x=>by rw [e,if_pos x]
     have e2:¬ (a<0∨(56320≤a∧a<57344))→(a<55296∨57344≤a)→fD s i=(BR a,6):=fun x y=>by rw [e,if_neg x,if_pos y]
     have e3:¬ (a<0∨(56320≤a∧a<57344))→¬ (a<55296∨57344≤a)→(b<56320∨57344≤b)→fD s i=([],0):=fun x y z=>by rw [e,if_neg x,if_neg y,if_pos z]
     have e4:¬ (a<0∨(56320≤a∧a<57344))→¬ (a<55296∨57344≤a)→¬ (b<56320∨57344≤b)→fD s i=(BR (65536+1024*(a-55296)+b-56320),12):=fun x y z=>by rw [e,if_neg x,if_neg y,if_neg z]
     clear e
     repeat' (first | (omega) | exact (Kz (e1 (by omega))) | exact (Kz (e2 (by omega) (by omega))) | exact (Kz (e3 (by omega) (by omega) (by omega))) | exact (Kz (e4 (by omega) (by omega) (by omega))) | intro _ | refine ⟨?_,?_⟩)
 · have hlt:((s.length:Int)≤(i:Int)+1)=True:=eq_true (by omega)
   have hlt':((i:Int)+1<(s.length:Int))=False:=eq_false (by omega)
   have e:fD s i=([],0):=by simp only [fD,List.getElem?_eq_none_iff.2 h]
   (conv=>arg 4;cbv);simp(maxSteps:=400000)only[↓ax,ay,BEq.rfl,reduceIte,reduceCtorEq,Nat.reduceLT,reduceAdd,reduceSub,reduceMul,Nat.reduceBEq,reduceLeDiff,reduceToNat,reduceLE,hQ,LX,t1,hlt,hlt',e]
   omega
def wS:dN:=fun args objs K=>match args with
 | [.str s,.int .i64 i]=>(s.length≤1000000000)∧(0≤i)∧(i<s.length)∧K (.bT [.str (fD s i.toNat).1,.int .i64 (fD s i.toNat).2]) objs 0
 | _=>False
theorem KA:aD Tryz.prog 152 (wS):=by
 intro args objs K h
 unfold wS at h
 split at h
 · rename_i s i
   obtain ⟨h1,h2,h3,hk⟩:=h
   exact ⟨_,_,_,.pure _ rfl ((by have:=NA s i.toNat h1 (by omega);rwa [Int.toNat_of_nonneg h2] at this)),hk⟩
 · exact h.elim
theorem Qq (s:List UInt8) (i:Nat) (hs:s.length≤1000000000) (hi:i<s.length):ai Tryz.prog 129 [.str s,.int .i64 i] [] (.bT [.str (jO s i).1,.int .i64 (jO s i).2]) []:=by
 refine y_.vE (T:=aU Tryz.prog [(152,wS),(62,wP)]) 0 hD (aj (af KA (af FP ah))) aY (by decide) (by decide) fun Q hQ=>?_
 have zi:(0≤(i:Int))=True:=eq_true (by omega)
 have hgi:=List.getElem?_eq_getElem hi
 generalize s[i]=c at hgi
 have b0:(c.toNat:Int)=92↔c=92:=lH (k:=92) (by omega)
 by_cases h:(c.toNat:Int)=92
 · have e:jO s i=fD s i:=by unfold jO;rw [if_pos (by rw [hgi,b0.1 h])]
   (conv=>arg 4;cbv);simp(maxSteps:=400000)only[↓ax,ay,BEq.rfl,reduceIte,reduceCtorEq,Nat.reduceLT,reduceAdd,reduceSub,reduceMul,Nat.reduceBEq,reduceLeDiff,reduceToNat,reduceLE,hQ,zi,hgi,h,↓wS,e,toNat_natCast,gM]
   omega
 · have h':=eq_false h
   have e:jO s i=((s.drop i).take (bU (s.drop i)),(bU (s.drop i):Int)):=by
    unfold jO;rw [if_neg];rw [hgi];intro x;exact h (b0.2 (Option.some.inj x))
   have hrl:=FQ (s.drop i)
   rw [length_drop] at hrl
   (conv=>arg 4;cbv);simp(maxSteps:=400000)only[↓ax,ay,BEq.rfl,reduceIte,reduceCtorEq,Nat.reduceLT,reduceAdd,reduceSub,reduceMul,Nat.reduceBEq,reduceLeDiff,reduceToNat,reduceLE,hQ,zi,hgi,h',↓wP,toNat_natCast]
   refine ⟨by omega,by omega,⟨by omega,by omega⟩,by omega,by omega,?_⟩
   have tn:((i:Int)+(bU (s.drop i):Int)).toNat=i+bU (s.drop i):=by omega
   rw [e,tn,List.take_drop]
def AZ:dN:=fun args objs K=>match args with
 | [.str s,.int .i64 i]=>(s.length≤1000000000)∧(0≤i)∧(i<s.length)∧K (.bT [.str (jO s i.toNat).1,.int .i64 (jO s i.toNat).2]) objs 0
 | _=>False
theorem NC:aD Tryz.prog 129 (AZ):=by
 intro args objs K h
 unfold AZ at h
 split at h
 · rename_i s i
   obtain ⟨h1,h2,h3,hk⟩:=h
   exact ⟨_,_,_,.pure _ rfl ((by have:=Qq s i.toNat h1 (by omega);rwa [Int.toNat_of_nonneg h2] at this)),hk⟩
 · exact h.elim
end Lp
namespace Lp
open Go Go.Proofs
open Nat (reduceAdd reduceLeDiff reduceMul reduceSub zero_le)
open Int (reduceLE reduceToNat)
theorem ND (n:Int):(BR n).length≤4:=by
 unfold BR
 repeat' split
 all_goals simp
theorem NE {s:List UInt8}{i:Nat}(h:0≤dZ s i):i+6≤s.length:=by
 unfold dZ at h
 split at h
 · omega
 · rename_i g;simp only [not_or] at g;omega
theorem KC (s:List UInt8) (i:Nat) (hi:i<s.length):0≤(fD s i).2∧i+(fD s i).2≤s.length∧((fD s i).1.length:Int)≤(fD s i).2:=by
 unfold fD
 split
 · exact ⟨by omega,by show (i:Int)+0≤_;omega,by simp⟩
 · rename_i c hc
   have h1:=(List.getElem?_eq_some_iff.1 hc).1
   split
   · rename_i k _
     refine ⟨by omega,by show (i:Int)+2≤_;omega,?_⟩
     show (((RA.take (k+1)).drop k).length:Int)≤2
     simp only [List.length_drop,List.length_take];omega
   · have l1:=ND (dZ s i)
     have l2:=ND (65536+1024*(dZ s i-55296)+dZ s (i+6)-56320)
     split
     · exact ⟨by omega,by show (i:Int)+0≤_;omega,by simp⟩
     · rename_i h2
       have:=NE (s:=s) (i:=i) (by omega)
       split
       · exact ⟨by show (0:Int)≤6;omega,by show (i:Int)+6≤_;omega,by show ((BR _).length:Int)≤6;omega⟩
       · split
         · exact ⟨by omega,by show (i:Int)+0≤_;omega,by simp⟩
         · rename_i h3
           have:=NE (s:=s) (i:=i+6) (by omega)
           exact ⟨by show (0:Int)≤12;omega,by show (i:Int)+12≤_;omega,by show ((BR _).length:Int)≤12;omega⟩
theorem Dq (s:List UInt8) (i:Nat) (hi:i<s.length):0≤(jO s i).2∧i+(jO s i).2≤s.length∧((jO s i).1.length:Int)≤(jO s i).2:=by
 unfold jO
 split
 · exact KC s i hi
 · have hrl:=FQ (s.drop i)
   rw [List.length_drop] at hrl
   refine ⟨by show (0:Int)≤(bU (s.drop i):Int);omega,by show (i:Int)+(bU (s.drop i):Int)≤_;omega,?_⟩
   show (((s.drop i).take (bU (s.drop i))).length:Int)≤(bU (s.drop i):Int)
   simp only [List.length_take,List.length_drop];omega
theorem W9 {a b:List UInt8×Int×Int}(h:a=b):PV.bT [PV.str a.1,PV.int .i64 a.2.1,PV.int .i64 a.2.2]=PV.bT [PV.str b.1,PV.int .i64 b.2.1,PV.int .i64 b.2.2]:=by rw [h]
theorem KD (s:List UInt8) (hs:s.length≤1000000000):ai Tryz.prog 120 [.str s] [] (.bT [.str (bA s).1,.int .i64 (bA s).2.1,.int .i64 (bA s).2.2]) []:=by
 refine vO.WT (T:=aU Tryz.prog [(129,AZ)]) 0 hD (aj (af NC ah)) aY (by decide) (by decide) (by decide) fun Q hQ=>?_
 cases s with
 | nil=>
  have e:bA []=([],0,1):=rfl
  (conv=>arg 4;cbv);simp(maxSteps:=400000)only[↓ax,ay,BEq.rfl,reduceIte,reduceCtorEq,Nat.reduceLT,reduceAdd,reduceSub,reduceMul,Nat.reduceBEq,reduceLeDiff,reduceToNat,reduceLE,hQ,e]
 | cons a t=>
  have he:((a::t:List UInt8)=[])=False:=eq_false (by simp)
  have hg0:(a::t)[0]?=some a:=rfl
  generalize hst:a::t=s at *
  have b0:(a.toNat:Int)=34↔a=34:=lH (k:=34) (by omega)
  by_cases h34:(a.toNat:Int)=34
  · have e0:bA s=DK s s.length 1 []:=by
     unfold bA;rw [if_neg];rintro (g | g)
     · exact he.mp g
     · exact g (by rw [hg0,b0.1 h34])
    have hlen:0<s.length:=by rw [← hst];simp
    (conv=>arg 4;cbv);simp(maxSteps:=400000)only[↓ax,ay,BEq.rfl,reduceIte,reduceCtorEq,Nat.reduceLT,reduceAdd,reduceSub,reduceMul,Nat.reduceBEq,reduceLeDiff,reduceToNat,reduceLE,hQ,he,hg0,h34]
    refine aH (fun m S=>∃ (i f:Nat) (out:List UInt8),i+m=s.length∧1≤i∧s.length+1≤i+f∧out.length≤i∧bA s=DK s f i out∧S=⟨dU 50 [(0,.str s),(5,.str out),(6,.int .i64 i)],[]⟩) (s.length-1) ⟨1,s.length,[],by omega,by omega,by omega,by simp,e0,?_⟩ ?_
    · simp only [dh,keepR,reduceAdd,oC,Nat.reduceBEq,List.map_nil]
      rfl
    rintro m S ⟨i,f,out,him,h1,h2,h3,hU,rfl⟩
    have zi:(0≤(i:Int))=True:=eq_true (by omega)
    obtain ⟨f,rfl⟩:∃ g,f=g+1:=⟨f-1,by omega⟩
    rcases Nat.lt_or_ge i s.length with h | h
    · have hlt:((i:Int)<(s.length:Int))=True:=eq_true (by omega)
      have hgi:=List.getElem?_eq_getElem h
      generalize s[i]=c at hgi
      obtain ⟨f1,f2,f3⟩:=Dq s i h
      simp only [DK,hgi] at hU
      simp(maxSteps:=400000)only[↓ax,ay,BEq.rfl,reduceIte,reduceCtorEq,Nat.reduceLT,reduceAdd,reduceSub,reduceMul,Nat.reduceBEq,reduceLeDiff,reduceToNat,reduceLE,hQ,hlt,zi,hgi,↓AZ,Int.toNat_natCast,gM]
      generalize jO s i=x at *
      obtain ⟨y,z⟩:=x
      simp only at f1 f2 f3 hU ⊢
      obtain ⟨n,rfl⟩:∃ n:Nat,z=n:=⟨z.toNat,by omega⟩
      rw [Int.toNat_natCast] at hU
      have u1:(c.toNat:Int)=34→bA s=(out,(i:Int)+1,0):=fun g=>by rw [hU,if_pos g]
      have u2:¬ (c.toNat:Int)=34→((n:Int)=0∨(c.toNat:Int)<32)→bA s=([],(i:Int),1):=fun g g'=>by rw [hU,if_neg g,if_pos g']
      have u3:¬ (c.toNat:Int)=34→¬ ((n:Int)=0∨(c.toNat:Int)<32)→bA s=DK s f (i+n) (out++y):=fun g g'=>by rw [hU,if_neg g,if_neg g']
      repeat' (first | (omega) | exact (W9 (u1 (by omega))) | exact (W9 (u2 (by omega) (by omega))) | exact ⟨m-n,by omega,i+n,f,out++y,by omega,by omega,by omega,by rw [List.length_append];omega,u3 (by omega) (by omega),by rw [Int.natCast_add]⟩ | intro _ | refine ⟨?_,?_⟩)
    · have hlt:((i:Int)<(s.length:Int))=False:=eq_false (by omega)
      have hU':bA s=([],(s.length:Int),1):=by rw [hU];simp only [DK,List.getElem?_eq_none_iff.2 h]
      simp(maxSteps:=400000)only[↓ax,ay,BEq.rfl,reduceIte,reduceCtorEq,Nat.reduceLT,reduceAdd,reduceSub,reduceMul,Nat.reduceBEq,reduceLeDiff,reduceToNat,reduceLE,hQ,hlt,hU']
  · have e0:bA s=([],0,1):=by
     unfold bA;rw [if_pos];right;rw [hg0];intro g;exact h34 (b0.2 (Option.some.inj g))
    have ac9:=eq_false h34
    (conv=>arg 4;cbv);simp(maxSteps:=400000)only[↓ax,ay,BEq.rfl,reduceIte,reduceCtorEq,Nat.reduceLT,reduceAdd,reduceSub,reduceMul,Nat.reduceBEq,reduceLeDiff,reduceToNat,reduceLE,hQ,he,hg0,ac9,e0]
def fu:dN:=fun args objs K=>match args with
 | [.str s]=>(s.length≤1000000000)∧K (.bT [.str (bA s).1,.int .i64 (bA s).2.1,.int .i64 (bA s).2.2]) objs 0
 | _=>False
theorem Hz:aD Tryz.prog 120 (fu):=by
 intro args objs K h
 unfold fu at h
 split at h
 · rename_i s
   obtain ⟨h1,hk⟩:=h
   exact ⟨_,_,_,.pure _ rfl (KD s h1),hk⟩
 · exact h.elim
theorem yu (s:List UInt8):((bA s).2.2=0→1≤(bA s).2.1∧(bA s).2.1≤s.length)∧(bA s).1.length≤s.length:=by
 have gen:∀ (f i:Nat) (out:List UInt8),i≤s.length→out.length≤i→((DK s f i out).2.2=0→1≤(DK s f i out).2.1∧(DK s f i out).2.1≤s.length)∧(DK s f i out).1.length≤s.length:=by
  intro f
  induction f with
  | zero=>intro i out _ _;exact ⟨fun h=>absurd (show (1:Int)=0 from h) (by decide),zero_le _⟩
  | succ f ih=>
   intro i out hi ho
   simp only [DK]
   split
   · exact ⟨fun h=>absurd (show (1:Int)=0 from h) (by decide),zero_le _⟩
   · rename_i c hc
     have hl:=(List.getElem?_eq_some_iff.1 hc).1
     obtain ⟨f1,f2,f3⟩:=Dq s i hl
     split
     · exact ⟨fun _=>⟨by show (1:Int)≤(i:Int)+1;omega,by show (i:Int)+1≤_;omega⟩,by show out.length≤_;omega⟩
     · split
       · exact ⟨fun h=>absurd (show (1:Int)=0 from h) (by decide),zero_le _⟩
       · exact ih _ _ (by omega) (by rw [List.length_append];omega)
 unfold bA
 split
 · exact ⟨fun h=>absurd (show (1:Int)=0 from h) (by decide),zero_le _⟩
 · rename_i g
   have:s≠[]:=fun e=>g (.inl e)
   have:0<s.length:=List.length_pos_iff.2 this
   exact gen _ _ _ (by omega) (by simp)
theorem HV (s:List UInt8) (i:Nat) (hi:i≤s.length):(dx s i).2≤s.length∧i≤(dx s i).2:=by
 have gen:∀ (f i:Nat) (n:Int),i≤s.length→(qc s f i n).2≤s.length∧i≤(qc s f i n).2:=by
  intro f
  induction f with
  | zero=>intro i n h;exact ⟨h,Nat.le_refl _⟩
  | succ f ih=>
   intro i n h
   simp only [qc]
   split
   · exact ⟨h,Nat.le_refl _⟩
   · rename_i c hc
     have hl:=(List.getElem?_eq_some_iff.1 hc).1
     split
     · have:=ih (i+1) (n*10+((c.toNat:Int)-48)) (by omega);omega
     · exact ⟨h,Nat.le_refl _⟩
 unfold dx
 split
 · exact ⟨hi,Nat.le_refl _⟩
 · exact gen 7 i 0 hi
end Lp
namespace Lp
open Go Go.Proofs
open Nat (reduceAdd reduceLeDiff reduceMul reduceSub)
open Int (reduceLE reduceToNat)
theorem Uz {s:List UInt8}{i f k:Nat}(h:f=0∨¬ (k<s.length∧mG ((s.take (k+1)).drop i)=true)):nL s i f k=k:=by
 cases f with
 | zero=>rfl
 | succ f=>
  rcases h with h | h
  · omega
  · simp only [nL];rw [if_neg h]
theorem W_ {s:List UInt8}{i f k:Nat}(h1:k<s.length) (h2:mG ((s.take (k+1)).drop i)=true):nL s i (f+1) k=nL s i f (k+1):=by
 simp only [nL];rw [if_pos ⟨h1,h2⟩]
theorem NF:∀ (s:List UInt8) (i f k:Nat),k≤s.length→nL s i f k≤s.length
 | _,_,0,_,h=>h
 | s,i,f+1,k,h=>by
  simp only [nL]
  split
  · exact NF s i f (k+1) (by omega)
  · exact h
theorem Xa {a b:Stp×Nat}(h:a=b):PV.bT [encS a.1,PV.int .i64 (a.2:Int)]=PV.bT [.agg [.bool b.1.part,.str b.1.name,.int .i64 b.1.n],PV.int .i64 (b.2:Int)]:=by rw [h];rfl
theorem l6:PV.uL (.agg ⟨[.bool false,.string ⟨⟨[]⟩⟩,.int .i64 0]⟩)=encS ⟨false,[],0⟩:=rfl
theorem l7 (a:Stp):(∀ p nm n,(encS a).putCells 0 [.bool p,.str nm,.int .i64 n]=encS ⟨p,nm,n⟩):=fun _ _ _=>rfl
theorem l8 (objs:List Obj) (K:KT) :
  (bD D 61 [] objs K=K (encS ⟨false,[],0⟩) objs 0)∧
  (∀ nm,bD D 61 [(1,.str nm)] objs K=K (encS ⟨false,nm,0⟩) objs 0)∧
  (∀ n,bD D 61 [(0,.bool true),(2,.int .i64 n)] objs K=K (encS ⟨true,[],n⟩) objs 0):=by
 have z:aF (D 61)=encS ⟨false,[],0⟩:=by kernel_rfl
 have a:(D 61).agg=true:=by kernel_rfl
 simp only [bL] at z a
 refine ⟨?_,fun nm=>?_,fun n=>?_⟩
 all_goals
  simp [bD,kR,a,z,bL,lJ,encS,PV.isAgg,pE,PV.cells,PV.storable,PV.kW,PV.pure]
theorem Cz (s:List UInt8) (i p:Nat) (P:Int) (hP:P=p) (hs:s.length≤1000000000) (hi:i≤s.length) (hp:p≤s.length) (l:List (Nat×PV)) (h0:lW l 0=.str s) (h1:lW l 1=.int .i64 P) (h6:lW l 6=.bM 0 1 0 0) (h8:lW l 8=.int .i64 i) (r:PV) (hr:r=.bT [encS (ou s i p).1,.int .i64 (ou s i p).2]) (Q:Exit→St→Prop)
  (hQ:∀ l ob,Q .ret ⟨dU 129 l,ob⟩=eY (D 61) (lW l 6) ob fun p _ _=>r=.bT [gG 0 0 ob p,gG 0 0 ob (lW l 7)]) :
  kZ Tryz.prog D (aU Tryz.prog [(119,jJ),(120,fu),(121,lZ),(122,nu)]) bS Q ⟨dU 129 l,[⟨61,3,[encS ⟨false,[],0⟩],true,1⟩]⟩:=by
 subst hP
 have zp:(0≤(p:Int))=True:=eq_true (by omega)
 rcases Nat.lt_or_ge p s.length with h | h
 · have pl:((s.length:Int)≤(p:Int))=False:=eq_false (by omega)
   have pg:=List.getElem?_eq_getElem h
   generalize s[p]=d at pg
   have b91:(d.toNat:Int)=91↔d=91:=lH (k:=91) (by omega)
   by_cases h91:(d.toNat:Int)=91
   · have ff:=HV s (p+1) (by omega)
     have e1:ou s i p=if (dx s (p+1)).1<0∨s[(dx s (p+1)).2]?≠some 93 then (⟨false,[],0⟩,i) else (⟨true,[],(dx s (p+1)).1⟩,(dx s (p+1)).2+1):=by
      unfold ou;rw [if_neg];rw [pg,b91.1 h91];exact fun g=>g rfl
     have tp:((p:Int)+1).toNat=p+1:=by omega
     generalize hF:dx s (p+1)=F at *
     obtain ⟨fn,ft⟩:=F
     simp only at ff e1
     have zf:(0≤(ft:Int))=True:=eq_true (by omega)
     by_cases n0:fn<0
     · rw [if_pos (.inl n0)] at e1
       have n0':=eq_true n0
       rw [e1] at hr
       simp(maxSteps:=400000)only[↓ax,ay,BEq.rfl,reduceIte,reduceCtorEq,Nat.reduceLT,reduceAdd,reduceSub,reduceMul,Nat.reduceBEq,reduceLeDiff,reduceToNat,reduceLE,hQ,bS,l6,l7,l8,zp,pl,pg,h91,↓nu,tp,hF,gM,n0',h0,h1,h6,h8]
       repeat' (first | (omega) | exact hr | intro _ | refine ⟨?_,?_⟩)
     · have n0':=eq_false n0
       rcases Nat.lt_or_ge ft s.length with hf | hf
       · have fl:((s.length:Int)≤(ft:Int))=False:=eq_false (by omega)
         have fg:=List.getElem?_eq_getElem hf
         generalize s[ft]=g at fg
         have b93:(g.toNat:Int)=93↔g=93:=lH (k:=93) (by omega)
         by_cases h93:(g.toNat:Int)=93
         · rw [if_neg (by rintro (x | x);exact n0 x;exact x (by rw [fg,b93.1 h93]))] at e1
           rw [e1] at hr
           simp(maxSteps:=400000)only[↓ax,ay,BEq.rfl,reduceIte,reduceCtorEq,Nat.reduceLT,reduceAdd,reduceSub,reduceMul,Nat.reduceBEq,reduceLeDiff,reduceToNat,reduceLE,hQ,bS,l6,l7,l8,zp,pl,pg,h91,↓nu,tp,hF,gM,n0',zf,fl,fg,h93,h0,h1,h6,h8]
           repeat' (first | (omega) | exact hr | intro _ | refine ⟨?_,?_⟩)
         · rw [if_pos (.inr (by rw [fg];intro x;exact h93 (b93.2 (Option.some.inj x))))] at e1
           rw [e1] at hr
           have ac_:=eq_false h93
           simp(maxSteps:=400000)only[↓ax,ay,BEq.rfl,reduceIte,reduceCtorEq,Nat.reduceLT,reduceAdd,reduceSub,reduceMul,Nat.reduceBEq,reduceLeDiff,reduceToNat,reduceLE,hQ,bS,l6,l7,l8,zp,pl,pg,h91,↓nu,tp,hF,gM,n0',zf,fl,fg,ac_,h0,h1,h6,h8]
           repeat' (first | (omega) | exact hr | intro _ | refine ⟨?_,?_⟩)
       · have fl:((s.length:Int)≤(ft:Int))=True:=eq_true (by omega)
         rw [if_pos (.inr (by rw [List.getElem?_eq_none_iff.2 hf];simp))] at e1
         rw [e1] at hr
         simp(maxSteps:=400000)only[↓ax,ay,BEq.rfl,reduceIte,reduceCtorEq,Nat.reduceLT,reduceAdd,reduceSub,reduceMul,Nat.reduceBEq,reduceLeDiff,reduceToNat,reduceLE,hQ,bS,l6,l7,l8,zp,pl,pg,h91,↓nu,tp,hF,gM,n0',zf,fl,h0,h1,h6,h8]
         repeat' (first | (omega) | exact hr | intro _ | refine ⟨?_,?_⟩)
   · have ada:=eq_false h91
     have e1:ou s i p=(⟨false,[],0⟩,i):=by unfold ou;rw [if_pos];rw [pg];intro x;exact h91 (b91.2 (Option.some.inj x))
     rw [e1] at hr
     simp(maxSteps:=400000)only[↓ax,ay,BEq.rfl,reduceIte,reduceCtorEq,Nat.reduceLT,reduceAdd,reduceSub,reduceMul,Nat.reduceBEq,reduceLeDiff,reduceToNat,reduceLE,hQ,bS,l6,l7,l8,zp,pl,pg,ada,h0,h1,h6,h8]
     repeat' (first | (omega) | exact hr | intro _ | refine ⟨?_,?_⟩)
 · have pl:((s.length:Int)≤(p:Int))=True:=eq_true (by omega)
   have e1:ou s i p=(⟨false,[],0⟩,i):=by unfold ou;rw [if_pos];rw [List.getElem?_eq_none_iff.2 h];simp
   rw [e1] at hr
   simp(maxSteps:=400000)only[↓ax,ay,BEq.rfl,reduceIte,reduceCtorEq,Nat.reduceLT,reduceAdd,reduceSub,reduceMul,Nat.reduceBEq,reduceLeDiff,reduceToNat,reduceLE,hQ,bS,l6,l7,l8,zp,pl,h0,h1,h6,h8]
   repeat' (first | (omega) | exact hr | intro _ | refine ⟨?_,?_⟩)
end Lp
namespace Lp
open Go Go.Proofs
open List (take_length)
open Nat (lt_or_ge reduceAdd reduceLeDiff reduceMul reduceSub)
open Int (reduceLE reduceToNat)
theorem NG (s:List UInt8) (i k:Nat) (first:Bool) (hs:s.length≤1000000000) (hi:i<s.length) (hd:s[i]?=some 46) (hik:i+1≤k) (hk2:k≤s.length) (hE:nL s (i+1) (s.length-(i+1)) (i+1)=k) (l:List (Nat×PV)) (h0:lW l 0=.str s) (h1:lW l 1=.int .i64 ((i:Int)+1)) (h2:lW l 2=.bool first) (h6:lW l 6=.bM 0 1 0 0) (h8:lW l 8=.int .i64 i) (h9:lW l 9=.int .i64 k) (r:PV) (hr:r=.bT [encS (gK s i first).1,.int .i64 (gK s i first).2]) (Q:Exit→St→Prop)
  (hQ:∀ l ob,Q .ret ⟨dU 129 l,ob⟩=eY (D 61) (lW l 6) ob fun p _ _=>r=.bT [gG 0 0 ob p,gG 0 0 ob (lW l 7)]) :
  kZ Tryz.prog D (aU Tryz.prog [(119,jJ),(120,fu),(121,lZ),(122,nu)]) bH (thenS (fun S'=>kZ Tryz.prog D (aU Tryz.prog [(119,jJ),(120,fu),(121,lZ),(122,nu)]) bS Q S') Q) ⟨dU 129 l,[⟨61,3,[encS ⟨false,[],0⟩],true,1⟩]⟩:=by
 have Xb:=fun (l:List (Nat×PV)) a0 a1 a6 a8 hr=>Cz s i (i+1) ((i:Int)+1) (by omega) hs (by omega) (by omega) l a0 a1 a6 a8 r hr Q hQ
 have zk:(0≤(k:Int))=True:=eq_true (by omega)
 have LX:(0≤(i:Int)+1)=True:=eq_true (by omega)
 have KE:((i:Int)+1).toNat=i+1:=by omega
 have e0:gK s i first=if i+1<k then (⟨false,(s.take k).drop (i+1),0⟩,k) else if (bA (s.drop (i+1))).2.2=0∧mG (bA (s.drop (i+1))).1=false∧yG (bA (s.drop (i+1))).1=(s.take (i+1+(bA (s.drop (i+1))).2.1.toNat)).drop (i+1) then (⟨false,(bA (s.drop (i+1))).1,0⟩,i+1+(bA (s.drop (i+1))).2.1.toNat) else if first then ou s i (i+1) else (⟨false,[],0⟩,i):=by
  unfold gK;rw [if_pos hd,hE]
 have ul:(s.drop (i+1)).length=s.length-(i+1):=List.length_drop
 have uf:=yu (s.drop (i+1))
 rw [ul] at uf
 generalize hU:bA (s.drop (i+1))=U at *
 obtain ⟨nm,n,e⟩:=U
 simp only at e0 uf
 rcases lt_or_ge (i+1) k with hk | hk
 · have kg:((i:Int)+1<(k:Int))=True:=eq_true (by omega)
   rw [if_pos hk] at e0
   rw [e0] at hr
   simp(maxSteps:=400000)only[↓ax,ay,BEq.rfl,reduceIte,reduceCtorEq,Nat.reduceLT,reduceAdd,reduceSub,reduceMul,Nat.reduceBEq,reduceLeDiff,reduceToNat,reduceLE,hQ,bH,l6,l7,l8,zk,KE,kg,Int.toNat_natCast,h0,h1,h2,h6,h8,h9]
   repeat' (first | (omega) | exact hr | intro _ | refine ⟨?_,?_⟩)
 · have kg:((i:Int)+1<(k:Int))=False:=eq_false (by omega)
   rw [if_neg (by omega)] at e0
   have Xc:first=false→¬ (e=0∧mG nm=false∧yG nm=(s.take (i+1+n.toNat)).drop (i+1))→r=.bT [encS ⟨false,[],0⟩,.int .i64 i]:=fun a b=>by rw [hr,e0,if_neg b,if_neg (by rw [a];simp)]
   have Xd:first=true→¬ (e=0∧mG nm=false∧yG nm=(s.take (i+1+n.toNat)).drop (i+1))→r=.bT [encS (ou s i (i+1)).1,.int .i64 (ou s i (i+1)).2]:=fun a b=>by rw [hr,e0,if_neg b,if_pos a]
   by_cases he:e=0
   · subst he
     have un:=uf.1 rfl
     have tn:((i:Int)+1+n).toNat=i+1+n.toNat:=by omega
     cases c2:mG nm with
     | false=>
      by_cases c3:yG nm=(s.take (i+1+n.toNat)).drop (i+1)
      · rw [if_pos ⟨rfl,c2,c3⟩] at e0
        have zn:(((i+1+n.toNat:Nat)):Int)=(i:Int)+1+n:=by omega
        have c3':=eq_true c3
        rw [e0] at hr
        simp only [zn] at hr
        simp(maxSteps:=400000)only[↓ax,ay,BEq.rfl,reduceIte,reduceCtorEq,Nat.reduceLT,reduceAdd,reduceSub,reduceMul,Nat.reduceBEq,reduceLeDiff,reduceToNat,reduceLE,hQ,bH,l6,l7,l8,zk,LX,KE,kg,↓fu,take_length,hU,gM,↓jJ,c2,↓lZ,tn,c3',h0,h1,h2,h6,h8,h9]
        repeat' (first | (omega) | exact hr | intro _ | refine ⟨?_,?_⟩)
      · have c3':=eq_false c3
        cases first with
        | false=>
         have g:=Xc rfl fun x=>c3 x.2.2
         simp(maxSteps:=400000)only[↓ax,ay,BEq.rfl,reduceIte,reduceCtorEq,Nat.reduceLT,reduceAdd,reduceSub,reduceMul,Nat.reduceBEq,reduceLeDiff,reduceToNat,reduceLE,hQ,bH,l6,l7,l8,zk,LX,KE,kg,↓fu,take_length,hU,gM,↓jJ,c2,↓lZ,tn,c3',h0,h1,h2,h6,h8,h9]
         repeat' (first | (omega) | exact g | intro _ | refine ⟨?_,?_⟩)
        | true=>
         have g:=Xd rfl fun x=>c3 x.2.2
         simp(maxSteps:=400000)only[↓ax,ay,BEq.rfl,reduceIte,reduceCtorEq,Nat.reduceLT,reduceAdd,reduceSub,reduceMul,Nat.reduceBEq,reduceLeDiff,reduceToNat,reduceLE,hQ,bH,l6,l7,l8,zk,LX,KE,kg,↓fu,take_length,hU,gM,↓jJ,c2,↓lZ,tn,c3',h0,h1,h2,h6,h8,h9]
         repeat' (first | (omega) | exact (Xb _ h0 h1 h6 h8 g) | intro _ | refine ⟨?_,?_⟩)
     | true=>
      cases first with
      | false=>
       have g:=Xc rfl fun x=>absurd (c2.symm.trans x.2.1) (by decide)
       simp(maxSteps:=400000)only[↓ax,ay,BEq.rfl,reduceIte,reduceCtorEq,Nat.reduceLT,reduceAdd,reduceSub,reduceMul,Nat.reduceBEq,reduceLeDiff,reduceToNat,reduceLE,hQ,bH,l6,l7,l8,zk,LX,KE,kg,↓fu,take_length,hU,gM,↓jJ,c2,h0,h1,h2,h6,h8,h9]
       repeat' (first | (omega) | exact g | intro _ | refine ⟨?_,?_⟩)
      | true=>
       have g:=Xd rfl fun x=>absurd (c2.symm.trans x.2.1) (by decide)
       simp(maxSteps:=400000)only[↓ax,ay,BEq.rfl,reduceIte,reduceCtorEq,Nat.reduceLT,reduceAdd,reduceSub,reduceMul,Nat.reduceBEq,reduceLeDiff,reduceToNat,reduceLE,hQ,bH,l6,l7,l8,zk,LX,KE,kg,↓fu,take_length,hU,gM,↓jJ,c2,h0,h1,h2,h6,h8,h9]
       repeat' (first | (omega) | exact (Xb _ h0 h1 h6 h8 g) | intro _ | refine ⟨?_,?_⟩)
   · have he':=eq_false he
     cases first with
     | false=>
      have g:=Xc rfl fun x=>he x.1
      simp(maxSteps:=400000)only[↓ax,ay,BEq.rfl,reduceIte,reduceCtorEq,Nat.reduceLT,reduceAdd,reduceSub,reduceMul,Nat.reduceBEq,reduceLeDiff,reduceToNat,reduceLE,hQ,bH,l6,l7,l8,zk,LX,KE,kg,↓fu,take_length,hU,gM,he',h0,h1,h2,h6,h8,h9]
      repeat' (first | (omega) | exact g | intro _ | refine ⟨?_,?_⟩)
     | true=>
      have g:=Xd rfl fun x=>he x.1
      simp(maxSteps:=400000)only[↓ax,ay,BEq.rfl,reduceIte,reduceCtorEq,Nat.reduceLT,reduceAdd,reduceSub,reduceMul,Nat.reduceBEq,reduceLeDiff,reduceToNat,reduceLE,hQ,bH,l6,l7,l8,zk,LX,KE,kg,↓fu,take_length,hU,gM,he',h0,h1,h2,h6,h8,h9]
      repeat' (first | (omega) | exact (Xb _ h0 h1 h6 h8 g) | intro _ | refine ⟨?_,?_⟩)
theorem UA (s:List UInt8) (i:Nat) (first:Bool) (hs:s.length≤1000000000) (hi:i≤s.length):ai Tryz.prog 107 [.str s,.int .i64 i,.bool first] [] (.bT [encS (gK s i first).1,.int .i64 (gK s i first).2]) []:=by
 refine AL.aaX (T:=aU Tryz.prog [(119,jJ),(120,fu),(121,lZ),(122,nu)]) 0 hD (aj (af Qk (af Hz (af Nw (af Ql ah))))) aY (by decide) (by decide) fun Q hQ=>?_
 have zi:(0≤(i:Int))=True:=eq_true (by omega)
 by_cases hd:s[i]?=some 46
 · have h:=(List.getElem?_eq_some_iff.1 hd).1
   have hlt:((i:Int)<(s.length:Int))=True:=eq_true (by omega)
   have h46:(((46:UInt8).toNat:Int)=46)=True:=eq_true rfl
   have KE:((i:Int)+1).toNat=i+1:=by omega
   simp(maxSteps:=400000)only[↓ax,ay,BEq.rfl,reduceIte,reduceCtorEq,Nat.reduceLT,reduceAdd,reduceSub,reduceMul,Nat.reduceBEq,reduceLeDiff,reduceToNat,reduceLE,hQ,fM,l6,l7,l8,zi,hlt,hd,h46]
   refine ⟨⟨by omega,by omega⟩,?_⟩
   refine aH (fun m S=>∃ k:Nat,m=s.length-k∧i+1≤k∧k≤s.length∧nL s (i+1) (s.length-(i+1)) (i+1)=nL s (i+1) (s.length-k) k∧S=⟨dU 129 [(0,.str s),(1,.int .i64 ((i:Int)+1)),(2,.bool first),(6,.bM 0 1 0 0),(8,.int .i64 i),(9,.int .i64 k)],[⟨61,3,[encS ⟨false,[],0⟩],true,1⟩]⟩) (s.length-(i+1)) ⟨i+1,rfl,by omega,by omega,rfl,?_⟩ ?_
   · simp only [dh,keepR,reduceAdd,oC,Nat.reduceBEq,List.map_nil]
     rfl
   rintro m S ⟨k,hm,h1,h2,hW,rfl⟩
   have zk:(0≤(k:Int))=True:=eq_true (by omega)
   have tk:((k:Int)+1).toNat=k+1:=by omega
   have wl:((s.take (k+1)).drop (i+1)).length≤1000000000:=by rw [List.length_drop,List.length_take];omega
   by_cases hw:k<s.length∧mG ((s.take (k+1)).drop (i+1))=true
   · have kl:((k:Int)<(s.length:Int))=True:=eq_true (by omega)
     have hwb:=hw.2
     have hW':nL s (i+1) (s.length-k) k=nL s (i+1) (s.length-(k+1)) (k+1):=by
      rw [show s.length-k=s.length-(k+1)+1 by omega,W_ hw.1 hw.2]
     simp(maxSteps:=400000)only[↓ax,ay,BEq.rfl,reduceIte,reduceCtorEq,Nat.reduceLT,reduceAdd,reduceSub,reduceMul,Nat.reduceBEq,reduceLeDiff,reduceToNat,reduceLE,hQ,l6,l7,l8,zk,kl,↓jJ,KE,tk,hwb]
     exact ⟨⟨by omega,by omega⟩,by omega,by omega,by omega,wl,⟨by omega,by omega⟩,s.length-(k+1),by omega,k+1,rfl,by omega,by omega,by rw [hW,hW'],rfl⟩
   · have hE:nL s (i+1) (s.length-(i+1)) (i+1)=k:=by rw [hW];exact Uz (.inr hw)
     rcases lt_or_ge k s.length with hkl | hkl
     · have kl:((k:Int)<(s.length:Int))=True:=eq_true (by omega)
       have hwb:mG ((s.take (k+1)).drop (i+1))=false:=by
        cases x:mG ((s.take (k+1)).drop (i+1)) with
        | false=>rfl
        | true=>exact absurd ⟨hkl,x⟩ hw
       simp(maxSteps:=400000)only[↓ax,ay,BEq.rfl,reduceIte,reduceCtorEq,Nat.reduceLT,reduceAdd,reduceSub,reduceMul,Nat.reduceBEq,reduceLeDiff,reduceToNat,reduceLE,hQ,l6,l7,l8,zk,↓jJ,KE,tk,kl,hwb]
       repeat' (first | (omega) | exact wl | exact (NG s i k first hs h hd h1 h2 hE _ rfl rfl rfl rfl rfl rfl _ rfl Q hQ) | intro _ | refine ⟨?_,?_⟩)
     · have kl:((k:Int)<(s.length:Int))=False:=eq_false (by omega)
       simp(maxSteps:=400000)only[↓ax,ay,BEq.rfl,reduceIte,reduceCtorEq,Nat.reduceLT,reduceAdd,reduceSub,reduceMul,Nat.reduceBEq,reduceLeDiff,reduceToNat,reduceLE,hQ,l6,l7,l8,zk,↓jJ,KE,tk,kl]
       repeat' (first | (omega) | exact (NG s i k first hs h hd h1 h2 hE _ rfl rfl rfl rfl rfl rfl _ rfl Q hQ) | intro _ | refine ⟨?_,?_⟩)
 · have e0:gK s i first=if first then (⟨false,[],0⟩,i) else ou s i i:=by unfold gK;rw [if_neg hd]
   rcases lt_or_ge i s.length with h | h
   · have hlt:((i:Int)<(s.length:Int))=True:=eq_true (by omega)
     have hg:=List.getElem?_eq_getElem h
     generalize s[i]=c at hg
     have b46:(c.toNat:Int)=46↔c=46:=lH (k:=46) (by omega)
     have h46:((c.toNat:Int)=46)=False:=eq_false fun x=>hd (by rw [hg,b46.1 x])
     cases first with
     | false=>
      simp(maxSteps:=400000)only[↓ax,ay,BEq.rfl,reduceIte,reduceCtorEq,Nat.reduceLT,reduceAdd,reduceSub,reduceMul,Nat.reduceBEq,reduceLeDiff,reduceToNat,reduceLE,hQ,fM,l6,l7,l8,zi,hlt,hg,h46]
      repeat' (first | (omega) | exact (Cz s i i i rfl hs hi hi _ rfl rfl rfl rfl _ (by rw [e0];rfl) Q hQ) | intro _ | refine ⟨?_,?_⟩)
     | true=>
      have g:=Xa e0
      simp(maxSteps:=400000)only[↓ax,ay,BEq.rfl,reduceIte,reduceCtorEq,Nat.reduceLT,reduceAdd,reduceSub,reduceMul,Nat.reduceBEq,reduceLeDiff,reduceToNat,reduceLE,hQ,fM,l6,l7,l8,zi,hlt,hg,h46]
      repeat' (first | (omega) | exact g | intro _ | refine ⟨?_,?_⟩)
   · have hlt:((i:Int)<(s.length:Int))=False:=eq_false (by omega)
     cases first with
     | false=>
      simp(maxSteps:=400000)only[↓ax,ay,BEq.rfl,reduceIte,reduceCtorEq,Nat.reduceLT,reduceAdd,reduceSub,reduceMul,Nat.reduceBEq,reduceLeDiff,reduceToNat,reduceLE,hQ,fM,l6,l7,l8,zi,hlt]
      repeat' (first | (omega) | exact (Cz s i i i rfl hs hi hi _ rfl rfl rfl rfl _ (by rw [e0];rfl) Q hQ) | intro _ | refine ⟨?_,?_⟩)
     | true=>
      have g:=Xa e0
      simp(maxSteps:=400000)only[↓ax,ay,BEq.rfl,reduceIte,reduceCtorEq,Nat.reduceLT,reduceAdd,reduceSub,reduceMul,Nat.reduceBEq,reduceLeDiff,reduceToNat,reduceLE,hQ,fM,l6,l7,l8,zi,hlt]
      repeat' (first | (omega) | exact g | intro _ | refine ⟨?_,?_⟩)
end Lp
namespace Lp
open Go Go.Proofs
open List (length_cons length_nil map_map map_nil)
open Nat (lt_or_ge reduceAdd reduceLeDiff reduceMul reduceSub)
open Int (reduceLE reduceToNat toNat_natCast)
def oO:dN:=fun args objs K=>match args with
 | [.str s,.int .i64 i,.bool b]=>(s.length≤1000000000)∧(0≤i)∧(i≤s.length)∧K (.bT [encS (gK s i.toNat b).1,.int .i64 (gK s i.toNat b).2]) objs 0
 | _=>False
theorem Qr:aD Tryz.prog 107 (oO):=by
 intro args objs K h
 unfold oO at h
 split at h
 · rename_i s i b
   obtain ⟨h1,h2,h3,hk⟩:=h
   exact ⟨_,_,_,.pure _ rfl ((by have:=UA s i.toNat b h1 (by omega);rwa [Int.toNat_of_nonneg h2] at this)),hk⟩
 · exact h.elim
theorem NH (s:List UInt8) (a i:Nat) (ha:a≤s.length) (hi:i+1≤s.length∨s.length≤i):(ou s a i).2≤s.length:=by
 unfold ou
 split
 · exact ha
 · split
   · exact ha
   · rename_i h1 h2
     have h3:s[(dx s (i+1)).2]?=some 93:=Decidable.of_not_not fun h=>h2 (.inr h)
     exact (List.getElem?_eq_some_iff.1 h3).1
theorem Xe (s:List UInt8) (i:Nat) (b:Bool) (hi:i≤s.length):(gK s i b).2≤s.length:=by
 unfold gK
 split
 · rename_i hd
   have h:=(List.getElem?_eq_some_iff.1 hd).1
   split
   · exact NF s (i+1) (s.length-(i+1)) (i+1) (by omega)
   · split
     · rename_i hc
       have hu:=(yu (s.drop (i+1))).1 hc.1
       rw [List.length_drop] at hu
       show i+1+(bA (s.drop (i+1))).2.1.toNat≤s.length
       omega
     · split
       · exact NH s i (i+1) hi (by omega)
       · exact hi
 · split
   · exact hi
   · exact NH s i i hi (by omega)
theorem CB {s:List UInt8}{f i:Nat}{out:List Stp}(h:f=0∨(gK s i out.isEmpty).2=i):BS s f i out=(out,i):=by
 cases f with
 | zero=>rfl
 | succ f=>
  rcases h with h | h
  · omega
  · simp only [BS];rw [if_pos h]
theorem Sk {s:List UInt8}{f i:Nat}{out:List Stp}(h:¬ (gK s i out.isEmpty).2=i):BS s (f+1) i out=BS s f (gK s i out.isEmpty).2 (out++[(gK s i out.isEmpty).1]):=by
 simp only [BS];rw [if_neg h]
def NI (l:List Stp) (ver:Nat):Obj:=⟨61,3,l.map encS,true,ver⟩
theorem A7 (v:List Stp) (ver:Nat) (t:TypeId) (rest:List Obj):fJ 1 0 (⟨t,3,v.map encS,true,ver⟩::rest) (.bO 0 ver)=dF v:=by
 have:(v.map encS).map (PV.bQ (jl 0 0 (⟨t,3,v.map encS,true,ver⟩::rest)))=v.map encS:=by
  rw [map_map];exact List.map_congr_left fun x _=>rfl
 simp only [fJ,Nat.not_lt_zero,if_false,jl,List.getElem?_cons_zero,Nat.le_refl,decide_true,Bool.true_and,beq_self_eq_true,if_true,this]
 rfl
theorem zSl:(PV.uL (.agg ⟨[.bool false,.string ⟨⟨[]⟩⟩,.int .i64 0]⟩)).cells.length=3:=rfl
theorem zSs:(PV.uL (.agg ⟨[.bool false,.string ⟨⟨[]⟩⟩,.int .i64 0]⟩)).cells.all PV.storable=true:=rfl
theorem acg (a:Stp):PV.agg [.bool a.part,.str a.name,.int .i64 a.n]=encS a:=rfl
theorem aaf (a:Stp):encS ⟨a.part,a.name,a.n⟩=encS a:=rfl
theorem Xf:∀ d X v,fJ d 1 X (.bO 0 v)=.bO 0 v:=fun _ _ _=>rfl
theorem ach (X:List Obj) (l:List Stp) (a:Stp) (v:Nat):gy 1 1 X ⟨61,3,l.map encS++[encS a],true,v⟩=⟨61,3,l.map encS++[encS a],true,v⟩:=by
 unfold gy
 simp only [List.map_append,map_map,List.map_cons,map_nil]
 rfl
theorem NJ (s:List UInt8) (hs:s.length≤1000000000):ai Tryz.prog 96 [.str s,.int .i64 0] [] (.bT [dF (eG s).1,.int .i64 (eG s).2]) []:=by
 refine xM.vE (T:=aU Tryz.prog [(107,oO)]) 1 hD (aj (af Qr ah)) aY (by decide) (by decide) fun Q hQ=>?_
 (conv=>arg 4;cbv);simp(maxSteps:=400000)only[↓ax,ay,BEq.rfl,reduceIte,reduceCtorEq,Nat.reduceLT,reduceAdd,reduceSub,reduceMul,Nat.reduceBEq,reduceLeDiff,reduceToNat,reduceLE,hQ,l6,l7,l8,zSl,zSs]
 refine aH (fun m S=>∃ (i ver:Nat) (out:List Stp),m+out.length=20∧i≤s.length∧BS s 20 0 []=BS s m i out∧S=⟨dU 52 [(0,.str s),(1,.int .i64 i),(6,.bO 0 ver),(7,.int .i64 0)],[NI out ver]⟩) 20 (hz:=Nat.zero_le _) ⟨0,1,[],rfl,by omega,rfl,?_⟩ ?_
 · simp only [dh,keepR,reduceAdd,oC,Nat.reduceBEq,map_nil]
   rfl
 rintro m S ⟨i,ver,out,hm,hi,hB,rfl⟩
 rcases Nat.eq_zero_or_pos m with h0 | h0
 · subst h0
   have hlt:((out.length:Int)<20)=False:=eq_false (by omega)
   have b0:decide ((out.length:Int)=0)=false:=decide_eq_false (by omega)
   have hb:eG s=(out,i):=by
    unfold eG;rw [hB,CB (.inl rfl)]
    rw [if_neg];rintro ⟨h,_⟩;simp only at h;rw [h] at hm;simp at hm
   unfold NI
   simp(maxSteps:=400000)only[↓ax,ay,BEq.rfl,reduceIte,reduceCtorEq,Nat.reduceLT,reduceAdd,reduceSub,reduceMul,Nat.reduceBEq,reduceLeDiff,reduceToNat,reduceLE,hQ,hlt,b0,hb,A7]
 · obtain ⟨m,rfl⟩:∃ k,m=k+1:=⟨m-1,by omega⟩
   have hlt:((out.length:Int)<20)=True:=eq_true (by omega)
   have hle:=Xe s i out.isEmpty hi
   have z0:Int.toNat 0=0:=rfl
   cases hE:out.isEmpty with
   | true=>
    have ho:out=[]:=List.isEmpty_iff.1 hE
    have b0:decide ((out.length:Int)=0)=true:=decide_eq_true (by rw [ho];rfl)
    have b1:((out.length:Int)=0)=True:=eq_true (by rw [ho];rfl)
    rw [hE] at hle
    by_cases hst:(gK s i true).2=i
    · have hst':(((gK s i true).2:Int)=(i:Int))=True:=eq_true (by omega)
      have hF:BS s 20 0 []=([],i):=by rw [hB,CB (.inr (by rw [hE];exact hst)),ho]
      rcases lt_or_ge 0 s.length with hp | hp
      · have pl:((0:Int)<(s.length:Int))=True:=eq_true (by omega)
        have pg:=List.getElem?_eq_getElem hp
        generalize s[0]=d at pg
        have b46:(d.toNat:Int)=46↔d=46:=lH (k:=46) (by omega)
        by_cases hd:(d.toNat:Int)=46
        · have hb:eG s=(out,1):=by rw [ho];unfold eG;rw [hF,if_pos ⟨rfl,by rw [pg,b46.1 hd]⟩]
          unfold NI
          simp(maxSteps:=400000)only[↓ax,ay,BEq.rfl,reduceIte,reduceCtorEq,Nat.reduceLT,reduceAdd,reduceSub,reduceMul,Nat.reduceBEq,reduceLeDiff,reduceToNat,reduceLE,hQ,hlt,b0,b1,↓oO,toNat_natCast,gM,l6,l7,l8,zSl,zSs,hst',pl,z0,pg,hd,hb,A7]
          repeat' (first | (omega) | exact rfl | intro _ | refine ⟨?_,?_⟩)
        · have hb:eG s=(out,i):=by rw [ho];unfold eG;rw [hF,if_neg];rintro ⟨_,h⟩;rw [pg] at h;exact hd (b46.2 (Option.some.inj h))
          have hd':=eq_false hd
          unfold NI
          simp(maxSteps:=400000)only[↓ax,ay,BEq.rfl,reduceIte,reduceCtorEq,Nat.reduceLT,reduceAdd,reduceSub,reduceMul,Nat.reduceBEq,reduceLeDiff,reduceToNat,reduceLE,hQ,hlt,b0,b1,↓oO,toNat_natCast,gM,l6,l7,l8,zSl,zSs,hst',pl,z0,pg,hd',hb,A7]
          repeat' (first | (omega) | exact rfl | intro _ | refine ⟨?_,?_⟩)
      · have pl:((0:Int)<(s.length:Int))=False:=eq_false (by omega)
        have hb:eG s=(out,i):=by rw [ho];unfold eG;rw [hF,if_neg];rintro ⟨_,h⟩;rw [List.getElem?_eq_none_iff.2 hp] at h;cases h
        unfold NI
        simp(maxSteps:=400000)only[↓ax,ay,BEq.rfl,reduceIte,reduceCtorEq,Nat.reduceLT,reduceAdd,reduceSub,reduceMul,Nat.reduceBEq,reduceLeDiff,reduceToNat,reduceLE,hQ,hlt,b0,b1,↓oO,toNat_natCast,gM,l6,l7,l8,zSl,zSs,hst',pl,hb,A7]
        repeat' (first | (omega) | exact rfl | intro _ | refine ⟨?_,?_⟩)
    · have hst':(((gK s i true).2:Int)=(i:Int))=False:=eq_false (by omega)
      have hg:=Sk (s:=s) (f:=m) (i:=i) (out:=out) (by rw [hE];exact hst)
      rw [hE] at hg
      unfold NI
      simp(maxSteps:=400000)only[↓ax,ay,BEq.rfl,reduceIte,reduceCtorEq,Nat.reduceLT,reduceAdd,reduceSub,reduceMul,Nat.reduceBEq,reduceLeDiff,reduceToNat,reduceLE,hQ,hlt,b0,↓oO,toNat_natCast,gM,l6,l7,l8,zSl,zSs,hst',acg,aaf,Xf,List.take_succ_cons,List.take_zero,ach]
      repeat' (first | (omega) | exact ⟨m,by omega,(gK s i true).2,ver+1,out++[(gK s i true).1],by rw [List.length_append];simp only [length_cons,length_nil];omega,hle,hB.trans hg,by simp⟩ | intro _ | refine ⟨?_,?_⟩)
   | false=>
    have hon:out≠[]:=fun e=>by rw [e] at hE;cases hE
    have hol:0<out.length:=List.length_pos_iff.2 hon
    have b0:decide ((out.length:Int)=0)=false:=decide_eq_false (by omega)
    rw [hE] at hle
    by_cases hst:(gK s i false).2=i
    · have hst':(((gK s i false).2:Int)=(i:Int))=True:=eq_true (by omega)
      have hb:eG s=(out,i):=by
       unfold eG;rw [hB,CB (.inr (by rw [hE];exact hst)),if_neg];rintro ⟨h,_⟩;exact hon h
      unfold NI
      simp(maxSteps:=400000)only[↓ax,ay,BEq.rfl,reduceIte,reduceCtorEq,Nat.reduceLT,reduceAdd,reduceSub,reduceMul,Nat.reduceBEq,reduceLeDiff,reduceToNat,reduceLE,hQ,hlt,b0,↓oO,toNat_natCast,gM,l6,l7,l8,zSl,zSs,hst',hb,A7]
      repeat' (first | (omega) | exact rfl | intro _ | refine ⟨?_,?_⟩)
    · have hst':(((gK s i false).2:Int)=(i:Int))=False:=eq_false (by omega)
      have hg:=Sk (s:=s) (f:=m) (i:=i) (out:=out) (by rw [hE];exact hst)
      rw [hE] at hg
      unfold NI
      simp(maxSteps:=400000)only[↓ax,ay,BEq.rfl,reduceIte,reduceCtorEq,Nat.reduceLT,reduceAdd,reduceSub,reduceMul,Nat.reduceBEq,reduceLeDiff,reduceToNat,reduceLE,hQ,hlt,b0,↓oO,toNat_natCast,gM,l6,l7,l8,zSl,zSs,hst',acg,aaf,Xf,List.take_succ_cons,List.take_zero,ach]
      repeat' (first | (omega) | exact ⟨m,by omega,(gK s i false).2,ver+1,out++[(gK s i false).1],by rw [List.length_append];simp only [length_cons,length_nil];omega,hle,hB.trans hg,by simp⟩ | intro _ | refine ⟨?_,?_⟩)
def mX:dN:=fun args objs K=>match args with
 | [.str s,a1]=>a1=(.int .i64 0)∧(s.length≤1000000000)∧K (.bT [dF (eG s).1,.int .i64 (eG s).2]) objs 0
 | _=>False
theorem KF:aD Tryz.prog 96 (mX):=by
 intro args objs K h
 unfold mX at h
 split at h
 · rename_i s a1
   obtain ⟨rfl,h1,hk⟩:=h
   exact ⟨_,_,_,.pure _ rfl (NJ s h1),hk⟩
 · exact h.elim
def yw (s:List UInt8):PV:=if (iX s).2.2=0 then .bT [dF (iX s).1,.int .i64 (iX s).2.1,.int .i64 (iX s).2.2] else .bT [.sl 0 [] (some true),.int .i64 (iX s).2.1,.int .i64 (iX s).2.2]
theorem Qs (s:List UInt8) (hs:s.length≤1000000000):ai Tryz.prog 66 [.str s] [] (yw s) []:=by
 refine AO.WT (T:=aU Tryz.prog [(96,mX)]) 0 hD (aj (af KF ah)) aY (by decide) (by decide) (by decide) fun Q hQ=>?_
 by_cases h46:s=[46]
 · have hr:yw s=.bT [dF (eG s).1,.int .i64 0,.int .i64 0]:=by simp only [yw,iX,if_pos h46,if_true]
   have Xg:=eq_true h46
   (conv=>arg 4;cbv);simp(maxSteps:=400000)only[↓ax,ay,BEq.rfl,reduceIte,reduceCtorEq,Nat.reduceLT,reduceAdd,reduceSub,reduceMul,Nat.reduceBEq,reduceLeDiff,reduceToNat,reduceLE,hQ,↓mX,gM,Xg,hr]
   repeat' (first | (omega) | exact rfl | intro _ | refine ⟨?_,?_⟩)
 have Xg:=eq_false h46
 cases hB:eG s with
 | mk p n=>
 by_cases hp:p=[]
 · have hr:yw s=.bT [.sl 0 [] (some true),.int .i64 0,.int .i64 1]:=by simp [yw,iX,h46,hB,hp]
   subst hp
   have b0:((([]:List Stp).length:Int)=0)=True:=eq_true rfl
   (conv=>arg 4;cbv);simp(maxSteps:=400000)only[↓ax,ay,BEq.rfl,reduceIte,reduceCtorEq,Nat.reduceLT,reduceAdd,reduceSub,reduceMul,Nat.reduceBEq,reduceLeDiff,reduceToNat,reduceLE,hQ,↓mX,gM,Xg,hB,b0,hr]
   repeat' (first | (omega) | exact rfl | intro _ | refine ⟨?_,?_⟩)
 · have hpl:0<p.length:=List.length_pos_iff.2 hp
   have b0:((p.length:Int)=0)=False:=eq_false (by omega)
   rcases lt_or_ge n s.length with hn | hn
   · have hn':((n:Int)<(s.length:Int))=True:=eq_true (by omega)
     have hr:yw s=.bT [.sl 0 [] (some true),.int .i64 n,.int .i64 1]:=by simp [yw,iX,h46,hB,hp,hn]
     (conv=>arg 4;cbv);simp(maxSteps:=400000)only[↓ax,ay,BEq.rfl,reduceIte,reduceCtorEq,Nat.reduceLT,reduceAdd,reduceSub,reduceMul,Nat.reduceBEq,reduceLeDiff,reduceToNat,reduceLE,hQ,↓mX,gM,Xg,hB,b0,hn',hr]
     repeat' (first | (omega) | exact rfl | intro _ | refine ⟨?_,?_⟩)
   · have hn':((n:Int)<(s.length:Int))=False:=eq_false (by omega)
     have hr:yw s=.bT [dF p,.int .i64 0,.int .i64 0]:=by simp [yw,iX,h46,hB,hp,Nat.not_lt.2 hn]
     (conv=>arg 4;cbv);simp(maxSteps:=400000)only[↓ax,ay,BEq.rfl,reduceIte,reduceCtorEq,Nat.reduceLT,reduceAdd,reduceSub,reduceMul,Nat.reduceBEq,reduceLeDiff,reduceToNat,reduceLE,hQ,↓mX,gM,Xg,hB,b0,hn',hr]
     repeat' (first | (omega) | exact rfl | intro _ | refine ⟨?_,?_⟩)
theorem aa4 {a b c a':PV}(h:mI a a'):mI (.bT [a,b,c]) (.bT [a',b,c]):=
 .bT rfl fun i p q hp hq=>by
  match i with
  | 0=>cases hp;cases hq;exact h
  | 1=>cases hp;cases hq;exact .refl _
  | 2=>cases hp;cases hq;exact .refl _
  | _+3=>simp at hp
theorem UB {s:List UInt8}(h:¬ (iX s).2.2=0):(iX s).1=[]:=by
 unfold iX at h ⊢
 split
 · rename_i h1;rw [if_pos h1] at h;exact absurd rfl h
 · rename_i h1
   rw [if_neg h1] at h
   split
   · rfl
   · rename_i h2
     rw [if_neg h2] at h
     split
     · rfl
     · rename_i h3;rw [if_neg h3] at h;exact absurd rfl h
theorem UC (s:List UInt8) (hs:s.length≤1000000000):ai Tryz.prog 66 [.str s] [] (.bT [dF (iX s).1,.int .i64 (iX s).2.1,.int .i64 (iX s).2.2]) []:=by
 refine (Qs s hs).res ?_
 unfold yw
 split
 · exact .refl _
 · rename_i h;rw [UB h];exact aa4 (rE 0 3)
def A8:dN:=fun args objs K=>match args with
 | [.str s]=>(s.length≤1000000000)∧K (.bT [dF (iX s).1,.int .i64 (iX s).2.1,.int .i64 (iX s).2.2]) objs 0
 | _=>False
theorem Qt:aD Tryz.prog 66 (A8):=by
 intro args objs K h
 unfold A8 at h
 split at h
 · rename_i s
   obtain ⟨h1,hk⟩:=h
   exact ⟨_,_,_,.pure _ rfl (UC s h1),hk⟩
 · exact h.elim
theorem NK (s:List UInt8):∀ (f i:Nat) (out:List Stp),(BS s f i out).1.length≤out.length+f
 | 0,_,_=>Nat.le_refl _
 | f+1,i,out=>by
  simp only [BS]
  split
  · show out.length≤_;omega
  · have:=NK s f (gK s i out.isEmpty).2 (out++[(gK s i out.isEmpty).1])
    rw [List.length_append] at this
    simp only [length_cons,length_nil] at this
    omega
theorem Jo (s:List UInt8):(fA s).length≤20:=by
 have hb:(eG s).1.length≤20:=by
  unfold eG
  split
  · simp
  · have:=NK s 20 0 [];simpa using this
 unfold fA iX
 split
 · exact hb
 · split
   · simp
   · split
     · simp
     · exact hb
theorem NM (p:List Stp) (hp:p.length≤1000000):ai Tryz.prog 67 [dF p] [] (.bool (p.all fun x=>!x.part)) []:=by
 refine xN.bE (T:=aU Tryz.prog []) 0 hD (aj ah) aY (by decide) fun Q hQ=>?_
 (conv=>arg 4;cbv);simp(maxSteps:=400000)only[↓ax,ay,BEq.rfl,reduceIte,reduceCtorEq,Nat.reduceLT,reduceAdd,reduceSub,reduceMul,Nat.reduceBEq,reduceLeDiff,reduceToNat,reduceLE,hQ]
 refine aH (fun m S=>∃ i:Nat,i+m=p.length∧(∀ (j:Nat) x,j<i→p[j]?=some x→x.part=false)∧S=⟨dU 15 [(0,dF p),(3,.int .i64 i)],[]⟩) p.length ⟨0,by omega,fun j x h=>absurd h (Nat.not_lt_zero j),?_⟩ ?_
 · simp only [dh,keepR,reduceAdd,oC,Nat.reduceBEq,map_nil]
   rfl
 rintro m S ⟨i,him,hb,rfl⟩
 have zi:(0≤(i:Int))=True:=eq_true (by omega)
 rcases lt_or_ge i p.length with h | h
 · have hlt:((i:Int)<(p.length:Int))=True:=eq_true (by omega)
   have hgi:=List.getElem?_eq_getElem h
   generalize p[i]=x at hgi
   cases hx:x.part with
   | true=>
    have hr:(p.all fun x=>!x.part)=false:=by rw [List.all_eq_false];exact ⟨x,List.mem_of_getElem? hgi,by simp [hx]⟩
    simp(maxSteps:=400000)only[↓ax,ay,BEq.rfl,reduceIte,reduceCtorEq,Nat.reduceLT,reduceAdd,reduceSub,reduceMul,Nat.reduceBEq,reduceLeDiff,reduceToNat,reduceLE,hQ,hlt,zi,hgi,hx,hr]
   | false=>
    simp(maxSteps:=400000)only[↓ax,ay,BEq.rfl,reduceIte,reduceCtorEq,Nat.reduceLT,reduceAdd,reduceSub,reduceMul,Nat.reduceBEq,reduceLeDiff,reduceToNat,reduceLE,hQ,hlt,zi,hgi,hx]
    refine ⟨⟨by omega,by omega⟩,m-1,by omega,i+1,by omega,fun j y hj hy=>?_,rfl⟩
    rcases lt_or_ge j i with g | g
    · exact hb j y g hy
    · have:j=i:=by omega
      subst this
      rw [hgi] at hy;cases hy;exact hx
 · have hlt:((i:Int)<(p.length:Int))=False:=eq_false (by omega)
   have hr:(p.all fun x=>!x.part)=true:=by
    rw [List.all_eq_true];intro x hx
    obtain ⟨j,hj⟩:=List.mem_iff_getElem?.1 hx
    have:=(List.getElem?_eq_some_iff.1 hj).1
    rw [hb j x (by omega) hj];rfl
   simp(maxSteps:=400000)only[↓ax,ay,BEq.rfl,reduceIte,reduceCtorEq,Nat.reduceLT,reduceAdd,reduceSub,reduceMul,Nat.reduceBEq,reduceLeDiff,reduceToNat,reduceLE,hQ,hlt,hr]
def rO:dN:=fun args objs K=>match args with
 | [a0]=>gu dF a0 (HK.mk:HK fun p=>(p.length≤1000000)∧K (.bool (p.all fun x=>!x.part)) objs 0)
 | _=>False
theorem KG:aD Tryz.prog 67 (rO):=by
 intro args objs K h
 unfold rO at h
 split at h
 · rename_i a0
   obtain ⟨p,rfl,h1,hk⟩:=h
   exact ⟨_,_,_,.pure _ rfl (NM p h1),hk⟩
 · exact h.elim
theorem UD (s:List UInt8) (hs:s.length≤1000000000):ai Tryz.prog 34 [.str s] [] (.bT [dF (fA s),.bool (bB s)]) []:=by
 refine AP.vE (T:=aU Tryz.prog [(66,A8),(67,rO)]) 0 hD (aj (af Qt (af KG ah))) aY (by decide) (by decide) fun Q hQ=>?_
 have hl:=Jo s
 unfold fA at hl
 by_cases he:(iX s).2.2=0
 · have he':=eq_true he
   have d1:decide ((iX s).2.2=0)=true:=decide_eq_true he
   have hr:bB s=(iX s).1.all fun x=>!x.part:=by unfold bB;rw [d1];rfl
   (conv=>arg 4;cbv);simp(maxSteps:=400000)only[↓ax,ay,BEq.rfl,reduceIte,reduceCtorEq,Nat.reduceLT,reduceAdd,reduceSub,reduceMul,Nat.reduceBEq,reduceLeDiff,reduceToNat,reduceLE,hQ,↓A8,↓rO,gM,he',fA,hr]
   repeat' (first | (omega) | exact rfl | intro _ | refine ⟨?_,?_⟩)
 · have he':=eq_false he
   have d1:decide ((iX s).2.2=0)=false:=decide_eq_false he
   have hr:bB s=false:=by unfold bB;rw [d1];rfl
   (conv=>arg 4;cbv);simp(maxSteps:=400000)only[↓ax,ay,BEq.rfl,reduceIte,reduceCtorEq,Nat.reduceLT,reduceAdd,reduceSub,reduceMul,Nat.reduceBEq,reduceLeDiff,reduceToNat,reduceLE,hQ,↓A8,↓rO,gM,he',fA,hr]
   repeat' (first | (omega) | exact rfl | intro _ | refine ⟨?_,?_⟩)
def fO:dN:=fun args objs K=>match args with
 | [.str s]=>(s.length≤1000000000)∧K (.bT [dF (fA s),.bool (bB s)]) objs 0
 | _=>False
theorem A9:aD Tryz.prog 34 (fO):=by
 intro args objs K h
 unfold fO at h
 split at h
 · rename_i s
   obtain ⟨h1,hk⟩:=h
   exact ⟨_,_,_,.pure _ rfl (UD s h1),hk⟩
 · exact h.elim
end Lp
namespace Lp
open Go Go.Proofs
open Nat (reduceAdd reduceLeDiff reduceMul reduceSub)
open Int (reduceLE reduceToNat)
def yx (n:Nd) (p:Int):Int:=
 let i:Int:=n.s.length-1-(p-n.e)
 if i<0 then 0 else match n.s[i.toNat]? with
  | some c=>(c.toNat:Int)-48
  | none=>0
def l9 (a b:Nd):Nat→Int→Int
 | 0,_=>0
 | k+1,p=>if yx a p<yx b p then -1 else if yx b p<yx a p then 1 else l9 a b k (p-1)
def kr (a b:Nd):Int:=if (b.s.length+b.e:Int) > a.s.length+a.e then (b.s.length+b.e:Int) else a.s.length+a.e
def jM (a b:Nd):Int:=if b.e<a.e then b.e else a.e
def kL (a b:Nd):Int:=
 let side:Int:=if a.neg then -1 else 1
 if a.neg≠b.neg then side else side*l9 a b (kr a b-jM a b+1).toNat (kr a b)
structure A_ (n:Nd):Prop where
 len:n.s.length≤200
 fI:fI n.s=true
 lo:-1000≤n.e
 hi:n.e≤1000
theorem pV {s:List UInt8}(h:fI s=true){i:Nat}{c:UInt8}(hc:s[i]?=some c):48≤c.toNat∧c.toNat≤57:=by
 simp only [fI,List.all_eq_true,Bool.and_eq_true,decide_eq_true_eq] at h
 have:=h c (List.mem_of_getElem? hc)
 exact ⟨UInt8.le_iff_toNat_le.1 this.1,UInt8.le_iff_toNat_le.1 this.2⟩
theorem YU (n:Nd) (p:Int) (hn:A_ n) (hp:-2000≤p∧p≤2000):ai Tryz.prog 100 [av n,.int .i64 p] [] (.int .i64 (yx n p)) []:=by
 obtain ⟨h1,h2,h3,h4⟩:=hn
 refine DU.pure (T:=aU Tryz.prog []) 0 hD (aj ah) aY (by decide) ?_
 (conv=>arg 4;cbv);simp(maxSteps:=400000)only[↓aN,aO,BEq.rfl,reduceIte,reduceCtorEq,Nat.reduceLT,reduceAdd,reduceSub,reduceMul,Nat.reduceBEq,reduceLeDiff,reduceToNat,reduceLE]
 refine aT _ (Weak.freeze 1 0 (Nat.le_refl _) _) ?_
 simp(maxSteps:=400000)only[↓aN,aO,BEq.rfl,reduceIte,reduceCtorEq,Nat.reduceLT,reduceAdd,reduceSub,reduceMul,Nat.reduceBEq,reduceLeDiff,reduceToNat,reduceLE,je]
 refine ⟨⟨by omega,by omega⟩,⟨by omega,by omega⟩,⟨by omega,by omega⟩,fun h=>?_,fun h=>⟨fun h'=>?_,fun h'=>⟨by omega,?_⟩⟩⟩
 · simp only [yx,if_pos h]
 · have:n.s[(↑n.s.length-1-(p-n.e)).toNat]?=none:=List.getElem?_eq_none (by omega)
   simp only [yx,if_neg h,this]
 · have hi:(↑n.s.length-1-(p-n.e)).toNat<n.s.length:=by omega
   have hg:=List.getElem?_eq_getElem hi
   have hf:=pV h2 hg
   generalize hc:n.s[(↑n.s.length-1-(p-n.e)).toNat]=c at *
   simp(maxSteps:=400000)only[↓aN,aO,BEq.rfl,reduceIte,reduceCtorEq,Nat.reduceLT,reduceAdd,reduceSub,reduceMul,Nat.reduceBEq,reduceLeDiff,reduceToNat,reduceLE,hg,jP,mH,IntKind.wrap]
   refine ⟨⟨by omega,by omega⟩,?_⟩
   simp only [yx,if_neg h,hg]
   have hm:((c.toNat:Int)-48) % 2 ^ IntKind.i64.bits=(c.toNat:Int)-48:=Int.emod_eq_of_lt (by omega) (by have:(2:Int) ^ IntKind.i64.bits=18446744073709551616:=rfl;omega)
   rw [hm,if_neg]
   have h2:(2:Int) ^ (IntKind.i64.bits-1)=9223372036854775808:=rfl
   have h3:IntKind.i64.signed=true:=rfl
   rw [h2,h3]
   simp
   omega
def Sl:dN:=fun args objs K=>match args with
 | [a0,.int .i64 p]=>gu av a0 (HK.mk:HK fun n=>(A_ n)∧(-2000≤p∧p≤2000)∧K (.int .i64 (yx n p)) objs 0)
 | _=>False
theorem Xh:aD Tryz.prog 100 (Sl):=by
 intro args objs K h
 unfold Sl at h
 split at h
 · rename_i a0 p
   obtain ⟨n,rfl,h1,h2,hk⟩:=h
   exact ⟨_,_,_,.pure _ rfl (YU n p h1 h2),hk⟩
 · exact h.elim
theorem NN (a b:Nd) (ha:A_ a) (hb:A_ b):ai Tryz.prog 79 [av a,av b] [] (.int .i64 (kL a b)) []:=by
 refine Cn.pure (T:=aU Tryz.prog [(100,Sl)]) 0 hD (aj (af Xh ah)) aY (by decide) ?_
 (conv=>arg 4;cbv);simp(maxSteps:=400000)only[↓aN,aO,BEq.rfl,reduceIte,reduceCtorEq,Nat.reduceLT,reduceAdd,reduceSub,reduceMul,Nat.reduceBEq,reduceLeDiff,reduceToNat,reduceLE]
 refine aT _ (Weak.freeze 1 0 (Nat.le_refl _) _) ?_
 cases hx:a.neg <;> cases hy:b.neg
 all_goals simp(maxSteps:=400000)only[↓aN,aO,BEq.rfl,reduceIte,reduceCtorEq,Nat.reduceLT,reduceAdd,reduceSub,reduceMul,Nat.reduceBEq,reduceLeDiff,reduceToNat,reduceLE,WI,WJ,hx,hy]
 case false.true=>simp [kL,hx,hy]
 case true.false=>simp [kL,hx,hy]
 all_goals
  have b1:-2000≤kr a b∧kr a b≤2000:=by obtain ⟨a1,a2,a3,a4⟩:=ha;obtain ⟨b1,b2,b3,b4⟩:=hb;unfold kr;split <;> omega
  have b2:-1000≤jM a b∧jM a b≤1000:=by obtain ⟨a1,a2,a3,a4⟩:=ha;obtain ⟨b1,b2,b3,b4⟩:=hb;unfold jM;split <;> omega
  have l1:=ha.len
  have l2:=hb.len
  have e1:=ha.lo
  have e2:=ha.hi
  have e3:=hb.lo
  have e4:=hb.hi
  refine ⟨⟨by omega,by omega⟩,⟨by omega,by omega⟩,?_⟩
  refine aH (fun m S=>∃ p:Int,(m:Int)=(if 0≤p-jM a b+1 then p-jM a b+1 else 0)∧p≤kr a b∧-2000≤p∧
   (l9 a b (kr a b-jM a b+1).toNat (kr a b)=l9 a b (p-jM a b+1).toNat p)∧
   S=⟨dU 56 [(2,.addr (av a)),(3,.addr (av b)),(5,.int .i64 (if a.neg=true then -1 else 1)),(7,.int .i64 p)],[]⟩) (kr a b-jM a b+1).toNat ⟨kr a b,?_,Int.le_refl _,by omega,rfl,?_⟩ ?_
  · split <;> omega
  · simp only [dh,keepR,reduceAdd,oC,Nat.reduceBEq,hx,if_true,if_false,kr,Bool.false_eq_true]
  rintro m S ⟨p,hm,hp1,hp2,hd,rfl⟩
  simp(maxSteps:=400000)only[↓aN,aO,BEq.rfl,reduceIte,reduceCtorEq,Nat.reduceLT,reduceAdd,reduceSub,reduceMul,Nat.reduceBEq,reduceLeDiff,reduceToNat,reduceLE,↓Sl]
  refine ⟨fun hlow=>⟨ha,⟨by omega,by omega⟩,hb,⟨by omega,by omega⟩,fun hlt=>?_,fun hlt=>⟨fun hgt=>?_,fun hgt=>?_⟩⟩,fun hlow=>?_⟩
  · have hl:jM a b≤p:=hlow
    have e:(p-jM a b+1).toNat=(p-jM a b).toNat+1:=by omega
    rw [e] at hd
    simp only [l9,if_pos hlt] at hd
    simp only [kL,hd,hx,hy]
    simp
  · have hl:jM a b≤p:=hlow
    have e:(p-jM a b+1).toNat=(p-jM a b).toNat+1:=by omega
    rw [e] at hd
    simp only [l9,if_neg hlt,if_pos hgt] at hd
    simp only [kL,hd,hx,hy]
    simp
  · have hl:jM a b≤p:=hlow
    have e:(p-jM a b+1).toNat=(p-1-jM a b+1).toNat+1:=by omega
    rw [e] at hd
    simp only [l9,if_neg hlt,if_neg hgt] at hd
    rw [if_pos (by omega)] at hm
    refine ⟨⟨by omega,by omega⟩,m-1,by omega,p-1,?_,by omega,by omega,hd,rfl⟩
    split <;> omega
  · have hl:¬ jM a b≤p:=hlow
    have e:(p-jM a b+1).toNat=0:=by omega
    rw [e] at hd
    simp only [l9] at hd
    simp only [kL,hd,hx,hy]
    simp
def wT:dN:=fun args objs K=>match args with
 | [a0,a1]=>gu av a0 (HK.mk:HK fun a=>gu av a1 (HK.mk:HK fun b=>(A_ a)∧(A_ b)∧K (.int .i64 (kL a b)) objs 0))
 | _=>False
theorem KH:aD Tryz.prog 79 (wT):=by
 intro args objs K h
 unfold wT at h
 split at h
 · rename_i a0 a1
   obtain ⟨a,rfl,b,rfl,h1,h2,hk⟩:=h
   exact ⟨_,_,_,.pure _ rfl (NN a b h1 h2),hk⟩
 · exact h.elim
end Lp
namespace Lp
open Go Go.Proofs
theorem FZ (x:Int):ai Tryz.prog 171 [.int .i64 x] [] (.bool false) []:=by
 refine Co.pure (T:=aU Tryz.prog []) 0 hD (aj ah) aY (by decide) ?_
 (conv=>arg 4;cbv);simp only [↓yP,Dg,↓Aj,↓xE,↓Ak,xG,↓lV,mE,jo,fK,Cj,Nat.reduceAdd,Nat.reduceSub,qm,bL,Es,Et]
 simp
def KI:dN:=fun args objs K=>∃ x:Int,args=[.int .i64 x]∧K (.bool false) objs 0
theorem Qu:aD Tryz.prog 171 KI:=by
 rintro args objs K ⟨x,rfl,hk⟩
 exact ⟨_,_,_,.pure _ rfl (FZ x),hk⟩
theorem CF (x y:Int):ai Tryz.prog 145 [.int .i64 x,.int .i64 y] [] (.int .i64 (sF x y)) []:=by
 refine yR.pure (T:=aU Tryz.prog [(171,KI)]) 0 hD (aj (af Qu ah)) aY (by decide) ?_
 (conv=>arg 4;cbv);simp only [↓yP,Dg,↓Aj,↓xE,↓Ak,xG,↓lV,mE,jo,fK,Cj,Nat.reduceAdd,Nat.reduceSub,qm,bL,Zz,ZA,KI,Nat.reduceBEq,BEq.rfl,cond_true,cond_false,qj,Es,Et]
 refine ⟨x,rfl,y,rfl,(fun h=>by cases h),fun _=>⟨(fun h=>by cases h),fun _=>⟨fun h=>?_,fun h=>⟨fun h'=>?_,fun h'=>?_⟩⟩⟩⟩
 · rw [sF,if_pos (of_decide_eq_true h)]
 · rw [sF,if_neg (of_decide_eq_false h),if_pos (of_decide_eq_true h')]
 · rw [sF,if_neg (of_decide_eq_false h),if_neg (of_decide_eq_false h')]
theorem F3 (x:List UInt8):ai Tryz.prog 173 [.str x] [] (.bool false) []:=by
 refine xI.pure (T:=aU Tryz.prog []) 0 hD (aj ah) aY (by decide) ?_
 (conv=>arg 4;cbv);simp only [↓yP,Dg,↓Aj,↓xE,↓Ak,xG,↓lV,mE,jo,fK,Cj,Nat.reduceAdd,Nat.reduceSub,qm,bL,Es,iY]
 simp
def KJ:dN:=fun args objs K=>∃ x:List UInt8,args=[.str x]∧K (.bool false) objs 0
theorem Qv:aD Tryz.prog 173 KJ:=by
 rintro args objs K ⟨x,rfl,hk⟩
 exact ⟨_,_,_,.pure _ rfl (F3 x),hk⟩
theorem rP (x y:List UInt8):ai Tryz.prog 147 [.str x,.str y] [] (.int .i64 (jw x y)) []:=by
 refine uN.pure (T:=aU Tryz.prog [(173,KJ)]) 0 hD (aj (af Qv ah)) aY (by decide) ?_
 (conv=>arg 4;cbv);simp only [↓yP,Dg,↓Aj,↓xE,↓Ak,xG,↓lV,mE,jo,fK,Cj,Nat.reduceAdd,Nat.reduceSub,qm,bL,Zz,ZA,KJ,Nat.reduceBEq,BEq.rfl,cond_true,cond_false,qj,Es,iY]
 refine ⟨x,rfl,y,rfl,(fun h=>by cases h),fun _=>⟨(fun h=>by cases h),fun _=>⟨fun h=>?_,fun h=>⟨fun h'=>?_,fun h'=>?_⟩⟩⟩⟩
 · rw [jw,if_pos h]
 · rw [h,Bool.false_or] at h'
   have hne:x≠y:=by simpa using h'
   rw [jw,if_neg (by rw [h];simp),if_neg hne]
 · rw [h,Bool.false_or] at h'
   have he:x=y:=by simpa using h'
   rw [jw,if_neg (by rw [h];simp),if_pos he]
end Lp
namespace Lp
open Go Go.Proofs
def KL:dN:=fun args objs K=>∃ x y:List UInt8,args=[.str x,.str y]∧K (.int .i64 (jw x y)) objs 0
theorem Qw:aD Tryz.prog 147 KL:=by
 rintro args objs K ⟨x,y,rfl,hk⟩
 exact ⟨_,_,_,.pure _ rfl (rP x y),hk⟩
theorem zm (a b:List (List UInt8)) (ha:a.length≤9223372036854775807) (_hb:b.length≤9223372036854775807) :
  ai Tryz.prog 148 [lX a,lX b] [] (.int .i64 (eD jw a b)) []:=by
 refine lu.pure (T:=aU Tryz.prog [(147,KL)]) 0 hD (aj (af Qw ah)) aY (by decide) ?_
 (conv=>arg 4;cbv);simp only [↓yP,Dg,↓Aj,↓xE,↓Ak,xG,↓lV,mE,jo,fK,Cj,Nat.reduceAdd,Nat.reduceSub,qm,bL,dP,pu,lX,List.length_map,Es,Et]
 refine aH (fun m S=>∃ i:Nat,m=a.length-i∧i≤a.length∧i≤b.length∧eD jw (a.drop i) (b.drop i)=eD jw a b∧
  S=⟨mkT 36 [(0,lX a),(1,lX b),(9,lX a),(10,.int .i64 a.length),(11,.int .i64 i)],[]⟩) a.length ⟨0,rfl,Nat.zero_le _,Nat.zero_le _,rfl,?_⟩ ?_
 · simp only [O4,lX,qm];rfl
 rintro m S ⟨i,rfl,hi,hib,hlex,rfl⟩
 simp only [↓yP,Dg,↓Aj,↓xE,↓Ak,xG,↓lV,mE,jo,fK,Cj,Nat.reduceAdd,Nat.reduceSub,qm,O4,bL,Zz,ZA,KL,Nat.reduceBEq,BEq.rfl,cond_true,cond_false,dP,pu,lX,Es,Et,vz,List.length_map,aZ,eY,↓yj,G7,Eu,ne_eq,reduceCtorEq,not_false_eq_true,true_and,PV.bool.injEq,Int.toNat_natCast,List.length_cons,List.length_nil]
 refine ⟨fun h=>?_,fun h=>?_⟩
 · have hlt:i<a.length:=by have:=of_decide_eq_true h;omega
   rw [List.drop_eq_getElem_cons hlt] at hlex
   refine ⟨by omega,a[i],List.getElem?_eq_getElem hlt,fun hge=>?_,fun hgl=>?_⟩
   · have hbe:b.length≤i:=by have:=of_decide_eq_true hge;omega
     rw [List.drop_eq_nil_of_le hbe] at hlex
     rw [← hlex];rfl
   · have hbl:i<b.length:=by have:=of_decide_eq_false hgl;omega
     rw [List.drop_eq_getElem_cons hbl] at hlex
     refine ⟨by omega,b[i],List.getElem?_eq_getElem hbl,a[i],b[i],rfl,fun hne=>?_,fun heq=>⟨by omega,a.length-(i+1),by omega,i+1,rfl,by omega,by omega,?_,rfl⟩⟩
     · have hne':jw a[i] b[i]≠0:=by simpa using hne
       rw [← hlex,eD,if_neg hne']
     · have heq':jw a[i] b[i]=0:=by simpa using heq
       rw [← hlex,eD,if_pos heq']
 · rw [if_pos trivial]
   have hge:a.length≤i:=by have:=of_decide_eq_false h;omega
   rw [List.drop_eq_nil_of_le hge] at hlex
   refine ⟨fun hl=>?_,fun hl=>?_⟩
   · have hl':i<b.length:=by have:=of_decide_eq_true hl;omega
     rw [List.drop_eq_getElem_cons hl'] at hlex
     rw [← hlex];rfl
   · have hl':b.length≤i:=by have:=of_decide_eq_false hl;omega
     rw [List.drop_eq_nil_of_le hl'] at hlex
     rw [← hlex];rfl
end Lp
namespace Lp
open Go Go.Proofs
def aa5 (a b:List Vl) (f:Vl→Vl→Int):dN:=fun args objs K=>∃ x y:Vl,(x ∈ a∧y ∈ b)∧args=[aM x,aM y]∧K (.int .i64 (f x y)) objs 0
theorem YV (a b:List Vl) (g:FuncId) (f:Vl→Vl→Int) (hg:∀ x ∈ a,∀ y ∈ b,ai Tryz.prog g [aM x,aM y] [] (.int .i64 (f x y)) []):aD Tryz.prog g (aa5 a b f):=by
 rintro args objs K ⟨x,y,⟨hx,hy⟩,rfl,hk⟩
 exact ⟨_,_,_,.pure _ rfl (hg x hx y hy),hk⟩
theorem tH (a b:List Vl) (g:FuncId) (f:Vl→Vl→Int) (ha:a.length≤9223372036854775807) (hg:∀ x ∈ a,∀ y ∈ b,ai Tryz.prog g [aM x,aM y] [] (.int .i64 (f x y)) []) :
  ai Tryz.prog 150 [lY a,lY b,.fn g [] []] [] (.int .i64 (eD f a b)) []:=by
 refine fE.pure (T:=aU Tryz.prog [(g,aa5 a b f)]) 0 hD (aj (af (YV a b g f hg) ah)) aY (by decide) ?_
 (conv=>arg 4;cbv);simp only [↓yP,Dg,↓Aj,↓xE,↓Ak,xG,↓lV,mE,jo,fK,Cj,Nat.reduceAdd,Nat.reduceSub,qm,bL,dP,pu,lY,List.length_map,Es,Et]
 refine aH (fun m S=>∃ i:Nat,m=a.length-i∧i≤a.length∧i≤b.length∧eD f (a.drop i) (b.drop i)=eD f a b∧
  S=⟨mkT 39 [(0,lY a),(1,lY b),(2,.fn g [] []),(11,lY a),(12,.int .i64 a.length),(13,.int .i64 i)],[]⟩) a.length ⟨0,rfl,Nat.zero_le _,Nat.zero_le _,rfl,?_⟩ ?_
 · simp only [O4,lY,qm];rfl
 rintro m S ⟨i,rfl,hi,hib,hlex,rfl⟩
 simp only [↓yP,Dg,↓Aj,↓xE,↓Ak,xG,↓lV,mE,jo,fK,Cj,Nat.reduceAdd,Nat.reduceSub,qm,O4,bL,Zz,ZA,aa5,Nat.reduceBEq,BEq.rfl,cond_true,cond_false,dP,pu,lY,Es,Et,vz,List.length_map,aZ,eY,↓yj,G7,Eu,ne_eq,reduceCtorEq,not_false_eq_true,true_and,PV.bool.injEq,Int.toNat_natCast,List.length_cons,List.length_nil]
 refine ⟨fun h=>?_,fun h=>?_⟩
 · have hlt:i<a.length:=by have:=of_decide_eq_true h;omega
   rw [List.drop_eq_getElem_cons hlt] at hlex
   refine ⟨by omega,a[i],List.getElem?_eq_getElem hlt,rfl,rfl,fun hge=>?_,fun hgl=>?_⟩
   · have hbe:b.length≤i:=by have:=of_decide_eq_true hge;omega
     rw [List.drop_eq_nil_of_le hbe] at hlex
     rw [← hlex];rfl
   · have hbl:i<b.length:=by have:=of_decide_eq_false hgl;omega
     rw [List.drop_eq_getElem_cons hbl] at hlex
     refine ⟨by omega,b[i],List.getElem?_eq_getElem hbl,rfl,rfl,a[i],b[i],⟨List.getElem_mem _,List.getElem_mem _⟩,rfl,fun hne=>?_,fun heq=>⟨by omega,a.length-(i+1),by omega,i+1,rfl,by omega,by omega,?_,rfl⟩⟩
     · have hne':f a[i] b[i]≠0:=by simpa using hne
       rw [← hlex,eD,if_neg hne']
     · have heq':f a[i] b[i]=0:=by simpa using heq
       rw [← hlex,eD,if_pos heq']
 · rw [if_pos trivial]
   have hge:a.length≤i:=by have:=of_decide_eq_false h;omega
   rw [List.drop_eq_nil_of_le hge] at hlex
   refine ⟨fun hl=>?_,fun hl=>?_⟩
   · have hl':i<b.length:=by have:=of_decide_eq_true hl;omega
     rw [List.drop_eq_getElem_cons hl'] at hlex
     rw [← hlex];rfl
   · have hl':b.length≤i:=by have:=of_decide_eq_false hl;omega
     rw [List.drop_eq_nil_of_le hl'] at hlex
     rw [← hlex];rfl
end Lp
