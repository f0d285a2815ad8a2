/-
  Part 4 of what the statement rests on: LpU2, LpX, LpUse, LpRes, LpE0, LpTA0, LpC7, LpC8, LpW1, LpW2, LpW3, LpW4, LpW8, LpW14, LpW15, LpW16, LpW17, LpW18, LpW19, LpW20, LpW23, LpW30, LpD1, LpD2, LpV5, LpLay, LpLib, LpD4, LpX1, LpTA1, LpTA2, LpTA3, LpTA3s, LpTA3t, LpTA4, LpW13, LpW5, LpW6. No condition.
-/
import Derived.Test.YtgfdogdnlgfcpaaGreatDoorLp3
import Derived.Deep.Slices
import Derived.ChangeShapes
import Derived.SizedLaws
import Derived.Deep.DeepHandedRow
import Derived.JoinedOf
import Derived.Below
import Derived.Carry
import Derived.ChangeOld
import Derived.RowKit
import Derived.OpenShut
import Derived.Lib.ValidLaws
import Derived.Shelf.Strings.FuncGrows
import Derived.Lib.TrimByte
import Derived.Shelf.SlGeneric
import Derived.Ground.NamesProg
import Derived.Ground.Names8Prog
import Derived.Shelf.Strings.Trim
import Derived.Shelf.Sort.Plain
import Derived.Shelf.Slices.In.SortNone
import Derived.Shelf.Unicode.ValidAny
import Derived.Shelf.Spec.SlicesGrow
import Derived.Shelf.Strings.Repeat
import Derived.Test.YtgfdogdnlgfcpaaGreatDoorProg

set_option linter.all false
set_option maxHeartbeats 8000000
set_option maxRecDepth 100000
namespace Lp
open Go Go.Proofs
def kG (l:List (List UInt8)):PV:=.sl 1 (l.map .str) none
def mO (l:List Vl):PV:=.sl 1 (l.map aS) none
def encI (l:List Int):PV:=.sl 1 (l.map (.int .i64)) none
def OJ (l:List (List Int)):PV:=.sl 1 (l.map encI) none
theorem hV:∀ l,aS l=.sl 6 (l.map ay) none:=fun _=>rfl
theorem hT:∀ l,kG l=.sl 1 (l.map .str) none:=fun _=>rfl
theorem hL:∀ l,mO l=.sl 1 (l.map aS) none:=fun _=>rfl
theorem hI:∀ l,encI l=.sl 1 (l.map (.int .i64)) none:=fun _=>rfl
theorem hG:∀ l,OJ l=.sl 1 (l.map encI) none:=fun _=>rfl
theorem wY:∀ a b,ay a=ay b→a=b:=by
 intro a b h
 cases a;cases b
 simp only [ay,PV.agg.injEq,List.cons.injEq,PV.int.injEq,PV.str.injEq,PV.bool.injEq,true_and,and_true] at h
 obtain ⟨rfl,rfl,rfl,rfl,rfl,rfl⟩:=h
 rfl
theorem wZ:∀ a b,aS a=aS b→a=b:=nX hV wY
theorem w9:∀ a b,kG a=kG b→a=b:=nX hT fun _ _ h=>by injection h
theorem w_:∀ a b,encI a=encI b→a=b:=nX hI fun _ _ h=>by injection h
theorem Bo:∀ a b,mO a=mO b→a=b:=nX hL wZ
theorem Bp:∀ a b,OJ a=OJ b→a=b:=nX hG w_
theorem abN (objs:List Obj) (K:KT) :
  (∀ n,aK D 27 (.addr (ay n)) 0 objs K=K (.addr (.int .i64 n.kind)) objs 0)∧
  (∀ n,aK D 27 (.addr (ay n)) 1 objs K=K (.addr (.int .i64 n.many)) objs 0)∧
  (∀ n,aK D 27 (.addr (ay n)) 2 objs K=K (.addr (.str n.name)) objs 0)∧
  (∀ n,aK D 27 (.addr (ay n)) 3 objs K=K (.addr (.str n.s)) objs 0)∧
  (∀ n,aK D 27 (.addr (ay n)) 4 objs K=K (.addr (.bool n.neg)) objs 0)∧
  (∀ n,aK D 27 (.addr (ay n)) 5 objs K=K (.addr (.int .i64 n.e)) objs 0):=by
 refine ⟨fun n=>?_,fun n=>?_,fun n=>?_,fun n=>?_,fun n=>?_,fun n=>?_⟩
 all_goals
  simp only [ay,aK,d9,bM,↓LD,I7,uS,rq,FH,II,ne_eq,reduceCtorEq,not_false_eq_true,true_and,Bool.not_false,Bool.and_self,Nat.reduceAdd,Nat.reduceLeDiff,forall_const]
theorem abO :
  (∀ n,(ay n).cells=[.int .i64 n.kind,.int .i64 n.many,.str n.name,.str n.s,.bool n.neg,.int .i64 n.e])∧
  (∀ n,(ay n).isAgg=true)∧(∀ n,(ay n).pure=true)∧(∀ d m O n,eY d m O (ay n)=ay n)∧(∀ d m O n,gQ d m O (ay n)=ay n):=
 ⟨fun _=>rfl,fun _=>rfl,fun _=>rfl,fun _ _ _ _=>rfl,fun _ _ _ _=>rfl⟩
theorem YO (a b:Nd):AB Tryz.prog 27 (ay a).cells (ay b).cells:=
 aaT (by kernel_rfl) (by kernel_rfl) (by kernel_rfl) (by
  have h:(Tryz.prog.fieldsOf 27).toList.map (fun f=>(f.name != "_",f.offset,Tryz.prog.underlying f.type))=[(true,0,some (.int .i64)),(true,1,some (.int .i64)),(true,2,some .string),(true,3,some .string),(true,4,some .bool),(true,5,some (.int .i64))]:=by kernel_rfl
  generalize (Tryz.prog.fieldsOf 27).toList=fs at h
  obtain _ | ⟨f0,_ | ⟨f1,_ | ⟨f2,_ | ⟨f3,_ | ⟨f4,_ | ⟨f5,_ | ⟨f6,fr⟩⟩⟩⟩⟩⟩⟩:=fs
  all_goals simp only [List.map_cons,List.map_nil,List.cons.injEq,Prod.mk.injEq,and_true,reduceCtorEq,and_false] at h
  obtain ⟨⟨a0,b0,c0⟩,⟨a1,b1,c1⟩,⟨a2,b2,c2⟩,⟨a3,b3,c3⟩,⟨a4,b4,c4⟩,⟨a5,b5,c5⟩⟩:=h
  simp only [wW,V6,ay,PV.cells,a0,b0,c0,a1,b1,c1,a2,b2,c2,a3,b3,c3,a4,b4,c4,a5,b5,c5,Bool.and_true,BEq.rfl,decide_true,Nat.zero_add,Nat.reduceAdd])
theorem ad3 (a b:Nd):yK (ay a).cells (ay b).cells=some (decide (a=b)):=by
 cases a;cases b
 simp only [ay,PV.cells,yK,eqS,if_true,Bool.and_true,Nd.mk.injEq,Option.some.injEq]
 rw [Bool.eq_iff_iff]
 simp
theorem YP (ti:aD) (K:PV→Prop) :
  (∀ a b,oH Tryz.prog ti 27 .eql (ay a) (ay b) K=K (.bool (decide (a=b))))∧
  (∀ a b,oH Tryz.prog ti 27 .neq (ay a) (ay b) K=K (.bool (!decide (a=b))))∧
  (∀ a k m x y g e,oH Tryz.prog ti 27 .eql (ay a) (.agg [.int .i64 k,.int .i64 m,.str x,.str y,.bool g,.int .i64 e]) K=K (.bool (decide (a=⟨k,m,x,y,g,e⟩)))):=by
 have h:∀ a b,oH Tryz.prog ti 27 .eql (ay a) (ay b) K=K (.bool (decide (a=b))):=fun a b=>by
  show (AB Tryz.prog 27 (ay a).cells (ay b).cells∧∃ r,yK (ay a).cells (ay b).cells=some r∧K (.bool r))=_
  rw [ad3]
  simp [YO]
 refine ⟨h,fun a b=>?_,fun a k m x y g e=>h a ⟨k,m,x,y,g,e⟩⟩
 show (AB Tryz.prog 27 (ay a).cells (ay b).cells∧∃ r,yK (ay a).cells (ay b).cells=some r∧K (.bool (!r)))=_
 rw [ad3]
 simp [YO]
theorem abP (n:Nd) :
  (∀ x,(ay n).putCells 0 [.int .i64 x]=ay { n with kind:=x })∧(∀ x,(ay n).putCells 1 [.int .i64 x]=ay { n with many:=x })∧
  (∀ x,(ay n).putCells 2 [.str x]=ay { n with name:=x })∧(∀ x,(ay n).putCells 3 [.str x]=ay { n with s:=x })∧
  (∀ x,(ay n).putCells 4 [.bool x]=ay { n with neg:=x })∧(∀ x,(ay n).putCells 5 [.int .i64 x]=ay { n with e:=x }):=
 ⟨fun _=>rfl,fun _=>rfl,fun _=>rfl,fun _=>rfl,fun _=>rfl,fun _=>rfl⟩
theorem abQ (k m:Int) (x y:List UInt8) (g:Bool) (e:Int):PV.agg [.int .i64 k,.int .i64 m,.str x,.str y,.bool g,.int .i64 e]=ay ⟨k,m,x,y,g,e⟩:=rfl
theorem abR (objs:List Obj) (K:KT) :
  (∀ k,bF D 27 [(0,.int .i64 k)] objs K=K (ay ⟨k,0,[],[],false,0⟩) objs 0)∧
  (∀ k m,bF D 27 [(0,.int .i64 k),(1,.int .i64 m)] objs K=K (ay ⟨k,m,[],[],false,0⟩) objs 0)∧
  (∀ k s,bF D 27 [(0,.int .i64 k),(3,.str s)] objs K=K (ay ⟨k,0,[],s,false,0⟩) objs 0)∧
  (∀ k s g e,bF D 27 [(0,.int .i64 k),(3,.str s),(4,.bool g),(5,.int .i64 e)] objs K=K (ay ⟨k,0,[],s,g,e⟩) objs 0):=by
 have z:aI (D 27)=ay ⟨0,0,[],[],false,0⟩:=by kernel_rfl
 have a:(D 27).agg=true:=by kernel_rfl
 simp only [bM] at z a
 refine ⟨fun k=>?_,fun k m=>?_,fun k s=>?_,fun k s g e=>?_⟩
 all_goals
  simp [bF,lJ,a,z,bM,mr,ay,PV.isAgg,qi,PV.cells,PV.storable,PV.lV,PV.pure]
theorem abS :
  (∀ n0,PV.sl 6 [ay n0] none=aS [n0])∧
  (∀ n0 n1,PV.sl 6 [ay n0,ay n1] none=aS [n0,n1])∧
  (∀ n0 n1 n2,PV.sl 6 [ay n0,ay n1,ay n2] none=aS [n0,n1,n2])∧
  (∀ s0,PV.sl 1 [PV.str s0] none=kG [s0])∧
  (∀ s0 s1,PV.sl 1 [PV.str s0,PV.str s1] none=kG [s0,s1])∧
  (∀ s0 s1 s2,PV.sl 1 [PV.str s0,PV.str s1,PV.str s2] none=kG [s0,s1,s2])∧
  (∀ i0,PV.sl 1 [PV.int .i64 i0] none=encI [i0])∧
  (∀ i0 i1,PV.sl 1 [PV.int .i64 i0,PV.int .i64 i1] none=encI [i0,i1])∧
  (∀ i0 i1 i2,PV.sl 1 [PV.int .i64 i0,PV.int .i64 i1,PV.int .i64 i2] none=encI [i0,i1,i2])∧
  (∀ v0,PV.sl 1 [aS v0] none=mO [v0])∧
  (∀ v0 v1,PV.sl 1 [aS v0,aS v1] none=mO [v0,v1])∧
  (∀ v0 v1 v2,PV.sl 1 [aS v0,aS v1,aS v2] none=mO [v0,v1,v2])∧
  (∀ g0,PV.sl 1 [encI g0] none=OJ [g0])∧
  (∀ g0 g1,PV.sl 1 [encI g0,encI g1] none=OJ [g0,g1])∧
  (∀ g0 g1 g2,PV.sl 1 [encI g0,encI g1,encI g2] none=OJ [g0,g1,g2]):=
 ⟨fun _=>rfl,fun _ _=>rfl,fun _ _ _=>rfl,fun _=>rfl,fun _ _=>rfl,fun _ _ _=>rfl,fun _=>rfl,fun _ _=>rfl,fun _ _ _=>rfl,fun _=>rfl,fun _ _=>rfl,fun _ _ _=>rfl,fun _=>rfl,fun _ _=>rfl,fun _ _ _=>rfl⟩
theorem inN:vP ay:=by intro d n o x;cases d <;> rfl
theorem inV:vP aS:=by intro d n o x;cases d <;> rfl
theorem inS:vP PV.str:=by intro d n o x;cases d <;> rfl
theorem inI:vP (PV.int .i64):=by intro d n o x;cases d <;> rfl
theorem inG:vP encI:=by intro d n o x;cases d <;> rfl
theorem ad4 :
  type_of% (jO hV)∧
  type_of% (jO hT)∧
  type_of% (jO hL)∧
  type_of% (jO hI)∧
  type_of% (jO hG)∧
  type_of% (aQ wY)∧
  type_of% (aQ wZ)∧
  type_of% (aQ w9)∧
  type_of% (aQ Bo)∧
  type_of% (aQ w_)∧
  type_of% (aQ Bp):=
 ⟨jO hV,jO hT,jO hL,jO hI,jO hG,aQ wY,aQ wZ,aQ w9,aQ Bo,aQ w_,aQ Bp⟩
theorem abT :
  type_of% (abN)∧
  type_of% (abO)∧
  type_of% (YP)∧
  type_of% (abP)∧
  type_of% (abQ)∧
  type_of% (abR)∧
  type_of% (abS)∧
  type_of% (sV hV)∧
  type_of% (sV hT)∧
  type_of% (sV hL)∧
  type_of% (sV hI)∧
  type_of% (sV hG)∧
  type_of% (jO hV)∧
  type_of% (jO hT)∧
  type_of% (jO hL)∧
  type_of% (jO hI)∧
  type_of% (jO hG)∧
  type_of% (sW hV)∧
  type_of% (sW hT)∧
  type_of% (sW hL)∧
  type_of% (sW hI)∧
  type_of% (sW hG)∧
  type_of% (aQ wY)∧
  type_of% (aQ wZ)∧
  type_of% (aQ w9)∧
  type_of% (aQ Bo)∧
  type_of% (aQ w_)∧
  type_of% (aQ Bp)∧
  type_of% (iZ hV inN)∧
  type_of% (iZ hT inS)∧
  type_of% (iZ hL inV)∧
  type_of% (iZ hI inI)∧
  type_of% (iZ hG inG)∧
  type_of% (rX (enc:=ay) (sz:=6) (fun _=>rfl) (fun _=>rfl))∧
  type_of% (rX (enc:=aS) (sz:=1) (fun _=>rfl) (fun _=>rfl))∧
  type_of% (rX (enc:=PV.str) (sz:=1) (fun _=>rfl) (fun _=>rfl))∧
  type_of% (rX (enc:=(PV.int .i64)) (sz:=1) (fun _=>rfl) (fun _=>rfl))∧
  type_of% (rX (enc:=encI) (sz:=1) (fun _=>rfl) (fun _=>rfl))∧
  type_of% (rX (enc:=PV.bool) (sz:=1) (fun _=>rfl) (fun _=>rfl))∧
  type_of% (fun (l:Vl) (k:Nat)=>Kw (aS l) rfl k)∧
  type_of% (fun (l:List (List UInt8)) (k:Nat)=>Kw (kG l) rfl k)∧
  type_of% (fun (l:List Vl) (k:Nat)=>Kw (mO l) rfl k)∧
  type_of% (fun (l:List Int) (k:Nat)=>Kw (encI l) rfl k)∧
  type_of% (fun (l:List (List Int)) (k:Nat)=>Kw (OJ l) rfl k)∧
  type_of% (fun (z:Nat) (xs:List PV) (q:Option Bool) (k:Nat)=>Kw (.sl z xs q) rfl k):=
 ⟨abN,abO,YP,abP,abQ,abR,abS,sV hV,sV hT,sV hL,sV hI,sV hG,jO hV,jO hT,jO hL,jO hI,jO hG,sW hV,sW hT,sW hL,sW hI,sW hG,aQ wY,aQ wZ,aQ w9,aQ Bo,aQ w_,aQ Bp,iZ hV inN,iZ hT inS,iZ hL inV,iZ hI inI,iZ hG inG,rX (enc:=ay) (sz:=6) (fun _=>rfl) (fun _=>rfl),rX (enc:=aS) (sz:=1) (fun _=>rfl) (fun _=>rfl),rX (enc:=PV.str) (sz:=1) (fun _=>rfl) (fun _=>rfl),rX (enc:=(PV.int .i64)) (sz:=1) (fun _=>rfl) (fun _=>rfl),rX (enc:=encI) (sz:=1) (fun _=>rfl) (fun _=>rfl),rX (enc:=PV.bool) (sz:=1) (fun _=>rfl) (fun _=>rfl),fun (l:Vl) (k:Nat)=>Kw (aS l) rfl k,fun (l:List (List UInt8)) (k:Nat)=>Kw (kG l) rfl k,fun (l:List Vl) (k:Nat)=>Kw (mO l) rfl k,fun (l:List Int) (k:Nat)=>Kw (encI l) rfl k,fun (l:List (List Int)) (k:Nat)=>Kw (OJ l) rfl k,fun (z:Nat) (xs:List PV) (q:Option Bool) (k:Nat)=>Kw (.sl z xs q) rfl k⟩
theorem aV:type_of% @adZ∧type_of% @ad4∧type_of% @ad1:=⟨@adZ,@ad4,@ad1⟩
theorem aW:type_of% @abK∧type_of% @abL∧type_of% @abT∧type_of% bM∧type_of% @ad2:=⟨@abK,@abL,@abT,bM,@ad2⟩
end Lp
namespace Lp
open Go
open List (append_nil mem_append)
def Rd (P:Program) (t:TypeId){α:Type}(enc:α→PV) (good:α→Prop):Prop:=
 ∀ {H:Type}(eh:TypeId×Value→H) (w:World) (fuel:Nat) (cs:List Value) (x:DataW H×List MemPlace),DataW.trod eh P w 0 (fun _=>true) true fuel t cs=some x→
  (∀ n ∈ DataW.weights P t x.1,n≤reachBytes)→∃ a:α,good a∧cZ (dz w (fun _=>True)) (enc a).cells cs
variable {P:Program}
theorem sZ {R:PV→Value→Prop}{p:PV}{v:Value}(h:R p v):cZ R [p] [v]:=
 ⟨rfl,fun i q u h1 h2=>by
  cases i with
  | zero=>simp at h1 h2;subst h1;subst h2;exact h
  | succ i=>simp at h1⟩
theorem Rd.int {t:TypeId}{k:IntKind}(ht:P.underlying t=some (.int k)):Rd P t (.int k) (Ga k):=by
 intro H eh w fuel cs x h _
 obtain ⟨n,rfl,rfl,hw⟩:=DataW.trod_int ht h
 refine ⟨n,?_,sZ (.int k n)⟩
 simp only [Lit.wf,Bool.and_eq_true,decide_eq_true_eq] at hw
 cases k <;> simp only [IntKind.min,IntKind.max,IntKind.signed,IntKind.bits,Ga] at hw ⊢ <;> first | exact ⟨by simpa using hw.1,by simpa using hw.2⟩ | (simp at hw;omega)
theorem Rd.bool {t:TypeId}(ht:P.underlying t=some .bool):Rd P t PV.bool (fun _=>True):=by
 intro H eh w fuel cs x h _
 obtain ⟨b,rfl,rfl⟩:=DataW.trod_bool ht h
 exact ⟨b,trivial,sZ (.bool b)⟩
theorem Rd.str {t:TypeId}(ht:P.underlying t=some .string):Rd P t PV.str (fun s=>s.length≤reachBytes):=by
 intro H eh w fuel cs x h hw
 obtain ⟨s,rfl,rfl,_⟩:=DataW.trod_string ht h
 refine ⟨s.data.toList,hw _ ?_,sZ (K4 w _ s)⟩
 rw [DataW.weights];simp
theorem Rd.slice {t e:TypeId}{α:Type} [Inhabited α] {enc:α→PV}{good:α→Prop}{sz:Nat}(ht:P.underlying t=some (.slice e)) (he:Rd P e enc good) (hsz:P.cellsOf e=sz) (hpos:sz≠0) (hc:∀ a,(enc a).cells.length=sz) :
  Rd P t (fun l:List α=>.sl sz (l.map enc) none) (fun l=>l.length*P.bytesOf e≤reachBytes∧∀ a ∈ l,good a):=by
 intro H eh w fuel cs x h hw
 rcases Go.Deep.open_slice ht h with ⟨rfl,rfl⟩ | ⟨a,len,cap,m,n,D,Pl,rfl,hb,hl,hm,hmm,rfl,hx⟩
 · exact ⟨[],by simp,sZ (.slnil _ _ (by simp))⟩
 · simp only [if_true] at hmm
   subst hmm
   have hwt:∀ i,i<len→∀ n ∈ DataW.weights P e (D i),n≤reachBytes:=by
    intro i hi n hn
    refine hw n ?_
    rw [DataW.weights,ht]
    simp only [List.mem_cons,mem_append]
    right;left
    have key:∀ (l:List (DataW H)) d,d ∈ l→n ∈ DataW.weights P e d→n ∈ DataW.weightsAll P e l:=by
     intro l
     induction l with
     | nil=>intro d hd;cases hd
     | cons y ys ih=>
      intro d hd hn
      rw [DataW.weightsAll,mem_append]
      rcases List.mem_cons.1 hd with rfl | hd
      · exact .inl hn
      · exact .inr (ih d hd hn)
    exact key _ (D i) (List.mem_map.2 ⟨i,List.mem_range.2 hi,rfl⟩) hn
   have hlen:(len:Nat)*P.bytesOf e≤reachBytes:=by
    have:=hw ((((List.range len).map D).length+((List.range (m-len)).map fun j=>D (len+j)).length)*P.bytesOf e) (by rw [DataW.weights,ht];exact List.mem_cons_self)
    simp only [List.length_map,List.length_range] at this
    exact Nat.le_trans (Nat.mul_le_mul_right _ (by omega)) this
   obtain ⟨f,hf⟩:∃ f:Nat→α×List Value,∀ i,i<len→good (f i).1∧w.cells? 0 (a.add (i*P.cellsOf e)) (P.cellsOf e)=some (f i).2∧cZ (dz w (fun _=>True)) (enc (f i).1).cells (f i).2:=by
    have hex:∀ i,i<len→∃ y:α×List Value,good y.1∧w.cells? 0 (a.add (i*P.cellsOf e)) (P.cellsOf e)=some y.2∧cZ (dz w (fun _=>True)) (enc y.1).cells y.2:=by
     intro i hi
     obtain ⟨cs',h1,h2⟩:=hx i (by omega)
     obtain ⟨y,g1,g2⟩:=he eh w n cs' _ h2 (hwt i hi)
     exact ⟨(y,cs'),g1,h1,g2⟩
    exact Go.Deep.choose_lt hex
   rcases Nat.eq_zero_or_pos len with h0 | h0
   · subst h0
     exact ⟨[],by simp,sZ (.J6 _ _ (by simp) a m hm)⟩
   have hspot:a.spot=none:=by
    obtain ⟨_,h2,h3⟩:=hf 0 h0
    obtain ⟨_,g1,g2⟩:=World.cells?_some h2
    have:=g2 0 (by omega)
    rw [List.getElem?_eq_getElem (by omega)] at this
    have:=World.cell?_spot this
    simpa [Addr.add] using this
   obtain ⟨b,off,spot⟩:=a
   simp only at hspot
   subst hspot
   have hcells:∀ i,i<len→∀ j,j<sz→w.cell? ⟨b,off+i*sz+j,none⟩=(f i).2[j]?:=by
    intro i hi j hj
    obtain ⟨_,h2,_⟩:=hf i hi
    obtain ⟨_,_,g2⟩:=World.cells?_some h2
    have:=g2 j (by omega)
    rw [hsz,add_lit,add_lit] at this
    exact this
   have hget:∀ (i:Nat) (x:PV),(((List.range len).map fun i=>(f i).1).map enc)[i]?=some x→i<len∧x=enc (f i).1:=by
    intro i x hx
    have hi:i<len:=by
     have:=(List.getElem?_eq_some_iff.1 hx).1
     simpa using this
    rw [List.getElem?_map,List.getElem?_map,List.getElem?_range hi] at hx
    simp only [Option.map_some,Option.some.injEq] at hx
    exact ⟨hi,hx.symm⟩
   have hL:(((List.range len).map fun i=>(f i).1).map enc).length=len:=by simp
   refine ⟨(List.range len).map fun i=>(f i).1,⟨by simpa using hlen,fun y hy=>?_⟩,sZ ?_⟩
   · obtain ⟨i,hi,rfl⟩:=List.mem_map.1 hy
     exact (hf i (List.mem_range.1 hi)).1
   · have:dz w (fun _=>True) (.sl sz (((List.range len).map fun i=>(f i).1).map enc) none) (.slice (some ⟨b,off,none⟩) (((List.range len).map fun i=>(f i).1).map enc).length m):=by
      refine .sl sz _ none (by simp) b off m (fun i j=>(f i).2.getD j undef) (fun _=>⟨trivial,?_⟩) (by rw [hL];exact hl) hm (fun i x hx=>?_) (fun i x j p hx hp=>?_) (fun i x j p hx hp=>?_)
      · have:=hcells 0 h0 0 (by omega)
        obtain ⟨_,h2,_⟩:=hf 0 h0
        obtain ⟨_,g1,_⟩:=World.cells?_some h2
        rw [List.getElem?_eq_getElem (by omega)] at this
        unfold World.cell? at this
        simp only at this
        cases hb':w.heap[b]? with
        | none=>rw [hb'] at this;simp at this
        | some o=>exact (Array.getElem?_eq_some_iff.1 hb').1
      · obtain ⟨_,rfl⟩:=hget i x hx
        exact hc _
      · obtain ⟨hi,rfl⟩:=hget i x hx
        have hj:j<sz:=by rw [← hc (f i).1];exact (List.getElem?_eq_some_iff.1 hp).1
        rw [hcells i hi j hj]
        obtain ⟨_,h2,_⟩:=hf i hi
        obtain ⟨_,g1,_⟩:=World.cells?_some h2
        rw [List.getD_eq_getElem?_getD,List.getElem?_eq_getElem (by omega)]
        rfl
      · obtain ⟨hi,rfl⟩:=hget i x hx
        have hj:j<sz:=by rw [← hc (f i).1];exact (List.getElem?_eq_some_iff.1 hp).1
        obtain ⟨_,h2,h3⟩:=hf i hi
        obtain ⟨_,g1,_⟩:=World.cells?_some h2
        exact h3.2 j p _ hp (by rw [List.getD_eq_getElem?_getD,List.getElem?_eq_getElem (by omega)];rfl)
     rw [hL] at this
     exact this
theorem vQ {H:Type}{n:Nat}:∀ (ts:List TypeId) (ds:List (DataW H)) (i:Nat) (t:TypeId) (d:DataW H),ts[i]?=some t→ds[i]?=some d→n ∈ DataW.weights P t d→n ∈ DataW.weightsEach P ts ds
 | [],_,i,t,d,h,_,_=>by simp at h
 | _::_,[],i,t,d,_,h,_=>by simp at h
 | t'::ts,d'::ds,i,t,d,h1,h2,hn=>by
  rw [DataW.weightsEach,mem_append]
  cases i with
  | zero=>simp at h1 h2;subst h1;subst h2;exact .inl hn
  | succ i=>exact .inr (vQ ts ds i t d (by simpa using h1) (by simpa using h2) hn)
theorem uV {H:Type}{eh:TypeId×Value→H}{w:World}{fuel:Nat}{t:TypeId}{fs:Array Field}{cs:List Value}{x:DataW H×List MemPlace}(ht:P.underlying t=some (.struct fs))
  (h:DataW.trod eh P w 0 (fun _=>true) true fuel t cs=some x) (hw:∀ n ∈ DataW.weights P t x.1,n≤reachBytes) :
  cs.length=P.cellsOf t∧∀ (i off:Nat) (e:TypeId),(fs.toList.map fun f=>(f.offset,f.type))[i]?=some (off,e)→∃ n y,DataW.trod eh P w 0 (fun _=>true) true n e ((cs.drop off).take (P.cellsOf e))=some y∧(∀ m ∈ DataW.weights P e y.1,m≤reachBytes):=by
 obtain ⟨xs,n,_,rfl,hl,hlen,hf⟩:=DataW.trod_struct ht h
 refine ⟨hl,fun i off e he=>?_⟩
 rw [List.getElem?_map] at he
 cases hfi:fs.toList[i]? with
 | none=>rw [hfi] at he;simp at he
 | some f=>
  rw [hfi] at he
  simp only [Option.map_some,Option.some.injEq,Prod.mk.injEq] at he
  obtain ⟨rfl,rfl⟩:=he
  have ad5:fs[i]?=some f:=by simpa using hfi
  have hi:i<xs.length:=by rw [hlen];exact (Array.getElem?_eq_some_iff.1 ad5).1
  have h1:=hf i f ad5
  rw [List.getElem?_eq_getElem hi] at h1
  refine ⟨n,xs[i],h1,fun m hm=>hw m ?_⟩
  rw [DataW.weights,ht]
  exact vQ _ _ i f.type xs[i].1 (by rw [List.getElem?_map,hfi];rfl) (by rw [List.getElem?_map,List.getElem?_eq_getElem hi];rfl) hm
theorem zw {H:Type}{eh:TypeId×Value→H}(hl:laidOutB P=true){W W':World}(hb:∀ b,b<W.heap.size→W'.heap[b]?=W.heap[b]?) :
  ∀ (ts:List TypeId) (vs:List Value) (ds:List (DataW H)) (ps:List MemPlace),(∀ t ∈ ts,P.readableRec t=true∧t<P.types.size)→DataW.TrodAll eh P W 0 (fun _=>true) true ts vs ds ps→
   DataW.TrodAll eh P W' 0 (fun b=>decide (b<W.heap.size)) true ts vs ds ps
 | [],[],[],ps,_,h=>h
 | t::ts,v::vs,d::ds,ps,hr,⟨p,q,h1,h2,h3⟩=>by
  have hlt:∀ x ∈ p,x.block<W.heap.size:=by obtain ⟨m,hm⟩:=h1;exact DataW.trod_lt m _ _ _ hm
  refine ⟨p,q,Go.WideElems.Trod_stays hl (hr t (by simp)).1 (hr t (by simp)).2 h1 (fun x hx=>?_) (fun x hx=>by simpa using hlt x hx),zw hl hb ts vs ds q (fun t ht=>hr t (by simp [ht])) h2,h3⟩
  cases x with
  | cell b o=>exact World.cell?_of_block (w:=W) (hb b (hlt _ hx))
  | map b=>exact hb b (hlt _ hx)
 | [],_::_,_,_,_,h=>h.elim
 | [],[],_::_,_,_,h=>h.elim
 | _::_,[],_,_,_,h=>h.elim
 | _::_,_::_,[],_,_,h=>h.elim
theorem YQ {C:Checked}{H:Type}{enc:TypeId×Value→H}{f:FuncId}{fn:Func}{s:ChangeSpec}{tb:TypeId}
  (hlaid:laidOutB C.prog=true) (hr:∀ t ∈ fn.params.toList,C.prog.readableRec t=true∧t<C.prog.types.size)
  (hres:fn.resultTypes.toList=[tb]) (hsz:fn.resultTypes.size=1) (hb:C.prog.underlying tb=some .bool)
  (hvars:s.vars=[]) (hpl:s.plain.varTypes C.prog=[]) (hs:∀ ds:List (DataW H),ds.length=fn.params.toList.length→s.fn H ds={ results:=[.lit (.bool true)],args:=ds })
  (hread:∀ (W:World) (base:Nat) (args:List Value) (ds:List (DataW H)) (ps:List MemPlace),(∀ (j:Nat) t v,fn.params[j]?=some t→args[j]?=some v→Value.okWide C.prog W .any base t v)→DataW.TrodAll enc C.prog W 0 (fun _=>true) true fn.params.toList args ds ps→(∀ n ∈ DataW.weightsEach C.prog fn.params.toList ds,n≤reachBytes)→
   ∃ pvs,cZ (dz W (fun _=>True)) pvs args∧ai C.prog f pvs [] (.bool true) [])
  {W:World}{base:Nat}{args:Array Value}{ds gs:List (DataW H)}{before:List MemPlace}(hg:rO.holds W.heap)
  (hval:∀ (j:Nat) t v,fn.params[j]?=some t→args[j]?=some v→Value.okWide C.prog W .any base t v) (hW:DataW.Whole enc C.prog fn.params.toList s.vars false W args.toList ds gs before)
  (hsize:(DataW.weightsEach C.prog (fn.params.toList++s.plain.varTypes C.prog) (ds++gs)).all (·≤reachBytes)=true) :
  Calls C.prog f args W fun e W'=>∃ v,e=.returned v∧s.post enc C.prog fn false true false false W args v W':=by
 have hW':=hW
 obtain ⟨p,q,hA,hV,rfl,hfz,hnd⟩:=hW
 rw [hvars] at hV
 obtain ⟨rfl,rfl⟩:=Go.ChangeShapes.trodVars_none hV
 have hlen:ds.length=fn.params.toList.length:=by
  have:∀ (ts:List TypeId) (vs:List Value) (ds:List (DataW H)) (ps:List MemPlace),DataW.TrodAll enc C.prog W 0 (fun _=>true) true ts vs ds ps→ds.length=ts.length:=by
   intro ts
   induction ts with
   | nil=>intro vs ds ps h;cases vs <;> cases ds <;> simp [DataW.TrodAll] at h ⊢
   | cons t ts ih=>
    intro vs ds ps h
    cases vs <;> cases ds <;> simp [DataW.TrodAll] at h ⊢
    obtain ⟨_,_,_,h2,_⟩:=h
    exact ih _ _ _ h2
  exact this _ _ _ _ hA
 rw [hpl,append_nil,append_nil,List.all_eq_true] at hsize
 obtain ⟨pvs,hrep,hspec⟩:=hread W base args.toList ds p (fun j t v h1 h2=>hval j t v h1 (by simpa using h2)) hA (fun n hn=>by simpa using hsize n hn)
 have hargs:cZ (aX W (bR (fun _=>True) [] (fun _=>none)) [] (fun _=>none)) pvs args.toList:=
  ⟨hrep.1,fun i p v a b=>.aJ ((hrep.2 i p v a b).o8 fun _ _ _=>⟨trivial,dQ _ _⟩)⟩
 have hc:=hspec.2 W (fun _=>none) args.toList (fun _=>True) ⟨hg,fun _ _=>trivial⟩ (uO _ _ _ _) hargs
 refine Calls.mono hc fun e W' ⟨v,au,he,_,hv,hheap,hsize',hsm⟩=>?_
 subst he
 have hv':=hv.bool
 subst hv'
 have hkeep:∀ b,b<W.heap.size→W'.heap[b]?=W.heap[b]?:=fun b hb=>hheap b hb (dQ _ _)
 refine ⟨_,rfl,ds,[],p++[],[],p,[],hW',?_,?_,?_,?_,fun h=>by cases h⟩
 · rw [append_nil,hs ds hlen,hres,hsz]
   exact Go.ChangeShapes.trodAll_mk1 (Go.RowKit.shut_bool hb true)
 · rw [append_nil,hs ds hlen]
   exact zw hlaid hkeep _ _ _ _ hr hA
 · rw [hvars,append_nil,hs ds hlen];rfl
 · refine ⟨hsm.1,hsm.2,fun i hi=>?_⟩
   rw [hkeep i hi]
   split <;> simp_all
theorem abU {C:Checked}{os:Os}{H:Type}{enc:TypeId×Value→H}{f:FuncId}{fn:Func}{s:ChangeSpec}{tb:TypeId}{dom:List PathCond}{laid:List (String×DataW Unit)}
  (own:ownKnob C.prog.godebug=none) (started:os.Started) (noInit:C.prog.inits.idxOf? f=none) (hfn:C.prog.funcs[f]?=some fn)
  (witness:∃ (w:World) (tape:Tape) (i:Input),w.os=os∧(w.forCall tape i).Shaped C.prog∧i.vars=[]∧Input.okWide C.prog (w.forCall tape i) .any w.heap.size f i∧
   (OpenSpec.ofChange s).preRow enc C.prog fn dom false laid (w.forCall tape i).memory i.args∧({}:Assume).holds C.prog (lone (Frame.enter C.prog f i.args .normal) [] (w.forCall tape i)))
  (hlaid:laidOutB C.prog=true) (hr:∀ t ∈ fn.params.toList,C.prog.readableRec t=true∧t<C.prog.types.size)
  (hres:fn.resultTypes.toList=[tb]) (hsz:fn.resultTypes.size=1) (hb:C.prog.underlying tb=some .bool)
  (hvars:s.vars=[]) (hpl:s.plain.varTypes C.prog=[]) (hs:∀ ds:List (DataW H),ds.length=fn.params.toList.length→s.fn H ds={ results:=[.lit (.bool true)],args:=ds })
  (hread:∀ (W:World) (base:Nat) (args:List Value) (ds:List (DataW H)) (ps:List MemPlace),(∀ (j:Nat) t v,fn.params[j]?=some t→args[j]?=some v→Value.okWide C.prog W .any base t v)→DataW.TrodAll enc C.prog W 0 (fun _=>true) true fn.params.toList args ds ps→(∀ n ∈ DataW.weightsEach C.prog fn.params.toList ds,n≤reachBytes)→
   ∃ pvs,cZ (dz W (fun _=>True)) pvs args∧ai C.prog f pvs [] (.bool true) [])
  (hg:∀ W:World,laidMetH C.prog laid W→rO.holds W.heap) :
  ReturnsInHanded {} C os f .any ((OpenSpec.ofChange s).preRow enc C.prog fn dom false laid) (s.post enc C.prog fn false true false false):=by
 refine returnsInHanded_of_row (C:=C) (s:=OpenSpec.ofChange s) (F:=fun _ _=>default) own started noInit hfn witness ?_
 intro W base args ds gs before hval hW _ _ hsize hL _ _
 exact YQ hlaid hr hres hsz hb hvars hpl hs hread (hg W hL) hval hW hsize
end Lp
namespace Lp
open Go
variable {P:Program}{D:TypeId→aD}{T:Know}
def ad6 (n:Nat):Env:=fun _ _ V=>∀ w0,V w0→w0.nx≤n
def ad7 (t:Nat) (r:PV) (objs':List Obj) (e:Exit) (S:St):Prop:=
 (e=.normal∨e=.ret)∧S.tmps.getD t .dead=r∧S.objs=objs'
theorem Uq.FC {f:FuncId}{fn:Func}{c:Code}{C:LC}{args:List PV}{r:PV}{objs objs':List Obj}{t n:Nat}(hD:∀ t,iN P t (D t)) (hT:FB P none (ad6 objs.length) T) (hm:P.follows .mixedOrders=true)
  (hf:P.funcs[f]?=some fn) (hname:(fn.name== "runtime.NumGoroutine")=false) (hb:fn.body=some c) (hn:fn.ntmps=n) (hr:fn.results=#[.tmp t]) (hC:strip C=comp c) (hlen:objs'.length=objs.length)
  (h:kW P D T C (ad7 t r objs') ⟨(bV args n).tmps,objs⟩):Uq P f args objs r objs':=by
 refine ⟨⟨fn,hf,hname,by rw [hb];rfl⟩,hlen,fun base ak w0 tmps blk a w vs R hargs=>?_⟩
 have hpw:PW P none (ad6 objs.length) c (ad7 t r objs') ⟨(bV args n).tmps,objs⟩:=p_ hD hm C _ _ _ c _ _ hT hC h
 have hpp:∀ b,ak b→b<w.heap.size∧aY objs blk b:=fun b hb=>⟨Nat.lt_of_lt_of_le (R.pr b hb) R.gr,fun k o h1 h2 h3=>R.objs.np k o b h1 h2 h3 hb⟩
 have hz:∀ x ∈ tmps.zip a.tmps.toList,aX w (bR base objs blk) objs blk x.1 x.2:=by
  intro x hx
  obtain ⟨i,hi,rfl⟩:=List.mem_iff_getElem.1 hx
  have hi':i<tmps.length∧i<a.tmps.toList.length:=by
   rw [List.length_zip] at hi
   omega
  rw [List.getElem_zip]
  have:=R.tm i tmps[i] (List.getElem?_eq_getElem hi'.1)
  have e:a.tmps.getD i undef=a.tmps.toList[i]:=by
   rw [Array.getD_eq_getD_getElem?,Array.getElem?_eq_getElem (by simpa using hi'.2)];simp
  rw [e] at this
  exact this
 have R2:Rel base (fun b=>b<w.heap.size∧aY objs blk b) ⟨w.heap,tmps.zip a.tmps.toList++w0.xs,objs.length,w⟩ ⟨(bV args n).tmps,objs⟩ blk { tmps:=(⟨vs⟩:Array Value)++Array.replicate (n-(⟨vs⟩:Array Value).size) undef,defers:=[] } w:=by
  have hl:=hargs.1
  have hext:∀ x ∈ tmps.zip a.tmps.toList++w0.xs,aX w (bR base objs blk) objs blk x.1 x.2:=fun x hx=>by
   rcases List.mem_append.1 hx with hx | hx
   · exact hz x hx
   · exact R.ext x hx
  refine ⟨.nil _ _,?_,fun t p hp=>?_,⟨R.objs.ob,R.objs.IK,fun k o g h1 h2 h3 hp=>hp.2 k o h1 h2 h3⟩,fun b hb=>hb.1,fun _ _=>rfl,Nat.le_refl _,fun b hn=>?_,hext,fun x hx=>Fy (hext x hx),.refl w,⟨R.nJ,fun b hb=>hpp b (R.gl.2 b hb)⟩⟩
  · simp [bV,hl]
  · simp only [bV] at hp
    rw [List.getElem?_append] at hp
    split at hp
    · rename_i ht
      obtain ⟨v,hv⟩:∃ v,vs[t]?=some v:=⟨vs[t]'(by omega),List.getElem?_eq_getElem (by omega)⟩
      have hg:((⟨vs⟩:Array Value)++Array.replicate (n-(⟨vs⟩:Array Value).size) undef).getD t undef=v:=by
       rw [Array.getD_eq_getD_getElem?,Array.getElem?_append,if_pos (by simpa using (by omega:t<vs.length))]
       simp [hv]
      rw [hg]
      exact hargs.2 t p v hp hv
    · rw [List.getElem?_replicate] at hp
      split at hp
      · cases hp;exact .dead _
      · cases hp
  · rcases Nat.lt_or_ge b w.heap.size with h1 | h1
    · refine R.pb b fun hp=>hn (hpp b hp)
    · exact R.bs b (Nat.le_trans R.gr h1)
 have hw:=hpw base _ (fun x=>(⟨w.heap,tmps.zip a.tmps.toList++w0.xs,objs.length,w⟩:Wz)=x) (by rintro z rfl;exact Nat.le_refl _) _ _ _ ⟨_,rfl,R2⟩
 rw [← callsIn_wide (n:=0)]
 refine callsIn_of_wp_marks hf hb trivial ?_
 rw [hn]
 refine wpIn_mono hw ?_
 rintro e a' w' ⟨S',au,⟨he,ho,oU⟩,_,rfl,R'⟩
 have key:∀ w',Rel base (fun b=>b<w.heap.size∧aY objs blk b) ⟨w.heap,tmps.zip a.tmps.toList++w0.xs,objs.length,w⟩ S' au { a' with defers:=[] } w'→
     ∃ v,(results fn a'.tmps).run P w'=.ok v w'∧(∃ v' au,Ending.returned v=.returned v'∧Rel base ak w0 ⟨tmps,objs'⟩ au a w'∧aX w' (bR base objs' au) objs' au r v'):=by
  intro w' R'
  have hx:=R'.ev (.tmp t)
  change aX w' _ _ au (S'.tmps.getD t .dead) (a'.tmps.getD t undef) at hx
  rw [ho,oU] at hx
  refine ⟨_,results_tmp hr _ _ _,_,au,rfl,?_,hx⟩
  have hpr:∀ b,b<w.heap.size∧aY objs blk b→w'.heap[b]?=w.heap[b]?:=fun b hb=>R'.fr b hb
  obtain ⟨Ds,e1,e2,e3⟩:=R.oD
  have ob:=R'.objs
  have ex:=R'.ext
  rw [oU] at ob ex
  refine ⟨⟨Ds,e1,e2,fun b hb=>?_⟩,R.CY,fun t p hp=>?_,⟨ob.ob,ob.IK,fun k o g h1 h2 h3 hp=>ob.np k o g h1 h2 h3 (hpp g hp)⟩,R.pr,fun b hb=>?_,Nat.le_trans R.gr R'.gr,R.pb,fun x hx=>ex x (List.mem_append_right _ hx),R.J8,R.sm.trans R'.sm,R.gl⟩
  · obtain ⟨h1,h2,h3⟩:=e3 b hb
    have hpb:b<w.heap.size∧aY objs blk b:=⟨(Array.getElem?_eq_some_iff.1 h1).1,h2.2⟩
    exact ⟨by rw [hpr b hpb];exact h1,⟨h2.1,fun k o g1 g2 g3=>ob.np k o b g1 g2 g3 hpb⟩,h3⟩
  · refine ex (p,a.tmps.getD t undef) (List.mem_append_left _ ?_)
    have hlt:t<tmps.length:=(List.getElem?_eq_some_iff.1 hp).1
    have htz:t<a.tmps.size:=by rw [R.CY];exact hlt
    refine List.mem_iff_getElem.2 ⟨t,by rw [List.length_zip,Array.length_toList];exact Nat.lt_min.2 ⟨hlt,htz⟩,?_⟩
    rw [List.getElem_zip]
    have e:a.tmps.getD t undef=a.tmps.toList[t]'(by simpa using htz):=by
     rw [Array.getD_eq_getD_getElem?,Array.getElem?_eq_getElem htz];simp
    rw [e,(List.getElem?_eq_some_iff.1 hp).2]
  · rw [hpr b (hpp b hb)];exact R.fr b hb
 rcases he with rfl | rfl <;> exact nR _ _ R' key
end Lp
namespace Lp
open Go
variable {P:Program}{D:TypeId→aD}{T:Know}
def nE (p q:PV):Prop:=∀ (w:World) (ok:Nat→Prop) (v:Value),dz w ok p v→dz w ok q v
theorem nE.refl (p:PV):nE p p:=fun _ _ _ h=>h
theorem tq (sz sz':Nat):nE (.sl sz [] (some true)) (.sl sz' [] none):=by
 intro w ok v h
 cases h with
 | slnil _ _ _=>exact .slnil sz' none (by decide)
 | J6 _ _ hq=>exact absurd rfl hq
 | sl _ _ _ hq=>exact absurd rfl hq
theorem nE.agg {ps qs:List PV}(hl:ps.length=qs.length) (h:∀ (i:Nat) (p q:PV),ps[i]?=some p→qs[i]?=some q→nE p q):nE (.agg ps) (.agg qs):=by
 intro w ok v hr
 cases hr with
 | agg _ vs hl' hh=>
  refine .agg _ _ (by omega) fun i q u hq hu=>?_
  have hi:i<ps.length:=by rw [hl];exact (List.getElem?_eq_some_iff.1 hq).1
  exact h i _ q (List.getElem?_eq_getElem hi) hq w ok u (hh i _ u (List.getElem?_eq_getElem hi) hu)
theorem nE.b_ {ps qs:List PV}(hl:ps.length=qs.length) (h:∀ (i:Nat) (p q:PV),ps[i]?=some p→qs[i]?=some q→nE p q):nE (.b_ ps) (.b_ qs):=by
 intro w ok v hr
 cases hr with
 | b_ _ vs hl' hh=>
  refine .b_ _ _ (by omega) fun i q u hq hu=>?_
  have hi:i<ps.length:=by rw [hl];exact (List.getElem?_eq_some_iff.1 hq).1
  exact h i _ q (List.getElem?_eq_getElem hi) hq w ok u (hh i _ u (List.getElem?_eq_getElem hi) hu)
theorem acU {f:List PV→PV}(hf:f=PV.agg∨f=PV.b_){a b c d:PV}(h1:nE a c) (h2:nE b d):nE (f [a,b]) (f [c,d]):=by
 have key:∀ (i:Nat) (p q:PV),[a,b][i]?=some p→[c,d][i]?=some q→nE p q:=by
  intro i p q hp hq
  match i with
  | 0=>cases hp;cases hq;exact h1
  | 1=>cases hp;cases hq;exact h2
  | _+2=>simp at hp
 rcases hf with rfl | rfl
 · exact .agg rfl key
 · exact .b_ rfl key
theorem ai.res {f:FuncId}{args:List PV}{objs:List Obj}{r r':PV}(h:ai P f args objs r []) (ht:nE r r'):ai P f args objs r' []:=by
 refine ⟨h.1,fun w blk vs base hb R ha=>(h.2 w blk vs base hb R ha).mono ?_⟩
 rintro e w' ⟨v,au,h1,h2,h3,h4⟩
 exact ⟨v,au,h1,h2,.aJ (ht _ _ _ (wQ h3)),h4⟩
theorem ai.arg {f:FuncId}{args args':List PV}{r:PV}{objs':List Obj}(h:ai P f args [] r objs') (hl:args'.length=args.length) (ht:∀ (i:Nat) (p q:PV),args'[i]?=some p→args[i]?=some q→nE p q):ai P f args' [] r objs':=by
 refine ⟨h.1,fun w blk vs base hb R ha=>h.2 w blk vs base hb R ⟨by rw [← hl];exact ha.1,fun i q v hq hv=>?_⟩⟩
 have hi:i<args'.length:=by rw [hl];exact (List.getElem?_eq_some_iff.1 hq).1
 exact .aJ (ht i _ q (List.getElem?_eq_getElem hi) hq _ _ _ (wQ (ha.2 i _ v (List.getElem?_eq_getElem hi) hv)))
theorem aP.acV {f:FuncId}{n t u:Nat}{ty:TypeId}{C:LC}{args:List PV}{r:PV}(h:aP P f n [.cell t ty,.tmp u] C) (d:Nat) (hD:∀ t,iN P t (D t)) (hT:FB P none rV T) (hm:P.follows .mixedOrders=true) (ht:t<n) (hu:u<n)
  (hw:∀ Q:Exit→St→Prop,(∀ l ob,Q .ret ⟨dI n l,ob⟩=fq (D ty) (l_ l t) ob fun p _ _=>r=.b_ [gQ d 0 ob p,gQ d 0 ob (l_ l u)])→kW P D T C Q (bV args n)):ai P f args [] r []:=by
 refine h.pure d hD hT hm (by simp) (hw _ fun l ob=>?_)
 simp only [nk,jI,rW.2.1 n l t ht,rW.2.1 n l u hu,List.map_cons,List.map_nil,fw]
structure ad8 (d t:Nat) (o':Obj) (S:St):Prop where
 h:RD d t o' .ret S
theorem acW {d t n:Nat}{o':Obj}{l:List (Nat×PV)}{ob:List Obj}{k ver:Nat}{o:Obj}(h1:(dI n l).getD t .dead=.bG k ver) (h2:ob[k]?=some o) (h3:o.live=true) (h4:o.ver=ver) (h5:{ fE d (k+1) ob o with ver:=0 }=o') (h6:eX [o']):ad8 d t o' ⟨dI n l,ob⟩:=
 ⟨.inr rfl,_,k,ver,o,Weak.refl _ _,h1,h2,h3,h4,h5,h6⟩
theorem aP.abV {f:FuncId}{n t:Nat}{C:LC}{args:List PV}{o':Obj}(h:aP P f n [.tmp t] C) (d:Nat) (hD:∀ t,iN P t (D t)) (hT:FB P none rV T) (hm:P.follows .mixedOrders=true)
  (hw:∀ Q:Exit→St→Prop,(∀ l ob,Q .ret ⟨dI n l,ob⟩=ad8 d t o' ⟨dI n l,ob⟩)→kW P D T C Q (bV args n)):ai P f args [] (.bG 0 0) [o']:=
 h.made d hD hT hm (hw _ fun l ob=>propext ⟨fun h=>⟨h⟩,fun h=>h.h⟩)
structure afO (D:TypeId→aD) (d:Nat) (rs:List ResultVar) (qs:List PV) (o':Obj) (S:St):Prop where
 h:aaI D d rs qs o' .ret S
theorem V7 {base ak:Nat→Prop}{w':World}{au:Nat→Option Nat}{o:Obj}{v:Value}(h2:dG base ak [o] au w') (h3:bD w' (bR base [o] au) [o] au (.bG 0 0) v) (hb:∀ b,¬ ak b→base b) (hl:o.live=true) (hv:o.ver=0) (hn:eX [o]) :
  dz w' (bR base [] au) (.sl o.sz o.xs none) v:=by
 obtain ⟨_,o1,g1,_,g3⟩:=h3
 cases g1
 obtain ⟨hM,hh⟩:=g3 hl hv
 have ho:=h2.ob 0 o rfl hl
 unfold yJ at hh
 unfold cK at ho
 cases hg:au 0 with
 | none=>rw [hg] at hh;rw [hh.1,hh.2];exact .slnil _ _ (by decide)
 | some g=>
  rw [hg] at hh ho
  obtain ⟨cap,c,rfl,x1,x2,x3,x4⟩:=hh
  obtain ⟨c',y1,y2,y3⟩:=ho
  rw [lF hM] at y1
  rw [x1] at y1;cases y1
  have hgb:base g:=hb g (h2.np 0 o g rfl hl hg)
  refine .sl o.sz o.xs none (by decide) g 0 cap (fun i j=>(c[i*o.sz+j]?).getD undef) (fun _=>⟨⟨hgb,dQ _ _⟩,(Array.getElem?_eq_some_iff.1 x1).1⟩) x2 x3 (fun i x hx=>(y3 i x hx).1) ?_ ?_
  · intro i x j p hx hp
    obtain ⟨u,u1,_⟩:=(y3 i x hx).2 j p hp
    simp [World.cell?,x1,u1]
  · intro i x j p hx hp
    obtain ⟨u,u1,u2⟩:=(y3 i x hx).2 j p hp
    rw [u1,Option.getD_some]
    exact (u2.Ay (hn o (by simp) x (List.mem_of_getElem? hx) p (List.mem_of_getElem? hp))).o8 fun b _ hb=>⟨hb.1,dQ _ _⟩
theorem YR {base:Nat→Prop}{w:World}{blk:Nat→Option Nat}(hb:rO.holds w.heap∧∀ b,w.heap.size≤b→base b) (b:Nat) (h:¬ (b<w.heap.size∧aY [] blk b)):base b:=
 hb.2 b (Nat.not_lt.1 fun q=>h ⟨q,dQ _ _⟩)
theorem ai.froze {f:FuncId}{args:List PV}{o:Obj}(h:ai P f args [] (.bG 0 0) [o]) (hl:o.live=true) (hv:o.ver=0) (hn:eX [o]):ai P f args [] (.sl o.sz o.xs none) []:=by
 refine ⟨h.1,fun w blk vs base hb R ha=>(h.2 w blk vs base hb R ha).mono ?_⟩
 rintro e w' ⟨v,au,h1,h2,h3,h4⟩
 exact ⟨v,au,h1,uO _ _ _ _,.aJ (V7 h2 h3 (YR hb) hl hv hn),h4⟩
@[congr] theorem abW {s t:TypeId}{x x':PV}{objs objs':List Obj}{K:KT}(h:x=x') (ho:objs=objs'):kD D s t x objs K=kD D s t x' objs' K:=by rw [h,ho]
@[congr] theorem V8 {x x':PV}{objs objs':List Obj}{K:KT}(h:x=x') (ho:objs=objs'):dK x objs K=dK x' objs' K:=by rw [h,ho]
end Lp
namespace Lp
open Go Go.Proofs
def bX (a:fQ):PV:=.agg [.int .i64 a.n,.int .i64 a.c.kind,.int .i64 a.c.many,.str a.c.name,.str a.c.s,.bool a.c.neg,.int .i64 a.c.e]
def bf (l:List fQ):PV:=.sl 7 (l.map bX) none
theorem hA:∀ l,bf l=.sl 7 (l.map bX) none:=fun _=>rfl
theorem xg:∀ a b,bX a=bX b→a=b:=by
 intro a b h
 obtain ⟨an,⟨a1,a2,a3,a4,a5,a6⟩⟩:=a
 obtain ⟨bn,⟨b1,b2,b3,b4,b5,b6⟩⟩:=b
 simp only [bX,PV.agg.injEq,List.cons.injEq,PV.int.injEq,PV.str.injEq,PV.bool.injEq,true_and,and_true] at h
 obtain ⟨rfl,rfl,rfl,rfl,rfl,rfl,rfl⟩:=h
 rfl
theorem xY:∀ a b,bf a=bf b→a=b:=nX hA xg
theorem abX (objs:List Obj) (K:KT) :
  (∀ a,aK D 29 (.addr (bX a)) 0 objs K=K (.addr (.int .i64 a.n)) objs 0)∧
  (∀ a,aK D 29 (.addr (bX a)) 1 objs K=K (.addr (ay a.c)) objs 0):=by
 refine ⟨fun n=>?_,fun n=>?_⟩
 all_goals
  simp only [bX,ay,aK,d9,bM,↓LD,I7,uS,rq,FH,II,ne_eq,reduceCtorEq,not_false_eq_true,true_and,Bool.not_false,Bool.and_self,Nat.reduceAdd,Nat.reduceLeDiff,forall_const,false_implies]
theorem abY :
  (∀ a,(bX a).cells=[.int .i64 a.n,.int .i64 a.c.kind,.int .i64 a.c.many,.str a.c.name,.str a.c.s,.bool a.c.neg,.int .i64 a.c.e])∧
  (∀ n,(bX n).isAgg=true)∧(∀ n,(bX n).pure=true)∧(∀ d m O n,eY d m O (bX n)=bX n)∧(∀ d m O n,gQ d m O (bX n)=bX n):=
 ⟨fun _=>rfl,fun _=>rfl,fun _=>rfl,fun _ _ _ _=>rfl,fun _ _ _ _=>rfl⟩
theorem abZ (a:fQ):(∀ x,(bX a).putCells 0 [.int .i64 x]=bX { a with n:=x })∧(∀ b:fQ,(bX a).putCells 0 [.int .i64 b.n,.int .i64 b.c.kind,.int .i64 b.c.many,.str b.c.name,.str b.c.s,.bool b.c.neg,.int .i64 b.c.e]=bX b):=
 ⟨fun _=>rfl,fun _=>rfl⟩
theorem ab0 (objs:List Obj) (K:KT) :
  (∀ k n,bF D 29 [(0,.int .i64 k),(1,ay n)] objs K=K (bX ⟨k,n⟩) objs 0)∧
  (∀ n,bF D 29 [(1,ay n)] objs K=K (bX ⟨0,n⟩) objs 0)∧
  (bF D 27 [] objs K=K (ay ⟨0,0,[],[],false,0⟩) objs 0):=by
 have z:aI (D 29)=bX ⟨0,⟨0,0,[],[],false,0⟩⟩:=by kernel_rfl
 have a:(D 29).agg=true:=by kernel_rfl
 have z2:aI (D 27)=ay ⟨0,0,[],[],false,0⟩:=by kernel_rfl
 have a2:(D 27).agg=true:=by kernel_rfl
 simp only [bM] at z a z2 a2
 refine ⟨fun k n=>?_,fun n=>?_,?_⟩
 all_goals
  simp [bF,lJ,a,z,a2,z2,bM,mr,ay,bX,PV.isAgg,qi,PV.cells,PV.storable,PV.lV,PV.pure]
theorem inA:vP bX:=by intro d n o x;cases d <;> rfl
theorem ab1 :
  (∀ a0,PV.sl 7 [bX a0] none=bf [a0])∧(∀ a0 a1,PV.sl 7 [bX a0,bX a1] none=bf [a0,a1]):=
 ⟨fun _=>rfl,fun _ _=>rfl⟩
theorem ad9:type_of% (jO hA)∧type_of% (aQ xg)∧type_of% (aQ xY):=⟨jO hA,aQ xg,aQ xY⟩
theorem ab2 :
  type_of% (abX)∧type_of% (abY)∧type_of% (abZ)∧type_of% (ab0)∧type_of% (ab1)∧
  type_of% (sV hA)∧type_of% (jO hA)∧type_of% (sW hA)∧type_of% (aQ xg)∧type_of% (aQ xY)∧type_of% (iZ hA inA)∧
  type_of% (rX (enc:=bX) (sz:=7) (fun _=>rfl) (fun _=>rfl))∧
  type_of% (fun (l:List fQ) (k:Nat)=>Kw (bf l) rfl k):=
 ⟨abX,abY,abZ,ab0,ab1,sV hA,jO hA,sW hA,aQ xg,aQ xY,iZ hA inA,rX (enc:=bX) (sz:=7) (fun _=>rfl) (fun _=>rfl),fun (l:List fQ) (k:Nat)=>Kw (bf l) rfl k⟩
theorem aT:type_of% @aV∧type_of% @ad9:=⟨@aV,@ad9⟩
theorem aU:type_of% @aW∧type_of% @ab2:=⟨@aW,@ab2⟩
theorem OL (x:fQ):eY 1 0 [⟨29,7,[bX x],true,1⟩] (.bI 0 1 0 0)=.addr (bX x):=rfl
theorem YS (x:fQ) (y:Nd):eY 1 0 [⟨29,7,[bX x],true,1⟩,⟨27,6,[ay y],true,1⟩] (.bI 0 1 0 0)=.addr (bX x):=rfl
theorem YU (x:fQ) (y:Nd):eY 1 0 [⟨29,7,[bX x],true,1⟩,⟨27,6,[ay y],true,1⟩] (.bI 1 1 0 0)=.addr (ay y):=rfl
end Lp
namespace Lp
open Go Go.Proofs
def aL (t:dY):PV:=.agg [.int .i64 t.kind,.int .i64 t.many,.str t.name,.str t.s,.int .i64 t.n,.int .i64 t.c.kind,.int .i64 t.c.many,.str t.c.name,.str t.c.s,.bool t.c.neg,.int .i64 t.c.e]
def aA (l:aC):PV:=.sl 11 (l.map aL) none
def dm (l:List aC):PV:=.sl 1 (l.map aA) none
def encS (s:Stp):PV:=.agg [.bool s.part,.str s.name,.int .i64 s.n]
def gL (l:List Stp):PV:=.sl 3 (l.map encS) none
theorem hTy:∀ l,aA l=.sl 11 (l.map aL) none:=fun _=>rfl
theorem hTs:∀ l,dm l=.sl 1 (l.map aA) none:=fun _=>rfl
theorem hPa:∀ l,gL l=.sl 3 (l.map encS) none:=fun _=>rfl
theorem oJ:∀ a b,aL a=aL b→a=b:=by
 intro a b h
 obtain ⟨k,m,nm,s,n,⟨a1,a2,a3,a4,a5,a6⟩⟩:=a
 obtain ⟨k',m',LP,s',n',⟨b1,b2,b3,b4,b5,b6⟩⟩:=b
 simp only [aL,PV.agg.injEq,List.cons.injEq,PV.int.injEq,PV.str.injEq,PV.bool.injEq,true_and,and_true] at h
 obtain ⟨rfl,rfl,rfl,rfl,rfl,rfl,rfl,rfl,rfl,rfl,rfl⟩:=h
 rfl
theorem xh:∀ a b,encS a=encS b→a=b:=by
 intro a b h
 cases a;cases b
 simp only [encS,PV.agg.injEq,List.cons.injEq,PV.int.injEq,PV.str.injEq,PV.bool.injEq,true_and,and_true] at h
 obtain ⟨rfl,rfl,rfl⟩:=h
 rfl
theorem tu:∀ a b,aA a=aA b→a=b:=nX hTy oJ
theorem xZ:∀ a b,dm a=dm b→a=b:=nX hTs tu
theorem tC:∀ a b,gL a=gL b→a=b:=nX hPa xh
theorem ad_ (objs:List Obj) (K:KT) :
  (∀ t,aK D 51 (.addr (aL t)) 0 objs K=K (.addr (.int .i64 t.kind)) objs 0)∧
  (∀ t,aK D 51 (.addr (aL t)) 1 objs K=K (.addr (.int .i64 t.many)) objs 0)∧
  (∀ t,aK D 51 (.addr (aL t)) 2 objs K=K (.addr (.str t.name)) objs 0)∧
  (∀ t,aK D 51 (.addr (aL t)) 3 objs K=K (.addr (.str t.s)) objs 0)∧
  (∀ t,aK D 51 (.addr (aL t)) 4 objs K=K (.addr (.int .i64 t.n)) objs 0)∧
  (∀ t,aK D 51 (.addr (aL t)) 5 objs K=K (.addr (ay t.c)) objs 0)∧
  (∀ s,aK D 61 (.addr (encS s)) 0 objs K=K (.addr (.bool s.part)) objs 0)∧
  (∀ s,aK D 61 (.addr (encS s)) 1 objs K=K (.addr (.str s.name)) objs 0)∧
  (∀ s,aK D 61 (.addr (encS s)) 2 objs K=K (.addr (.int .i64 s.n)) objs 0):=by
 refine ⟨fun n=>?_,fun n=>?_,fun n=>?_,fun n=>?_,fun n=>?_,fun n=>?_,fun n=>?_,fun n=>?_,fun n=>?_⟩
 all_goals
  simp only [aL,encS,ay,aK,d9,bM,↓LD,I7,uS,rq,FH,II,ne_eq,reduceCtorEq,not_false_eq_true,true_and,Bool.not_false,Bool.and_self,Nat.reduceAdd,Nat.reduceLeDiff,forall_const,false_implies]
theorem aea :
  (∀ t,(aL t).cells=[.int .i64 t.kind,.int .i64 t.many,.str t.name,.str t.s,.int .i64 t.n,.int .i64 t.c.kind,.int .i64 t.c.many,.str t.c.name,.str t.c.s,.bool t.c.neg,.int .i64 t.c.e])∧
  (∀ n,(aL n).isAgg=true)∧(∀ n,(aL n).pure=true)∧(∀ d m O n,eY d m O (aL n)=aL n)∧(∀ d m O n,gQ d m O (aL n)=aL n)∧
  (∀ s,(encS s).cells=[.bool s.part,.str s.name,.int .i64 s.n])∧
  (∀ n,(encS n).isAgg=true)∧(∀ n,(encS n).pure=true)∧(∀ d m O n,eY d m O (encS n)=encS n)∧(∀ d m O n,gQ d m O (encS n)=encS n):=
 ⟨fun _=>rfl,fun _=>rfl,fun _=>rfl,fun _ _ _ _=>rfl,fun _ _ _ _=>rfl,fun _=>rfl,fun _=>rfl,fun _=>rfl,fun _ _ _ _=>rfl,fun _ _ _ _=>rfl⟩
theorem aeb (a:dY) :
  (∀ x,(aL a).putCells 0 [.int .i64 x]=aL { a with kind:=x })∧(∀ x,(aL a).putCells 1 [.int .i64 x]=aL { a with many:=x })∧
  (∀ x,(aL a).putCells 2 [.str x]=aL { a with name:=x })∧(∀ x,(aL a).putCells 3 [.str x]=aL { a with s:=x })∧(∀ x,(aL a).putCells 4 [.int .i64 x]=aL { a with n:=x })∧
  (∀ c:Nd,(aL a).putCells 5 [.int .i64 c.kind,.int .i64 c.many,.str c.name,.str c.s,.bool c.neg,.int .i64 c.e]=aL { a with c:=c })∧
  (∀ t:dY,(aL a).putCells 0 [.int .i64 t.kind,.int .i64 t.many,.str t.name,.str t.s,.int .i64 t.n,.int .i64 t.c.kind,.int .i64 t.c.many,.str t.c.name,.str t.c.s,.bool t.c.neg,.int .i64 t.c.e]=aL t):=
 ⟨fun _=>rfl,fun _=>rfl,fun _=>rfl,fun _=>rfl,fun _=>rfl,fun _=>rfl,fun _=>rfl⟩
theorem acX (a b:dY):yK (aL a).cells (aL b).cells=some (decide (a=b)):=by
 obtain ⟨k,m,nm,s,n,⟨a1,a2,a3,a4,a5,a6⟩⟩:=a
 obtain ⟨k',m',LP,s',n',⟨b1,b2,b3,b4,b5,b6⟩⟩:=b
 simp only [aL,PV.cells,yK,eqS,if_true,Bool.and_true,dY.mk.injEq,Nd.mk.injEq,Option.some.injEq]
 rw [Bool.eq_iff_iff]
 simp [and_assoc]
theorem inY:vP aL:=by intro d n o x;cases d <;> rfl
theorem aec:vP aA:=by intro d n o x;cases d <;> rfl
theorem aed:vP encS:=by intro d n o x;cases d <;> rfl
theorem ab3 :
  (∀ a0,PV.sl 11 [aL a0] none=aA [a0])∧(∀ a0 a1,PV.sl 11 [aL a0,aL a1] none=aA [a0,a1])∧
  (∀ a0,PV.sl 1 [aA a0] none=dm [a0])∧(∀ a0 a1,PV.sl 1 [aA a0,aA a1] none=dm [a0,a1])∧
  (∀ a0,PV.sl 3 [encS a0] none=gL [a0]):=
 ⟨fun _=>rfl,fun _ _=>rfl,fun _=>rfl,fun _ _=>rfl,fun _=>rfl⟩
theorem aee:type_of% (jO hTy)∧type_of% (jO hTs)∧type_of% (jO hPa)∧type_of% (aQ oJ)∧type_of% (aQ tu)∧type_of% (aQ xZ)∧type_of% (aQ xh)∧type_of% (aQ tC):=
 ⟨jO hTy,jO hTs,jO hPa,aQ oJ,aQ tu,aQ xZ,aQ xh,aQ tC⟩
theorem ab4 :
  type_of% (ad_)∧type_of% (aea)∧type_of% (aeb)∧type_of% (ab3)∧
  type_of% (sV hTy)∧type_of% (sV hTs)∧type_of% (sV hPa)∧type_of% (jO hTy)∧type_of% (jO hTs)∧type_of% (jO hPa)∧type_of% (sW hTy)∧type_of% (sW hTs)∧type_of% (sW hPa)∧
  type_of% (aQ oJ)∧type_of% (aQ tu)∧type_of% (aQ xZ)∧type_of% (aQ xh)∧type_of% (aQ tC)∧
  type_of% (iZ hTy inY)∧type_of% (iZ hTs aec)∧type_of% (iZ hPa aed)∧
  type_of% (rX (enc:=aL) (sz:=11) (fun _=>rfl) (fun _=>rfl))∧type_of% (rX (enc:=aA) (sz:=1) (fun _=>rfl) (fun _=>rfl))∧type_of% (rX (enc:=encS) (sz:=3) (fun _=>rfl) (fun _=>rfl))∧
  type_of% (fun (l:aC) (k:Nat)=>Kw (aA l) rfl k)∧type_of% (fun (l:List aC) (k:Nat)=>Kw (dm l) rfl k)∧type_of% (fun (l:List Stp) (k:Nat)=>Kw (gL l) rfl k):=
 ⟨ad_,aea,aeb,ab3,sV hTy,sV hTs,sV hPa,jO hTy,jO hTs,jO hPa,sW hTy,sW hTs,sW hPa,aQ oJ,aQ tu,aQ xZ,aQ xh,aQ tC,iZ hTy inY,iZ hTs aec,iZ hPa aed,
  rX (enc:=aL) (sz:=11) (fun _=>rfl) (fun _=>rfl),rX (enc:=aA) (sz:=1) (fun _=>rfl) (fun _=>rfl),rX (enc:=encS) (sz:=3) (fun _=>rfl) (fun _=>rfl),fun (l:aC) (k:Nat)=>Kw (aA l) rfl k,fun (l:List aC) (k:Nat)=>Kw (dm l) rfl k,fun (l:List Stp) (k:Nat)=>Kw (gL l) rfl k⟩
theorem av:type_of% @aT∧type_of% @aee:=⟨@aT,@aee⟩
theorem ax:type_of% @aU∧type_of% @ab4:=⟨@aU,@ab4⟩
end Lp
namespace Lp
open Go Go.Proofs
end Lp
namespace Lp
open Go Go.Proofs
theorem Bq:aP Tryz.prog 119 49 [.tmp 2] (gen [] [(9,none)] [] Tryz.f119):=bB Tryz.func119 rfl (by kernel_rfl)
theorem xk:aP Tryz.prog 122 63 [.tmp 4,.tmp 5] (gen [] [(195,none)] [] Tryz.f122):=bB Tryz.func122 rfl (by kernel_rfl)
theorem Du:aP Tryz.prog 153 7 [.tmp 2] (gen [] [] [] Tryz.f153):=bB Tryz.func153 rfl (by kernel_rfl)
theorem xq:aP Tryz.prog 130 33 [.tmp 2] (gen [31] [] [] Tryz.f130):=bB Tryz.func130 rfl (by kernel_rfl)
theorem z8:aP Tryz.prog 121 19 [.tmp 2] (gen [] [(25,none)] [] Tryz.f121):=bB Tryz.func121 rfl (by kernel_rfl)
theorem Br:aP Tryz.prog 175 77 [.tmp 4] (gen [] [(99,none)] [] Tryz.f175):=bB Tryz.func175 rfl (by kernel_rfl)
theorem Dv:aP Tryz.prog 176 58 [.tmp 2] (gen [7,19,36,56] [] [] Tryz.f176):=bB Tryz.func176 rfl (by kernel_rfl)
theorem yT:aP Tryz.prog 152 74 [.tmp 4,.tmp 5] (gen [] [(451,none)] [] Tryz.f152):=bB Tryz.func152 rfl (by kernel_rfl)
theorem z_:aP Tryz.prog 129 26 [.tmp 4,.tmp 5] (gen [] [] [] Tryz.f129):=bB Tryz.func129 rfl (by kernel_rfl)
theorem xu:aP Tryz.prog 120 50 [.tmp 2,.tmp 3,.tmp 4] (gen [] [(97,none)] [] Tryz.f120):=bB Tryz.func120 rfl (by kernel_rfl)
def bN:LC:=
 (.seq (.seq (.reg [⟨some 43,.move (.tmp 9),none,false⟩,
  ⟨some 44,.move (.tmp 1),none,false⟩,
  ⟨some 45,.binOp .gtr 3 (.tmp 43) (.tmp 44) 3,none,false⟩])
  (.cond (.tmp 45)
   (.seq (.reg [⟨some 46,.move (.tmp 0),none,false⟩,
    ⟨some 47,.move (.tmp 1),none,false⟩,
    ⟨some 48,.move (.tmp 9),none,false⟩,
    ⟨some 49,.slice 9 (.tmp 46) (some (.tmp 47)) (some (.tmp 48)) none,none,false⟩,
    ⟨some 50,.build 61 ⟨[(1,(.tmp 49))]⟩,none,false⟩,
    ⟨some 51,.move (.tmp 9),none,false⟩,
    ⟨none,.store 61 (.tmp 6) (.tmp 50),none,false⟩,
    ⟨some 7,.assign (.tmp 51),none,false⟩])
   .ret)
   .skip))
  (.seq (.reg [⟨some 53,.move (.tmp 0),none,false⟩,
   ⟨some 54,.move (.tmp 1),none,false⟩,
   ⟨some 55,.slice 9 (.tmp 53) (some (.tmp 54)) none none,none,false⟩,
   ⟨some 56,.call ⟨.value (.func 120),⟨[(.tmp 55)]⟩,⟨[9]⟩⟩,none,false⟩,
   ⟨some 52,.move (.tmp 56),none,false⟩,
   ⟨some 57,.extract (.tmp 52) 0,none,false⟩,
   ⟨some 58,.extract (.tmp 52) 1,none,false⟩,
   ⟨some 59,.extract (.tmp 52) 2,none,false⟩,
   ⟨some 10,.assign (.tmp 57),none,false⟩,
   ⟨some 11,.assign (.tmp 58),none,false⟩,
   ⟨some 12,.assign (.tmp 59),none,false⟩])
  (.seq (.seq (.draw [⟨some 60,.move (.tmp 12),none,false⟩,
   ⟨some 61,.binOp .eql 34 (.tmp 60) (.const (.int .i64 0)) 34,none,false⟩,
   ⟨some 62,.move (.tmp 61),none,false⟩,
   ⟨some 63,.move (.tmp 10),some (some 62,true),false⟩,
   ⟨some 64,.call ⟨.value (.func 119),⟨[(.tmp 63)]⟩,⟨[9]⟩⟩,some (some 62,true),false⟩,
   ⟨some 65,.unOp .not 4 (.tmp 64),some (some 62,true),false⟩,
   ⟨some 66,.pick (.tmp 62) (.tmp 65) (.const (.bool false)),none,false⟩,
   ⟨some 67,.move (.tmp 66),none,false⟩,
   ⟨some 68,.move (.tmp 10),some (some 67,true),false⟩,
   ⟨some 69,.call ⟨.value (.func 121),⟨[(.tmp 68)]⟩,⟨[9]⟩⟩,some (some 67,true),false⟩,
   ⟨some 70,.move (.tmp 0),some (some 67,true),false⟩,
   ⟨some 71,.move (.tmp 1),some (some 67,true),false⟩,
   ⟨some 72,.move (.tmp 1),some (some 67,true),false⟩,
   ⟨some 73,.move (.tmp 11),some (some 67,true),false⟩,
   ⟨some 74,.binOp .add 3 (.tmp 72) (.tmp 73) 3,some (some 67,true),false⟩,
   ⟨some 75,.slice 9 (.tmp 70) (some (.tmp 71)) (some (.tmp 74)) none,some (some 67,true),false⟩,
   ⟨some 76,.binOp .eql 9 (.tmp 69) (.tmp 75) 9,some (some 67,true),false⟩,
   ⟨some 77,.pick (.tmp 67) (.tmp 76) (.const (.bool false)),none,false⟩]
  [0,0,0,0,0,0,0,0,0,0,768,1792,3840,7936,3840,768,0,0])
  (.cond (.tmp 77)
   (.seq (.reg [⟨some 78,.move (.tmp 10),none,false⟩,
    ⟨some 79,.build 61 ⟨[(1,(.tmp 78))]⟩,none,false⟩,
    ⟨some 80,.move (.tmp 1),none,false⟩,
    ⟨some 81,.move (.tmp 11),none,false⟩,
    ⟨some 82,.binOp .add 3 (.tmp 80) (.tmp 81) 3,none,false⟩,
    ⟨none,.store 61 (.tmp 6) (.tmp 79),none,false⟩,
    ⟨some 7,.assign (.tmp 82),none,false⟩])
   .ret)
   .skip))
  (.seq (.reg [⟨some 83,.move (.tmp 2),none,false⟩,
   ⟨some 84,.unOp .not 4 (.tmp 83),none,false⟩])
  (.cond (.tmp 84)
   (.seq (.reg [⟨some 85,.build 61 ⟨[]⟩,none,false⟩,
    ⟨some 86,.move (.tmp 8),none,false⟩,
    ⟨none,.store 61 (.tmp 6) (.tmp 85),none,false⟩,
    ⟨some 7,.assign (.tmp 86),none,false⟩])
   .ret)
   .skip)))))
def bU:LC:=
 (.seq (.seq (.reg [⟨some 90,.move (.tmp 1),none,false⟩,
  ⟨some 91,.move (.tmp 0),none,false⟩,
  ⟨some 92,.call ⟨.builtin .len,⟨[(.tmp 91)]⟩,⟨[9]⟩⟩,none,false⟩,
  ⟨some 93,.binOp .geq 3 (.tmp 90) (.tmp 92) 3,none,false⟩,
  ⟨some 94,.move (.tmp 93),none,false⟩,
  ⟨some 95,.move (.tmp 0),some (some 94,false),false⟩,
  ⟨some 96,.move (.tmp 1),some (some 94,false),false⟩,
  ⟨some 97,.index 9 (.tmp 95) (.tmp 96),some (some 94,false),false⟩,
  ⟨some 98,.binOp .neq 5 (.tmp 97) (.const (.int .u8 91)) 5,some (some 94,false),false⟩,
  ⟨some 99,.pick (.tmp 94) (.const (.bool true)) (.tmp 98),none,false⟩])
 (.cond (.tmp 99)
  (.seq (.reg [⟨some 100,.build 61 ⟨[]⟩,none,false⟩,
   ⟨some 101,.move (.tmp 8),none,false⟩,
   ⟨none,.store 61 (.tmp 6) (.tmp 100),none,false⟩,
   ⟨some 7,.assign (.tmp 101),none,false⟩])
  .ret)
  .skip))
 (.seq (.reg [⟨some 103,.move (.tmp 0),none,false⟩,
  ⟨some 104,.move (.tmp 1),none,false⟩,
  ⟨some 105,.binOp .add 3 (.tmp 104) (.const (.int .i64 1)) 3,none,false⟩,
  ⟨some 106,.call ⟨.value (.func 122),⟨[(.tmp 103),(.tmp 105)]⟩,⟨[9,3]⟩⟩,none,false⟩,
  ⟨some 102,.move (.tmp 106),none,false⟩,
  ⟨some 107,.extract (.tmp 102) 0,none,false⟩,
  ⟨some 108,.extract (.tmp 102) 1,none,false⟩,
  ⟨some 13,.assign (.tmp 107),none,false⟩,
  ⟨some 14,.assign (.tmp 108),none,false⟩])
 (.seq (.seq (.reg [⟨some 109,.move (.tmp 13),none,false⟩,
  ⟨some 110,.binOp .lss 3 (.tmp 109) (.const (.int .i64 0)) 3,none,false⟩,
  ⟨some 111,.move (.tmp 110),none,false⟩,
  ⟨some 112,.move (.tmp 14),some (some 111,false),false⟩,
  ⟨some 113,.move (.tmp 0),some (some 111,false),false⟩,
  ⟨some 114,.call ⟨.builtin .len,⟨[(.tmp 113)]⟩,⟨[9]⟩⟩,some (some 111,false),false⟩,
  ⟨some 115,.binOp .geq 3 (.tmp 112) (.tmp 114) 3,some (some 111,false),false⟩,
  ⟨some 116,.pick (.tmp 111) (.const (.bool true)) (.tmp 115),none,false⟩,
  ⟨some 117,.move (.tmp 116),none,false⟩,
  ⟨some 118,.move (.tmp 0),some (some 117,false),false⟩,
  ⟨some 119,.move (.tmp 14),some (some 117,false),false⟩,
  ⟨some 120,.index 9 (.tmp 118) (.tmp 119),some (some 117,false),false⟩,
  ⟨some 121,.binOp .neq 5 (.tmp 120) (.const (.int .u8 93)) 5,some (some 117,false),false⟩,
  ⟨some 122,.pick (.tmp 117) (.const (.bool true)) (.tmp 121),none,false⟩])
 (.cond (.tmp 122)
  (.seq (.reg [⟨some 123,.build 61 ⟨[]⟩,none,false⟩,
   ⟨some 124,.move (.tmp 8),none,false⟩,
   ⟨none,.store 61 (.tmp 6) (.tmp 123),none,false⟩,
   ⟨some 7,.assign (.tmp 124),none,false⟩])
  .ret)
  .skip))
 (.seq (.reg [⟨some 125,.move (.tmp 13),none,false⟩,
  ⟨some 126,.build 61 ⟨[(0,(.const (.bool true))),(2,(.tmp 125))]⟩,none,false⟩,
  ⟨some 127,.move (.tmp 14),none,false⟩,
  ⟨some 128,.binOp .add 3 (.tmp 127) (.const (.int .i64 1)) 3,none,false⟩,
  ⟨none,.store 61 (.tmp 6) (.tmp 126),none,false⟩,
  ⟨some 7,.assign (.tmp 128),none,false⟩])
 .ret))))
def gu:LC:=
 (.seq (.reg [⟨some 6,.alloc 61,none,false⟩,
  ⟨some 7,.assign (.const (.int .i64 0)),none,false⟩])
 (.seq (.reg [⟨some 15,.move (.tmp 1),none,false⟩,
  ⟨some 8,.assign (.tmp 15),none,false⟩])
 (.seq (.seq (.reg [⟨some 16,.move (.tmp 1),none,false⟩,
  ⟨some 17,.move (.tmp 0),none,false⟩,
  ⟨some 18,.call ⟨.builtin .len,⟨[(.tmp 17)]⟩,⟨[9]⟩⟩,none,false⟩,
  ⟨some 19,.binOp .lss 3 (.tmp 16) (.tmp 18) 3,none,false⟩,
  ⟨some 20,.move (.tmp 19),none,false⟩,
  ⟨some 21,.move (.tmp 0),some (some 20,true),false⟩,
  ⟨some 22,.move (.tmp 1),some (some 20,true),false⟩,
  ⟨some 23,.index 9 (.tmp 21) (.tmp 22),some (some 20,true),false⟩,
  ⟨some 24,.binOp .eql 5 (.tmp 23) (.const (.int .u8 46)) 5,some (some 20,true),false⟩,
  ⟨some 25,.pick (.tmp 20) (.tmp 24) (.const (.bool false)),none,false⟩])
 (.cond (.tmp 25)
  (.seq (.reg [⟨some 26,.move (.tmp 1),none,false⟩,
   ⟨some 27,.binOp .add 3 (.tmp 26) (.const (.int .i64 1)) 3,none,false⟩,
   ⟨some 1,.assign (.tmp 27),none,false⟩])
  (.seq (.reg [⟨some 28,.move (.tmp 1),none,false⟩,
   ⟨some 9,.assign (.tmp 28),none,false⟩])
  (.seq (.block 0 (.loop [true,true,true,false,false,false,true,false,true,true,false,false,false,false,false,false,false,false,false,false,false,false,false,false,false,false,false,false,false,false,false,false,false,false,false,false,false,false,false,false,false,false,false,false,false,false,false,false,false,false,false,false,false,false,false,false,false,false,false,false,false,false,false,false,false,false,false,false,false,false,false,false,false,false,false,false,false,false,false,false,false,false,false,false,false,false,false,false,false,false,false,false,false,false,false,false,false,false,false,false,false,false,false,false,false,false,false,false,false,false,false,false,false,false,false,false,false,false,false,false,false,false,false,false,false,false,false,false,false] none
   (.seq (.seq (.reg [⟨some 29,.move (.tmp 9),none,false⟩,
    ⟨some 30,.move (.tmp 0),none,false⟩,
    ⟨some 31,.call ⟨.builtin .len,⟨[(.tmp 30)]⟩,⟨[9]⟩⟩,none,false⟩,
    ⟨some 32,.binOp .lss 3 (.tmp 29) (.tmp 31) 3,none,false⟩,
    ⟨some 33,.move (.tmp 32),none,false⟩,
    ⟨some 34,.move (.tmp 0),some (some 33,true),false⟩,
    ⟨some 35,.move (.tmp 1),some (some 33,true),false⟩,
    ⟨some 36,.move (.tmp 9),some (some 33,true),false⟩,
    ⟨some 37,.binOp .add 3 (.tmp 36) (.const (.int .i64 1)) 3,some (some 33,true),false⟩,
    ⟨some 38,.slice 9 (.tmp 34) (some (.tmp 35)) (some (.tmp 37)) none,some (some 33,true),false⟩,
    ⟨some 39,.call ⟨.value (.func 119),⟨[(.tmp 38)]⟩,⟨[9]⟩⟩,some (some 33,true),false⟩,
    ⟨some 40,.pick (.tmp 33) (.tmp 39) (.const (.bool false)),none,false⟩])
    (.cond (.tmp 40)
     .skip
     (.exit 0)))
    (.block 1 (.reg [⟨some 41,.move (.tmp 9),none,false⟩,
     ⟨some 42,.binOp .add 3 (.tmp 41) (.const (.int .i64 1)) 3,none,false⟩,
     ⟨some 9,.assign (.tmp 42),none,false⟩])))))
  bN)))
  (.seq (.reg [⟨some 87,.move (.tmp 2),none,false⟩])
  (.cond (.tmp 87)
   (.seq (.reg [⟨some 88,.build 61 ⟨[]⟩,none,false⟩,
    ⟨some 89,.move (.tmp 8),none,false⟩,
    ⟨none,.store 61 (.tmp 6) (.tmp 88),none,false⟩,
    ⟨some 7,.assign (.tmp 89),none,false⟩])
   .ret)
   .skip))))
 bU)))
theorem Bt:aP Tryz.prog 107 129 [.cell 6 61,.tmp 7] gu:=⟨_,_,Tryz.func107,by kernel_rfl,rfl,Tryz.ntmps107,rfl,by kernel_rfl⟩
theorem yU:aP Tryz.prog 96 52 [.tmp 4,.tmp 5] (gen [10] [(195,some (1,1))] [] Tryz.f96):=bB Tryz.func96 rfl (by kernel_rfl)
theorem Bu:aP Tryz.prog 66 24 [.tmp 2,.tmp 3,.tmp 4] (gen [] [] [] Tryz.f66):=bB Tryz.func66 rfl (by kernel_rfl)
theorem yV:aP Tryz.prog 67 15 [.tmp 2] (gen [] [(9,none)] [] Tryz.f67):=bB Tryz.func67 rfl (by kernel_rfl)
theorem Bv:aP Tryz.prog 34 20 [.tmp 2,.tmp 3] (gen [] [] [] Tryz.f34):=bB Tryz.func34 rfl (by kernel_rfl)
end Lp
namespace Lp
open Go Go.Proofs
theorem OM (v:Vl) (i c:Nat) (hv:v.length≤4611686018427387904) (h:skip (v.drop i) 1=some c):ai Tryz.prog 187 [aS v,.int .i64 i] [] (.int .i64 (i+c:Nat)) []:=by
 refine LG.pure (T:=aR Tryz.prog []) 0 hD (aj ah) a_ (by decide) ?_
 (conv=>arg 4;cbv);simp only [↓zO,El,↓Ba,↓yN,↓Bb,yO,↓mM,nk,jI,fw,Dk,Nat.reduceAdd,Nat.reduceSub,rq,bM,FD,FE,wS]
 refine aH (fun m S=>∃ (j k c':Nat),m=c'∧skip (v.drop j) k=some c'∧j+c'=i+c∧S=⟨mkT 19 [(0,aS v),(1,.int .i64 j),(5,.int .i64 k)],[]⟩) c ⟨i,1,c,rfl,h,rfl,?_⟩ ?_
 · simp only [Q9,aS,rq];rfl
 rintro m S ⟨j,k,c',rfl,hs,hj,rfl⟩
 simp only [↓zO,El,↓Ba,↓yN,↓Bb,yO,↓mM,nk,jI,fw,Dk,Nat.reduceAdd,Nat.reduceSub,rq,Q9,bM,aS,ay,FD,FE,wS,aZ,fq,aK,d9,↓zq,↓LD,I7,uS,FH,II,Bool.not_false,Bool.and_self,Nat.reduceLeDiff,forall_const,ne_eq,reduceCtorEq,not_false_eq_true,true_and,PV.bool.injEq,Int.toNat_natCast,Nat.zero_add,decide_eq_true_eq,List.length_cons,List.length_nil]
 refine ⟨fun hk=>?_,fun hk=>?_⟩
 · obtain ⟨k,rfl⟩:∃ k',k=k'+1:=⟨k-1,by omega⟩
   have hjl:j<v.length:=by
    rcases Nat.lt_or_ge j v.length with h' | h'
    · exact h'
    · rw [List.drop_eq_nil_of_le h'] at hs;simp [skip] at hs
   rw [List.drop_eq_getElem_cons hjl] at hs
   obtain ⟨hm,c'',rfl,hs'⟩:=dh hs
   have hle:=dZ _ _ _ hs'
   simp only [List.length_drop] at hle
   have hk2:((k+1:Nat):Int)+(v[j].many-1)=((k+v[j].many.toNat:Nat):Int):=by omega
   exact ⟨by omega,v[j],List.getElem?_eq_getElem hjl,by omega,by omega,by omega,c'',by omega,j+1,k+v[j].many.toNat,c'',rfl,hs',by omega,by rw [hk2];rfl⟩
 · rw [if_pos trivial]
   have hk0:k=0:=by have:=of_decide_eq_false hk;omega
   subst hk0
   have:m=0:=by cases hd:v.drop j <;> rw [hd] at hs <;> simp [skip] at hs <;> exact hs.symm
   subst this
   congr 1;omega
def qQ (v:Vl):Obj:=⟨27,6,v.map ay,true,0⟩
theorem xw (v:Vl):eX [qQ v]:=by
 intro o ho x hx p hp
 simp only [List.mem_singleton] at ho
 subst ho
 simp only [qQ,List.mem_map] at hx
 obtain ⟨n,_,rfl⟩:=hx
 simp only [ay,PV.cells,List.mem_cons,List.not_mem_nil,or_false] at hp
 rcases hp with rfl | rfl | rfl | rfl | rfl | rfl <;> rfl
theorem RN (n:Nd):(ay n).cells.length=6∧(ay n).cells.all PV.storable=true:=⟨rfl,rfl⟩
theorem YV (d n:Nat) (objs:List Obj) (v:Vl):(v.map ay).map (PV.bJ (eY d n objs))=v.map ay:=by
 rw [List.map_map]
 exact List.map_congr_left fun x _=>rfl
theorem V9:ai Tryz.prog 188 [.sl 6 [] (some true)] [] (.bG 0 0) [qQ []]:=by
 refine iR.made (T:=aR Tryz.prog []) 0 hD (aj ah) a_ ?_
 (conv=>arg 4;cbv);simp only [↓zO,El,↓Ba,↓yN,↓Bb,yO,↓mM,Em,Dk,Nat.reduceAdd,Nat.reduceSub,rq,Q9,bM,FD,FE,wS,dU,forall_const,reduceCtorEq,false_imp_iff,and_true,TK.slice.injEq,exists_eq',true_and]
 exact ⟨_,0,0,_,Weak.Eh 2 27 6 rfl,rfl,rfl,rfl,rfl,rfl,xw []⟩
theorem RO (v:Vl) (hv:v.length≤1099511627776):ai Tryz.prog 188 [.sl 6 (v.map ay) (some false)] [] (.bG 0 0) [qQ v]:=by
 refine iR.made (T:=aR Tryz.prog []) 0 hD (aj ah) a_ ?_
 (conv=>arg 4;cbv);simp only [↓zO,El,↓Ba,↓yN,↓Bb,yO,↓mM,Em,Dk,Nat.reduceAdd,Nat.reduceSub,rq,Q9,bM,FD,FE,wS,dU,forall_const,reduceCtorEq,false_imp_iff,and_true,TK.slice.injEq,exists_eq',true_and]
 simp only [bL,dP,mD,newObj,iW,bM,ne_eq,reduceCtorEq,not_false_eq_true,true_and,if_true,List.all_nil,Nat.zero_mul,Nat.zero_le,List.nil_append,List.length_nil,List.getElem?_cons_zero,Option.some.injEq]
 refine ⟨rfl,rfl,rfl,rfl,?_,_,rfl,rfl,rfl,rfl,rfl,?_,?_,fun _ _ h=>h.elim,_,0,2,_,Weak.refl _ _,rfl,rfl,rfl,rfl,?_,xw v⟩
 · intro y hy
   obtain ⟨n,_,rfl⟩:=List.mem_map.1 hy
   exact RN n
 · simp;omega
 · simp;omega
 · simp only [fE,qQ,List.replicate_zero,List.nil_append,YV]
theorem RP (v:Vl) (hv:v.length≤1099511627776):ai Tryz.prog 188 [aS v] [] (.bG 0 0) [qQ v]:=
 ai.split (pre:=[]) (post:=[]) (fun h=>by
  have:v=[]:=by simpa using h
  subst this
  exact V9) (RO v hv)
end Lp
namespace Lp
open Go Go.Proofs
open List (length_cons length_nil)
def rowOf (p:Vl):List PV:=[.str (nameOf p),aS (j4 p)]
def Dw:dF:=fun args objs K=>∃ (v:Vl) (i c:Nat),args=[aS v,.int .i64 i]∧v.length≤4611686018427387904∧skip (v.drop i) 1=some c∧K (.int .i64 (i+c:Nat)) objs 0
def GX:dF:=fun args objs K=>∃ v:Vl,args=[aS v]∧v.length≤1099511627776∧K (.bG objs.length 0) (objs++[qQ v]) 2
theorem LQ:aB Tryz.prog 187 Dw:=by
 rintro args objs K ⟨v,i,c,rfl,hv,hs,hk⟩
 exact ⟨_,_,_,.pure _ rfl (OM v i c hv hs),hk⟩
theorem OO:aB Tryz.prog 188 GX:=by
 rintro args objs K ⟨v,rfl,hv,hk⟩
 have h:=mH.made (objs:=objs) _ _ rfl (xw v) (RP v hv)
 exact ⟨_,_,_,h,by simpa [PV.shift,PV.qj] using hk⟩
theorem V_ (v:Vl):ai Tryz.prog 174 [aS v] [] (.fn 186 [] [.addr (aS v)]) []:=by
 refine RJ.pure (T:=aR Tryz.prog []) 1 hD (aj ah) a_ (by decide) ?_
 (conv=>arg 4;cbv);simp only [↓zO,El,↓Ba,↓yN,↓Bb,yO,↓mM,nk,jI,fw,Nat.reduceAdd,Nat.reduceSub,rq,bM,IL,jQ,newObj,aS,FH,II,ne_eq,reduceCtorEq,not_false_eq_true,true_and,length_cons,length_nil,List.nil_append]
 exact ⟨rfl,rfl,rfl⟩
theorem Eo (v:Vl) (n:Nd) (r:Vl) (ps:List Vl) (hv:v=n::r) (hl:v.length≤1099511627776) (hm:0≤n.many) (hp:parts n.many.toNat r=some ps) :
  Gives Tryz.prog 186 [.addr (aS v)] (ps.map rowOf):=by
 refine LF.gives (fnT:=sS [(187,Dw),(188,GX)]) hD (af LQ (af OO ah)) a_ ?_
 intro I J objs y hI I5 Yz
 subst hv
 (conv=>arg 4;cbv);simp only [↓zO,kiR,↓Ba,↓yN,↓Bb,yO,↓mM,Nat.reduceAdd,Nat.reduceSub,rq,bM,FD,FE,wS,aZ,fq,aK,d9,↓zq,↓LD,I7,uS,FH,II,aS,ay,List.map_cons,Int.reduceToNat,Int.toNat_zero,Int.reduceLE,Bool.not_false,Bool.and_self,Nat.reduceLeDiff,forall_const,ne_eq,reduceCtorEq,not_false_eq_true,true_and,PV.bool.injEq,Int.toNat_natCast,Nat.zero_add,length_cons,length_nil]
 refine aH (fun m S=>∃ (k i:Nat) (O:List Obj) (rest:List Vl),k+rest.length=ps.length∧m=rest.length∧parts rest.length ((n::r).drop i)=some rest∧ps.drop k=rest∧I k O∧
  S=⟨mkT 34 [(0,.Fj y),(1,.addr (aS (n::r))),(3,.int .i64 i),(9,.int .i64 n.many),(10,.int .i64 k)],O⟩) ps.length ?_ ?_
 · have hpl:=bS _ _ _ hp
   refine ⟨0,1,objs,ps,by omega,rfl,by rw [hpl];simpa using hp,by simp,hI,?_⟩
   simp only [Q9,aS,rq];rfl
 have hpl:=bS _ _ _ hp
 have GY:n.many.toNat≤1099511627776:=by have:=eO _ _ _ hp;simp at hl;omega
 generalize hv:n::r=v at *
 rintro m S ⟨k,i,O,rest,hk,rfl,hps,hd,Wd,rfl⟩
 simp only [↓zO,kiR,↓Ba,↓yN,↓Bb,yO,↓mM,Nat.reduceAdd,Nat.reduceSub,rq,bM,FD,FE,wS,caR,taR,Dw,GX,Nat.reduceBEq,BEq.rfl,cond_true,cond_false,jo,dx,aZ,fq,aK,d9,↓zq,↓LD,I7,uS,FH,II,aS,List.map_cons,Int.reduceToNat,Int.toNat_zero,Int.reduceLE,Bool.not_false,Bool.and_self,Nat.reduceLeDiff,forall_const,ne_eq,reduceCtorEq,not_false_eq_true,true_and,PV.bool.injEq,Int.toNat_natCast,Nat.zero_add,length_cons,length_nil]
 refine ⟨fun hkm=>?_,fun hkm=>?_⟩
 · have aef:(k:Int)<n.many:=of_decide_eq_true hkm
   obtain ⟨q,hq⟩:∃ q,rest.length=q+1:=⟨rest.length-1,by omega⟩
   rw [hq] at hps
   obtain ⟨c,qs,hsk,hr',hqs⟩:=eH hps
   have hc:=dZ _ _ _ hsk
   simp only [List.length_drop] at hc
   have hlv:v.length≤1099511627776:=hl
   refine ⟨v,i,c,rfl,by omega,hsk,.inr trivial,by omega,by omega,by simp;omega,(v.drop i).take c,?_,by simp;omega,qQ ((v.drop i).take c),by simp,rfl,rfl,by simp [qQ];omega,rfl,qQ ((v.drop i).take c),by simp,rfl,rfl,?_⟩
   · rw [← List.map_take,← List.map_drop,← List.take_drop]
   · obtain ⟨hdn,tl,hpe⟩:∃ a b,(v.drop i).take c=a::b:=by
      cases hx:(v.drop i).take c with
      | nil=>have:=congrArg List.length hx;simp at this;omega
      | cons a b=>exact ⟨a,b,rfl⟩
     rw [hpe] at hr' ⊢
     refine ⟨qQ (hdn::tl),ay hdn,by simp,rfl,rfl,rfl,by simp,rfl,by simp [ay,PV.cells],(fun h=>by cases h),rfl,?_⟩
     have hset:(O++[qQ (hdn::tl)]).set O.length { qQ (hdn::tl) with xs:=(qQ (hdn::tl)).xs.set 0 ((ay hdn).putCells 2 (PV.str []).cells) }=O++[qQ (j4 (hdn::tl))]:=by
      rw [List.set_append_right _ _ (Nat.le_refl _),Nat.sub_self]
      rfl
     rw [hset]
     refine aN _ (Weak.freeze 1 O.length (I5 k O Wd).1 _) ?_
     have hgo:(O++[qQ (j4 (hdn::tl))])[O.length]?=some (qQ (j4 (hdn::tl))):=by simp
     have hfr:eY 1 O.length (O++[qQ (j4 (hdn::tl))]) (.bG O.length 0)=aS (j4 (hdn::tl)):=by
      simp only [eY,Nat.lt_irrefl,if_false,iY,hgo]
      simp only [qQ,Nat.le_refl,decide_true,Bool.and_self,BEq.rfl,if_true,aS,List.map_map]
      congr 1
     have hro:(O++[qQ (j4 (hdn::tl))]).take O.length=O:=by simp
     have hpost:∃ w,w=j4 (hdn::tl):=⟨_,rfl⟩
     obtain ⟨pc,hpc⟩:=hpost
     rw [← hpc] at hfr hro hgo ⊢
     have hq1:(eY 1 O.length (O++[qQ pc]) (.bI O.length 0 0 0)).pure=true:=zu (Nat.le_refl _)
     have hq2:(eY 1 O.length (O++[qQ pc]) (.bI O.length 0 0 2)).pure=true:=zu (Nat.le_refl _)
     have hq3:(aS pc).pure=true:=rfl
     simp only [St.freeze,rq,fzR,Dk,hfr,hro,hq1,hq2,hq3,puR,NG,Bool.not_true,ay,Fw (I5 k O Wd).2,↓zO,kiR,↓Ba,↓yN,↓Bb,yO,↓mM,Nat.reduceAdd,Nat.reduceSub,bM,FD,FE,wS,caR,Yn,aZ,fq,aK,d9,↓zq,↓LD,I7,uS,FH,II,Int.reduceToNat,Int.toNat_zero,Int.reduceLE,Bool.not_false,Bool.and_self,Nat.reduceLeDiff,forall_const,ne_eq,reduceCtorEq,not_false_eq_true,true_and,PV.bool.injEq,Int.toNat_natCast,Nat.zero_add,length_cons,length_nil]
     have hvi:v[i]?=some hdn:=by
      have:=congrArg (fun l=>l[0]?) hpe
      simp only [List.getElem?_cons_zero,List.getElem?_take,List.getElem?_drop,Nat.add_zero] at this
      rw [if_pos (by omega)] at this
      exact this
     have hpk:ps[k]?=some (hdn::tl):=by
      have:=congrArg (fun l=>l[0]?) (hd.trans hr')
      simpa using this
     have hdq:ps.drop (k+1)=qs:=by
      have:=congrArg List.tail (hd.trans hr')
      simpa [List.tail_drop] using this
     have hlq:qs.length=q:=by rw [hr'] at hq;simpa using hq
     refine ⟨by omega,hdn,hvi,k,Wd,?_,fun objs' hI'=>⟨fun h=>h.elim,⟨by omega,by omega⟩,qs.length,by omega,k+1,i+c,objs',qs,by omega,rfl,?_,hdq,hI',?_⟩,fun objs' hJ'=>?_⟩
     · rw [List.getElem?_map,hpk,hpc];rfl
     · rw [hlq];rw [List.drop_drop] at hqs;exact hqs
     · simp only [Q9,aS,rq];rfl
     · exact ⟨⟨.inr rfl,.inr ⟨k,by rw [List.length_map];omega,hJ'⟩⟩,fun h=>h.elim⟩
 · rw [if_pos trivial]
   have hge:¬ (k:Int)<n.many:=of_decide_eq_false hkm
   refine ⟨.inl rfl,?_⟩
   have:k=ps.length:=by omega
   rw [List.length_map,← this]
   exact .inl Wd
end Lp
namespace Lp
open Go Go.Proofs
open List (length_cons length_nil mem_singleton nil_append)
def Bw:dF:=fun args objs K=>∃ v:Vl,args=[aS v]∧K (.fn 186 [] [.addr (aS v)]) objs 0
theorem GZ:aB Tryz.prog 174 Bw:=by
 rintro args objs K ⟨v,rfl,hk⟩
 exact ⟨_,_,_,.pure _ rfl (V_ v),hk⟩
def Wh (done:List Vl) (O:List Obj):Prop:=
 (done=[]∧O=[⟨80,1,[.sl 0 [] (some true)],true,1⟩])∨
 (done≠[]∧∃ ver,O=[⟨80,1,[.bG 1 ver],true,1⟩,⟨41,1,done.map fun p=>aS (j4 p),true,ver⟩])
theorem OP (v:Vl) (n:Nd) (r:Vl) (ps:List Vl) (hv:v=n::r) (hl:v.length≤1099511627776) (hm:0≤n.many) (hp:parts n.many.toNat r=some ps) :
  ai Tryz.prog 151 [aS v] [] (if ps=[] then .sl 0 [] (some true) else .sl 1 (ps.map fun p=>aS (j4 p)) none) []:=by
 refine OB.pure (T:=aR Tryz.prog [(174,Bw)]) 2 hD (aj (af GZ ah)) a_ (by decide) ?_
 (conv=>arg 4;cbv);simp only [↓zO,El,↓Ba,↓yN,↓Bb,yO,↓mM,Nat.reduceAdd,Nat.reduceSub,rq,bM,caR,taR,Bw,Nat.reduceBEq,BEq.rfl,cond_true,cond_false,rP,newObj,aI,FH,II,ne_eq,reduceCtorEq,not_false_eq_true,true_and,length_cons,length_nil,nil_append]
 refine ⟨rfl,v,rfl,?_⟩
 refine RH 186 [.addr (aS v)] (ps.map rowOf) (fun i O=>Wh (ps.take i) O∧i≤ps.length) rfl rfl rfl trivial (Eo v n r ps hv hl hm hp) ?_ ⟨.inl ⟨by simp,rfl⟩,Nat.zero_le _⟩ ?_ ?_ ?_
 · intro y hy
   obtain ⟨p,_,rfl⟩:=List.mem_map.1 hy
   rfl
 · rintro i O ⟨h | ⟨_,ver,rfl⟩,_⟩
   · rw [h.2]
     refine ⟨by simp,?_⟩
     intro o ho x hx c hc
     simp only [mem_singleton] at ho
     subst ho
     simp only [mem_singleton] at hx
     subst hx
     simp only [PV.cells,mem_singleton] at hc
     subst hc
     rfl
   · refine ⟨by simp,?_⟩
     intro o ho x hx c hc
     simp only [List.mem_cons,List.not_mem_nil,or_false] at ho
     rcases ho with rfl | rfl
     · simp only [mem_singleton] at hx
       subst hx
       simp only [PV.cells,mem_singleton] at hc
       subst hc
       rfl
     · simp only [List.mem_map] at hx
       obtain ⟨p,_,rfl⟩:=hx
       simp only [aS,PV.cells,mem_singleton] at hc
       subst hc
       rfl
 · rintro i args O ⟨hO,hi⟩ ha
   rw [List.getElem?_map] at ha
   obtain ⟨p,hpi,rfl⟩:∃ p,ps[i]?=some p∧rowOf p=args:=by
    cases hx:ps[i]? with
    | none=>rw [hx] at ha;simp at ha
    | some p=>rw [hx] at ha;exact ⟨p,rfl,by simpa using ha⟩
   have hil:i<ps.length:=(List.getElem?_eq_some_iff.1 hpi).1
   have htk:ps.take (i+1)=ps.take i++[p]:=by rw [List.take_add_one,hpi];rfl
   rcases hO with ⟨h0,rfl⟩ | ⟨h0,ver,rfl⟩
   · simp only [rowOf,qx,YD,↓LD,↓GR,reduceIte,Bool.false_eq_true,if_false,↓zO,↓Ba,↓yN,↓Bb,yO,↓mM,Nat.reduceAdd,Nat.reduceSub,rq,bM,dU,fq,bL,dP,mD,newObj,iW,jT,aI,I7,uS,FH,II,ne_eq,reduceCtorEq,not_false_eq_true,true_and,length_cons,length_nil,nil_append]
     refine ⟨by decide,fun _=>trivial,rfl,by decide,rfl,rfl,rfl,?_,by decide,by decide,by decide,fun _=>trivial,rfl,.inr ⟨by rw [htk];simp,1,?_⟩,by omega⟩
     · intro y hy
       simp only [mem_singleton] at hy
       subst hy
       exact ⟨rfl,rfl⟩
     · rw [htk,h0];rfl
   · have hlen:ps.length≤1099511627776:=by
      have h1:=bS _ _ _ hp
      have h2:=eO _ _ _ hp
      rw [hv] at hl
      simp at hl
      omega
     simp only [rowOf,qx,YD,↓LD,↓GR,reduceIte,Bool.false_eq_true,if_false,↓zO,↓Ba,↓yN,↓Bb,yO,↓mM,Nat.reduceAdd,Nat.reduceSub,rq,bM,dU,fq,bL,dP,mD,newObj,iW,jT,aI,I7,uS,FH,II,ne_eq,reduceCtorEq,not_false_eq_true,true_and,length_cons,length_nil,nil_append]
     refine ⟨by decide,fun _=>trivial,rfl,by decide,rfl,rfl,rfl,?_,by simp;omega,by simp;omega,fun _ _ h=>h.elim,by decide,fun _=>trivial,rfl,.inr ⟨by rw [htk];simp,ver+1,?_⟩,by omega⟩
     · intro y hy
       simp only [mem_singleton] at hy
       subst hy
       exact ⟨rfl,rfl⟩
     · rw [htk,List.map_append];rfl
 · rintro O ⟨hO,_⟩
   rw [List.length_map,List.take_length] at hO
   rcases hO with ⟨h0,rfl⟩ | ⟨h0,ver,rfl⟩
   · rw [if_pos h0]
     simp only [YD,↓LD,↓GR,reduceIte,↓yN,yO,rq,fq,I7,uS,FH,II,nk,jI,fw,Dk,fzR,ne_eq,reduceCtorEq,not_false_eq_true,true_and,length_cons,length_nil,nil_append]
     exact ⟨by decide,fun _=>trivial,rfl,trivial⟩
   · rw [if_neg h0]
     simp only [YD,↓LD,↓GR,reduceIte,↓yN,yO,rq,fq,I7,uS,FH,II,nk,jI,fw,Dk,fzR,ne_eq,reduceCtorEq,not_false_eq_true,true_and,length_cons,length_nil,nil_append]
     refine ⟨by decide,fun _=>trivial,rfl,?_⟩
     simp only [eY,Nat.not_lt_zero,if_false,iY,List.getElem?_cons_succ,List.getElem?_cons_zero,Nat.le_refl,Nat.zero_le,decide_true,Bool.and_self,BEq.rfl,if_true,List.map_map]
     congr 1
theorem RQ (v:Vl) (n:Nd) (r:Vl) (ps:List Vl) (hv:v=n::r) (hl:v.length≤1099511627776) (hm:0≤n.many) (hp:parts n.many.toNat r=some ps) :
  ai Tryz.prog 151 [aS v] [] (.sl 1 (ps.map fun p=>aS (j4 p)) none) []:=by
 refine (OP v n r ps hv hl hm hp).YB fun w ok u h=>?_
 split at h
 · rename_i h0
   subst h0
   exact Lx h (by simp)
 · exact h
end Lp
namespace Lp
open Go Go.Proofs
open List (length_cons length_nil map_map mem_singleton nil_append)
def Wi (done:List Vl) (O:List Obj):Prop:=
 (done=[]∧O=[⟨91,1,[.sl 0 [] (some true)],true,1⟩])∨
 (done≠[]∧∃ ver,O=[⟨91,1,[.bG 1 ver],true,1⟩,⟨9,1,done.map fun p=>.str (nameOf p),true,ver⟩])
theorem OQ (v:Vl) (n:Nd) (r:Vl) (ps:List Vl) (hv:v=n::r) (hl:v.length≤1099511627776) (hm:0≤n.many) (hp:parts n.many.toNat r=some ps) :
  ai Tryz.prog 149 [aS v] [] (if n.kind=6∧ps≠[] then .sl 1 (ps.map fun p=>.str (nameOf p)) none else .sl 0 [] (some true)) []:=by
 subst hv
 refine OA.pure (T:=aR Tryz.prog [(174,Bw)]) 2 hD (aj (af GZ ah)) a_ (by decide) ?_
 (conv=>arg 4;cbv);simp only [↓zO,El,↓Ba,↓yN,↓Bb,yO,↓mM,Nat.reduceAdd,Nat.reduceSub,rq,bM,caR,taR,Bw,Nat.reduceBEq,BEq.rfl,cond_true,cond_false,rP,newObj,aI,↓zq,↓LD,aZ,fq,aK,d9,aS,ay,FD,FE,I7,uS,List.map_cons,Int.reduceToNat,Int.toNat_zero,Int.reduceLE,Nat.reduceLeDiff,forall_const,Bool.not_false,Bool.and_self,↓GR,YD,nk,jI,fw,Dk,FH,II,ne_eq,reduceCtorEq,not_false_eq_true,true_and,length_cons,length_nil,nil_append]
 refine ⟨rfl,fun hk=>⟨n::r,rfl,?_⟩,fun hk=>?_⟩
 · have hk6:n.kind=6:=of_decide_eq_true hk
   refine RH 186 [.addr (aS (n::r))] (ps.map rowOf) (fun i O=>Wi (ps.take i) O∧i≤ps.length) rfl rfl rfl trivial (Eo (n::r) n r ps rfl hl hm hp) ?_ ⟨.inl ⟨by simp,rfl⟩,Nat.zero_le _⟩ ?_ ?_ ?_
   · intro y hy
     obtain ⟨p,_,rfl⟩:=List.mem_map.1 hy
     rfl
   · rintro i O ⟨h | ⟨_,ver,rfl⟩,_⟩
     · rw [h.2]
       refine ⟨by simp,?_⟩
       intro o ho x hx c hc
       simp only [mem_singleton] at ho
       subst ho
       simp only [mem_singleton] at hx
       subst hx
       simp only [PV.cells,mem_singleton] at hc
       subst hc
       rfl
     · refine ⟨by simp,?_⟩
       intro o ho x hx c hc
       simp only [List.mem_cons,List.not_mem_nil,or_false] at ho
       rcases ho with rfl | rfl
       · simp only [mem_singleton] at hx
         subst hx
         simp only [PV.cells,mem_singleton] at hc
         subst hc
         rfl
       · simp only [List.mem_map] at hx
         obtain ⟨p,_,rfl⟩:=hx
         simp only [PV.cells,mem_singleton] at hc
         subst hc
         rfl
   · rintro i args O ⟨hO,hi⟩ ha
     rw [List.getElem?_map] at ha
     obtain ⟨p,hpi,rfl⟩:∃ p,ps[i]?=some p∧rowOf p=args:=by
      cases hx:ps[i]? with
      | none=>rw [hx] at ha;simp at ha
      | some p=>rw [hx] at ha;exact ⟨p,rfl,by simpa using ha⟩
     have hil:i<ps.length:=(List.getElem?_eq_some_iff.1 hpi).1
     have htk:ps.take (i+1)=ps.take i++[p]:=by rw [List.take_add_one,hpi];rfl
     rcases hO with ⟨h0,rfl⟩ | ⟨h0,ver,rfl⟩
     · simp only [rowOf,qx,YD,↓LD,↓GR,reduceIte,Bool.false_eq_true,if_false,↓zO,↓Ba,↓yN,↓Bb,yO,↓mM,Nat.reduceAdd,Nat.reduceSub,rq,bM,dU,fq,bL,dP,mD,newObj,iW,jT,aI,I7,uS,FH,II,ne_eq,reduceCtorEq,not_false_eq_true,true_and,length_cons,length_nil,nil_append]
       refine ⟨by decide,fun _=>trivial,rfl,by decide,rfl,rfl,rfl,?_,by decide,by decide,by decide,fun _=>trivial,rfl,.inr ⟨by rw [htk];simp,1,?_⟩,by omega⟩
       · intro y hy
         simp only [mem_singleton] at hy
         subst hy
         exact ⟨rfl,rfl⟩
       · rw [htk,h0];rfl
     · have hlen:ps.length≤1099511627776:=by
        have h1:=bS _ _ _ hp
        have h2:=eO _ _ _ hp
        simp at hl
        omega
       simp only [rowOf,qx,YD,↓LD,↓GR,reduceIte,Bool.false_eq_true,if_false,↓zO,↓Ba,↓yN,↓Bb,yO,↓mM,Nat.reduceAdd,Nat.reduceSub,rq,bM,dU,fq,bL,dP,mD,newObj,iW,jT,aI,I7,uS,FH,II,ne_eq,reduceCtorEq,not_false_eq_true,true_and,length_cons,length_nil,nil_append]
       refine ⟨by decide,fun _=>trivial,rfl,by decide,rfl,rfl,rfl,?_,by simp;omega,by simp;omega,fun _ _ h=>h.elim,by decide,fun _=>trivial,rfl,.inr ⟨by rw [htk];simp,ver+1,?_⟩,by omega⟩
       · intro y hy
         simp only [mem_singleton] at hy
         subst hy
         exact ⟨rfl,rfl⟩
       · rw [htk,List.map_append];rfl
   · rintro O ⟨hO,_⟩
     rw [List.length_map,List.take_length] at hO
     rcases hO with ⟨h0,rfl⟩ | ⟨h0,ver,rfl⟩
     · rw [if_neg (fun h=>h.2 h0)]
       simp only [YD,↓LD,↓GR,reduceIte,↓yN,yO,rq,fq,I7,uS,FH,II,nk,jI,fw,Dk,fzR,ne_eq,reduceCtorEq,not_false_eq_true,true_and,length_cons,length_nil,nil_append]
       simp
     · rw [if_pos ⟨hk6,h0⟩]
       simp only [YD,↓LD,↓GR,reduceIte,↓yN,yO,rq,fq,I7,uS,FH,II,nk,jI,fw,Dk,fzR,ne_eq,reduceCtorEq,not_false_eq_true,true_and,length_cons,length_nil,nil_append]
       refine ⟨by decide,rfl,?_⟩
       simp only [eY,Nat.not_lt_zero,if_false,iY,List.getElem?_cons_succ,List.getElem?_cons_zero,Nat.le_refl,Nat.zero_le,decide_true,Bool.and_self,BEq.rfl,if_true,map_map]
       congr 1
 · have hk6:n.kind≠6:=of_decide_eq_false hk
   rw [if_neg (fun h=>hk6 h.1)]
theorem RS (v:Vl) (n:Nd) (r:Vl) (ps:List Vl) (hv:v=n::r) (hl:v.length≤1099511627776) (hm:0≤n.many) (hp:parts n.many.toNat r=some ps) :
  ai Tryz.prog 149 [aS v] [] (.sl 1 ((KZ n ps).map .str) none) []:=by
 refine (OQ v n r ps hv hl hm hp).YB fun w ok u h=>?_
 unfold KZ
 by_cases hk:n.kind=6
 · rw [if_pos hk]
   by_cases h0:ps=[]
   · subst h0
     rw [if_neg (fun h=>h.2 rfl)] at h
     exact Lx h (by simp)
   · rw [if_pos ⟨hk,h0⟩] at h
     rw [map_map]
     exact h
 · rw [if_neg hk]
   rw [if_neg (fun h=>hk h.1)] at h
   exact Lx h (by simp)
end Lp
namespace Lp
open Go Go.Proofs
theorem YW (x y:Nd):eY 1 0 [⟨27,6,[ay x],true,1⟩,⟨27,6,[ay y],true,1⟩] (.bI 0 1 0 0)=.addr (ay x):=rfl
theorem YX (x y:Nd):eY 1 0 [⟨27,6,[ay x],true,1⟩,⟨27,6,[ay y],true,1⟩] (.bI 1 1 0 0)=.addr (ay y):=rfl
theorem jC (x:Nd):eY 1 0 [⟨27,6,[ay x],true,1⟩] (.bI 0 1 0 0)=.addr (ay x):=rfl
theorem tf (p:Prop):p=True∨p=False:=by
 by_cases h:p
 · exact .inl (eq_true h)
 · exact .inr (eq_false h)
end Lp
namespace Lp
open Go Go.Proofs
open Nat (reduceAdd reduceLeDiff reduceMul reduceSub)
open Int (reduceLE reduceToNat)
open Bool (false_eq_true)
theorem jD (c:UInt8) (n:Nat) (h:n<256):(c<UInt8.ofNat n↔c.toNat<n)∧(UInt8.ofNat n≤c↔n≤c.toNat):=by
 have e:(UInt8.ofNat n).toNat=n:=by simp [UInt8.toNat_ofNat'];omega
 constructor
 · rw [UInt8.lt_iff_toNat_lt,e]
 · rw [UInt8.le_iff_toNat_le,e]
theorem RU {s:List UInt8}{i:Nat}{c:UInt8}(h:s[i]?=some c):gY s i=(decide (128≤c.toNat) && decide (c.toNat<192)):=by
 have h1:128≤c↔128≤c.toNat:=(jD c 128 (by omega)).2
 have h2:c<192↔c.toNat<192:=(jD c 192 (by omega)).1
 simp only [gY,h]
 rw [decide_eq_decide.2 h1,decide_eq_decide.2 h2]
theorem Wj (s:List UInt8) (i:Int) (hi:0≤i):ai Tryz.prog 92 [.str s,.int .i64 i] [] (.bool (gY s i.toNat)) []:=by
 refine Bh.pure (T:=aR Tryz.prog []) 0 hD (aj ah) a_ (by decide) ?_
 rcases Nat.lt_or_ge i.toNat s.length with h | h
 · have hg:=List.getElem?_eq_getElem h
   generalize s[i.toNat]=c at hg
   (conv=>arg 4;cbv);simp(maxSteps:=400000)only[↓aV,aW,BEq.rfl,reduceIte,reduceCtorEq,Nat.reduceLT,reduceAdd,reduceSub,reduceMul,Nat.reduceBEq,reduceLeDiff,reduceToNat,reduceLE,hg,RU hg]
   refine ⟨fun _=>⟨hi,fun h1=>⟨hi,?_⟩,fun h1=>?_⟩,fun h2=>absurd (by omega) h2⟩
   · have:128≤c.toNat:=by omega
     simp only [this,decide_true,Bool.true_and]
     exact decide_eq_decide.2 (by omega)
   · have:¬ 128≤c.toNat:=by omega
     simp only [this,decide_false,Bool.false_and]
 · have hn:s[i.toNat]?=none:=List.getElem?_eq_none h
   (conv=>arg 4;cbv);simp(maxSteps:=400000)only[↓aV,aW,BEq.rfl,reduceIte,reduceCtorEq,Nat.reduceLT,reduceAdd,reduceSub,reduceMul,Nat.reduceBEq,reduceLeDiff,reduceToNat,reduceLE]
   simp only [gY,hn]
   exact ⟨fun hh=>absurd hh (by omega),fun _=>trivial⟩
def eF:dF:=fun args objs K=>match args with
 | [.str s,.int .i64 i]=>(0≤i)∧K (.bool (gY s i.toNat)) objs 0
 | _=>False
theorem RV:aB Tryz.prog 92 (eF):=by
 intro args objs K h
 unfold eF at h
 split at h
 · rename_i s i
   obtain ⟨h1,hk⟩:=h
   exact ⟨_,_,_,.pure _ rfl (Wj s i h1),hk⟩
 · exact h.elim
theorem Aa (s:List UInt8) (i k:Nat):gY (s.drop i) k=gY s (i+k):=by
 simp only [gY,List.getElem?_drop]
theorem Dx {s:List UInt8}{i:Nat}(h:gY s i=true):∃ d,s[i]?=some d:=by
 unfold gY at h
 split at h
 · rename_i b hb;exact ⟨b,hb⟩
 · cases h
theorem Wl (s:List UInt8) (i:Nat) (hi:i<s.length) (hl:s.length≤4611686018427387904):ai Tryz.prog 62 [.str s,.int .i64 i] [] (.int .i64 (bZ (s.drop i):Nat)) []:=by
 have hg:=List.getElem?_eq_getElem hi
 have hd:=List.drop_eq_getElem_cons hi
 generalize s[i]=c at hg hd
 have c0:gY (s.drop (i+1)) 0=gY s (i+1):=Aa s (i+1) 0
 have c1:gY (s.drop (i+1)) 1=gY s (i+2):=Aa s (i+1) 1
 have c2:gY (s.drop (i+1)) 2=gY s (i+3):=Aa s (i+1) 2
 have n1:((i:Int)+1).toNat=i+1:=by omega
 have n2:((i:Int)+2).toNat=i+2:=by omega
 have n3:((i:Int)+3).toNat=i+3:=by omega
 have z0:(0≤(i:Int))=True:=eq_true (by omega)
 have z1:(0≤(i:Int)+1)=True:=eq_true (by omega)
 have z2:(0≤(i:Int)+2)=True:=eq_true (by omega)
 have z3:(0≤(i:Int)+3)=True:=eq_true (by omega)
 have i1:(-9223372036854775808≤(i:Int)+1∧(i:Int)+1≤9223372036854775807)=True:=eq_true ⟨by omega,by omega⟩
 have i2:(-9223372036854775808≤(i:Int)+2∧(i:Int)+2≤9223372036854775807)=True:=eq_true ⟨by omega,by omega⟩
 have i3:(-9223372036854775808≤(i:Int)+3∧(i:Int)+3≤9223372036854775807)=True:=eq_true ⟨by omega,by omega⟩
 suffices gen:∀ Q:Exit→St→Prop,(∀ (l:List (Nat×PV)) (v:Nat),l_ l 4=.int .i64 v→v=bZ (c::s.drop (i+1))→Q .ret ⟨dI 109 l,[]⟩)→
   kW Tryz.prog D (aR Tryz.prog [(92,eF)]) rz Q (bV [.str s,.int .i64 i] 109) by
  rw [hd]
  refine Bf.pure (T:=aR Tryz.prog [(92,eF)]) 0 hD (aj (af RV ah)) a_ (by decide) ?_
  refine gen _ fun l v h1 h2=>?_
  subst h2
  simp only [nk,jI,fw,acR,rW,Nat.reduceLT,h1,List.map_cons,List.map_nil,Dk]
 intro Q hQ
 have hc:c.toNat<256:=c.toNat_lt
 have h6:c.toNat<128∨(128≤c.toNat∧c.toNat<194)∨(194≤c.toNat∧c.toNat<224)∨(224≤c.toNat∧c.toNat<240)∨(240≤c.toNat∧c.toNat<245)∨245≤c.toNat:=by omega
 rcases h6 with h | h | h | h | h | h
 · skip
   have f0:(((c.toNat:Int)<128)=True):=eq_true (by omega)
   have f1:((128≤(c.toNat:Int))=False):=eq_false (by omega)
   have f2:((c<128)=True):=eq_true ((jD c 128 (by omega)).1.2 (by omega))
   have f3:((128≤c)=False):=eq_false fun hh=>by have:=(jD c 128 (by omega)).2.1 hh;omega
   have f4:(((c.toNat:Int)<194)=True):=eq_true (by omega)
   have f5:((194≤(c.toNat:Int))=False):=eq_false (by omega)
   have f6:((c<194)=True):=eq_true ((jD c 194 (by omega)).1.2 (by omega))
   have f7:((194≤c)=False):=eq_false fun hh=>by have:=(jD c 194 (by omega)).2.1 hh;omega
   have f8:(((c.toNat:Int)<224)=True):=eq_true (by omega)
   have f9:((224≤(c.toNat:Int))=False):=eq_false (by omega)
   have f10:((c<224)=True):=eq_true ((jD c 224 (by omega)).1.2 (by omega))
   have f11:((224≤c)=False):=eq_false fun hh=>by have:=(jD c 224 (by omega)).2.1 hh;omega
   have f12:(((c.toNat:Int)<240)=True):=eq_true (by omega)
   have f13:((240≤(c.toNat:Int))=False):=eq_false (by omega)
   have f14:((c<240)=True):=eq_true ((jD c 240 (by omega)).1.2 (by omega))
   have f15:((240≤c)=False):=eq_false fun hh=>by have:=(jD c 240 (by omega)).2.1 hh;omega
   have f16:(((c.toNat:Int)<245)=True):=eq_true (by omega)
   have f17:((245≤(c.toNat:Int))=False):=eq_false (by omega)
   have f18:((c<245)=True):=eq_true ((jD c 245 (by omega)).1.2 (by omega))
   have f19:((245≤c)=False):=eq_false fun hh=>by have:=(jD c 245 (by omega)).2.1 hh;omega
   (conv=>arg 4;cbv);simp(maxSteps:=400000)only[↓aV,aW,BEq.rfl,reduceIte,reduceCtorEq,Nat.reduceLT,reduceAdd,reduceSub,reduceMul,Nat.reduceBEq,reduceLeDiff,reduceToNat,reduceLE,hg,↓eF,n1,n2,n3,z0,z1,z2,z3,i1,i2,i3,f0,f1,f2,f3,f4,f5,f6,f7,f8,f9,f10,f11,f12,f13,f14,f15,f16,f17,f18,f19]
   exact hQ _ 1 rfl (by simp only [true_or,or_true,or_self,or_false,false_or,and_self,true_and,and_true,false_and,and_false,if_true,if_false,false_eq_true,c0,c1,c2,bZ,f0,f1,f2,f3,f4,f5,f6,f7,f8,f9,f10,f11,f12,f13,f14,f15,f16,f17,f18,f19])
 · skip
   have f0:(((c.toNat:Int)<128)=False):=eq_false (by omega)
   have f1:((128≤(c.toNat:Int))=True):=eq_true (by omega)
   have f2:((c<128)=False):=eq_false fun hh=>by have:=(jD c 128 (by omega)).1.1 hh;omega
   have f3:((128≤c)=True):=eq_true ((jD c 128 (by omega)).2.2 (by omega))
   have f4:(((c.toNat:Int)<194)=True):=eq_true (by omega)
   have f5:((194≤(c.toNat:Int))=False):=eq_false (by omega)
   have f6:((c<194)=True):=eq_true ((jD c 194 (by omega)).1.2 (by omega))
   have f7:((194≤c)=False):=eq_false fun hh=>by have:=(jD c 194 (by omega)).2.1 hh;omega
   have f8:(((c.toNat:Int)<224)=True):=eq_true (by omega)
   have f9:((224≤(c.toNat:Int))=False):=eq_false (by omega)
   have f10:((c<224)=True):=eq_true ((jD c 224 (by omega)).1.2 (by omega))
   have f11:((224≤c)=False):=eq_false fun hh=>by have:=(jD c 224 (by omega)).2.1 hh;omega
   have f12:(((c.toNat:Int)<240)=True):=eq_true (by omega)
   have f13:((240≤(c.toNat:Int))=False):=eq_false (by omega)
   have f14:((c<240)=True):=eq_true ((jD c 240 (by omega)).1.2 (by omega))
   have f15:((240≤c)=False):=eq_false fun hh=>by have:=(jD c 240 (by omega)).2.1 hh;omega
   have f16:(((c.toNat:Int)<245)=True):=eq_true (by omega)
   have f17:((245≤(c.toNat:Int))=False):=eq_false (by omega)
   have f18:((c<245)=True):=eq_true ((jD c 245 (by omega)).1.2 (by omega))
   have f19:((245≤c)=False):=eq_false fun hh=>by have:=(jD c 245 (by omega)).2.1 hh;omega
   (conv=>arg 4;cbv);simp(maxSteps:=400000)only[↓aV,aW,BEq.rfl,reduceIte,reduceCtorEq,Nat.reduceLT,reduceAdd,reduceSub,reduceMul,Nat.reduceBEq,reduceLeDiff,reduceToNat,reduceLE,hg,↓eF,n1,n2,n3,z0,z1,z2,z3,i1,i2,i3,f0,f1,f2,f3,f4,f5,f6,f7,f8,f9,f10,f11,f12,f13,f14,f15,f16,f17,f18,f19]
   exact hQ _ 0 rfl (by simp only [true_or,or_true,or_self,or_false,false_or,and_self,true_and,and_true,false_and,and_false,if_true,if_false,false_eq_true,c0,c1,c2,bZ,f0,f1,f2,f3,f4,f5,f6,f7,f8,f9,f10,f11,f12,f13,f14,f15,f16,f17,f18,f19])
 · skip
   have f0:(((c.toNat:Int)<128)=False):=eq_false (by omega)
   have f1:((128≤(c.toNat:Int))=True):=eq_true (by omega)
   have f2:((c<128)=False):=eq_false fun hh=>by have:=(jD c 128 (by omega)).1.1 hh;omega
   have f3:((128≤c)=True):=eq_true ((jD c 128 (by omega)).2.2 (by omega))
   have f4:(((c.toNat:Int)<194)=False):=eq_false (by omega)
   have f5:((194≤(c.toNat:Int))=True):=eq_true (by omega)
   have f6:((c<194)=False):=eq_false fun hh=>by have:=(jD c 194 (by omega)).1.1 hh;omega
   have f7:((194≤c)=True):=eq_true ((jD c 194 (by omega)).2.2 (by omega))
   have f8:(((c.toNat:Int)<224)=True):=eq_true (by omega)
   have f9:((224≤(c.toNat:Int))=False):=eq_false (by omega)
   have f10:((c<224)=True):=eq_true ((jD c 224 (by omega)).1.2 (by omega))
   have f11:((224≤c)=False):=eq_false fun hh=>by have:=(jD c 224 (by omega)).2.1 hh;omega
   have f12:(((c.toNat:Int)<240)=True):=eq_true (by omega)
   have f13:((240≤(c.toNat:Int))=False):=eq_false (by omega)
   have f14:((c<240)=True):=eq_true ((jD c 240 (by omega)).1.2 (by omega))
   have f15:((240≤c)=False):=eq_false fun hh=>by have:=(jD c 240 (by omega)).2.1 hh;omega
   have f16:(((c.toNat:Int)<245)=True):=eq_true (by omega)
   have f17:((245≤(c.toNat:Int))=False):=eq_false (by omega)
   have f18:((c<245)=True):=eq_true ((jD c 245 (by omega)).1.2 (by omega))
   have f19:((245≤c)=False):=eq_false fun hh=>by have:=(jD c 245 (by omega)).2.1 hh;omega
   cases k1:gY s (i+1)
   · skip
     (conv=>arg 4;cbv);simp(maxSteps:=400000)only[↓aV,aW,BEq.rfl,reduceIte,reduceCtorEq,Nat.reduceLT,reduceAdd,reduceSub,reduceMul,Nat.reduceBEq,reduceLeDiff,reduceToNat,reduceLE,hg,↓eF,n1,n2,n3,z0,z1,z2,z3,i1,i2,i3,f0,f1,f2,f3,f4,f5,f6,f7,f8,f9,f10,f11,f12,f13,f14,f15,f16,f17,f18,f19,k1]
     exact hQ _ 0 rfl (by simp only [true_or,or_true,or_self,or_false,false_or,and_self,true_and,and_true,false_and,and_false,if_true,if_false,false_eq_true,c0,c1,c2,bZ,f0,f1,f2,f3,f4,f5,f6,f7,f8,f9,f10,f11,f12,f13,f14,f15,f16,f17,f18,f19,k1])
   · skip
     (conv=>arg 4;cbv);simp(maxSteps:=400000)only[↓aV,aW,BEq.rfl,reduceIte,reduceCtorEq,Nat.reduceLT,reduceAdd,reduceSub,reduceMul,Nat.reduceBEq,reduceLeDiff,reduceToNat,reduceLE,hg,↓eF,n1,n2,n3,z0,z1,z2,z3,i1,i2,i3,f0,f1,f2,f3,f4,f5,f6,f7,f8,f9,f10,f11,f12,f13,f14,f15,f16,f17,f18,f19,k1]
     exact hQ _ 2 rfl (by simp only [true_or,or_true,or_self,or_false,false_or,and_self,true_and,and_true,false_and,and_false,if_true,if_false,false_eq_true,c0,c1,c2,bZ,f0,f1,f2,f3,f4,f5,f6,f7,f8,f9,f10,f11,f12,f13,f14,f15,f16,f17,f18,f19,k1])
 · skip
   have f0:(((c.toNat:Int)<128)=False):=eq_false (by omega)
   have f1:((128≤(c.toNat:Int))=True):=eq_true (by omega)
   have f2:((c<128)=False):=eq_false fun hh=>by have:=(jD c 128 (by omega)).1.1 hh;omega
   have f3:((128≤c)=True):=eq_true ((jD c 128 (by omega)).2.2 (by omega))
   have f4:(((c.toNat:Int)<194)=False):=eq_false (by omega)
   have f5:((194≤(c.toNat:Int))=True):=eq_true (by omega)
   have f6:((c<194)=False):=eq_false fun hh=>by have:=(jD c 194 (by omega)).1.1 hh;omega
   have f7:((194≤c)=True):=eq_true ((jD c 194 (by omega)).2.2 (by omega))
   have f8:(((c.toNat:Int)<224)=False):=eq_false (by omega)
   have f9:((224≤(c.toNat:Int))=True):=eq_true (by omega)
   have f10:((c<224)=False):=eq_false fun hh=>by have:=(jD c 224 (by omega)).1.1 hh;omega
   have f11:((224≤c)=True):=eq_true ((jD c 224 (by omega)).2.2 (by omega))
   have f12:(((c.toNat:Int)<240)=True):=eq_true (by omega)
   have f13:((240≤(c.toNat:Int))=False):=eq_false (by omega)
   have f14:((c<240)=True):=eq_true ((jD c 240 (by omega)).1.2 (by omega))
   have f15:((240≤c)=False):=eq_false fun hh=>by have:=(jD c 240 (by omega)).2.1 hh;omega
   have f16:(((c.toNat:Int)<245)=True):=eq_true (by omega)
   have f17:((245≤(c.toNat:Int))=False):=eq_false (by omega)
   have f18:((c<245)=True):=eq_true ((jD c 245 (by omega)).1.2 (by omega))
   have f19:((245≤c)=False):=eq_false fun hh=>by have:=(jD c 245 (by omega)).2.1 hh;omega
   cases k1:gY s (i+1)
   · skip
     (conv=>arg 4;cbv);simp(maxSteps:=400000)only[↓aV,aW,BEq.rfl,reduceIte,reduceCtorEq,Nat.reduceLT,reduceAdd,reduceSub,reduceMul,Nat.reduceBEq,reduceLeDiff,reduceToNat,reduceLE,hg,↓eF,n1,n2,n3,z0,z1,z2,z3,i1,i2,i3,f0,f1,f2,f3,f4,f5,f6,f7,f8,f9,f10,f11,f12,f13,f14,f15,f16,f17,f18,f19,k1]
     exact hQ _ 0 rfl (by simp only [true_or,or_true,or_self,or_false,false_or,and_self,true_and,and_true,false_and,and_false,if_true,if_false,false_eq_true,c0,c1,c2,bZ,f0,f1,f2,f3,f4,f5,f6,f7,f8,f9,f10,f11,f12,f13,f14,f15,f16,f17,f18,f19,k1])
   cases k2:gY s (i+2)
   · skip
     (conv=>arg 4;cbv);simp(maxSteps:=400000)only[↓aV,aW,BEq.rfl,reduceIte,reduceCtorEq,Nat.reduceLT,reduceAdd,reduceSub,reduceMul,Nat.reduceBEq,reduceLeDiff,reduceToNat,reduceLE,hg,↓eF,n1,n2,n3,z0,z1,z2,z3,i1,i2,i3,f0,f1,f2,f3,f4,f5,f6,f7,f8,f9,f10,f11,f12,f13,f14,f15,f16,f17,f18,f19,k1,k2]
     exact hQ _ 0 rfl (by simp only [true_or,or_true,or_self,or_false,false_or,and_self,true_and,and_true,false_and,and_false,if_true,if_false,false_eq_true,c0,c1,c2,bZ,f0,f1,f2,f3,f4,f5,f6,f7,f8,f9,f10,f11,f12,f13,f14,f15,f16,f17,f18,f19,k1,k2])
   obtain ⟨d,hd1⟩:=Dx k1
   have hhd:(List.drop (i+1) s).headD 0=d:=by rw [List.headD_eq_head?_getD,List.head?_drop,hd1];rfl
   by_cases hc224:c.toNat=224
   · have UI:c.toNat≠237:=by omega
     have e0:(((c.toNat:Int)=224)=True):=eq_true (by omega)
     have e1:((c=224)=True):=eq_true (UInt8.toNat_inj.1 (by simpa using hc224))
     have e2:(((c.toNat:Int)=237)=False):=eq_false (by omega)
     have e3:((c=237)=False):=eq_false fun hh=>UI (by rw [hh];rfl)
     by_cases hdl:d.toNat<160
     · skip
       have g0:(((d.toNat:Int)<160)=True):=eq_true (by omega)
       have g1:((160≤(d.toNat:Int))=False):=eq_false (by omega)
       have g2:((d<160)=True):=eq_true ((jD d 160 (by omega)).1.2 (by omega))
       have g3:((160≤d)=False):=eq_false fun hh=>by have:=(jD d 160 (by omega)).2.1 hh;omega
       (conv=>arg 4;cbv);simp(maxSteps:=400000)only[↓aV,aW,BEq.rfl,reduceIte,reduceCtorEq,Nat.reduceLT,reduceAdd,reduceSub,reduceMul,Nat.reduceBEq,reduceLeDiff,reduceToNat,reduceLE,hg,↓eF,n1,n2,n3,z0,z1,z2,z3,i1,i2,i3,f0,f1,f2,f3,f4,f5,f6,f7,f8,f9,f10,f11,f12,f13,f14,f15,f16,f17,f18,f19,k1,k2,hd1,hhd,e0,e1,e2,e3,g0,g1,g2,g3]
       exact hQ _ 0 rfl (by simp only [true_or,or_true,or_self,or_false,false_or,and_self,true_and,and_true,false_and,and_false,if_true,if_false,false_eq_true,c0,c1,c2,bZ,f0,f1,f2,f3,f4,f5,f6,f7,f8,f9,f10,f11,f12,f13,f14,f15,f16,f17,f18,f19,k1,k2,hd1,hhd,e0,e1,e2,e3,g0,g1,g2,g3])
     · skip
       have g0:(((d.toNat:Int)<160)=False):=eq_false (by omega)
       have g1:((160≤(d.toNat:Int))=True):=eq_true (by omega)
       have g2:((d<160)=False):=eq_false fun hh=>by have:=(jD d 160 (by omega)).1.1 hh;omega
       have g3:((160≤d)=True):=eq_true ((jD d 160 (by omega)).2.2 (by omega))
       (conv=>arg 4;cbv);simp(maxSteps:=400000)only[↓aV,aW,BEq.rfl,reduceIte,reduceCtorEq,Nat.reduceLT,reduceAdd,reduceSub,reduceMul,Nat.reduceBEq,reduceLeDiff,reduceToNat,reduceLE,hg,↓eF,n1,n2,n3,z0,z1,z2,z3,i1,i2,i3,f0,f1,f2,f3,f4,f5,f6,f7,f8,f9,f10,f11,f12,f13,f14,f15,f16,f17,f18,f19,k1,k2,hd1,hhd,e0,e1,e2,e3,g0,g1,g2,g3]
       exact hQ _ 3 rfl (by simp only [true_or,or_true,or_self,or_false,false_or,and_self,true_and,and_true,false_and,and_false,if_true,if_false,false_eq_true,c0,c1,c2,bZ,f0,f1,f2,f3,f4,f5,f6,f7,f8,f9,f10,f11,f12,f13,f14,f15,f16,f17,f18,f19,k1,k2,hd1,hhd,e0,e1,e2,e3,g0,g1,g2,g3])
   · by_cases UI:c.toNat=237
     · skip
       have e0:(((c.toNat:Int)=224)=False):=eq_false (by omega)
       have e1:((c=224)=False):=eq_false fun hh=>hc224 (by rw [hh];rfl)
       have e2:(((c.toNat:Int)=237)=True):=eq_true (by omega)
       have e3:((c=237)=True):=eq_true (UInt8.toNat_inj.1 (by simpa using UI))
       by_cases hdl:d.toNat<160
       · skip
         have g0:(((d.toNat:Int)<160)=True):=eq_true (by omega)
         have g1:((160≤(d.toNat:Int))=False):=eq_false (by omega)
         have g2:((d<160)=True):=eq_true ((jD d 160 (by omega)).1.2 (by omega))
         have g3:((160≤d)=False):=eq_false fun hh=>by have:=(jD d 160 (by omega)).2.1 hh;omega
         (conv=>arg 4;cbv);simp(maxSteps:=400000)only[↓aV,aW,BEq.rfl,reduceIte,reduceCtorEq,Nat.reduceLT,reduceAdd,reduceSub,reduceMul,Nat.reduceBEq,reduceLeDiff,reduceToNat,reduceLE,hg,↓eF,n1,n2,n3,z0,z1,z2,z3,i1,i2,i3,f0,f1,f2,f3,f4,f5,f6,f7,f8,f9,f10,f11,f12,f13,f14,f15,f16,f17,f18,f19,k1,k2,hd1,hhd,e0,e1,e2,e3,g0,g1,g2,g3]
         exact hQ _ 3 rfl (by simp only [true_or,or_true,or_self,or_false,false_or,and_self,true_and,and_true,false_and,and_false,if_true,if_false,false_eq_true,c0,c1,c2,bZ,f0,f1,f2,f3,f4,f5,f6,f7,f8,f9,f10,f11,f12,f13,f14,f15,f16,f17,f18,f19,k1,k2,hd1,hhd,e0,e1,e2,e3,g0,g1,g2,g3])
       · skip
         have g0:(((d.toNat:Int)<160)=False):=eq_false (by omega)
         have g1:((160≤(d.toNat:Int))=True):=eq_true (by omega)
         have g2:((d<160)=False):=eq_false fun hh=>by have:=(jD d 160 (by omega)).1.1 hh;omega
         have g3:((160≤d)=True):=eq_true ((jD d 160 (by omega)).2.2 (by omega))
         (conv=>arg 4;cbv);simp(maxSteps:=400000)only[↓aV,aW,BEq.rfl,reduceIte,reduceCtorEq,Nat.reduceLT,reduceAdd,reduceSub,reduceMul,Nat.reduceBEq,reduceLeDiff,reduceToNat,reduceLE,hg,↓eF,n1,n2,n3,z0,z1,z2,z3,i1,i2,i3,f0,f1,f2,f3,f4,f5,f6,f7,f8,f9,f10,f11,f12,f13,f14,f15,f16,f17,f18,f19,k1,k2,hd1,hhd,e0,e1,e2,e3,g0,g1,g2,g3]
         exact hQ _ 0 rfl (by simp only [true_or,or_true,or_self,or_false,false_or,and_self,true_and,and_true,false_and,and_false,if_true,if_false,false_eq_true,c0,c1,c2,bZ,f0,f1,f2,f3,f4,f5,f6,f7,f8,f9,f10,f11,f12,f13,f14,f15,f16,f17,f18,f19,k1,k2,hd1,hhd,e0,e1,e2,e3,g0,g1,g2,g3])
     · skip
       have e0:(((c.toNat:Int)=224)=False):=eq_false (by omega)
       have e1:((c=224)=False):=eq_false fun hh=>hc224 (by rw [hh];rfl)
       have e2:(((c.toNat:Int)=237)=False):=eq_false (by omega)
       have e3:((c=237)=False):=eq_false fun hh=>UI (by rw [hh];rfl)
       (conv=>arg 4;cbv);simp(maxSteps:=400000)only[↓aV,aW,BEq.rfl,reduceIte,reduceCtorEq,Nat.reduceLT,reduceAdd,reduceSub,reduceMul,Nat.reduceBEq,reduceLeDiff,reduceToNat,reduceLE,hg,↓eF,n1,n2,n3,z0,z1,z2,z3,i1,i2,i3,f0,f1,f2,f3,f4,f5,f6,f7,f8,f9,f10,f11,f12,f13,f14,f15,f16,f17,f18,f19,k1,k2,hd1,hhd,e0,e1,e2,e3]
       exact hQ _ 3 rfl (by simp only [true_or,or_true,or_self,or_false,false_or,and_self,true_and,and_true,false_and,and_false,if_true,if_false,false_eq_true,c0,c1,c2,bZ,f0,f1,f2,f3,f4,f5,f6,f7,f8,f9,f10,f11,f12,f13,f14,f15,f16,f17,f18,f19,k1,k2,hd1,hhd,e0,e1,e2,e3])
 · skip
   have f0:(((c.toNat:Int)<128)=False):=eq_false (by omega)
   have f1:((128≤(c.toNat:Int))=True):=eq_true (by omega)
   have f2:((c<128)=False):=eq_false fun hh=>by have:=(jD c 128 (by omega)).1.1 hh;omega
   have f3:((128≤c)=True):=eq_true ((jD c 128 (by omega)).2.2 (by omega))
   have f4:(((c.toNat:Int)<194)=False):=eq_false (by omega)
   have f5:((194≤(c.toNat:Int))=True):=eq_true (by omega)
   have f6:((c<194)=False):=eq_false fun hh=>by have:=(jD c 194 (by omega)).1.1 hh;omega
   have f7:((194≤c)=True):=eq_true ((jD c 194 (by omega)).2.2 (by omega))
   have f8:(((c.toNat:Int)<224)=False):=eq_false (by omega)
   have f9:((224≤(c.toNat:Int))=True):=eq_true (by omega)
   have f10:((c<224)=False):=eq_false fun hh=>by have:=(jD c 224 (by omega)).1.1 hh;omega
   have f11:((224≤c)=True):=eq_true ((jD c 224 (by omega)).2.2 (by omega))
   have f12:(((c.toNat:Int)<240)=False):=eq_false (by omega)
   have f13:((240≤(c.toNat:Int))=True):=eq_true (by omega)
   have f14:((c<240)=False):=eq_false fun hh=>by have:=(jD c 240 (by omega)).1.1 hh;omega
   have f15:((240≤c)=True):=eq_true ((jD c 240 (by omega)).2.2 (by omega))
   have f16:(((c.toNat:Int)<245)=True):=eq_true (by omega)
   have f17:((245≤(c.toNat:Int))=False):=eq_false (by omega)
   have f18:((c<245)=True):=eq_true ((jD c 245 (by omega)).1.2 (by omega))
   have f19:((245≤c)=False):=eq_false fun hh=>by have:=(jD c 245 (by omega)).2.1 hh;omega
   cases k1:gY s (i+1)
   · skip
     (conv=>arg 4;cbv);simp(maxSteps:=400000)only[↓aV,aW,BEq.rfl,reduceIte,reduceCtorEq,Nat.reduceLT,reduceAdd,reduceSub,reduceMul,Nat.reduceBEq,reduceLeDiff,reduceToNat,reduceLE,hg,↓eF,n1,n2,n3,z0,z1,z2,z3,i1,i2,i3,f0,f1,f2,f3,f4,f5,f6,f7,f8,f9,f10,f11,f12,f13,f14,f15,f16,f17,f18,f19,k1]
     exact hQ _ 0 rfl (by simp only [true_or,or_true,or_self,or_false,false_or,and_self,true_and,and_true,false_and,and_false,if_true,if_false,false_eq_true,c0,c1,c2,bZ,f0,f1,f2,f3,f4,f5,f6,f7,f8,f9,f10,f11,f12,f13,f14,f15,f16,f17,f18,f19,k1])
   cases k2:gY s (i+2)
   · skip
     (conv=>arg 4;cbv);simp(maxSteps:=400000)only[↓aV,aW,BEq.rfl,reduceIte,reduceCtorEq,Nat.reduceLT,reduceAdd,reduceSub,reduceMul,Nat.reduceBEq,reduceLeDiff,reduceToNat,reduceLE,hg,↓eF,n1,n2,n3,z0,z1,z2,z3,i1,i2,i3,f0,f1,f2,f3,f4,f5,f6,f7,f8,f9,f10,f11,f12,f13,f14,f15,f16,f17,f18,f19,k1,k2]
     exact hQ _ 0 rfl (by simp only [true_or,or_true,or_self,or_false,false_or,and_self,true_and,and_true,false_and,and_false,if_true,if_false,false_eq_true,c0,c1,c2,bZ,f0,f1,f2,f3,f4,f5,f6,f7,f8,f9,f10,f11,f12,f13,f14,f15,f16,f17,f18,f19,k1,k2])
   cases k3:gY s (i+3)
   · skip
     (conv=>arg 4;cbv);simp(maxSteps:=400000)only[↓aV,aW,BEq.rfl,reduceIte,reduceCtorEq,Nat.reduceLT,reduceAdd,reduceSub,reduceMul,Nat.reduceBEq,reduceLeDiff,reduceToNat,reduceLE,hg,↓eF,n1,n2,n3,z0,z1,z2,z3,i1,i2,i3,f0,f1,f2,f3,f4,f5,f6,f7,f8,f9,f10,f11,f12,f13,f14,f15,f16,f17,f18,f19,k1,k2,k3]
     exact hQ _ 0 rfl (by simp only [true_or,or_true,or_self,or_false,false_or,and_self,true_and,and_true,false_and,and_false,if_true,if_false,false_eq_true,c0,c1,c2,bZ,f0,f1,f2,f3,f4,f5,f6,f7,f8,f9,f10,f11,f12,f13,f14,f15,f16,f17,f18,f19,k1,k2,k3])
   obtain ⟨d,hd1⟩:=Dx k1
   have hhd:(List.drop (i+1) s).headD 0=d:=by rw [List.headD_eq_head?_getD,List.head?_drop,hd1];rfl
   by_cases hc240:c.toNat=240
   · have UJ:c.toNat≠244:=by omega
     have e0:(((c.toNat:Int)=240)=True):=eq_true (by omega)
     have e1:((c=240)=True):=eq_true (UInt8.toNat_inj.1 (by simpa using hc240))
     have e2:(((c.toNat:Int)=244)=False):=eq_false (by omega)
     have e3:((c=244)=False):=eq_false fun hh=>UJ (by rw [hh];rfl)
     by_cases hdl:d.toNat<144
     · skip
       have g0:(((d.toNat:Int)<144)=True):=eq_true (by omega)
       have g1:((144≤(d.toNat:Int))=False):=eq_false (by omega)
       have g2:((d<144)=True):=eq_true ((jD d 144 (by omega)).1.2 (by omega))
       have g3:((144≤d)=False):=eq_false fun hh=>by have:=(jD d 144 (by omega)).2.1 hh;omega
       (conv=>arg 4;cbv);simp(maxSteps:=400000)only[↓aV,aW,BEq.rfl,reduceIte,reduceCtorEq,Nat.reduceLT,reduceAdd,reduceSub,reduceMul,Nat.reduceBEq,reduceLeDiff,reduceToNat,reduceLE,hg,↓eF,n1,n2,n3,z0,z1,z2,z3,i1,i2,i3,f0,f1,f2,f3,f4,f5,f6,f7,f8,f9,f10,f11,f12,f13,f14,f15,f16,f17,f18,f19,k1,k2,k3,hd1,hhd,e0,e1,e2,e3,g0,g1,g2,g3]
       exact hQ _ 0 rfl (by simp only [true_or,or_true,or_self,or_false,false_or,and_self,true_and,and_true,false_and,and_false,if_true,if_false,false_eq_true,c0,c1,c2,bZ,f0,f1,f2,f3,f4,f5,f6,f7,f8,f9,f10,f11,f12,f13,f14,f15,f16,f17,f18,f19,k1,k2,k3,hd1,hhd,e0,e1,e2,e3,g0,g1,g2,g3])
     · skip
       have g0:(((d.toNat:Int)<144)=False):=eq_false (by omega)
       have g1:((144≤(d.toNat:Int))=True):=eq_true (by omega)
       have g2:((d<144)=False):=eq_false fun hh=>by have:=(jD d 144 (by omega)).1.1 hh;omega
       have g3:((144≤d)=True):=eq_true ((jD d 144 (by omega)).2.2 (by omega))
       (conv=>arg 4;cbv);simp(maxSteps:=400000)only[↓aV,aW,BEq.rfl,reduceIte,reduceCtorEq,Nat.reduceLT,reduceAdd,reduceSub,reduceMul,Nat.reduceBEq,reduceLeDiff,reduceToNat,reduceLE,hg,↓eF,n1,n2,n3,z0,z1,z2,z3,i1,i2,i3,f0,f1,f2,f3,f4,f5,f6,f7,f8,f9,f10,f11,f12,f13,f14,f15,f16,f17,f18,f19,k1,k2,k3,hd1,hhd,e0,e1,e2,e3,g0,g1,g2,g3]
       exact hQ _ 4 rfl (by simp only [true_or,or_true,or_self,or_false,false_or,and_self,true_and,and_true,false_and,and_false,if_true,if_false,false_eq_true,c0,c1,c2,bZ,f0,f1,f2,f3,f4,f5,f6,f7,f8,f9,f10,f11,f12,f13,f14,f15,f16,f17,f18,f19,k1,k2,k3,hd1,hhd,e0,e1,e2,e3,g0,g1,g2,g3])
   · by_cases UJ:c.toNat=244
     · skip
       have e0:(((c.toNat:Int)=240)=False):=eq_false (by omega)
       have e1:((c=240)=False):=eq_false fun hh=>hc240 (by rw [hh];rfl)
       have e2:(((c.toNat:Int)=244)=True):=eq_true (by omega)
       have e3:((c=244)=True):=eq_true (UInt8.toNat_inj.1 (by simpa using UJ))
       by_cases hdl:d.toNat<144
       · skip
         have g0:(((d.toNat:Int)<144)=True):=eq_true (by omega)
         have g1:((144≤(d.toNat:Int))=False):=eq_false (by omega)
         have g2:((d<144)=True):=eq_true ((jD d 144 (by omega)).1.2 (by omega))
         have g3:((144≤d)=False):=eq_false fun hh=>by have:=(jD d 144 (by omega)).2.1 hh;omega
         (conv=>arg 4;cbv);simp(maxSteps:=400000)only[↓aV,aW,BEq.rfl,reduceIte,reduceCtorEq,Nat.reduceLT,reduceAdd,reduceSub,reduceMul,Nat.reduceBEq,reduceLeDiff,reduceToNat,reduceLE,hg,↓eF,n1,n2,n3,z0,z1,z2,z3,i1,i2,i3,f0,f1,f2,f3,f4,f5,f6,f7,f8,f9,f10,f11,f12,f13,f14,f15,f16,f17,f18,f19,k1,k2,k3,hd1,hhd,e0,e1,e2,e3,g0,g1,g2,g3]
         exact hQ _ 4 rfl (by simp only [true_or,or_true,or_self,or_false,false_or,and_self,true_and,and_true,false_and,and_false,if_true,if_false,false_eq_true,c0,c1,c2,bZ,f0,f1,f2,f3,f4,f5,f6,f7,f8,f9,f10,f11,f12,f13,f14,f15,f16,f17,f18,f19,k1,k2,k3,hd1,hhd,e0,e1,e2,e3,g0,g1,g2,g3])
       · skip
         have g0:(((d.toNat:Int)<144)=False):=eq_false (by omega)
         have g1:((144≤(d.toNat:Int))=True):=eq_true (by omega)
         have g2:((d<144)=False):=eq_false fun hh=>by have:=(jD d 144 (by omega)).1.1 hh;omega
         have g3:((144≤d)=True):=eq_true ((jD d 144 (by omega)).2.2 (by omega))
         (conv=>arg 4;cbv);simp(maxSteps:=400000)only[↓aV,aW,BEq.rfl,reduceIte,reduceCtorEq,Nat.reduceLT,reduceAdd,reduceSub,reduceMul,Nat.reduceBEq,reduceLeDiff,reduceToNat,reduceLE,hg,↓eF,n1,n2,n3,z0,z1,z2,z3,i1,i2,i3,f0,f1,f2,f3,f4,f5,f6,f7,f8,f9,f10,f11,f12,f13,f14,f15,f16,f17,f18,f19,k1,k2,k3,hd1,hhd,e0,e1,e2,e3,g0,g1,g2,g3]
         exact hQ _ 0 rfl (by simp only [true_or,or_true,or_self,or_false,false_or,and_self,true_and,and_true,false_and,and_false,if_true,if_false,false_eq_true,c0,c1,c2,bZ,f0,f1,f2,f3,f4,f5,f6,f7,f8,f9,f10,f11,f12,f13,f14,f15,f16,f17,f18,f19,k1,k2,k3,hd1,hhd,e0,e1,e2,e3,g0,g1,g2,g3])
     · skip
       have e0:(((c.toNat:Int)=240)=False):=eq_false (by omega)
       have e1:((c=240)=False):=eq_false fun hh=>hc240 (by rw [hh];rfl)
       have e2:(((c.toNat:Int)=244)=False):=eq_false (by omega)
       have e3:((c=244)=False):=eq_false fun hh=>UJ (by rw [hh];rfl)
       (conv=>arg 4;cbv);simp(maxSteps:=400000)only[↓aV,aW,BEq.rfl,reduceIte,reduceCtorEq,Nat.reduceLT,reduceAdd,reduceSub,reduceMul,Nat.reduceBEq,reduceLeDiff,reduceToNat,reduceLE,hg,↓eF,n1,n2,n3,z0,z1,z2,z3,i1,i2,i3,f0,f1,f2,f3,f4,f5,f6,f7,f8,f9,f10,f11,f12,f13,f14,f15,f16,f17,f18,f19,k1,k2,k3,hd1,hhd,e0,e1,e2,e3]
       exact hQ _ 4 rfl (by simp only [true_or,or_true,or_self,or_false,false_or,and_self,true_and,and_true,false_and,and_false,if_true,if_false,false_eq_true,c0,c1,c2,bZ,f0,f1,f2,f3,f4,f5,f6,f7,f8,f9,f10,f11,f12,f13,f14,f15,f16,f17,f18,f19,k1,k2,k3,hd1,hhd,e0,e1,e2,e3])
 · skip
   have f0:(((c.toNat:Int)<128)=False):=eq_false (by omega)
   have f1:((128≤(c.toNat:Int))=True):=eq_true (by omega)
   have f2:((c<128)=False):=eq_false fun hh=>by have:=(jD c 128 (by omega)).1.1 hh;omega
   have f3:((128≤c)=True):=eq_true ((jD c 128 (by omega)).2.2 (by omega))
   have f4:(((c.toNat:Int)<194)=False):=eq_false (by omega)
   have f5:((194≤(c.toNat:Int))=True):=eq_true (by omega)
   have f6:((c<194)=False):=eq_false fun hh=>by have:=(jD c 194 (by omega)).1.1 hh;omega
   have f7:((194≤c)=True):=eq_true ((jD c 194 (by omega)).2.2 (by omega))
   have f8:(((c.toNat:Int)<224)=False):=eq_false (by omega)
   have f9:((224≤(c.toNat:Int))=True):=eq_true (by omega)
   have f10:((c<224)=False):=eq_false fun hh=>by have:=(jD c 224 (by omega)).1.1 hh;omega
   have f11:((224≤c)=True):=eq_true ((jD c 224 (by omega)).2.2 (by omega))
   have f12:(((c.toNat:Int)<240)=False):=eq_false (by omega)
   have f13:((240≤(c.toNat:Int))=True):=eq_true (by omega)
   have f14:((c<240)=False):=eq_false fun hh=>by have:=(jD c 240 (by omega)).1.1 hh;omega
   have f15:((240≤c)=True):=eq_true ((jD c 240 (by omega)).2.2 (by omega))
   have f16:(((c.toNat:Int)<245)=False):=eq_false (by omega)
   have f17:((245≤(c.toNat:Int))=True):=eq_true (by omega)
   have f18:((c<245)=False):=eq_false fun hh=>by have:=(jD c 245 (by omega)).1.1 hh;omega
   have f19:((245≤c)=True):=eq_true ((jD c 245 (by omega)).2.2 (by omega))
   (conv=>arg 4;cbv);simp(maxSteps:=400000)only[↓aV,aW,BEq.rfl,reduceIte,reduceCtorEq,Nat.reduceLT,reduceAdd,reduceSub,reduceMul,Nat.reduceBEq,reduceLeDiff,reduceToNat,reduceLE,hg,↓eF,n1,n2,n3,z0,z1,z2,z3,i1,i2,i3,f0,f1,f2,f3,f4,f5,f6,f7,f8,f9,f10,f11,f12,f13,f14,f15,f16,f17,f18,f19]
   exact hQ _ 0 rfl (by simp only [true_or,or_true,or_self,or_false,false_or,and_self,true_and,and_true,false_and,and_false,if_true,if_false,false_eq_true,c0,c1,c2,bZ,f0,f1,f2,f3,f4,f5,f6,f7,f8,f9,f10,f11,f12,f13,f14,f15,f16,f17,f18,f19])
theorem RX (s:List UInt8) (i:Int) (h0:0≤i) (hi:i.toNat<s.length) (hl:s.length≤4611686018427387904):ai Tryz.prog 62 [.str s,.int .i64 i] [] (.int .i64 (bZ (s.drop i.toNat):Nat)) []:=by
 have e:i=(i.toNat:Int):=by omega
 rw [e]
 exact Wl s i.toNat hi hl
def x9:dF:=fun args objs K=>match args with
 | [.str s,.int .i64 i]=>(0≤i)∧(i.toNat<s.length)∧(s.length≤4611686018427387904)∧K (.int .i64 (bZ (s.drop i.toNat):Nat)) objs 0
 | _=>False
theorem G5:aB Tryz.prog 62 (x9):=by
 intro args objs K h
 unfold x9 at h
 split at h
 · rename_i s i
   obtain ⟨h1,h2,h3,hk⟩:=h
   exact ⟨_,_,_,.pure _ rfl (RX s i h1 h2 h3),hk⟩
 · exact h.elim
end Lp
namespace Lp
open Go Go.Proofs
open Nat (reduceAdd reduceLeDiff reduceMul reduceSub)
open Int (reduceLE reduceToNat)
theorem G6 (s:List UInt8):bZ s≤s.length:=by
 cases s with
 | nil=>simp [bZ]
 | cons c t=>
  have h0:∀ i,gY t i=true→i<t.length:=by
   intro i h
   obtain ⟨d,hd⟩:=Dx h
   exact (List.getElem?_eq_some_iff.1 hd).1
  simp only [bZ,List.length_cons]
  split
  · omega
  · split
    · rename_i h;have:=h0 0 h.2.2;omega
    · split
      · rename_i h;have:=h0 1 h.2.2.2;split <;> omega
      · split
        · rename_i h;have:=h0 2 h.2.2.2.2;split <;> omega
        · omega
theorem YZ (s:List UInt8) (hl:s.length≤4611686018427387904):ai Tryz.prog 25 [.str s] [] (.bool (utf s)) []:=by
 refine Dm.bg (T:=aR Tryz.prog [(62,x9)]) 0 hD (aj (af G5 ah)) a_ (by decide) fun Q hQ=>?_
 (conv=>arg 4;cbv);simp(maxSteps:=400000)only[↓aV,aW,BEq.rfl,reduceIte,reduceCtorEq,Nat.reduceLT,reduceAdd,reduceSub,reduceMul,Nat.reduceBEq,reduceLeDiff,reduceToNat,reduceLE,hQ]
 refine aH (fun m S=>∃ i:Nat,i+m=s.length∧FW m (s.drop i)=utf s∧S=⟨dI 17 [(0,.str s),(3,.int .i64 i)],[]⟩) s.length ⟨0,by omega,rfl,?_⟩ ?_
 · simp only [bW,keepR,reduceAdd,nu,Nat.reduceBEq,List.map_nil]
   rfl
 rintro m S ⟨i,him,hu,rfl⟩
 simp(maxSteps:=400000)only[↓aV,aW,BEq.rfl,reduceIte,reduceCtorEq,Nat.reduceLT,reduceAdd,reduceSub,reduceMul,Nat.reduceBEq,reduceLeDiff,reduceToNat,reduceLE,hQ,↓x9]
 have hle:=G6 (s.drop i)
 simp only [List.length_drop] at hle
 refine ⟨fun h=>⟨by omega,by omega,hl,fun h0=>?_,fun h0=>⟨⟨by omega,by omega⟩,m-bZ (s.drop i),by omega,i+bZ (s.drop i),by omega,?_,by simp⟩⟩,fun h=>?_⟩
 · obtain ⟨m,rfl⟩:∃ k,m=k+1:=⟨m-1,by omega⟩
   have hne:(s.drop i).isEmpty=false:=by
    rw [List.isEmpty_eq_false_iff]
    intro he
    have:=congrArg List.length he
    simp at this;omega
   rw [← hu,FW,hne]
   have:bZ (s.drop i)=0:=by omega
   simp [this]
 · obtain ⟨m,rfl⟩:∃ k,m=k+1:=⟨m-1,by omega⟩
   have hne:(s.drop i).isEmpty=false:=by
    rw [List.isEmpty_eq_false_iff]
    intro he
    have:=congrArg List.length he
    simp at this;omega
   rw [← hu]
   conv=>rhs;rw [FW,hne]
   have h1:(bZ (s.drop i) !=0)=true:=by simp;omega
   rw [h1,Bool.false_or,Bool.true_and,List.drop_drop]
   refine CP _ _ _ ?_ ?_
   · simp;omega
   · simp;omega
 · rw [← hu]
   have hn:s.drop i=[]:=List.drop_eq_nil_of_le (by omega)
   rw [hn]
   cases m <;> rfl
def gT:dF:=fun args objs K=>match args with
 | [.str s]=>(s.length≤4611686018427387904)∧K (.bool (utf s)) objs 0
 | _=>False
theorem Dy:aB Tryz.prog 25 (gT):=by
 intro args objs K h
 unfold gT at h
 split at h
 · rename_i s
   obtain ⟨h1,hk⟩:=h
   exact ⟨_,_,_,.pure _ rfl (YZ s h1),hk⟩
 · exact h.elim
theorem LU (s:List UInt8) (hl:s.length≤4611686018427387904):ai Tryz.prog 108 [.str s] [] (.bool (gq s)) []:=by
 refine wU.bg (T:=aR Tryz.prog []) 0 hD (aj ah) a_ (by decide) fun Q hQ=>?_
 (conv=>arg 4;cbv);simp(maxSteps:=400000)only[↓aV,aW,BEq.rfl,reduceIte,reduceCtorEq,Nat.reduceLT,reduceAdd,reduceSub,reduceMul,Nat.reduceBEq,reduceLeDiff,reduceToNat,reduceLE,hQ]
 refine aH (fun m S=>∃ i:Nat,i+m=s.length∧gq (s.drop i)=gq s∧S=⟨dI 20 [(0,.str s),(3,.int .i64 i)],[]⟩) s.length ⟨0,by omega,rfl,?_⟩ ?_
 · simp only [bW,keepR,reduceAdd,nu,Nat.reduceBEq,List.map_nil]
   rfl
 rintro m S ⟨i,him,hu,rfl⟩
 rcases Nat.lt_or_ge i s.length with h | h
 · have hg:=List.getElem?_eq_getElem h
   have hd:=List.drop_eq_getElem_cons h
   generalize s[i]=c at hg hd
   simp(maxSteps:=400000)only[↓aV,aW,BEq.rfl,reduceIte,reduceCtorEq,Nat.reduceLT,reduceAdd,reduceSub,reduceMul,Nat.reduceBEq,reduceLeDiff,reduceToNat,reduceLE,hQ,hg]
   have hf:gq (c::s.drop (i+1))=(decide (48≤c) && decide (c≤57) && gq (s.drop (i+1))):=by simp [gq]
   rw [hd,hf] at hu
   refine ⟨fun _=>⟨by omega,fun h1=>?_,fun h1=>⟨by omega,fun h2=>?_,fun h2=>⟨⟨by omega,by omega⟩,m-1,by omega,i+1,by omega,?_,by simp⟩⟩⟩,fun h1=>absurd (by omega) h1⟩
   · have:¬ (48≤c):=fun h=>by have:=(jD c 48 (by omega)).2.1 h;omega
     rw [← hu];simp [this]
   · have:¬ (c≤57):=fun h=>by have:c.toNat≤(57:UInt8).toNat:=UInt8.le_iff_toNat_le.1 h;have h57:(57:UInt8).toNat=57:=rfl;omega
     rw [← hu];simp [this]
   · have h3:48≤c:=(jD c 48 (by omega)).2.2 (by omega)
     have h4:c≤57:=UInt8.le_iff_toNat_le.2 (by have h57:(57:UInt8).toNat=57:=rfl;omega)
     rw [← hu];simp [h3,h4]
 · simp(maxSteps:=400000)only[↓aV,aW,BEq.rfl,reduceIte,reduceCtorEq,Nat.reduceLT,reduceAdd,reduceSub,reduceMul,Nat.reduceBEq,reduceLeDiff,reduceToNat,reduceLE,hQ]
   refine ⟨fun h1=>absurd h1 (by omega),fun _=>?_⟩
   rw [← hu,List.drop_eq_nil_of_le h];rfl
def pI:dF:=fun args objs K=>match args with
 | [.str s]=>(s.length≤4611686018427387904)∧K (.bool (gq s)) objs 0
 | _=>False
theorem G7:aB Tryz.prog 108 (pI):=by
 intro args objs K h
 unfold pI at h
 split at h
 · rename_i s
   obtain ⟨h1,hk⟩:=h
   exact ⟨_,_,_,.pure _ rfl (LU s h1),hk⟩
 · exact h.elim
theorem oK (n:Nd):rM n=true↔n.many=0∧gq n.s=true∧n.s.length≤100∧-1000≤n.e∧n.e≤1000∧n.s.length+n.e≤1000∧
  (if n.s=[] then n.neg=false∧n.e=0 else n.s.head?≠some 48∧n.s.getLast?≠some 48):=by
 simp only [rM,Bool.and_eq_true,decide_eq_true_eq,beq_iff_eq,and_assoc]
 split <;> simp
theorem jr {b:Bool}(h:b=true→False):b=false:=by cases b <;> simp_all
theorem Jc (n:Nd) (hl:n.s.length≤4611686018427387904) (hk:n.kind=3) (hn:n.name=[]):ai Tryz.prog 97 [ay n] [] (.bool (rM n)) []:=by
 refine zV.bg (T:=aR Tryz.prog [(108,pI)]) 0 hD (aj (af G7 ah)) a_ (by decide) fun Q hQ=>?_
 (conv=>arg 4;cbv);simp(maxSteps:=400000)only[↓aV,aW,BEq.rfl,reduceIte,reduceCtorEq,Nat.reduceLT,reduceAdd,reduceSub,reduceMul,Nat.reduceBEq,reduceLeDiff,reduceToNat,reduceLE,hQ]
 refine aN _ (Weak.freeze 1 0 (Nat.le_refl _) _) ?_
 cases hf:gq n.s
 · simp(maxSteps:=400000)only[↓aV,aW,BEq.rfl,reduceIte,reduceCtorEq,Nat.reduceLT,reduceAdd,reduceSub,reduceMul,Nat.reduceBEq,reduceLeDiff,reduceToNat,reduceLE,hQ,jC,↓pI,hk,hn,hf]
   have:rM n=false:=jr fun h=>by have:=((oK n).1 h).2.1;rw [hf] at this;cases this
   exact ⟨fun _=>⟨hl,this⟩,fun _=>this⟩
 by_cases hs:n.s=[]
 · simp(maxSteps:=400000)only[↓aV,aW,BEq.rfl,reduceIte,reduceCtorEq,Nat.reduceLT,reduceAdd,reduceSub,reduceMul,Nat.reduceBEq,reduceLeDiff,reduceToNat,reduceLE,hQ,jC,↓pI,hk,hn,hs]
   have hf0:gq []=true:=rfl
   have key:=oK n
   rw [if_pos hs,hs] at key
   have hlz:(([]:List UInt8).length:Int)=0:=rfl
   simp only [hf0,ifR,hlz,Int.zero_add,List.length_nil]
   refine ⟨fun h0=>⟨fun h=>absurd h (by omega),fun _=>⟨fun h=>jr fun hb=>?_,fun h1=>⟨fun h=>jr fun hb=>?_,fun h2=>⟨⟨by omega,by omega⟩,fun h=>jr fun hb=>?_,fun h3=>?_⟩⟩⟩⟩,fun h0=>jr fun hb=>?_⟩
   · have:=key.1 hb;omega
   · have:=key.1 hb;omega
   · have:=key.1 hb;omega
   · refine ⟨fun hng=>jr fun hb=>?_,fun hng=>?_⟩
     · have:=(key.1 hb).2.2.2.2.2.2.1;rw [hng] at this;cases this
     · by_cases hz:n.e=0
       · rw [decide_eq_true hz,key]
         exact ⟨h0,hf0,by simp,by omega,by omega,by simp;omega,hng,hz⟩
       · rw [decide_eq_false hz]
         exact jr fun hb=>hz (key.1 hb).2.2.2.2.2.2.2
   · have:=key.1 hb;omega
 · obtain ⟨c,t,hct⟩:∃ c t,n.s=c::t:=by
    cases h:n.s with
    | nil=>exact absurd h hs
    | cons c t=>exact ⟨c,t,rfl⟩
   have hlen:0<n.s.length:=by rw [hct];simp
   have g0:n.s[0]?=some c:=by rw [hct];rfl
   have g1:n.s[n.s.length-1]?=some (n.s[n.s.length-1]'(by omega)):=List.getElem?_eq_getElem (by omega)
   have t1:((n.s.length:Int)-1).toNat=n.s.length-1:=by omega
   have hl1:n.s.getLast?=some (n.s[n.s.length-1]'(by omega)):=by rw [List.getLast?_eq_getElem?,g1]
   have hh1:n.s.head?=some c:=by rw [hct];rfl
   generalize n.s[n.s.length-1]'(by omega)=d at g1 hl1
   have i1:(-9223372036854775808≤(n.s.length:Int)-1∧(n.s.length:Int)-1≤9223372036854775807)=True:=eq_true ⟨by omega,by omega⟩
   have z1:(0≤(n.s.length:Int)-1)=True:=eq_true (by omega)
   simp(maxSteps:=400000)only[↓aV,aW,BEq.rfl,reduceIte,reduceCtorEq,Nat.reduceLT,reduceAdd,reduceSub,reduceMul,Nat.reduceBEq,reduceLeDiff,reduceToNat,reduceLE,hQ,jC,↓pI,hk,hn,hs,hf,g0,t1,g1,i1,z1]
   have key:=oK n
   rw [if_neg hs,hh1,hl1] at key
   have e48:∀ x:UInt8,x=48↔x.toNat=48:=fun x=>⟨fun h=>by rw [h];rfl,fun h=>UInt8.toNat_inj.1 (by simpa using h)⟩
   refine ⟨fun h0=>⟨hl,fun h=>jr fun hb=>?_,fun h1=>⟨fun h=>jr fun hb=>?_,fun h2=>⟨fun h=>jr fun hb=>?_,fun h3=>⟨⟨by omega,by omega⟩,fun h=>jr fun hb=>?_,fun h4=>⟨fun h=>jr fun hb=>?_,fun h5=>?_⟩⟩⟩⟩⟩,fun h0=>jr fun hb=>?_⟩
   · have:=key.1 hb;omega
   · have:=key.1 hb;omega
   · have:=key.1 hb;omega
   · have:=key.1 hb;omega
   · refine (key.1 hb).2.2.2.2.2.2.1 ?_
     rw [(e48 c).2 (by omega)]
   · by_cases hz:d.toNat=48
     · have hz':(d.toNat:Int)=48:=by omega
       rw [decide_eq_true hz']
       refine jr fun hb=>(key.1 hb).2.2.2.2.2.2.2 ?_
       rw [(e48 d).2 hz]
     · have hz':¬ (d.toNat:Int)=48:=by omega
       rw [decide_eq_false hz',Bool.not_false,key]
       refine ⟨h0,hf,by omega,by omega,by omega,by omega,fun h=>?_,fun h=>?_⟩
       · have:=(e48 c).1 (by simpa using h);omega
       · exact hz ((e48 d).1 (by simpa using h))
   · exact h0 (key.1 hb).1
def fV:dF:=fun args objs K=>match args with
 | [a0]=>fB ay a0 (HK.mk:HK fun n=>(n.s.length≤4611686018427387904)∧(n.kind=3)∧(n.name=[])∧K (.bool (rM n)) objs 0)
 | _=>False
theorem G8:aB Tryz.prog 97 (fV):=by
 intro args objs K h
 unfold fV at h
 split at h
 · rename_i a0
   obtain ⟨n,rfl,h1,h2,h3,hk⟩:=h
   exact ⟨_,_,_,.pure _ rfl (Jc n h1 h2 h3),hk⟩
 · exact h.elim
end Lp
namespace Lp
open Go Go.Proofs
def tF (v:Vl) (i:Nat):Int:=match iD v.length (v.drop i) 1 with
 | some c=>(i+c:Nat)
 | none=>-1
theorem Ab {v:Vl}{i:Nat}(h:(iD v.length (v.drop i) 1).map (fun c=>i+c)=none):tF v i=-1:=by
 unfold tF
 cases hx:iD v.length (v.drop i) 1 with
 | none=>rfl
 | some c=>rw [hx] at h;simp at h
theorem G9 {v:Vl}{i j:Nat}(h:(iD v.length (v.drop i) 1).map (fun c=>i+c)=some j):tF v i=j:=by
 unfold tF
 cases hx:iD v.length (v.drop i) 1 with
 | none=>rw [hx] at h;simp at h
 | some c=>rw [hx] at h;simp only [Option.map_some,Option.some.injEq] at h;rw [← h]
theorem qy (L:Nat) (v:Vl):iD L v 0=some 0:=by cases v <;> rfl
theorem Wm (v:Vl) (i:Nat) (hi:i≤v.length) (hl:v.length≤1000000):ai Tryz.prog 68 [aS v,.int .i64 i] [] (.int .i64 (tF v i)) []:=by
 refine Bg.bg (T:=aR Tryz.prog []) 0 hD (aj ah) a_ (by decide) fun Q hQ=>?_
 (conv=>arg 4;cbv);simp(maxSteps:=400000)only[↓aV,aW,BEq.rfl,reduceIte,reduceCtorEq,Nat.reduceLT,Nat.reduceAdd,Nat.reduceSub,Nat.reduceMul,Nat.reduceBEq,Nat.reduceLeDiff,Int.reduceToNat,Int.reduceLE,hQ]
 refine aH (fun m S=>∃ j k:Nat,j+m=v.length∧k≤1+j*1000000∧(iD v.length (v.drop i) 1).map (fun c=>i+c)=(iD v.length (v.drop j) k).map (fun c=>j+c)∧
  S=⟨dI 41 [(0,aS v),(1,.int .i64 j),(5,.int .i64 k)],[]⟩) (v.length-i) ⟨i,1,by omega,by omega,rfl,?_⟩ ?_
 · simp only [bW,keepR,Nat.reduceAdd,nu,Nat.reduceBEq,List.map_nil]
   rfl
 rintro m S ⟨j,k,hjm,hk,hn,rfl⟩
 rcases Nat.lt_or_ge j v.length with h | h
 · have hg:=List.getElem?_eq_getElem h
   have hd:=List.drop_eq_getElem_cons h
   generalize v[j]=n at hg hd
   simp(maxSteps:=400000)only[↓aV,aW,BEq.rfl,reduceIte,reduceCtorEq,Nat.reduceLT,Nat.reduceAdd,Nat.reduceSub,Nat.reduceMul,Nat.reduceBEq,Nat.reduceLeDiff,Int.reduceToNat,Int.reduceLE,hQ,hg]
   refine ⟨fun hk0=>⟨fun h'=>absurd h' (by omega),fun _=>⟨by omega,fun hm=>?_,fun hm=>⟨by omega,fun hm2=>?_,fun hm2=>?_⟩⟩⟩,fun hk0=>?_⟩
   · obtain ⟨k,rfl⟩:∃ q,k=q+1:=⟨k-1,by omega⟩
     rw [hd,iD,if_pos (.inl hm)] at hn
     rw [Ab hn]
   · obtain ⟨k,rfl⟩:∃ q,k=q+1:=⟨k-1,by omega⟩
     rw [hd,iD,if_pos (.inr hm2)] at hn
     rw [Ab hn]
   · obtain ⟨k,rfl⟩:∃ q,k=q+1:=⟨k-1,by omega⟩
     rw [hd,iD,if_neg (by omega)] at hn
     have hk2:(((k+1:Nat):Int)-1+n.many)=((k+n.many.toNat:Nat):Int):=by omega
     refine ⟨⟨by omega,by omega⟩,by omega,⟨by omega,by omega⟩,⟨by omega,by omega⟩,m-1,by omega,j+1,k+n.many.toNat,by omega,by omega,?_,?_⟩
     · rw [hn]
       cases iD v.length (v.drop (j+1)) (k+n.many.toNat) with
       | none=>rfl
       | some c=>simp;omega
     · rw [hk2];rfl
   · have hk1:k=0:=by omega
     subst hk1
     rw [qy] at hn
     rw [G9 (j:=j) (by simpa using hn)]
 · simp(maxSteps:=400000)only[↓aV,aW,BEq.rfl,reduceIte,reduceCtorEq,Nat.reduceLT,Nat.reduceAdd,Nat.reduceSub,Nat.reduceMul,Nat.reduceBEq,Nat.reduceLeDiff,Int.reduceToNat,Int.reduceLE,hQ]
   refine ⟨fun hk0=>⟨fun _=>?_,fun h'=>absurd (by omega) h'⟩,fun hk0=>?_⟩
   · obtain ⟨k,rfl⟩:∃ q,k=q+1:=⟨k-1,by omega⟩
     rw [List.drop_eq_nil_of_le h] at hn
     simp only [iD,Option.map_none] at hn
     rw [Ab hn]
   · have hk1:k=0:=by omega
     subst hk1
     rw [qy] at hn
     rw [G9 (j:=j) (by simpa using hn)]
theorem RY (v:Vl) (i:Int) (h0:0≤i) (hi:i.toNat≤v.length) (hl:v.length≤1000000):ai Tryz.prog 68 [aS v,.int .i64 i] [] (.int .i64 (tF v i.toNat)) []:=by
 have e:i=(i.toNat:Int):=by omega
 rw [e]
 exact Wm v i.toNat hi hl
def jk:dF:=fun args objs K=>match args with
 | [a0,.int .i64 i]=>fB aS a0 (HK.mk:HK fun v=>(0≤i)∧(i.toNat≤v.length)∧(v.length≤1000000)∧K (.int .i64 (tF v i.toNat)) objs 0)
 | _=>False
theorem uW:aB Tryz.prog 68 (jk):=by
 intro args objs K h
 unfold jk at h
 split at h
 · rename_i a0 i
   obtain ⟨v,rfl,h1,h2,h3,hk⟩:=h
   exact ⟨_,_,_,.pure _ rfl (RY v i h1 h2 h3),hk⟩
 · exact h.elim
end Lp
namespace Lp
open Go Go.Proofs
open Nat (reduceAdd reduceLeDiff reduceMul reduceSub)
open Int (reduceEq reduceLE reduceToNat)
theorem RZ (n:Nd) (hl:n.s.length≤4611686018427387904):ai Tryz.prog 69 [ay n] [] (.bool (bH n)) []:=by
 refine zU.bg (T:=aR Tryz.prog [(25,gT),(97,fV)]) 0 hD (aj (af Dy (af G8 ah))) a_ (by decide) fun Q hQ=>?_
 have h8:n.kind=0∨n.kind=1∨n.kind=2∨n.kind=3∨n.kind=4∨n.kind=5∨n.kind=6∨(n.kind≠0∧n.kind≠1∧n.kind≠2∧n.kind≠3∧n.kind≠4∧n.kind≠5∧n.kind≠6):=by omega
 rcases h8 with hk | hk | hk | hk | hk | hk | hk | ⟨k0,k1,k2,k3,k4,k5,k6⟩
 · (conv=>arg 4;cbv);simp(maxSteps:=400000)only[↓aV,aW,BEq.rfl,reduceIte,reduceCtorEq,Nat.reduceLT,reduceAdd,reduceSub,reduceMul,Nat.reduceBEq,reduceLeDiff,reduceToNat,reduceLE,hQ,↓gT,↓fV,hk,reduceEq]
   rw [Bool.eq_iff_iff]
   simp [bH,hk,and_assoc]
 · (conv=>arg 4;cbv);simp(maxSteps:=400000)only[↓aV,aW,BEq.rfl,reduceIte,reduceCtorEq,Nat.reduceLT,reduceAdd,reduceSub,reduceMul,Nat.reduceBEq,reduceLeDiff,reduceToNat,reduceLE,hQ,↓gT,↓fV,hk,reduceEq]
   rw [Bool.eq_iff_iff]
   simp [bH,hk,and_assoc]
 · (conv=>arg 4;cbv);simp(maxSteps:=400000)only[↓aV,aW,BEq.rfl,reduceIte,reduceCtorEq,Nat.reduceLT,reduceAdd,reduceSub,reduceMul,Nat.reduceBEq,reduceLeDiff,reduceToNat,reduceLE,hQ,↓gT,↓fV,hk,reduceEq]
   rw [Bool.eq_iff_iff]
   simp [bH,hk,and_assoc]
 · (conv=>arg 4;cbv);simp(maxSteps:=400000)only[↓aV,aW,BEq.rfl,reduceIte,reduceCtorEq,Nat.reduceLT,reduceAdd,reduceSub,reduceMul,Nat.reduceBEq,reduceLeDiff,reduceToNat,reduceLE,hQ,↓gT,↓fV,hk,reduceEq]
   refine ⟨hl,?_⟩
   simp [bH,hk,rM]
 · (conv=>arg 4;cbv);simp(maxSteps:=400000)only[↓aV,aW,BEq.rfl,reduceIte,reduceCtorEq,Nat.reduceLT,reduceAdd,reduceSub,reduceMul,Nat.reduceBEq,reduceLeDiff,reduceToNat,reduceLE,hQ,↓gT,↓fV,hk,reduceEq]
   refine ⟨hl,?_⟩
   cases hu:utf n.s
   · simp [zZ,bH,hk,hu]
   · simp only [ifR]
     rw [Bool.eq_iff_iff]
     simp [bH,hk,hu,and_assoc]
 · (conv=>arg 4;cbv);simp(maxSteps:=400000)only[↓aV,aW,BEq.rfl,reduceIte,reduceCtorEq,Nat.reduceLT,reduceAdd,reduceSub,reduceMul,Nat.reduceBEq,reduceLeDiff,reduceToNat,reduceLE,hQ,↓gT,↓fV,hk,reduceEq]
   refine ⟨fun hm=>?_,fun hm=>?_⟩
   · rw [Bool.eq_iff_iff]
     simp [bH,hk,hm,and_assoc]
   · simp [bH,hk,hm]
 · (conv=>arg 4;cbv);simp(maxSteps:=400000)only[↓aV,aW,BEq.rfl,reduceIte,reduceCtorEq,Nat.reduceLT,reduceAdd,reduceSub,reduceMul,Nat.reduceBEq,reduceLeDiff,reduceToNat,reduceLE,hQ,↓gT,↓fV,hk,reduceEq]
   refine ⟨fun hm=>?_,fun hm=>?_⟩
   · rw [Bool.eq_iff_iff]
     simp [bH,hk,hm,and_assoc]
   · simp [bH,hk,hm]
 · (conv=>arg 4;cbv);simp(maxSteps:=400000)only[↓aV,aW,BEq.rfl,reduceIte,reduceCtorEq,Nat.reduceLT,reduceAdd,reduceSub,reduceMul,Nat.reduceBEq,reduceLeDiff,reduceToNat,reduceLE,hQ,↓gT,↓fV,k0,k1,k2,k3,k4,k5,k6]
   simp [bH,k0,k1,k2,k3,k4,k5,k6]
def tH:dF:=fun args objs K=>match args with
 | [a0]=>fB ay a0 (HK.mk:HK fun n=>(n.s.length≤4611686018427387904)∧K (.bool (bH n)) objs 0)
 | _=>False
theorem OT:aB Tryz.prog 69 (tH):=by
 intro args objs K h
 unfold tH at h
 split at h
 · rename_i a0
   obtain ⟨n,rfl,h1,hk⟩:=h
   exact ⟨_,_,_,.pure _ rfl (RZ n h1),hk⟩
 · exact h.elim
end Lp
namespace Lp
open Go Go.Proofs
open Nat (reduceAdd reduceLeDiff reduceMul reduceSub)
open Int (reduceEq reduceLE reduceToNat)
def Ac (kind:Int) (name:List UInt8):List Vl→Bool
 | []=>true
 | q::_=>kind !=6 || Op.bytesLess name (nameOf q)
structure Small (v:Vl):Prop where
 len:v.length≤1000000
 txt:∀ n ∈ v,n.s.length≤4611686018427387904∧n.name.length≤4611686018427387904
theorem tJ (L:Nat):∀ (v:Vl) (j k c:Nat),iD L v (j+k)=some c→∃ c1 c2,iD L v j=some c1∧iD L (v.drop c1) k=some c2∧c=c1+c2
 | v,0,k,c,h=>⟨0,c,qy L v,by simpa using h,by simp⟩
 | [],j+1,k,c,h=>by
  rw [show j+1+k=(j+k)+1 by omega] at h
  simp [iD] at h
 | n::v,j+1,k,c,h=>by
  rw [show j+1+k=(j+k)+1 by omega,iD] at h
  split at h
  · cases h
  · rename_i hn
    cases hs:iD L v (j+k+n.many.toNat) with
    | none=>rw [hs] at h;simp at h
    | some c'=>
     rw [hs] at h
     simp only [Option.map_some,Option.some.injEq] at h
     rw [show j+k+n.many.toNat=(j+n.many.toNat)+k by omega] at hs
     obtain ⟨c1,c2,h1,h2,rfl⟩:=tJ L v _ k c' hs
     refine ⟨c1+1,c2,?_,by simpa using h2,by omega⟩
     rw [iD,if_neg hn,h1];rfl
theorem Bz {v:Vl}{i c:Nat}(h:iD v.length (v.drop i) 1=some c):tF v i=(i+c:Nat):=by
 simp only [tF,h]
theorem OU (v:Vl) (at':Nat) (n:Nd) (c:Nat) (hs:Small v) (hat:v[at']?=some n) (hm:0≤n.many) (hc:iD v.length (v.drop (at'+1)) n.many.toNat=some c) (ps:List Vl) (hps:parts n.many.toNat (v.drop (at'+1))=some ps) :
  ai Tryz.prog 70 [aS v,.int .i64 at'] [] (.bool (kX n.kind ps)) []:=by
 obtain ⟨hl,htx⟩:=hs
 have aaU:=(List.getElem?_eq_some_iff.1 hat).1
 have hpl:=bS _ _ _ hps
 have GY:=eO _ _ _ hps
 simp only [List.length_drop] at GY
 refine yP.bg (T:=aR Tryz.prog [(25,gT),(68,jk)]) 0 hD (aj (af Dy (af uW ah))) a_ (by decide) fun Q hQ=>?_
 (conv=>arg 4;cbv);simp(maxSteps:=400000)only[↓aV,aW,BEq.rfl,reduceIte,reduceCtorEq,Nat.reduceLT,reduceAdd,reduceSub,reduceMul,Nat.reduceBEq,reduceLeDiff,reduceToNat,reduceLE,hQ]
 refine ⟨⟨by omega,by omega⟩,?_⟩
 refine aH (fun m S=>∃ (i c':Nat) (rest:List Vl),m=rest.length∧rest.length≤ps.length∧parts rest.length (v.drop i)=some rest∧iD v.length (v.drop i) rest.length=some c'∧kX n.kind rest=kX n.kind ps∧
  S=⟨dI 75 [(0,aS v),(1,.int .i64 at'),(5,.int .i64 i),(6,.int .i64 ((ps.length:Int)-rest.length))],[]⟩) ps.length ⟨at'+1,c,ps,rfl,Nat.le_refl _,by rw [hpl];exact hps,by rw [hpl];exact hc,rfl,?_⟩ ?_
 · simp only [bW,keepR,reduceAdd,nu,Nat.reduceBEq,List.map_nil]
   simp
 rintro m S ⟨i,c',rest,rfl,hrl,hrp,hrn,hrb,rfl⟩
 have hmn:n.many=(ps.length:Int):=by omega
 have z0:(0≤(at':Int))=True:=eq_true (by omega)
 have zi:(0≤(i:Int))=True:=eq_true (by omega)
 cases rest with
 | nil=>
  simp(maxSteps:=400000)only[↓aV,aW,BEq.rfl,reduceIte,reduceCtorEq,Nat.reduceLT,reduceAdd,reduceSub,reduceMul,Nat.reduceBEq,reduceLeDiff,reduceToNat,reduceLE,hQ,hat,hmn,z0]
  refine ⟨fun h=>absurd h (by simp),fun _=>?_⟩
  rw [← hrb];rfl
 | cons p qs=>
  obtain ⟨pc,qs',h1,h2,h3⟩:=eH (k:=qs.length) hrp
  simp only [List.cons.injEq] at h2
  obtain ⟨rfl,rfl⟩:=h2
  have hpc:=dZ _ _ _ h1
  simp only [List.length_drop] at hpc
  have hil:i<v.length:=by omega
  have hgi:=List.getElem?_eq_getElem hil
  have hdi:=List.drop_eq_getElem_cons hil
  have Jd:=htx _ (List.getElem_mem hil)
  generalize v[i]=pn at hgi hdi Jd
  have hname:nameOf (List.take pc (v.drop i))=pn.name:=by
   obtain ⟨q,hq⟩:∃ q,pc=q+1:=⟨pc-1,by omega⟩
   rw [hdi,hq];rfl
  obtain ⟨c1,c2,e1,e2,e3⟩:=tJ v.length (v.drop i) 1 qs.length c' (by rw [Nat.add_comm];exact hrn)
  have hcc:c1=pc:=by
   have:=oh _ _ _ _ e1
   rw [h1] at this
   exact (Option.some.inj this).symm
  subst hcc
  have hnx:=Bz e1
  simp only [List.length_cons] at hrl
  have ht1:((i+c1:Nat):Int).toNat=i+c1:=by omega
  have h3':parts qs.length (v.drop (i+c1))=some qs:=by rw [← List.drop_drop];exact h3
  have e2':iD v.length (v.drop (i+c1)) qs.length=some c2:=by rw [← List.drop_drop];exact e2
  have hun:∀ x:Bool,Ac n.kind pn.name qs=x→kX n.kind (List.take c1 (v.drop i)::qs)=((n.kind !=5 || pn.name==[]) && utf pn.name && x && kX n.kind qs):=by
   intro x hx
   rw [← hx]
   cases qs <;> simp only [kX,Ac,hname]
  have rY:((ps.length:Int)-((qs.length+1:Nat):Int)<(ps.length:Int))=True:=eq_true (by omega)
  cases hu:utf pn.name
  · have hfin:kX n.kind ps=false:=by rw [← hrb,hun _ rfl,hu];simp
    simp(maxSteps:=400000)only[↓aV,aW,BEq.rfl,reduceIte,reduceCtorEq,Nat.reduceLT,reduceAdd,reduceSub,reduceMul,Nat.reduceBEq,reduceLeDiff,reduceToNat,reduceLE,hQ,hat,hmn,z0,zi,hgi,↓gT,↓jk,hnx,hu,rY,hfin]
    exact ⟨fun _ _=>Jd.2,fun _=>Jd.2⟩
  by_cases h5:n.kind=5∧pn.name≠[]
  · have hfin:kX n.kind ps=false:=by rw [← hrb,hun _ rfl];simp [h5.1,h5.2]
    simp(maxSteps:=400000)only[↓aV,aW,BEq.rfl,reduceIte,reduceCtorEq,Nat.reduceLT,reduceAdd,reduceSub,reduceMul,Nat.reduceBEq,reduceLeDiff,reduceToNat,reduceLE,hQ,hat,hmn,z0,zi,hgi,↓gT,↓jk,hnx,hu,rY,h5.1,h5.2]
    rw [← h5.1];exact hfin
  have hc5:(n.kind !=5 || pn.name==[])=true:=by
   by_cases hk:n.kind=5
   · have:pn.name=[]:=Decidable.of_not_not fun h=>h5 ⟨hk,h⟩
     simp [this]
   · simp [hk]
  rw [hc5,hu] at hun
  have good:n.kind=5→pn.name=[]:=fun hk=>Decidable.of_not_not fun h=>h5 ⟨hk,h⟩
  have hlt1:(-9223372036854775808≤(ps.length:Int)-((qs.length+1:Nat):Int)+1∧(ps.length:Int)-((qs.length+1:Nat):Int)+1≤9223372036854775807)=True:=eq_true ⟨by omega,by omega⟩
  have hiv:i≤v.length:=by omega
  have e:(ps.length:Int)-((qs.length+1:Nat):Int)+1=(ps.length:Int)-qs.length:=by omega
  have l1:qs.length<qs.length+1:=Nat.lt_succ_self _
  have l2:qs.length≤ps.length:=by omega
  have zc:(0≤((i+c1:Nat):Int))=True:=eq_true (by omega)
  have step:Ac n.kind pn.name qs=true→∃ m',m'<qs.length+1∧∃ (FI c':Nat) (rest:List Vl),m'=rest.length∧rest.length≤ps.length∧parts rest.length (v.drop FI)=some rest∧iD v.length (v.drop FI) rest.length=some c'∧kX n.kind rest=kX n.kind ps∧
      (⟨dI 75 [(0,aS v),(1,.int .i64 at'),(5,.int .i64 (i+c1:Nat)),(6,.int .i64 ((ps.length:Int)-((qs.length+1:Nat):Int)+1))],[]⟩:St)=⟨dI 75 [(0,aS v),(1,.int .i64 at'),(5,.int .i64 FI),(6,.int .i64 ((ps.length:Int)-rest.length))],[]⟩:=by
   intro hx
   refine ⟨qs.length,l1,i+c1,c2,qs,rfl,l2,h3',e2',?_,?_⟩
   · rw [← hrb,hun true hx];simp
   · rw [e]
  have stop:Ac n.kind pn.name qs=false→kX n.kind ps=false:=fun hx=>by rw [← hrb,hun false hx];simp
  by_cases h6:n.kind=6
  · have h5':¬ n.kind=5:=by omega
    rcases Nat.eq_zero_or_pos qs.length with hq0 | hqp
    · have hq:qs=[]:=List.length_eq_zero_iff.1 hq0
      have hlast:((ps.length:Int)-((qs.length+1:Nat):Int)+1<(ps.length:Int))=False:=eq_false (by omega)
      have hst:=step (by rw [hq];rfl)
      simp(maxSteps:=400000)only[↓aV,aW,BEq.rfl,reduceIte,reduceCtorEq,Nat.reduceLT,reduceAdd,reduceSub,reduceMul,Nat.reduceBEq,reduceLeDiff,reduceToNat,reduceLE,hQ,hat,hmn,z0,zi,hgi,↓gT,↓jk,hnx,hu,rY,h6,reduceEq,hlt1,hlast]
      simp only [h6] at hst
      exact ⟨Jd.2,hiv,hl,hst⟩
    · obtain ⟨q,r,hqr⟩:∃ q r,qs=q::r:=by
       cases qs with
       | nil=>simp at hqp
       | cons q r=>exact ⟨q,r,rfl⟩
      have hmore:((ps.length:Int)-((qs.length+1:Nat):Int)+1<(ps.length:Int))=True:=eq_true (by omega)
      have g0:=h3'
      rw [hqr] at g0
      obtain ⟨pc2,qs2,g1,g2,g3⟩:=eH (k:=r.length) g0
      simp only [List.cons.injEq] at g2
      have ae_:=dZ _ _ _ g1
      simp only [List.length_drop] at ae_
      have aeg:i+c1<v.length:=by omega
      have acY:=List.getElem?_eq_getElem aeg
      have acZ:=List.drop_eq_getElem_cons aeg
      generalize v[i+c1]=qn at acY acZ
      have Y0:nameOf q=qn.name:=by
       obtain ⟨w,hw⟩:∃ w,pc2=w+1:=⟨pc2-1,by omega⟩
       rw [g2.1,acZ,hw];rfl
      have hno:Ac n.kind pn.name qs=Op.bytesLess pn.name qn.name:=by
       rw [hqr,Ac,Y0];simp [h6]
      clear g0 g1 g2 g3 hqr Y0 acZ hdi
      cases hbl:Op.bytesLess pn.name qn.name
      · have hfin:=stop (by rw [hno,hbl])
        simp(maxSteps:=400000)only[↓aV,aW,BEq.rfl,reduceIte,reduceCtorEq,Nat.reduceLT,reduceAdd,reduceSub,reduceMul,Nat.reduceBEq,reduceLeDiff,reduceToNat,reduceLE,hQ,hat,hmn,z0,zi,hgi,↓gT,↓jk,hnx,hu,rY,h6,reduceEq,hlt1,hmore,zc,ht1,acY,hbl]
        rw [h6] at hfin
        exact ⟨Jd.2,hiv,hl,hfin⟩
      · have hst:=step (by rw [hno,hbl])
        simp(maxSteps:=400000)only[↓aV,aW,BEq.rfl,reduceIte,reduceCtorEq,Nat.reduceLT,reduceAdd,reduceSub,reduceMul,Nat.reduceBEq,reduceLeDiff,reduceToNat,reduceLE,hQ,hat,hmn,z0,zi,hgi,↓gT,↓jk,hnx,hu,rY,h6,reduceEq,hlt1,hmore,zc,ht1,acY,hbl]
        simp only [h6] at hst
        exact ⟨Jd.2,hiv,hl,hst⟩
  · have hst:=step (by cases qs <;> simp [Ac,h6])
    simp(maxSteps:=400000)only[↓aV,aW,BEq.rfl,reduceIte,reduceCtorEq,Nat.reduceLT,reduceAdd,reduceSub,reduceMul,Nat.reduceBEq,reduceLeDiff,reduceToNat,reduceLE,hQ,hat,hmn,z0,zi,hgi,↓gT,↓jk,hnx,hu,rY,h6,hlt1]
    exact ⟨fun h5'=>⟨fun _=>⟨Jd.2,hiv,hl,hst⟩,fun hne=>absurd (good h5') hne⟩,fun _=>⟨Jd.2,hiv,hl,hst⟩⟩
end Lp
namespace Lp
open Go Go.Proofs
open Nat (reduceAdd reduceLeDiff reduceMul reduceSub)
open Int (reduceLE reduceToNat)
theorem LV (L:Nat):∀ (v:Vl) (k c i:Nat),iD L v k=some c→i<c→∃ k' c',iD L (v.drop i) (k'+1)=some c'
 | v,0,c,i,h,hi=>by rw [qy] at h;cases h;omega
 | [],k+1,c,i,h,hi=>by simp [iD] at h
 | n::v,k+1,c,0,h,hi=>⟨k,c,by simpa using h⟩
 | n::v,k+1,c,i+1,h,hi=>by
  rw [iD] at h
  split at h
  · cases h
  · cases hs:iD L v (k+n.many.toNat) with
    | none=>rw [hs] at h;simp at h
    | some c'=>
     rw [hs] at h
     simp only [Option.map_some,Option.some.injEq] at h
     simpa using LV L v _ c' i hs (by omega)
def Dz (v:Vl) (i:Nat):Bool:=match v.drop i with
 | n::r=>(match parts n.many.toNat r with | some ps=>kX n.kind ps | none=>false)
 | []=>true
theorem R7 {v:Vl}{i:Nat}{n:Nd}(hi:v[i]?=some n):fH (v.drop i)=(bH n && Dz v i && fH (v.drop (i+1))):=by
 have hl:=(List.getElem?_eq_some_iff.1 hi).1
 have hd:=List.drop_eq_getElem_cons hl
 rw [List.getElem?_eq_getElem hl] at hi
 cases hi
 simp only [Dz,hd,fH]
 rfl
theorem OV (v:Vl) (i:Int) (h0:0≤i) (hi:i.toNat<v.length) (hs:Small v) (hn:iD v.length v 1=some v.length) :
  ai Tryz.prog 70 [aS v,.int .i64 i] [] (.bool (Dz v i.toNat)) []:=by
 obtain ⟨i,rfl⟩:∃ k:Nat,i=k:=⟨i.toNat,by omega⟩
 simp only [Int.toNat_natCast] at hi ⊢
 have hg:=List.getElem?_eq_getElem hi
 have hd:=List.drop_eq_getElem_cons hi
 generalize v[i]=n at hg hd
 obtain ⟨k',c',h'⟩:=LV v.length v 1 _ i hn hi
 rw [Nat.add_comm] at h'
 obtain ⟨c1,_,h1,_,_⟩:=tJ v.length _ 1 k' c' h'
 rw [hd,iD] at h1
 split at h1
 · cases h1
 · rename_i hm
   cases hx:iD v.length (v.drop (i+1)) (0+n.many.toNat) with
   | none=>rw [hx] at h1;simp at h1
   | some c=>
    rw [Nat.zero_add] at hx
    obtain ⟨ps,hp,_,_⟩:=eG _ _ _ (oh _ _ _ _ hx)
    have:=OU v i n c hs hg (by omega) hx ps hp
    simp only [Dz,hd,hp]
    exact this
def qa:dF:=fun args objs K=>match args with
 | [a0,.int .i64 i]=>fB aS a0 (HK.mk:HK fun v=>(0≤i)∧(i.toNat<v.length)∧(Small v)∧(iD v.length v 1=some v.length)∧K (.bool (Dz v i.toNat)) objs 0)
 | _=>False
theorem LW:aB Tryz.prog 70 (qa):=by
 intro args objs K h
 unfold qa at h
 split at h
 · rename_i a0 i
   obtain ⟨v,rfl,h1,h2,h3,h4,hk⟩:=h
   exact ⟨_,_,_,.pure _ rfl (OV v i h1 h2 h3 h4),hk⟩
 · exact h.elim
theorem R8 (v:Vl) (hs:Small v):ai Tryz.prog 36 [aS v] [] (.bool (dJ v)) []:=by
 have hl:=hs.len
 refine zP.bg (T:=aR Tryz.prog [(68,jk),(69,tH),(70,qa)]) 0 hD (aj (af uW (af OT (af LW ah)))) a_ (by decide) fun Q hQ=>?_
 rcases Nat.eq_zero_or_pos v.length with hv | hv
 · have hr:dJ v=false:=by
    have:v=[]:=List.length_eq_zero_iff.1 hv
    rw [this];rfl
   have hv':((v.length:Int)=0)=True:=eq_true (by omega)
   (conv=>arg 4;cbv);simp(maxSteps:=400000)only[↓aV,aW,BEq.rfl,reduceIte,reduceCtorEq,Nat.reduceLT,reduceAdd,reduceSub,reduceMul,Nat.reduceBEq,reduceLeDiff,reduceToNat,reduceLE,hQ,hr,hv']
 have hv':((v.length:Int)=0)=False:=eq_false (by omega)
 obtain ⟨n0,r0,hvr⟩:∃ n r,v=n::r:=by
  cases v with
  | nil=>simp at hv
  | cons n r=>exact ⟨n,r,rfl⟩
 have hg0:v[0]?=some n0:=by rw [hvr];rfl
 have hnm:nameOf v=n0.name:=by rw [hvr];rfl
 have hne:v.isEmpty=false:=by rw [hvr];rfl
 by_cases hname:n0.name=[]
 rotate_left 1
 · have hr:dJ v=false:=by simp [dJ,hnm,hname]
   (conv=>arg 4;cbv);simp(maxSteps:=400000)only[↓aV,aW,BEq.rfl,reduceIte,reduceCtorEq,Nat.reduceLT,reduceAdd,reduceSub,reduceMul,Nat.reduceBEq,reduceLeDiff,reduceToNat,reduceLE,hQ,hr,hv',hg0,hname]
 have hz:Int.toNat 0=0:=rfl
 by_cases hnx:tF v 0=(v.length:Int)
 rotate_left 1
 · have hr:dJ v=false:=by
    have:iD v.length v 1≠some v.length:=fun h=>hnx (by rw [Bz (i:=0) (by simpa using h)];simp)
    simp [dJ,this]
   (conv=>arg 4;cbv);simp(maxSteps:=400000)only[↓aV,aW,BEq.rfl,reduceIte,reduceCtorEq,Nat.reduceLT,reduceAdd,reduceSub,reduceMul,Nat.reduceBEq,reduceLeDiff,reduceToNat,reduceLE,hQ,hr,hv',hg0,hname,↓jk,hnx]
   exact ⟨by omega,hl⟩
 have hn:iD v.length v 1=some v.length:=by
  unfold tF at hnx
  rw [List.drop_zero] at hnx
  cases hx:iD v.length v 1 with
  | none=>rw [hx] at hnx;simp only at hnx;omega
  | some c=>rw [hx] at hnx;simp only at hnx;congr 1;omega
 have hr:dJ v=fH v:=by simp [dJ,hnm,hname,hn,hne]
 (conv=>arg 4;cbv);simp(maxSteps:=400000)only[↓aV,aW,BEq.rfl,reduceIte,reduceCtorEq,Nat.reduceLT,reduceAdd,reduceSub,reduceMul,Nat.reduceBEq,reduceLeDiff,reduceToNat,reduceLE,hQ,hv',hg0,hname,↓jk,hnx]
 refine ⟨by omega,hl,?_⟩
 refine aH (fun m S=>∃ i:Nat,i+m=v.length∧fH (v.drop i)=fH v∧S=⟨dI 39 [(0,aS v),(3,.int .i64 i)],[]⟩) v.length ⟨0,by omega,rfl,?_⟩ ?_
 · simp only [bW,keepR,reduceAdd,nu,Nat.reduceBEq,List.map_nil]
   rfl
 rintro m S ⟨i,him,hgd,rfl⟩
 rcases Nat.lt_or_ge i v.length with h | h
 · have hg:=List.getElem?_eq_getElem h
   have htx:=hs.txt _ (List.getElem_mem h)
   generalize v[i]=n at hg htx
   have hd:=R7 hg
   rw [hgd] at hd
   have zi:(0≤(i:Int))=True:=eq_true (by omega)
   have hlt:((i:Int)<(v.length:Int))=True:=eq_true (by omega)
   cases hp:bH n
   · have hr2:dJ v=false:=by rw [hr,hd,hp];rfl
     simp(maxSteps:=400000)only[↓aV,aW,BEq.rfl,reduceIte,reduceCtorEq,Nat.reduceLT,reduceAdd,reduceSub,reduceMul,Nat.reduceBEq,reduceLeDiff,reduceToNat,reduceLE,hQ,hg,↓tH,↓qa,hp,zi,hlt,hr2]
     exact htx.1
   cases hq:Dz v i
   · have hr2:dJ v=false:=by rw [hr,hd,hp,hq];rfl
     simp(maxSteps:=400000)only[↓aV,aW,BEq.rfl,reduceIte,reduceCtorEq,Nat.reduceLT,reduceAdd,reduceSub,reduceMul,Nat.reduceBEq,reduceLeDiff,reduceToNat,reduceLE,hQ,hg,↓tH,↓qa,hp,hq,zi,hlt,hr2]
     exact ⟨htx.1,h,hs,hn⟩
   · simp(maxSteps:=400000)only[↓aV,aW,BEq.rfl,reduceIte,reduceCtorEq,Nat.reduceLT,reduceAdd,reduceSub,reduceMul,Nat.reduceBEq,reduceLeDiff,reduceToNat,reduceLE,hQ,hg,↓tH,↓qa,hp,hq,zi,hlt]
     refine ⟨htx.1,h,hs,hn,⟨by omega,by omega⟩,m-1,by omega,i+1,by omega,?_,by simp⟩
     rw [hd,hp,hq];simp
 · have hlt:((i:Int)<(v.length:Int))=False:=eq_false (by omega)
   simp(maxSteps:=400000)only[↓aV,aW,BEq.rfl,reduceIte,reduceCtorEq,Nat.reduceLT,reduceAdd,reduceSub,reduceMul,Nat.reduceBEq,reduceLeDiff,reduceToNat,reduceLE,hQ,hlt]
   rw [hr,← hgd,List.drop_eq_nil_of_le h];rfl
def xA:dF:=fun args objs K=>match args with
 | [a0]=>fB aS a0 (HK.mk:HK fun v=>(Small v)∧K (.bool (dJ v)) objs 0)
 | _=>False
theorem OW:aB Tryz.prog 36 (xA):=by
 intro args objs K h
 unfold xA at h
 split at h
 · rename_i a0
   obtain ⟨v,rfl,h1,hk⟩:=h
   exact ⟨_,_,_,.pure _ rfl (R8 v h1),hk⟩
 · exact h.elim
end Lp
namespace Lp
open Go Go.Proofs
open List (length_append length_cons length_nil map_map map_nil mem_singleton)
open Nat (reduceAdd reduceLeDiff reduceMul reduceSub)
open Int (reduceLE reduceToNat)
theorem bO:PV.vX (.agg ⟨[.int .i64 0,.int .i64 0,.string ⟨⟨[]⟩⟩,.string ⟨⟨[]⟩⟩,.bool false,.int .i64 0]⟩)=ay ⟨0,0,[],[],false,0⟩:=rfl
theorem bP (a:Nd) (k m:Int) (x y:List UInt8) (g:Bool) (e:Int):(ay a).putCells 0 [.int .i64 k,.int .i64 m,.str x,.str y,.bool g,.int .i64 e]=ay ⟨k,m,x,y,g,e⟩:=rfl
theorem aeh (n:Nd) (r:Vl):(∀ y,y ∈ ay n::r.map ay→y.cells.length=6∧y.cells.all PV.storable=true)=True:=by
 have:=rX (enc:=ay) (sz:=6) (fun _=>rfl) (fun _=>rfl) (n::r)
 rwa [List.map_cons] at this
theorem Y1 (v:Vl) (i j:Nat) (hij:i<j) (hj:j≤v.length) (hl:v.length≤1000000):ai Tryz.prog 74 [aS v,.int .i64 i,.int .i64 j] [] (aS (j4 ((v.take j).drop i))) []:=by
 obtain ⟨n,r,hnr⟩:∃ n r,(v.take j).drop i=n::r:=by
  cases h:(v.take j).drop i with
  | nil=>have:=congrArg List.length h;simp at this;omega
  | cons n r=>exact ⟨n,r,rfl⟩
 have hlen:((v.take j).drop i).length≤1000000:=by simp;omega
 rw [hnr] at hlen ⊢
 simp only [length_cons] at hlen
 have zi:(0≤(i:Int))=True:=eq_true (by omega)
 have c1:((i:Int)≤(j:Int))=True:=eq_true (by omega)
 have c2:((j:Int)≤(v.length:Int))=True:=eq_true (by omega)
 refine Dq.bg (T:=aR Tryz.prog []) 1 hD (aj ah) a_ (by decide) fun Q hQ=>?_
 (conv=>arg 4;cbv);simp(maxSteps:=400000)only[↓aV,aW,BEq.rfl,reduceIte,reduceCtorEq,Nat.reduceLT,reduceAdd,reduceSub,reduceMul,Nat.reduceBEq,reduceLeDiff,reduceToNat,reduceLE,hQ,zi,c1,c2,hnr,bO,bP,aeh,List.set_cons_zero]
 exact ⟨by omega,by omega,by omega,by omega,((iZ hV inN).1 _ _ (j4 (n::r)) 2 _).symm⟩
theorem Wn (v:Vl) (i j:Int) (h:0≤i∧i<j∧j≤v.length) (hl:v.length≤1000000):ai Tryz.prog 74 [aS v,.int .i64 i,.int .i64 j] [] (aS (j4 ((v.take j.toNat).drop i.toNat))) []:=by
 have e1:i=(i.toNat:Int):=by omega
 have e2:j=(j.toNat:Int):=by omega
 have:=Y1 v i.toNat j.toNat (by omega) (by omega) hl
 rw [← e1,← e2] at this
 exact this
def LX:dF:=fun args objs K=>match args with
 | [a0,.int .i64 i,.int .i64 j]=>fB aS a0 (HK.mk:HK fun v=>(0≤i∧i<j∧j≤v.length)∧(v.length≤1000000)∧K (aS (j4 ((v.take j.toNat).drop i.toNat))) objs 0)
 | _=>False
theorem Wo:aB Tryz.prog 74 (LX):=by
 intro args objs K h
 unfold LX at h
 split at h
 · rename_i a0 i j
   obtain ⟨v,rfl,h1,h2,hk⟩:=h
   exact ⟨_,_,_,.pure _ rfl (Wn v i j h1 h2),hk⟩
 · exact h.elim
theorem qz (L:Nat):∀ (v:Vl) (k c:Nat),skip v k=some c→c≤L→iD L v k=some c
 | v,0,c,h,_=>by cases v <;> simpa [iD,skip] using h
 | [],k+1,c,h,_=>by simp [skip] at h
 | n::v,k+1,c,h,hc=>by
  obtain ⟨hm,c',rfl,h'⟩:=dh h
  have:=dZ _ _ _ h'
  rw [iD,if_neg (by omega),qz L v _ c' h' (by omega)];rfl
def aei (l:List Vl) (ver:Nat):Obj:=⟨41,1,l.map aS,true,ver⟩
def aej (l:List (List UInt8)) (ver:Nat):Obj:=⟨9,1,l.map .str,true,ver⟩
theorem Wp (d n:Nat) (O:List Obj) (t:TypeId) (sz:Nat) (l:List Vl) (ver:Nat):fE d n O ⟨t,sz,l.map aS,true,ver⟩=⟨t,sz,l.map aS,true,ver⟩:=by
 have:(l.map aS).map (PV.bJ (eY d n O))=l.map aS:=by
  rw [map_map]
  exact List.map_congr_left fun x _=>rfl
 simp only [fE,this]
theorem Ky (d n:Nat) (O:List Obj) (t:TypeId) (sz:Nat) (l:List (List UInt8)) (ver:Nat):fE d n O ⟨t,sz,l.map .str,true,ver⟩=⟨t,sz,l.map .str,true,ver⟩:=by
 have:(l.map PV.str).map (PV.bJ (eY d n O))=l.map PV.str:=by
  rw [map_map]
  exact List.map_congr_left fun x _=>rfl
 simp only [fE,this]
theorem Kz (l:List Vl) (ver:Nat):eX [aei l ver]:=by
 intro o ho x hx c hc
 simp only [mem_singleton] at ho;subst ho
 obtain ⟨y,_,rfl⟩:=List.mem_map.1 hx
 simp only [aS,PV.cells,mem_singleton] at hc
 subst hc;rfl
theorem DC (l:List (List UInt8)) (ver:Nat):eX [aej l ver]:=by
 intro o ho x hx c hc
 simp only [mem_singleton] at ho;subst ho
 obtain ⟨y,_,rfl⟩:=List.mem_map.1 hx
 simp only [PV.cells,mem_singleton] at hc
 subst hc;rfl
theorem Je (v:Vl) (ho:One v) (hl:v.length≤1000000):ai Tryz.prog 42 [aS v] [] (.bG 0 0) [aei (bQ v) 0]:=by
 obtain ⟨n,r,hv⟩:∃ n r,v=n::r:=by
  cases v with
  | nil=>exact absurd rfl ho.ne
  | cons n r=>exact ⟨n,r,rfl⟩
 have ho':=ho
 rw [hv] at ho'
 obtain ⟨hm,ps,hp,hfl,hps⟩:=ho'.parts
 have hpl:=bS _ _ _ hp
 have hg0:v[0]?=some n:=by rw [hv];rfl
 have hr:bQ v=ps.map j4:=by rw [hv,bQ];exact (gF hp).1
 have hmn:n.many=(ps.length:Int):=by omega
 have hd1:v.drop 1=r:=by rw [hv];rfl
 have GY:=eO _ _ _ hp
 have hrl:r.length+1=v.length:=by rw [hv];rfl
 rw [hr]
 refine zR.abV (T:=aR Tryz.prog [(68,jk),(74,LX)]) 1 hD (aj (af uW (af Wo ah))) a_ fun Q hQ=>?_
 (conv=>arg 4;cbv);simp(maxSteps:=400000)only[↓aV,aW,BEq.rfl,reduceIte,reduceCtorEq,Nat.reduceLT,reduceAdd,reduceSub,reduceMul,Nat.reduceBEq,reduceLeDiff,reduceToNat,reduceLE,hQ]
 refine aH (fun m S=>∃ (i ver:Nat) (done:List Vl) (rest:List Vl),m=rest.length∧done.length+rest.length=ps.length∧done++rest.map j4=ps.map j4∧parts rest.length (v.drop i)=some rest∧
  S=⟨dI 28 [(0,aS v),(3,.bG 0 ver),(4,.int .i64 i),(5,.int .i64 done.length)],[⟨41,1,done.map aS,true,ver⟩]⟩) ps.length ⟨1,1,[],ps,rfl,by simp,rfl,by rw [hd1,hpl];exact hp,?_⟩ ?_
 · simp only [bW,keepR,reduceAdd,nu,Nat.reduceBEq,map_nil]
   rfl
 rintro m S ⟨i,ver,done,rest,rfl,hdl,hdr,hrp,rfl⟩
 cases rest with
 | nil=>
  simp only [length_nil,Nat.add_zero] at hdl
  have hlt:((done.length:Int)<(ps.length:Int))=False:=eq_false (by omega)
  simp only [map_nil,List.append_nil] at hdr
  simp(maxSteps:=400000)only[↓aV,aW,BEq.rfl,reduceIte,reduceCtorEq,Nat.reduceLT,reduceAdd,reduceSub,reduceMul,Nat.reduceBEq,reduceLeDiff,reduceToNat,reduceLE,hQ,hg0,hmn,hlt]
  rw [hdr]
  exact acW (k:=0) (ver:=ver) rfl rfl rfl rfl (congrArg (fun o:Obj=>{ o with ver:=0 }) (Wp 1 1 _ 41 1 (ps.map j4) ver)) (Kz _ 0)
 | cons p qs=>
  obtain ⟨c,qs',h1,h2,h3⟩:=eH (k:=qs.length) hrp
  simp only [List.cons.injEq] at h2
  obtain ⟨hp1,rfl⟩:=h2
  simp only [length_cons] at hdl
  have hlt:((done.length:Int)<(ps.length:Int))=True:=eq_true (by omega)
  have hc:=dZ _ _ _ h1
  simp only [List.length_drop] at hc
  have hnx:tF v i=(i+c:Nat):=Bz (qz _ _ _ _ h1 (by omega))
  have zi:(0≤(i:Int))=True:=eq_true (by omega)
  simp(maxSteps:=400000)only[↓aV,aW,BEq.rfl,reduceIte,reduceCtorEq,Nat.reduceLT,reduceAdd,reduceSub,reduceMul,Nat.reduceBEq,reduceLeDiff,reduceToNat,reduceLE,hQ,hg0,hmn,hlt,↓jk,↓LX,hnx,zi]
  have hpe:List.drop i (List.take (i+c) v)=p:=by
   rw [List.drop_take,hp1,show i+c-i=c by omega]
  have happ:List.map aS done++[aS (j4 p)]=List.map aS (done++[j4 p]):=by simp
  rw [hpe,happ]
  refine ⟨by omega,hl,⟨by omega,by omega⟩,hl,by omega,by omega,⟨by omega,by omega⟩,qs.length,by omega,i+c,ver+1,done++[j4 p],qs,rfl,?_,?_,?_,?_⟩
  · simp only [length_append,length_cons,length_nil];omega
  · rw [← hdr];simp
  · rw [← List.drop_drop];exact h3
  · simp only [length_append,length_cons,length_nil,Nat.zero_add,Int.natCast_add,Int.cast_ofNat_Int,Int.natCast_one]
theorem Jf (v:Vl) (ho:One v) (hl:v.length≤1000000):ai Tryz.prog 42 [aS v] [] (mO (bQ v)) []:=
 (Je v ho hl).froze rfl rfl (Kz _ 0)
def oL:dF:=fun args objs K=>match args with
 | [a0]=>fB aS a0 (HK.mk:HK fun v=>(One v)∧(v.length≤1000000)∧K (mO (bQ v)) objs 0)
 | _=>False
theorem G_:aB Tryz.prog 42 (oL):=by
 intro args objs K h
 unfold oL at h
 split at h
 · rename_i a0
   obtain ⟨v,rfl,h1,h2,hk⟩:=h
   exact ⟨_,_,_,.pure _ rfl (Jf v h1 h2),hk⟩
 · exact h.elim
theorem EW (v:Vl) (ho:One v) (hl:v.length≤1000000):ai Tryz.prog 82 [aS v] [] (.bG 0 0) [aej (fC v) 0]:=by
 obtain ⟨n,r,hv⟩:∃ n r,v=n::r:=by
  cases v with
  | nil=>exact absurd rfl ho.ne
  | cons n r=>exact ⟨n,r,rfl⟩
 have ho':=ho
 rw [hv] at ho'
 obtain ⟨hm,ps,hp,hfl,hps⟩:=ho'.parts
 have hpl:=bS _ _ _ hp
 have hg0:v[0]?=some n:=by rw [hv];rfl
 have hr:fC v=if n.kind=6 then ps.map nameOf else []:=by rw [hv,fC,(gF hp).2]
 have hmn:n.many=(ps.length:Int):=by omega
 have hd1:v.drop 1=r:=by rw [hv];rfl
 have GY:=eO _ _ _ hp
 have hrl:r.length+1=v.length:=by rw [hv];rfl
 refine zT.abV (T:=aR Tryz.prog [(68,jk)]) 1 hD (aj (af uW ah)) a_ fun Q hQ=>?_
 (conv=>arg 4;cbv);simp(maxSteps:=400000)only[↓aV,aW,BEq.rfl,reduceIte,reduceCtorEq,Nat.reduceLT,reduceAdd,reduceSub,reduceMul,Nat.reduceBEq,reduceLeDiff,reduceToNat,reduceLE,hQ]
 refine aH (fun m S=>∃ (i ver:Nat) (done:List (List UInt8)) (rest:List Vl),m=rest.length∧(done=[]∨n.kind=6)∧done.length+rest.length=ps.length∧done++rest.map nameOf=ps.map nameOf∧parts rest.length (v.drop i)=some rest∧
  S=⟨dI 34 [(0,aS v),(3,.bG 0 ver),(4,.int .i64 i),(5,.int .i64 done.length)],[⟨9,1,done.map .str,true,ver⟩]⟩) ps.length ⟨1,1,[],ps,rfl,.inl rfl,by simp,rfl,by rw [hd1,hpl];exact hp,?_⟩ ?_
 · simp only [bW,keepR,reduceAdd,nu,Nat.reduceBEq,map_nil]
   rfl
 rintro m S ⟨i,ver,done,rest,rfl,hdn,hdl,hdr,hrp,rfl⟩
 cases rest with
 | nil=>
  simp only [length_nil,Nat.add_zero] at hdl
  have hlt:((done.length:Int)<(ps.length:Int))=False:=eq_false (by omega)
  simp only [map_nil,List.append_nil] at hdr
  simp(maxSteps:=400000)only[↓aV,aW,BEq.rfl,reduceIte,reduceCtorEq,Nat.reduceLT,reduceAdd,reduceSub,reduceMul,Nat.reduceBEq,reduceLeDiff,reduceToNat,reduceLE,hQ,hg0,hmn,hlt]
  have hd:done=fC v:=by
   rw [hr]
   split
   · exact hdr
   · rename_i h6
     exact hdn.resolve_right h6
  rw [hd]
  exact acW (k:=0) (ver:=ver) rfl rfl rfl rfl (congrArg (fun o:Obj=>{ o with ver:=0 }) (Ky 1 1 _ 9 1 (fC v) ver)) (DC _ 0)
 | cons p qs=>
  obtain ⟨c,qs',h1,h2,h3⟩:=eH (k:=qs.length) hrp
  simp only [List.cons.injEq] at h2
  obtain ⟨hp1,rfl⟩:=h2
  simp only [length_cons] at hdl
  have hlt:((done.length:Int)<(ps.length:Int))=True:=eq_true (by omega)
  have hc:=dZ _ _ _ h1
  simp only [List.length_drop] at hc
  have hnx:tF v i=(i+c:Nat):=Bz (qz _ _ _ _ h1 (by omega))
  have zi:(0≤(i:Int))=True:=eq_true (by omega)
  have hil:i<v.length:=by omega
  have hgi:=List.getElem?_eq_getElem hil
  have hdi:=List.drop_eq_getElem_cons hil
  generalize v[i]=pn at hgi hdi
  have hname:nameOf p=pn.name:=by
   obtain ⟨w,hw⟩:∃ w,c=w+1:=⟨c-1,by omega⟩
   rw [hp1,hdi,hw];rfl
  by_cases h6:n.kind=6
  rotate_left 1
  · simp(maxSteps:=400000)only[↓aV,aW,BEq.rfl,reduceIte,reduceCtorEq,Nat.reduceLT,reduceAdd,reduceSub,reduceMul,Nat.reduceBEq,reduceLeDiff,reduceToNat,reduceLE,hQ,hg0,hmn,hlt,h6]
    have hd:done=fC v:=by rw [hr,if_neg h6,hdn.resolve_right h6]
    rw [hd]
    exact acW (k:=0) (ver:=ver) rfl rfl rfl rfl (congrArg (fun o:Obj=>{ o with ver:=0 }) (Ky 1 1 _ 9 1 (fC v) ver)) (DC _ 0)
  simp(maxSteps:=400000)only[↓aV,aW,BEq.rfl,reduceIte,reduceCtorEq,Nat.reduceLT,reduceAdd,reduceSub,reduceMul,Nat.reduceBEq,reduceLeDiff,reduceToNat,reduceLE,hQ,hg0,hmn,hlt,h6,↓jk,hnx,zi,hgi]
  have happ:List.map PV.str done++[PV.str pn.name]=List.map PV.str (done++[pn.name]):=by simp
  rw [happ]
  refine ⟨by omega,by omega,by omega,hl,⟨by omega,by omega⟩,qs.length,by omega,i+c,ver+1,done++[pn.name],qs,rfl,?_,?_,?_,?_⟩
  · simp only [length_append,length_cons,length_nil];omega
  · rw [← hdr,List.map_cons,hname];simp
  · rw [← List.drop_drop];exact h3
  · simp only [length_append,length_cons,length_nil,Nat.zero_add,Int.natCast_add,Int.cast_ofNat_Int,Int.natCast_one]
theorem EX (v:Vl) (ho:One v) (hl:v.length≤1000000):ai Tryz.prog 82 [aS v] [] (kG (fC v)) []:=
 (EW v ho hl).froze rfl rfl (DC _ 0)
def nY:dF:=fun args objs K=>match args with
 | [a0]=>fB aS a0 (HK.mk:HK fun v=>(One v)∧(v.length≤1000000)∧K (kG (fC v)) objs 0)
 | _=>False
theorem DF:aB Tryz.prog 82 (nY):=by
 intro args objs K h
 unfold nY at h
 split at h
 · rename_i a0
   obtain ⟨v,rfl,h1,h2,hk⟩:=h
   exact ⟨_,_,_,.pure _ rfl (EX v h1 h2),hk⟩
 · exact h.elim
end Lp
namespace Lp
open Go Go.Proofs
end Lp
namespace Lp
open Go Go.Proofs
theorem nmP (n:Nd) (nm:List UInt8):(ay n).putCells 2 [.str nm]=ay { n with name:=nm }:=rfl
theorem afa (n:Nd):(ay n).cells.length=6:=rfl
theorem Jg:(PV.vX (Value.agg { toList:=[Value.int IntKind.i64 0,Value.int IntKind.i64 0,Value.string { data:={ toList:=[] } },Value.string { data:={ toList:=[] } },Value.bool false,Value.int IntKind.i64 0] })).cells.length=6:=rfl
theorem Jh:(PV.vX (Value.agg { toList:=[Value.int IntKind.i64 0,Value.int IntKind.i64 0,Value.string { data:={ toList:=[] } },Value.string { data:={ toList:=[] } },Value.bool false,Value.int IntKind.i64 0] })).cells.all PV.storable=true:=rfl
theorem Wq (n:Nat) (objs:List Obj) (v:Vl):(v.map ay).map (PV.bJ (iY 0 n objs))=v.map ay:=by
 rw [List.map_map]
 exact List.map_congr_left fun x _=>rfl
theorem Ws (v:Vl) (ver:Nat) (t:TypeId) (rest:List Obj):eY 1 0 (⟨t,6,v.map ay,true,ver⟩::rest) (.bG 0 ver)=aS v:=by
 simp only [eY,Nat.not_lt_zero,if_false,iY,List.getElem?_cons_zero,Nat.le_refl,decide_true,Bool.true_and,beq_self_eq_true,if_true,Wq]
 rfl
end Lp
namespace Lp
open Go Go.Proofs
end Lp
namespace Lp
open Go Go.Proofs
theorem knI (l:List (FuncId×dF)) (n:Nat):(((aR Tryz.prog l).inner n).fn=sS l)∧(((aR Tryz.prog l).inner n).noY.fn=sS l)∧(((aR Tryz.prog l).inner n).nx=n):=⟨rfl,rfl,rfl⟩
end Lp
namespace Lp
open Go Go.Lib
open List (length_cons length_drop length_take)
def Y2 (b0:Nat):Bool:=
 decide (b0<128) || (firstT b0 % 8==1 && (decide (b0<194) || decide (245≤b0))) || (firstT b0 % 8==2 && accLo (firstT b0 / 16)==128 && accHi (firstT b0 / 16)==191 && decide (194≤b0) && decide (b0<224)) ||
  (firstT b0 % 8==3 && accLo (firstT b0 / 16)==(if b0=224 then 160 else 128) && accHi (firstT b0 / 16)==(if b0=237 then 159 else 191) && decide (224≤b0) && decide (b0<240)) ||
  (firstT b0 % 8==4 && accLo (firstT b0 / 16)==(if b0=240 then 144 else 128) && accHi (firstT b0 / 16)==(if b0=244 then 143 else 191) && decide (240≤b0) && decide (b0<245))
theorem R9:(List.range 256).all Y2=true:=by decide
theorem R_ (b0:Nat) (h:b0<256) (h':128≤b0):(firstT b0 % 8=1∧(b0<194∨245≤b0))∨(firstT b0 % 8=2∧accLo (firstT b0 / 16)=128∧accHi (firstT b0 / 16)=191∧194≤b0∧b0<224)∨
  (firstT b0 % 8=3∧accLo (firstT b0 / 16)=(if b0=224 then 160 else 128)∧accHi (firstT b0 / 16)=(if b0=237 then 159 else 191)∧224≤b0∧b0<240)∨
  (firstT b0 % 8=4∧accLo (firstT b0 / 16)=(if b0=240 then 144 else 128)∧accHi (firstT b0 / 16)=(if b0=244 then 143 else 191)∧240≤b0∧b0<245):=by
 have:=List.all_eq_true.1 R9 b0 (List.mem_range.2 h)
 simp only [Y2,Bool.or_eq_true,Bool.and_eq_true,decide_eq_true_eq,beq_iff_eq,and_assoc] at this
 rcases this with (((g | g) | g) | g) | g
 · omega
 · exact .inl g
 · exact .inr (.inl g)
 · exact .inr (.inr (.inl g))
 · exact .inr (.inr (.inr g))
theorem Y3 (c:UInt8) (t:List UInt8):utf (c::t)=(bZ (c::t) !=0 && utf ((c::t).drop (bZ (c::t)))):=by
 unfold utf
 rw [length_cons,FW]
 simp only [List.isEmpty_cons,Bool.false_or]
 by_cases h:bZ (c::t)=0
 · simp [h]
 · congr 1
   exact CP _ _ _ (by simp only [length_drop,length_cons];omega) (Nat.le_refl _)
theorem u8n (c:UInt8) (n:Nat) (h:n<256):c=UInt8.ofNat n↔c.toNat=n:=by
 constructor
 · rintro rfl;simp [UInt8.toNat_ofNat'];omega
 · intro e;rw [← e];simp
theorem Sb (c:UInt8) (t:List UInt8) (h:128≤c.toNat) :
  checkN (t.length+1) (t.getD 0 0).toNat (t.getD 1 0).toNat (t.getD 2 0).toNat (firstT c.toNat % 8) (accLo (firstT c.toNat / 16)) (accHi (firstT c.toNat / 16))=
   if bZ (c::t)=0 then none else some (bZ (c::t)):=by
 have e1:(c<128)↔c.toNat<128:=UInt8.lt_iff_toNat_lt
 have e2:(194≤c)↔194≤c.toNat:=UInt8.le_iff_toNat_le
 have e3:(c<224)↔c.toNat<224:=UInt8.lt_iff_toNat_lt
 have e4:(224≤c)↔224≤c.toNat:=UInt8.le_iff_toNat_le
 have e5:(c<240)↔c.toNat<240:=UInt8.lt_iff_toNat_lt
 have e6:(240≤c)↔240≤c.toNat:=UInt8.le_iff_toNat_le
 have e7:(c<245)↔c.toNat<245:=UInt8.lt_iff_toNat_lt
 have e8:c=224↔c.toNat=224:=u8n c 224 (by decide)
 have e9:c=237↔c.toNat=237:=u8n c 237 (by decide)
 have ea:c=240↔c.toNat=240:=u8n c 240 (by decide)
 have eb:c=244↔c.toNat=244:=u8n c 244 (by decide)
 have hc:∀ i,gY t i=true↔i<t.length∧128≤(t.getD i 0).toNat∧(t.getD i 0).toNat<192:=by
  intro i
  unfold gY
  cases hg:t[i]? with
  | none=>
   have:=List.getElem?_eq_none_iff.1 hg
   simp;omega
  | some d=>
   have hl:=(List.getElem?_eq_some_iff.1 hg).1
   have hd:t.getD i 0=d:=by simp [List.getD,hg]
   rw [hd]
   simp only [Bool.and_eq_true,decide_eq_true_eq]
   have x1:(128≤d)↔128≤d.toNat:=UInt8.le_iff_toNat_le
   have x2:(d<192)↔d.toNat<192:=UInt8.lt_iff_toNat_lt
   rw [x1,x2]
   exact ⟨fun g=>⟨hl,g⟩,fun g=>g.2⟩
 have hh:t.headD 0=t.getD 0 0:=by cases t <;> rfl
 have f1:(t.getD 0 0<160)↔(t.getD 0 0).toNat<160:=UInt8.lt_iff_toNat_lt
 have f2:(160≤t.getD 0 0)↔160≤(t.getD 0 0).toNat:=UInt8.le_iff_toNat_le
 have f3:(t.getD 0 0<144)↔(t.getD 0 0).toNat<144:=UInt8.lt_iff_toNat_lt
 have f4:(144≤t.getD 0 0)↔144≤(t.getD 0 0).toNat:=UInt8.le_iff_toNat_le
 simp only [bZ,e1,e2,e3,e4,e5,e6,e7,e8,e9,ea,eb,hc,hh,f1,f2,f3,f4]
 have hn:=c.toNat_lt
 generalize c.toNat=n at *
 generalize (t.getD 0 0).toNat=b1 at *
 generalize (t.getD 1 0).toNat=b2 at *
 generalize (t.getD 2 0).toNat=b3 at *
 generalize t.length=L at *
 clear e1 e2 e3 e4 e5 e6 e7 e8 e9 ea eb hc f1 f2 f3 f4 hh
 obtain ⟨R,hR⟩:∃ R,(if n<128 then 1 else if 194≤n∧n<224∧0<L∧128≤b1∧b1<192 then 2
  else if 224≤n∧n<240∧(0<L∧128≤b1∧b1<192)∧1<L∧128≤b2∧b2<192 then (if n=224∧b1<160∨n=237∧160≤b1 then 0 else 3)
  else if 240≤n∧n<245∧(0<L∧128≤b1∧b1<192)∧(1<L∧128≤b2∧b2<192)∧2<L∧128≤b3∧b3<192 then (if n=240∧b1<144∨n=244∧144≤b1 then 0 else 4) else 0)=R:=⟨_,rfl⟩
 rw [hR]
 rw [if_neg (by omega)] at hR
 rcases R_ n hn h with ⟨k1,k2⟩ | ⟨k1,k2,k3,k4,k5⟩ | ⟨k1,k2,k3,k4,k5⟩ | ⟨k1,k2,k3,k4,k5⟩
 · rw [k1]
   rw [if_neg (by omega),if_neg (by omega),if_neg (by omega)] at hR
   subst hR;rfl
 · rw [k1,k2,k3]
   simp only [checkN,if_true]
   by_cases g:0<L∧128≤b1∧b1<192
   · rw [if_pos ⟨k4,k5,g⟩] at hR
     subst hR
     rw [if_neg (by omega)];rfl
   · rw [if_neg (by omega),if_neg (by omega),if_neg (by omega)] at hR
     subst hR
     rw [if_pos (by omega)];rfl
 · rw [k1,k2,k3]
   simp only [checkN,Nat.reduceEqDiff,if_false,if_true]
   rw [if_neg (by omega)] at hR
   by_cases g:(0<L∧128≤b1∧b1<192)∧1<L∧128≤b2∧b2<192
   · rw [if_pos ⟨k4,k5,g⟩] at hR
     by_cases g2:n=224∧b1<160∨n=237∧160≤b1
     · rw [if_pos g2] at hR
       subst hR
       rw [if_pos (by split <;> split <;> omega)];rfl
     · rw [if_neg g2] at hR
       subst hR
       rw [if_neg (by split <;> split <;> omega)];rfl
   · rw [if_neg (fun x=>g x.2.2),if_neg (by omega)] at hR
     subst hR
     rw [if_pos (by split <;> split <;> omega)];rfl
 · rw [k1,k2,k3]
   simp only [checkN,Nat.reduceEqDiff,if_false,if_true]
   rw [if_neg (by omega),if_neg (by omega)] at hR
   by_cases g:(0<L∧128≤b1∧b1<192)∧(1<L∧128≤b2∧b2<192)∧2<L∧128≤b3∧b3<192
   · rw [if_pos ⟨k4,k5,g⟩] at hR
     by_cases g2:n=240∧b1<144∨n=244∧144≤b1
     · rw [if_pos g2] at hR
       subst hR
       rw [if_pos (by split <;> split <;> omega)];rfl
     · rw [if_neg g2] at hR
       subst hR
       rw [if_neg (by split <;> split <;> omega)];rfl
   · rw [if_neg (fun x=>g x.2.2)] at hR
     subst hR
     rw [if_pos (by split <;> split <;> omega)];rfl
theorem Ad:∀ (k:Nat) (l:List UInt8),l.length≤k→validD l=utf l
 | _,[],_=>rfl
 | 0,_::_,h=>by simp at h
 | k+1,c::t,h=>by
  simp only [length_cons] at h
  rw [Y3]
  by_cases hc:c.toNat<128
  · have hr:bZ (c::t)=1:=by
     simp only [bZ];rw [if_pos (UInt8.lt_iff_toNat_lt.2 hc)]
    rw [validD_cons c t hc,hr,Ad k t (by omega)];simp
  · rw [validD_lead _ (by simp) (by simpa using hc)]
    have e:=Sb c t (by omega)
    simp only [List.getD_cons_zero,List.getD_cons_succ,length_cons] at e ⊢
    rw [e]
    by_cases h0:bZ (c::t)=0
    · rw [if_pos h0,h0];rfl
    · rw [if_neg h0]
      have:((c::t).drop (bZ (c::t))).length≤k:=by simp only [length_drop,length_cons];omega
      rw [show (bZ (c::t) !=0)=true by simpa using h0,Bool.true_and]
      exact Ad k _ this
theorem Wt (l:List UInt8):validD l=utf l:=Ad _ l (Nat.le_refl _)
def l9 (x:Nat):Bool:=decide (48≤x) && decide (x≤57)
theorem Ep (n b0 b1 b2 b3:Nat) (h:(decodeN n b0 b1 b2 b3).1<128):b0<128∧decodeN n b0 b1 b2 b3=(b0,1):=by
 unfold decodeN at *
 split at h
 · rename_i h0;rw [if_pos h0];exact ⟨h0,rfl⟩
 · exfalso
   repeat' split at h
   all_goals (simp at h;try omega)
theorem Er (n b0 b1 b2 b3:Nat) (h:b0<128):decodeN n b0 b1 b2 b3=(b0,1):=by unfold decodeN;rw [if_pos h]
theorem FJ {x:Nat}(h:l9 x=true):x<128:=by simp [l9] at h;omega
def FK (l:List UInt8) (i:Nat):Prop:=∀ j,i≤j→j<l.length→l9 (l.getD j 0).toNat=true
theorem OX (s:ByteArray):∀ (f pos:Nat),s.data.toList.length-pos≤f→(idxFuncFrom l9 false s f pos=-1↔FK s.data.toList pos)
 | 0,pos,h=>by
  simp only [idxFuncFrom,true_iff]
  intro j h1 h2;omega
 | f+1,pos,h=>by
  unfold idxFuncFrom
  rw [size_eq]
  split
  · rename_i hp
    rw [decode_N]
    generalize hd:decodeN _ _ _ _ _=d
    split
    · rename_i hf
      have:¬ FK s.data.toList pos:=fun hg=>by
       have g:=hg pos (Nat.le_refl _) hp
       rw [Er _ _ _ _ _ (FJ g)] at hd
       rw [← hd] at hf
       simp only at hf
       rw [g] at hf;cases hf
      simp only [this,iff_false];omega
    · rename_i hf
      simp only [Bool.not_eq_false] at hf
      have hlt:=FJ hf
      rw [← hd] at hlt
      obtain ⟨g1,g2⟩:=Ep _ _ _ _ _ hlt
      rw [g2] at hd
      subst hd
      rw [OX s f (pos+1) (by omega)]
      constructor
      · intro hh j h1 h2
        rcases Nat.eq_or_lt_of_le h1 with rfl | h1
        · exact hf
        · exact hh j h1 h2
      · intro hh j h1 h2;exact hh j (by omega) h2
  · rename_i hp
    simp only [true_iff]
    intro j h1 h2;omega
theorem He (l:List UInt8) (h:(decodeLastL l).1<128):l≠[]∧(l.getD (l.length-1) 0).toNat<128∧decodeLastL l=((l.getD (l.length-1) 0).toNat,1):=by
 unfold decodeLastL at *
 split at h
 · simp [Utf8.runeError] at h
 · rename_i hne
   rw [if_neg hne]
   split at h
   · rename_i h1;rw [if_pos h1];exact ⟨hne,h1,rfl⟩
   · rename_i h1
     exfalso
     simp only at h
     split at h
     · rename_i h2
       rw [decodeL_N] at h h2
       obtain ⟨g1,g2⟩:=Ep _ _ _ _ _ h
       rw [g2] at h2
       simp only [getD_dropU] at g1
       have:lastStart l+0=l.length-1:=by omega
       rw [this] at g1
       exact h1 g1
     · simp [Utf8.runeError] at h
theorem KA (s:ByteArray):∀ (f i:Nat),i≤f→i≤s.data.toList.length→lastIdxFuncFrom l9 false s f i=-1→∀ j,j<i→l9 (s.data.toList.getD j 0).toNat=true
 | 0,i,h,_,_,j,hj=>by omega
 | f+1,i,h,hi,hx,j,hj=>by
  unfold lastIdxFuncFrom at hx
  rw [if_pos (by omega)] at hx
  split at hx
  · omega
  · rename_i hf
    simp only [Bool.not_eq_false] at hf
    obtain ⟨g0,g1,g2⟩:=He _ (FJ hf)
    rw [g2] at hf hx
    have hl:(s.data.toList.take i).length=i:=by rw [length_take];omega
    rw [hl] at hf hx
    have e:(s.data.toList.take i).getD (i-1) 0=s.data.toList.getD (i-1) 0:=by
     simp only [List.getD,List.getElem?_take];rw [if_pos (by omega)]
    rw [e] at hf
    rcases Nat.lt_or_ge j (i-1) with h1 | h1
    · exact KA s f (i-1) (by omega) (by omega) hx j h1
    · have:j=i-1:=by omega
      subst this;exact hf
theorem Y4 (l:List UInt8):gq l=true↔FK l 0:=by
 unfold gq FK
 rw [List.all_eq_true]
 have key:∀ c:UInt8,(decide (48≤c) && decide (c≤57))=l9 c.toNat:=fun c=>by
  have x1:(48≤c)↔48≤c.toNat:=UInt8.le_iff_toNat_le
  have x2:(c≤57)↔c.toNat≤57:=UInt8.le_iff_toNat_le
  simp only [l9,x1,x2]
 constructor
 · intro h j _ hj
   rw [← key]
   have:l.getD j 0=l[j]:=by simp [List.getD,hj]
   rw [this]
   exact h _ (List.getElem_mem hj)
 · intro h c hc
   obtain ⟨j,hj,rfl⟩:=List.mem_iff_getElem.1 hc
   rw [key]
   have:l.getD j 0=l[j]:=by simp [List.getD,hj]
   rw [← this]
   exact h j (Nat.zero_le _) hj
theorem Es (p:Nat→Bool) (truth:Bool) (s:ByteArray):∀ (f i:Nat),i≤s.size→lastIdxFuncFrom p truth s f i=-1∨(0≤lastIdxFuncFrom p truth s f i∧lastIdxFuncFrom p truth s f i<i)
 | 0,_,_=>.inl rfl
 | f+1,i,hi=>by
  unfold lastIdxFuncFrom
  split
  · rename_i h0
    have hk:=decodeLastL_width (s.data.toList.take i) (by rw [length_take,← size_eq];omega)
    rw [length_take,← size_eq,Nat.min_eq_left hi] at hk
    split
    · exact .inr ⟨by omega,by omega⟩
    · rcases Es p truth s f (i-(decodeLastL (s.data.toList.take i)).2) (by omega) with h | ⟨h1,h2⟩
      · exact .inl h
      · exact .inr ⟨h1,by omega⟩
  · exact .inl rfl
theorem Sc (l:List UInt8):(trimF l9 ⟨⟨l⟩⟩=⟨⟨[]⟩⟩)↔gq l=true:=by
 have hi:=OX ⟨⟨l⟩⟩ l.length 0 (by simp)
 rw [Y4,← (show (({ data:={ toList:=l } }:ByteArray).data.toList)=l from rfl),← hi]
 have hidx:idxFunc l9 false ⟨⟨l⟩⟩=idxFuncFrom l9 false ⟨⟨l⟩⟩ l.length 0:=rfl
 rw [← hidx]
 unfold trimF trimLeftF
 constructor
 · intro h
   refine Classical.byContradiction fun hne=>?_
   rw [if_neg hne] at h
   have hr:=idxFunc_range l9 false ⟨⟨l⟩⟩
   obtain ⟨r1,r2⟩:=hr.resolve_left hne
   rw [size_eq] at r2
   generalize hk:(idxFunc l9 false ⟨⟨l⟩⟩).toNat=k at *
   have hkl:k<l.length:=by simp at r2;omega
   rw [extract_from] at h
   simp only at h
   have hnd:l9 (l.getD k 0).toNat=false:=by
    have key:∀ f pos,idxFuncFrom l9 false ⟨⟨l⟩⟩ f pos≠-1→l9 (Utf8.decode ⟨⟨l⟩⟩ (idxFuncFrom l9 false ⟨⟨l⟩⟩ f pos).toNat).1=false:=by
     intro f
     induction f with
     | zero=>intro pos h;exact absurd rfl h
     | succ f ih=>
      intro pos h
      unfold idxFuncFrom at h ⊢
      split at h
      · rename_i hp
        rw [if_pos hp]
        split at h
        · rename_i hf;rw [if_pos hf];simpa using hf
        · rename_i hf;rw [if_neg hf];exact ih _ h
      · exact absurd rfl h
    have:=key _ _ hne
    rw [show (⟨⟨l⟩⟩:ByteArray).size=l.length from rfl,← hidx,hk,decode_N] at this
    cases hb:l9 (l.getD k 0).toNat with
    | false=>rfl
    | true=>
     have hlow:=FJ hb
     rw [Er _ _ _ _ _ hlow] at this
     simp only at this
     rw [hb] at this;cases this
   unfold trimRightF at h
   rw [extract_upto] at h
   have hlen:=congrArg (fun b:ByteArray=>b.data.toList.length) h
   simp only [length_take,length_drop,List.length_nil] at hlen
   have hz:rightEndF l9 ⟨(l.drop k).toArray⟩=0:=by omega
   unfold rightEndF at hz
   have hlt:=Es l9 false ⟨(l.drop k).toArray⟩ (l.drop k).length (l.drop k).length (by rw [size_eq];exact Nat.le_refl _)
   have Y5:lastIdxFunc l9 false ⟨(l.drop k).toArray⟩=lastIdxFuncFrom l9 false ⟨(l.drop k).toArray⟩ (l.drop k).length (l.drop k).length:=rfl
   split at hz
   · rename_i h0
     rw [Y5] at h0 hz
     obtain ⟨h1,h2⟩:=hlt.resolve_left (by omega)
     have h3:1≤(decodeGoB ((⟨(l.drop k).toArray⟩:ByteArray).extract (lastIdxFuncFrom l9 false ⟨(l.drop k).toArray⟩ (l.drop k).length (l.drop k).length).toNat (⟨(l.drop k).toArray⟩:ByteArray).size)).2:=by
      unfold decodeGoB
      rw [if_neg]
      · exact width_pos _ _
      · rw [extract_from,size_eq]
        simp only [length_drop] at h2 ⊢
        omega
     omega
   · rename_i h0
     rw [Y5] at h0
     have h1:=hlt.resolve_right (by omega)
     have:=KA ⟨(l.drop k).toArray⟩ _ _ (Nat.le_refl _) (Nat.le_refl _) h1 0 (by rw [length_drop];omega)
     simp only [getD_dropU] at this
     rw [Nat.add_zero,hnd] at this
     cases this
 · intro h
   rw [if_pos h]
   rfl
theorem rZ {α:Type}(p:α→Bool) (l:List α):(l.dropWhile p).length≤l.length:=(List.dropWhile_suffix p).length_le
theorem Hf {α:Type}(p:α→Bool):∀ l:List α,l.dropWhile p=l↔(∀ x,l.head?=some x→p x=false)
 | []=>by simp
 | x::t=>by
  rw [List.dropWhile_cons]
  split
  · rename_i h
    constructor
    · intro e
      have:=congrArg List.length e
      have h2:=rZ p t
      simp at this;omega
    · intro g;rw [g x rfl] at h;cases h
  · rename_i h;simpa using h
theorem Sd (l:List UInt8) (c:UInt8):trimB l c=l↔l.head?≠some c∧l.getLast?≠some c:=by
 have h1:∀ m:List UInt8,(m.dropWhile (·==c)=m)↔m.head?≠some c:=fun m=>by
  rw [Hf]
  constructor
  · intro h e;simpa using h c e
  · intro h x hx;rw [hx] at h;simpa using h
 unfold trimB trimLeftB
 have hlen:(trimRightB l c).length≤l.length:=by
  unfold trimRightB
  have:=rZ (·==c) l.reverse
  simpa using this
 have hr:trimRightB l c=l↔l.getLast?≠some c:=by
  unfold trimRightB
  rw [List.reverse_eq_iff,h1,List.head?_reverse]
 constructor
 · intro h
   have h2:=rZ (·==c) (trimRightB l c)
   have h3:=congrArg List.length h
   have h4:trimRightB l c=l:=by
    unfold trimRightB at *
    have:=List.dropWhile_suffix (l:=l.reverse) (p:=(·==c))
    have e:=this.eq_of_length (by simp at *;omega)
    rw [e,List.reverse_reverse]
   rw [h4] at h
   exact ⟨(h1 l).1 h,hr.1 h4⟩
 · rintro ⟨g1,g2⟩
   rw [hr.2 g2];exact (h1 l).2 g1
end Lp
namespace Go.Proofs
open Go.Shelf
def Tryz.OY:Go.Shelf.Ren:=⟨fun | 160=>185 | 232=>160 | 231=>156 | 227=>157 | 234=>161 | 233=>158 | 236=>162 | 235=>159 | 228=>179 | 271=>182 | 151=>181 | 197=>180 | 120=>193 | 152=>192 | 260=>191 | 137=>194 | 119=>195 | 224=>196 | 225=>197 | 217=>198 | 266=>199 | n=>n,fun | 9=>9 | 4=>4 | 3=>3 | 5=>5 | 117=>181 | 116=>180 | 0=>0 | 124=>184 | 21=>21 | 105=>203 | 46=>152 | 119=>193 | 139=>196 | 138=>195 | n=>n,fun | 3=>0 | 4=>1 | n=>n⟩
theorem Tryz.UK:Go.Proofs.Lays.n160 Tryz.prog Tryz.OY:={
 mixed:=by kernel_rfl
 f119:=Tryz.func195.trans (congrArg some (by kernel_rfl))
 f120:=Tryz.func193.trans (congrArg some (by kernel_rfl))
 f137:=Tryz.func194.trans (congrArg some (by kernel_rfl))
 f151:=Tryz.func181.trans (congrArg some (by kernel_rfl))
 f152:=Tryz.func192.trans (congrArg some (by kernel_rfl))
 f160:=Tryz.func185.trans (congrArg some (by kernel_rfl))
 f197:=Tryz.func180.trans (congrArg some (by kernel_rfl))
 f217:=Tryz.func198.trans (congrArg some (by kernel_rfl))
 f224:=Tryz.func196.trans (congrArg some (by kernel_rfl))
 f225:=Tryz.func197.trans (congrArg some (by kernel_rfl))
 f227:=Tryz.func157.trans (congrArg some (by kernel_rfl))
 f228:=Tryz.func179.trans (congrArg some (by kernel_rfl))
 f231:=Tryz.func156.trans (congrArg some (by kernel_rfl))
 f232:=Tryz.func160.trans (congrArg some (by kernel_rfl))
 f233:=Tryz.func158.trans (congrArg some (by kernel_rfl))
 f234:=Tryz.func161.trans (congrArg some (by kernel_rfl))
 f235:=Tryz.func159.trans (congrArg some (by kernel_rfl))
 f236:=Tryz.func162.trans (congrArg some (by kernel_rfl))
 f260:=Tryz.func191.trans (congrArg some (by kernel_rfl))
 f266:=Tryz.func199.trans (congrArg some (by kernel_rfl))
 f271:=Tryz.func182.trans (congrArg some (by kernel_rfl))
 t0:=Tryz.underlying0
 a0:=Tryz.isAgg0
 z0:=Tryz.sizeOf0
 v0:=Tryz.zeroValue0
 t3:=Tryz.underlying3
 a3:=Tryz.isAgg3
 z3:=Tryz.sizeOf3
 v3:=Tryz.zeroValue3
 t4:=Tryz.underlying4
 a4:=Tryz.isAgg4
 z4:=Tryz.sizeOf4
 v4:=Tryz.zeroValue4
 t5:=Tryz.underlying5
 a5:=Tryz.isAgg5
 z5:=Tryz.sizeOf5
 v5:=Tryz.zeroValue5
 t9:=Tryz.underlying9
 a9:=Tryz.isAgg9
 z9:=Tryz.sizeOf9
 v9:=Tryz.zeroValue9
 t21:=Tryz.underlying21
 a21:=Tryz.isAgg21
 z21:=Tryz.sizeOf21
 v21:=Tryz.zeroValue21
 t46:=Tryz.underlying152
 a46:=Tryz.isAgg152
 z46:=Tryz.sizeOf152
 v46:=Tryz.zeroValue152
 t105:=Tryz.underlying203
 a105:=Tryz.isAgg203
 z105:=Tryz.sizeOf203
 v105:=Tryz.zeroValue203
 t116:=Tryz.underlying180
 a116:=Tryz.isAgg180
 z116:=Tryz.sizeOf180
 t117:=Tryz.underlying181
 a117:=Tryz.isAgg181
 z117:=Tryz.sizeOf181
 v117:=Tryz.zeroValue181
 t119:=Tryz.underlying193
 a119:=Tryz.isAgg193
 z119:=Tryz.sizeOf193
 t124:=Tryz.underlying184
 a124:=Tryz.isAgg184
 z124:=Tryz.sizeOf184
 v124:=Tryz.zeroValue184
 t138:=Tryz.underlying195
 a138:=Tryz.isAgg195
 z138:=Tryz.sizeOf195
 v138:=Tryz.zeroValue195
 t139:=Tryz.underlying196
 a139:=Tryz.isAgg196
 z139:=Tryz.sizeOf196
 v139:=Tryz.zeroValue196
 g3:=by kernel_rfl
 g4:=by kernel_rfl }
def Tryz.OZ:Go.Shelf.Ren:=⟨fun | 196=>142 | 259=>169 | n=>n,fun | 9=>9 | 4=>4 | 3=>3 | 5=>5 | 12=>12 | 119=>193 | 0=>0 | 46=>152 | 139=>196 | 138=>195 | 53=>188 | n=>n,fun | 3=>0 | 4=>1 | n=>n⟩
theorem Tryz.LY:Go.Proofs.Lays.n196 Tryz.prog Tryz.OZ:={
 mixed:=by kernel_rfl
 f196:=Tryz.func142.trans (congrArg some (by kernel_rfl))
 f259:=Tryz.func169.trans (congrArg some (by kernel_rfl))
 t0:=Tryz.underlying0
 a0:=Tryz.isAgg0
 z0:=Tryz.sizeOf0
 v0:=Tryz.zeroValue0
 t3:=Tryz.underlying3
 a3:=Tryz.isAgg3
 z3:=Tryz.sizeOf3
 v3:=Tryz.zeroValue3
 t4:=Tryz.underlying4
 a4:=Tryz.isAgg4
 z4:=Tryz.sizeOf4
 v4:=Tryz.zeroValue4
 t5:=Tryz.underlying5
 a5:=Tryz.isAgg5
 z5:=Tryz.sizeOf5
 v5:=Tryz.zeroValue5
 t9:=Tryz.underlying9
 a9:=Tryz.isAgg9
 z9:=Tryz.sizeOf9
 v9:=Tryz.zeroValue9
 t12:=Tryz.underlying12
 a12:=Tryz.isAgg12
 z12:=Tryz.sizeOf12
 v12:=Tryz.zeroValue12
 t46:=Tryz.underlying152
 a46:=Tryz.isAgg152
 z46:=Tryz.sizeOf152
 v46:=Tryz.zeroValue152
 t53:=Tryz.underlying188
 a53:=Tryz.isAgg188
 z53:=Tryz.sizeOf188
 v53:=Tryz.zeroValue188
 t119:=Tryz.underlying193
 a119:=Tryz.isAgg193
 z119:=Tryz.sizeOf193
 t138:=Tryz.underlying195
 a138:=Tryz.isAgg195
 z138:=Tryz.sizeOf195
 v138:=Tryz.zeroValue195
 t139:=Tryz.underlying196
 a139:=Tryz.isAgg196
 z139:=Tryz.sizeOf196
 v139:=Tryz.zeroValue196
 g3:=by kernel_rfl
 g4:=by kernel_rfl }
def Tryz.O0:Go.Shelf.Ren:=⟨fun | 237=>154 | 272=>178 | 238=>177 | 315=>190 | 273=>189 | 197=>180 | 271=>182 | 260=>191 | 120=>193 | n=>n,fun | 9=>9 | 40=>177 | 4=>4 | 3=>3 | 105=>203 | 21=>21 | 0=>0 | 5=>5 | 119=>193 | 46=>152 | 139=>196 | 138=>195 | n=>n,fun | 3=>0 | 4=>1 | n=>n⟩
theorem Tryz.UL:Go.Proofs.Lays.n237 Tryz.prog Tryz.O0:={
 mixed:=by kernel_rfl
 f120:=Tryz.func193.trans (congrArg some (by kernel_rfl))
 f197:=Tryz.func180.trans (congrArg some (by kernel_rfl))
 f237:=Tryz.func154.trans (congrArg some (by kernel_rfl))
 f238:=Tryz.func177.trans (congrArg some (by kernel_rfl))
 f260:=Tryz.func191.trans (congrArg some (by kernel_rfl))
 f271:=Tryz.func182.trans (congrArg some (by kernel_rfl))
 f272:=Tryz.func178.trans (congrArg some (by kernel_rfl))
 f273:=Tryz.func189.trans (congrArg some (by kernel_rfl))
 f315:=Tryz.func190.trans (congrArg some (by kernel_rfl))
 t0:=Tryz.underlying0
 a0:=Tryz.isAgg0
 z0:=Tryz.sizeOf0
 v0:=Tryz.zeroValue0
 t3:=Tryz.underlying3
 a3:=Tryz.isAgg3
 z3:=Tryz.sizeOf3
 v3:=Tryz.zeroValue3
 t4:=Tryz.underlying4
 a4:=Tryz.isAgg4
 z4:=Tryz.sizeOf4
 v4:=Tryz.zeroValue4
 t5:=Tryz.underlying5
 a5:=Tryz.isAgg5
 z5:=Tryz.sizeOf5
 v5:=Tryz.zeroValue5
 t9:=Tryz.underlying9
 a9:=Tryz.isAgg9
 z9:=Tryz.sizeOf9
 v9:=Tryz.zeroValue9
 t21:=Tryz.underlying21
 a21:=Tryz.isAgg21
 z21:=Tryz.sizeOf21
 v21:=Tryz.zeroValue21
 t40:=Tryz.underlying177
 a40:=Tryz.isAgg177
 z40:=Tryz.sizeOf177
 v40:=Tryz.zeroValue177
 t46:=Tryz.underlying152
 a46:=Tryz.isAgg152
 z46:=Tryz.sizeOf152
 v46:=Tryz.zeroValue152
 t105:=Tryz.underlying203
 a105:=Tryz.isAgg203
 z105:=Tryz.sizeOf203
 v105:=Tryz.zeroValue203
 t119:=Tryz.underlying193
 a119:=Tryz.isAgg193
 z119:=Tryz.sizeOf193
 t138:=Tryz.underlying195
 a138:=Tryz.isAgg195
 z138:=Tryz.sizeOf195
 v138:=Tryz.zeroValue195
 t139:=Tryz.underlying196
 a139:=Tryz.isAgg196
 z139:=Tryz.sizeOf196
 v139:=Tryz.zeroValue196
 g3:=by kernel_rfl
 g4:=by kernel_rfl }
def Tryz.BA:Go.Shelf.Ren:=⟨fun | 4=>118 | n=>n,fun | 22=>23 | 25=>51 | 3=>3 | 4=>4 | 9=>9 | 20=>20 | 0=>0 | n=>n,fun | n=>n⟩
theorem Tryz.Hg:Go.Proofs.Lays8.n4 Tryz.prog Tryz.BA:={
 mixed:=by kernel_rfl
 f4:=⟨Tryz.f118.name,by decide,Tryz.func118.trans (congrArg some (by kernel_rfl))⟩
 t0:=Tryz.underlying0
 a0:=Tryz.isAgg0
 z0:=Tryz.sizeOf0
 v0:=Tryz.zeroValue0
 t3:=Tryz.underlying3
 a3:=Tryz.isAgg3
 z3:=Tryz.sizeOf3
 v3:=Tryz.zeroValue3
 t4:=Tryz.underlying4
 a4:=Tryz.isAgg4
 z4:=Tryz.sizeOf4
 v4:=Tryz.zeroValue4
 t9:=Tryz.underlying9
 a9:=Tryz.isAgg9
 z9:=Tryz.sizeOf9
 v9:=Tryz.zeroValue9
 t20:=Tryz.underlying20
 a20:=Tryz.isAgg20
 z20:=Tryz.sizeOf20
 v20:=Tryz.zeroValue20
 t22:=Tryz.underlying23
 a22:=Tryz.isAgg23
 z22:=Tryz.sizeOf23
 v22:=Tryz.zeroValue23 }
def Tryz.Et:Go.Shelf.Ren:=⟨fun | 105=>126 | 212=>135 | 99=>136 | 165=>137 | 166=>138 | 170=>139 | 169=>140 | 263=>163 | 264=>164 | 206=>165 | 240=>166 | 241=>167 | 276=>183 | 277=>184 | n=>n,fun | 9=>9 | 3=>3 | 4=>4 | 20=>20 | 0=>0 | 46=>152 | 109=>153 | 5=>5 | 72=>158 | 76=>162 | 51=>185 | 146=>186 | 53=>188 | 148=>189 | 70=>156 | 37=>146 | 75=>161 | 127=>191 | 164=>206 | 80=>165 | n=>n,fun | n=>n⟩
theorem Tryz.x_:Go.Proofs.Lays.n105 Tryz.prog Tryz.Et:={
 mixed:=by kernel_rfl
 f99:=Tryz.func136.trans (congrArg some (by kernel_rfl))
 f105:=Tryz.func126.trans (congrArg some (by kernel_rfl))
 f165:=Tryz.func137.trans (congrArg some (by kernel_rfl))
 f166:=Tryz.func138.trans (congrArg some (by kernel_rfl))
 f169:=Tryz.func140.trans (congrArg some (by kernel_rfl))
 f170:=Tryz.func139.trans (congrArg some (by kernel_rfl))
 f206:=Tryz.func165.trans (congrArg some (by kernel_rfl))
 f212:=Tryz.func135.trans (congrArg some (by kernel_rfl))
 f240:=Tryz.func166.trans (congrArg some (by kernel_rfl))
 f241:=Tryz.func167.trans (congrArg some (by kernel_rfl))
 f263:=Tryz.func163.trans (congrArg some (by kernel_rfl))
 f264:=Tryz.func164.trans (congrArg some (by kernel_rfl))
 f276:=Tryz.func183.trans (congrArg some (by kernel_rfl))
 f277:=Tryz.func184.trans (congrArg some (by kernel_rfl))
 t0:=Tryz.underlying0
 a0:=Tryz.isAgg0
 z0:=Tryz.sizeOf0
 v0:=Tryz.zeroValue0
 t3:=Tryz.underlying3
 a3:=Tryz.isAgg3
 z3:=Tryz.sizeOf3
 v3:=Tryz.zeroValue3
 t4:=Tryz.underlying4
 a4:=Tryz.isAgg4
 z4:=Tryz.sizeOf4
 v4:=Tryz.zeroValue4
 t5:=Tryz.underlying5
 a5:=Tryz.isAgg5
 z5:=Tryz.sizeOf5
 v5:=Tryz.zeroValue5
 t9:=Tryz.underlying9
 a9:=Tryz.isAgg9
 z9:=Tryz.sizeOf9
 v9:=Tryz.zeroValue9
 t20:=Tryz.underlying20
 a20:=Tryz.isAgg20
 z20:=Tryz.sizeOf20
 v20:=Tryz.zeroValue20
 t37:=Tryz.underlying146
 a37:=Tryz.isAgg146
 z37:=Tryz.sizeOf146
 v37:=Tryz.zeroValue146
 t46:=Tryz.underlying152
 a46:=Tryz.isAgg152
 z46:=Tryz.sizeOf152
 v46:=Tryz.zeroValue152
 t51:=Tryz.underlying185
 a51:=Tryz.isAgg185
 z51:=Tryz.sizeOf185
 v51:=Tryz.zeroValue185
 t53:=Tryz.underlying188
 a53:=Tryz.isAgg188
 z53:=Tryz.sizeOf188
 v53:=Tryz.zeroValue188
 t70:=Tryz.underlying156
 a70:=Tryz.isAgg156
 z70:=Tryz.sizeOf156
 v70:=Tryz.zeroValue156
 t72:=Tryz.underlying158
 a72:=Tryz.isAgg158
 z72:=Tryz.sizeOf158
 v72:=Tryz.zeroValue158
 t75:=Tryz.underlying161
 a75:=Tryz.isAgg161
 z75:=Tryz.sizeOf161
 v75:=Tryz.zeroValue161
 t76:=Tryz.underlying162
 a76:=Tryz.isAgg162
 z76:=Tryz.sizeOf162
 v76:=Tryz.zeroValue162
 t109:=Tryz.underlying153
 a109:=Tryz.isAgg153
 z109:=Tryz.sizeOf153
 v109:=Tryz.zeroValue153
 t127:=Tryz.underlying191
 a127:=Tryz.isAgg191
 z127:=Tryz.sizeOf191
 v127:=Tryz.zeroValue191
 t146:=Tryz.underlying186
 a146:=Tryz.isAgg186
 z146:=Tryz.sizeOf186
 v146:=Tryz.zeroValue186
 t148:=Tryz.underlying189
 a148:=Tryz.isAgg189
 z148:=Tryz.sizeOf189
 v148:=Tryz.zeroValue189
 t164:=Tryz.underlying206
 a164:=Tryz.isAgg206
 z164:=Tryz.sizeOf206
 v164:=Tryz.zeroValue206 }
def Tryz.O1:Go.Shelf.Ren:=⟨fun | 161=>132 | 231=>156 | 227=>157 | 233=>158 | 235=>159 | 228=>179 | 197=>180 | 151=>181 | 260=>191 | 152=>192 | 137=>194 | 119=>195 | 224=>196 | 225=>197 | 217=>198 | 266=>199 | n=>n,fun | 9=>9 | 4=>4 | 3=>3 | 5=>5 | 117=>181 | 116=>180 | 0=>0 | 124=>184 | 105=>203 | 21=>21 | 119=>193 | 46=>152 | 139=>196 | 138=>195 | n=>n,fun | 3=>0 | 4=>1 | n=>n⟩
theorem Tryz.UM:Go.Proofs.Lays.n161 Tryz.prog Tryz.O1:={
 mixed:=by kernel_rfl
 f119:=Tryz.func195.trans (congrArg some (by kernel_rfl))
 f137:=Tryz.func194.trans (congrArg some (by kernel_rfl))
 f151:=Tryz.func181.trans (congrArg some (by kernel_rfl))
 f152:=Tryz.func192.trans (congrArg some (by kernel_rfl))
 f161:=Tryz.func132.trans (congrArg some (by kernel_rfl))
 f197:=Tryz.func180.trans (congrArg some (by kernel_rfl))
 f217:=Tryz.func198.trans (congrArg some (by kernel_rfl))
 f224:=Tryz.func196.trans (congrArg some (by kernel_rfl))
 f225:=Tryz.func197.trans (congrArg some (by kernel_rfl))
 f227:=Tryz.func157.trans (congrArg some (by kernel_rfl))
 f228:=Tryz.func179.trans (congrArg some (by kernel_rfl))
 f231:=Tryz.func156.trans (congrArg some (by kernel_rfl))
 f233:=Tryz.func158.trans (congrArg some (by kernel_rfl))
 f235:=Tryz.func159.trans (congrArg some (by kernel_rfl))
 f260:=Tryz.func191.trans (congrArg some (by kernel_rfl))
 f266:=Tryz.func199.trans (congrArg some (by kernel_rfl))
 t0:=Tryz.underlying0
 a0:=Tryz.isAgg0
 z0:=Tryz.sizeOf0
 v0:=Tryz.zeroValue0
 t3:=Tryz.underlying3
 a3:=Tryz.isAgg3
 z3:=Tryz.sizeOf3
 v3:=Tryz.zeroValue3
 t4:=Tryz.underlying4
 a4:=Tryz.isAgg4
 z4:=Tryz.sizeOf4
 v4:=Tryz.zeroValue4
 t5:=Tryz.underlying5
 a5:=Tryz.isAgg5
 z5:=Tryz.sizeOf5
 v5:=Tryz.zeroValue5
 t9:=Tryz.underlying9
 a9:=Tryz.isAgg9
 z9:=Tryz.sizeOf9
 v9:=Tryz.zeroValue9
 t21:=Tryz.underlying21
 a21:=Tryz.isAgg21
 z21:=Tryz.sizeOf21
 v21:=Tryz.zeroValue21
 t46:=Tryz.underlying152
 a46:=Tryz.isAgg152
 z46:=Tryz.sizeOf152
 v46:=Tryz.zeroValue152
 t105:=Tryz.underlying203
 a105:=Tryz.isAgg203
 z105:=Tryz.sizeOf203
 v105:=Tryz.zeroValue203
 t116:=Tryz.underlying180
 a116:=Tryz.isAgg180
 z116:=Tryz.sizeOf180
 t117:=Tryz.underlying181
 a117:=Tryz.isAgg181
 z117:=Tryz.sizeOf181
 v117:=Tryz.zeroValue181
 t119:=Tryz.underlying193
 a119:=Tryz.isAgg193
 z119:=Tryz.sizeOf193
 t124:=Tryz.underlying184
 a124:=Tryz.isAgg184
 z124:=Tryz.sizeOf184
 v124:=Tryz.zeroValue184
 t138:=Tryz.underlying195
 a138:=Tryz.isAgg195
 z138:=Tryz.sizeOf195
 v138:=Tryz.zeroValue195
 t139:=Tryz.underlying196
 a139:=Tryz.isAgg196
 z139:=Tryz.sizeOf196
 v139:=Tryz.zeroValue196
 g3:=by kernel_rfl
 g4:=by kernel_rfl }
def Tryz.O3:Go.Shelf.Ren:=⟨fun | 162=>133 | 232=>160 | 227=>157 | 234=>161 | 236=>162 | 228=>179 | 271=>182 | 151=>181 | 120=>193 | 197=>180 | 152=>192 | 260=>191 | 137=>194 | 119=>195 | 224=>196 | 225=>197 | 217=>198 | 266=>199 | n=>n,fun | 9=>9 | 4=>4 | 3=>3 | 5=>5 | 117=>181 | 116=>180 | 0=>0 | 124=>184 | 21=>21 | 105=>203 | 46=>152 | 119=>193 | 139=>196 | 138=>195 | n=>n,fun | 3=>0 | 4=>1 | n=>n⟩
theorem Tryz.UN:Go.Proofs.Lays.n162 Tryz.prog Tryz.O3:={
 mixed:=by kernel_rfl
 f119:=Tryz.func195.trans (congrArg some (by kernel_rfl))
 f120:=Tryz.func193.trans (congrArg some (by kernel_rfl))
 f137:=Tryz.func194.trans (congrArg some (by kernel_rfl))
 f151:=Tryz.func181.trans (congrArg some (by kernel_rfl))
 f152:=Tryz.func192.trans (congrArg some (by kernel_rfl))
 f162:=Tryz.func133.trans (congrArg some (by kernel_rfl))
 f197:=Tryz.func180.trans (congrArg some (by kernel_rfl))
 f217:=Tryz.func198.trans (congrArg some (by kernel_rfl))
 f224:=Tryz.func196.trans (congrArg some (by kernel_rfl))
 f225:=Tryz.func197.trans (congrArg some (by kernel_rfl))
 f227:=Tryz.func157.trans (congrArg some (by kernel_rfl))
 f228:=Tryz.func179.trans (congrArg some (by kernel_rfl))
 f232:=Tryz.func160.trans (congrArg some (by kernel_rfl))
 f234:=Tryz.func161.trans (congrArg some (by kernel_rfl))
 f236:=Tryz.func162.trans (congrArg some (by kernel_rfl))
 f260:=Tryz.func191.trans (congrArg some (by kernel_rfl))
 f266:=Tryz.func199.trans (congrArg some (by kernel_rfl))
 f271:=Tryz.func182.trans (congrArg some (by kernel_rfl))
 t0:=Tryz.underlying0
 a0:=Tryz.isAgg0
 z0:=Tryz.sizeOf0
 v0:=Tryz.zeroValue0
 t3:=Tryz.underlying3
 a3:=Tryz.isAgg3
 z3:=Tryz.sizeOf3
 v3:=Tryz.zeroValue3
 t4:=Tryz.underlying4
 a4:=Tryz.isAgg4
 z4:=Tryz.sizeOf4
 v4:=Tryz.zeroValue4
 t5:=Tryz.underlying5
 a5:=Tryz.isAgg5
 z5:=Tryz.sizeOf5
 v5:=Tryz.zeroValue5
 t9:=Tryz.underlying9
 a9:=Tryz.isAgg9
 z9:=Tryz.sizeOf9
 v9:=Tryz.zeroValue9
 t21:=Tryz.underlying21
 a21:=Tryz.isAgg21
 z21:=Tryz.sizeOf21
 v21:=Tryz.zeroValue21
 t46:=Tryz.underlying152
 a46:=Tryz.isAgg152
 z46:=Tryz.sizeOf152
 v46:=Tryz.zeroValue152
 t105:=Tryz.underlying203
 a105:=Tryz.isAgg203
 z105:=Tryz.sizeOf203
 v105:=Tryz.zeroValue203
 t116:=Tryz.underlying180
 a116:=Tryz.isAgg180
 z116:=Tryz.sizeOf180
 t117:=Tryz.underlying181
 a117:=Tryz.isAgg181
 z117:=Tryz.sizeOf181
 v117:=Tryz.zeroValue181
 t119:=Tryz.underlying193
 a119:=Tryz.isAgg193
 z119:=Tryz.sizeOf193
 t124:=Tryz.underlying184
 a124:=Tryz.isAgg184
 z124:=Tryz.sizeOf184
 v124:=Tryz.zeroValue184
 t138:=Tryz.underlying195
 a138:=Tryz.isAgg195
 z138:=Tryz.sizeOf195
 v138:=Tryz.zeroValue195
 t139:=Tryz.underlying196
 a139:=Tryz.isAgg196
 z139:=Tryz.sizeOf196
 v139:=Tryz.zeroValue196
 g3:=by kernel_rfl
 g4:=by kernel_rfl }
end Go.Proofs
namespace Lp
open Go Go.Proofs Go.RowKit
theorem Eu {w:World}{ok:Nat→Prop}{blk:Nat→Option Nat}{args:List PV}{vs:List Value}(h:cZ (aX w ok [] blk) args vs):cZ (dz w ok) args vs:=h.mono fun _ _ h=>wQ h
theorem ai.rD {P:Program}{f:FuncId}{args:List PV}{r:PV}(hent:Enters P f)
  (h:∀ (w:World) (vs:List Value) (ok:Nat→Prop),rO.holds w.heap→cZ (dz w ok) args vs→Calls P f ⟨vs⟩ w fun e w'=>∃ v,e=.returned v∧(∀ w ok,dz w ok r v)∧Below w.heap.size w w') :
  ai P f args [] r []:=by
 refine ⟨hent,fun w blk vs base hb _ hargs=>(h w vs _ hb.1 (Eu hargs)).mono ?_⟩
 rintro e w' ⟨v,h1,h2,h3⟩
 exact ⟨v,blk,h1,wR,.aJ (h2 _ _),fun b hb _=>h3.block b hb,h3.size,h3.os,h3.output⟩
theorem ai.Sg {P:Program}{f:FuncId}{args:List PV}{ty:TypeId}{sz:Nat}(hent:Enters P f) (hty:ty≠MT)
  (h:∀ (w:World) (vs:List Value) (ok:Nat→Prop),rO.holds w.heap→cZ (dz w ok) args vs→Calls P f ⟨vs⟩ w fun e w'=>∃ v,e=.returned v∧Below w.heap.size w w'∧
   (v=.slice none 0 0∨∃ g cap c,w.heap.size≤g∧v=.slice (some ⟨g,0,none⟩) 0 cap∧w'.heap[g]?=some (.cells c ty (0,0))∧cap≤maxLen∧c.size=cap*sz)) :
  ai P f args [] (.bG 0 0) [⟨ty,sz,[],true,0⟩]:=by
 refine ⟨hent,fun w blk vs base hb _ hargs=>(h w vs _ hb.1 (Eu hargs)).mono ?_⟩
 have one:∀ (k:Nat) (o:Obj),([⟨ty,sz,[],true,0⟩]:List Obj)[k]?=some o→k=0∧o=⟨ty,sz,[],true,0⟩:=fun k o ho=>by
  match k,ho with
  | 0,ho=>cases ho;exact ⟨rfl,rfl⟩
  | _+1,ho=>simp at ho
 rintro e w' ⟨v,h1,h3,h4⟩
 rcases h4 with rfl | ⟨g,cap,c,hg,rfl,hc,hm,hs⟩
 · refine ⟨_,fun _=>none,h1,⟨fun k o ho _=>?_,fun k k' o o' g _ _ _ _ _ hx=>(by cases hx),fun k o g _ _ hx=>(by cases hx)⟩,⟨rfl,_,rfl,Nat.le_refl _,fun _ _=>⟨hty,?_⟩⟩,fun b hb _=>h3.block b hb,h3.size,h3.os,h3.output⟩
   · obtain ⟨rfl,rfl⟩:=one k o ho;rfl
   · exact ⟨rfl,rfl⟩
 · refine ⟨_,fun _=>some g,h1,⟨fun k o ho _=>?_,fun k k' o o' g hkk ho _ ho' _ _=>?_,fun k o g' ho _ hx hp=>?_⟩,⟨rfl,_,rfl,Nat.le_refl _,fun _ _=>⟨hty,?_⟩⟩,fun b hb _=>h3.block b hb,h3.size,h3.os,h3.output⟩
   · obtain ⟨rfl,rfl⟩:=one k o ho
     exact ⟨c,by rw [lF hty];exact hc,uH hty (by simp),fun i x hx=>by simp at hx⟩
   · obtain ⟨rfl,_⟩:=one k o ho
     obtain ⟨rfl,_⟩:=one k' o' ho'
     exact absurd rfl hkk
   · simp only [Option.some.injEq] at hx
     subst hx
     exact absurd hp.1 (by omega)
   · exact ⟨cap,c,rfl,hc,Nat.zero_le _,hm,hs⟩
theorem ac0 {w:World}{ok:Nat→Prop}{p:PV}{vs:List Value}(h:cZ (dz w ok) [p] vs):∃ u,vs=[u]∧dz w ok p u:=by
 obtain ⟨hl,h⟩:=h
 match vs,hl with
 | [u],_=>exact ⟨u,rfl,h 0 _ _ rfl rfl⟩
theorem O4 {w:World}{ok:Nat→Prop}{p q:PV}{vs:List Value}(h:cZ (dz w ok) [p,q] vs):∃ u v,vs=[u,v]∧dz w ok p u∧dz w ok q v:=by
 obtain ⟨hl,h⟩:=h
 match vs,hl with
 | [u,v],_=>exact ⟨u,v,rfl,h 0 _ _ rfl rfl,h 1 _ _ rfl rfl⟩
theorem kH {w:World}{ok:Nat→Prop}{s:List UInt8}{v:Value}(h:dz w ok (.str s) v):v=.string ⟨⟨s⟩⟩:=by cases h;rfl
theorem O5 {w:World}{ok:Nat→Prop}{k:IntKind}{n:Int}{v:Value}(h:dz w ok (.int k n) v):v=.int k n:=by cases h;rfl
theorem Si (w:World):Below w.heap.size w w.drew:=(Below.refl _ _).drew
theorem KC {w:World}(h:rO.holds w.heap):Lib.Utf8Tabs 0 1 w:=h w rfl
theorem DI (s:List UInt8) (hs:s.length≤4611686018427387904):ai Tryz.prog 142 [.str s] [] (.bool (utf s)) []:=by
 refine ai.rD ⟨_,Tryz.LY.f196,by kernel_rfl,by kernel_rfl⟩ fun w vs ok hg hr=>?_
 obtain ⟨u,rfl,h⟩:=ac0 hr
 cases kH h
 refine (Any.utf8_ValidString Tryz.LY ⟨⟨s⟩⟩ w (by rw [Lib.size_eq];simp;omega) (KC hg)).mono ?_
 rintro e w' ⟨h1,h2⟩
 exact ⟨_,h1,fun w ok=>by rw [Wt];exact .bool _,h2⟩
theorem Sj (s:List UInt8) (hs:s.length≤4611686018427387904):ai Tryz.prog 185 [.str s,.str [48]] [] (.str (Lib.trimB s 48)) []:=by
 refine ai.rD ⟨_,Tryz.UK.f160,by kernel_rfl,by kernel_rfl⟩ fun w vs ok hg hr=>?_
 obtain ⟨u,v,rfl,h,h'⟩:=O4 hr
 cases kH h
 cases kH h'
 refine (Any.strings_Trim_one Tryz.UK ⟨⟨s⟩⟩ 48 (by decide) w (by rw [Lib.size_eq];simp;omega)).mono ?_
 rintro e w' ⟨h1,h2⟩
 refine ⟨_,h1,fun w ok=>.str _,?_⟩
 rcases h2 with rfl | rfl
 · exact .refl _ _
 · exact Si w
theorem Ji (W:World) (x:Nat) (hx:x≤1114111):Calls Tryz.prog 155 #[.int .i32 (x:Int)] W fun e w'=>e=.returned (.bool (l9 x))∧Below W.heap.size W w':=by
 have mixed:Tryz.prog.follows .mixedOrders=true:=by kernel_rfl
 have e1:l9 x=(decide (48≤(x:Int)) && decide ((x:Int)≤57)):=by
  have a:decide (48≤x)=decide (48≤(x:Int)):=decide_eq_decide.2 (by omega)
  have b:decide (x≤57)=decide ((x:Int)≤57):=decide_eq_decide.2 (by omega)
  rw [l9,a,b]
 rw [e1]
 have h1:(x:Int)<48∨48≤(x:Int):=by omega
 rcases h1 with h1 | h1
 · have h2:¬ (48≤(x:Int)):=by omega
   rw [decide_eq_false h2]
   go_enter Tryz.func155,Tryz.ntmps155
   go_wp2
   go_ret
   exact ⟨rfl,.refl _ _⟩
 · rw [decide_eq_true h1]
   rcases (by omega:(x:Int)≤57∨57<(x:Int)) with h2 | h2
   · rw [decide_eq_true h2]
     go_enter Tryz.func155,Tryz.ntmps155
     go_wp2
     go_ret
     exact ⟨rfl,.refl _ _⟩
   · have h3:¬ ((x:Int)≤57):=by omega
     rw [decide_eq_false h3]
     go_enter Tryz.func155,Tryz.ntmps155
     go_wp2
     go_ret
     exact ⟨rfl,.refl _ _⟩
theorem LZ (s:List UInt8) (hs:s.length≤4611686018427387904):ai Tryz.prog 154 [.str s,.fn 155 [] []] [] (.str (Lib.trimF l9 ⟨⟨s⟩⟩).data.toList) []:=by
 refine ai.rD ⟨_,Tryz.UL.f237,by kernel_rfl,by kernel_rfl⟩ fun w vs ok hg hr=>?_
 obtain ⟨u,v,rfl,h,h'⟩:=O4 hr
 cases kH h
 have hv:v=.func (.func 155) #[] #[]:=by
  cases h' with
  | fn _ _ _ va vc hla hlc ha hc=>
   have e1:va=[]:=List.length_eq_zero_iff.1 (by simpa using hla.symm)
   have e2:vc=[]:=List.length_eq_zero_iff.1 (by simpa using hlc.symm)
   subst e1;subst e2;rfl
 subst hv
 have eg:∀ args w,(callFunc 155 args).run Tryz.prog w=.ok (.enter 155 args) w:=enters_of Tryz.func155 (by kernel_rfl) rfl
 refine (Any.strings_TrimFunc_grows Tryz.UL 155 #[] eg l9 ⟨⟨s⟩⟩ w (by rw [Lib.size_eq];simp;omega) (KC hg) fun W x hx _=>Ji W x hx).mono ?_
 rintro e w' ⟨h1,h2⟩
 exact ⟨_,h1,fun w ok=>.str _,h2⟩
def uX:dF:=fun args objs K=>match args with
 | [.str s,a1]=>a1=(.fn 155 [] [])∧(s.length≤4611686018427387904)∧K (.str (Lib.trimF l9 ⟨⟨s⟩⟩).data.toList) objs 0
 | _=>False
theorem Jj:aB Tryz.prog 154 (uX):=by
 intro args objs K h
 unfold uX at h
 split at h
 · rename_i s a1
   obtain ⟨rfl,h1,hk⟩:=h
   exact ⟨_,_,_,.pure _ rfl (LZ s h1),hk⟩
 · exact h.elim
def eD:dF:=fun args objs K=>match args with
 | [.str s]=>(s.length≤4611686018427387904)∧K (.bool (utf s)) objs 0
 | _=>False
theorem BB:aB Tryz.prog 142 (eD):=by
 intro args objs K h
 unfold eD at h
 split at h
 · rename_i s
   obtain ⟨h1,hk⟩:=h
   exact ⟨_,_,_,.pure _ rfl (DI s h1),hk⟩
 · exact h.elim
def BD:dF:=fun args objs K=>match args with
 | [.str s,a1]=>a1=(.str [48])∧(s.length≤4611686018427387904)∧K (.str (Lib.trimB s 48)) objs 0
 | _=>False
theorem O6:aB Tryz.prog 185 (BD):=by
 intro args objs K h
 unfold BD at h
 split at h
 · rename_i s a1
   obtain ⟨rfl,h1,hk⟩:=h
   exact ⟨_,_,_,.pure _ rfl (Sj s h1),hk⟩
 · exact h.elim
end Lp
namespace Lp
open Go Go.Proofs
theorem qA (d n:Nat) (O:List Obj) (t:TypeId) (sz:Nat) (v:Vl) (ver:Nat):fE d n O ⟨t,sz,v.map ay,true,ver⟩=⟨t,sz,v.map ay,true,ver⟩:=by
 have:(v.map ay).map (PV.bJ (eY d n O))=v.map ay:=by
  rw [List.map_map]
  exact List.map_congr_left fun x _=>rfl
 simp only [fE,this]
end Lp
namespace Lp
open Go Go.Proofs
section
variable {α:Type}{enc:α→PV}{sz:Nat}
def ofR (enc:α→PV) (xs:List PV){K:List α→Prop}(_h:HK K):Prop:=∃ l,xs=l.map enc∧K l
theorem Sk (hi:∀ a b,enc a=enc b→a=b) (K:List α→Prop) (l:List α):ofR enc (l.map enc) (HK.mk:HK K)=K l:=by
 refine propext ⟨fun ⟨m,h1,h2⟩=>?_,fun h=>⟨l,rfl,h⟩⟩
 have:l=m:=(List.map_inj_right (fun a b h=>hi a b h)).1 h1
 subst this;exact h2
end
end Lp
namespace Lp
open Go Go.Proofs
open Nat (lt_or_ge reduceAdd reduceLeDiff reduceMul reduceSub)
open Int (reduceLE reduceToNat)
theorem aP.Y6 {P:Program}{D:TypeId→aD}{T:Know}{f:FuncId}{n t u v:Nat}{C:LC}{args:List PV}{r:PV}(h:aP P f n [.tmp t,.tmp u,.tmp v] C) (d:Nat) (hD:∀ t,iN P t (D t)) (hT:FB P none rV T) (hm:P.follows .mixedOrders=true) (ht:t<n) (hu:u<n) (hv:v<n)
  (hw:∀ Q:Exit→St→Prop,(∀ l ob,Q .ret ⟨dI n l,ob⟩=(r=.b_ [gQ d 0 ob (l_ l t),gQ d 0 ob (l_ l u),gQ d 0 ob (l_ l v)]))→kW P D T C Q (bV args n)):ai P f args [] r []:=by
 refine h.pure d hD hT hm (by simp) (hw _ fun l ob=>?_)
 simp only [nk,jI,rW.2.1 n l t ht,rW.2.1 n l u hu,rW.2.1 n l v hv,List.map_cons,List.map_nil,fw]
theorem Wu (s:List UInt8) (hs:s.length≤1000000000):ai Tryz.prog 119 [.str s] [] (.bool (nA s)) []:=by
 refine Bq.bg (T:=aR Tryz.prog []) 0 hD (aj ah) a_ (by decide) fun Q hQ=>?_
 (conv=>arg 4;cbv);simp(maxSteps:=400000)only[↓av,ax,BEq.rfl,reduceIte,reduceCtorEq,Nat.reduceLT,reduceAdd,reduceSub,reduceMul,Nat.reduceBEq,reduceLeDiff,reduceToNat,reduceLE,hQ]
 refine aH (fun m S=>∃ i:Nat,i+m=s.length∧(∀ (j:Nat) c,j<i→s[j]?=some c→(pz c || (decide (0<j) && nI c))=true)∧S=⟨dI 49 [(0,.str s),(3,.int .i64 i)],[]⟩) s.length ⟨0,by omega,fun j c h=>absurd h (Nat.not_lt_zero j),?_⟩ ?_
 · simp only [bW,keepR,reduceAdd,nu,Nat.reduceBEq,List.map_nil]
   rfl
 rintro m S ⟨i,him,hb,rfl⟩
 rcases lt_or_ge i s.length with h | h
 · have hlt:((i:Int)<(s.length:Int))=True:=eq_true (by omega)
   have zi:(0≤(i:Int))=True:=eq_true (by omega)
   have hgi:=List.getElem?_eq_getElem h
   generalize s[i]=c at hgi
   have hw:=NR hgi
   have hn:(pz c || (decide (0<i) && nI c))=true→(∀ (j:Nat) c,j<i+1→s[j]?=some c→(pz c || (decide (0<j) && nI c))=true):=fun hc j x hj hx=>by
    rcases lt_or_ge j i with g | g
    · exact hb j x g hx
    · have:j=i:=by omega
      subst this
      rw [hgi] at hx;cases hx;exact hc
   have hiff:(pz c || (decide (0<i) && nI c))=true↔((97≤(c.toNat:Int)∧(c.toNat:Int)≤122)∨(65≤(c.toNat:Int)∧(c.toNat:Int)≤90)∨(c.toNat:Int)=95∨(0<i∧48≤(c.toNat:Int)∧(c.toNat:Int)≤57)):=by
    simp only [pz,nI,Bool.or_eq_true,Bool.and_eq_true,decide_eq_true_eq,or_assoc]
   have hw':=fun h=>hw (by rw [← Bool.not_eq_true,hiff];exact h)
   have hn':=fun h=>hn (hiff.2 h)
   clear hw hn hiff
   simp(maxSteps:=400000)only[↓av,ax,BEq.rfl,reduceIte,reduceCtorEq,Nat.reduceLT,reduceAdd,reduceSub,reduceMul,Nat.reduceBEq,reduceLeDiff,reduceToNat,reduceLE,hQ,hlt,zi,hgi]
   repeat' (first | exact ⟨⟨by omega,by omega⟩,m-1,by omega,i+1,by omega,hn' (by omega),rfl⟩ | exact hw' (by omega) | intro _ | refine ⟨?_,?_⟩)
 · have hlt:((i:Int)<(s.length:Int))=False:=eq_false (by omega)
   simp(maxSteps:=400000)only[↓av,ax,BEq.rfl,reduceIte,reduceCtorEq,Nat.reduceLT,reduceAdd,reduceSub,reduceMul,Nat.reduceBEq,reduceLeDiff,reduceToNat,reduceLE,hQ,hlt]
   cases hs0:s with
   | nil=>rfl
   | cons a t=>
    rw [← hs0,Rc (by rw [hs0];simp) fun j c hc=>hb j c (by have:=(List.getElem?_eq_some_iff.1 hc).1;omega) hc]
    simp [hs0]
def j3:dF:=fun args objs K=>match args with
 | [.str s]=>(s.length≤1000000000)∧K (.bool (nA s)) objs 0
 | _=>False
theorem Sl:aB Tryz.prog 119 (j3):=by
 intro args objs K h
 unfold j3 at h
 split at h
 · rename_i s
   obtain ⟨h1,hk⟩:=h
   exact ⟨_,_,_,.pure _ rfl (Wu s h1),hk⟩
 · exact h.elim
theorem cv8 (objs:List Obj) (K:KT):(∀ x,kD D 5 3 (.int .u8 x) objs K=K (.int .i64 (IntKind.i64.wrap x)) objs 0)∧(∀ x,kD D 3 5 (.int .i64 x) objs K=K (.int .u8 (IntKind.u8.wrap x)) objs 0):=by
 refine ⟨fun x=>?_,fun x=>?_⟩
 all_goals simp [kD,nC,bM]
theorem aaV:∀ k:Nat,k≤7→(10:Int) ^ k≤10000000:=by
 intro k hk
 have:∀ k ∈ List.range 8,(10:Int) ^ k≤10000000:=by decide
 exact this k (List.mem_range.2 (by omega))
theorem O7 {s:List UInt8}{f i:Nat}{n:Int}(h:f=0∨s[i]?=none∨∃ c,s[i]?=some c∧¬ (48≤(c.toNat:Int)∧(c.toNat:Int)≤57)):qO s f i n=(n,i):=by
 cases f with
 | zero=>rfl
 | succ f=>
  rcases h with h | h | ⟨c,h,hc⟩
  · omega
  · simp only [qO,h]
  · have:nI c=false:=by simp only [nI,Bool.and_eq_false_iff,decide_eq_false_iff_not];omega
    simp only [qO,h,this];rfl
theorem aaW {s:List UInt8}{f i:Nat}{n:Int}{c:UInt8}(h:s[i]?=some c) (h1:48≤(c.toNat:Int)) (h2:(c.toNat:Int)≤57):qO s (f+1) i n=qO s f (i+1) (n*10+((c.toNat:Int)-48)):=by
 have:nI c=true:=by simp only [nI,Bool.and_eq_true,decide_eq_true_eq];exact ⟨h1,h2⟩
 simp only [qO,h,this,if_true]
theorem aaX {s:List UInt8}{i0 i:Nat}{n:Int}(hF:qO s 7 i0 0=(n,i)) :
  ((i=i0∨(s[i0]?=some 48∧i0+1<i)∨1000000<n)→dA s i0=(-1,i0))∧(¬ (i=i0∨(s[i0]?=some 48∧i0+1<i)∨1000000<n)→dA s i0=(n,i)):=by
 constructor
 · intro h;unfold dA;rw [hF,if_pos h]
 · intro h;unfold dA;rw [hF,if_neg h]
theorem pJ {a b:Int×Nat}(h:a=b):PV.b_ [PV.int .i64 a.1,PV.int .i64 (a.2:Int)]=PV.b_ [PV.int .i64 b.1,PV.int .i64 (b.2:Int)]:=by rw [h]
theorem Wv (s:List UInt8) (i0:Nat) (hs:s.length≤1000000000) (hi0:i0≤s.length):ai Tryz.prog 122 [.str s,.int .i64 i0] [] (.b_ [.int .i64 (dA s i0).1,.int .i64 (dA s i0).2]) []:=by
 refine xk.Dt (T:=aR Tryz.prog []) 0 hD (aj ah) a_ (by decide) (by decide) fun Q hQ=>?_
 (conv=>arg 4;cbv);simp(maxSteps:=400000)only[↓av,ax,BEq.rfl,reduceIte,reduceCtorEq,Nat.reduceLT,reduceAdd,reduceSub,reduceMul,Nat.reduceBEq,reduceLeDiff,reduceToNat,reduceLE,hQ]
 refine aH (fun m S=>∃ (i:Nat) (n:Int),m=7-(i-i0)∧i0≤i∧i-i0≤7∧i≤s.length∧0≤n∧n<10 ^ (i-i0)∧qO s 7 i0 0=qO s (7-(i-i0)) i n∧S=⟨dI 63 [(0,.str s),(1,.int .i64 i),(6,.int .i64 n),(7,.int .i64 i0)],[]⟩) 7 ⟨i0,0,by omega,by omega,by omega,hi0,by omega,by simp,by simp,?_⟩ ?_
 · simp only [bW,keepR,reduceAdd,nu,Nat.reduceBEq,List.map_nil]
 rintro m S ⟨i,n,hm,h1,h2,h3,h4,h5,hF,rfl⟩
 have hn7:n<10000000:=by have:=aaV (i-i0) h2;omega
 have zi:(0≤(i:Int))=True:=eq_true (by omega)
 have zi0:(0≤(i0:Int))=True:=eq_true (by omega)
 have hend:qO s (7-(i-i0)) i n=(n,i)→((∀ c0,s[i0]?=some c0→(i=i0∨((c0.toNat:Int)=48∧i0+1<i)∨1000000<n)→dA s i0=(-1,i0))∧(∀ c0,s[i0]?=some c0→¬ (i=i0∨((c0.toNat:Int)=48∧i0+1<i)∨1000000<n)→dA s i0=(n,i))∧(i=i0→dA s i0=(-1,i0))):=fun e=>by
  obtain ⟨g1,g2⟩:=aaX (hF.trans e)
  have b48:∀ c0:UInt8,(c0.toNat:Int)=48↔c0=48:=fun c0=>mq (k:=48) (by omega)
  refine ⟨fun c0 h0 hc=>g1 ?_,fun c0 h0 hc=>g2 ?_,fun h=>g1 (Or.inl h)⟩
  · rw [h0,Option.some.injEq,← b48];exact hc
  · rw [h0,Option.some.injEq,← b48];exact hc
 have e0:((i:Int)=(i0:Int))=(i=i0):=propext (by omega)
 rcases lt_or_ge i s.length with h | h
 · have hlt:((i:Int)<(s.length:Int))=True:=eq_true (by omega)
   have hgi:=List.getElem?_eq_getElem h
   generalize s[i]=c at hgi
   have hstep:i-i0<7→48≤(c.toNat:Int)→(c.toNat:Int)≤57→qO s 7 i0 0=qO s (7-(i+1-i0)) (i+1) (n*10+((c.toNat:Int)-48))∧0≤n*10+((c.toNat:Int)-48)∧n*10+((c.toNat:Int)-48)<10 ^ (i+1-i0):=fun a1 a2 a3=>by
    obtain ⟨k,hk⟩:∃ k,i-i0=k:=⟨_,rfl⟩
    have e1:7-(i-i0)=(7-(i+1-i0))+1:=by omega
    refine ⟨by rw [hF,e1,aaW hgi a2 a3],by omega,?_⟩
    have e2:i+1-i0=k+1:=by omega
    rw [e2,Int.pow_succ]
    rw [hk] at h5
    omega
   have hE:(¬ (48≤(c.toNat:Int)∧(c.toNat:Int)≤57)∨i-i0=7)→qO s (7-(i-i0)) i n=(n,i):=fun hc=>O7 (by
    rcases hc with hc | hc
    · exact .inr (.inr ⟨c,hgi,hc⟩)
    · exact .inl (by omega))
   have hcv:48≤(c.toNat:Int)→IntKind.i64.wrap ((c.toNat:Int)-48)=(c.toNat:Int)-48:=fun _=>by have:=Az c;rw [IntKind.wrap_i64];omega
   rcases Nat.eq_or_lt_of_le h1 with hi | hi
   · subst hi
     by_cases h48:48≤(c.toNat:Int)
     · have ac1:=hcv h48
       simp(maxSteps:=400000)only[↓av,ax,BEq.rfl,reduceIte,reduceCtorEq,Nat.reduceLT,reduceAdd,reduceSub,reduceMul,Nat.reduceBEq,reduceLeDiff,reduceToNat,reduceLE,hQ,hlt,zi,hgi,cv8,ac1,zi0]
       repeat' (first | exact ⟨⟨by omega,by omega⟩,m-1,by omega,i0+1,_,by omega,by omega,by omega,by omega,(hstep (by omega) (by omega) (by omega)).2.1,(hstep (by omega) (by omega) (by omega)).2.2,(hstep (by omega) (by omega) (by omega)).1,rfl⟩ | exact (pJ ((hend (hE (by omega))).2.2 rfl)) | exact (by omega) | intro _ | refine ⟨?_,?_⟩)
     · simp(maxSteps:=400000)only[↓av,ax,BEq.rfl,reduceIte,reduceCtorEq,Nat.reduceLT,reduceAdd,reduceSub,reduceMul,Nat.reduceBEq,reduceLeDiff,reduceToNat,reduceLE,hQ,hlt,zi,hgi,zi0]
       repeat' (first | exact (pJ ((hend (hE (by omega))).2.2 rfl)) | exact (by omega) | intro _ | refine ⟨?_,?_⟩)
   · have hg0:=List.getElem?_eq_getElem (show i0<s.length by omega)
     generalize s[i0]=c0 at hg0
     by_cases h48:48≤(c.toNat:Int)
     · have ac1:=hcv h48
       simp(maxSteps:=400000)only[↓av,ax,BEq.rfl,reduceIte,reduceCtorEq,Nat.reduceLT,reduceAdd,reduceSub,reduceMul,Nat.reduceBEq,reduceLeDiff,reduceToNat,reduceLE,hQ,hlt,zi,hgi,cv8,ac1,zi0,hg0]
       repeat' (first | exact ⟨⟨by omega,by omega⟩,m-1,by omega,i+1,_,by omega,by omega,by omega,by omega,(hstep (by omega) (by omega) (by omega)).2.1,(hstep (by omega) (by omega) (by omega)).2.2,(hstep (by omega) (by omega) (by omega)).1,rfl⟩ | exact (pJ ((hend (hE (by omega))).1 c0 hg0 (by omega))) | exact (pJ ((hend (hE (by omega))).2.1 c0 hg0 (by omega))) | exact (by omega) | intro _ | refine ⟨?_,?_⟩)
     · simp(maxSteps:=400000)only[↓av,ax,BEq.rfl,reduceIte,reduceCtorEq,Nat.reduceLT,reduceAdd,reduceSub,reduceMul,Nat.reduceBEq,reduceLeDiff,reduceToNat,reduceLE,hQ,hlt,zi,hgi,zi0,hg0]
       repeat' (first | exact (pJ ((hend (hE (by omega))).1 c0 hg0 (by omega))) | exact (pJ ((hend (hE (by omega))).2.1 c0 hg0 (by omega))) | exact (by omega) | intro _ | refine ⟨?_,?_⟩)
 · have hlt:((i:Int)<(s.length:Int))=False:=eq_false (by omega)
   have hE:qO s (7-(i-i0)) i n=(n,i):=O7 (.inr (.inl (List.getElem?_eq_none_iff.2 h)))
   rcases Nat.eq_or_lt_of_le h1 with hi | hi
   · subst hi
     simp(maxSteps:=400000)only[↓av,ax,BEq.rfl,reduceIte,reduceCtorEq,Nat.reduceLT,reduceAdd,reduceSub,reduceMul,Nat.reduceBEq,reduceLeDiff,reduceToNat,reduceLE,hQ,hlt,zi0]
     repeat' (first | exact (pJ ((hend hE).2.2 rfl)) | exact (by omega) | intro _ | refine ⟨?_,?_⟩)
   · have hg0:=List.getElem?_eq_getElem (show i0<s.length by omega)
     generalize s[i0]=c0 at hg0
     simp(maxSteps:=400000)only[↓av,ax,BEq.rfl,reduceIte,reduceCtorEq,Nat.reduceLT,reduceAdd,reduceSub,reduceMul,Nat.reduceBEq,reduceLeDiff,reduceToNat,reduceLE,hQ,hlt,zi0,hg0]
     repeat' (first | exact (pJ ((hend hE).1 c0 hg0 (by omega))) | exact (pJ ((hend hE).2.1 c0 hg0 (by omega))) | exact (by omega) | intro _ | refine ⟨?_,?_⟩)
def nZ:dF:=fun args objs K=>match args with
 | [.str s,.int .i64 i]=>(s.length≤1000000000)∧(0≤i)∧(i≤s.length)∧K (.b_ [.int .i64 (dA s i.toNat).1,.int .i64 (dA s i.toNat).2]) objs 0
 | _=>False
theorem Sn:aB Tryz.prog 122 (nZ):=by
 intro args objs K h
 unfold nZ at h
 split at h
 · rename_i s i
   obtain ⟨h1,h2,h3,hk⟩:=h
   exact ⟨_,_,_,.pure _ rfl ((by have:=Wv s i.toNat h1 (by omega);rwa [Int.toNat_of_nonneg h2] at this)),hk⟩
 · exact h.elim
theorem Y7:∀ bs bs':List UInt8,bs.map (fun b:UInt8=>PV.int .u8 b.toNat)=bs'.map (fun b:UInt8=>PV.int .u8 b.toNat)→bs=bs'
 | [],[],_=>rfl
 | [],_::_,h=>by simp at h
 | _::_,[],h=>by simp at h
 | a::t,b::u,h=>by
  simp only [List.map_cons,List.cons.injEq,PV.int.injEq,true_and] at h
  have h1:a.toNat=b.toNat:=by omega
  rw [UInt8.toNat_inj.1 h1,Y7 t u h.2]
theorem Hl (bs:List UInt8) (hb:bs≠[]) (K:KT):kD D 146 9 (.bG 0 1) [⟨5,1,bs.map (fun b:UInt8=>PV.int .u8 b.toNat),true,1⟩] K=K (.str bs) [⟨5,1,bs.map (fun b:UInt8=>PV.int .u8 b.toNat),true,1⟩] 4:=by
 refine propext ⟨?_,fun h=>⟨_,bs,rfl,rfl,rfl,rfl,hb,rfl,by simp only [bM],⟨5,by simp only [bM],by simp only [bM]⟩,h⟩⟩
 rintro ⟨o,bs',h1,_,_,_,_,h2,_,_,h⟩
 cases h1
 have:bs=bs':=Y7 _ _ h2
 subst this
 exact h
theorem Y8 (n:Int):IntKind.u8.wrap n=((yI n).toNat:Int):=by
 have h1:0≤n % 256:=by omega
 have h2:n % 256<256:=by omega
 have:(yI n).toNat=(n % 256).toNat:=by simp only [yI,UInt8.toNat_ofNat'];omega
 rw [this,IntKind.wrap_u8];omega
theorem ab5 :
  (∀ (c:UInt8) K,kD D 146 9 (.bG 0 1) [⟨5,1,[.int .u8 c.toNat],true,1⟩] K=K (.str [c]) [⟨5,1,[.int .u8 c.toNat],true,1⟩] 4)∧
  (∀ a K,kD D 146 9 (.bG 0 1) [⟨5,1,[.int .u8 (IntKind.u8.wrap a)],true,1⟩] K=K (.str [yI a]) [⟨5,1,[.int .u8 (IntKind.u8.wrap a)],true,1⟩] 4)∧
  (∀ a b K,kD D 146 9 (.bG 0 1) [⟨5,1,[.int .u8 (IntKind.u8.wrap a),.int .u8 (IntKind.u8.wrap b)],true,1⟩] K=K (.str [yI a,yI b]) [⟨5,1,[.int .u8 (IntKind.u8.wrap a),.int .u8 (IntKind.u8.wrap b)],true,1⟩] 4)∧
  (∀ a b c K,kD D 146 9 (.bG 0 1) [⟨5,1,[.int .u8 (IntKind.u8.wrap a),.int .u8 (IntKind.u8.wrap b),.int .u8 (IntKind.u8.wrap c)],true,1⟩] K=K (.str [yI a,yI b,yI c]) [⟨5,1,[.int .u8 (IntKind.u8.wrap a),.int .u8 (IntKind.u8.wrap b),.int .u8 (IntKind.u8.wrap c)],true,1⟩] 4)∧
  (∀ a b c d K,kD D 146 9 (.bG 0 1) [⟨5,1,[.int .u8 (IntKind.u8.wrap a),.int .u8 (IntKind.u8.wrap b),.int .u8 (IntKind.u8.wrap c),.int .u8 (IntKind.u8.wrap d)],true,1⟩] K=K (.str [yI a,yI b,yI c,yI d]) [⟨5,1,[.int .u8 (IntKind.u8.wrap a),.int .u8 (IntKind.u8.wrap b),.int .u8 (IntKind.u8.wrap c),.int .u8 (IntKind.u8.wrap d)],true,1⟩] 4):=by
 simp only [Y8]
 exact ⟨fun c K=>Hl [c] (by simp) K,fun a K=>Hl [yI a] (by simp) K,fun a b K=>Hl [yI a,yI b] (by simp) K,fun a b c K=>Hl [yI a,yI b,yI c] (by simp) K,fun a b c d K=>Hl [yI a,yI b,yI c,yI d] (by simp) K⟩
theorem Y9 {l:List PV}{i:Nat}{a:PV}(h:l[i]?=some a) (objs:List Obj) (K:KT):bA (.b_ l) i objs K=K a objs 0:=by
 unfold bA
 exact propext ⟨fun ⟨p,h1,h2⟩=>by rw [h] at h1;cases h1;exact h2,fun k=>⟨_,h,k⟩⟩
theorem ic :
  (∀ a b objs K,bA (.b_ [a,b]) 0 objs K=K a objs 0)∧(∀ a b objs K,bA (.b_ [a,b]) 1 objs K=K b objs 0)∧
  (∀ a b c objs K,bA (.b_ [a,b,c]) 0 objs K=K a objs 0)∧(∀ a b c objs K,bA (.b_ [a,b,c]) 1 objs K=K b objs 0)∧(∀ a b c objs K,bA (.b_ [a,b,c]) 2 objs K=K c objs 0):=
 ⟨fun _ _=>Y9 rfl,fun _ _=>Y9 rfl,fun _ _ _=>Y9 rfl,fun _ _ _=>Y9 rfl,fun _ _ _=>Y9 rfl⟩
end Lp
namespace Lp
open Go Go.Proofs
open List (length_cons length_drop length_take map_nil)
open Nat (lt_or_ge reduceAdd reduceLeDiff reduceMul reduceSub)
open Int (reduceLE reduceToNat toNat_natCast)
theorem BF (n:Nat):(Ve n).length≤1:=by simp only [Ve,length_drop,length_take];omega
theorem Y_ (n:Nat) (hn:n<16):ai Tryz.prog 153 [.int .i64 n] [] (.str (Ve n)) []:=by
 refine Du.bg (T:=aR Tryz.prog []) 0 hD (aj ah) a_ (by decide) fun Q hQ=>?_
 (conv=>arg 4;cbv);simp(maxSteps:=400000)only[↓av,ax,BEq.rfl,reduceIte,reduceCtorEq,Nat.reduceLT,reduceAdd,reduceSub,reduceMul,Nat.reduceBEq,reduceLeDiff,reduceToNat,reduceLE,hQ]
 have t1:((n:Int)+1).toNat=n+1:=by omega
 refine ⟨⟨by omega,by omega⟩,by omega,by omega,by have:((16:Nat):Int)=16:=rfl;omega,?_⟩
 rw [t1];rfl
def L6:dF:=fun args objs K=>match args with
 | [.int .i64 n]=>(0≤n)∧(n<16)∧K (.str (Ve n.toNat)) objs 0
 | _=>False
theorem Ww:aB Tryz.prog 153 (L6):=by
 intro args objs K h
 unfold L6 at h
 split at h
 · rename_i n
   obtain ⟨h1,h2,hk⟩:=h
   exact ⟨_,_,_,.pure _ rfl ((by have:=Y_ n.toNat (by omega);rwa [Int.toNat_of_nonneg h1] at this)),hk⟩
 · exact h.elim
theorem L8 (c:UInt8):ai Tryz.prog 130 [.int .u8 c.toNat] [] (.str (ow c)) []:=by
 refine xq.bg (T:=aR Tryz.prog [(153,L6)]) 0 hD (aj (af Ww ah)) a_ (by decide) fun Q hQ=>?_
 have hl:=Az c
 have hw:IntKind.i64.wrap (c.toNat:Int)=(c.toNat:Int):=by rw [IntKind.wrap_i64];omega
 have hd:((c.toNat:Int)).tdiv 16=((c.toNat / 16:Nat):Int):=rfl
 have hm:((c.toNat:Int)).tmod 16=((c.toNat % 16:Nat):Int):=rfl
 have l1:=BF (c.toNat / 16)
 have l2:=BF (c.toNat % 16)
 (conv=>arg 4;cbv);simp(maxSteps:=400000)only[↓av,ax,BEq.rfl,reduceIte,reduceCtorEq,Nat.reduceLT,reduceAdd,reduceSub,reduceMul,Nat.reduceBEq,reduceLeDiff,reduceToNat,reduceLE,hQ,↓L6,cv8,hw,ab5,hd,hm,toNat_natCast]
 repeat' (first | ((simp only [ow, *,if_true,if_false,Int.reduceEq,Int.reduceLT,reduceIte] <;> fail)) | (omega) | intro _ | refine ⟨?_,?_⟩)
def uY:dF:=fun args objs K=>match args with
 | [.int .u8 x]=>(0≤x)∧(x<256)∧K (.str (ow (UInt8.ofNat x.toNat))) objs 0
 | _=>False
theorem Jk:aB Tryz.prog 130 (uY):=by
 intro args objs K h
 unfold uY at h
 split at h
 · rename_i x
   obtain ⟨h1,h2,hk⟩:=h
   exact ⟨_,_,_,.pure _ rfl ((by have:=L8 (UInt8.ofNat x.toNat);rwa [show ((UInt8.ofNat x.toNat).toNat:Int)=x by simp only [UInt8.toNat_ofNat'];omega] at this)),hk⟩
 · exact h.elim
theorem ab6:∀ k:Nat,k≤4→(16:Int) ^ k≤65536:=by
 intro k hk
 have:∀ k ∈ List.range 5,(16:Int) ^ k≤65536:=by decide
 exact this k (List.mem_range.2 (by omega))
theorem Wx (s:List UInt8) (i:Nat) (hs:s.length≤1000000000) (hi:i≤1000000010):ai Tryz.prog 175 [.str s,.int .i64 i] [] (.int .i64 (eB s i)) []:=by
 refine Br.bg (T:=aR Tryz.prog []) 0 hD (aj ah) a_ (by decide) fun Q hQ=>?_
 have zi:(0≤(i:Int))=True:=eq_true (by omega)
 have NH:(0≤(i:Int)+1)=True:=eq_true (by omega)
 rcases lt_or_ge s.length (i+6) with h | h
 · have hlt:((s.length:Int)<(i:Int)+6)=True:=eq_true (by omega)
   have e:eB s i=-1:=if_pos (.inl h)
   (conv=>arg 4;cbv);simp(maxSteps:=400000)only[↓av,ax,BEq.rfl,reduceIte,reduceCtorEq,Nat.reduceLT,reduceAdd,reduceSub,reduceMul,Nat.reduceBEq,reduceLeDiff,reduceToNat,reduceLE,hQ,zi,NH,hlt,e]
   omega
 have hlt:((s.length:Int)<(i:Int)+6)=False:=eq_false (by omega)
 have hg0:=List.getElem?_eq_getElem (show i<s.length by omega)
 have hg1:=List.getElem?_eq_getElem (show i+1<s.length by omega)
 generalize s[i]=c0 at hg0
 generalize s[i+1]=c1 at hg1
 have t1:((i:Int)+1).toNat=i+1:=by omega
 have b0:(c0.toNat:Int)=92↔c0=92:=mq (k:=92) (by omega)
 have b1:(c1.toNat:Int)=117↔c1=117:=mq (k:=117) (by omega)
 by_cases hc:(c0.toNat:Int)=92∧(c1.toNat:Int)=117
 · obtain ⟨k0,k1⟩:=hc
   have e0:eB s i=oz ((s.take (i+6)).drop (i+2)) 0:=by
    unfold eB
    rw [if_neg]
    rintro (g | g | g)
    · omega
    · exact g (by rw [hg0,b0.1 k0])
    · exact g (by rw [hg1,b1.1 k1])
   (conv=>arg 4;cbv);simp(maxSteps:=400000)only[↓av,ax,BEq.rfl,reduceIte,reduceCtorEq,Nat.reduceLT,reduceAdd,reduceSub,reduceMul,Nat.reduceBEq,reduceLeDiff,reduceToNat,reduceLE,hQ,zi,NH,hlt,hg0,hg1,t1,k0,k1]
   refine ⟨⟨by omega,by omega⟩,⟨by omega,by omega⟩,⟨by omega,by omega⟩,?_⟩
   refine aH (fun m S=>∃ (k:Nat) (n:Int),m=i+6-k∧i+2≤k∧k≤i+6∧0≤n∧n<16 ^ (k-(i+2))∧eB s i=oz ((s.take (i+6)).drop k) n∧S=⟨dI 77 [(0,.str s),(1,.int .i64 i),(5,.int .i64 n),(6,.int .i64 k)],[]⟩) 4 ⟨i+2,0,by omega,by omega,by omega,by omega,by simp,e0,?_⟩ ?_
   · simp only [bW,keepR,reduceAdd,nu,Nat.reduceBEq,map_nil]
     rfl
   rintro m S ⟨k,n,hm,h1,h2,h3,h4,hU,rfl⟩
   have hn:n<65536:=by have:=ab6 (k-(i+2)) (by omega);omega
   have zk:(0≤(k:Int))=True:=eq_true (by omega)
   rcases lt_or_ge k (i+6) with g | g
   · have hg:((k:Int)<(i:Int)+6)=True:=eq_true (by omega)
     have hgk:=List.getElem?_eq_getElem (show k<s.length by omega)
     have hdr:(s.take (i+6)).drop k=s[k]'(by omega)::(s.take (i+6)).drop (k+1):=by
      rw [List.drop_eq_getElem_cons (by rw [length_take];omega),List.getElem_take]
     generalize s[k]'(by omega)=c at hgk hdr
     have hl:=Az c
     have hw:IntKind.i64.wrap (c.toNat:Int)=(c.toNat:Int):=by rw [IntKind.wrap_i64];omega
     have hb:∀ x:Int,0≤x→x≤n*16+15→0≤x∧x<16 ^ (k+1-(i+2)):=fun x x0 x1=>by
      obtain ⟨j,hj⟩:∃ j,k-(i+2)=j:=⟨_,rfl⟩
      have e2:k+1-(i+2)=j+1:=by omega
      rw [e2,Int.pow_succ]
      rw [hj] at h4
      omega
     rw [hdr] at hU
     have u1:48≤(c.toNat:Int)→(c.toNat:Int)≤57→eB s i=oz ((s.take (i+6)).drop (k+1)) (n*16+c.toNat-48):=fun a b=>by rw [hU,oz,if_pos ⟨a,b⟩]
     have u2:97≤(c.toNat:Int)→(c.toNat:Int)≤102→eB s i=oz ((s.take (i+6)).drop (k+1)) (n*16+c.toNat-97+10):=fun a b=>by rw [hU,oz,if_neg (by omega),if_pos ⟨a,b⟩]
     have u3:65≤(c.toNat:Int)→(c.toNat:Int)≤70→eB s i=oz ((s.take (i+6)).drop (k+1)) (n*16+c.toNat-65+10):=fun a b=>by rw [hU,oz,if_neg (by omega),if_neg (by omega),if_pos ⟨a,b⟩]
     have u4:¬ (48≤(c.toNat:Int)∧(c.toNat:Int)≤57)→¬ (97≤(c.toNat:Int)∧(c.toNat:Int)≤102)→¬ (65≤(c.toNat:Int)∧(c.toNat:Int)≤70)→PV.int .i64 (eB s i)=PV.int .i64 (-1):=fun a b d=>by rw [hU,oz,if_neg a,if_neg b,if_neg d]
     simp(maxSteps:=400000)only[↓av,ax,BEq.rfl,reduceIte,reduceCtorEq,Nat.reduceLT,reduceAdd,reduceSub,reduceMul,Nat.reduceBEq,reduceLeDiff,reduceToNat,reduceLE,hQ,hg,zk,hgk,cv8,hw]
     repeat' (first | exact u4 (by omega) (by omega) (by omega) | exact ⟨m-1,by omega,k+1,_,by omega,by omega,by omega,(hb _ (by omega) (by omega)).1,(hb _ (by omega) (by omega)).2,u1 (by omega) (by omega),rfl⟩ | exact ⟨m-1,by omega,k+1,_,by omega,by omega,by omega,(hb _ (by omega) (by omega)).1,(hb _ (by omega) (by omega)).2,u2 (by omega) (by omega),rfl⟩ | exact ⟨m-1,by omega,k+1,_,by omega,by omega,by omega,(hb _ (by omega) (by omega)).1,(hb _ (by omega) (by omega)).2,u3 (by omega) (by omega),rfl⟩ | (omega) | intro _ | refine ⟨?_,?_⟩)
   · have hg:((k:Int)<(i:Int)+6)=False:=eq_false (by omega)
     have hk:k=i+6:=by omega
     subst hk
     rw [List.drop_eq_nil_of_le (by rw [length_take];omega),oz] at hU
     simp(maxSteps:=400000)only[↓av,ax,BEq.rfl,reduceIte,reduceCtorEq,Nat.reduceLT,reduceAdd,reduceSub,reduceMul,Nat.reduceBEq,reduceLeDiff,reduceToNat,reduceLE,hQ,hg,hU]
     omega
 · have e:eB s i=-1:=by
    unfold eB
    rw [if_pos]
    by_cases k0:(c0.toNat:Int)=92
    · exact .inr (.inr (by rw [hg1];intro e;exact hc ⟨k0,b1.2 (Option.some.inj e)⟩))
    · exact .inr (.inl (by rw [hg0];intro e;exact k0 (b0.2 (Option.some.inj e))))
   by_cases k0:(c0.toNat:Int)=92
   · have k1:((c1.toNat:Int)=117)=False:=eq_false fun g=>hc ⟨k0,g⟩
     (conv=>arg 4;cbv);simp(maxSteps:=400000)only[↓av,ax,BEq.rfl,reduceIte,reduceCtorEq,Nat.reduceLT,reduceAdd,reduceSub,reduceMul,Nat.reduceBEq,reduceLeDiff,reduceToNat,reduceLE,hQ,zi,NH,hlt,hg0,hg1,t1,k0,k1,e]
     omega
   · have k0':=eq_false k0
     (conv=>arg 4;cbv);simp(maxSteps:=400000)only[↓av,ax,BEq.rfl,reduceIte,reduceCtorEq,Nat.reduceLT,reduceAdd,reduceSub,reduceMul,Nat.reduceBEq,reduceLeDiff,reduceToNat,reduceLE,hQ,zi,NH,hlt,hg0,hg1,t1,k0',e]
     omega
theorem Wy (n:Int) (h0:0≤n) (h1:n<2000000):ai Tryz.prog 176 [.int .i64 n] [] (.str (CV n)) []:=by
 refine Dv.bg (T:=aR Tryz.prog []) 0 hD (aj ah) a_ (by decide) fun Q hQ=>?_
 have d64:¬ (64:Int)=0:=by omega
 have m64:∀ x:Int,0≤x→(0≤x.tdiv 64∧x.tdiv 64≤x)∧0≤x.tmod 64∧x.tmod 64<64:=fun x hx=>⟨⟨Int.tdiv_nonneg hx (by omega),Int.tdiv_le_self _ hx⟩,Int.tmod_nonneg _ hx,Int.tmod_lt_of_pos _ (by omega)⟩
 have a0:=m64 n h0
 have a1:0≤n.tdiv 4096∧n.tdiv 4096≤n:=⟨Int.tdiv_nonneg h0 (by omega),Int.tdiv_le_self _ h0⟩
 have a2:0≤n.tdiv 262144∧n.tdiv 262144≤n:=⟨Int.tdiv_nonneg h0 (by omega),Int.tdiv_le_self _ h0⟩
 have a3:=m64 _ a0.1.1
 have a4:=m64 _ a1.1
 (conv=>arg 4;cbv);simp(maxSteps:=400000)only[↓av,ax,BEq.rfl,reduceIte,reduceCtorEq,Nat.reduceLT,reduceAdd,reduceSub,reduceMul,Nat.reduceBEq,reduceLeDiff,reduceToNat,reduceLE,hQ,cv8,ab5]
 repeat' (first | ((simp only [CV, *,if_true,if_false] <;> fail)) | (omega) | intro _ | refine ⟨?_,?_⟩)
def FL:dF:=fun args objs K=>match args with
 | [.str s,.int .i64 i]=>(s.length≤1000000000)∧(0≤i)∧(i≤1000000010)∧K (.int .i64 (eB s i.toNat)) objs 0
 | _=>False
theorem Sq:aB Tryz.prog 175 (FL):=by
 intro args objs K h
 unfold FL at h
 split at h
 · rename_i s i
   obtain ⟨h1,h2,h3,hk⟩:=h
   exact ⟨_,_,_,.pure _ rfl ((by have:=Wx s i.toNat h1 (by omega);rwa [Int.toNat_of_nonneg h2] at this)),hk⟩
 · exact h.elim
def FM:dF:=fun args objs K=>match args with
 | [.int .i64 n]=>(0≤n)∧(n<2000000)∧K (.str (CV n)) objs 0
 | _=>False
theorem Sr:aB Tryz.prog 176 (FM):=by
 intro args objs K h
 unfold FM at h
 split at h
 · rename_i n
   obtain ⟨h1,h2,hk⟩:=h
   exact ⟨_,_,_,.pure _ rfl (Wy n h1 h2),hk⟩
 · exact h.elim
theorem Ev (c:UInt8):(ow c).length≤6:=by
 have l1:=BF (c.toNat / 16)
 have l2:=BF (c.toNat % 16)
 unfold ow
 repeat' split
 all_goals simp only [List.length_append,length_cons,List.length_nil]
 all_goals omega
theorem BG:∀ l:List UInt8,(l.map ow).flatten.length≤6*l.length
 | []=>by simp
 | c::t=>by
  have:=Ev c
  have:=BG t
  simp only [List.map_cons,List.flatten_cons,List.length_append,length_cons];omega
theorem Sv (s:List UInt8) (hs:s.length≤1000000000):ai Tryz.prog 121 [.str s] [] (.str (zG s)) []:=by
 refine z8.bg (T:=aR Tryz.prog [(130,uY)]) 0 hD (aj (af Jk ah)) a_ (by decide) fun Q hQ=>?_
 (conv=>arg 4;cbv);simp(maxSteps:=400000)only[↓av,ax,BEq.rfl,reduceIte,reduceCtorEq,Nat.reduceLT,reduceAdd,reduceSub,reduceMul,Nat.reduceBEq,reduceLeDiff,reduceToNat,reduceLE,hQ]
 refine aH (fun m S=>∃ i:Nat,i+m=s.length∧S=⟨dI 19 [(0,.str s),(3,.str ([34]++((s.take i).map ow).flatten)),(4,.int .i64 i)],[]⟩) s.length ⟨0,by omega,?_⟩ ?_
 · simp only [bW,keepR,reduceAdd,nu,Nat.reduceBEq,map_nil]
   rfl
 rintro m S ⟨i,him,rfl⟩
 have hfl:=BG (s.take i)
 have htl:(s.take i).length≤s.length:=List.length_take_le' _ _
 rcases lt_or_ge i s.length with h | h
 · have hlt:((i:Int)<(s.length:Int))=True:=eq_true (by omega)
   have zi:(0≤(i:Int))=True:=eq_true (by omega)
   have hgi:=List.getElem?_eq_getElem h
   have htk:s.take (i+1)=s.take i++[s[i]]:=List.take_succ_eq_append_getElem h
   generalize s[i]=c at hgi htk
   have hwl:=Ev c
   have hl:=Az c
   simp(maxSteps:=400000)only[↓av,ax,BEq.rfl,reduceIte,reduceCtorEq,Nat.reduceLT,reduceAdd,reduceSub,reduceMul,Nat.reduceBEq,reduceLeDiff,reduceToNat,reduceLE,hQ,hlt,zi,hgi,↓uY,toNat_natCast,UInt8.ofNat_toNat]
   exact ⟨by omega,by omega,by omega,⟨by omega,by omega⟩,m-1,by omega,i+1,by omega,by rw [htk];simp only [List.map_append,List.map_cons,map_nil,List.flatten_append,List.flatten_cons,List.flatten_nil,List.append_nil,List.append_assoc,Int.natCast_add,Int.natCast_one]⟩
 · have hlt:((i:Int)<(s.length:Int))=False:=eq_false (by omega)
   rw [List.take_of_length_le h]
   rw [List.take_of_length_le h] at hfl
   simp(maxSteps:=400000)only[↓av,ax,BEq.rfl,reduceIte,reduceCtorEq,Nat.reduceLT,reduceAdd,reduceSub,reduceMul,Nat.reduceBEq,reduceLeDiff,reduceToNat,reduceLE,hQ,hlt]
   exact ⟨by omega,rfl⟩
def mP:dF:=fun args objs K=>match args with
 | [.str s]=>(s.length≤1000000000)∧K (.str (zG s)) objs 0
 | _=>False
theorem O8:aB Tryz.prog 121 (mP):=by
 intro args objs K h
 unfold mP at h
 split at h
 · rename_i s
   obtain ⟨h1,hk⟩:=h
   exact ⟨_,_,_,.pure _ rfl (Sv s h1),hk⟩
 · exact h.elim
theorem O9:∀ (l:List UInt8) (n N:Int),0≤n→n<N→oz l n<N*16 ^ l.length
 | [],n,N,_,h=>by simpa [oz] using h
 | c::t,n,N,h0,h=>by
  have ih:=fun x (a:0≤x) (b:x<N*16)=>O9 t x (N*16) a b
  have e:N*16 ^ (c::t).length=N*16*16 ^ t.length:=by rw [length_cons,Int.pow_succ,Int.mul_assoc,Int.mul_comm (16 ^ t.length) 16]
  have hp:(0:Int)<16 ^ t.length:=Int.pow_pos (by omega)
  have hq:0<N*16*16 ^ t.length:=Int.mul_pos (by omega) hp
  rw [e,oz]
  split
  · exact ih _ (by omega) (by omega)
  · split
    · exact ih _ (by omega) (by omega)
    · split
      · exact ih _ (by omega) (by omega)
      · omega
theorem O_ (s:List UInt8) (i:Nat):eB s i<65536:=by
 unfold eB
 split
 · omega
 · have h1:=O9 ((s.take (i+6)).drop (i+2)) 0 1 (by omega) (by omega)
   have h2:=ab6 ((s.take (i+6)).drop (i+2)).length (by rw [length_drop,length_take];omega)
   omega
theorem Za {c:UInt8}(h:∀ j,j<8→kL[j]?≠some c):kL.findIdx? (·=c)=none:=by
 rw [List.findIdx?_eq_none_iff]
 intro x hx
 obtain ⟨j,hj⟩:=List.mem_iff_getElem?.1 hx
 have:=(List.getElem?_eq_some_iff.1 hj).1
 have h1:=h j this
 rw [hj] at h1
 simpa using fun e=>h1 (by rw [e])
theorem Zb {c:UInt8}{k:Nat}(h:∀ j,j<k→kL[j]?≠some c) (hk:kL[k]?=some c):kL.findIdx? (·=c)=some k:=by
 obtain ⟨h1,h2⟩:=List.getElem?_eq_some_iff.1 hk
 rw [List.findIdx?_eq_some_iff_getElem]
 refine ⟨h1,by simpa using h2,fun j hj=>?_⟩
 have:=h j hj
 rw [List.getElem?_eq_getElem (by omega)] at this
 simpa using fun e=>this (by rw [e])
theorem L9 {a b:List UInt8×Int}(h:a=b):PV.b_ [PV.str a.1,PV.int .i64 a.2]=PV.b_ [PV.str b.1,PV.int .i64 b.2]:=by rw [h]
theorem Pb (s:List UInt8) (i:Nat) (hs:s.length≤1000000000) (hi:i<s.length):ai Tryz.prog 152 [.str s,.int .i64 i] [] (.b_ [.str (fO s i).1,.int .i64 (fO s i).2]) []:=by
 refine yT.Dt (T:=aR Tryz.prog [(175,FL),(176,FM)]) 0 hD (aj (af Sq (af Sr ah))) a_ (by decide) (by decide) fun Q hQ=>?_
 have NH:(0≤(i:Int)+1)=True:=eq_true (by omega)
 have t1:((i:Int)+1).toNat=i+1:=by omega
 have t6:((i:Int)+6).toNat=i+6:=by omega
 have ua:=O_ s i
 have ub:=O_ s (i+6)
 rcases lt_or_ge (i+1) s.length with h | h
 · have hlt:((s.length:Int)≤(i:Int)+1)=False:=eq_false (by omega)
   have hlt':((i:Int)+1<(s.length:Int))=True:=eq_true (by omega)
   have hgi:=List.getElem?_eq_getElem h
   generalize s[i+1]=c at hgi
   (conv=>arg 4;cbv);simp(maxSteps:=400000)only[↓av,ax,BEq.rfl,reduceIte,reduceCtorEq,Nat.reduceLT,reduceAdd,reduceSub,reduceMul,Nat.reduceBEq,reduceLeDiff,reduceToNat,reduceLE,hQ,NH,t1,hlt,hlt']
   refine ⟨⟨by omega,by omega⟩,?_⟩
   refine aH (fun m S=>∃ k:Nat,k+m=8∧(∀ j,j<k→kL[j]?≠some c)∧S=⟨dI 74 [(0,.str s),(1,.int .i64 i),(6,.str [34,92,47,98,102,110,114,116]),(7,.str [34,92,47,8,12,10,13,9]),(8,.int .i64 k)],[]⟩) 8 ⟨0,by omega,fun j hj=>absurd hj (Nat.not_lt_zero j),?_⟩ ?_
   · simp only [bW,keepR,reduceAdd,nu,Nat.reduceBEq,map_nil]
     rfl
   rintro m S ⟨k,him,hb,rfl⟩
   have zk:(0≤(k:Int))=True:=eq_true (by omega)
   have tk:((k:Int)+1).toNat=k+1:=by omega
   have hl:=Az c
   rcases lt_or_ge k 8 with g | g
   · have h8:((8:Nat):Int)=8:=rfl
     have hg:((k:Int)<((8:Nat):Int))=True:=eq_true (by omega)
     have hgk:kL[k]?=some kL[k]:=List.getElem?_eq_getElem g
     generalize kL[k]=d at hgk
     by_cases hcd:c=d
     · have hq:((c.toNat:Int)=(d.toNat:Int))=True:=eq_true (by rw [hcd])
       have e:fO s i=((Um.take (k+1)).drop k,2):=by
        simp only [fO,hgi,Zb hb (by rw [hgk,hcd])]
       rw [kL] at hgk
       rw [Um] at e
       simp(maxSteps:=400000)only[↓av,ax,BEq.rfl,reduceIte,reduceCtorEq,Nat.reduceLT,reduceAdd,reduceSub,reduceMul,Nat.reduceBEq,reduceLeDiff,reduceToNat,reduceLE,hQ,hg,zk,hgk,hgi,NH,t1,tk,hq,e]
       repeat' (first | (omega) | intro _ | refine ⟨?_,?_⟩)
     · have hq:((c.toNat:Int)=(d.toNat:Int))=False:=eq_false (fun h=>hcd (UInt8.toNat_inj.1 (by omega)))
       have hb':∀ j,j<k+1→kL[j]?≠some c:=fun j hj=>by
        rcases lt_or_ge j k with h1 | h1
        · exact hb j h1
        · have:j=k:=by omega
          subst this
          rw [hgk];intro e;exact hcd (Option.some.inj e).symm
       rw [kL] at hgk
       simp(maxSteps:=400000)only[↓av,ax,BEq.rfl,reduceIte,reduceCtorEq,Nat.reduceLT,reduceAdd,reduceSub,reduceMul,Nat.reduceBEq,reduceLeDiff,reduceToNat,reduceLE,hQ,hg,zk,hgk,hgi,NH,t1,tk,hq]
       repeat' (first | exact ⟨m-1,by omega,k+1,by omega,hb',rfl⟩ | (omega) | intro _ | refine ⟨?_,?_⟩)
   · have h8:((8:Nat):Int)=8:=rfl
     have hg:((k:Int)<((8:Nat):Int))=False:=eq_false (by omega)
     have hn:=Za fun j hj=>hb j (by omega)
     have e:fO s i=if eB s i<0∨(56320≤eB s i∧eB s i<57344) then ([],0) else if eB s i<55296∨57344≤eB s i then (CV (eB s i),6) else if eB s (i+6)<56320∨57344≤eB s (i+6) then ([],0) else (CV (65536+1024*(eB s i-55296)+eB s (i+6)-56320),12):=by
      simp only [fO,hgi,hn]
     simp(maxSteps:=400000)only[↓av,ax,BEq.rfl,reduceIte,reduceCtorEq,Nat.reduceLT,reduceAdd,reduceSub,reduceMul,Nat.reduceBEq,reduceLeDiff,reduceToNat,reduceLE,hQ,hg,↓FL,↓FM,toNat_natCast,t6]
     generalize eB s i=a at *
     generalize eB s (i+6)=b at *
     have e1:(a<0∨(56320≤a∧a<57344))→fO s i=([],0):=fun x=>by rw [e,if_pos x]
     have e2:¬ (a<0∨(56320≤a∧a<57344))→(a<55296∨57344≤a)→fO s i=(CV a,6):=fun x y=>by rw [e,if_neg x,if_pos y]
     have e3:¬ (a<0∨(56320≤a∧a<57344))→¬ (a<55296∨57344≤a)→(b<56320∨57344≤b)→fO s i=([],0):=fun x y z=>by rw [e,if_neg x,if_neg y,if_pos z]
     have e4:¬ (a<0∨(56320≤a∧a<57344))→¬ (a<55296∨57344≤a)→¬ (b<56320∨57344≤b)→fO s i=(CV (65536+1024*(a-55296)+b-56320),12):=fun x y z=>by rw [e,if_neg x,if_neg y,if_neg z]
     clear e
     repeat' (first | (omega) | exact (L9 (e1 (by omega))) | exact (L9 (e2 (by omega) (by omega))) | exact (L9 (e3 (by omega) (by omega) (by omega))) | exact (L9 (e4 (by omega) (by omega) (by omega))) | intro _ | refine ⟨?_,?_⟩)
 · have hlt:((s.length:Int)≤(i:Int)+1)=True:=eq_true (by omega)
   have hlt':((i:Int)+1<(s.length:Int))=False:=eq_false (by omega)
   have e:fO s i=([],0):=by simp only [fO,List.getElem?_eq_none_iff.2 h]
   (conv=>arg 4;cbv);simp(maxSteps:=400000)only[↓av,ax,BEq.rfl,reduceIte,reduceCtorEq,Nat.reduceLT,reduceAdd,reduceSub,reduceMul,Nat.reduceBEq,reduceLeDiff,reduceToNat,reduceLE,hQ,NH,t1,hlt,hlt',e]
   omega
def yc:dF:=fun args objs K=>match args with
 | [.str s,.int .i64 i]=>(s.length≤1000000000)∧(0≤i)∧(i<s.length)∧K (.b_ [.str (fO s i.toNat).1,.int .i64 (fO s i.toNat).2]) objs 0
 | _=>False
theorem L_:aB Tryz.prog 152 (yc):=by
 intro args objs K h
 unfold yc at h
 split at h
 · rename_i s i
   obtain ⟨h1,h2,h3,hk⟩:=h
   exact ⟨_,_,_,.pure _ rfl ((by have:=Pb s i.toNat h1 (by omega);rwa [Int.toNat_of_nonneg h2] at this)),hk⟩
 · exact h.elim
theorem Sw (s:List UInt8) (i:Nat) (hs:s.length≤1000000000) (hi:i<s.length):ai Tryz.prog 129 [.str s,.int .i64 i] [] (.b_ [.str (kr s i).1,.int .i64 (kr s i).2]) []:=by
 refine z_.Dt (T:=aR Tryz.prog [(152,yc),(62,x9)]) 0 hD (aj (af L_ (af G5 ah))) a_ (by decide) (by decide) fun Q hQ=>?_
 have zi:(0≤(i:Int))=True:=eq_true (by omega)
 have hgi:=List.getElem?_eq_getElem hi
 generalize s[i]=c at hgi
 have b0:(c.toNat:Int)=92↔c=92:=mq (k:=92) (by omega)
 by_cases h:(c.toNat:Int)=92
 · have e:kr s i=fO s i:=by unfold kr;rw [if_pos (by rw [hgi,b0.1 h])]
   (conv=>arg 4;cbv);simp(maxSteps:=400000)only[↓av,ax,BEq.rfl,reduceIte,reduceCtorEq,Nat.reduceLT,reduceAdd,reduceSub,reduceMul,Nat.reduceBEq,reduceLeDiff,reduceToNat,reduceLE,hQ,zi,hgi,h,↓yc,e,toNat_natCast,ic]
   omega
 · have h':=eq_false h
   have e:kr s i=((s.drop i).take (bZ (s.drop i)),(bZ (s.drop i):Int)):=by
    unfold kr;rw [if_neg];rw [hgi];intro x;exact h (b0.2 (Option.some.inj x))
   have hrl:=G6 (s.drop i)
   rw [length_drop] at hrl
   (conv=>arg 4;cbv);simp(maxSteps:=400000)only[↓av,ax,BEq.rfl,reduceIte,reduceCtorEq,Nat.reduceLT,reduceAdd,reduceSub,reduceMul,Nat.reduceBEq,reduceLeDiff,reduceToNat,reduceLE,hQ,zi,hgi,h',↓x9,toNat_natCast]
   refine ⟨by omega,by omega,⟨by omega,by omega⟩,by omega,by omega,?_⟩
   have tn:((i:Int)+(bZ (s.drop i):Int)).toNat=i+bZ (s.drop i):=by omega
   rw [e,tn,List.take_drop]
def BH:dF:=fun args objs K=>match args with
 | [.str s,.int .i64 i]=>(s.length≤1000000000)∧(0≤i)∧(i<s.length)∧K (.b_ [.str (kr s i.toNat).1,.int .i64 (kr s i.toNat).2]) objs 0
 | _=>False
theorem Pf:aB Tryz.prog 129 (BH):=by
 intro args objs K h
 unfold BH at h
 split at h
 · rename_i s i
   obtain ⟨h1,h2,h3,hk⟩:=h
   exact ⟨_,_,_,.pure _ rfl ((by have:=Sw s i.toNat h1 (by omega);rwa [Int.toNat_of_nonneg h2] at this)),hk⟩
 · exact h.elim
end Lp
namespace Lp
open Go Go.Proofs
open Nat (reduceAdd reduceLeDiff reduceMul reduceSub zero_le)
open Int (reduceLE reduceToNat)
theorem Pg (n:Int):(CV n).length≤4:=by
 unfold CV
 repeat' split
 all_goals simp
theorem Ph {s:List UInt8}{i:Nat}(h:0≤eB s i):i+6≤s.length:=by
 unfold eB at h
 split at h
 · omega
 · rename_i g;simp only [not_or] at g;omega
theorem Ma (s:List UInt8) (i:Nat) (hi:i<s.length):0≤(fO s i).2∧i+(fO s i).2≤s.length∧((fO s i).1.length:Int)≤(fO s i).2:=by
 unfold fO
 split
 · exact ⟨by omega,by show (i:Int)+0≤_;omega,by simp⟩
 · rename_i c hc
   have h1:=(List.getElem?_eq_some_iff.1 hc).1
   split
   · rename_i k _
     refine ⟨by omega,by show (i:Int)+2≤_;omega,?_⟩
     show (((Um.take (k+1)).drop k).length:Int)≤2
     simp only [List.length_drop,List.length_take];omega
   · have l1:=Pg (eB s i)
     have l2:=Pg (65536+1024*(eB s i-55296)+eB s (i+6)-56320)
     split
     · exact ⟨by omega,by show (i:Int)+0≤_;omega,by simp⟩
     · rename_i h2
       have:=Ph (s:=s) (i:=i) (by omega)
       split
       · exact ⟨by show (0:Int)≤6;omega,by show (i:Int)+6≤_;omega,by show ((CV _).length:Int)≤6;omega⟩
       · split
         · exact ⟨by omega,by show (i:Int)+0≤_;omega,by simp⟩
         · rename_i h3
           have:=Ph (s:=s) (i:=i+6) (by omega)
           exact ⟨by show (0:Int)≤12;omega,by show (i:Int)+12≤_;omega,by show ((CV _).length:Int)≤12;omega⟩
theorem Ew (s:List UInt8) (i:Nat) (hi:i<s.length):0≤(kr s i).2∧i+(kr s i).2≤s.length∧((kr s i).1.length:Int)≤(kr s i).2:=by
 unfold kr
 split
 · exact Ma s i hi
 · have hrl:=G6 (s.drop i)
   rw [List.length_drop] at hrl
   refine ⟨by show (0:Int)≤(bZ (s.drop i):Int);omega,by show (i:Int)+(bZ (s.drop i):Int)≤_;omega,?_⟩
   show (((s.drop i).take (bZ (s.drop i))).length:Int)≤(bZ (s.drop i):Int)
   simp only [List.length_take,List.length_drop];omega
theorem Zc {a b:List UInt8×Int×Int}(h:a=b):PV.b_ [PV.str a.1,PV.int .i64 a.2.1,PV.int .i64 a.2.2]=PV.b_ [PV.str b.1,PV.int .i64 b.2.1,PV.int .i64 b.2.2]:=by rw [h]
theorem Mc (s:List UInt8) (hs:s.length≤1000000000):ai Tryz.prog 120 [.str s] [] (.b_ [.str (bE s).1,.int .i64 (bE s).2.1,.int .i64 (bE s).2.2]) []:=by
 refine xu.Y6 (T:=aR Tryz.prog [(129,BH)]) 0 hD (aj (af Pf ah)) a_ (by decide) (by decide) (by decide) fun Q hQ=>?_
 cases s with
 | nil=>
  have e:bE []=([],0,1):=rfl
  (conv=>arg 4;cbv);simp(maxSteps:=400000)only[↓av,ax,BEq.rfl,reduceIte,reduceCtorEq,Nat.reduceLT,reduceAdd,reduceSub,reduceMul,Nat.reduceBEq,reduceLeDiff,reduceToNat,reduceLE,hQ,e]
 | cons a t=>
  have he:((a::t:List UInt8)=[])=False:=eq_false (by simp)
  have hg0:(a::t)[0]?=some a:=rfl
  generalize hst:a::t=s at *
  have b0:(a.toNat:Int)=34↔a=34:=mq (k:=34) (by omega)
  by_cases h34:(a.toNat:Int)=34
  · have e0:bE s=EN s s.length 1 []:=by
     unfold bE;rw [if_neg];rintro (g | g)
     · exact he.mp g
     · exact g (by rw [hg0,b0.1 h34])
    have hlen:0<s.length:=by rw [← hst];simp
    (conv=>arg 4;cbv);simp(maxSteps:=400000)only[↓av,ax,BEq.rfl,reduceIte,reduceCtorEq,Nat.reduceLT,reduceAdd,reduceSub,reduceMul,Nat.reduceBEq,reduceLeDiff,reduceToNat,reduceLE,hQ,he,hg0,h34]
    refine aH (fun m S=>∃ (i f:Nat) (out:List UInt8),i+m=s.length∧1≤i∧s.length+1≤i+f∧out.length≤i∧bE s=EN s f i out∧S=⟨dI 50 [(0,.str s),(5,.str out),(6,.int .i64 i)],[]⟩) (s.length-1) ⟨1,s.length,[],by omega,by omega,by omega,by simp,e0,?_⟩ ?_
    · simp only [bW,keepR,reduceAdd,nu,Nat.reduceBEq,List.map_nil]
      rfl
    rintro m S ⟨i,f,out,him,h1,h2,h3,hU,rfl⟩
    have zi:(0≤(i:Int))=True:=eq_true (by omega)
    obtain ⟨f,rfl⟩:∃ g,f=g+1:=⟨f-1,by omega⟩
    rcases Nat.lt_or_ge i s.length with h | h
    · have hlt:((i:Int)<(s.length:Int))=True:=eq_true (by omega)
      have hgi:=List.getElem?_eq_getElem h
      generalize s[i]=c at hgi
      obtain ⟨f1,f2,f3⟩:=Ew s i h
      simp only [EN,hgi] at hU
      simp(maxSteps:=400000)only[↓av,ax,BEq.rfl,reduceIte,reduceCtorEq,Nat.reduceLT,reduceAdd,reduceSub,reduceMul,Nat.reduceBEq,reduceLeDiff,reduceToNat,reduceLE,hQ,hlt,zi,hgi,↓BH,Int.toNat_natCast,ic]
      generalize kr s i=x at *
      obtain ⟨y,z⟩:=x
      simp only at f1 f2 f3 hU ⊢
      obtain ⟨n,rfl⟩:∃ n:Nat,z=n:=⟨z.toNat,by omega⟩
      rw [Int.toNat_natCast] at hU
      have u1:(c.toNat:Int)=34→bE s=(out,(i:Int)+1,0):=fun g=>by rw [hU,if_pos g]
      have u2:¬ (c.toNat:Int)=34→((n:Int)=0∨(c.toNat:Int)<32)→bE s=([],(i:Int),1):=fun g g'=>by rw [hU,if_neg g,if_pos g']
      have u3:¬ (c.toNat:Int)=34→¬ ((n:Int)=0∨(c.toNat:Int)<32)→bE s=EN s f (i+n) (out++y):=fun g g'=>by rw [hU,if_neg g,if_neg g']
      repeat' (first | (omega) | exact (Zc (u1 (by omega))) | exact (Zc (u2 (by omega) (by omega))) | exact ⟨m-n,by omega,i+n,f,out++y,by omega,by omega,by omega,by rw [List.length_append];omega,u3 (by omega) (by omega),by rw [Int.natCast_add]⟩ | intro _ | refine ⟨?_,?_⟩)
    · have hlt:((i:Int)<(s.length:Int))=False:=eq_false (by omega)
      have hU':bE s=([],(s.length:Int),1):=by rw [hU];simp only [EN,List.getElem?_eq_none_iff.2 h]
      simp(maxSteps:=400000)only[↓av,ax,BEq.rfl,reduceIte,reduceCtorEq,Nat.reduceLT,reduceAdd,reduceSub,reduceMul,Nat.reduceBEq,reduceLeDiff,reduceToNat,reduceLE,hQ,hlt,hU']
  · have e0:bE s=([],0,1):=by
     unfold bE;rw [if_pos];right;rw [hg0];intro g;exact h34 (b0.2 (Option.some.inj g))
    have afb:=eq_false h34
    (conv=>arg 4;cbv);simp(maxSteps:=400000)only[↓av,ax,BEq.rfl,reduceIte,reduceCtorEq,Nat.reduceLT,reduceAdd,reduceSub,reduceMul,Nat.reduceBEq,reduceLeDiff,reduceToNat,reduceLE,hQ,he,hg0,afb,e0]
def fF:dF:=fun args objs K=>match args with
 | [.str s]=>(s.length≤1000000000)∧K (.b_ [.str (bE s).1,.int .i64 (bE s).2.1,.int .i64 (bE s).2.2]) objs 0
 | _=>False
theorem Jl:aB Tryz.prog 120 (fF):=by
 intro args objs K h
 unfold fF at h
 split at h
 · rename_i s
   obtain ⟨h1,hk⟩:=h
   exact ⟨_,_,_,.pure _ rfl (Mc s h1),hk⟩
 · exact h.elim
theorem zx (s:List UInt8):((bE s).2.2=0→1≤(bE s).2.1∧(bE s).2.1≤s.length)∧(bE s).1.length≤s.length:=by
 have gen:∀ (f i:Nat) (out:List UInt8),i≤s.length→out.length≤i→((EN s f i out).2.2=0→1≤(EN s f i out).2.1∧(EN s f i out).2.1≤s.length)∧(EN s f i out).1.length≤s.length:=by
  intro f
  induction f with
  | zero=>intro i out _ _;exact ⟨fun h=>absurd (show (1:Int)=0 from h) (by decide),zero_le _⟩
  | succ f ih=>
   intro i out hi ho
   simp only [EN]
   split
   · exact ⟨fun h=>absurd (show (1:Int)=0 from h) (by decide),zero_le _⟩
   · rename_i c hc
     have hl:=(List.getElem?_eq_some_iff.1 hc).1
     obtain ⟨f1,f2,f3⟩:=Ew s i hl
     split
     · exact ⟨fun _=>⟨by show (1:Int)≤(i:Int)+1;omega,by show (i:Int)+1≤_;omega⟩,by show out.length≤_;omega⟩
     · split
       · exact ⟨fun h=>absurd (show (1:Int)=0 from h) (by decide),zero_le _⟩
       · exact ih _ _ (by omega) (by rw [List.length_append];omega)
 unfold bE
 split
 · exact ⟨fun h=>absurd (show (1:Int)=0 from h) (by decide),zero_le _⟩
 · rename_i g
   have:s≠[]:=fun e=>g (.inl e)
   have:0<s.length:=List.length_pos_iff.2 this
   exact gen _ _ _ (by omega) (by simp)
theorem Jm (s:List UInt8) (i:Nat) (hi:i≤s.length):(dA s i).2≤s.length∧i≤(dA s i).2:=by
 have gen:∀ (f i:Nat) (n:Int),i≤s.length→(qO s f i n).2≤s.length∧i≤(qO s f i n).2:=by
  intro f
  induction f with
  | zero=>intro i n h;exact ⟨h,Nat.le_refl _⟩
  | succ f ih=>
   intro i n h
   simp only [qO]
   split
   · exact ⟨h,Nat.le_refl _⟩
   · rename_i c hc
     have hl:=(List.getElem?_eq_some_iff.1 hc).1
     split
     · have:=ih (i+1) (n*10+((c.toNat:Int)-48)) (by omega);omega
     · exact ⟨h,Nat.le_refl _⟩
 unfold dA
 split
 · exact ⟨hi,Nat.le_refl _⟩
 · exact gen 7 i 0 hi
end Lp
namespace Lp
open Go Go.Proofs
open Nat (reduceAdd reduceLeDiff reduceMul reduceSub)
open Int (reduceLE reduceToNat)
theorem WA {s:List UInt8}{i f k:Nat}(h:f=0∨¬ (k<s.length∧nA ((s.take (k+1)).drop i)=true)):oC s i f k=k:=by
 cases f with
 | zero=>rfl
 | succ f=>
  rcases h with h | h
  · omega
  · simp only [oC];rw [if_neg h]
theorem Zd {s:List UInt8}{i f k:Nat}(h1:k<s.length) (h2:nA ((s.take (k+1)).drop i)=true):oC s i (f+1) k=oC s i f (k+1):=by
 simp only [oC];rw [if_pos ⟨h1,h2⟩]
theorem Pj:∀ (s:List UInt8) (i f k:Nat),k≤s.length→oC s i f k≤s.length
 | _,_,0,_,h=>h
 | s,i,f+1,k,h=>by
  simp only [oC]
  split
  · exact Pj s i f (k+1) (by omega)
  · exact h
theorem Ze {a b:Stp×Nat}(h:a=b):PV.b_ [encS a.1,PV.int .i64 (a.2:Int)]=PV.b_ [.agg [.bool b.1.part,.str b.1.name,.int .i64 b.1.n],PV.int .i64 (b.2:Int)]:=by rw [h];rfl
theorem mQ:PV.vX (.agg ⟨[.bool false,.string ⟨⟨[]⟩⟩,.int .i64 0]⟩)=encS ⟨false,[],0⟩:=rfl
theorem mR (a:Stp):(∀ p nm n,(encS a).putCells 0 [.bool p,.str nm,.int .i64 n]=encS ⟨p,nm,n⟩):=fun _ _ _=>rfl
theorem mU (objs:List Obj) (K:KT) :
  (bF D 61 [] objs K=K (encS ⟨false,[],0⟩) objs 0)∧
  (∀ nm,bF D 61 [(1,.str nm)] objs K=K (encS ⟨false,nm,0⟩) objs 0)∧
  (∀ n,bF D 61 [(0,.bool true),(2,.int .i64 n)] objs K=K (encS ⟨true,[],n⟩) objs 0):=by
 have z:aI (D 61)=encS ⟨false,[],0⟩:=by kernel_rfl
 have a:(D 61).agg=true:=by kernel_rfl
 simp only [bM] at z a
 refine ⟨?_,fun nm=>?_,fun n=>?_⟩
 all_goals
  simp [bF,lJ,a,z,bM,mr,encS,PV.isAgg,qi,PV.cells,PV.storable,PV.lV,PV.pure]
theorem DJ (s:List UInt8) (i p:Nat) (P:Int) (hP:P=p) (hs:s.length≤1000000000) (hi:i≤s.length) (hp:p≤s.length) (l:List (Nat×PV)) (h0:l_ l 0=.str s) (h1:l_ l 1=.int .i64 P) (h6:l_ l 6=.bI 0 1 0 0) (h8:l_ l 8=.int .i64 i) (r:PV) (hr:r=.b_ [encS (o7 s i p).1,.int .i64 (o7 s i p).2]) (Q:Exit→St→Prop)
  (hQ:∀ l ob,Q .ret ⟨dI 129 l,ob⟩=fq (D 61) (l_ l 6) ob fun p _ _=>r=.b_ [gQ 0 0 ob p,gQ 0 0 ob (l_ l 7)]) :
  kW Tryz.prog D (aR Tryz.prog [(119,j3),(120,fF),(121,mP),(122,nZ)]) bU Q ⟨dI 129 l,[⟨61,3,[encS ⟨false,[],0⟩],true,1⟩]⟩:=by
 subst hP
 have zp:(0≤(p:Int))=True:=eq_true (by omega)
 rcases Nat.lt_or_ge p s.length with h | h
 · have pl:((s.length:Int)≤(p:Int))=False:=eq_false (by omega)
   have pg:=List.getElem?_eq_getElem h
   generalize s[p]=d at pg
   have b91:(d.toNat:Int)=91↔d=91:=mq (k:=91) (by omega)
   by_cases h91:(d.toNat:Int)=91
   · have ff:=Jm s (p+1) (by omega)
     have e1:o7 s i p=if (dA s (p+1)).1<0∨s[(dA s (p+1)).2]?≠some 93 then (⟨false,[],0⟩,i) else (⟨true,[],(dA s (p+1)).1⟩,(dA s (p+1)).2+1):=by
      unfold o7;rw [if_neg];rw [pg,b91.1 h91];exact fun g=>g rfl
     have tp:((p:Int)+1).toNat=p+1:=by omega
     generalize hF:dA s (p+1)=F at *
     obtain ⟨fn,ft⟩:=F
     simp only at ff e1
     have zf:(0≤(ft:Int))=True:=eq_true (by omega)
     by_cases n0:fn<0
     · rw [if_pos (.inl n0)] at e1
       have n0':=eq_true n0
       rw [e1] at hr
       simp(maxSteps:=400000)only[↓av,ax,BEq.rfl,reduceIte,reduceCtorEq,Nat.reduceLT,reduceAdd,reduceSub,reduceMul,Nat.reduceBEq,reduceLeDiff,reduceToNat,reduceLE,hQ,bU,mQ,mR,mU,zp,pl,pg,h91,↓nZ,tp,hF,ic,n0',h0,h1,h6,h8]
       repeat' (first | (omega) | exact hr | intro _ | refine ⟨?_,?_⟩)
     · have n0':=eq_false n0
       rcases Nat.lt_or_ge ft s.length with hf | hf
       · have fl:((s.length:Int)≤(ft:Int))=False:=eq_false (by omega)
         have fg:=List.getElem?_eq_getElem hf
         generalize s[ft]=g at fg
         have b93:(g.toNat:Int)=93↔g=93:=mq (k:=93) (by omega)
         by_cases h93:(g.toNat:Int)=93
         · rw [if_neg (by rintro (x | x);exact n0 x;exact x (by rw [fg,b93.1 h93]))] at e1
           rw [e1] at hr
           simp(maxSteps:=400000)only[↓av,ax,BEq.rfl,reduceIte,reduceCtorEq,Nat.reduceLT,reduceAdd,reduceSub,reduceMul,Nat.reduceBEq,reduceLeDiff,reduceToNat,reduceLE,hQ,bU,mQ,mR,mU,zp,pl,pg,h91,↓nZ,tp,hF,ic,n0',zf,fl,fg,h93,h0,h1,h6,h8]
           repeat' (first | (omega) | exact hr | intro _ | refine ⟨?_,?_⟩)
         · rw [if_pos (.inr (by rw [fg];intro x;exact h93 (b93.2 (Option.some.inj x))))] at e1
           rw [e1] at hr
           have afc:=eq_false h93
           simp(maxSteps:=400000)only[↓av,ax,BEq.rfl,reduceIte,reduceCtorEq,Nat.reduceLT,reduceAdd,reduceSub,reduceMul,Nat.reduceBEq,reduceLeDiff,reduceToNat,reduceLE,hQ,bU,mQ,mR,mU,zp,pl,pg,h91,↓nZ,tp,hF,ic,n0',zf,fl,fg,afc,h0,h1,h6,h8]
           repeat' (first | (omega) | exact hr | intro _ | refine ⟨?_,?_⟩)
       · have fl:((s.length:Int)≤(ft:Int))=True:=eq_true (by omega)
         rw [if_pos (.inr (by rw [List.getElem?_eq_none_iff.2 hf];simp))] at e1
         rw [e1] at hr
         simp(maxSteps:=400000)only[↓av,ax,BEq.rfl,reduceIte,reduceCtorEq,Nat.reduceLT,reduceAdd,reduceSub,reduceMul,Nat.reduceBEq,reduceLeDiff,reduceToNat,reduceLE,hQ,bU,mQ,mR,mU,zp,pl,pg,h91,↓nZ,tp,hF,ic,n0',zf,fl,h0,h1,h6,h8]
         repeat' (first | (omega) | exact hr | intro _ | refine ⟨?_,?_⟩)
   · have afd:=eq_false h91
     have e1:o7 s i p=(⟨false,[],0⟩,i):=by unfold o7;rw [if_pos];rw [pg];intro x;exact h91 (b91.2 (Option.some.inj x))
     rw [e1] at hr
     simp(maxSteps:=400000)only[↓av,ax,BEq.rfl,reduceIte,reduceCtorEq,Nat.reduceLT,reduceAdd,reduceSub,reduceMul,Nat.reduceBEq,reduceLeDiff,reduceToNat,reduceLE,hQ,bU,mQ,mR,mU,zp,pl,pg,afd,h0,h1,h6,h8]
     repeat' (first | (omega) | exact hr | intro _ | refine ⟨?_,?_⟩)
 · have pl:((s.length:Int)≤(p:Int))=True:=eq_true (by omega)
   have e1:o7 s i p=(⟨false,[],0⟩,i):=by unfold o7;rw [if_pos];rw [List.getElem?_eq_none_iff.2 h];simp
   rw [e1] at hr
   simp(maxSteps:=400000)only[↓av,ax,BEq.rfl,reduceIte,reduceCtorEq,Nat.reduceLT,reduceAdd,reduceSub,reduceMul,Nat.reduceBEq,reduceLeDiff,reduceToNat,reduceLE,hQ,bU,mQ,mR,mU,zp,pl,h0,h1,h6,h8]
   repeat' (first | (omega) | exact hr | intro _ | refine ⟨?_,?_⟩)
end Lp
namespace Lp
open Go Go.Proofs
open List (take_length)
open Nat (lt_or_ge reduceAdd reduceLeDiff reduceMul reduceSub)
open Int (reduceLE reduceToNat)
theorem Pk (s:List UInt8) (i k:Nat) (first:Bool) (hs:s.length≤1000000000) (hi:i<s.length) (hd:s[i]?=some 46) (hik:i+1≤k) (hk2:k≤s.length) (hE:oC s (i+1) (s.length-(i+1)) (i+1)=k) (l:List (Nat×PV)) (h0:l_ l 0=.str s) (h1:l_ l 1=.int .i64 ((i:Int)+1)) (h2:l_ l 2=.bool first) (h6:l_ l 6=.bI 0 1 0 0) (h8:l_ l 8=.int .i64 i) (h9:l_ l 9=.int .i64 k) (r:PV) (hr:r=.b_ [encS (h_ s i first).1,.int .i64 (h_ s i first).2]) (Q:Exit→St→Prop)
  (hQ:∀ l ob,Q .ret ⟨dI 129 l,ob⟩=fq (D 61) (l_ l 6) ob fun p _ _=>r=.b_ [gQ 0 0 ob p,gQ 0 0 ob (l_ l 7)]) :
  kW Tryz.prog D (aR Tryz.prog [(119,j3),(120,fF),(121,mP),(122,nZ)]) bN (thenS (fun S'=>kW Tryz.prog D (aR Tryz.prog [(119,j3),(120,fF),(121,mP),(122,nZ)]) bU Q S') Q) ⟨dI 129 l,[⟨61,3,[encS ⟨false,[],0⟩],true,1⟩]⟩:=by
 have Zf:=fun (l:List (Nat×PV)) a0 a1 a6 a8 hr=>DJ s i (i+1) ((i:Int)+1) (by omega) hs (by omega) (by omega) l a0 a1 a6 a8 r hr Q hQ
 have zk:(0≤(k:Int))=True:=eq_true (by omega)
 have NH:(0≤(i:Int)+1)=True:=eq_true (by omega)
 have Md:((i:Int)+1).toNat=i+1:=by omega
 have e0:h_ s i first=if i+1<k then (⟨false,(s.take k).drop (i+1),0⟩,k) else if (bE (s.drop (i+1))).2.2=0∧nA (bE (s.drop (i+1))).1=false∧zG (bE (s.drop (i+1))).1=(s.take (i+1+(bE (s.drop (i+1))).2.1.toNat)).drop (i+1) then (⟨false,(bE (s.drop (i+1))).1,0⟩,i+1+(bE (s.drop (i+1))).2.1.toNat) else if first then o7 s i (i+1) else (⟨false,[],0⟩,i):=by
  unfold h_;rw [if_pos hd,hE]
 have ul:(s.drop (i+1)).length=s.length-(i+1):=List.length_drop
 have uf:=zx (s.drop (i+1))
 rw [ul] at uf
 generalize hU:bE (s.drop (i+1))=U at *
 obtain ⟨nm,n,e⟩:=U
 simp only at e0 uf
 rcases lt_or_ge (i+1) k with hk | hk
 · have kg:((i:Int)+1<(k:Int))=True:=eq_true (by omega)
   rw [if_pos hk] at e0
   rw [e0] at hr
   simp(maxSteps:=400000)only[↓av,ax,BEq.rfl,reduceIte,reduceCtorEq,Nat.reduceLT,reduceAdd,reduceSub,reduceMul,Nat.reduceBEq,reduceLeDiff,reduceToNat,reduceLE,hQ,bN,mQ,mR,mU,zk,Md,kg,Int.toNat_natCast,h0,h1,h2,h6,h8,h9]
   repeat' (first | (omega) | exact hr | intro _ | refine ⟨?_,?_⟩)
 · have kg:((i:Int)+1<(k:Int))=False:=eq_false (by omega)
   rw [if_neg (by omega)] at e0
   have Zg:first=false→¬ (e=0∧nA nm=false∧zG nm=(s.take (i+1+n.toNat)).drop (i+1))→r=.b_ [encS ⟨false,[],0⟩,.int .i64 i]:=fun a b=>by rw [hr,e0,if_neg b,if_neg (by rw [a];simp)]
   have Zh:first=true→¬ (e=0∧nA nm=false∧zG nm=(s.take (i+1+n.toNat)).drop (i+1))→r=.b_ [encS (o7 s i (i+1)).1,.int .i64 (o7 s i (i+1)).2]:=fun a b=>by rw [hr,e0,if_neg b,if_pos a]
   by_cases he:e=0
   · subst he
     have un:=uf.1 rfl
     have tn:((i:Int)+1+n).toNat=i+1+n.toNat:=by omega
     cases c2:nA nm with
     | false=>
      by_cases c3:zG nm=(s.take (i+1+n.toNat)).drop (i+1)
      · rw [if_pos ⟨rfl,c2,c3⟩] at e0
        have zn:(((i+1+n.toNat:Nat)):Int)=(i:Int)+1+n:=by omega
        have c3':=eq_true c3
        rw [e0] at hr
        simp only [zn] at hr
        simp(maxSteps:=400000)only[↓av,ax,BEq.rfl,reduceIte,reduceCtorEq,Nat.reduceLT,reduceAdd,reduceSub,reduceMul,Nat.reduceBEq,reduceLeDiff,reduceToNat,reduceLE,hQ,bN,mQ,mR,mU,zk,NH,Md,kg,↓fF,take_length,hU,ic,↓j3,c2,↓mP,tn,c3',h0,h1,h2,h6,h8,h9]
        repeat' (first | (omega) | exact hr | intro _ | refine ⟨?_,?_⟩)
      · have c3':=eq_false c3
        cases first with
        | false=>
         have g:=Zg rfl fun x=>c3 x.2.2
         simp(maxSteps:=400000)only[↓av,ax,BEq.rfl,reduceIte,reduceCtorEq,Nat.reduceLT,reduceAdd,reduceSub,reduceMul,Nat.reduceBEq,reduceLeDiff,reduceToNat,reduceLE,hQ,bN,mQ,mR,mU,zk,NH,Md,kg,↓fF,take_length,hU,ic,↓j3,c2,↓mP,tn,c3',h0,h1,h2,h6,h8,h9]
         repeat' (first | (omega) | exact g | intro _ | refine ⟨?_,?_⟩)
        | true=>
         have g:=Zh rfl fun x=>c3 x.2.2
         simp(maxSteps:=400000)only[↓av,ax,BEq.rfl,reduceIte,reduceCtorEq,Nat.reduceLT,reduceAdd,reduceSub,reduceMul,Nat.reduceBEq,reduceLeDiff,reduceToNat,reduceLE,hQ,bN,mQ,mR,mU,zk,NH,Md,kg,↓fF,take_length,hU,ic,↓j3,c2,↓mP,tn,c3',h0,h1,h2,h6,h8,h9]
         repeat' (first | (omega) | exact (Zf _ h0 h1 h6 h8 g) | intro _ | refine ⟨?_,?_⟩)
     | true=>
      cases first with
      | false=>
       have g:=Zg rfl fun x=>absurd (c2.symm.trans x.2.1) (by decide)
       simp(maxSteps:=400000)only[↓av,ax,BEq.rfl,reduceIte,reduceCtorEq,Nat.reduceLT,reduceAdd,reduceSub,reduceMul,Nat.reduceBEq,reduceLeDiff,reduceToNat,reduceLE,hQ,bN,mQ,mR,mU,zk,NH,Md,kg,↓fF,take_length,hU,ic,↓j3,c2,h0,h1,h2,h6,h8,h9]
       repeat' (first | (omega) | exact g | intro _ | refine ⟨?_,?_⟩)
      | true=>
       have g:=Zh rfl fun x=>absurd (c2.symm.trans x.2.1) (by decide)
       simp(maxSteps:=400000)only[↓av,ax,BEq.rfl,reduceIte,reduceCtorEq,Nat.reduceLT,reduceAdd,reduceSub,reduceMul,Nat.reduceBEq,reduceLeDiff,reduceToNat,reduceLE,hQ,bN,mQ,mR,mU,zk,NH,Md,kg,↓fF,take_length,hU,ic,↓j3,c2,h0,h1,h2,h6,h8,h9]
       repeat' (first | (omega) | exact (Zf _ h0 h1 h6 h8 g) | intro _ | refine ⟨?_,?_⟩)
   · have he':=eq_false he
     cases first with
     | false=>
      have g:=Zg rfl fun x=>he x.1
      simp(maxSteps:=400000)only[↓av,ax,BEq.rfl,reduceIte,reduceCtorEq,Nat.reduceLT,reduceAdd,reduceSub,reduceMul,Nat.reduceBEq,reduceLeDiff,reduceToNat,reduceLE,hQ,bN,mQ,mR,mU,zk,NH,Md,kg,↓fF,take_length,hU,ic,he',h0,h1,h2,h6,h8,h9]
      repeat' (first | (omega) | exact g | intro _ | refine ⟨?_,?_⟩)
     | true=>
      have g:=Zh rfl fun x=>he x.1
      simp(maxSteps:=400000)only[↓av,ax,BEq.rfl,reduceIte,reduceCtorEq,Nat.reduceLT,reduceAdd,reduceSub,reduceMul,Nat.reduceBEq,reduceLeDiff,reduceToNat,reduceLE,hQ,bN,mQ,mR,mU,zk,NH,Md,kg,↓fF,take_length,hU,ic,he',h0,h1,h2,h6,h8,h9]
      repeat' (first | (omega) | exact (Zf _ h0 h1 h6 h8 g) | intro _ | refine ⟨?_,?_⟩)
theorem WB (s:List UInt8) (i:Nat) (first:Bool) (hs:s.length≤1000000000) (hi:i≤s.length):ai Tryz.prog 107 [.str s,.int .i64 i,.bool first] [] (.b_ [encS (h_ s i first).1,.int .i64 (h_ s i first).2]) []:=by
 refine Bt.acV (T:=aR Tryz.prog [(119,j3),(120,fF),(121,mP),(122,nZ)]) 0 hD (aj (af Sl (af Jl (af O8 (af Sn ah))))) a_ (by decide) (by decide) fun Q hQ=>?_
 have zi:(0≤(i:Int))=True:=eq_true (by omega)
 by_cases hd:s[i]?=some 46
 · have h:=(List.getElem?_eq_some_iff.1 hd).1
   have hlt:((i:Int)<(s.length:Int))=True:=eq_true (by omega)
   have h46:(((46:UInt8).toNat:Int)=46)=True:=eq_true rfl
   have Md:((i:Int)+1).toNat=i+1:=by omega
   simp(maxSteps:=400000)only[↓av,ax,BEq.rfl,reduceIte,reduceCtorEq,Nat.reduceLT,reduceAdd,reduceSub,reduceMul,Nat.reduceBEq,reduceLeDiff,reduceToNat,reduceLE,hQ,gu,mQ,mR,mU,zi,hlt,hd,h46]
   refine ⟨⟨by omega,by omega⟩,?_⟩
   refine aH (fun m S=>∃ k:Nat,m=s.length-k∧i+1≤k∧k≤s.length∧oC s (i+1) (s.length-(i+1)) (i+1)=oC s (i+1) (s.length-k) k∧S=⟨dI 129 [(0,.str s),(1,.int .i64 ((i:Int)+1)),(2,.bool first),(6,.bI 0 1 0 0),(8,.int .i64 i),(9,.int .i64 k)],[⟨61,3,[encS ⟨false,[],0⟩],true,1⟩]⟩) (s.length-(i+1)) ⟨i+1,rfl,by omega,by omega,rfl,?_⟩ ?_
   · simp only [bW,keepR,reduceAdd,nu,Nat.reduceBEq,List.map_nil]
     rfl
   rintro m S ⟨k,hm,h1,h2,hW,rfl⟩
   have zk:(0≤(k:Int))=True:=eq_true (by omega)
   have tk:((k:Int)+1).toNat=k+1:=by omega
   have wl:((s.take (k+1)).drop (i+1)).length≤1000000000:=by rw [List.length_drop,List.length_take];omega
   by_cases hw:k<s.length∧nA ((s.take (k+1)).drop (i+1))=true
   · have kl:((k:Int)<(s.length:Int))=True:=eq_true (by omega)
     have hwb:=hw.2
     have hW':oC s (i+1) (s.length-k) k=oC s (i+1) (s.length-(k+1)) (k+1):=by
      rw [show s.length-k=s.length-(k+1)+1 by omega,Zd hw.1 hw.2]
     simp(maxSteps:=400000)only[↓av,ax,BEq.rfl,reduceIte,reduceCtorEq,Nat.reduceLT,reduceAdd,reduceSub,reduceMul,Nat.reduceBEq,reduceLeDiff,reduceToNat,reduceLE,hQ,mQ,mR,mU,zk,kl,↓j3,Md,tk,hwb]
     exact ⟨⟨by omega,by omega⟩,by omega,by omega,by omega,wl,⟨by omega,by omega⟩,s.length-(k+1),by omega,k+1,rfl,by omega,by omega,by rw [hW,hW'],rfl⟩
   · have hE:oC s (i+1) (s.length-(i+1)) (i+1)=k:=by rw [hW];exact WA (.inr hw)
     rcases lt_or_ge k s.length with hkl | hkl
     · have kl:((k:Int)<(s.length:Int))=True:=eq_true (by omega)
       have hwb:nA ((s.take (k+1)).drop (i+1))=false:=by
        cases x:nA ((s.take (k+1)).drop (i+1)) with
        | false=>rfl
        | true=>exact absurd ⟨hkl,x⟩ hw
       simp(maxSteps:=400000)only[↓av,ax,BEq.rfl,reduceIte,reduceCtorEq,Nat.reduceLT,reduceAdd,reduceSub,reduceMul,Nat.reduceBEq,reduceLeDiff,reduceToNat,reduceLE,hQ,mQ,mR,mU,zk,↓j3,Md,tk,kl,hwb]
       repeat' (first | (omega) | exact wl | exact (Pk s i k first hs h hd h1 h2 hE _ rfl rfl rfl rfl rfl rfl _ rfl Q hQ) | intro _ | refine ⟨?_,?_⟩)
     · have kl:((k:Int)<(s.length:Int))=False:=eq_false (by omega)
       simp(maxSteps:=400000)only[↓av,ax,BEq.rfl,reduceIte,reduceCtorEq,Nat.reduceLT,reduceAdd,reduceSub,reduceMul,Nat.reduceBEq,reduceLeDiff,reduceToNat,reduceLE,hQ,mQ,mR,mU,zk,↓j3,Md,tk,kl]
       repeat' (first | (omega) | exact (Pk s i k first hs h hd h1 h2 hE _ rfl rfl rfl rfl rfl rfl _ rfl Q hQ) | intro _ | refine ⟨?_,?_⟩)
 · have e0:h_ s i first=if first then (⟨false,[],0⟩,i) else o7 s i i:=by unfold h_;rw [if_neg hd]
   rcases lt_or_ge i s.length with h | h
   · have hlt:((i:Int)<(s.length:Int))=True:=eq_true (by omega)
     have hg:=List.getElem?_eq_getElem h
     generalize s[i]=c at hg
     have b46:(c.toNat:Int)=46↔c=46:=mq (k:=46) (by omega)
     have h46:((c.toNat:Int)=46)=False:=eq_false fun x=>hd (by rw [hg,b46.1 x])
     cases first with
     | false=>
      simp(maxSteps:=400000)only[↓av,ax,BEq.rfl,reduceIte,reduceCtorEq,Nat.reduceLT,reduceAdd,reduceSub,reduceMul,Nat.reduceBEq,reduceLeDiff,reduceToNat,reduceLE,hQ,gu,mQ,mR,mU,zi,hlt,hg,h46]
      repeat' (first | (omega) | exact (DJ s i i i rfl hs hi hi _ rfl rfl rfl rfl _ (by rw [e0];rfl) Q hQ) | intro _ | refine ⟨?_,?_⟩)
     | true=>
      have g:=Ze e0
      simp(maxSteps:=400000)only[↓av,ax,BEq.rfl,reduceIte,reduceCtorEq,Nat.reduceLT,reduceAdd,reduceSub,reduceMul,Nat.reduceBEq,reduceLeDiff,reduceToNat,reduceLE,hQ,gu,mQ,mR,mU,zi,hlt,hg,h46]
      repeat' (first | (omega) | exact g | intro _ | refine ⟨?_,?_⟩)
   · have hlt:((i:Int)<(s.length:Int))=False:=eq_false (by omega)
     cases first with
     | false=>
      simp(maxSteps:=400000)only[↓av,ax,BEq.rfl,reduceIte,reduceCtorEq,Nat.reduceLT,reduceAdd,reduceSub,reduceMul,Nat.reduceBEq,reduceLeDiff,reduceToNat,reduceLE,hQ,gu,mQ,mR,mU,zi,hlt]
      repeat' (first | (omega) | exact (DJ s i i i rfl hs hi hi _ rfl rfl rfl rfl _ (by rw [e0];rfl) Q hQ) | intro _ | refine ⟨?_,?_⟩)
     | true=>
      have g:=Ze e0
      simp(maxSteps:=400000)only[↓av,ax,BEq.rfl,reduceIte,reduceCtorEq,Nat.reduceLT,reduceAdd,reduceSub,reduceMul,Nat.reduceBEq,reduceLeDiff,reduceToNat,reduceLE,hQ,gu,mQ,mR,mU,zi,hlt]
      repeat' (first | (omega) | exact g | intro _ | refine ⟨?_,?_⟩)
end Lp
namespace Lp
open Go Go.Proofs
open List (length_cons length_nil map_map map_nil)
open Nat (lt_or_ge reduceAdd reduceLeDiff reduceMul reduceSub)
open Int (reduceLE reduceToNat toNat_natCast)
def pM:dF:=fun args objs K=>match args with
 | [.str s,.int .i64 i,.bool b]=>(s.length≤1000000000)∧(0≤i)∧(i≤s.length)∧K (.b_ [encS (h_ s i.toNat b).1,.int .i64 (h_ s i.toNat b).2]) objs 0
 | _=>False
theorem Sy:aB Tryz.prog 107 (pM):=by
 intro args objs K h
 unfold pM at h
 split at h
 · rename_i s i b
   obtain ⟨h1,h2,h3,hk⟩:=h
   exact ⟨_,_,_,.pure _ rfl ((by have:=WB s i.toNat b h1 (by omega);rwa [Int.toNat_of_nonneg h2] at this)),hk⟩
 · exact h.elim
theorem Pm (s:List UInt8) (a i:Nat) (ha:a≤s.length) (hi:i+1≤s.length∨s.length≤i):(o7 s a i).2≤s.length:=by
 unfold o7
 split
 · exact ha
 · split
   · exact ha
   · rename_i h1 h2
     have h3:s[(dA s (i+1)).2]?=some 93:=Decidable.of_not_not fun h=>h2 (.inr h)
     exact (List.getElem?_eq_some_iff.1 h3).1
theorem Zi (s:List UInt8) (i:Nat) (b:Bool) (hi:i≤s.length):(h_ s i b).2≤s.length:=by
 unfold h_
 split
 · rename_i hd
   have h:=(List.getElem?_eq_some_iff.1 hd).1
   split
   · exact Pj s (i+1) (s.length-(i+1)) (i+1) (by omega)
   · split
     · rename_i hc
       have hu:=(zx (s.drop (i+1))).1 hc.1
       rw [List.length_drop] at hu
       show i+1+(bE (s.drop (i+1))).2.1.toNat≤s.length
       omega
     · split
       · exact Pm s i (i+1) hi (by omega)
       · exact hi
 · split
   · exact hi
   · exact Pm s i i hi (by omega)
theorem DK {s:List UInt8}{f i:Nat}{out:List Stp}(h:f=0∨(h_ s i out.isEmpty).2=i):CW s f i out=(out,i):=by
 cases f with
 | zero=>rfl
 | succ f=>
  rcases h with h | h
  · omega
  · simp only [CW];rw [if_pos h]
theorem UO {s:List UInt8}{f i:Nat}{out:List Stp}(h:¬ (h_ s i out.isEmpty).2=i):CW s (f+1) i out=CW s f (h_ s i out.isEmpty).2 (out++[(h_ s i out.isEmpty).1]):=by
 simp only [CW];rw [if_neg h]
def Pn (l:List Stp) (ver:Nat):Obj:=⟨61,3,l.map encS,true,ver⟩
theorem BI (v:List Stp) (ver:Nat) (t:TypeId) (rest:List Obj):eY 1 0 (⟨t,3,v.map encS,true,ver⟩::rest) (.bG 0 ver)=gL v:=by
 have:(v.map encS).map (PV.bJ (iY 0 0 (⟨t,3,v.map encS,true,ver⟩::rest)))=v.map encS:=by
  rw [map_map];exact List.map_congr_left fun x _=>rfl
 simp only [eY,Nat.not_lt_zero,if_false,iY,List.getElem?_cons_zero,Nat.le_refl,decide_true,Bool.true_and,beq_self_eq_true,if_true,this]
 rfl
theorem zSl:(PV.vX (.agg ⟨[.bool false,.string ⟨⟨[]⟩⟩,.int .i64 0]⟩)).cells.length=3:=rfl
theorem zSs:(PV.vX (.agg ⟨[.bool false,.string ⟨⟨[]⟩⟩,.int .i64 0]⟩)).cells.all PV.storable=true:=rfl
theorem aek (a:Stp):PV.agg [.bool a.part,.str a.name,.int .i64 a.n]=encS a:=rfl
theorem ab7 (a:Stp):encS ⟨a.part,a.name,a.n⟩=encS a:=rfl
theorem Zj:∀ d X v,eY d 1 X (.bG 0 v)=.bG 0 v:=fun _ _ _=>rfl
theorem ael (X:List Obj) (l:List Stp) (a:Stp) (v:Nat):fE 1 1 X ⟨61,3,l.map encS++[encS a],true,v⟩=⟨61,3,l.map encS++[encS a],true,v⟩:=by
 unfold fE
 simp only [List.map_append,map_map,List.map_cons,map_nil]
 rfl
theorem Po (s:List UInt8) (hs:s.length≤1000000000):ai Tryz.prog 96 [.str s,.int .i64 0] [] (.b_ [gL (eT s).1,.int .i64 (eT s).2]) []:=by
 refine yU.Dt (T:=aR Tryz.prog [(107,pM)]) 1 hD (aj (af Sy ah)) a_ (by decide) (by decide) fun Q hQ=>?_
 (conv=>arg 4;cbv);simp(maxSteps:=400000)only[↓av,ax,BEq.rfl,reduceIte,reduceCtorEq,Nat.reduceLT,reduceAdd,reduceSub,reduceMul,Nat.reduceBEq,reduceLeDiff,reduceToNat,reduceLE,hQ,mQ,mR,mU,zSl,zSs]
 refine aH (fun m S=>∃ (i ver:Nat) (out:List Stp),m+out.length=20∧i≤s.length∧CW s 20 0 []=CW s m i out∧S=⟨dI 52 [(0,.str s),(1,.int .i64 i),(6,.bG 0 ver),(7,.int .i64 0)],[Pn out ver]⟩) 20 (hz:=Nat.zero_le _) ⟨0,1,[],rfl,by omega,rfl,?_⟩ ?_
 · simp only [bW,keepR,reduceAdd,nu,Nat.reduceBEq,map_nil]
   rfl
 rintro m S ⟨i,ver,out,hm,hi,hB,rfl⟩
 rcases Nat.eq_zero_or_pos m with h0 | h0
 · subst h0
   have hlt:((out.length:Int)<20)=False:=eq_false (by omega)
   have b0:decide ((out.length:Int)=0)=false:=decide_eq_false (by omega)
   have hb:eT s=(out,i):=by
    unfold eT;rw [hB,DK (.inl rfl)]
    rw [if_neg];rintro ⟨h,_⟩;simp only at h;rw [h] at hm;simp at hm
   unfold Pn
   simp(maxSteps:=400000)only[↓av,ax,BEq.rfl,reduceIte,reduceCtorEq,Nat.reduceLT,reduceAdd,reduceSub,reduceMul,Nat.reduceBEq,reduceLeDiff,reduceToNat,reduceLE,hQ,hlt,b0,hb,BI]
 · obtain ⟨m,rfl⟩:∃ k,m=k+1:=⟨m-1,by omega⟩
   have hlt:((out.length:Int)<20)=True:=eq_true (by omega)
   have hle:=Zi s i out.isEmpty hi
   have z0:Int.toNat 0=0:=rfl
   cases hE:out.isEmpty with
   | true=>
    have ho:out=[]:=List.isEmpty_iff.1 hE
    have b0:decide ((out.length:Int)=0)=true:=decide_eq_true (by rw [ho];rfl)
    have b1:((out.length:Int)=0)=True:=eq_true (by rw [ho];rfl)
    rw [hE] at hle
    by_cases hst:(h_ s i true).2=i
    · have hst':(((h_ s i true).2:Int)=(i:Int))=True:=eq_true (by omega)
      have hF:CW s 20 0 []=([],i):=by rw [hB,DK (.inr (by rw [hE];exact hst)),ho]
      rcases lt_or_ge 0 s.length with hp | hp
      · have pl:((0:Int)<(s.length:Int))=True:=eq_true (by omega)
        have pg:=List.getElem?_eq_getElem hp
        generalize s[0]=d at pg
        have b46:(d.toNat:Int)=46↔d=46:=mq (k:=46) (by omega)
        by_cases hd:(d.toNat:Int)=46
        · have hb:eT s=(out,1):=by rw [ho];unfold eT;rw [hF,if_pos ⟨rfl,by rw [pg,b46.1 hd]⟩]
          unfold Pn
          simp(maxSteps:=400000)only[↓av,ax,BEq.rfl,reduceIte,reduceCtorEq,Nat.reduceLT,reduceAdd,reduceSub,reduceMul,Nat.reduceBEq,reduceLeDiff,reduceToNat,reduceLE,hQ,hlt,b0,b1,↓pM,toNat_natCast,ic,mQ,mR,mU,zSl,zSs,hst',pl,z0,pg,hd,hb,BI]
          repeat' (first | (omega) | exact rfl | intro _ | refine ⟨?_,?_⟩)
        · have hb:eT s=(out,i):=by rw [ho];unfold eT;rw [hF,if_neg];rintro ⟨_,h⟩;rw [pg] at h;exact hd (b46.2 (Option.some.inj h))
          have hd':=eq_false hd
          unfold Pn
          simp(maxSteps:=400000)only[↓av,ax,BEq.rfl,reduceIte,reduceCtorEq,Nat.reduceLT,reduceAdd,reduceSub,reduceMul,Nat.reduceBEq,reduceLeDiff,reduceToNat,reduceLE,hQ,hlt,b0,b1,↓pM,toNat_natCast,ic,mQ,mR,mU,zSl,zSs,hst',pl,z0,pg,hd',hb,BI]
          repeat' (first | (omega) | exact rfl | intro _ | refine ⟨?_,?_⟩)
      · have pl:((0:Int)<(s.length:Int))=False:=eq_false (by omega)
        have hb:eT s=(out,i):=by rw [ho];unfold eT;rw [hF,if_neg];rintro ⟨_,h⟩;rw [List.getElem?_eq_none_iff.2 hp] at h;cases h
        unfold Pn
        simp(maxSteps:=400000)only[↓av,ax,BEq.rfl,reduceIte,reduceCtorEq,Nat.reduceLT,reduceAdd,reduceSub,reduceMul,Nat.reduceBEq,reduceLeDiff,reduceToNat,reduceLE,hQ,hlt,b0,b1,↓pM,toNat_natCast,ic,mQ,mR,mU,zSl,zSs,hst',pl,hb,BI]
        repeat' (first | (omega) | exact rfl | intro _ | refine ⟨?_,?_⟩)
    · have hst':(((h_ s i true).2:Int)=(i:Int))=False:=eq_false (by omega)
      have hg:=UO (s:=s) (f:=m) (i:=i) (out:=out) (by rw [hE];exact hst)
      rw [hE] at hg
      unfold Pn
      simp(maxSteps:=400000)only[↓av,ax,BEq.rfl,reduceIte,reduceCtorEq,Nat.reduceLT,reduceAdd,reduceSub,reduceMul,Nat.reduceBEq,reduceLeDiff,reduceToNat,reduceLE,hQ,hlt,b0,↓pM,toNat_natCast,ic,mQ,mR,mU,zSl,zSs,hst',aek,ab7,Zj,List.take_succ_cons,List.take_zero,ael]
      repeat' (first | (omega) | exact ⟨m,by omega,(h_ s i true).2,ver+1,out++[(h_ s i true).1],by rw [List.length_append];simp only [length_cons,length_nil];omega,hle,hB.trans hg,by simp⟩ | intro _ | refine ⟨?_,?_⟩)
   | false=>
    have hon:out≠[]:=fun e=>by rw [e] at hE;cases hE
    have hol:0<out.length:=List.length_pos_iff.2 hon
    have b0:decide ((out.length:Int)=0)=false:=decide_eq_false (by omega)
    rw [hE] at hle
    by_cases hst:(h_ s i false).2=i
    · have hst':(((h_ s i false).2:Int)=(i:Int))=True:=eq_true (by omega)
      have hb:eT s=(out,i):=by
       unfold eT;rw [hB,DK (.inr (by rw [hE];exact hst)),if_neg];rintro ⟨h,_⟩;exact hon h
      unfold Pn
      simp(maxSteps:=400000)only[↓av,ax,BEq.rfl,reduceIte,reduceCtorEq,Nat.reduceLT,reduceAdd,reduceSub,reduceMul,Nat.reduceBEq,reduceLeDiff,reduceToNat,reduceLE,hQ,hlt,b0,↓pM,toNat_natCast,ic,mQ,mR,mU,zSl,zSs,hst',hb,BI]
      repeat' (first | (omega) | exact rfl | intro _ | refine ⟨?_,?_⟩)
    · have hst':(((h_ s i false).2:Int)=(i:Int))=False:=eq_false (by omega)
      have hg:=UO (s:=s) (f:=m) (i:=i) (out:=out) (by rw [hE];exact hst)
      rw [hE] at hg
      unfold Pn
      simp(maxSteps:=400000)only[↓av,ax,BEq.rfl,reduceIte,reduceCtorEq,Nat.reduceLT,reduceAdd,reduceSub,reduceMul,Nat.reduceBEq,reduceLeDiff,reduceToNat,reduceLE,hQ,hlt,b0,↓pM,toNat_natCast,ic,mQ,mR,mU,zSl,zSs,hst',aek,ab7,Zj,List.take_succ_cons,List.take_zero,ael]
      repeat' (first | (omega) | exact ⟨m,by omega,(h_ s i false).2,ver+1,out++[(h_ s i false).1],by rw [List.length_append];simp only [length_cons,length_nil];omega,hle,hB.trans hg,by simp⟩ | intro _ | refine ⟨?_,?_⟩)
def nT:dF:=fun args objs K=>match args with
 | [.str s,a1]=>a1=(.int .i64 0)∧(s.length≤1000000000)∧K (.b_ [gL (eT s).1,.int .i64 (eT s).2]) objs 0
 | _=>False
theorem Me:aB Tryz.prog 96 (nT):=by
 intro args objs K h
 unfold nT at h
 split at h
 · rename_i s a1
   obtain ⟨rfl,h1,hk⟩:=h
   exact ⟨_,_,_,.pure _ rfl (Po s h1),hk⟩
 · exact h.elim
def zy (s:List UInt8):PV:=if (jl s).2.2=0 then .b_ [gL (jl s).1,.int .i64 (jl s).2.1,.int .i64 (jl s).2.2] else .b_ [.sl 0 [] (some true),.int .i64 (jl s).2.1,.int .i64 (jl s).2.2]
theorem Sz (s:List UInt8) (hs:s.length≤1000000000):ai Tryz.prog 66 [.str s] [] (zy s) []:=by
 refine Bu.Y6 (T:=aR Tryz.prog [(96,nT)]) 0 hD (aj (af Me ah)) a_ (by decide) (by decide) (by decide) fun Q hQ=>?_
 by_cases h46:s=[46]
 · have hr:zy s=.b_ [gL (eT s).1,.int .i64 0,.int .i64 0]:=by simp only [zy,jl,if_pos h46,if_true]
   have Zk:=eq_true h46
   (conv=>arg 4;cbv);simp(maxSteps:=400000)only[↓av,ax,BEq.rfl,reduceIte,reduceCtorEq,Nat.reduceLT,reduceAdd,reduceSub,reduceMul,Nat.reduceBEq,reduceLeDiff,reduceToNat,reduceLE,hQ,↓nT,ic,Zk,hr]
   repeat' (first | (omega) | exact rfl | intro _ | refine ⟨?_,?_⟩)
 have Zk:=eq_false h46
 cases hB:eT s with
 | mk p n=>
 by_cases hp:p=[]
 · have hr:zy s=.b_ [.sl 0 [] (some true),.int .i64 0,.int .i64 1]:=by simp [zy,jl,h46,hB,hp]
   subst hp
   have b0:((([]:List Stp).length:Int)=0)=True:=eq_true rfl
   (conv=>arg 4;cbv);simp(maxSteps:=400000)only[↓av,ax,BEq.rfl,reduceIte,reduceCtorEq,Nat.reduceLT,reduceAdd,reduceSub,reduceMul,Nat.reduceBEq,reduceLeDiff,reduceToNat,reduceLE,hQ,↓nT,ic,Zk,hB,b0,hr]
   repeat' (first | (omega) | exact rfl | intro _ | refine ⟨?_,?_⟩)
 · have hpl:0<p.length:=List.length_pos_iff.2 hp
   have b0:((p.length:Int)=0)=False:=eq_false (by omega)
   rcases lt_or_ge n s.length with hn | hn
   · have hn':((n:Int)<(s.length:Int))=True:=eq_true (by omega)
     have hr:zy s=.b_ [.sl 0 [] (some true),.int .i64 n,.int .i64 1]:=by simp [zy,jl,h46,hB,hp,hn]
     (conv=>arg 4;cbv);simp(maxSteps:=400000)only[↓av,ax,BEq.rfl,reduceIte,reduceCtorEq,Nat.reduceLT,reduceAdd,reduceSub,reduceMul,Nat.reduceBEq,reduceLeDiff,reduceToNat,reduceLE,hQ,↓nT,ic,Zk,hB,b0,hn',hr]
     repeat' (first | (omega) | exact rfl | intro _ | refine ⟨?_,?_⟩)
   · have hn':((n:Int)<(s.length:Int))=False:=eq_false (by omega)
     have hr:zy s=.b_ [gL p,.int .i64 0,.int .i64 0]:=by simp [zy,jl,h46,hB,hp,Nat.not_lt.2 hn]
     (conv=>arg 4;cbv);simp(maxSteps:=400000)only[↓av,ax,BEq.rfl,reduceIte,reduceCtorEq,Nat.reduceLT,reduceAdd,reduceSub,reduceMul,Nat.reduceBEq,reduceLeDiff,reduceToNat,reduceLE,hQ,↓nT,ic,Zk,hB,b0,hn',hr]
     repeat' (first | (omega) | exact rfl | intro _ | refine ⟨?_,?_⟩)
theorem ac2 {a b c a':PV}(h:nE a a'):nE (.b_ [a,b,c]) (.b_ [a',b,c]):=
 .b_ rfl fun i p q hp hq=>by
  match i with
  | 0=>cases hp;cases hq;exact h
  | 1=>cases hp;cases hq;exact .refl _
  | 2=>cases hp;cases hq;exact .refl _
  | _+3=>simp at hp
theorem WC {s:List UInt8}(h:¬ (jl s).2.2=0):(jl s).1=[]:=by
 unfold jl at h ⊢
 split
 · rename_i h1;rw [if_pos h1] at h;exact absurd rfl h
 · rename_i h1
   rw [if_neg h1] at h
   split
   · rfl
   · rename_i h2
     rw [if_neg h2] at h
     split
     · rfl
     · rename_i h3;rw [if_neg h3] at h;exact absurd rfl h
theorem WE (s:List UInt8) (hs:s.length≤1000000000):ai Tryz.prog 66 [.str s] [] (.b_ [gL (jl s).1,.int .i64 (jl s).2.1,.int .i64 (jl s).2.2]) []:=by
 refine (Sz s hs).res ?_
 unfold zy
 split
 · exact .refl _
 · rename_i h;rw [WC h];exact ac2 (tq 0 3)
def BJ:dF:=fun args objs K=>match args with
 | [.str s]=>(s.length≤1000000000)∧K (.b_ [gL (jl s).1,.int .i64 (jl s).2.1,.int .i64 (jl s).2.2]) objs 0
 | _=>False
theorem SA:aB Tryz.prog 66 (BJ):=by
 intro args objs K h
 unfold BJ at h
 split at h
 · rename_i s
   obtain ⟨h1,hk⟩:=h
   exact ⟨_,_,_,.pure _ rfl (WE s h1),hk⟩
 · exact h.elim
theorem Pp (s:List UInt8):∀ (f i:Nat) (out:List Stp),(CW s f i out).1.length≤out.length+f
 | 0,_,_=>Nat.le_refl _
 | f+1,i,out=>by
  simp only [CW]
  split
  · show out.length≤_;omega
  · have:=Pp s f (h_ s i out.isEmpty).2 (out++[(h_ s i out.isEmpty).1])
    rw [List.length_append] at this
    simp only [length_cons,length_nil] at this
    omega
theorem KD (s:List UInt8):(d_ s).length≤20:=by
 have hb:(eT s).1.length≤20:=by
  unfold eT
  split
  · simp
  · have:=Pp s 20 0 [];simpa using this
 unfold d_ jl
 split
 · exact hb
 · split
   · simp
   · split
     · simp
     · exact hb
theorem Pq (p:List Stp) (hp:p.length≤1000000):ai Tryz.prog 67 [gL p] [] (.bool (p.all fun x=>!x.part)) []:=by
 refine yV.bg (T:=aR Tryz.prog []) 0 hD (aj ah) a_ (by decide) fun Q hQ=>?_
 (conv=>arg 4;cbv);simp(maxSteps:=400000)only[↓av,ax,BEq.rfl,reduceIte,reduceCtorEq,Nat.reduceLT,reduceAdd,reduceSub,reduceMul,Nat.reduceBEq,reduceLeDiff,reduceToNat,reduceLE,hQ]
 refine aH (fun m S=>∃ i:Nat,i+m=p.length∧(∀ (j:Nat) x,j<i→p[j]?=some x→x.part=false)∧S=⟨dI 15 [(0,gL p),(3,.int .i64 i)],[]⟩) p.length ⟨0,by omega,fun j x h=>absurd h (Nat.not_lt_zero j),?_⟩ ?_
 · simp only [bW,keepR,reduceAdd,nu,Nat.reduceBEq,map_nil]
   rfl
 rintro m S ⟨i,him,hb,rfl⟩
 have zi:(0≤(i:Int))=True:=eq_true (by omega)
 rcases lt_or_ge i p.length with h | h
 · have hlt:((i:Int)<(p.length:Int))=True:=eq_true (by omega)
   have hgi:=List.getElem?_eq_getElem h
   generalize p[i]=x at hgi
   cases hx:x.part with
   | true=>
    have hr:(p.all fun x=>!x.part)=false:=by rw [List.all_eq_false];exact ⟨x,List.mem_of_getElem? hgi,by simp [hx]⟩
    simp(maxSteps:=400000)only[↓av,ax,BEq.rfl,reduceIte,reduceCtorEq,Nat.reduceLT,reduceAdd,reduceSub,reduceMul,Nat.reduceBEq,reduceLeDiff,reduceToNat,reduceLE,hQ,hlt,zi,hgi,hx,hr]
   | false=>
    simp(maxSteps:=400000)only[↓av,ax,BEq.rfl,reduceIte,reduceCtorEq,Nat.reduceLT,reduceAdd,reduceSub,reduceMul,Nat.reduceBEq,reduceLeDiff,reduceToNat,reduceLE,hQ,hlt,zi,hgi,hx]
    refine ⟨⟨by omega,by omega⟩,m-1,by omega,i+1,by omega,fun j y hj hy=>?_,rfl⟩
    rcases lt_or_ge j i with g | g
    · exact hb j y g hy
    · have:j=i:=by omega
      subst this
      rw [hgi] at hy;cases hy;exact hx
 · have hlt:((i:Int)<(p.length:Int))=False:=eq_false (by omega)
   have hr:(p.all fun x=>!x.part)=true:=by
    rw [List.all_eq_true];intro x hx
    obtain ⟨j,hj⟩:=List.mem_iff_getElem?.1 hx
    have:=(List.getElem?_eq_some_iff.1 hj).1
    rw [hb j x (by omega) hj];rfl
   simp(maxSteps:=400000)only[↓av,ax,BEq.rfl,reduceIte,reduceCtorEq,Nat.reduceLT,reduceAdd,reduceSub,reduceMul,Nat.reduceBEq,reduceLeDiff,reduceToNat,reduceLE,hQ,hlt,hr]
def tK:dF:=fun args objs K=>match args with
 | [a0]=>fB gL a0 (HK.mk:HK fun p=>(p.length≤1000000)∧K (.bool (p.all fun x=>!x.part)) objs 0)
 | _=>False
theorem Mf:aB Tryz.prog 67 (tK):=by
 intro args objs K h
 unfold tK at h
 split at h
 · rename_i a0
   obtain ⟨p,rfl,h1,hk⟩:=h
   exact ⟨_,_,_,.pure _ rfl (Pq p h1),hk⟩
 · exact h.elim
theorem WG (s:List UInt8) (hs:s.length≤1000000000):ai Tryz.prog 34 [.str s] [] (.b_ [gL (d_ s),.bool (bq s)]) []:=by
 refine Bv.Dt (T:=aR Tryz.prog [(66,BJ),(67,tK)]) 0 hD (aj (af SA (af Mf ah))) a_ (by decide) (by decide) fun Q hQ=>?_
 have hl:=KD s
 unfold d_ at hl
 by_cases he:(jl s).2.2=0
 · have he':=eq_true he
   have d1:decide ((jl s).2.2=0)=true:=decide_eq_true he
   have hr:bq s=(jl s).1.all fun x=>!x.part:=by unfold bq;rw [d1];rfl
   (conv=>arg 4;cbv);simp(maxSteps:=400000)only[↓av,ax,BEq.rfl,reduceIte,reduceCtorEq,Nat.reduceLT,reduceAdd,reduceSub,reduceMul,Nat.reduceBEq,reduceLeDiff,reduceToNat,reduceLE,hQ,↓BJ,↓tK,ic,he',d_,hr]
   repeat' (first | (omega) | exact rfl | intro _ | refine ⟨?_,?_⟩)
 · have he':=eq_false he
   have d1:decide ((jl s).2.2=0)=false:=decide_eq_false he
   have hr:bq s=false:=by unfold bq;rw [d1];rfl
   (conv=>arg 4;cbv);simp(maxSteps:=400000)only[↓av,ax,BEq.rfl,reduceIte,reduceCtorEq,Nat.reduceLT,reduceAdd,reduceSub,reduceMul,Nat.reduceBEq,reduceLeDiff,reduceToNat,reduceLE,hQ,↓BJ,↓tK,ic,he',d_,hr]
   repeat' (first | (omega) | exact rfl | intro _ | refine ⟨?_,?_⟩)
def gy:dF:=fun args objs K=>match args with
 | [.str s]=>(s.length≤1000000000)∧K (.b_ [gL (d_ s),.bool (bq s)]) objs 0
 | _=>False
theorem BK:aB Tryz.prog 34 (gy):=by
 intro args objs K h
 unfold gy at h
 split at h
 · rename_i s
   obtain ⟨h1,hk⟩:=h
   exact ⟨_,_,_,.pure _ rfl (WG s h1),hk⟩
 · exact h.elim
end Lp
namespace Lp
open Go Go.Proofs
open Nat (reduceAdd reduceLeDiff reduceMul reduceSub)
open Int (reduceLE reduceToNat)
def zA (n:Nd) (p:Int):Int:=
 let i:Int:=n.s.length-1-(p-n.e)
 if i<0 then 0 else match n.s[i.toNat]? with
  | some c=>(c.toNat:Int)-48
  | none=>0
def mV (a b:Nd):Nat→Int→Int
 | 0,_=>0
 | k+1,p=>if zA a p<zA b p then -1 else if zA b p<zA a p then 1 else mV a b k (p-1)
def kT (a b:Nd):Int:=if (b.s.length+b.e:Int) > a.s.length+a.e then (b.s.length+b.e:Int) else a.s.length+a.e
def j6 (a b:Nd):Int:=if b.e<a.e then b.e else a.e
def lq (a b:Nd):Int:=
 let side:Int:=if a.neg then -1 else 1
 if a.neg≠b.neg then side else side*mV a b (kT a b-j6 a b+1).toNat (kT a b)
structure BL (n:Nd):Prop where
 len:n.s.length≤200
 gq:gq n.s=true
 lo:-1000≤n.e
 hi:n.e≤1000
theorem qB {s:List UInt8}(h:gq s=true){i:Nat}{c:UInt8}(hc:s[i]?=some c):48≤c.toNat∧c.toNat≤57:=by
 simp only [gq,List.all_eq_true,Bool.and_eq_true,decide_eq_true_eq] at h
 have:=h c (List.mem_of_getElem? hc)
 exact ⟨UInt8.le_iff_toNat_le.1 this.1,UInt8.le_iff_toNat_le.1 this.2⟩
theorem aaY (n:Nd) (p:Int) (hn:BL n) (hp:-2000≤p∧p≤2000):ai Tryz.prog 100 [ay n,.int .i64 p] [] (.int .i64 (zA n p)) []:=by
 obtain ⟨h1,h2,h3,h4⟩:=hn
 refine ES.pure (T:=aR Tryz.prog []) 0 hD (aj ah) a_ (by decide) ?_
 (conv=>arg 4;cbv);simp(maxSteps:=400000)only[↓aV,aW,BEq.rfl,reduceIte,reduceCtorEq,Nat.reduceLT,reduceAdd,reduceSub,reduceMul,Nat.reduceBEq,reduceLeDiff,reduceToNat,reduceLE]
 refine aN _ (Weak.freeze 1 0 (Nat.le_refl _) _) ?_
 simp(maxSteps:=400000)only[↓aV,aW,BEq.rfl,reduceIte,reduceCtorEq,Nat.reduceLT,reduceAdd,reduceSub,reduceMul,Nat.reduceBEq,reduceLeDiff,reduceToNat,reduceLE,jC]
 refine ⟨⟨by omega,by omega⟩,⟨by omega,by omega⟩,⟨by omega,by omega⟩,fun h=>?_,fun h=>⟨fun h'=>?_,fun h'=>⟨by omega,?_⟩⟩⟩
 · simp only [zA,if_pos h]
 · have:n.s[(↑n.s.length-1-(p-n.e)).toNat]?=none:=List.getElem?_eq_none (by omega)
   simp only [zA,if_neg h,this]
 · have hi:(↑n.s.length-1-(p-n.e)).toNat<n.s.length:=by omega
   have hg:=List.getElem?_eq_getElem hi
   have hf:=qB h2 hg
   generalize hc:n.s[(↑n.s.length-1-(p-n.e)).toNat]=c at *
   simp(maxSteps:=400000)only[↓aV,aW,BEq.rfl,reduceIte,reduceCtorEq,Nat.reduceLT,reduceAdd,reduceSub,reduceMul,Nat.reduceBEq,reduceLeDiff,reduceToNat,reduceLE,hg,kD,nC,IntKind.wrap]
   refine ⟨⟨by omega,by omega⟩,?_⟩
   simp only [zA,if_neg h,hg]
   have hm:((c.toNat:Int)-48) % 2 ^ IntKind.i64.bits=(c.toNat:Int)-48:=Int.emod_eq_of_lt (by omega) (by have:(2:Int) ^ IntKind.i64.bits=18446744073709551616:=rfl;omega)
   rw [hm,if_neg]
   have h2:(2:Int) ^ (IntKind.i64.bits-1)=9223372036854775808:=rfl
   have h3:IntKind.i64.signed=true:=rfl
   rw [h2,h3]
   simp
   omega
def UQ:dF:=fun args objs K=>match args with
 | [a0,.int .i64 p]=>fB ay a0 (HK.mk:HK fun n=>(BL n)∧(-2000≤p∧p≤2000)∧K (.int .i64 (zA n p)) objs 0)
 | _=>False
theorem Zl:aB Tryz.prog 100 (UQ):=by
 intro args objs K h
 unfold UQ at h
 split at h
 · rename_i a0 p
   obtain ⟨n,rfl,h1,h2,hk⟩:=h
   exact ⟨_,_,_,.pure _ rfl (aaY n p h1 h2),hk⟩
 · exact h.elim
theorem Ps (a b:Nd) (ha:BL a) (hb:BL b):ai Tryz.prog 79 [ay a,ay b] [] (.int .i64 (lq a b)) []:=by
 refine Dn.pure (T:=aR Tryz.prog [(100,UQ)]) 0 hD (aj (af Zl ah)) a_ (by decide) ?_
 (conv=>arg 4;cbv);simp(maxSteps:=400000)only[↓aV,aW,BEq.rfl,reduceIte,reduceCtorEq,Nat.reduceLT,reduceAdd,reduceSub,reduceMul,Nat.reduceBEq,reduceLeDiff,reduceToNat,reduceLE]
 refine aN _ (Weak.freeze 1 0 (Nat.le_refl _) _) ?_
 cases hx:a.neg <;> cases hy:b.neg
 all_goals simp(maxSteps:=400000)only[↓aV,aW,BEq.rfl,reduceIte,reduceCtorEq,Nat.reduceLT,reduceAdd,reduceSub,reduceMul,Nat.reduceBEq,reduceLeDiff,reduceToNat,reduceLE,YW,YX,hx,hy]
 case false.true=>simp [lq,hx,hy]
 case true.false=>simp [lq,hx,hy]
 all_goals
  have b1:-2000≤kT a b∧kT a b≤2000:=by obtain ⟨a1,a2,a3,a4⟩:=ha;obtain ⟨b1,b2,b3,b4⟩:=hb;unfold kT;split <;> omega
  have b2:-1000≤j6 a b∧j6 a b≤1000:=by obtain ⟨a1,a2,a3,a4⟩:=ha;obtain ⟨b1,b2,b3,b4⟩:=hb;unfold j6;split <;> omega
  have l1:=ha.len
  have l2:=hb.len
  have e1:=ha.lo
  have e2:=ha.hi
  have e3:=hb.lo
  have e4:=hb.hi
  refine ⟨⟨by omega,by omega⟩,⟨by omega,by omega⟩,?_⟩
  refine aH (fun m S=>∃ p:Int,(m:Int)=(if 0≤p-j6 a b+1 then p-j6 a b+1 else 0)∧p≤kT a b∧-2000≤p∧
   (mV a b (kT a b-j6 a b+1).toNat (kT a b)=mV a b (p-j6 a b+1).toNat p)∧
   S=⟨dI 56 [(2,.addr (ay a)),(3,.addr (ay b)),(5,.int .i64 (if a.neg=true then -1 else 1)),(7,.int .i64 p)],[]⟩) (kT a b-j6 a b+1).toNat ⟨kT a b,?_,Int.le_refl _,by omega,rfl,?_⟩ ?_
  · split <;> omega
  · simp only [bW,keepR,reduceAdd,nu,Nat.reduceBEq,hx,if_true,if_false,kT,Bool.false_eq_true]
  rintro m S ⟨p,hm,hp1,hp2,hd,rfl⟩
  simp(maxSteps:=400000)only[↓aV,aW,BEq.rfl,reduceIte,reduceCtorEq,Nat.reduceLT,reduceAdd,reduceSub,reduceMul,Nat.reduceBEq,reduceLeDiff,reduceToNat,reduceLE,↓UQ]
  refine ⟨fun hlow=>⟨ha,⟨by omega,by omega⟩,hb,⟨by omega,by omega⟩,fun hlt=>?_,fun hlt=>⟨fun hgt=>?_,fun hgt=>?_⟩⟩,fun hlow=>?_⟩
  · have hl:j6 a b≤p:=hlow
    have e:(p-j6 a b+1).toNat=(p-j6 a b).toNat+1:=by omega
    rw [e] at hd
    simp only [mV,if_pos hlt] at hd
    simp only [lq,hd,hx,hy]
    simp
  · have hl:j6 a b≤p:=hlow
    have e:(p-j6 a b+1).toNat=(p-j6 a b).toNat+1:=by omega
    rw [e] at hd
    simp only [mV,if_neg hlt,if_pos hgt] at hd
    simp only [lq,hd,hx,hy]
    simp
  · have hl:j6 a b≤p:=hlow
    have e:(p-j6 a b+1).toNat=(p-1-j6 a b+1).toNat+1:=by omega
    rw [e] at hd
    simp only [mV,if_neg hlt,if_neg hgt] at hd
    rw [if_pos (by omega)] at hm
    refine ⟨⟨by omega,by omega⟩,m-1,by omega,p-1,?_,by omega,by omega,hd,rfl⟩
    split <;> omega
  · have hl:¬ j6 a b≤p:=hlow
    have e:(p-j6 a b+1).toNat=0:=by omega
    rw [e] at hd
    simp only [mV] at hd
    simp only [lq,hd,hx,hy]
    simp
def yg:dF:=fun args objs K=>match args with
 | [a0,a1]=>fB ay a0 (HK.mk:HK fun a=>fB ay a1 (HK.mk:HK fun b=>(BL a)∧(BL b)∧K (.int .i64 (lq a b)) objs 0))
 | _=>False
theorem Mg:aB Tryz.prog 79 (yg):=by
 intro args objs K h
 unfold yg at h
 split at h
 · rename_i a0 a1
   obtain ⟨a,rfl,b,rfl,h1,h2,hk⟩:=h
   exact ⟨_,_,_,.pure _ rfl (Ps a b h1 h2),hk⟩
 · exact h.elim
end Lp
namespace Lp
open Go Go.Proofs
theorem Ho (x:Int):ai Tryz.prog 171 [.int .i64 x] [] (.bool false) []:=by
 refine Dp.pure (T:=aR Tryz.prog []) 0 hD (aj ah) a_ (by decide) ?_
 (conv=>arg 4;cbv);simp only [↓zO,El,↓Ba,↓yN,↓Bb,yO,↓mM,nk,jI,fw,Dk,Nat.reduceAdd,Nat.reduceSub,rq,bM,FD,FE]
 simp
def Mh:dF:=fun args objs K=>∃ x:Int,args=[.int .i64 x]∧K (.bool false) objs 0
theorem SB:aB Tryz.prog 171 Mh:=by
 rintro args objs K ⟨x,rfl,hk⟩
 exact ⟨_,_,_,.pure _ rfl (Ho x),hk⟩
theorem DL (x y:Int):ai Tryz.prog 145 [.int .i64 x,.int .i64 y] [] (.int .i64 (uw x y)) []:=by
 refine zQ.pure (T:=aR Tryz.prog [(171,Mh)]) 0 hD (aj (af SB ah)) a_ (by decide) ?_
 (conv=>arg 4;cbv);simp only [↓zO,El,↓Ba,↓yN,↓Bb,yO,↓mM,nk,jI,fw,Dk,Nat.reduceAdd,Nat.reduceSub,rq,bM,caR,taR,Mh,Nat.reduceBEq,BEq.rfl,cond_true,cond_false,qZ,FD,FE]
 refine ⟨x,rfl,y,rfl,(fun h=>by cases h),fun _=>⟨(fun h=>by cases h),fun _=>⟨fun h=>?_,fun h=>⟨fun h'=>?_,fun h'=>?_⟩⟩⟩⟩
 · rw [uw,if_pos (of_decide_eq_true h)]
 · rw [uw,if_neg (of_decide_eq_false h),if_pos (of_decide_eq_true h')]
 · rw [uw,if_neg (of_decide_eq_false h),if_neg (of_decide_eq_false h')]
theorem Hq (x:List UInt8):ai Tryz.prog 173 [.str x] [] (.bool false) []:=by
 refine yQ.pure (T:=aR Tryz.prog []) 0 hD (aj ah) a_ (by decide) ?_
 (conv=>arg 4;cbv);simp only [↓zO,El,↓Ba,↓yN,↓Bb,yO,↓mM,nk,jI,fw,Dk,Nat.reduceAdd,Nat.reduceSub,rq,bM,FD,jm]
 simp
def Mi:dF:=fun args objs K=>∃ x:List UInt8,args=[.str x]∧K (.bool false) objs 0
theorem SC:aB Tryz.prog 173 Mi:=by
 rintro args objs K ⟨x,rfl,hk⟩
 exact ⟨_,_,_,.pure _ rfl (Hq x),hk⟩
theorem tL (x y:List UInt8):ai Tryz.prog 147 [.str x,.str y] [] (.int .i64 (jM x y)) []:=by
 refine vZ.pure (T:=aR Tryz.prog [(173,Mi)]) 0 hD (aj (af SC ah)) a_ (by decide) ?_
 (conv=>arg 4;cbv);simp only [↓zO,El,↓Ba,↓yN,↓Bb,yO,↓mM,nk,jI,fw,Dk,Nat.reduceAdd,Nat.reduceSub,rq,bM,caR,taR,Mi,Nat.reduceBEq,BEq.rfl,cond_true,cond_false,qZ,FD,jm]
 refine ⟨x,rfl,y,rfl,(fun h=>by cases h),fun _=>⟨(fun h=>by cases h),fun _=>⟨fun h=>?_,fun h=>⟨fun h'=>?_,fun h'=>?_⟩⟩⟩⟩
 · rw [jM,if_pos h]
 · rw [h,Bool.false_or] at h'
   have hne:x≠y:=by simpa using h'
   rw [jM,if_neg (by rw [h];simp),if_neg hne]
 · rw [h,Bool.false_or] at h'
   have he:x=y:=by simpa using h'
   rw [jM,if_neg (by rw [h];simp),if_pos he]
end Lp
namespace Lp
open Go Go.Proofs
def Mj:dF:=fun args objs K=>∃ x y:List UInt8,args=[.str x,.str y]∧K (.int .i64 (jM x y)) objs 0
theorem SE:aB Tryz.prog 147 Mj:=by
 rintro args objs K ⟨x,y,rfl,hk⟩
 exact ⟨_,_,_,.pure _ rfl (tL x y),hk⟩
theorem Ae (a b:List (List UInt8)) (ha:a.length≤9223372036854775807) (_hb:b.length≤9223372036854775807) :
  ai Tryz.prog 148 [kG a,kG b] [] (.int .i64 (eP jM a b)) []:=by
 refine l8.pure (T:=aR Tryz.prog [(147,Mj)]) 0 hD (aj (af SE ah)) a_ (by decide) ?_
 (conv=>arg 4;cbv);simp only [↓zO,El,↓Ba,↓yN,↓Bb,yO,↓mM,nk,jI,fw,Dk,Nat.reduceAdd,Nat.reduceSub,rq,bM,dU,qg,kG,List.length_map,FD,FE]
 refine aH (fun m S=>∃ i:Nat,m=a.length-i∧i≤a.length∧i≤b.length∧eP jM (a.drop i) (b.drop i)=eP jM a b∧
  S=⟨mkT 36 [(0,kG a),(1,kG b),(9,kG a),(10,.int .i64 a.length),(11,.int .i64 i)],[]⟩) a.length ⟨0,rfl,Nat.zero_le _,Nat.zero_le _,rfl,?_⟩ ?_
 · simp only [Q9,kG,rq];rfl
 rintro m S ⟨i,rfl,hi,hib,hlex,rfl⟩
 simp only [↓zO,El,↓Ba,↓yN,↓Bb,yO,↓mM,nk,jI,fw,Dk,Nat.reduceAdd,Nat.reduceSub,rq,Q9,bM,caR,taR,Mj,Nat.reduceBEq,BEq.rfl,cond_true,cond_false,dU,qg,kG,FD,FE,wS,List.length_map,aZ,fq,↓zq,I7,FH,ne_eq,reduceCtorEq,not_false_eq_true,true_and,PV.bool.injEq,Int.toNat_natCast,List.length_cons,List.length_nil]
 refine ⟨fun h=>?_,fun h=>?_⟩
 · have hlt:i<a.length:=by have:=of_decide_eq_true h;omega
   rw [List.drop_eq_getElem_cons hlt] at hlex
   refine ⟨by omega,a[i],List.getElem?_eq_getElem hlt,fun hge=>?_,fun hgl=>?_⟩
   · have hbe:b.length≤i:=by have:=of_decide_eq_true hge;omega
     rw [List.drop_eq_nil_of_le hbe] at hlex
     rw [← hlex];rfl
   · have hbl:i<b.length:=by have:=of_decide_eq_false hgl;omega
     rw [List.drop_eq_getElem_cons hbl] at hlex
     refine ⟨by omega,b[i],List.getElem?_eq_getElem hbl,a[i],b[i],rfl,fun hne=>?_,fun heq=>⟨by omega,a.length-(i+1),by omega,i+1,rfl,by omega,by omega,?_,rfl⟩⟩
     · have hne':jM a[i] b[i]≠0:=by simpa using hne
       rw [← hlex,eP,if_neg hne']
     · have heq':jM a[i] b[i]=0:=by simpa using heq
       rw [← hlex,eP,if_pos heq']
 · rw [if_pos trivial]
   have hge:a.length≤i:=by have:=of_decide_eq_false h;omega
   rw [List.drop_eq_nil_of_le hge] at hlex
   refine ⟨fun hl=>?_,fun hl=>?_⟩
   · have hl':i<b.length:=by have:=of_decide_eq_true hl;omega
     rw [List.drop_eq_getElem_cons hl'] at hlex
     rw [← hlex];rfl
   · have hl':b.length≤i:=by have:=of_decide_eq_false hl;omega
     rw [List.drop_eq_nil_of_le hl'] at hlex
     rw [← hlex];rfl
end Lp
