/-
  Part 4 of what the statement rests on: LpU2, LpX, LpUse, LpRes, LpE0, LpTA0, LpC7, LpC8, LpW1, LpW2, LpW3, LpW4, LpW8, LpW14, LpW15, LpW16, LpW17, LpW18, LpW19, LpW20, LpW23, LpW30, LpD1, LpD2, LpV5, LpLay, LpLib, LpD4, LpX1, LpTA1, LpTA2, LpTA3, LpTA3s, LpTA3t, LpTA4, LpW13, LpW5, LpW6. No condition.
-/
import Derived.Test.YtgfdogdnlgfcpaaGreatDoorLp3
import Derived.Deep.Slices
import Derived.ChangeShapes
import Derived.SizedLaws
import Derived.Deep.DeepHandedRow
import Derived.JoinedOf
import Derived.Below
import Derived.Carry
import Derived.ChangeOld
import Derived.RowKit
import Derived.OpenShut
import Derived.Lib.ValidLaws
import Derived.Shelf.Strings.FuncGrows
import Derived.Lib.TrimByte
import Derived.Shelf.SlGeneric
import Derived.Ground.NamesProg
import Derived.Ground.Names8Prog
import Derived.Shelf.Strings.Trim
import Derived.Shelf.Sort.Plain
import Derived.Shelf.Slices.In.SortNone
import Derived.Shelf.Unicode.ValidAny
import Derived.Shelf.Spec.SlicesGrow
import Derived.Shelf.Strings.Repeat
import Derived.Test.YtgfdogdnlgfcpaaGreatDoorProg

set_option linter.all false
set_option maxHeartbeats 8000000
set_option maxRecDepth 100000
namespace Lp
open Go Go.Proofs
def kr (l:List (List UInt8)):PV:=.sl 1 (l.map .str) none
def mJ (l:List Vl):PV:=.sl 1 (l.map aS) none
def encI (l:List Int):PV:=.sl 1 (l.map (.int .i64)) none
def Oy (l:List (List Int)):PV:=.sl 1 (l.map encI) none
theorem hV:∀ l,aS l=.sl 6 (l.map aA) none:=fun _=>rfl
theorem hT:∀ l,kr l=.sl 1 (l.map .str) none:=fun _=>rfl
theorem hL:∀ l,mJ l=.sl 1 (l.map aS) none:=fun _=>rfl
theorem hI:∀ l,encI l=.sl 1 (l.map (.int .i64)) none:=fun _=>rfl
theorem hG:∀ l,Oy l=.sl 1 (l.map encI) none:=fun _=>rfl
theorem wN:∀ a b,aA a=aA b→a=b:=by
 intro a b h
 cases a;cases b
 simp only [aA,PV.agg.injEq,List.cons.injEq,PV.int.injEq,PV.str.injEq,PV.bool.injEq,true_and,and_true] at h
 obtain ⟨rfl,rfl,rfl,rfl,rfl,rfl⟩:=h
 rfl
theorem wO:∀ a b,aS a=aS b→a=b:=nT hV wN
theorem wP:∀ a b,kr a=kr b→a=b:=nT hT fun _ _ h=>by injection h
theorem wQ:∀ a b,encI a=encI b→a=b:=nT hI fun _ _ h=>by injection h
theorem Bg:∀ a b,mJ a=mJ b→a=b:=nT hL wO
theorem Bh:∀ a b,Oy a=Oy b→a=b:=nT hG wQ
theorem abD (objs:List Obj) (K:KT) :
  (∀ n,aL D 27 (.addr (aA n)) 0 objs K=K (.addr (.int .i64 n.kind)) objs 0)∧
  (∀ n,aL D 27 (.addr (aA n)) 1 objs K=K (.addr (.int .i64 n.many)) objs 0)∧
  (∀ n,aL D 27 (.addr (aA n)) 2 objs K=K (.addr (.str n.name)) objs 0)∧
  (∀ n,aL D 27 (.addr (aA n)) 3 objs K=K (.addr (.str n.s)) objs 0)∧
  (∀ n,aL D 27 (.addr (aA n)) 4 objs K=K (.addr (.bool n.neg)) objs 0)∧
  (∀ n,aL D 27 (.addr (aA n)) 5 objs K=K (.addr (.int .i64 n.e)) objs 0):=by
 refine ⟨fun n=>?_,fun n=>?_,fun n=>?_,fun n=>?_,fun n=>?_,fun n=>?_⟩
 all_goals
  simp only [aA,aL,dZ,bL,↓Lj,IU,uK,qU,Fu,Ir,ne_eq,reduceCtorEq,not_false_eq_true,true_and,Bool.not_false,Bool.and_self,Nat.reduceAdd,Nat.reduceLeDiff,forall_const]
theorem abE :
  (∀ n,(aA n).cells=[.int .i64 n.kind,.int .i64 n.many,.str n.name,.str n.s,.bool n.neg,.int .i64 n.e])∧
  (∀ n,(aA n).isAgg=true)∧(∀ n,(aA n).pure=true)∧(∀ d m O n,eZ d m O (aA n)=aA n)∧(∀ d m O n,gJ d m O (aA n)=aA n):=
 ⟨fun _=>rfl,fun _=>rfl,fun _=>rfl,fun _ _ _ _=>rfl,fun _ _ _ _=>rfl⟩
theorem YE (a b:Nd):Au Tryz.prog 27 (aA a).cells (aA b).cells:=
 aaL (by kernel_rfl) (by kernel_rfl) (by kernel_rfl) (by
  have h:(Tryz.prog.fieldsOf 27).toList.map (fun f=>(f.name != "_",f.offset,Tryz.prog.underlying f.type))=[(true,0,some (.int .i64)),(true,1,some (.int .i64)),(true,2,some .string),(true,3,some .string),(true,4,some .bool),(true,5,some (.int .i64))]:=by kernel_rfl
  generalize (Tryz.prog.fieldsOf 27).toList=fs at h
  obtain _ | ⟨f0,_ | ⟨f1,_ | ⟨f2,_ | ⟨f3,_ | ⟨f4,_ | ⟨f5,_ | ⟨f6,fr⟩⟩⟩⟩⟩⟩⟩:=fs
  all_goals simp only [List.map_cons,List.map_nil,List.cons.injEq,Prod.mk.injEq,and_true,reduceCtorEq,and_false] at h
  obtain ⟨⟨a0,b0,c0⟩,⟨a1,b1,c1⟩,⟨a2,b2,c2⟩,⟨a3,b3,c3⟩,⟨a4,b4,c4⟩,⟨a5,b5,c5⟩⟩:=h
  simp only [wL,VT,aA,PV.cells,a0,b0,c0,a1,b1,c1,a2,b2,c2,a3,b3,c3,a4,b4,c4,a5,b5,c5,Bool.and_true,BEq.rfl,decide_true,Nat.zero_add,Nat.reduceAdd])
theorem adQ (a b:Nd):yA (aA a).cells (aA b).cells=some (decide (a=b)):=by
 cases a;cases b
 simp only [aA,PV.cells,yA,Z4,if_true,Bool.and_true,Nd.mk.injEq,Option.some.injEq]
 rw [Bool.eq_iff_iff]
 simp
theorem YF (ti:aD) (K:PV→Prop) :
  (∀ a b,ow Tryz.prog ti 27 .eql (aA a) (aA b) K=K (.bool (decide (a=b))))∧
  (∀ a b,ow Tryz.prog ti 27 .neq (aA a) (aA b) K=K (.bool (!decide (a=b))))∧
  (∀ a k m x y g e,ow Tryz.prog ti 27 .eql (aA a) (.agg [.int .i64 k,.int .i64 m,.str x,.str y,.bool g,.int .i64 e]) K=K (.bool (decide (a=⟨k,m,x,y,g,e⟩)))):=by
 have h:∀ a b,ow Tryz.prog ti 27 .eql (aA a) (aA b) K=K (.bool (decide (a=b))):=fun a b=>by
  show (Au Tryz.prog 27 (aA a).cells (aA b).cells∧∃ r,yA (aA a).cells (aA b).cells=some r∧K (.bool r))=_
  rw [adQ]
  simp [YE]
 refine ⟨h,fun a b=>?_,fun a k m x y g e=>h a ⟨k,m,x,y,g,e⟩⟩
 show (Au Tryz.prog 27 (aA a).cells (aA b).cells∧∃ r,yA (aA a).cells (aA b).cells=some r∧K (.bool (!r)))=_
 rw [adQ]
 simp [YE]
theorem abF (n:Nd) :
  (∀ x,(aA n).putCells 0 [.int .i64 x]=aA { n with kind:=x })∧(∀ x,(aA n).putCells 1 [.int .i64 x]=aA { n with many:=x })∧
  (∀ x,(aA n).putCells 2 [.str x]=aA { n with name:=x })∧(∀ x,(aA n).putCells 3 [.str x]=aA { n with s:=x })∧
  (∀ x,(aA n).putCells 4 [.bool x]=aA { n with neg:=x })∧(∀ x,(aA n).putCells 5 [.int .i64 x]=aA { n with e:=x }):=
 ⟨fun _=>rfl,fun _=>rfl,fun _=>rfl,fun _=>rfl,fun _=>rfl,fun _=>rfl⟩
theorem abG (k m:Int) (x y:List UInt8) (g:Bool) (e:Int):PV.agg [.int .i64 k,.int .i64 m,.str x,.str y,.bool g,.int .i64 e]=aA ⟨k,m,x,y,g,e⟩:=rfl
theorem abH (objs:List Obj) (K:KT) :
  (∀ k,bF D 27 [(0,.int .i64 k)] objs K=K (aA ⟨k,0,[],[],false,0⟩) objs 0)∧
  (∀ k m,bF D 27 [(0,.int .i64 k),(1,.int .i64 m)] objs K=K (aA ⟨k,m,[],[],false,0⟩) objs 0)∧
  (∀ k s,bF D 27 [(0,.int .i64 k),(3,.str s)] objs K=K (aA ⟨k,0,[],s,false,0⟩) objs 0)∧
  (∀ k s g e,bF D 27 [(0,.int .i64 k),(3,.str s),(4,.bool g),(5,.int .i64 e)] objs K=K (aA ⟨k,0,[],s,g,e⟩) objs 0):=by
 have z:aI (D 27)=aA ⟨0,0,[],[],false,0⟩:=by kernel_rfl
 have a:(D 27).agg=true:=by kernel_rfl
 simp only [bL] at z a
 refine ⟨fun k=>?_,fun k m=>?_,fun k s=>?_,fun k s g e=>?_⟩
 all_goals
  simp [bF,lG,a,z,bL,mg,aA,PV.isAgg,qb,PV.cells,PV.storable,PV.lS,PV.pure]
theorem abI :
  (∀ n0,PV.sl 6 [aA n0] none=aS [n0])∧
  (∀ n0 n1,PV.sl 6 [aA n0,aA n1] none=aS [n0,n1])∧
  (∀ n0 n1 n2,PV.sl 6 [aA n0,aA n1,aA n2] none=aS [n0,n1,n2])∧
  (∀ s0,PV.sl 1 [PV.str s0] none=kr [s0])∧
  (∀ s0 s1,PV.sl 1 [PV.str s0,PV.str s1] none=kr [s0,s1])∧
  (∀ s0 s1 s2,PV.sl 1 [PV.str s0,PV.str s1,PV.str s2] none=kr [s0,s1,s2])∧
  (∀ i0,PV.sl 1 [PV.int .i64 i0] none=encI [i0])∧
  (∀ i0 i1,PV.sl 1 [PV.int .i64 i0,PV.int .i64 i1] none=encI [i0,i1])∧
  (∀ i0 i1 i2,PV.sl 1 [PV.int .i64 i0,PV.int .i64 i1,PV.int .i64 i2] none=encI [i0,i1,i2])∧
  (∀ v0,PV.sl 1 [aS v0] none=mJ [v0])∧
  (∀ v0 v1,PV.sl 1 [aS v0,aS v1] none=mJ [v0,v1])∧
  (∀ v0 v1 v2,PV.sl 1 [aS v0,aS v1,aS v2] none=mJ [v0,v1,v2])∧
  (∀ g0,PV.sl 1 [encI g0] none=Oy [g0])∧
  (∀ g0 g1,PV.sl 1 [encI g0,encI g1] none=Oy [g0,g1])∧
  (∀ g0 g1 g2,PV.sl 1 [encI g0,encI g1,encI g2] none=Oy [g0,g1,g2]):=
 ⟨fun _=>rfl,fun _ _=>rfl,fun _ _ _=>rfl,fun _=>rfl,fun _ _=>rfl,fun _ _ _=>rfl,fun _=>rfl,fun _ _=>rfl,fun _ _ _=>rfl,fun _=>rfl,fun _ _=>rfl,fun _ _ _=>rfl,fun _=>rfl,fun _ _=>rfl,fun _ _ _=>rfl⟩
theorem inN:vG aA:=by intro d n o x;cases d <;> rfl
theorem inV:vG aS:=by intro d n o x;cases d <;> rfl
theorem inS:vG PV.str:=by intro d n o x;cases d <;> rfl
theorem inI:vG (PV.int .i64):=by intro d n o x;cases d <;> rfl
theorem inG:vG encI:=by intro d n o x;cases d <;> rfl
theorem adR :
  type_of% (jL hV)∧
  type_of% (jL hT)∧
  type_of% (jL hL)∧
  type_of% (jL hI)∧
  type_of% (jL hG)∧
  type_of% (aQ wN)∧
  type_of% (aQ wO)∧
  type_of% (aQ wP)∧
  type_of% (aQ Bg)∧
  type_of% (aQ wQ)∧
  type_of% (aQ Bh):=
 ⟨jL hV,jL hT,jL hL,jL hI,jL hG,aQ wN,aQ wO,aQ wP,aQ Bg,aQ wQ,aQ Bh⟩
theorem abJ :
  type_of% (abD)∧
  type_of% (abE)∧
  type_of% (YF)∧
  type_of% (abF)∧
  type_of% (abG)∧
  type_of% (abH)∧
  type_of% (abI)∧
  type_of% (sK hV)∧
  type_of% (sK hT)∧
  type_of% (sK hL)∧
  type_of% (sK hI)∧
  type_of% (sK hG)∧
  type_of% (jL hV)∧
  type_of% (jL hT)∧
  type_of% (jL hL)∧
  type_of% (jL hI)∧
  type_of% (jL hG)∧
  type_of% (sM hV)∧
  type_of% (sM hT)∧
  type_of% (sM hL)∧
  type_of% (sM hI)∧
  type_of% (sM hG)∧
  type_of% (aQ wN)∧
  type_of% (aQ wO)∧
  type_of% (aQ wP)∧
  type_of% (aQ Bg)∧
  type_of% (aQ wQ)∧
  type_of% (aQ Bh)∧
  type_of% (iV hV inN)∧
  type_of% (iV hT inS)∧
  type_of% (iV hL inV)∧
  type_of% (iV hI inI)∧
  type_of% (iV hG inG)∧
  type_of% (rO (enc:=aA) (sz:=6) (fun _=>rfl) (fun _=>rfl))∧
  type_of% (rO (enc:=aS) (sz:=1) (fun _=>rfl) (fun _=>rfl))∧
  type_of% (rO (enc:=PV.str) (sz:=1) (fun _=>rfl) (fun _=>rfl))∧
  type_of% (rO (enc:=(PV.int .i64)) (sz:=1) (fun _=>rfl) (fun _=>rfl))∧
  type_of% (rO (enc:=encI) (sz:=1) (fun _=>rfl) (fun _=>rfl))∧
  type_of% (rO (enc:=PV.bool) (sz:=1) (fun _=>rfl) (fun _=>rfl))∧
  type_of% (fun (l:Vl) (k:Nat)=>Kj (aS l) rfl k)∧
  type_of% (fun (l:List (List UInt8)) (k:Nat)=>Kj (kr l) rfl k)∧
  type_of% (fun (l:List Vl) (k:Nat)=>Kj (mJ l) rfl k)∧
  type_of% (fun (l:List Int) (k:Nat)=>Kj (encI l) rfl k)∧
  type_of% (fun (l:List (List Int)) (k:Nat)=>Kj (Oy l) rfl k)∧
  type_of% (fun (z:Nat) (xs:List PV) (q:Option Bool) (k:Nat)=>Kj (.sl z xs q) rfl k):=
 ⟨abD,abE,YF,abF,abG,abH,abI,sK hV,sK hT,sK hL,sK hI,sK hG,jL hV,jL hT,jL hL,jL hI,jL hG,sM hV,sM hT,sM hL,sM hI,sM hG,aQ wN,aQ wO,aQ wP,aQ Bg,aQ wQ,aQ Bh,iV hV inN,iV hT inS,iV hL inV,iV hI inI,iV hG inG,rO (enc:=aA) (sz:=6) (fun _=>rfl) (fun _=>rfl),rO (enc:=aS) (sz:=1) (fun _=>rfl) (fun _=>rfl),rO (enc:=PV.str) (sz:=1) (fun _=>rfl) (fun _=>rfl),rO (enc:=(PV.int .i64)) (sz:=1) (fun _=>rfl) (fun _=>rfl),rO (enc:=encI) (sz:=1) (fun _=>rfl) (fun _=>rfl),rO (enc:=PV.bool) (sz:=1) (fun _=>rfl) (fun _=>rfl),fun (l:Vl) (k:Nat)=>Kj (aS l) rfl k,fun (l:List (List UInt8)) (k:Nat)=>Kj (kr l) rfl k,fun (l:List Vl) (k:Nat)=>Kj (mJ l) rfl k,fun (l:List Int) (k:Nat)=>Kj (encI l) rfl k,fun (l:List (List Int)) (k:Nat)=>Kj (Oy l) rfl k,fun (z:Nat) (xs:List PV) (q:Option Bool) (k:Nat)=>Kj (.sl z xs q) rfl k⟩
theorem aT:type_of% @adN∧type_of% @adR∧type_of% @adO:=⟨@adN,@adR,@adO⟩
theorem aU:type_of% @abA∧type_of% @abB∧type_of% @abJ∧type_of% bL∧type_of% @adP:=⟨@abA,@abB,@abJ,bL,@adP⟩
end Lp
namespace Lp
open Go
open List (append_nil mem_append)
def Rd (P:Program) (t:TypeId){α:Type}(enc:α→PV) (good:α→Prop):Prop:=
 ∀ {H:Type}(eh:TypeId×Value→H) (w:World) (fuel:Nat) (cs:List Value) (x:DataW H×List MemPlace),DataW.trod eh P w 0 (fun _=>true) true fuel t cs=some x→
  (∀ n ∈ DataW.weights P t x.1,n≤reachBytes)→∃ a:α,good a∧dh (dB w (fun _=>True)) (enc a).cells cs
variable {P:Program}
theorem sN {R:PV→Value→Prop}{p:PV}{v:Value}(h:R p v):dh R [p] [v]:=
 ⟨rfl,fun i q u h1 h2=>by
  cases i with
  | zero=>simp at h1 h2;subst h1;subst h2;exact h
  | succ i=>simp at h1⟩
theorem Rd.int {t:TypeId}{k:IntKind}(ht:P.underlying t=some (.int k)):Rd P t (.int k) (Iy k):=by
 intro H eh w fuel cs x h _
 obtain ⟨n,rfl,rfl,hw⟩:=DataW.trod_int ht h
 refine ⟨n,?_,sN (.int k n)⟩
 simp only [Lit.wf,Bool.and_eq_true,decide_eq_true_eq] at hw
 cases k <;> simp only [IntKind.min,IntKind.max,IntKind.signed,IntKind.bits,Iy] at hw ⊢ <;> first | exact ⟨by simpa using hw.1,by simpa using hw.2⟩ | (simp at hw;omega)
theorem Rd.bool {t:TypeId}(ht:P.underlying t=some .bool):Rd P t PV.bool (fun _=>True):=by
 intro H eh w fuel cs x h _
 obtain ⟨b,rfl,rfl⟩:=DataW.trod_bool ht h
 exact ⟨b,trivial,sN (.bool b)⟩
theorem Rd.str {t:TypeId}(ht:P.underlying t=some .string):Rd P t PV.str (fun s=>s.length≤reachBytes):=by
 intro H eh w fuel cs x h hw
 obtain ⟨s,rfl,rfl,_⟩:=DataW.trod_string ht h
 refine ⟨s.data.toList,hw _ ?_,sN (KQ w _ s)⟩
 rw [DataW.weights];simp
theorem Rd.slice {t e:TypeId}{α:Type} [Inhabited α] {enc:α→PV}{good:α→Prop}{sz:Nat}(ht:P.underlying t=some (.slice e)) (he:Rd P e enc good) (hsz:P.cellsOf e=sz) (hpos:sz≠0) (hc:∀ a,(enc a).cells.length=sz) :
  Rd P t (fun l:List α=>.sl sz (l.map enc) none) (fun l=>l.length*P.bytesOf e≤reachBytes∧∀ a ∈ l,good a):=by
 intro H eh w fuel cs x h hw
 rcases Go.Deep.open_slice ht h with ⟨rfl,rfl⟩ | ⟨a,len,cap,m,n,D,Pl,rfl,hb,hl,hm,hmm,rfl,hx⟩
 · exact ⟨[],by simp,sN (.slnil _ _ (by simp))⟩
 · simp only [if_true] at hmm
   subst hmm
   have hwt:∀ i,i<len→∀ n ∈ DataW.weights P e (D i),n≤reachBytes:=by
    intro i hi n hn
    refine hw n ?_
    rw [DataW.weights,ht]
    simp only [List.mem_cons,mem_append]
    right;left
    have key:∀ (l:List (DataW H)) d,d ∈ l→n ∈ DataW.weights P e d→n ∈ DataW.weightsAll P e l:=by
     intro l
     induction l with
     | nil=>intro d hd;cases hd
     | cons y ys ih=>
      intro d hd hn
      rw [DataW.weightsAll,mem_append]
      rcases List.mem_cons.1 hd with rfl | hd
      · exact .inl hn
      · exact .inr (ih d hd hn)
    exact key _ (D i) (List.mem_map.2 ⟨i,List.mem_range.2 hi,rfl⟩) hn
   have hlen:(len:Nat)*P.bytesOf e≤reachBytes:=by
    have:=hw ((((List.range len).map D).length+((List.range (m-len)).map fun j=>D (len+j)).length)*P.bytesOf e) (by rw [DataW.weights,ht];exact List.mem_cons_self)
    simp only [List.length_map,List.length_range] at this
    exact Nat.le_trans (Nat.mul_le_mul_right _ (by omega)) this
   obtain ⟨f,hf⟩:∃ f:Nat→α×List Value,∀ i,i<len→good (f i).1∧w.cells? 0 (a.add (i*P.cellsOf e)) (P.cellsOf e)=some (f i).2∧dh (dB w (fun _=>True)) (enc (f i).1).cells (f i).2:=by
    have hex:∀ i,i<len→∃ y:α×List Value,good y.1∧w.cells? 0 (a.add (i*P.cellsOf e)) (P.cellsOf e)=some y.2∧dh (dB w (fun _=>True)) (enc y.1).cells y.2:=by
     intro i hi
     obtain ⟨cs',h1,h2⟩:=hx i (by omega)
     obtain ⟨y,g1,g2⟩:=he eh w n cs' _ h2 (hwt i hi)
     exact ⟨(y,cs'),g1,h1,g2⟩
    exact Go.Deep.choose_lt hex
   rcases Nat.eq_zero_or_pos len with h0 | h0
   · subst h0
     exact ⟨[],by simp,sN (.JS _ _ (by simp) a m hm)⟩
   have hspot:a.spot=none:=by
    obtain ⟨_,h2,h3⟩:=hf 0 h0
    obtain ⟨_,g1,g2⟩:=World.cells?_some h2
    have:=g2 0 (by omega)
    rw [List.getElem?_eq_getElem (by omega)] at this
    have:=World.cell?_spot this
    simpa [Addr.add] using this
   obtain ⟨b,off,spot⟩:=a
   simp only at hspot
   subst hspot
   have hcells:∀ i,i<len→∀ j,j<sz→w.cell? ⟨b,off+i*sz+j,none⟩=(f i).2[j]?:=by
    intro i hi j hj
    obtain ⟨_,h2,_⟩:=hf i hi
    obtain ⟨_,_,g2⟩:=World.cells?_some h2
    have:=g2 j (by omega)
    rw [hsz,add_lit,add_lit] at this
    exact this
   have hget:∀ (i:Nat) (x:PV),(((List.range len).map fun i=>(f i).1).map enc)[i]?=some x→i<len∧x=enc (f i).1:=by
    intro i x hx
    have hi:i<len:=by
     have:=(List.getElem?_eq_some_iff.1 hx).1
     simpa using this
    rw [List.getElem?_map,List.getElem?_map,List.getElem?_range hi] at hx
    simp only [Option.map_some,Option.some.injEq] at hx
    exact ⟨hi,hx.symm⟩
   have hL:(((List.range len).map fun i=>(f i).1).map enc).length=len:=by simp
   refine ⟨(List.range len).map fun i=>(f i).1,⟨by simpa using hlen,fun y hy=>?_⟩,sN ?_⟩
   · obtain ⟨i,hi,rfl⟩:=List.mem_map.1 hy
     exact (hf i (List.mem_range.1 hi)).1
   · have:dB w (fun _=>True) (.sl sz (((List.range len).map fun i=>(f i).1).map enc) none) (.slice (some ⟨b,off,none⟩) (((List.range len).map fun i=>(f i).1).map enc).length m):=by
      refine .sl sz _ none (by simp) b off m (fun i j=>(f i).2.getD j undef) (fun _=>⟨trivial,?_⟩) (by rw [hL];exact hl) hm (fun i x hx=>?_) (fun i x j p hx hp=>?_) (fun i x j p hx hp=>?_)
      · have:=hcells 0 h0 0 (by omega)
        obtain ⟨_,h2,_⟩:=hf 0 h0
        obtain ⟨_,g1,_⟩:=World.cells?_some h2
        rw [List.getElem?_eq_getElem (by omega)] at this
        unfold World.cell? at this
        simp only at this
        cases hb':w.heap[b]? with
        | none=>rw [hb'] at this;simp at this
        | some o=>exact (Array.getElem?_eq_some_iff.1 hb').1
      · obtain ⟨_,rfl⟩:=hget i x hx
        exact hc _
      · obtain ⟨hi,rfl⟩:=hget i x hx
        have hj:j<sz:=by rw [← hc (f i).1];exact (List.getElem?_eq_some_iff.1 hp).1
        rw [hcells i hi j hj]
        obtain ⟨_,h2,_⟩:=hf i hi
        obtain ⟨_,g1,_⟩:=World.cells?_some h2
        rw [List.getD_eq_getElem?_getD,List.getElem?_eq_getElem (by omega)]
        rfl
      · obtain ⟨hi,rfl⟩:=hget i x hx
        have hj:j<sz:=by rw [← hc (f i).1];exact (List.getElem?_eq_some_iff.1 hp).1
        obtain ⟨_,h2,h3⟩:=hf i hi
        obtain ⟨_,g1,_⟩:=World.cells?_some h2
        exact h3.2 j p _ hp (by rw [List.getD_eq_getElem?_getD,List.getElem?_eq_getElem (by omega)];rfl)
     rw [hL] at this
     exact this
theorem vH {H:Type}{n:Nat}:∀ (ts:List TypeId) (ds:List (DataW H)) (i:Nat) (t:TypeId) (d:DataW H),ts[i]?=some t→ds[i]?=some d→n ∈ DataW.weights P t d→n ∈ DataW.weightsEach P ts ds
 | [],_,i,t,d,h,_,_=>by simp at h
 | _::_,[],i,t,d,_,h,_=>by simp at h
 | t'::ts,d'::ds,i,t,d,h1,h2,hn=>by
  rw [DataW.weightsEach,mem_append]
  cases i with
  | zero=>simp at h1 h2;subst h1;subst h2;exact .inl hn
  | succ i=>exact .inr (vH ts ds i t d (by simpa using h1) (by simpa using h2) hn)
theorem Bj {H:Type}{eh:TypeId×Value→H}{w:World}{fuel:Nat}{t:TypeId}{fs:Array Field}{cs:List Value}{x:DataW H×List MemPlace}(ht:P.underlying t=some (.struct fs))
  (h:DataW.trod eh P w 0 (fun _=>true) true fuel t cs=some x) (hw:∀ n ∈ DataW.weights P t x.1,n≤reachBytes) :
  cs.length=P.cellsOf t∧∀ (i off:Nat) (e:TypeId),(fs.toList.map fun f=>(f.offset,f.type))[i]?=some (off,e)→∃ n y,DataW.trod eh P w 0 (fun _=>true) true n e ((cs.drop off).take (P.cellsOf e))=some y∧(∀ m ∈ DataW.weights P e y.1,m≤reachBytes):=by
 obtain ⟨xs,n,_,rfl,hl,hlen,hf⟩:=DataW.trod_struct ht h
 refine ⟨hl,fun i off e he=>?_⟩
 rw [List.getElem?_map] at he
 cases hfi:fs.toList[i]? with
 | none=>rw [hfi] at he;simp at he
 | some f=>
  rw [hfi] at he
  simp only [Option.map_some,Option.some.injEq,Prod.mk.injEq] at he
  obtain ⟨rfl,rfl⟩:=he
  have adS:fs[i]?=some f:=by simpa using hfi
  have hi:i<xs.length:=by rw [hlen];exact (Array.getElem?_eq_some_iff.1 adS).1
  have h1:=hf i f adS
  rw [List.getElem?_eq_getElem hi] at h1
  refine ⟨n,xs[i],h1,fun m hm=>hw m ?_⟩
  rw [DataW.weights,ht]
  exact vH _ _ i f.type xs[i].1 (by rw [List.getElem?_map,hfi];rfl) (by rw [List.getElem?_map,List.getElem?_eq_getElem hi];rfl) hm
theorem y_ {H:Type}{eh:TypeId×Value→H}(hl:laidOutB P=true){W W':World}(hb:∀ b,b<W.heap.size→W'.heap[b]?=W.heap[b]?) :
  ∀ (ts:List TypeId) (vs:List Value) (ds:List (DataW H)) (ps:List MemPlace),(∀ t ∈ ts,P.readableRec t=true∧t<P.types.size)→DataW.TrodAll eh P W 0 (fun _=>true) true ts vs ds ps→
   DataW.TrodAll eh P W' 0 (fun b=>decide (b<W.heap.size)) true ts vs ds ps
 | [],[],[],ps,_,h=>h
 | t::ts,v::vs,d::ds,ps,hr,⟨p,q,h1,h2,h3⟩=>by
  have hlt:∀ x ∈ p,x.block<W.heap.size:=by obtain ⟨m,hm⟩:=h1;exact DataW.trod_lt m _ _ _ hm
  refine ⟨p,q,Go.WideElems.Trod_stays hl (hr t (by simp)).1 (hr t (by simp)).2 h1 (fun x hx=>?_) (fun x hx=>by simpa using hlt x hx),y_ hl hb ts vs ds q (fun t ht=>hr t (by simp [ht])) h2,h3⟩
  cases x with
  | cell b o=>exact World.cell?_of_block (w:=W) (hb b (hlt _ hx))
  | map b=>exact hb b (hlt _ hx)
 | [],_::_,_,_,_,h=>h.elim
 | [],[],_::_,_,_,h=>h.elim
 | _::_,[],_,_,_,h=>h.elim
 | _::_,_::_,[],_,_,h=>h.elim
theorem YG {C:Checked}{H:Type}{enc:TypeId×Value→H}{f:FuncId}{fn:Func}{s:ChangeSpec}{tb:TypeId}
  (hlaid:laidOutB C.prog=true) (hr:∀ t ∈ fn.params.toList,C.prog.readableRec t=true∧t<C.prog.types.size)
  (hres:fn.resultTypes.toList=[tb]) (hsz:fn.resultTypes.size=1) (hb:C.prog.underlying tb=some .bool)
  (hvars:s.vars=[]) (hpl:s.plain.varTypes C.prog=[]) (hs:∀ ds:List (DataW H),ds.length=fn.params.toList.length→s.fn H ds={ results:=[.lit (.bool true)],args:=ds })
  (hread:∀ (W:World) (base:Nat) (args:List Value) (ds:List (DataW H)) (ps:List MemPlace),(∀ (j:Nat) t v,fn.params[j]?=some t→args[j]?=some v→Value.okWide C.prog W .any base t v)→DataW.TrodAll enc C.prog W 0 (fun _=>true) true fn.params.toList args ds ps→(∀ n ∈ DataW.weightsEach C.prog fn.params.toList ds,n≤reachBytes)→
   ∃ pvs,dh (dB W (fun _=>True)) pvs args∧ai C.prog f pvs [] (.bool true) [])
  {W:World}{base:Nat}{args:Array Value}{ds gs:List (DataW H)}{before:List MemPlace}(hg:rD.holds W.heap)
  (hval:∀ (j:Nat) t v,fn.params[j]?=some t→args[j]?=some v→Value.okWide C.prog W .any base t v) (hW:DataW.Whole enc C.prog fn.params.toList s.vars false W args.toList ds gs before)
  (hsize:(DataW.weightsEach C.prog (fn.params.toList++s.plain.varTypes C.prog) (ds++gs)).all (·≤reachBytes)=true) :
  Calls C.prog f args W fun e W'=>∃ v,e=.returned v∧s.post enc C.prog fn false true false false W args v W':=by
 have hW':=hW
 obtain ⟨p,q,hA,hV,rfl,hfz,hnd⟩:=hW
 rw [hvars] at hV
 obtain ⟨rfl,rfl⟩:=Go.ChangeShapes.trodVars_none hV
 have hlen:ds.length=fn.params.toList.length:=by
  have:∀ (ts:List TypeId) (vs:List Value) (ds:List (DataW H)) (ps:List MemPlace),DataW.TrodAll enc C.prog W 0 (fun _=>true) true ts vs ds ps→ds.length=ts.length:=by
   intro ts
   induction ts with
   | nil=>intro vs ds ps h;cases vs <;> cases ds <;> simp [DataW.TrodAll] at h ⊢
   | cons t ts ih=>
    intro vs ds ps h
    cases vs <;> cases ds <;> simp [DataW.TrodAll] at h ⊢
    obtain ⟨_,_,_,h2,_⟩:=h
    exact ih _ _ _ h2
  exact this _ _ _ _ hA
 rw [hpl,append_nil,append_nil,List.all_eq_true] at hsize
 obtain ⟨pvs,hrep,hspec⟩:=hread W base args.toList ds p (fun j t v h1 h2=>hval j t v h1 (by simpa using h2)) hA (fun n hn=>by simpa using hsize n hn)
 have hargs:dh (aV W (bQ (fun _=>True) [] (fun _=>none)) [] (fun _=>none)) pvs args.toList:=
  ⟨hrep.1,fun i p v a b=>.aJ ((hrep.2 i p v a b).oZ fun _ _ _=>⟨trivial,dP _ _⟩)⟩
 have hc:=hspec.2 W (fun _=>none) args.toList (fun _=>True) ⟨hg,fun _ _=>trivial⟩ (uG _ _ _ _) hargs
 refine Calls.mono hc fun e W' ⟨v,au,he,_,hv,hheap,hsize',hsm⟩=>?_
 subst he
 have hv':=hv.bool
 subst hv'
 have hkeep:∀ b,b<W.heap.size→W'.heap[b]?=W.heap[b]?:=fun b hb=>hheap b hb (dP _ _)
 refine ⟨_,rfl,ds,[],p++[],[],p,[],hW',?_,?_,?_,?_,fun h=>by cases h⟩
 · rw [append_nil,hs ds hlen,hres,hsz]
   exact Go.ChangeShapes.trodAll_mk1 (Go.RowKit.shut_bool hb true)
 · rw [append_nil,hs ds hlen]
   exact y_ hlaid hkeep _ _ _ _ hr hA
 · rw [hvars,append_nil,hs ds hlen];rfl
 · refine ⟨hsm.1,hsm.2,fun i hi=>?_⟩
   rw [hkeep i hi]
   split <;> simp_all
theorem abK {C:Checked}{os:Os}{H:Type}{enc:TypeId×Value→H}{f:FuncId}{fn:Func}{s:ChangeSpec}{tb:TypeId}{dom:List PathCond}{laid:List (String×DataW Unit)}
  (own:ownKnob C.prog.godebug=none) (started:os.Started) (noInit:C.prog.inits.idxOf? f=none) (hfn:C.prog.funcs[f]?=some fn)
  (witness:∃ (w:World) (tape:Tape) (i:Input),w.os=os∧(w.forCall tape i).Shaped C.prog∧i.vars=[]∧Input.okWide C.prog (w.forCall tape i) .any w.heap.size f i∧
   (OpenSpec.ofChange s).preRow enc C.prog fn dom false laid (w.forCall tape i).memory i.args∧({}:Assume).holds C.prog (lone (Frame.enter C.prog f i.args .normal) [] (w.forCall tape i)))
  (hlaid:laidOutB C.prog=true) (hr:∀ t ∈ fn.params.toList,C.prog.readableRec t=true∧t<C.prog.types.size)
  (hres:fn.resultTypes.toList=[tb]) (hsz:fn.resultTypes.size=1) (hb:C.prog.underlying tb=some .bool)
  (hvars:s.vars=[]) (hpl:s.plain.varTypes C.prog=[]) (hs:∀ ds:List (DataW H),ds.length=fn.params.toList.length→s.fn H ds={ results:=[.lit (.bool true)],args:=ds })
  (hread:∀ (W:World) (base:Nat) (args:List Value) (ds:List (DataW H)) (ps:List MemPlace),(∀ (j:Nat) t v,fn.params[j]?=some t→args[j]?=some v→Value.okWide C.prog W .any base t v)→DataW.TrodAll enc C.prog W 0 (fun _=>true) true fn.params.toList args ds ps→(∀ n ∈ DataW.weightsEach C.prog fn.params.toList ds,n≤reachBytes)→
   ∃ pvs,dh (dB W (fun _=>True)) pvs args∧ai C.prog f pvs [] (.bool true) [])
  (hg:∀ W:World,laidMetH C.prog laid W→rD.holds W.heap) :
  ReturnsInHanded {} C os f .any ((OpenSpec.ofChange s).preRow enc C.prog fn dom false laid) (s.post enc C.prog fn false true false false):=by
 refine returnsInHanded_of_row (C:=C) (s:=OpenSpec.ofChange s) (F:=fun _ _=>default) own started noInit hfn witness ?_
 intro W base args ds gs before hval hW _ _ hsize hL _ _
 exact YG hlaid hr hres hsz hb hvars hpl hs hread (hg W hL) hval hW hsize
end Lp
namespace Lp
open Go
variable {P:Program}{D:TypeId→aD}{T:Know}
def adT (n:Nat):Env:=fun _ _ V=>∀ w0,V w0→w0.nx≤n
def adU (t:Nat) (r:PV) (objs':List Obj) (e:Exit) (S:St):Prop:=
 (e=.normal∨e=.ret)∧S.tmps.getD t .dead=r∧S.objs=objs'
theorem Ud.Fp {f:FuncId}{fn:Func}{c:Code}{C:LC}{args:List PV}{r:PV}{objs objs':List Obj}{t n:Nat}(hD:∀ t,iK P t (D t)) (hT:Fj P none (adT objs.length) T) (hm:P.follows .mixedOrders=true)
  (hf:P.funcs[f]?=some fn) (hname:(fn.name== "runtime.NumGoroutine")=false) (hb:fn.body=some c) (hn:fn.ntmps=n) (hr:fn.results=#[.tmp t]) (hC:strip C=comp c) (hlen:objs'.length=objs.length)
  (h:kS P D T C (adU t r objs') ⟨(bU args n).tmps,objs⟩):Ud P f args objs r objs':=by
 refine ⟨⟨fn,hf,hname,by rw [hb];rfl⟩,hlen,fun base ak w0 tmps blk a w vs R hargs=>?_⟩
 have hpw:PW P none (adT objs.length) c (adU t r objs') ⟨(bU args n).tmps,objs⟩:=pV hD hm C _ _ _ c _ _ hT hC h
 have hpp:∀ b,ak b→b<w.heap.size∧aW objs blk b:=fun b hb=>⟨Nat.lt_of_lt_of_le (R.pr b hb) R.gr,fun k o h1 h2 h3=>R.objs.np k o b h1 h2 h3 hb⟩
 have hz:∀ x ∈ tmps.zip a.tmps.toList,aV w (bQ base objs blk) objs blk x.1 x.2:=by
  intro x hx
  obtain ⟨i,hi,rfl⟩:=List.mem_iff_getElem.1 hx
  have hi':i<tmps.length∧i<a.tmps.toList.length:=by
   rw [List.length_zip] at hi
   omega
  rw [List.getElem_zip]
  have:=R.tm i tmps[i] (List.getElem?_eq_getElem hi'.1)
  have e:a.tmps.getD i undef=a.tmps.toList[i]:=by
   rw [Array.getD_eq_getD_getElem?,Array.getElem?_eq_getElem (by simpa using hi'.2)];simp
  rw [e] at this
  exact this
 have R2:Rel base (fun b=>b<w.heap.size∧aW objs blk b) ⟨w.heap,tmps.zip a.tmps.toList++w0.xs,objs.length,w⟩ ⟨(bU args n).tmps,objs⟩ blk { tmps:=(⟨vs⟩:Array Value)++Array.replicate (n-(⟨vs⟩:Array Value).size) undef,defers:=[] } w:=by
  have hl:=hargs.1
  have hext:∀ x ∈ tmps.zip a.tmps.toList++w0.xs,aV w (bQ base objs blk) objs blk x.1 x.2:=fun x hx=>by
   rcases List.mem_append.1 hx with hx | hx
   · exact hz x hx
   · exact R.ext x hx
  refine ⟨.nil _ _,?_,fun t p hp=>?_,⟨R.objs.ob,R.objs.Iw,fun k o g h1 h2 h3 hp=>hp.2 k o h1 h2 h3⟩,fun b hb=>hb.1,fun _ _=>rfl,Nat.le_refl _,fun b hn=>?_,hext,fun x hx=>Fg (hext x hx),.refl w,⟨R.nG,fun b hb=>hpp b (R.gl.2 b hb)⟩⟩
  · simp [bU,hl]
  · simp only [bU] at hp
    rw [List.getElem?_append] at hp
    split at hp
    · rename_i ht
      obtain ⟨v,hv⟩:∃ v,vs[t]?=some v:=⟨vs[t]'(by omega),List.getElem?_eq_getElem (by omega)⟩
      have hg:((⟨vs⟩:Array Value)++Array.replicate (n-(⟨vs⟩:Array Value).size) undef).getD t undef=v:=by
       rw [Array.getD_eq_getD_getElem?,Array.getElem?_append,if_pos (by simpa using (by omega:t<vs.length))]
       simp [hv]
      rw [hg]
      exact hargs.2 t p v hp hv
    · rw [List.getElem?_replicate] at hp
      split at hp
      · cases hp;exact .dead _
      · cases hp
  · rcases Nat.lt_or_ge b w.heap.size with h1 | h1
    · refine R.pb b fun hp=>hn (hpp b hp)
    · exact R.bs b (Nat.le_trans R.gr h1)
 have hw:=hpw base _ (fun x=>(⟨w.heap,tmps.zip a.tmps.toList++w0.xs,objs.length,w⟩:Wz)=x) (by rintro z rfl;exact Nat.le_refl _) _ _ _ ⟨_,rfl,R2⟩
 rw [← callsIn_wide (n:=0)]
 refine callsIn_of_wp_marks hf hb trivial ?_
 rw [hn]
 refine wpIn_mono hw ?_
 rintro e a' w' ⟨S',au,⟨he,ho,oM⟩,_,rfl,R'⟩
 have key:∀ w',Rel base (fun b=>b<w.heap.size∧aW objs blk b) ⟨w.heap,tmps.zip a.tmps.toList++w0.xs,objs.length,w⟩ S' au { a' with defers:=[] } w'→
     ∃ v,(results fn a'.tmps).run P w'=.ok v w'∧(∃ v' au,Ending.returned v=.returned v'∧Rel base ak w0 ⟨tmps,objs'⟩ au a w'∧aV w' (bQ base objs' au) objs' au r v'):=by
  intro w' R'
  have hx:=R'.ev (.tmp t)
  change aV w' _ _ au (S'.tmps.getD t .dead) (a'.tmps.getD t undef) at hx
  rw [ho,oM] at hx
  refine ⟨_,results_tmp hr _ _ _,_,au,rfl,?_,hx⟩
  have hpr:∀ b,b<w.heap.size∧aW objs blk b→w'.heap[b]?=w.heap[b]?:=fun b hb=>R'.fr b hb
  obtain ⟨Ds,e1,e2,e3⟩:=R.ou
  have ob:=R'.objs
  have ex:=R'.ext
  rw [oM] at ob ex
  refine ⟨⟨Ds,e1,e2,fun b hb=>?_⟩,R.CR,fun t p hp=>?_,⟨ob.ob,ob.Iw,fun k o g h1 h2 h3 hp=>ob.np k o g h1 h2 h3 (hpp g hp)⟩,R.pr,fun b hb=>?_,Nat.le_trans R.gr R'.gr,R.pb,fun x hx=>ex x (List.mem_append_right _ hx),R.JV,R.sm.trans R'.sm,R.gl⟩
  · obtain ⟨h1,h2,h3⟩:=e3 b hb
    have hpb:b<w.heap.size∧aW objs blk b:=⟨(Array.getElem?_eq_some_iff.1 h1).1,h2.2⟩
    exact ⟨by rw [hpr b hpb];exact h1,⟨h2.1,fun k o g1 g2 g3=>ob.np k o b g1 g2 g3 hpb⟩,h3⟩
  · refine ex (p,a.tmps.getD t undef) (List.mem_append_left _ ?_)
    have hlt:t<tmps.length:=(List.getElem?_eq_some_iff.1 hp).1
    have htz:t<a.tmps.size:=by rw [R.CR];exact hlt
    refine List.mem_iff_getElem.2 ⟨t,by rw [List.length_zip,Array.length_toList];exact Nat.lt_min.2 ⟨hlt,htz⟩,?_⟩
    rw [List.getElem_zip]
    have e:a.tmps.getD t undef=a.tmps.toList[t]'(by simpa using htz):=by
     rw [Array.getD_eq_getD_getElem?,Array.getElem?_eq_getElem htz];simp
    rw [e,(List.getElem?_eq_some_iff.1 hp).2]
  · rw [hpr b (hpp b hb)];exact R.fr b hb
 rcases he with rfl | rfl <;> exact nN _ _ R' key
end Lp
namespace Lp
open Go
variable {P:Program}{D:TypeId→aD}{T:Know}
def nC (p q:PV):Prop:=∀ (w:World) (ok:Nat→Prop) (v:Value),dB w ok p v→dB w ok q v
theorem nC.refl (p:PV):nC p p:=fun _ _ _ h=>h
theorem sO (sz sz':Nat):nC (.sl sz [] (some true)) (.sl sz' [] none):=by
 intro w ok v h
 cases h with
 | slnil _ _ _=>exact .slnil sz' none (by decide)
 | JS _ _ hq=>exact absurd rfl hq
 | sl _ _ _ hq=>exact absurd rfl hq
theorem nC.agg {ps qs:List PV}(hl:ps.length=qs.length) (h:∀ (i:Nat) (p q:PV),ps[i]?=some p→qs[i]?=some q→nC p q):nC (.agg ps) (.agg qs):=by
 intro w ok v hr
 cases hr with
 | agg _ vs hl' hh=>
  refine .agg _ _ (by omega) fun i q u hq hu=>?_
  have hi:i<ps.length:=by rw [hl];exact (List.getElem?_eq_some_iff.1 hq).1
  exact h i _ q (List.getElem?_eq_getElem hi) hq w ok u (hh i _ u (List.getElem?_eq_getElem hi) hu)
theorem nC.bZ {ps qs:List PV}(hl:ps.length=qs.length) (h:∀ (i:Nat) (p q:PV),ps[i]?=some p→qs[i]?=some q→nC p q):nC (.bZ ps) (.bZ qs):=by
 intro w ok v hr
 cases hr with
 | bZ _ vs hl' hh=>
  refine .bZ _ _ (by omega) fun i q u hq hu=>?_
  have hi:i<ps.length:=by rw [hl];exact (List.getElem?_eq_some_iff.1 hq).1
  exact h i _ q (List.getElem?_eq_getElem hi) hq w ok u (hh i _ u (List.getElem?_eq_getElem hi) hu)
theorem acJ {f:List PV→PV}(hf:f=PV.agg∨f=PV.bZ){a b c d:PV}(h1:nC a c) (h2:nC b d):nC (f [a,b]) (f [c,d]):=by
 have key:∀ (i:Nat) (p q:PV),[a,b][i]?=some p→[c,d][i]?=some q→nC p q:=by
  intro i p q hp hq
  match i with
  | 0=>cases hp;cases hq;exact h1
  | 1=>cases hp;cases hq;exact h2
  | _+2=>simp at hp
 rcases hf with rfl | rfl
 · exact .agg rfl key
 · exact .bZ rfl key
theorem ai.res {f:FuncId}{args:List PV}{objs:List Obj}{r r':PV}(h:ai P f args objs r []) (ht:nC r r'):ai P f args objs r' []:=by
 refine ⟨h.1,fun w blk vs base hb R ha=>(h.2 w blk vs base hb R ha).mono ?_⟩
 rintro e w' ⟨v,au,h1,h2,h3,h4⟩
 exact ⟨v,au,h1,h2,.aJ (ht _ _ _ (wF h3)),h4⟩
theorem ai.arg {f:FuncId}{args args':List PV}{r:PV}{objs':List Obj}(h:ai P f args [] r objs') (hl:args'.length=args.length) (ht:∀ (i:Nat) (p q:PV),args'[i]?=some p→args[i]?=some q→nC p q):ai P f args' [] r objs':=by
 refine ⟨h.1,fun w blk vs base hb R ha=>h.2 w blk vs base hb R ⟨by rw [← hl];exact ha.1,fun i q v hq hv=>?_⟩⟩
 have hi:i<args'.length:=by rw [hl];exact (List.getElem?_eq_some_iff.1 hq).1
 exact .aJ (ht i _ q (List.getElem?_eq_getElem hi) hq _ _ _ (wF (ha.2 i _ v (List.getElem?_eq_getElem hi) hv)))
theorem aP.acK {f:FuncId}{n t u:Nat}{ty:TypeId}{C:LC}{args:List PV}{r:PV}(h:aP P f n [.cell t ty,.tmp u] C) (d:Nat) (hD:∀ t,iK P t (D t)) (hT:Fj P none rJ T) (hm:P.follows .mixedOrders=true) (ht:t<n) (hu:u<n)
  (hw:∀ Q:Exit→St→Prop,(∀ l ob,Q .ret ⟨dH n l,ob⟩=fw (D ty) (l6 l t) ob fun p _ _=>r=.bZ [gJ d 0 ob p,gJ d 0 ob (l6 l u)])→kS P D T C Q (bU args n)):ai P f args [] r []:=by
 refine h.pure d hD hT hm (by simp) (hw _ fun l ob=>?_)
 simp only [m_,jF,rM.2.1 n l t ht,rM.2.1 n l u hu,List.map_cons,List.map_nil,fC]
structure adV (d t:Nat) (o':Obj) (S:St):Prop where
 h:Ro d t o' .ret S
theorem acL {d t n:Nat}{o':Obj}{l:List (Nat×PV)}{ob:List Obj}{k ver:Nat}{o:Obj}(h1:(dH n l).getD t .dead=.bG k ver) (h2:ob[k]?=some o) (h3:o.live=true) (h4:o.ver=ver) (h5:{ fB d (k+1) ob o with ver:=0 }=o') (h6:eX [o']):adV d t o' ⟨dH n l,ob⟩:=
 ⟨.inr rfl,_,k,ver,o,Weak.refl _ _,h1,h2,h3,h4,h5,h6⟩
theorem aP.abL {f:FuncId}{n t:Nat}{C:LC}{args:List PV}{o':Obj}(h:aP P f n [.tmp t] C) (d:Nat) (hD:∀ t,iK P t (D t)) (hT:Fj P none rJ T) (hm:P.follows .mixedOrders=true)
  (hw:∀ Q:Exit→St→Prop,(∀ l ob,Q .ret ⟨dH n l,ob⟩=adV d t o' ⟨dH n l,ob⟩)→kS P D T C Q (bU args n)):ai P f args [] (.bG 0 0) [o']:=
 h.made d hD hT hm (hw _ fun l ob=>propext ⟨fun h=>⟨h⟩,fun h=>h.h⟩)
structure afz (D:TypeId→aD) (d:Nat) (rs:List ResultVar) (qs:List PV) (o':Obj) (S:St):Prop where
 h:aaA D d rs qs o' .ret S
theorem VU {base ak:Nat→Prop}{w':World}{au:Nat→Option Nat}{o:Obj}{v:Value}(h2:dF base ak [o] au w') (h3:bD w' (bQ base [o] au) [o] au (.bG 0 0) v) (hb:∀ b,¬ ak b→base b) (hl:o.live=true) (hv:o.ver=0) (hn:eX [o]) :
  dB w' (bQ base [] au) (.sl o.sz o.xs none) v:=by
 obtain ⟨_,o1,g1,_,g3⟩:=h3
 cases g1
 obtain ⟨hM,hh⟩:=g3 hl hv
 have ho:=h2.ob 0 o rfl hl
 unfold yx at hh
 unfold cB at ho
 cases hg:au 0 with
 | none=>rw [hg] at hh;rw [hh.1,hh.2];exact .slnil _ _ (by decide)
 | some g=>
  rw [hg] at hh ho
  obtain ⟨cap,c,rfl,x1,x2,x3,x4⟩:=hh
  obtain ⟨c',y1,y2,y3⟩:=ho
  rw [lu hM] at y1
  rw [x1] at y1;cases y1
  have hgb:base g:=hb g (h2.np 0 o g rfl hl hg)
  refine .sl o.sz o.xs none (by decide) g 0 cap (fun i j=>(c[i*o.sz+j]?).getD undef) (fun _=>⟨⟨hgb,dP _ _⟩,(Array.getElem?_eq_some_iff.1 x1).1⟩) x2 x3 (fun i x hx=>(y3 i x hx).1) ?_ ?_
  · intro i x j p hx hp
    obtain ⟨u,u1,_⟩:=(y3 i x hx).2 j p hp
    simp [World.cell?,x1,u1]
  · intro i x j p hx hp
    obtain ⟨u,u1,u2⟩:=(y3 i x hx).2 j p hp
    rw [u1,Option.getD_some]
    exact (u2.Ao (hn o (by simp) x (List.mem_of_getElem? hx) p (List.mem_of_getElem? hp))).oZ fun b _ hb=>⟨hb.1,dP _ _⟩
theorem YH {base:Nat→Prop}{w:World}{blk:Nat→Option Nat}(hb:rD.holds w.heap∧∀ b,w.heap.size≤b→base b) (b:Nat) (h:¬ (b<w.heap.size∧aW [] blk b)):base b:=
 hb.2 b (Nat.not_lt.1 fun q=>h ⟨q,dP _ _⟩)
theorem ai.froze {f:FuncId}{args:List PV}{o:Obj}(h:ai P f args [] (.bG 0 0) [o]) (hl:o.live=true) (hv:o.ver=0) (hn:eX [o]):ai P f args [] (.sl o.sz o.xs none) []:=by
 refine ⟨h.1,fun w blk vs base hb R ha=>(h.2 w blk vs base hb R ha).mono ?_⟩
 rintro e w' ⟨v,au,h1,h2,h3,h4⟩
 exact ⟨v,au,h1,uG _ _ _ _,.aJ (VU h2 h3 (YH hb) hl hv hn),h4⟩
@[congr] theorem abM {s t:TypeId}{x x':PV}{objs objs':List Obj}{K:KT}(h:x=x') (ho:objs=objs'):j6 D s t x objs K=j6 D s t x' objs' K:=by rw [h,ho]
@[congr] theorem VW {x x':PV}{objs objs':List Obj}{K:KT}(h:x=x') (ho:objs=objs'):dJ x objs K=dJ x' objs' K:=by rw [h,ho]
end Lp
namespace Lp
open Go Go.Proofs
def bX (a:iA):PV:=.agg [.int .i64 a.n,.int .i64 a.c.kind,.int .i64 a.c.many,.str a.c.name,.str a.c.s,.bool a.c.neg,.int .i64 a.c.e]
def bC (l:List iA):PV:=.sl 7 (l.map bX) none
theorem hA:∀ l,bC l=.sl 7 (l.map bX) none:=fun _=>rfl
theorem wR:∀ a b,bX a=bX b→a=b:=by
 intro a b h
 obtain ⟨an,⟨a1,a2,a3,a4,a5,a6⟩⟩:=a
 obtain ⟨bn,⟨b1,b2,b3,b4,b5,b6⟩⟩:=b
 simp only [bX,PV.agg.injEq,List.cons.injEq,PV.int.injEq,PV.str.injEq,PV.bool.injEq,true_and,and_true] at h
 obtain ⟨rfl,rfl,rfl,rfl,rfl,rfl,rfl⟩:=h
 rfl
theorem xM:∀ a b,bC a=bC b→a=b:=nT hA wR
theorem abN (objs:List Obj) (K:KT) :
  (∀ a,aL D 29 (.addr (bX a)) 0 objs K=K (.addr (.int .i64 a.n)) objs 0)∧
  (∀ a,aL D 29 (.addr (bX a)) 1 objs K=K (.addr (aA a.c)) objs 0):=by
 refine ⟨fun n=>?_,fun n=>?_⟩
 all_goals
  simp only [bX,aA,aL,dZ,bL,↓Lj,IU,uK,qU,Fu,Ir,ne_eq,reduceCtorEq,not_false_eq_true,true_and,Bool.not_false,Bool.and_self,Nat.reduceAdd,Nat.reduceLeDiff,forall_const,false_implies]
theorem abO :
  (∀ a,(bX a).cells=[.int .i64 a.n,.int .i64 a.c.kind,.int .i64 a.c.many,.str a.c.name,.str a.c.s,.bool a.c.neg,.int .i64 a.c.e])∧
  (∀ n,(bX n).isAgg=true)∧(∀ n,(bX n).pure=true)∧(∀ d m O n,eZ d m O (bX n)=bX n)∧(∀ d m O n,gJ d m O (bX n)=bX n):=
 ⟨fun _=>rfl,fun _=>rfl,fun _=>rfl,fun _ _ _ _=>rfl,fun _ _ _ _=>rfl⟩
theorem abP (a:iA):(∀ x,(bX a).putCells 0 [.int .i64 x]=bX { a with n:=x })∧(∀ b:iA,(bX a).putCells 0 [.int .i64 b.n,.int .i64 b.c.kind,.int .i64 b.c.many,.str b.c.name,.str b.c.s,.bool b.c.neg,.int .i64 b.c.e]=bX b):=
 ⟨fun _=>rfl,fun _=>rfl⟩
theorem abQ (objs:List Obj) (K:KT) :
  (∀ k n,bF D 29 [(0,.int .i64 k),(1,aA n)] objs K=K (bX ⟨k,n⟩) objs 0)∧
  (∀ n,bF D 29 [(1,aA n)] objs K=K (bX ⟨0,n⟩) objs 0)∧
  (bF D 27 [] objs K=K (aA ⟨0,0,[],[],false,0⟩) objs 0):=by
 have z:aI (D 29)=bX ⟨0,⟨0,0,[],[],false,0⟩⟩:=by kernel_rfl
 have a:(D 29).agg=true:=by kernel_rfl
 have z2:aI (D 27)=aA ⟨0,0,[],[],false,0⟩:=by kernel_rfl
 have a2:(D 27).agg=true:=by kernel_rfl
 simp only [bL] at z a z2 a2
 refine ⟨fun k n=>?_,fun n=>?_,?_⟩
 all_goals
  simp [bF,lG,a,z,a2,z2,bL,mg,aA,bX,PV.isAgg,qb,PV.cells,PV.storable,PV.lS,PV.pure]
theorem inA:vG bX:=by intro d n o x;cases d <;> rfl
theorem abR :
  (∀ a0,PV.sl 7 [bX a0] none=bC [a0])∧(∀ a0 a1,PV.sl 7 [bX a0,bX a1] none=bC [a0,a1]):=
 ⟨fun _=>rfl,fun _ _=>rfl⟩
theorem adW:type_of% (jL hA)∧type_of% (aQ wR)∧type_of% (aQ xM):=⟨jL hA,aQ wR,aQ xM⟩
theorem abS :
  type_of% (abN)∧type_of% (abO)∧type_of% (abP)∧type_of% (abQ)∧type_of% (abR)∧
  type_of% (sK hA)∧type_of% (jL hA)∧type_of% (sM hA)∧type_of% (aQ wR)∧type_of% (aQ xM)∧type_of% (iV hA inA)∧
  type_of% (rO (enc:=bX) (sz:=7) (fun _=>rfl) (fun _=>rfl))∧
  type_of% (fun (l:List iA) (k:Nat)=>Kj (bC l) rfl k):=
 ⟨abN,abO,abP,abQ,abR,sK hA,jL hA,sM hA,aQ wR,aQ xM,iV hA inA,rO (enc:=bX) (sz:=7) (fun _=>rfl) (fun _=>rfl),fun (l:List iA) (k:Nat)=>Kj (bC l) rfl k⟩
theorem aX:type_of% @aT∧type_of% @adW:=⟨@aT,@adW⟩
theorem aY:type_of% @aU∧type_of% @abS:=⟨@aU,@abS⟩
theorem Oz (x:iA):eZ 1 0 [⟨29,7,[bX x],true,1⟩] (.bJ 0 1 0 0)=.addr (bX x):=rfl
theorem YI (x:iA) (y:Nd):eZ 1 0 [⟨29,7,[bX x],true,1⟩,⟨27,6,[aA y],true,1⟩] (.bJ 0 1 0 0)=.addr (bX x):=rfl
theorem YJ (x:iA) (y:Nd):eZ 1 0 [⟨29,7,[bX x],true,1⟩,⟨27,6,[aA y],true,1⟩] (.bJ 1 1 0 0)=.addr (aA y):=rfl
end Lp
namespace Lp
open Go Go.Proofs
def aK (t:dS):PV:=.agg [.int .i64 t.kind,.int .i64 t.many,.str t.name,.str t.s,.int .i64 t.n,.int .i64 t.c.kind,.int .i64 t.c.many,.str t.c.name,.str t.c.s,.bool t.c.neg,.int .i64 t.c.e]
def ay (l:aC):PV:=.sl 11 (l.map aK) none
def cZ (l:List aC):PV:=.sl 1 (l.map ay) none
def encS (s:Stp):PV:=.agg [.bool s.part,.str s.name,.int .i64 s.n]
def gG (l:List Stp):PV:=.sl 3 (l.map encS) none
theorem hTy:∀ l,ay l=.sl 11 (l.map aK) none:=fun _=>rfl
theorem hTs:∀ l,cZ l=.sl 1 (l.map ay) none:=fun _=>rfl
theorem hPa:∀ l,gG l=.sl 3 (l.map encS) none:=fun _=>rfl
theorem oC:∀ a b,aK a=aK b→a=b:=by
 intro a b h
 obtain ⟨k,m,nm,s,n,⟨a1,a2,a3,a4,a5,a6⟩⟩:=a
 obtain ⟨k',m',Lx,s',n',⟨b1,b2,b3,b4,b5,b6⟩⟩:=b
 simp only [aK,PV.agg.injEq,List.cons.injEq,PV.int.injEq,PV.str.injEq,PV.bool.injEq,true_and,and_true] at h
 obtain ⟨rfl,rfl,rfl,rfl,rfl,rfl,rfl,rfl,rfl,rfl,rfl⟩:=h
 rfl
theorem wS:∀ a b,encS a=encS b→a=b:=by
 intro a b h
 cases a;cases b
 simp only [encS,PV.agg.injEq,List.cons.injEq,PV.int.injEq,PV.str.injEq,PV.bool.injEq,true_and,and_true] at h
 obtain ⟨rfl,rfl,rfl⟩:=h
 rfl
theorem sP:∀ a b,ay a=ay b→a=b:=nT hTy oC
theorem xN:∀ a b,cZ a=cZ b→a=b:=nT hTs sP
theorem sQ:∀ a b,gG a=gG b→a=b:=nT hPa wS
theorem adX (objs:List Obj) (K:KT) :
  (∀ t,aL D 51 (.addr (aK t)) 0 objs K=K (.addr (.int .i64 t.kind)) objs 0)∧
  (∀ t,aL D 51 (.addr (aK t)) 1 objs K=K (.addr (.int .i64 t.many)) objs 0)∧
  (∀ t,aL D 51 (.addr (aK t)) 2 objs K=K (.addr (.str t.name)) objs 0)∧
  (∀ t,aL D 51 (.addr (aK t)) 3 objs K=K (.addr (.str t.s)) objs 0)∧
  (∀ t,aL D 51 (.addr (aK t)) 4 objs K=K (.addr (.int .i64 t.n)) objs 0)∧
  (∀ t,aL D 51 (.addr (aK t)) 5 objs K=K (.addr (aA t.c)) objs 0)∧
  (∀ s,aL D 61 (.addr (encS s)) 0 objs K=K (.addr (.bool s.part)) objs 0)∧
  (∀ s,aL D 61 (.addr (encS s)) 1 objs K=K (.addr (.str s.name)) objs 0)∧
  (∀ s,aL D 61 (.addr (encS s)) 2 objs K=K (.addr (.int .i64 s.n)) objs 0):=by
 refine ⟨fun n=>?_,fun n=>?_,fun n=>?_,fun n=>?_,fun n=>?_,fun n=>?_,fun n=>?_,fun n=>?_,fun n=>?_⟩
 all_goals
  simp only [aK,encS,aA,aL,dZ,bL,↓Lj,IU,uK,qU,Fu,Ir,ne_eq,reduceCtorEq,not_false_eq_true,true_and,Bool.not_false,Bool.and_self,Nat.reduceAdd,Nat.reduceLeDiff,forall_const,false_implies]
theorem adY :
  (∀ t,(aK t).cells=[.int .i64 t.kind,.int .i64 t.many,.str t.name,.str t.s,.int .i64 t.n,.int .i64 t.c.kind,.int .i64 t.c.many,.str t.c.name,.str t.c.s,.bool t.c.neg,.int .i64 t.c.e])∧
  (∀ n,(aK n).isAgg=true)∧(∀ n,(aK n).pure=true)∧(∀ d m O n,eZ d m O (aK n)=aK n)∧(∀ d m O n,gJ d m O (aK n)=aK n)∧
  (∀ s,(encS s).cells=[.bool s.part,.str s.name,.int .i64 s.n])∧
  (∀ n,(encS n).isAgg=true)∧(∀ n,(encS n).pure=true)∧(∀ d m O n,eZ d m O (encS n)=encS n)∧(∀ d m O n,gJ d m O (encS n)=encS n):=
 ⟨fun _=>rfl,fun _=>rfl,fun _=>rfl,fun _ _ _ _=>rfl,fun _ _ _ _=>rfl,fun _=>rfl,fun _=>rfl,fun _=>rfl,fun _ _ _ _=>rfl,fun _ _ _ _=>rfl⟩
theorem adZ (a:dS) :
  (∀ x,(aK a).putCells 0 [.int .i64 x]=aK { a with kind:=x })∧(∀ x,(aK a).putCells 1 [.int .i64 x]=aK { a with many:=x })∧
  (∀ x,(aK a).putCells 2 [.str x]=aK { a with name:=x })∧(∀ x,(aK a).putCells 3 [.str x]=aK { a with s:=x })∧(∀ x,(aK a).putCells 4 [.int .i64 x]=aK { a with n:=x })∧
  (∀ c:Nd,(aK a).putCells 5 [.int .i64 c.kind,.int .i64 c.many,.str c.name,.str c.s,.bool c.neg,.int .i64 c.e]=aK { a with c:=c })∧
  (∀ t:dS,(aK a).putCells 0 [.int .i64 t.kind,.int .i64 t.many,.str t.name,.str t.s,.int .i64 t.n,.int .i64 t.c.kind,.int .i64 t.c.many,.str t.c.name,.str t.c.s,.bool t.c.neg,.int .i64 t.c.e]=aK t):=
 ⟨fun _=>rfl,fun _=>rfl,fun _=>rfl,fun _=>rfl,fun _=>rfl,fun _=>rfl,fun _=>rfl⟩
theorem acM (a b:dS):yA (aK a).cells (aK b).cells=some (decide (a=b)):=by
 obtain ⟨k,m,nm,s,n,⟨a1,a2,a3,a4,a5,a6⟩⟩:=a
 obtain ⟨k',m',Lx,s',n',⟨b1,b2,b3,b4,b5,b6⟩⟩:=b
 simp only [aK,PV.cells,yA,Z4,if_true,Bool.and_true,dS.mk.injEq,Nd.mk.injEq,Option.some.injEq]
 rw [Bool.eq_iff_iff]
 simp [and_assoc]
theorem inY:vG aK:=by intro d n o x;cases d <;> rfl
theorem ad1:vG ay:=by intro d n o x;cases d <;> rfl
theorem ad2:vG encS:=by intro d n o x;cases d <;> rfl
theorem abT :
  (∀ a0,PV.sl 11 [aK a0] none=ay [a0])∧(∀ a0 a1,PV.sl 11 [aK a0,aK a1] none=ay [a0,a1])∧
  (∀ a0,PV.sl 1 [ay a0] none=cZ [a0])∧(∀ a0 a1,PV.sl 1 [ay a0,ay a1] none=cZ [a0,a1])∧
  (∀ a0,PV.sl 3 [encS a0] none=gG [a0]):=
 ⟨fun _=>rfl,fun _ _=>rfl,fun _=>rfl,fun _ _=>rfl,fun _=>rfl⟩
theorem ad3:type_of% (jL hTy)∧type_of% (jL hTs)∧type_of% (jL hPa)∧type_of% (aQ oC)∧type_of% (aQ sP)∧type_of% (aQ xN)∧type_of% (aQ wS)∧type_of% (aQ sQ):=
 ⟨jL hTy,jL hTs,jL hPa,aQ oC,aQ sP,aQ xN,aQ wS,aQ sQ⟩
theorem abU :
  type_of% (adX)∧type_of% (adY)∧type_of% (adZ)∧type_of% (abT)∧
  type_of% (sK hTy)∧type_of% (sK hTs)∧type_of% (sK hPa)∧type_of% (jL hTy)∧type_of% (jL hTs)∧type_of% (jL hPa)∧type_of% (sM hTy)∧type_of% (sM hTs)∧type_of% (sM hPa)∧
  type_of% (aQ oC)∧type_of% (aQ sP)∧type_of% (aQ xN)∧type_of% (aQ wS)∧type_of% (aQ sQ)∧
  type_of% (iV hTy inY)∧type_of% (iV hTs ad1)∧type_of% (iV hPa ad2)∧
  type_of% (rO (enc:=aK) (sz:=11) (fun _=>rfl) (fun _=>rfl))∧type_of% (rO (enc:=ay) (sz:=1) (fun _=>rfl) (fun _=>rfl))∧type_of% (rO (enc:=encS) (sz:=3) (fun _=>rfl) (fun _=>rfl))∧
  type_of% (fun (l:aC) (k:Nat)=>Kj (ay l) rfl k)∧type_of% (fun (l:List aC) (k:Nat)=>Kj (cZ l) rfl k)∧type_of% (fun (l:List Stp) (k:Nat)=>Kj (gG l) rfl k):=
 ⟨adX,adY,adZ,abT,sK hTy,sK hTs,sK hPa,jL hTy,jL hTs,jL hPa,sM hTy,sM hTs,sM hPa,aQ oC,aQ sP,aQ xN,aQ wS,aQ sQ,iV hTy inY,iV hTs ad1,iV hPa ad2,
  rO (enc:=aK) (sz:=11) (fun _=>rfl) (fun _=>rfl),rO (enc:=ay) (sz:=1) (fun _=>rfl) (fun _=>rfl),rO (enc:=encS) (sz:=3) (fun _=>rfl) (fun _=>rfl),fun (l:aC) (k:Nat)=>Kj (ay l) rfl k,fun (l:List aC) (k:Nat)=>Kj (cZ l) rfl k,fun (l:List Stp) (k:Nat)=>Kj (gG l) rfl k⟩
theorem av:type_of% @aX∧type_of% @ad3:=⟨@aX,@ad3⟩
theorem ax:type_of% @aY∧type_of% @abU:=⟨@aY,@abU⟩
end Lp
namespace Lp
open Go Go.Proofs
end Lp
namespace Lp
open Go Go.Proofs
theorem Bl:aP Tryz.prog 119 49 [.tmp 2] (gen [] [(9,none)] [] Tryz.f119):=bq Tryz.func119 rfl (by kernel_rfl)
theorem wT:aP Tryz.prog 122 63 [.tmp 4,.tmp 5] (gen [] [(195,none)] [] Tryz.f122):=bq Tryz.func122 rfl (by kernel_rfl)
theorem Dk:aP Tryz.prog 153 7 [.tmp 2] (gen [] [] [] Tryz.f153):=bq Tryz.func153 rfl (by kernel_rfl)
theorem wU:aP Tryz.prog 130 33 [.tmp 2] (gen [31] [] [] Tryz.f130):=bq Tryz.func130 rfl (by kernel_rfl)
theorem zT:aP Tryz.prog 121 19 [.tmp 2] (gen [] [(25,none)] [] Tryz.f121):=bq Tryz.func121 rfl (by kernel_rfl)
theorem Bn:aP Tryz.prog 175 77 [.tmp 4] (gen [] [(99,none)] [] Tryz.f175):=bq Tryz.func175 rfl (by kernel_rfl)
theorem Dl:aP Tryz.prog 176 58 [.tmp 2] (gen [7,19,36,56] [] [] Tryz.f176):=bq Tryz.func176 rfl (by kernel_rfl)
theorem yJ:aP Tryz.prog 152 74 [.tmp 4,.tmp 5] (gen [] [(451,none)] [] Tryz.f152):=bq Tryz.func152 rfl (by kernel_rfl)
theorem zU:aP Tryz.prog 129 26 [.tmp 4,.tmp 5] (gen [] [] [] Tryz.f129):=bq Tryz.func129 rfl (by kernel_rfl)
theorem wV:aP Tryz.prog 120 50 [.tmp 2,.tmp 3,.tmp 4] (gen [] [(97,none)] [] Tryz.f120):=bq Tryz.func120 rfl (by kernel_rfl)
def bM:LC:=
 (.seq (.seq (.reg [⟨some 43,.move (.tmp 9),none,false⟩,
  ⟨some 44,.move (.tmp 1),none,false⟩,
  ⟨some 45,.binOp .gtr 3 (.tmp 43) (.tmp 44) 3,none,false⟩])
  (.cond (.tmp 45)
   (.seq (.reg [⟨some 46,.move (.tmp 0),none,false⟩,
    ⟨some 47,.move (.tmp 1),none,false⟩,
    ⟨some 48,.move (.tmp 9),none,false⟩,
    ⟨some 49,.slice 9 (.tmp 46) (some (.tmp 47)) (some (.tmp 48)) none,none,false⟩,
    ⟨some 50,.build 61 ⟨[(1,(.tmp 49))]⟩,none,false⟩,
    ⟨some 51,.move (.tmp 9),none,false⟩,
    ⟨none,.store 61 (.tmp 6) (.tmp 50),none,false⟩,
    ⟨some 7,.assign (.tmp 51),none,false⟩])
   .ret)
   .skip))
  (.seq (.reg [⟨some 53,.move (.tmp 0),none,false⟩,
   ⟨some 54,.move (.tmp 1),none,false⟩,
   ⟨some 55,.slice 9 (.tmp 53) (some (.tmp 54)) none none,none,false⟩,
   ⟨some 56,.call ⟨.value (.func 120),⟨[(.tmp 55)]⟩,⟨[9]⟩⟩,none,false⟩,
   ⟨some 52,.move (.tmp 56),none,false⟩,
   ⟨some 57,.extract (.tmp 52) 0,none,false⟩,
   ⟨some 58,.extract (.tmp 52) 1,none,false⟩,
   ⟨some 59,.extract (.tmp 52) 2,none,false⟩,
   ⟨some 10,.assign (.tmp 57),none,false⟩,
   ⟨some 11,.assign (.tmp 58),none,false⟩,
   ⟨some 12,.assign (.tmp 59),none,false⟩])
  (.seq (.seq (.draw [⟨some 60,.move (.tmp 12),none,false⟩,
   ⟨some 61,.binOp .eql 34 (.tmp 60) (.const (.int .i64 0)) 34,none,false⟩,
   ⟨some 62,.move (.tmp 61),none,false⟩,
   ⟨some 63,.move (.tmp 10),some (some 62,true),false⟩,
   ⟨some 64,.call ⟨.value (.func 119),⟨[(.tmp 63)]⟩,⟨[9]⟩⟩,some (some 62,true),false⟩,
   ⟨some 65,.unOp .not 4 (.tmp 64),some (some 62,true),false⟩,
   ⟨some 66,.pick (.tmp 62) (.tmp 65) (.const (.bool false)),none,false⟩,
   ⟨some 67,.move (.tmp 66),none,false⟩,
   ⟨some 68,.move (.tmp 10),some (some 67,true),false⟩,
   ⟨some 69,.call ⟨.value (.func 121),⟨[(.tmp 68)]⟩,⟨[9]⟩⟩,some (some 67,true),false⟩,
   ⟨some 70,.move (.tmp 0),some (some 67,true),false⟩,
   ⟨some 71,.move (.tmp 1),some (some 67,true),false⟩,
   ⟨some 72,.move (.tmp 1),some (some 67,true),false⟩,
   ⟨some 73,.move (.tmp 11),some (some 67,true),false⟩,
   ⟨some 74,.binOp .add 3 (.tmp 72) (.tmp 73) 3,some (some 67,true),false⟩,
   ⟨some 75,.slice 9 (.tmp 70) (some (.tmp 71)) (some (.tmp 74)) none,some (some 67,true),false⟩,
   ⟨some 76,.binOp .eql 9 (.tmp 69) (.tmp 75) 9,some (some 67,true),false⟩,
   ⟨some 77,.pick (.tmp 67) (.tmp 76) (.const (.bool false)),none,false⟩]
  [0,0,0,0,0,0,0,0,0,0,768,1792,3840,7936,3840,768,0,0])
  (.cond (.tmp 77)
   (.seq (.reg [⟨some 78,.move (.tmp 10),none,false⟩,
    ⟨some 79,.build 61 ⟨[(1,(.tmp 78))]⟩,none,false⟩,
    ⟨some 80,.move (.tmp 1),none,false⟩,
    ⟨some 81,.move (.tmp 11),none,false⟩,
    ⟨some 82,.binOp .add 3 (.tmp 80) (.tmp 81) 3,none,false⟩,
    ⟨none,.store 61 (.tmp 6) (.tmp 79),none,false⟩,
    ⟨some 7,.assign (.tmp 82),none,false⟩])
   .ret)
   .skip))
  (.seq (.reg [⟨some 83,.move (.tmp 2),none,false⟩,
   ⟨some 84,.unOp .not 4 (.tmp 83),none,false⟩])
  (.cond (.tmp 84)
   (.seq (.reg [⟨some 85,.build 61 ⟨[]⟩,none,false⟩,
    ⟨some 86,.move (.tmp 8),none,false⟩,
    ⟨none,.store 61 (.tmp 6) (.tmp 85),none,false⟩,
    ⟨some 7,.assign (.tmp 86),none,false⟩])
   .ret)
   .skip)))))
def bT:LC:=
 (.seq (.seq (.reg [⟨some 90,.move (.tmp 1),none,false⟩,
  ⟨some 91,.move (.tmp 0),none,false⟩,
  ⟨some 92,.call ⟨.builtin .len,⟨[(.tmp 91)]⟩,⟨[9]⟩⟩,none,false⟩,
  ⟨some 93,.binOp .geq 3 (.tmp 90) (.tmp 92) 3,none,false⟩,
  ⟨some 94,.move (.tmp 93),none,false⟩,
  ⟨some 95,.move (.tmp 0),some (some 94,false),false⟩,
  ⟨some 96,.move (.tmp 1),some (some 94,false),false⟩,
  ⟨some 97,.index 9 (.tmp 95) (.tmp 96),some (some 94,false),false⟩,
  ⟨some 98,.binOp .neq 5 (.tmp 97) (.const (.int .u8 91)) 5,some (some 94,false),false⟩,
  ⟨some 99,.pick (.tmp 94) (.const (.bool true)) (.tmp 98),none,false⟩])
 (.cond (.tmp 99)
  (.seq (.reg [⟨some 100,.build 61 ⟨[]⟩,none,false⟩,
   ⟨some 101,.move (.tmp 8),none,false⟩,
   ⟨none,.store 61 (.tmp 6) (.tmp 100),none,false⟩,
   ⟨some 7,.assign (.tmp 101),none,false⟩])
  .ret)
  .skip))
 (.seq (.reg [⟨some 103,.move (.tmp 0),none,false⟩,
  ⟨some 104,.move (.tmp 1),none,false⟩,
  ⟨some 105,.binOp .add 3 (.tmp 104) (.const (.int .i64 1)) 3,none,false⟩,
  ⟨some 106,.call ⟨.value (.func 122),⟨[(.tmp 103),(.tmp 105)]⟩,⟨[9,3]⟩⟩,none,false⟩,
  ⟨some 102,.move (.tmp 106),none,false⟩,
  ⟨some 107,.extract (.tmp 102) 0,none,false⟩,
  ⟨some 108,.extract (.tmp 102) 1,none,false⟩,
  ⟨some 13,.assign (.tmp 107),none,false⟩,
  ⟨some 14,.assign (.tmp 108),none,false⟩])
 (.seq (.seq (.reg [⟨some 109,.move (.tmp 13),none,false⟩,
  ⟨some 110,.binOp .lss 3 (.tmp 109) (.const (.int .i64 0)) 3,none,false⟩,
  ⟨some 111,.move (.tmp 110),none,false⟩,
  ⟨some 112,.move (.tmp 14),some (some 111,false),false⟩,
  ⟨some 113,.move (.tmp 0),some (some 111,false),false⟩,
  ⟨some 114,.call ⟨.builtin .len,⟨[(.tmp 113)]⟩,⟨[9]⟩⟩,some (some 111,false),false⟩,
  ⟨some 115,.binOp .geq 3 (.tmp 112) (.tmp 114) 3,some (some 111,false),false⟩,
  ⟨some 116,.pick (.tmp 111) (.const (.bool true)) (.tmp 115),none,false⟩,
  ⟨some 117,.move (.tmp 116),none,false⟩,
  ⟨some 118,.move (.tmp 0),some (some 117,false),false⟩,
  ⟨some 119,.move (.tmp 14),some (some 117,false),false⟩,
  ⟨some 120,.index 9 (.tmp 118) (.tmp 119),some (some 117,false),false⟩,
  ⟨some 121,.binOp .neq 5 (.tmp 120) (.const (.int .u8 93)) 5,some (some 117,false),false⟩,
  ⟨some 122,.pick (.tmp 117) (.const (.bool true)) (.tmp 121),none,false⟩])
 (.cond (.tmp 122)
  (.seq (.reg [⟨some 123,.build 61 ⟨[]⟩,none,false⟩,
   ⟨some 124,.move (.tmp 8),none,false⟩,
   ⟨none,.store 61 (.tmp 6) (.tmp 123),none,false⟩,
   ⟨some 7,.assign (.tmp 124),none,false⟩])
  .ret)
  .skip))
 (.seq (.reg [⟨some 125,.move (.tmp 13),none,false⟩,
  ⟨some 126,.build 61 ⟨[(0,(.const (.bool true))),(2,(.tmp 125))]⟩,none,false⟩,
  ⟨some 127,.move (.tmp 14),none,false⟩,
  ⟨some 128,.binOp .add 3 (.tmp 127) (.const (.int .i64 1)) 3,none,false⟩,
  ⟨none,.store 61 (.tmp 6) (.tmp 126),none,false⟩,
  ⟨some 7,.assign (.tmp 128),none,false⟩])
 .ret))))
def fV:LC:=
 (.seq (.reg [⟨some 6,.alloc 61,none,false⟩,
  ⟨some 7,.assign (.const (.int .i64 0)),none,false⟩])
 (.seq (.reg [⟨some 15,.move (.tmp 1),none,false⟩,
  ⟨some 8,.assign (.tmp 15),none,false⟩])
 (.seq (.seq (.reg [⟨some 16,.move (.tmp 1),none,false⟩,
  ⟨some 17,.move (.tmp 0),none,false⟩,
  ⟨some 18,.call ⟨.builtin .len,⟨[(.tmp 17)]⟩,⟨[9]⟩⟩,none,false⟩,
  ⟨some 19,.binOp .lss 3 (.tmp 16) (.tmp 18) 3,none,false⟩,
  ⟨some 20,.move (.tmp 19),none,false⟩,
  ⟨some 21,.move (.tmp 0),some (some 20,true),false⟩,
  ⟨some 22,.move (.tmp 1),some (some 20,true),false⟩,
  ⟨some 23,.index 9 (.tmp 21) (.tmp 22),some (some 20,true),false⟩,
  ⟨some 24,.binOp .eql 5 (.tmp 23) (.const (.int .u8 46)) 5,some (some 20,true),false⟩,
  ⟨some 25,.pick (.tmp 20) (.tmp 24) (.const (.bool false)),none,false⟩])
 (.cond (.tmp 25)
  (.seq (.reg [⟨some 26,.move (.tmp 1),none,false⟩,
   ⟨some 27,.binOp .add 3 (.tmp 26) (.const (.int .i64 1)) 3,none,false⟩,
   ⟨some 1,.assign (.tmp 27),none,false⟩])
  (.seq (.reg [⟨some 28,.move (.tmp 1),none,false⟩,
   ⟨some 9,.assign (.tmp 28),none,false⟩])
  (.seq (.block 0 (.loop [true,true,true,false,false,false,true,false,true,true,false,false,false,false,false,false,false,false,false,false,false,false,false,false,false,false,false,false,false,false,false,false,false,false,false,false,false,false,false,false,false,false,false,false,false,false,false,false,false,false,false,false,false,false,false,false,false,false,false,false,false,false,false,false,false,false,false,false,false,false,false,false,false,false,false,false,false,false,false,false,false,false,false,false,false,false,false,false,false,false,false,false,false,false,false,false,false,false,false,false,false,false,false,false,false,false,false,false,false,false,false,false,false,false,false,false,false,false,false,false,false,false,false,false,false,false,false,false,false] none
   (.seq (.seq (.reg [⟨some 29,.move (.tmp 9),none,false⟩,
    ⟨some 30,.move (.tmp 0),none,false⟩,
    ⟨some 31,.call ⟨.builtin .len,⟨[(.tmp 30)]⟩,⟨[9]⟩⟩,none,false⟩,
    ⟨some 32,.binOp .lss 3 (.tmp 29) (.tmp 31) 3,none,false⟩,
    ⟨some 33,.move (.tmp 32),none,false⟩,
    ⟨some 34,.move (.tmp 0),some (some 33,true),false⟩,
    ⟨some 35,.move (.tmp 1),some (some 33,true),false⟩,
    ⟨some 36,.move (.tmp 9),some (some 33,true),false⟩,
    ⟨some 37,.binOp .add 3 (.tmp 36) (.const (.int .i64 1)) 3,some (some 33,true),false⟩,
    ⟨some 38,.slice 9 (.tmp 34) (some (.tmp 35)) (some (.tmp 37)) none,some (some 33,true),false⟩,
    ⟨some 39,.call ⟨.value (.func 119),⟨[(.tmp 38)]⟩,⟨[9]⟩⟩,some (some 33,true),false⟩,
    ⟨some 40,.pick (.tmp 33) (.tmp 39) (.const (.bool false)),none,false⟩])
    (.cond (.tmp 40)
     .skip
     (.exit 0)))
    (.block 1 (.reg [⟨some 41,.move (.tmp 9),none,false⟩,
     ⟨some 42,.binOp .add 3 (.tmp 41) (.const (.int .i64 1)) 3,none,false⟩,
     ⟨some 9,.assign (.tmp 42),none,false⟩])))))
  bM)))
  (.seq (.reg [⟨some 87,.move (.tmp 2),none,false⟩])
  (.cond (.tmp 87)
   (.seq (.reg [⟨some 88,.build 61 ⟨[]⟩,none,false⟩,
    ⟨some 89,.move (.tmp 8),none,false⟩,
    ⟨none,.store 61 (.tmp 6) (.tmp 88),none,false⟩,
    ⟨some 7,.assign (.tmp 89),none,false⟩])
   .ret)
   .skip))))
 bT)))
theorem Bo:aP Tryz.prog 107 129 [.cell 6 61,.tmp 7] fV:=⟨_,_,Tryz.func107,by kernel_rfl,rfl,Tryz.ntmps107,rfl,by kernel_rfl⟩
theorem yK:aP Tryz.prog 96 52 [.tmp 4,.tmp 5] (gen [10] [(195,some (1,1))] [] Tryz.f96):=bq Tryz.func96 rfl (by kernel_rfl)
theorem Bp:aP Tryz.prog 66 24 [.tmp 2,.tmp 3,.tmp 4] (gen [] [] [] Tryz.f66):=bq Tryz.func66 rfl (by kernel_rfl)
theorem yL:aP Tryz.prog 67 15 [.tmp 2] (gen [] [(9,none)] [] Tryz.f67):=bq Tryz.func67 rfl (by kernel_rfl)
theorem Bq:aP Tryz.prog 34 20 [.tmp 2,.tmp 3] (gen [] [] [] Tryz.f34):=bq Tryz.func34 rfl (by kernel_rfl)
end Lp
namespace Lp
open Go Go.Proofs
theorem OA (v:Vl) (i c:Nat) (hv:v.length≤4611686018427387904) (h:skip (v.drop i) 1=some c):ai Tryz.prog 187 [aS v,.int .i64 i] [] (.int .i64 (i+c:Nat)) []:=by
 refine Lm.pure (T:=aR Tryz.prog []) 0 hD (aj ah) aZ (by decide) ?_
 (conv=>arg 4;cbv);simp only [↓zG,Eb,↓AZ,↓yD,↓A7,yE,↓mI,m_,jF,fC,Db,Nat.reduceAdd,Nat.reduceSub,qU,bL,Fq,Fs,wH]
 refine aH (fun m S=>∃ (j k c':Nat),m=c'∧skip (v.drop j) k=some c'∧j+c'=i+c∧S=⟨mkT 19 [(0,aS v),(1,.int .i64 j),(5,.int .i64 k)],[]⟩) c ⟨i,1,c,rfl,h,rfl,?_⟩ ?_
 · simp only [QS,aS,qU];rfl
 rintro m S ⟨j,k,c',rfl,hs,hj,rfl⟩
 simp only [↓zG,Eb,↓AZ,↓yD,↓A7,yE,↓mI,m_,jF,fC,Db,Nat.reduceAdd,Nat.reduceSub,qU,QS,bL,aS,aA,Fq,Fs,wH,a_,fw,aL,dZ,↓y8,↓Lj,IU,uK,Fu,Ir,Bool.not_false,Bool.and_self,Nat.reduceLeDiff,forall_const,ne_eq,reduceCtorEq,not_false_eq_true,true_and,PV.bool.injEq,Int.toNat_natCast,Nat.zero_add,decide_eq_true_eq,List.length_cons,List.length_nil]
 refine ⟨fun hk=>?_,fun hk=>?_⟩
 · obtain ⟨k,rfl⟩:∃ k',k=k'+1:=⟨k-1,by omega⟩
   have hjl:j<v.length:=by
    rcases Nat.lt_or_ge j v.length with h' | h'
    · exact h'
    · rw [List.drop_eq_nil_of_le h'] at hs;simp [skip] at hs
   rw [List.drop_eq_getElem_cons hjl] at hs
   obtain ⟨hm,c'',rfl,hs'⟩:=dm hs
   have hle:=dY _ _ _ hs'
   simp only [List.length_drop] at hle
   have hk2:((k+1:Nat):Int)+(v[j].many-1)=((k+v[j].many.toNat:Nat):Int):=by omega
   exact ⟨by omega,v[j],List.getElem?_eq_getElem hjl,by omega,by omega,by omega,c'',by omega,j+1,k+v[j].many.toNat,c'',rfl,hs',by omega,by rw [hk2];rfl⟩
 · rw [if_pos trivial]
   have hk0:k=0:=by have:=of_decide_eq_false hk;omega
   subst hk0
   have:m=0:=by cases hd:v.drop j <;> rw [hd] at hs <;> simp [skip] at hs <;> exact hs.symm
   subst this
   congr 1;omega
def qK (v:Vl):Obj:=⟨27,6,v.map aA,true,0⟩
theorem wW (v:Vl):eX [qK v]:=by
 intro o ho x hx p hp
 simp only [List.mem_singleton] at ho
 subst ho
 simp only [qK,List.mem_map] at hx
 obtain ⟨n,_,rfl⟩:=hx
 simp only [aA,PV.cells,List.mem_cons,List.not_mem_nil,or_false] at hp
 rcases hp with rfl | rfl | rfl | rfl | rfl | rfl <;> rfl
theorem Rw (n:Nd):(aA n).cells.length=6∧(aA n).cells.all PV.storable=true:=⟨rfl,rfl⟩
theorem YK (d n:Nat) (objs:List Obj) (v:Vl):(v.map aA).map (PV.bI (eZ d n objs))=v.map aA:=by
 rw [List.map_map]
 exact List.map_congr_left fun x _=>rfl
theorem VX:ai Tryz.prog 188 [.sl 6 [] (some true)] [] (.bG 0 0) [qK []]:=by
 refine iO.made (T:=aR Tryz.prog []) 0 hD (aj ah) aZ ?_
 (conv=>arg 4;cbv);simp only [↓zG,Eb,↓AZ,↓yD,↓A7,yE,↓mI,Ec,Db,Nat.reduceAdd,Nat.reduceSub,qU,QS,bL,Fq,Fs,wH,dU,forall_const,reduceCtorEq,false_imp_iff,and_true,TK.slice.injEq,exists_eq',true_and]
 exact ⟨_,0,0,_,Weak.D9 2 27 6 rfl,rfl,rfl,rfl,rfl,rfl,wW []⟩
theorem Rx (v:Vl) (hv:v.length≤1099511627776):ai Tryz.prog 188 [.sl 6 (v.map aA) (some false)] [] (.bG 0 0) [qK v]:=by
 refine iO.made (T:=aR Tryz.prog []) 0 hD (aj ah) aZ ?_
 (conv=>arg 4;cbv);simp only [↓zG,Eb,↓AZ,↓yD,↓A7,yE,↓mI,Ec,Db,Nat.reduceAdd,Nat.reduceSub,qU,QS,bL,Fq,Fs,wH,dU,forall_const,reduceCtorEq,false_imp_iff,and_true,TK.slice.injEq,exists_eq',true_and]
 simp only [bK,dO,mh,newObj,iR,bL,ne_eq,reduceCtorEq,not_false_eq_true,true_and,if_true,List.all_nil,Nat.zero_mul,Nat.zero_le,List.nil_append,List.length_nil,List.getElem?_cons_zero,Option.some.injEq]
 refine ⟨rfl,rfl,rfl,rfl,?_,_,rfl,rfl,rfl,rfl,rfl,?_,?_,fun _ _ h=>h.elim,_,0,2,_,Weak.refl _ _,rfl,rfl,rfl,rfl,?_,wW v⟩
 · intro y hy
   obtain ⟨n,_,rfl⟩:=List.mem_map.1 hy
   exact Rw n
 · simp;omega
 · simp;omega
 · simp only [fB,qK,List.replicate_zero,List.nil_append,YK]
theorem Ry (v:Vl) (hv:v.length≤1099511627776):ai Tryz.prog 188 [aS v] [] (.bG 0 0) [qK v]:=
 ai.split (pre:=[]) (post:=[]) (fun h=>by
  have:v=[]:=by simpa using h
  subst this
  exact VX) (Rx v hv)
end Lp
namespace Lp
open Go Go.Proofs
open List (length_cons length_nil)
def rowOf (p:Vl):List PV:=[.str (nameOf p),aS (jX p)]
def Dm:dD:=fun args objs K=>∃ (v:Vl) (i c:Nat),args=[aS v,.int .i64 i]∧v.length≤4611686018427387904∧skip (v.drop i) 1=some c∧K (.int .i64 (i+c:Nat)) objs 0
def GD:dD:=fun args objs K=>∃ v:Vl,args=[aS v]∧v.length≤1099511627776∧K (.bG objs.length 0) (objs++[qK v]) 2
theorem LA:aB Tryz.prog 187 Dm:=by
 rintro args objs K ⟨v,i,c,rfl,hv,hs,hk⟩
 exact ⟨_,_,_,.pure _ rfl (OA v i c hv hs),hk⟩
theorem OB:aB Tryz.prog 188 GD:=by
 rintro args objs K ⟨v,rfl,hv,hk⟩
 have h:=mE.made (objs:=objs) _ _ rfl (wW v) (Ry v hv)
 exact ⟨_,_,_,h,by simpa [PV.shift,PV.qc] using hk⟩
theorem VY (v:Vl):ai Tryz.prog 174 [aS v] [] (.fn 186 [] [.addr (aS v)]) []:=by
 refine Ru.pure (T:=aR Tryz.prog []) 1 hD (aj ah) aZ (by decide) ?_
 (conv=>arg 4;cbv);simp only [↓zG,Eb,↓AZ,↓yD,↓A7,yE,↓mI,m_,jF,fC,Nat.reduceAdd,Nat.reduceSub,qU,bL,Iz,jN,newObj,aS,Fu,Ir,ne_eq,reduceCtorEq,not_false_eq_true,true_and,length_cons,length_nil,List.nil_append]
 exact ⟨rfl,rfl,rfl⟩
theorem Ee (v:Vl) (n:Nd) (r:Vl) (ps:List Vl) (hv:v=n::r) (hl:v.length≤1099511627776) (hm:0≤n.many) (hp:parts n.many.toNat r=some ps) :
  Gives Tryz.prog 186 [.addr (aS v)] (ps.map rowOf):=by
 refine Ll.gives (fnT:=sJ [(187,Dm),(188,GD)]) hD (af LA (af OB ah)) aZ ?_
 intro I J objs y hI IL Yo
 subst hv
 (conv=>arg 4;cbv);simp only [↓zG,kiR,↓AZ,↓yD,↓A7,yE,↓mI,Nat.reduceAdd,Nat.reduceSub,qU,bL,Fq,Fs,wH,a_,fw,aL,dZ,↓y8,↓Lj,IU,uK,Fu,Ir,aS,aA,List.map_cons,Int.reduceToNat,Int.toNat_zero,Int.reduceLE,Bool.not_false,Bool.and_self,Nat.reduceLeDiff,forall_const,ne_eq,reduceCtorEq,not_false_eq_true,true_and,PV.bool.injEq,Int.toNat_natCast,Nat.zero_add,length_cons,length_nil]
 refine aH (fun m S=>∃ (k i:Nat) (O:List Obj) (rest:List Vl),k+rest.length=ps.length∧m=rest.length∧parts rest.length ((n::r).drop i)=some rest∧ps.drop k=rest∧I k O∧
  S=⟨mkT 34 [(0,.E5 y),(1,.addr (aS (n::r))),(3,.int .i64 i),(9,.int .i64 n.many),(10,.int .i64 k)],O⟩) ps.length ?_ ?_
 · have hpl:=bS _ _ _ hp
   refine ⟨0,1,objs,ps,by omega,rfl,by rw [hpl];simpa using hp,by simp,hI,?_⟩
   simp only [QS,aS,qU];rfl
 have hpl:=bS _ _ _ hp
 have GH:n.many.toNat≤1099511627776:=by have:=eO _ _ _ hp;simp at hl;omega
 generalize hv:n::r=v at *
 rintro m S ⟨k,i,O,rest,hk,rfl,hps,hd,VZ,rfl⟩
 simp only [↓zG,kiR,↓AZ,↓yD,↓A7,yE,↓mI,Nat.reduceAdd,Nat.reduceSub,qU,bL,Fq,Fs,wH,caR,taR,Dm,GD,Nat.reduceBEq,BEq.rfl,cond_true,cond_false,ji,dx,a_,fw,aL,dZ,↓y8,↓Lj,IU,uK,Fu,Ir,aS,List.map_cons,Int.reduceToNat,Int.toNat_zero,Int.reduceLE,Bool.not_false,Bool.and_self,Nat.reduceLeDiff,forall_const,ne_eq,reduceCtorEq,not_false_eq_true,true_and,PV.bool.injEq,Int.toNat_natCast,Nat.zero_add,length_cons,length_nil]
 refine ⟨fun hkm=>?_,fun hkm=>?_⟩
 · have ad4:(k:Int)<n.many:=of_decide_eq_true hkm
   obtain ⟨q,hq⟩:∃ q,rest.length=q+1:=⟨rest.length-1,by omega⟩
   rw [hq] at hps
   obtain ⟨c,qs,hsk,hr',hqs⟩:=eH hps
   have hc:=dY _ _ _ hsk
   simp only [List.length_drop] at hc
   have hlv:v.length≤1099511627776:=hl
   refine ⟨v,i,c,rfl,by omega,hsk,.inr trivial,by omega,by omega,by simp;omega,(v.drop i).take c,?_,by simp;omega,qK ((v.drop i).take c),by simp,rfl,rfl,by simp [qK];omega,rfl,qK ((v.drop i).take c),by simp,rfl,rfl,?_⟩
   · rw [← List.map_take,← List.map_drop,← List.take_drop]
   · obtain ⟨hdn,tl,hpe⟩:∃ a b,(v.drop i).take c=a::b:=by
      cases hx:(v.drop i).take c with
      | nil=>have:=congrArg List.length hx;simp at this;omega
      | cons a b=>exact ⟨a,b,rfl⟩
     rw [hpe] at hr' ⊢
     refine ⟨qK (hdn::tl),aA hdn,by simp,rfl,rfl,rfl,by simp,rfl,by simp [aA,PV.cells],(fun h=>by cases h),rfl,?_⟩
     have hset:(O++[qK (hdn::tl)]).set O.length { qK (hdn::tl) with xs:=(qK (hdn::tl)).xs.set 0 ((aA hdn).putCells 2 (PV.str []).cells) }=O++[qK (jX (hdn::tl))]:=by
      rw [List.set_append_right _ _ (Nat.le_refl _),Nat.sub_self]
      rfl
     rw [hset]
     refine aO _ (Weak.freeze 1 O.length (IL k O VZ).1 _) ?_
     have hgo:(O++[qK (jX (hdn::tl))])[O.length]?=some (qK (jX (hdn::tl))):=by simp
     have hfr:eZ 1 O.length (O++[qK (jX (hdn::tl))]) (.bG O.length 0)=aS (jX (hdn::tl)):=by
      simp only [eZ,Nat.lt_irrefl,if_false,iU,hgo]
      simp only [qK,Nat.le_refl,decide_true,Bool.and_self,BEq.rfl,if_true,aS,List.map_map]
      congr 1
     have hro:(O++[qK (jX (hdn::tl))]).take O.length=O:=by simp
     have hpost:∃ w,w=jX (hdn::tl):=⟨_,rfl⟩
     obtain ⟨pc,hpc⟩:=hpost
     rw [← hpc] at hfr hro hgo ⊢
     have hq1:(eZ 1 O.length (O++[qK pc]) (.bJ O.length 0 0 0)).pure=true:=y9 (Nat.le_refl _)
     have hq2:(eZ 1 O.length (O++[qK pc]) (.bJ O.length 0 0 2)).pure=true:=y9 (Nat.le_refl _)
     have hq3:(aS pc).pure=true:=rfl
     simp only [St.freeze,qU,fzR,Db,hfr,hro,hq1,hq2,hq3,puR,Nu,Bool.not_true,aA,Fe (IL k O VZ).2,↓zG,kiR,↓AZ,↓yD,↓A7,yE,↓mI,Nat.reduceAdd,Nat.reduceSub,bL,Fq,Fs,wH,caR,Yd,a_,fw,aL,dZ,↓y8,↓Lj,IU,uK,Fu,Ir,Int.reduceToNat,Int.toNat_zero,Int.reduceLE,Bool.not_false,Bool.and_self,Nat.reduceLeDiff,forall_const,ne_eq,reduceCtorEq,not_false_eq_true,true_and,PV.bool.injEq,Int.toNat_natCast,Nat.zero_add,length_cons,length_nil]
     have hvi:v[i]?=some hdn:=by
      have:=congrArg (fun l=>l[0]?) hpe
      simp only [List.getElem?_cons_zero,List.getElem?_take,List.getElem?_drop,Nat.add_zero] at this
      rw [if_pos (by omega)] at this
      exact this
     have hpk:ps[k]?=some (hdn::tl):=by
      have:=congrArg (fun l=>l[0]?) (hd.trans hr')
      simpa using this
     have hdq:ps.drop (k+1)=qs:=by
      have:=congrArg List.tail (hd.trans hr')
      simpa [List.tail_drop] using this
     have hlq:qs.length=q:=by rw [hr'] at hq;simpa using hq
     refine ⟨by omega,hdn,hvi,k,VZ,?_,fun objs' hI'=>⟨fun h=>h.elim,⟨by omega,by omega⟩,qs.length,by omega,k+1,i+c,objs',qs,by omega,rfl,?_,hdq,hI',?_⟩,fun objs' hJ'=>?_⟩
     · rw [List.getElem?_map,hpk,hpc];rfl
     · rw [hlq];rw [List.drop_drop] at hqs;exact hqs
     · simp only [QS,aS,qU];rfl
     · exact ⟨⟨.inr rfl,.inr ⟨k,by rw [List.length_map];omega,hJ'⟩⟩,fun h=>h.elim⟩
 · rw [if_pos trivial]
   have hge:¬ (k:Int)<n.many:=of_decide_eq_false hkm
   refine ⟨.inl rfl,?_⟩
   have:k=ps.length:=by omega
   rw [List.length_map,← this]
   exact .inl VZ
end Lp
namespace Lp
open Go Go.Proofs
open List (length_cons length_nil mem_singleton nil_append)
def Br:dD:=fun args objs K=>∃ v:Vl,args=[aS v]∧K (.fn 186 [] [.addr (aS v)]) objs 0
theorem GI:aB Tryz.prog 174 Br:=by
 rintro args objs K ⟨v,rfl,hk⟩
 exact ⟨_,_,_,.pure _ rfl (VY v),hk⟩
def V3 (done:List Vl) (O:List Obj):Prop:=
 (done=[]∧O=[⟨80,1,[.sl 0 [] (some true)],true,1⟩])∨
 (done≠[]∧∃ ver,O=[⟨80,1,[.bG 1 ver],true,1⟩,⟨41,1,done.map fun p=>aS (jX p),true,ver⟩])
theorem OC (v:Vl) (n:Nd) (r:Vl) (ps:List Vl) (hv:v=n::r) (hl:v.length≤1099511627776) (hm:0≤n.many) (hp:parts n.many.toNat r=some ps) :
  ai Tryz.prog 151 [aS v] [] (if ps=[] then .sl 0 [] (some true) else .sl 1 (ps.map fun p=>aS (jX p)) none) []:=by
 refine Oo.pure (T:=aR Tryz.prog [(174,Br)]) 2 hD (aj (af GI ah)) aZ (by decide) ?_
 (conv=>arg 4;cbv);simp only [↓zG,Eb,↓AZ,↓yD,↓A7,yE,↓mI,Nat.reduceAdd,Nat.reduceSub,qU,bL,caR,taR,Br,Nat.reduceBEq,BEq.rfl,cond_true,cond_false,rE,newObj,aI,Fu,Ir,ne_eq,reduceCtorEq,not_false_eq_true,true_and,length_cons,length_nil,nil_append]
 refine ⟨rfl,v,rfl,?_⟩
 refine Rq 186 [.addr (aS v)] (ps.map rowOf) (fun i O=>V3 (ps.take i) O∧i≤ps.length) rfl rfl rfl trivial (Ee v n r ps hv hl hm hp) ?_ ⟨.inl ⟨by simp,rfl⟩,Nat.zero_le _⟩ ?_ ?_ ?_
 · intro y hy
   obtain ⟨p,_,rfl⟩:=List.mem_map.1 hy
   rfl
 · rintro i O ⟨h | ⟨_,ver,rfl⟩,_⟩
   · rw [h.2]
     refine ⟨by simp,?_⟩
     intro o ho x hx c hc
     simp only [mem_singleton] at ho
     subst ho
     simp only [mem_singleton] at hx
     subst hx
     simp only [PV.cells,mem_singleton] at hc
     subst hc
     rfl
   · refine ⟨by simp,?_⟩
     intro o ho x hx c hc
     simp only [List.mem_cons,List.not_mem_nil,or_false] at ho
     rcases ho with rfl | rfl
     · simp only [mem_singleton] at hx
       subst hx
       simp only [PV.cells,mem_singleton] at hc
       subst hc
       rfl
     · simp only [List.mem_map] at hx
       obtain ⟨p,_,rfl⟩:=hx
       simp only [aS,PV.cells,mem_singleton] at hc
       subst hc
       rfl
 · rintro i args O ⟨hO,hi⟩ ha
   rw [List.getElem?_map] at ha
   obtain ⟨p,hpi,rfl⟩:∃ p,ps[i]?=some p∧rowOf p=args:=by
    cases hx:ps[i]? with
    | none=>rw [hx] at ha;simp at ha
    | some p=>rw [hx] at ha;exact ⟨p,rfl,by simpa using ha⟩
   have hil:i<ps.length:=(List.getElem?_eq_some_iff.1 hpi).1
   have htk:ps.take (i+1)=ps.take i++[p]:=by rw [List.take_add_one,hpi];rfl
   rcases hO with ⟨h0,rfl⟩ | ⟨h0,ver,rfl⟩
   · simp only [rowOf,qj,Yt,↓Lj,↓Gy,reduceIte,Bool.false_eq_true,if_false,↓zG,↓AZ,↓yD,↓A7,yE,↓mI,Nat.reduceAdd,Nat.reduceSub,qU,bL,dU,fw,bK,dO,mh,newObj,iR,jP,aI,IU,uK,Fu,Ir,ne_eq,reduceCtorEq,not_false_eq_true,true_and,length_cons,length_nil,nil_append]
     refine ⟨by decide,fun _=>trivial,rfl,by decide,rfl,rfl,rfl,?_,by decide,by decide,by decide,fun _=>trivial,rfl,.inr ⟨by rw [htk];simp,1,?_⟩,by omega⟩
     · intro y hy
       simp only [mem_singleton] at hy
       subst hy
       exact ⟨rfl,rfl⟩
     · rw [htk,h0];rfl
   · have hlen:ps.length≤1099511627776:=by
      have h1:=bS _ _ _ hp
      have h2:=eO _ _ _ hp
      rw [hv] at hl
      simp at hl
      omega
     simp only [rowOf,qj,Yt,↓Lj,↓Gy,reduceIte,Bool.false_eq_true,if_false,↓zG,↓AZ,↓yD,↓A7,yE,↓mI,Nat.reduceAdd,Nat.reduceSub,qU,bL,dU,fw,bK,dO,mh,newObj,iR,jP,aI,IU,uK,Fu,Ir,ne_eq,reduceCtorEq,not_false_eq_true,true_and,length_cons,length_nil,nil_append]
     refine ⟨by decide,fun _=>trivial,rfl,by decide,rfl,rfl,rfl,?_,by simp;omega,by simp;omega,fun _ _ h=>h.elim,by decide,fun _=>trivial,rfl,.inr ⟨by rw [htk];simp,ver+1,?_⟩,by omega⟩
     · intro y hy
       simp only [mem_singleton] at hy
       subst hy
       exact ⟨rfl,rfl⟩
     · rw [htk,List.map_append];rfl
 · rintro O ⟨hO,_⟩
   rw [List.length_map,List.take_length] at hO
   rcases hO with ⟨h0,rfl⟩ | ⟨h0,ver,rfl⟩
   · rw [if_pos h0]
     simp only [Yt,↓Lj,↓Gy,reduceIte,↓yD,yE,qU,fw,IU,uK,Fu,Ir,m_,jF,fC,Db,fzR,ne_eq,reduceCtorEq,not_false_eq_true,true_and,length_cons,length_nil,nil_append]
     exact ⟨by decide,fun _=>trivial,rfl,trivial⟩
   · rw [if_neg h0]
     simp only [Yt,↓Lj,↓Gy,reduceIte,↓yD,yE,qU,fw,IU,uK,Fu,Ir,m_,jF,fC,Db,fzR,ne_eq,reduceCtorEq,not_false_eq_true,true_and,length_cons,length_nil,nil_append]
     refine ⟨by decide,fun _=>trivial,rfl,?_⟩
     simp only [eZ,Nat.not_lt_zero,if_false,iU,List.getElem?_cons_succ,List.getElem?_cons_zero,Nat.le_refl,Nat.zero_le,decide_true,Bool.and_self,BEq.rfl,if_true,List.map_map]
     congr 1
theorem Rz (v:Vl) (n:Nd) (r:Vl) (ps:List Vl) (hv:v=n::r) (hl:v.length≤1099511627776) (hm:0≤n.many) (hp:parts n.many.toNat r=some ps) :
  ai Tryz.prog 151 [aS v] [] (.sl 1 (ps.map fun p=>aS (jX p)) none) []:=by
 refine (OC v n r ps hv hl hm hp).Yq fun w ok u h=>?_
 split at h
 · rename_i h0
   subst h0
   exact Lg h (by simp)
 · exact h
end Lp
namespace Lp
open Go Go.Proofs
open List (length_cons length_nil map_map mem_singleton nil_append)
def V4 (done:List Vl) (O:List Obj):Prop:=
 (done=[]∧O=[⟨91,1,[.sl 0 [] (some true)],true,1⟩])∨
 (done≠[]∧∃ ver,O=[⟨91,1,[.bG 1 ver],true,1⟩,⟨9,1,done.map fun p=>.str (nameOf p),true,ver⟩])
theorem OD (v:Vl) (n:Nd) (r:Vl) (ps:List Vl) (hv:v=n::r) (hl:v.length≤1099511627776) (hm:0≤n.many) (hp:parts n.many.toNat r=some ps) :
  ai Tryz.prog 149 [aS v] [] (if n.kind=6∧ps≠[] then .sl 1 (ps.map fun p=>.str (nameOf p)) none else .sl 0 [] (some true)) []:=by
 subst hv
 refine Om.pure (T:=aR Tryz.prog [(174,Br)]) 2 hD (aj (af GI ah)) aZ (by decide) ?_
 (conv=>arg 4;cbv);simp only [↓zG,Eb,↓AZ,↓yD,↓A7,yE,↓mI,Nat.reduceAdd,Nat.reduceSub,qU,bL,caR,taR,Br,Nat.reduceBEq,BEq.rfl,cond_true,cond_false,rE,newObj,aI,↓y8,↓Lj,a_,fw,aL,dZ,aS,aA,Fq,Fs,IU,uK,List.map_cons,Int.reduceToNat,Int.toNat_zero,Int.reduceLE,Nat.reduceLeDiff,forall_const,Bool.not_false,Bool.and_self,↓Gy,Yt,m_,jF,fC,Db,Fu,Ir,ne_eq,reduceCtorEq,not_false_eq_true,true_and,length_cons,length_nil,nil_append]
 refine ⟨rfl,fun hk=>⟨n::r,rfl,?_⟩,fun hk=>?_⟩
 · have hk6:n.kind=6:=of_decide_eq_true hk
   refine Rq 186 [.addr (aS (n::r))] (ps.map rowOf) (fun i O=>V4 (ps.take i) O∧i≤ps.length) rfl rfl rfl trivial (Ee (n::r) n r ps rfl hl hm hp) ?_ ⟨.inl ⟨by simp,rfl⟩,Nat.zero_le _⟩ ?_ ?_ ?_
   · intro y hy
     obtain ⟨p,_,rfl⟩:=List.mem_map.1 hy
     rfl
   · rintro i O ⟨h | ⟨_,ver,rfl⟩,_⟩
     · rw [h.2]
       refine ⟨by simp,?_⟩
       intro o ho x hx c hc
       simp only [mem_singleton] at ho
       subst ho
       simp only [mem_singleton] at hx
       subst hx
       simp only [PV.cells,mem_singleton] at hc
       subst hc
       rfl
     · refine ⟨by simp,?_⟩
       intro o ho x hx c hc
       simp only [List.mem_cons,List.not_mem_nil,or_false] at ho
       rcases ho with rfl | rfl
       · simp only [mem_singleton] at hx
         subst hx
         simp only [PV.cells,mem_singleton] at hc
         subst hc
         rfl
       · simp only [List.mem_map] at hx
         obtain ⟨p,_,rfl⟩:=hx
         simp only [PV.cells,mem_singleton] at hc
         subst hc
         rfl
   · rintro i args O ⟨hO,hi⟩ ha
     rw [List.getElem?_map] at ha
     obtain ⟨p,hpi,rfl⟩:∃ p,ps[i]?=some p∧rowOf p=args:=by
      cases hx:ps[i]? with
      | none=>rw [hx] at ha;simp at ha
      | some p=>rw [hx] at ha;exact ⟨p,rfl,by simpa using ha⟩
     have hil:i<ps.length:=(List.getElem?_eq_some_iff.1 hpi).1
     have htk:ps.take (i+1)=ps.take i++[p]:=by rw [List.take_add_one,hpi];rfl
     rcases hO with ⟨h0,rfl⟩ | ⟨h0,ver,rfl⟩
     · simp only [rowOf,qj,Yt,↓Lj,↓Gy,reduceIte,Bool.false_eq_true,if_false,↓zG,↓AZ,↓yD,↓A7,yE,↓mI,Nat.reduceAdd,Nat.reduceSub,qU,bL,dU,fw,bK,dO,mh,newObj,iR,jP,aI,IU,uK,Fu,Ir,ne_eq,reduceCtorEq,not_false_eq_true,true_and,length_cons,length_nil,nil_append]
       refine ⟨by decide,fun _=>trivial,rfl,by decide,rfl,rfl,rfl,?_,by decide,by decide,by decide,fun _=>trivial,rfl,.inr ⟨by rw [htk];simp,1,?_⟩,by omega⟩
       · intro y hy
         simp only [mem_singleton] at hy
         subst hy
         exact ⟨rfl,rfl⟩
       · rw [htk,h0];rfl
     · have hlen:ps.length≤1099511627776:=by
        have h1:=bS _ _ _ hp
        have h2:=eO _ _ _ hp
        simp at hl
        omega
       simp only [rowOf,qj,Yt,↓Lj,↓Gy,reduceIte,Bool.false_eq_true,if_false,↓zG,↓AZ,↓yD,↓A7,yE,↓mI,Nat.reduceAdd,Nat.reduceSub,qU,bL,dU,fw,bK,dO,mh,newObj,iR,jP,aI,IU,uK,Fu,Ir,ne_eq,reduceCtorEq,not_false_eq_true,true_and,length_cons,length_nil,nil_append]
       refine ⟨by decide,fun _=>trivial,rfl,by decide,rfl,rfl,rfl,?_,by simp;omega,by simp;omega,fun _ _ h=>h.elim,by decide,fun _=>trivial,rfl,.inr ⟨by rw [htk];simp,ver+1,?_⟩,by omega⟩
       · intro y hy
         simp only [mem_singleton] at hy
         subst hy
         exact ⟨rfl,rfl⟩
       · rw [htk,List.map_append];rfl
   · rintro O ⟨hO,_⟩
     rw [List.length_map,List.take_length] at hO
     rcases hO with ⟨h0,rfl⟩ | ⟨h0,ver,rfl⟩
     · rw [if_neg (fun h=>h.2 h0)]
       simp only [Yt,↓Lj,↓Gy,reduceIte,↓yD,yE,qU,fw,IU,uK,Fu,Ir,m_,jF,fC,Db,fzR,ne_eq,reduceCtorEq,not_false_eq_true,true_and,length_cons,length_nil,nil_append]
       simp
     · rw [if_pos ⟨hk6,h0⟩]
       simp only [Yt,↓Lj,↓Gy,reduceIte,↓yD,yE,qU,fw,IU,uK,Fu,Ir,m_,jF,fC,Db,fzR,ne_eq,reduceCtorEq,not_false_eq_true,true_and,length_cons,length_nil,nil_append]
       refine ⟨by decide,rfl,?_⟩
       simp only [eZ,Nat.not_lt_zero,if_false,iU,List.getElem?_cons_succ,List.getElem?_cons_zero,Nat.le_refl,Nat.zero_le,decide_true,Bool.and_self,BEq.rfl,if_true,map_map]
       congr 1
 · have hk6:n.kind≠6:=of_decide_eq_false hk
   rw [if_neg (fun h=>hk6 h.1)]
theorem RA (v:Vl) (n:Nd) (r:Vl) (ps:List Vl) (hv:v=n::r) (hl:v.length≤1099511627776) (hm:0≤n.many) (hp:parts n.many.toNat r=some ps) :
  ai Tryz.prog 149 [aS v] [] (.sl 1 ((KO n ps).map .str) none) []:=by
 refine (OD v n r ps hv hl hm hp).Yq fun w ok u h=>?_
 unfold KO
 by_cases hk:n.kind=6
 · rw [if_pos hk]
   by_cases h0:ps=[]
   · subst h0
     rw [if_neg (fun h=>h.2 rfl)] at h
     exact Lg h (by simp)
   · rw [if_pos ⟨hk,h0⟩] at h
     rw [map_map]
     exact h
 · rw [if_neg hk]
   rw [if_neg (fun h=>hk h.1)] at h
   exact Lg h (by simp)
end Lp
namespace Lp
open Go Go.Proofs
theorem YL (x y:Nd):eZ 1 0 [⟨27,6,[aA x],true,1⟩,⟨27,6,[aA y],true,1⟩] (.bJ 0 1 0 0)=.addr (aA x):=rfl
theorem YM (x y:Nd):eZ 1 0 [⟨27,6,[aA x],true,1⟩,⟨27,6,[aA y],true,1⟩] (.bJ 1 1 0 0)=.addr (aA y):=rfl
theorem jw (x:Nd):eZ 1 0 [⟨27,6,[aA x],true,1⟩] (.bJ 0 1 0 0)=.addr (aA x):=rfl
theorem tf (p:Prop):p=True∨p=False:=by
 by_cases h:p
 · exact .inl (eq_true h)
 · exact .inr (eq_false h)
end Lp
namespace Lp
open Go Go.Proofs
open Nat (reduceAdd reduceLeDiff reduceMul reduceSub)
open Int (reduceLE reduceToNat)
open Bool (false_eq_true)
theorem jy (c:UInt8) (n:Nat) (h:n<256):(c<UInt8.ofNat n↔c.toNat<n)∧(UInt8.ofNat n≤c↔n≤c.toNat):=by
 have e:(UInt8.ofNat n).toNat=n:=by simp [UInt8.toNat_ofNat'];omega
 constructor
 · rw [UInt8.lt_iff_toNat_lt,e]
 · rw [UInt8.le_iff_toNat_le,e]
theorem RB {s:List UInt8}{i:Nat}{c:UInt8}(h:s[i]?=some c):gV s i=(decide (128≤c.toNat) && decide (c.toNat<192)):=by
 have h1:128≤c↔128≤c.toNat:=(jy c 128 (by omega)).2
 have h2:c<192↔c.toNat<192:=(jy c 192 (by omega)).1
 simp only [gV,h]
 rw [decide_eq_decide.2 h1,decide_eq_decide.2 h2]
theorem V5 (s:List UInt8) (i:Int) (hi:0≤i):ai Tryz.prog 92 [.str s,.int .i64 i] [] (.bool (gV s i.toNat)) []:=by
 refine Bc.pure (T:=aR Tryz.prog []) 0 hD (aj ah) aZ (by decide) ?_
 rcases Nat.lt_or_ge i.toNat s.length with h | h
 · have hg:=List.getElem?_eq_getElem h
   generalize s[i.toNat]=c at hg
   (conv=>arg 4;cbv);simp(maxSteps:=400000)only[↓aT,aU,BEq.rfl,reduceIte,reduceCtorEq,Nat.reduceLT,reduceAdd,reduceSub,reduceMul,Nat.reduceBEq,reduceLeDiff,reduceToNat,reduceLE,hg,RB hg]
   refine ⟨fun _=>⟨hi,fun h1=>⟨hi,?_⟩,fun h1=>?_⟩,fun h2=>absurd (by omega) h2⟩
   · have:128≤c.toNat:=by omega
     simp only [this,decide_true,Bool.true_and]
     exact decide_eq_decide.2 (by omega)
   · have:¬ 128≤c.toNat:=by omega
     simp only [this,decide_false,Bool.false_and]
 · have hn:s[i.toNat]?=none:=List.getElem?_eq_none h
   (conv=>arg 4;cbv);simp(maxSteps:=400000)only[↓aT,aU,BEq.rfl,reduceIte,reduceCtorEq,Nat.reduceLT,reduceAdd,reduceSub,reduceMul,Nat.reduceBEq,reduceLeDiff,reduceToNat,reduceLE]
   simp only [gV,hn]
   exact ⟨fun hh=>absurd hh (by omega),fun _=>trivial⟩
def eB:dD:=fun args objs K=>match args with
 | [.str s,.int .i64 i]=>(0≤i)∧K (.bool (gV s i.toNat)) objs 0
 | _=>False
theorem RD:aB Tryz.prog 92 (eB):=by
 intro args objs K h
 unfold eB at h
 split at h
 · rename_i s i
   obtain ⟨h1,hk⟩:=h
   exact ⟨_,_,_,.pure _ rfl (V5 s i h1),hk⟩
 · exact h.elim
theorem zV (s:List UInt8) (i k:Nat):gV (s.drop i) k=gV s (i+k):=by
 simp only [gV,List.getElem?_drop]
theorem Dn {s:List UInt8}{i:Nat}(h:gV s i=true):∃ d,s[i]?=some d:=by
 unfold gV at h
 split at h
 · rename_i b hb;exact ⟨b,hb⟩
 · cases h
theorem V6 (s:List UInt8) (i:Nat) (hi:i<s.length) (hl:s.length≤4611686018427387904):ai Tryz.prog 62 [.str s,.int .i64 i] [] (.int .i64 (bY (s.drop i):Nat)) []:=by
 have hg:=List.getElem?_eq_getElem hi
 have hd:=List.drop_eq_getElem_cons hi
 generalize s[i]=c at hg hd
 have c0:gV (s.drop (i+1)) 0=gV s (i+1):=zV s (i+1) 0
 have c1:gV (s.drop (i+1)) 1=gV s (i+2):=zV s (i+1) 1
 have c2:gV (s.drop (i+1)) 2=gV s (i+3):=zV s (i+1) 2
 have n1:((i:Int)+1).toNat=i+1:=by omega
 have n2:((i:Int)+2).toNat=i+2:=by omega
 have n3:((i:Int)+3).toNat=i+3:=by omega
 have z0:(0≤(i:Int))=True:=eq_true (by omega)
 have z1:(0≤(i:Int)+1)=True:=eq_true (by omega)
 have z2:(0≤(i:Int)+2)=True:=eq_true (by omega)
 have z3:(0≤(i:Int)+3)=True:=eq_true (by omega)
 have i1:(-9223372036854775808≤(i:Int)+1∧(i:Int)+1≤9223372036854775807)=True:=eq_true ⟨by omega,by omega⟩
 have i2:(-9223372036854775808≤(i:Int)+2∧(i:Int)+2≤9223372036854775807)=True:=eq_true ⟨by omega,by omega⟩
 have i3:(-9223372036854775808≤(i:Int)+3∧(i:Int)+3≤9223372036854775807)=True:=eq_true ⟨by omega,by omega⟩
 suffices gen:∀ Q:Exit→St→Prop,(∀ (l:List (Nat×PV)) (v:Nat),l6 l 4=.int .i64 v→v=bY (c::s.drop (i+1))→Q .ret ⟨dH 109 l,[]⟩)→
   kS Tryz.prog D (aR Tryz.prog [(92,eB)]) qV Q (bU [.str s,.int .i64 i] 109) by
  rw [hd]
  refine Ba.pure (T:=aR Tryz.prog [(92,eB)]) 0 hD (aj (af RD ah)) aZ (by decide) ?_
  refine gen _ fun l v h1 h2=>?_
  subst h2
  simp only [m_,jF,fC,acG,rM,Nat.reduceLT,h1,List.map_cons,List.map_nil,Db]
 intro Q hQ
 have hc:c.toNat<256:=c.toNat_lt
 have h6:c.toNat<128∨(128≤c.toNat∧c.toNat<194)∨(194≤c.toNat∧c.toNat<224)∨(224≤c.toNat∧c.toNat<240)∨(240≤c.toNat∧c.toNat<245)∨245≤c.toNat:=by omega
 rcases h6 with h | h | h | h | h | h
 · skip
   have f0:(((c.toNat:Int)<128)=True):=eq_true (by omega)
   have f1:((128≤(c.toNat:Int))=False):=eq_false (by omega)
   have f2:((c<128)=True):=eq_true ((jy c 128 (by omega)).1.2 (by omega))
   have f3:((128≤c)=False):=eq_false fun hh=>by have:=(jy c 128 (by omega)).2.1 hh;omega
   have f4:(((c.toNat:Int)<194)=True):=eq_true (by omega)
   have f5:((194≤(c.toNat:Int))=False):=eq_false (by omega)
   have f6:((c<194)=True):=eq_true ((jy c 194 (by omega)).1.2 (by omega))
   have f7:((194≤c)=False):=eq_false fun hh=>by have:=(jy c 194 (by omega)).2.1 hh;omega
   have f8:(((c.toNat:Int)<224)=True):=eq_true (by omega)
   have f9:((224≤(c.toNat:Int))=False):=eq_false (by omega)
   have f10:((c<224)=True):=eq_true ((jy c 224 (by omega)).1.2 (by omega))
   have f11:((224≤c)=False):=eq_false fun hh=>by have:=(jy c 224 (by omega)).2.1 hh;omega
   have f12:(((c.toNat:Int)<240)=True):=eq_true (by omega)
   have f13:((240≤(c.toNat:Int))=False):=eq_false (by omega)
   have f14:((c<240)=True):=eq_true ((jy c 240 (by omega)).1.2 (by omega))
   have f15:((240≤c)=False):=eq_false fun hh=>by have:=(jy c 240 (by omega)).2.1 hh;omega
   have f16:(((c.toNat:Int)<245)=True):=eq_true (by omega)
   have f17:((245≤(c.toNat:Int))=False):=eq_false (by omega)
   have f18:((c<245)=True):=eq_true ((jy c 245 (by omega)).1.2 (by omega))
   have f19:((245≤c)=False):=eq_false fun hh=>by have:=(jy c 245 (by omega)).2.1 hh;omega
   (conv=>arg 4;cbv);simp(maxSteps:=400000)only[↓aT,aU,BEq.rfl,reduceIte,reduceCtorEq,Nat.reduceLT,reduceAdd,reduceSub,reduceMul,Nat.reduceBEq,reduceLeDiff,reduceToNat,reduceLE,hg,↓eB,n1,n2,n3,z0,z1,z2,z3,i1,i2,i3,f0,f1,f2,f3,f4,f5,f6,f7,f8,f9,f10,f11,f12,f13,f14,f15,f16,f17,f18,f19]
   exact hQ _ 1 rfl (by simp only [true_or,or_true,or_self,or_false,false_or,and_self,true_and,and_true,false_and,and_false,if_true,if_false,false_eq_true,c0,c1,c2,bY,f0,f1,f2,f3,f4,f5,f6,f7,f8,f9,f10,f11,f12,f13,f14,f15,f16,f17,f18,f19])
 · skip
   have f0:(((c.toNat:Int)<128)=False):=eq_false (by omega)
   have f1:((128≤(c.toNat:Int))=True):=eq_true (by omega)
   have f2:((c<128)=False):=eq_false fun hh=>by have:=(jy c 128 (by omega)).1.1 hh;omega
   have f3:((128≤c)=True):=eq_true ((jy c 128 (by omega)).2.2 (by omega))
   have f4:(((c.toNat:Int)<194)=True):=eq_true (by omega)
   have f5:((194≤(c.toNat:Int))=False):=eq_false (by omega)
   have f6:((c<194)=True):=eq_true ((jy c 194 (by omega)).1.2 (by omega))
   have f7:((194≤c)=False):=eq_false fun hh=>by have:=(jy c 194 (by omega)).2.1 hh;omega
   have f8:(((c.toNat:Int)<224)=True):=eq_true (by omega)
   have f9:((224≤(c.toNat:Int))=False):=eq_false (by omega)
   have f10:((c<224)=True):=eq_true ((jy c 224 (by omega)).1.2 (by omega))
   have f11:((224≤c)=False):=eq_false fun hh=>by have:=(jy c 224 (by omega)).2.1 hh;omega
   have f12:(((c.toNat:Int)<240)=True):=eq_true (by omega)
   have f13:((240≤(c.toNat:Int))=False):=eq_false (by omega)
   have f14:((c<240)=True):=eq_true ((jy c 240 (by omega)).1.2 (by omega))
   have f15:((240≤c)=False):=eq_false fun hh=>by have:=(jy c 240 (by omega)).2.1 hh;omega
   have f16:(((c.toNat:Int)<245)=True):=eq_true (by omega)
   have f17:((245≤(c.toNat:Int))=False):=eq_false (by omega)
   have f18:((c<245)=True):=eq_true ((jy c 245 (by omega)).1.2 (by omega))
   have f19:((245≤c)=False):=eq_false fun hh=>by have:=(jy c 245 (by omega)).2.1 hh;omega
   (conv=>arg 4;cbv);simp(maxSteps:=400000)only[↓aT,aU,BEq.rfl,reduceIte,reduceCtorEq,Nat.reduceLT,reduceAdd,reduceSub,reduceMul,Nat.reduceBEq,reduceLeDiff,reduceToNat,reduceLE,hg,↓eB,n1,n2,n3,z0,z1,z2,z3,i1,i2,i3,f0,f1,f2,f3,f4,f5,f6,f7,f8,f9,f10,f11,f12,f13,f14,f15,f16,f17,f18,f19]
   exact hQ _ 0 rfl (by simp only [true_or,or_true,or_self,or_false,false_or,and_self,true_and,and_true,false_and,and_false,if_true,if_false,false_eq_true,c0,c1,c2,bY,f0,f1,f2,f3,f4,f5,f6,f7,f8,f9,f10,f11,f12,f13,f14,f15,f16,f17,f18,f19])
 · skip
   have f0:(((c.toNat:Int)<128)=False):=eq_false (by omega)
   have f1:((128≤(c.toNat:Int))=True):=eq_true (by omega)
   have f2:((c<128)=False):=eq_false fun hh=>by have:=(jy c 128 (by omega)).1.1 hh;omega
   have f3:((128≤c)=True):=eq_true ((jy c 128 (by omega)).2.2 (by omega))
   have f4:(((c.toNat:Int)<194)=False):=eq_false (by omega)
   have f5:((194≤(c.toNat:Int))=True):=eq_true (by omega)
   have f6:((c<194)=False):=eq_false fun hh=>by have:=(jy c 194 (by omega)).1.1 hh;omega
   have f7:((194≤c)=True):=eq_true ((jy c 194 (by omega)).2.2 (by omega))
   have f8:(((c.toNat:Int)<224)=True):=eq_true (by omega)
   have f9:((224≤(c.toNat:Int))=False):=eq_false (by omega)
   have f10:((c<224)=True):=eq_true ((jy c 224 (by omega)).1.2 (by omega))
   have f11:((224≤c)=False):=eq_false fun hh=>by have:=(jy c 224 (by omega)).2.1 hh;omega
   have f12:(((c.toNat:Int)<240)=True):=eq_true (by omega)
   have f13:((240≤(c.toNat:Int))=False):=eq_false (by omega)
   have f14:((c<240)=True):=eq_true ((jy c 240 (by omega)).1.2 (by omega))
   have f15:((240≤c)=False):=eq_false fun hh=>by have:=(jy c 240 (by omega)).2.1 hh;omega
   have f16:(((c.toNat:Int)<245)=True):=eq_true (by omega)
   have f17:((245≤(c.toNat:Int))=False):=eq_false (by omega)
   have f18:((c<245)=True):=eq_true ((jy c 245 (by omega)).1.2 (by omega))
   have f19:((245≤c)=False):=eq_false fun hh=>by have:=(jy c 245 (by omega)).2.1 hh;omega
   cases k1:gV s (i+1)
   · skip
     (conv=>arg 4;cbv);simp(maxSteps:=400000)only[↓aT,aU,BEq.rfl,reduceIte,reduceCtorEq,Nat.reduceLT,reduceAdd,reduceSub,reduceMul,Nat.reduceBEq,reduceLeDiff,reduceToNat,reduceLE,hg,↓eB,n1,n2,n3,z0,z1,z2,z3,i1,i2,i3,f0,f1,f2,f3,f4,f5,f6,f7,f8,f9,f10,f11,f12,f13,f14,f15,f16,f17,f18,f19,k1]
     exact hQ _ 0 rfl (by simp only [true_or,or_true,or_self,or_false,false_or,and_self,true_and,and_true,false_and,and_false,if_true,if_false,false_eq_true,c0,c1,c2,bY,f0,f1,f2,f3,f4,f5,f6,f7,f8,f9,f10,f11,f12,f13,f14,f15,f16,f17,f18,f19,k1])
   · skip
     (conv=>arg 4;cbv);simp(maxSteps:=400000)only[↓aT,aU,BEq.rfl,reduceIte,reduceCtorEq,Nat.reduceLT,reduceAdd,reduceSub,reduceMul,Nat.reduceBEq,reduceLeDiff,reduceToNat,reduceLE,hg,↓eB,n1,n2,n3,z0,z1,z2,z3,i1,i2,i3,f0,f1,f2,f3,f4,f5,f6,f7,f8,f9,f10,f11,f12,f13,f14,f15,f16,f17,f18,f19,k1]
     exact hQ _ 2 rfl (by simp only [true_or,or_true,or_self,or_false,false_or,and_self,true_and,and_true,false_and,and_false,if_true,if_false,false_eq_true,c0,c1,c2,bY,f0,f1,f2,f3,f4,f5,f6,f7,f8,f9,f10,f11,f12,f13,f14,f15,f16,f17,f18,f19,k1])
 · skip
   have f0:(((c.toNat:Int)<128)=False):=eq_false (by omega)
   have f1:((128≤(c.toNat:Int))=True):=eq_true (by omega)
   have f2:((c<128)=False):=eq_false fun hh=>by have:=(jy c 128 (by omega)).1.1 hh;omega
   have f3:((128≤c)=True):=eq_true ((jy c 128 (by omega)).2.2 (by omega))
   have f4:(((c.toNat:Int)<194)=False):=eq_false (by omega)
   have f5:((194≤(c.toNat:Int))=True):=eq_true (by omega)
   have f6:((c<194)=False):=eq_false fun hh=>by have:=(jy c 194 (by omega)).1.1 hh;omega
   have f7:((194≤c)=True):=eq_true ((jy c 194 (by omega)).2.2 (by omega))
   have f8:(((c.toNat:Int)<224)=False):=eq_false (by omega)
   have f9:((224≤(c.toNat:Int))=True):=eq_true (by omega)
   have f10:((c<224)=False):=eq_false fun hh=>by have:=(jy c 224 (by omega)).1.1 hh;omega
   have f11:((224≤c)=True):=eq_true ((jy c 224 (by omega)).2.2 (by omega))
   have f12:(((c.toNat:Int)<240)=True):=eq_true (by omega)
   have f13:((240≤(c.toNat:Int))=False):=eq_false (by omega)
   have f14:((c<240)=True):=eq_true ((jy c 240 (by omega)).1.2 (by omega))
   have f15:((240≤c)=False):=eq_false fun hh=>by have:=(jy c 240 (by omega)).2.1 hh;omega
   have f16:(((c.toNat:Int)<245)=True):=eq_true (by omega)
   have f17:((245≤(c.toNat:Int))=False):=eq_false (by omega)
   have f18:((c<245)=True):=eq_true ((jy c 245 (by omega)).1.2 (by omega))
   have f19:((245≤c)=False):=eq_false fun hh=>by have:=(jy c 245 (by omega)).2.1 hh;omega
   cases k1:gV s (i+1)
   · skip
     (conv=>arg 4;cbv);simp(maxSteps:=400000)only[↓aT,aU,BEq.rfl,reduceIte,reduceCtorEq,Nat.reduceLT,reduceAdd,reduceSub,reduceMul,Nat.reduceBEq,reduceLeDiff,reduceToNat,reduceLE,hg,↓eB,n1,n2,n3,z0,z1,z2,z3,i1,i2,i3,f0,f1,f2,f3,f4,f5,f6,f7,f8,f9,f10,f11,f12,f13,f14,f15,f16,f17,f18,f19,k1]
     exact hQ _ 0 rfl (by simp only [true_or,or_true,or_self,or_false,false_or,and_self,true_and,and_true,false_and,and_false,if_true,if_false,false_eq_true,c0,c1,c2,bY,f0,f1,f2,f3,f4,f5,f6,f7,f8,f9,f10,f11,f12,f13,f14,f15,f16,f17,f18,f19,k1])
   cases k2:gV s (i+2)
   · skip
     (conv=>arg 4;cbv);simp(maxSteps:=400000)only[↓aT,aU,BEq.rfl,reduceIte,reduceCtorEq,Nat.reduceLT,reduceAdd,reduceSub,reduceMul,Nat.reduceBEq,reduceLeDiff,reduceToNat,reduceLE,hg,↓eB,n1,n2,n3,z0,z1,z2,z3,i1,i2,i3,f0,f1,f2,f3,f4,f5,f6,f7,f8,f9,f10,f11,f12,f13,f14,f15,f16,f17,f18,f19,k1,k2]
     exact hQ _ 0 rfl (by simp only [true_or,or_true,or_self,or_false,false_or,and_self,true_and,and_true,false_and,and_false,if_true,if_false,false_eq_true,c0,c1,c2,bY,f0,f1,f2,f3,f4,f5,f6,f7,f8,f9,f10,f11,f12,f13,f14,f15,f16,f17,f18,f19,k1,k2])
   obtain ⟨d,hd1⟩:=Dn k1
   have hhd:(List.drop (i+1) s).headD 0=d:=by rw [List.headD_eq_head?_getD,List.head?_drop,hd1];rfl
   by_cases hc224:c.toNat=224
   · have Uw:c.toNat≠237:=by omega
     have e0:(((c.toNat:Int)=224)=True):=eq_true (by omega)
     have e1:((c=224)=True):=eq_true (UInt8.toNat_inj.1 (by simpa using hc224))
     have e2:(((c.toNat:Int)=237)=False):=eq_false (by omega)
     have e3:((c=237)=False):=eq_false fun hh=>Uw (by rw [hh];rfl)
     by_cases hdl:d.toNat<160
     · skip
       have g0:(((d.toNat:Int)<160)=True):=eq_true (by omega)
       have g1:((160≤(d.toNat:Int))=False):=eq_false (by omega)
       have g2:((d<160)=True):=eq_true ((jy d 160 (by omega)).1.2 (by omega))
       have g3:((160≤d)=False):=eq_false fun hh=>by have:=(jy d 160 (by omega)).2.1 hh;omega
       (conv=>arg 4;cbv);simp(maxSteps:=400000)only[↓aT,aU,BEq.rfl,reduceIte,reduceCtorEq,Nat.reduceLT,reduceAdd,reduceSub,reduceMul,Nat.reduceBEq,reduceLeDiff,reduceToNat,reduceLE,hg,↓eB,n1,n2,n3,z0,z1,z2,z3,i1,i2,i3,f0,f1,f2,f3,f4,f5,f6,f7,f8,f9,f10,f11,f12,f13,f14,f15,f16,f17,f18,f19,k1,k2,hd1,hhd,e0,e1,e2,e3,g0,g1,g2,g3]
       exact hQ _ 0 rfl (by simp only [true_or,or_true,or_self,or_false,false_or,and_self,true_and,and_true,false_and,and_false,if_true,if_false,false_eq_true,c0,c1,c2,bY,f0,f1,f2,f3,f4,f5,f6,f7,f8,f9,f10,f11,f12,f13,f14,f15,f16,f17,f18,f19,k1,k2,hd1,hhd,e0,e1,e2,e3,g0,g1,g2,g3])
     · skip
       have g0:(((d.toNat:Int)<160)=False):=eq_false (by omega)
       have g1:((160≤(d.toNat:Int))=True):=eq_true (by omega)
       have g2:((d<160)=False):=eq_false fun hh=>by have:=(jy d 160 (by omega)).1.1 hh;omega
       have g3:((160≤d)=True):=eq_true ((jy d 160 (by omega)).2.2 (by omega))
       (conv=>arg 4;cbv);simp(maxSteps:=400000)only[↓aT,aU,BEq.rfl,reduceIte,reduceCtorEq,Nat.reduceLT,reduceAdd,reduceSub,reduceMul,Nat.reduceBEq,reduceLeDiff,reduceToNat,reduceLE,hg,↓eB,n1,n2,n3,z0,z1,z2,z3,i1,i2,i3,f0,f1,f2,f3,f4,f5,f6,f7,f8,f9,f10,f11,f12,f13,f14,f15,f16,f17,f18,f19,k1,k2,hd1,hhd,e0,e1,e2,e3,g0,g1,g2,g3]
       exact hQ _ 3 rfl (by simp only [true_or,or_true,or_self,or_false,false_or,and_self,true_and,and_true,false_and,and_false,if_true,if_false,false_eq_true,c0,c1,c2,bY,f0,f1,f2,f3,f4,f5,f6,f7,f8,f9,f10,f11,f12,f13,f14,f15,f16,f17,f18,f19,k1,k2,hd1,hhd,e0,e1,e2,e3,g0,g1,g2,g3])
   · by_cases Uw:c.toNat=237
     · skip
       have e0:(((c.toNat:Int)=224)=False):=eq_false (by omega)
       have e1:((c=224)=False):=eq_false fun hh=>hc224 (by rw [hh];rfl)
       have e2:(((c.toNat:Int)=237)=True):=eq_true (by omega)
       have e3:((c=237)=True):=eq_true (UInt8.toNat_inj.1 (by simpa using Uw))
       by_cases hdl:d.toNat<160
       · skip
         have g0:(((d.toNat:Int)<160)=True):=eq_true (by omega)
         have g1:((160≤(d.toNat:Int))=False):=eq_false (by omega)
         have g2:((d<160)=True):=eq_true ((jy d 160 (by omega)).1.2 (by omega))
         have g3:((160≤d)=False):=eq_false fun hh=>by have:=(jy d 160 (by omega)).2.1 hh;omega
         (conv=>arg 4;cbv);simp(maxSteps:=400000)only[↓aT,aU,BEq.rfl,reduceIte,reduceCtorEq,Nat.reduceLT,reduceAdd,reduceSub,reduceMul,Nat.reduceBEq,reduceLeDiff,reduceToNat,reduceLE,hg,↓eB,n1,n2,n3,z0,z1,z2,z3,i1,i2,i3,f0,f1,f2,f3,f4,f5,f6,f7,f8,f9,f10,f11,f12,f13,f14,f15,f16,f17,f18,f19,k1,k2,hd1,hhd,e0,e1,e2,e3,g0,g1,g2,g3]
         exact hQ _ 3 rfl (by simp only [true_or,or_true,or_self,or_false,false_or,and_self,true_and,and_true,false_and,and_false,if_true,if_false,false_eq_true,c0,c1,c2,bY,f0,f1,f2,f3,f4,f5,f6,f7,f8,f9,f10,f11,f12,f13,f14,f15,f16,f17,f18,f19,k1,k2,hd1,hhd,e0,e1,e2,e3,g0,g1,g2,g3])
       · skip
         have g0:(((d.toNat:Int)<160)=False):=eq_false (by omega)
         have g1:((160≤(d.toNat:Int))=True):=eq_true (by omega)
         have g2:((d<160)=False):=eq_false fun hh=>by have:=(jy d 160 (by omega)).1.1 hh;omega
         have g3:((160≤d)=True):=eq_true ((jy d 160 (by omega)).2.2 (by omega))
         (conv=>arg 4;cbv);simp(maxSteps:=400000)only[↓aT,aU,BEq.rfl,reduceIte,reduceCtorEq,Nat.reduceLT,reduceAdd,reduceSub,reduceMul,Nat.reduceBEq,reduceLeDiff,reduceToNat,reduceLE,hg,↓eB,n1,n2,n3,z0,z1,z2,z3,i1,i2,i3,f0,f1,f2,f3,f4,f5,f6,f7,f8,f9,f10,f11,f12,f13,f14,f15,f16,f17,f18,f19,k1,k2,hd1,hhd,e0,e1,e2,e3,g0,g1,g2,g3]
         exact hQ _ 0 rfl (by simp only [true_or,or_true,or_self,or_false,false_or,and_self,true_and,and_true,false_and,and_false,if_true,if_false,false_eq_true,c0,c1,c2,bY,f0,f1,f2,f3,f4,f5,f6,f7,f8,f9,f10,f11,f12,f13,f14,f15,f16,f17,f18,f19,k1,k2,hd1,hhd,e0,e1,e2,e3,g0,g1,g2,g3])
     · skip
       have e0:(((c.toNat:Int)=224)=False):=eq_false (by omega)
       have e1:((c=224)=False):=eq_false fun hh=>hc224 (by rw [hh];rfl)
       have e2:(((c.toNat:Int)=237)=False):=eq_false (by omega)
       have e3:((c=237)=False):=eq_false fun hh=>Uw (by rw [hh];rfl)
       (conv=>arg 4;cbv);simp(maxSteps:=400000)only[↓aT,aU,BEq.rfl,reduceIte,reduceCtorEq,Nat.reduceLT,reduceAdd,reduceSub,reduceMul,Nat.reduceBEq,reduceLeDiff,reduceToNat,reduceLE,hg,↓eB,n1,n2,n3,z0,z1,z2,z3,i1,i2,i3,f0,f1,f2,f3,f4,f5,f6,f7,f8,f9,f10,f11,f12,f13,f14,f15,f16,f17,f18,f19,k1,k2,hd1,hhd,e0,e1,e2,e3]
       exact hQ _ 3 rfl (by simp only [true_or,or_true,or_self,or_false,false_or,and_self,true_and,and_true,false_and,and_false,if_true,if_false,false_eq_true,c0,c1,c2,bY,f0,f1,f2,f3,f4,f5,f6,f7,f8,f9,f10,f11,f12,f13,f14,f15,f16,f17,f18,f19,k1,k2,hd1,hhd,e0,e1,e2,e3])
 · skip
   have f0:(((c.toNat:Int)<128)=False):=eq_false (by omega)
   have f1:((128≤(c.toNat:Int))=True):=eq_true (by omega)
   have f2:((c<128)=False):=eq_false fun hh=>by have:=(jy c 128 (by omega)).1.1 hh;omega
   have f3:((128≤c)=True):=eq_true ((jy c 128 (by omega)).2.2 (by omega))
   have f4:(((c.toNat:Int)<194)=False):=eq_false (by omega)
   have f5:((194≤(c.toNat:Int))=True):=eq_true (by omega)
   have f6:((c<194)=False):=eq_false fun hh=>by have:=(jy c 194 (by omega)).1.1 hh;omega
   have f7:((194≤c)=True):=eq_true ((jy c 194 (by omega)).2.2 (by omega))
   have f8:(((c.toNat:Int)<224)=False):=eq_false (by omega)
   have f9:((224≤(c.toNat:Int))=True):=eq_true (by omega)
   have f10:((c<224)=False):=eq_false fun hh=>by have:=(jy c 224 (by omega)).1.1 hh;omega
   have f11:((224≤c)=True):=eq_true ((jy c 224 (by omega)).2.2 (by omega))
   have f12:(((c.toNat:Int)<240)=False):=eq_false (by omega)
   have f13:((240≤(c.toNat:Int))=True):=eq_true (by omega)
   have f14:((c<240)=False):=eq_false fun hh=>by have:=(jy c 240 (by omega)).1.1 hh;omega
   have f15:((240≤c)=True):=eq_true ((jy c 240 (by omega)).2.2 (by omega))
   have f16:(((c.toNat:Int)<245)=True):=eq_true (by omega)
   have f17:((245≤(c.toNat:Int))=False):=eq_false (by omega)
   have f18:((c<245)=True):=eq_true ((jy c 245 (by omega)).1.2 (by omega))
   have f19:((245≤c)=False):=eq_false fun hh=>by have:=(jy c 245 (by omega)).2.1 hh;omega
   cases k1:gV s (i+1)
   · skip
     (conv=>arg 4;cbv);simp(maxSteps:=400000)only[↓aT,aU,BEq.rfl,reduceIte,reduceCtorEq,Nat.reduceLT,reduceAdd,reduceSub,reduceMul,Nat.reduceBEq,reduceLeDiff,reduceToNat,reduceLE,hg,↓eB,n1,n2,n3,z0,z1,z2,z3,i1,i2,i3,f0,f1,f2,f3,f4,f5,f6,f7,f8,f9,f10,f11,f12,f13,f14,f15,f16,f17,f18,f19,k1]
     exact hQ _ 0 rfl (by simp only [true_or,or_true,or_self,or_false,false_or,and_self,true_and,and_true,false_and,and_false,if_true,if_false,false_eq_true,c0,c1,c2,bY,f0,f1,f2,f3,f4,f5,f6,f7,f8,f9,f10,f11,f12,f13,f14,f15,f16,f17,f18,f19,k1])
   cases k2:gV s (i+2)
   · skip
     (conv=>arg 4;cbv);simp(maxSteps:=400000)only[↓aT,aU,BEq.rfl,reduceIte,reduceCtorEq,Nat.reduceLT,reduceAdd,reduceSub,reduceMul,Nat.reduceBEq,reduceLeDiff,reduceToNat,reduceLE,hg,↓eB,n1,n2,n3,z0,z1,z2,z3,i1,i2,i3,f0,f1,f2,f3,f4,f5,f6,f7,f8,f9,f10,f11,f12,f13,f14,f15,f16,f17,f18,f19,k1,k2]
     exact hQ _ 0 rfl (by simp only [true_or,or_true,or_self,or_false,false_or,and_self,true_and,and_true,false_and,and_false,if_true,if_false,false_eq_true,c0,c1,c2,bY,f0,f1,f2,f3,f4,f5,f6,f7,f8,f9,f10,f11,f12,f13,f14,f15,f16,f17,f18,f19,k1,k2])
   cases k3:gV s (i+3)
   · skip
     (conv=>arg 4;cbv);simp(maxSteps:=400000)only[↓aT,aU,BEq.rfl,reduceIte,reduceCtorEq,Nat.reduceLT,reduceAdd,reduceSub,reduceMul,Nat.reduceBEq,reduceLeDiff,reduceToNat,reduceLE,hg,↓eB,n1,n2,n3,z0,z1,z2,z3,i1,i2,i3,f0,f1,f2,f3,f4,f5,f6,f7,f8,f9,f10,f11,f12,f13,f14,f15,f16,f17,f18,f19,k1,k2,k3]
     exact hQ _ 0 rfl (by simp only [true_or,or_true,or_self,or_false,false_or,and_self,true_and,and_true,false_and,and_false,if_true,if_false,false_eq_true,c0,c1,c2,bY,f0,f1,f2,f3,f4,f5,f6,f7,f8,f9,f10,f11,f12,f13,f14,f15,f16,f17,f18,f19,k1,k2,k3])
   obtain ⟨d,hd1⟩:=Dn k1
   have hhd:(List.drop (i+1) s).headD 0=d:=by rw [List.headD_eq_head?_getD,List.head?_drop,hd1];rfl
   by_cases hc240:c.toNat=240
   · have Ux:c.toNat≠244:=by omega
     have e0:(((c.toNat:Int)=240)=True):=eq_true (by omega)
     have e1:((c=240)=True):=eq_true (UInt8.toNat_inj.1 (by simpa using hc240))
     have e2:(((c.toNat:Int)=244)=False):=eq_false (by omega)
     have e3:((c=244)=False):=eq_false fun hh=>Ux (by rw [hh];rfl)
     by_cases hdl:d.toNat<144
     · skip
       have g0:(((d.toNat:Int)<144)=True):=eq_true (by omega)
       have g1:((144≤(d.toNat:Int))=False):=eq_false (by omega)
       have g2:((d<144)=True):=eq_true ((jy d 144 (by omega)).1.2 (by omega))
       have g3:((144≤d)=False):=eq_false fun hh=>by have:=(jy d 144 (by omega)).2.1 hh;omega
       (conv=>arg 4;cbv);simp(maxSteps:=400000)only[↓aT,aU,BEq.rfl,reduceIte,reduceCtorEq,Nat.reduceLT,reduceAdd,reduceSub,reduceMul,Nat.reduceBEq,reduceLeDiff,reduceToNat,reduceLE,hg,↓eB,n1,n2,n3,z0,z1,z2,z3,i1,i2,i3,f0,f1,f2,f3,f4,f5,f6,f7,f8,f9,f10,f11,f12,f13,f14,f15,f16,f17,f18,f19,k1,k2,k3,hd1,hhd,e0,e1,e2,e3,g0,g1,g2,g3]
       exact hQ _ 0 rfl (by simp only [true_or,or_true,or_self,or_false,false_or,and_self,true_and,and_true,false_and,and_false,if_true,if_false,false_eq_true,c0,c1,c2,bY,f0,f1,f2,f3,f4,f5,f6,f7,f8,f9,f10,f11,f12,f13,f14,f15,f16,f17,f18,f19,k1,k2,k3,hd1,hhd,e0,e1,e2,e3,g0,g1,g2,g3])
     · skip
       have g0:(((d.toNat:Int)<144)=False):=eq_false (by omega)
       have g1:((144≤(d.toNat:Int))=True):=eq_true (by omega)
       have g2:((d<144)=False):=eq_false fun hh=>by have:=(jy d 144 (by omega)).1.1 hh;omega
       have g3:((144≤d)=True):=eq_true ((jy d 144 (by omega)).2.2 (by omega))
       (conv=>arg 4;cbv);simp(maxSteps:=400000)only[↓aT,aU,BEq.rfl,reduceIte,reduceCtorEq,Nat.reduceLT,reduceAdd,reduceSub,reduceMul,Nat.reduceBEq,reduceLeDiff,reduceToNat,reduceLE,hg,↓eB,n1,n2,n3,z0,z1,z2,z3,i1,i2,i3,f0,f1,f2,f3,f4,f5,f6,f7,f8,f9,f10,f11,f12,f13,f14,f15,f16,f17,f18,f19,k1,k2,k3,hd1,hhd,e0,e1,e2,e3,g0,g1,g2,g3]
       exact hQ _ 4 rfl (by simp only [true_or,or_true,or_self,or_false,false_or,and_self,true_and,and_true,false_and,and_false,if_true,if_false,false_eq_true,c0,c1,c2,bY,f0,f1,f2,f3,f4,f5,f6,f7,f8,f9,f10,f11,f12,f13,f14,f15,f16,f17,f18,f19,k1,k2,k3,hd1,hhd,e0,e1,e2,e3,g0,g1,g2,g3])
   · by_cases Ux:c.toNat=244
     · skip
       have e0:(((c.toNat:Int)=240)=False):=eq_false (by omega)
       have e1:((c=240)=False):=eq_false fun hh=>hc240 (by rw [hh];rfl)
       have e2:(((c.toNat:Int)=244)=True):=eq_true (by omega)
       have e3:((c=244)=True):=eq_true (UInt8.toNat_inj.1 (by simpa using Ux))
       by_cases hdl:d.toNat<144
       · skip
         have g0:(((d.toNat:Int)<144)=True):=eq_true (by omega)
         have g1:((144≤(d.toNat:Int))=False):=eq_false (by omega)
         have g2:((d<144)=True):=eq_true ((jy d 144 (by omega)).1.2 (by omega))
         have g3:((144≤d)=False):=eq_false fun hh=>by have:=(jy d 144 (by omega)).2.1 hh;omega
         (conv=>arg 4;cbv);simp(maxSteps:=400000)only[↓aT,aU,BEq.rfl,reduceIte,reduceCtorEq,Nat.reduceLT,reduceAdd,reduceSub,reduceMul,Nat.reduceBEq,reduceLeDiff,reduceToNat,reduceLE,hg,↓eB,n1,n2,n3,z0,z1,z2,z3,i1,i2,i3,f0,f1,f2,f3,f4,f5,f6,f7,f8,f9,f10,f11,f12,f13,f14,f15,f16,f17,f18,f19,k1,k2,k3,hd1,hhd,e0,e1,e2,e3,g0,g1,g2,g3]
         exact hQ _ 4 rfl (by simp only [true_or,or_true,or_self,or_false,false_or,and_self,true_and,and_true,false_and,and_false,if_true,if_false,false_eq_true,c0,c1,c2,bY,f0,f1,f2,f3,f4,f5,f6,f7,f8,f9,f10,f11,f12,f13,f14,f15,f16,f17,f18,f19,k1,k2,k3,hd1,hhd,e0,e1,e2,e3,g0,g1,g2,g3])
       · skip
         have g0:(((d.toNat:Int)<144)=False):=eq_false (by omega)
         have g1:((144≤(d.toNat:Int))=True):=eq_true (by omega)
         have g2:((d<144)=False):=eq_false fun hh=>by have:=(jy d 144 (by omega)).1.1 hh;omega
         have g3:((144≤d)=True):=eq_true ((jy d 144 (by omega)).2.2 (by omega))
         (conv=>arg 4;cbv);simp(maxSteps:=400000)only[↓aT,aU,BEq.rfl,reduceIte,reduceCtorEq,Nat.reduceLT,reduceAdd,reduceSub,reduceMul,Nat.reduceBEq,reduceLeDiff,reduceToNat,reduceLE,hg,↓eB,n1,n2,n3,z0,z1,z2,z3,i1,i2,i3,f0,f1,f2,f3,f4,f5,f6,f7,f8,f9,f10,f11,f12,f13,f14,f15,f16,f17,f18,f19,k1,k2,k3,hd1,hhd,e0,e1,e2,e3,g0,g1,g2,g3]
         exact hQ _ 0 rfl (by simp only [true_or,or_true,or_self,or_false,false_or,and_self,true_and,and_true,false_and,and_false,if_true,if_false,false_eq_true,c0,c1,c2,bY,f0,f1,f2,f3,f4,f5,f6,f7,f8,f9,f10,f11,f12,f13,f14,f15,f16,f17,f18,f19,k1,k2,k3,hd1,hhd,e0,e1,e2,e3,g0,g1,g2,g3])
     · skip
       have e0:(((c.toNat:Int)=240)=False):=eq_false (by omega)
       have e1:((c=240)=False):=eq_false fun hh=>hc240 (by rw [hh];rfl)
       have e2:(((c.toNat:Int)=244)=False):=eq_false (by omega)
       have e3:((c=244)=False):=eq_false fun hh=>Ux (by rw [hh];rfl)
       (conv=>arg 4;cbv);simp(maxSteps:=400000)only[↓aT,aU,BEq.rfl,reduceIte,reduceCtorEq,Nat.reduceLT,reduceAdd,reduceSub,reduceMul,Nat.reduceBEq,reduceLeDiff,reduceToNat,reduceLE,hg,↓eB,n1,n2,n3,z0,z1,z2,z3,i1,i2,i3,f0,f1,f2,f3,f4,f5,f6,f7,f8,f9,f10,f11,f12,f13,f14,f15,f16,f17,f18,f19,k1,k2,k3,hd1,hhd,e0,e1,e2,e3]
       exact hQ _ 4 rfl (by simp only [true_or,or_true,or_self,or_false,false_or,and_self,true_and,and_true,false_and,and_false,if_true,if_false,false_eq_true,c0,c1,c2,bY,f0,f1,f2,f3,f4,f5,f6,f7,f8,f9,f10,f11,f12,f13,f14,f15,f16,f17,f18,f19,k1,k2,k3,hd1,hhd,e0,e1,e2,e3])
 · skip
   have f0:(((c.toNat:Int)<128)=False):=eq_false (by omega)
   have f1:((128≤(c.toNat:Int))=True):=eq_true (by omega)
   have f2:((c<128)=False):=eq_false fun hh=>by have:=(jy c 128 (by omega)).1.1 hh;omega
   have f3:((128≤c)=True):=eq_true ((jy c 128 (by omega)).2.2 (by omega))
   have f4:(((c.toNat:Int)<194)=False):=eq_false (by omega)
   have f5:((194≤(c.toNat:Int))=True):=eq_true (by omega)
   have f6:((c<194)=False):=eq_false fun hh=>by have:=(jy c 194 (by omega)).1.1 hh;omega
   have f7:((194≤c)=True):=eq_true ((jy c 194 (by omega)).2.2 (by omega))
   have f8:(((c.toNat:Int)<224)=False):=eq_false (by omega)
   have f9:((224≤(c.toNat:Int))=True):=eq_true (by omega)
   have f10:((c<224)=False):=eq_false fun hh=>by have:=(jy c 224 (by omega)).1.1 hh;omega
   have f11:((224≤c)=True):=eq_true ((jy c 224 (by omega)).2.2 (by omega))
   have f12:(((c.toNat:Int)<240)=False):=eq_false (by omega)
   have f13:((240≤(c.toNat:Int))=True):=eq_true (by omega)
   have f14:((c<240)=False):=eq_false fun hh=>by have:=(jy c 240 (by omega)).1.1 hh;omega
   have f15:((240≤c)=True):=eq_true ((jy c 240 (by omega)).2.2 (by omega))
   have f16:(((c.toNat:Int)<245)=False):=eq_false (by omega)
   have f17:((245≤(c.toNat:Int))=True):=eq_true (by omega)
   have f18:((c<245)=False):=eq_false fun hh=>by have:=(jy c 245 (by omega)).1.1 hh;omega
   have f19:((245≤c)=True):=eq_true ((jy c 245 (by omega)).2.2 (by omega))
   (conv=>arg 4;cbv);simp(maxSteps:=400000)only[↓aT,aU,BEq.rfl,reduceIte,reduceCtorEq,Nat.reduceLT,reduceAdd,reduceSub,reduceMul,Nat.reduceBEq,reduceLeDiff,reduceToNat,reduceLE,hg,↓eB,n1,n2,n3,z0,z1,z2,z3,i1,i2,i3,f0,f1,f2,f3,f4,f5,f6,f7,f8,f9,f10,f11,f12,f13,f14,f15,f16,f17,f18,f19]
   exact hQ _ 0 rfl (by simp only [true_or,or_true,or_self,or_false,false_or,and_self,true_and,and_true,false_and,and_false,if_true,if_false,false_eq_true,c0,c1,c2,bY,f0,f1,f2,f3,f4,f5,f6,f7,f8,f9,f10,f11,f12,f13,f14,f15,f16,f17,f18,f19])
theorem RF (s:List UInt8) (i:Int) (h0:0≤i) (hi:i.toNat<s.length) (hl:s.length≤4611686018427387904):ai Tryz.prog 62 [.str s,.int .i64 i] [] (.int .i64 (bY (s.drop i.toNat):Nat)) []:=by
 have e:i=(i.toNat:Int):=by omega
 rw [e]
 exact V6 s i.toNat hi hl
def xO:dD:=fun args objs K=>match args with
 | [.str s,.int .i64 i]=>(0≤i)∧(i.toNat<s.length)∧(s.length≤4611686018427387904)∧K (.int .i64 (bY (s.drop i.toNat):Nat)) objs 0
 | _=>False
theorem GJ:aB Tryz.prog 62 (xO):=by
 intro args objs K h
 unfold xO at h
 split at h
 · rename_i s i
   obtain ⟨h1,h2,h3,hk⟩:=h
   exact ⟨_,_,_,.pure _ rfl (RF s i h1 h2 h3),hk⟩
 · exact h.elim
end Lp
namespace Lp
open Go Go.Proofs
open Nat (reduceAdd reduceLeDiff reduceMul reduceSub)
open Int (reduceLE reduceToNat)
theorem GK (s:List UInt8):bY s≤s.length:=by
 cases s with
 | nil=>simp [bY]
 | cons c t=>
  have h0:∀ i,gV t i=true→i<t.length:=by
   intro i h
   obtain ⟨d,hd⟩:=Dn h
   exact (List.getElem?_eq_some_iff.1 hd).1
  simp only [bY,List.length_cons]
  split
  · omega
  · split
    · rename_i h;have:=h0 0 h.2.2;omega
    · split
      · rename_i h;have:=h0 1 h.2.2.2;split <;> omega
      · split
        · rename_i h;have:=h0 2 h.2.2.2.2;split <;> omega
        · omega
theorem YN (s:List UInt8) (hl:s.length≤4611686018427387904):ai Tryz.prog 25 [.str s] [] (.bool (utf s)) []:=by
 refine Df.bf (T:=aR Tryz.prog [(62,xO)]) 0 hD (aj (af GJ ah)) aZ (by decide) fun Q hQ=>?_
 (conv=>arg 4;cbv);simp(maxSteps:=400000)only[↓aT,aU,BEq.rfl,reduceIte,reduceCtorEq,Nat.reduceLT,reduceAdd,reduceSub,reduceMul,Nat.reduceBEq,reduceLeDiff,reduceToNat,reduceLE,hQ]
 refine aH (fun m S=>∃ i:Nat,i+m=s.length∧FL m (s.drop i)=utf s∧S=⟨dH 17 [(0,.str s),(3,.int .i64 i)],[]⟩) s.length ⟨0,by omega,rfl,?_⟩ ?_
 · simp only [bV,keepR,reduceAdd,ng,Nat.reduceBEq,List.map_nil]
   rfl
 rintro m S ⟨i,him,hu,rfl⟩
 simp(maxSteps:=400000)only[↓aT,aU,BEq.rfl,reduceIte,reduceCtorEq,Nat.reduceLT,reduceAdd,reduceSub,reduceMul,Nat.reduceBEq,reduceLeDiff,reduceToNat,reduceLE,hQ,↓xO]
 have hle:=GK (s.drop i)
 simp only [List.length_drop] at hle
 refine ⟨fun h=>⟨by omega,by omega,hl,fun h0=>?_,fun h0=>⟨⟨by omega,by omega⟩,m-bY (s.drop i),by omega,i+bY (s.drop i),by omega,?_,by simp⟩⟩,fun h=>?_⟩
 · obtain ⟨m,rfl⟩:∃ k,m=k+1:=⟨m-1,by omega⟩
   have hne:(s.drop i).isEmpty=false:=by
    rw [List.isEmpty_eq_false_iff]
    intro he
    have:=congrArg List.length he
    simp at this;omega
   rw [← hu,FL,hne]
   have:bY (s.drop i)=0:=by omega
   simp [this]
 · obtain ⟨m,rfl⟩:∃ k,m=k+1:=⟨m-1,by omega⟩
   have hne:(s.drop i).isEmpty=false:=by
    rw [List.isEmpty_eq_false_iff]
    intro he
    have:=congrArg List.length he
    simp at this;omega
   rw [← hu]
   conv=>rhs;rw [FL,hne]
   have h1:(bY (s.drop i) !=0)=true:=by simp;omega
   rw [h1,Bool.false_or,Bool.true_and,List.drop_drop]
   refine CB _ _ _ ?_ ?_
   · simp;omega
   · simp;omega
 · rw [← hu]
   have hn:s.drop i=[]:=List.drop_eq_nil_of_le (by omega)
   rw [hn]
   cases m <;> rfl
def gK:dD:=fun args objs K=>match args with
 | [.str s]=>(s.length≤4611686018427387904)∧K (.bool (utf s)) objs 0
 | _=>False
theorem Dp:aB Tryz.prog 25 (gK):=by
 intro args objs K h
 unfold gK at h
 split at h
 · rename_i s
   obtain ⟨h1,hk⟩:=h
   exact ⟨_,_,_,.pure _ rfl (YN s h1),hk⟩
 · exact h.elim
theorem LB (s:List UInt8) (hl:s.length≤4611686018427387904):ai Tryz.prog 108 [.str s] [] (.bool (fU s)) []:=by
 refine wJ.bf (T:=aR Tryz.prog []) 0 hD (aj ah) aZ (by decide) fun Q hQ=>?_
 (conv=>arg 4;cbv);simp(maxSteps:=400000)only[↓aT,aU,BEq.rfl,reduceIte,reduceCtorEq,Nat.reduceLT,reduceAdd,reduceSub,reduceMul,Nat.reduceBEq,reduceLeDiff,reduceToNat,reduceLE,hQ]
 refine aH (fun m S=>∃ i:Nat,i+m=s.length∧fU (s.drop i)=fU s∧S=⟨dH 20 [(0,.str s),(3,.int .i64 i)],[]⟩) s.length ⟨0,by omega,rfl,?_⟩ ?_
 · simp only [bV,keepR,reduceAdd,ng,Nat.reduceBEq,List.map_nil]
   rfl
 rintro m S ⟨i,him,hu,rfl⟩
 rcases Nat.lt_or_ge i s.length with h | h
 · have hg:=List.getElem?_eq_getElem h
   have hd:=List.drop_eq_getElem_cons h
   generalize s[i]=c at hg hd
   simp(maxSteps:=400000)only[↓aT,aU,BEq.rfl,reduceIte,reduceCtorEq,Nat.reduceLT,reduceAdd,reduceSub,reduceMul,Nat.reduceBEq,reduceLeDiff,reduceToNat,reduceLE,hQ,hg]
   have hf:fU (c::s.drop (i+1))=(decide (48≤c) && decide (c≤57) && fU (s.drop (i+1))):=by simp [fU]
   rw [hd,hf] at hu
   refine ⟨fun _=>⟨by omega,fun h1=>?_,fun h1=>⟨by omega,fun h2=>?_,fun h2=>⟨⟨by omega,by omega⟩,m-1,by omega,i+1,by omega,?_,by simp⟩⟩⟩,fun h1=>absurd (by omega) h1⟩
   · have:¬ (48≤c):=fun h=>by have:=(jy c 48 (by omega)).2.1 h;omega
     rw [← hu];simp [this]
   · have:¬ (c≤57):=fun h=>by have:c.toNat≤(57:UInt8).toNat:=UInt8.le_iff_toNat_le.1 h;have h57:(57:UInt8).toNat=57:=rfl;omega
     rw [← hu];simp [this]
   · have h3:48≤c:=(jy c 48 (by omega)).2.2 (by omega)
     have h4:c≤57:=UInt8.le_iff_toNat_le.2 (by have h57:(57:UInt8).toNat=57:=rfl;omega)
     rw [← hu];simp [h3,h4]
 · simp(maxSteps:=400000)only[↓aT,aU,BEq.rfl,reduceIte,reduceCtorEq,Nat.reduceLT,reduceAdd,reduceSub,reduceMul,Nat.reduceBEq,reduceLeDiff,reduceToNat,reduceLE,hQ]
   refine ⟨fun h1=>absurd h1 (by omega),fun _=>?_⟩
   rw [← hu,List.drop_eq_nil_of_le h];rfl
def pu:dD:=fun args objs K=>match args with
 | [.str s]=>(s.length≤4611686018427387904)∧K (.bool (fU s)) objs 0
 | _=>False
theorem GL:aB Tryz.prog 108 (pu):=by
 intro args objs K h
 unfold pu at h
 split at h
 · rename_i s
   obtain ⟨h1,hk⟩:=h
   exact ⟨_,_,_,.pure _ rfl (LB s h1),hk⟩
 · exact h.elim
theorem oD (n:Nd):rC n=true↔n.many=0∧fU n.s=true∧n.s.length≤100∧-1000≤n.e∧n.e≤1000∧n.s.length+n.e≤1000∧
  (if n.s=[] then n.neg=false∧n.e=0 else n.s.head?≠some 48∧n.s.getLast?≠some 48):=by
 simp only [rC,Bool.and_eq_true,decide_eq_true_eq,beq_iff_eq,and_assoc]
 split <;> simp
theorem jl {b:Bool}(h:b=true→False):b=false:=by cases b <;> simp_all
theorem I4 (n:Nd) (hl:n.s.length≤4611686018427387904) (hk:n.kind=3) (hn:n.name=[]):ai Tryz.prog 97 [aA n] [] (.bool (rC n)) []:=by
 refine zO.bf (T:=aR Tryz.prog [(108,pu)]) 0 hD (aj (af GL ah)) aZ (by decide) fun Q hQ=>?_
 (conv=>arg 4;cbv);simp(maxSteps:=400000)only[↓aT,aU,BEq.rfl,reduceIte,reduceCtorEq,Nat.reduceLT,reduceAdd,reduceSub,reduceMul,Nat.reduceBEq,reduceLeDiff,reduceToNat,reduceLE,hQ]
 refine aO _ (Weak.freeze 1 0 (Nat.le_refl _) _) ?_
 cases hf:fU n.s
 · simp(maxSteps:=400000)only[↓aT,aU,BEq.rfl,reduceIte,reduceCtorEq,Nat.reduceLT,reduceAdd,reduceSub,reduceMul,Nat.reduceBEq,reduceLeDiff,reduceToNat,reduceLE,hQ,jw,↓pu,hk,hn,hf]
   have:rC n=false:=jl fun h=>by have:=((oD n).1 h).2.1;rw [hf] at this;cases this
   exact ⟨fun _=>⟨hl,this⟩,fun _=>this⟩
 by_cases hs:n.s=[]
 · simp(maxSteps:=400000)only[↓aT,aU,BEq.rfl,reduceIte,reduceCtorEq,Nat.reduceLT,reduceAdd,reduceSub,reduceMul,Nat.reduceBEq,reduceLeDiff,reduceToNat,reduceLE,hQ,jw,↓pu,hk,hn,hs]
   have hf0:fU []=true:=rfl
   have key:=oD n
   rw [if_pos hs,hs] at key
   have hlz:(([]:List UInt8).length:Int)=0:=rfl
   simp only [hf0,ifR,hlz,Int.zero_add,List.length_nil]
   refine ⟨fun h0=>⟨fun h=>absurd h (by omega),fun _=>⟨fun h=>jl fun hb=>?_,fun h1=>⟨fun h=>jl fun hb=>?_,fun h2=>⟨⟨by omega,by omega⟩,fun h=>jl fun hb=>?_,fun h3=>?_⟩⟩⟩⟩,fun h0=>jl fun hb=>?_⟩
   · have:=key.1 hb;omega
   · have:=key.1 hb;omega
   · have:=key.1 hb;omega
   · refine ⟨fun hng=>jl fun hb=>?_,fun hng=>?_⟩
     · have:=(key.1 hb).2.2.2.2.2.2.1;rw [hng] at this;cases this
     · by_cases hz:n.e=0
       · rw [decide_eq_true hz,key]
         exact ⟨h0,hf0,by simp,by omega,by omega,by simp;omega,hng,hz⟩
       · rw [decide_eq_false hz]
         exact jl fun hb=>hz (key.1 hb).2.2.2.2.2.2.2
   · have:=key.1 hb;omega
 · obtain ⟨c,t,hct⟩:∃ c t,n.s=c::t:=by
    cases h:n.s with
    | nil=>exact absurd h hs
    | cons c t=>exact ⟨c,t,rfl⟩
   have hlen:0<n.s.length:=by rw [hct];simp
   have g0:n.s[0]?=some c:=by rw [hct];rfl
   have g1:n.s[n.s.length-1]?=some (n.s[n.s.length-1]'(by omega)):=List.getElem?_eq_getElem (by omega)
   have t1:((n.s.length:Int)-1).toNat=n.s.length-1:=by omega
   have hl1:n.s.getLast?=some (n.s[n.s.length-1]'(by omega)):=by rw [List.getLast?_eq_getElem?,g1]
   have hh1:n.s.head?=some c:=by rw [hct];rfl
   generalize n.s[n.s.length-1]'(by omega)=d at g1 hl1
   have i1:(-9223372036854775808≤(n.s.length:Int)-1∧(n.s.length:Int)-1≤9223372036854775807)=True:=eq_true ⟨by omega,by omega⟩
   have z1:(0≤(n.s.length:Int)-1)=True:=eq_true (by omega)
   simp(maxSteps:=400000)only[↓aT,aU,BEq.rfl,reduceIte,reduceCtorEq,Nat.reduceLT,reduceAdd,reduceSub,reduceMul,Nat.reduceBEq,reduceLeDiff,reduceToNat,reduceLE,hQ,jw,↓pu,hk,hn,hs,hf,g0,t1,g1,i1,z1]
   have key:=oD n
   rw [if_neg hs,hh1,hl1] at key
   have e48:∀ x:UInt8,x=48↔x.toNat=48:=fun x=>⟨fun h=>by rw [h];rfl,fun h=>UInt8.toNat_inj.1 (by simpa using h)⟩
   refine ⟨fun h0=>⟨hl,fun h=>jl fun hb=>?_,fun h1=>⟨fun h=>jl fun hb=>?_,fun h2=>⟨fun h=>jl fun hb=>?_,fun h3=>⟨⟨by omega,by omega⟩,fun h=>jl fun hb=>?_,fun h4=>⟨fun h=>jl fun hb=>?_,fun h5=>?_⟩⟩⟩⟩⟩,fun h0=>jl fun hb=>?_⟩
   · have:=key.1 hb;omega
   · have:=key.1 hb;omega
   · have:=key.1 hb;omega
   · have:=key.1 hb;omega
   · refine (key.1 hb).2.2.2.2.2.2.1 ?_
     rw [(e48 c).2 (by omega)]
   · by_cases hz:d.toNat=48
     · have hz':(d.toNat:Int)=48:=by omega
       rw [decide_eq_true hz']
       refine jl fun hb=>(key.1 hb).2.2.2.2.2.2.2 ?_
       rw [(e48 d).2 hz]
     · have hz':¬ (d.toNat:Int)=48:=by omega
       rw [decide_eq_false hz',Bool.not_false,key]
       refine ⟨h0,hf,by omega,by omega,by omega,by omega,fun h=>?_,fun h=>?_⟩
       · have:=(e48 c).1 (by simpa using h);omega
       · exact hz ((e48 d).1 (by simpa using h))
   · exact h0 (key.1 hb).1
def fT:dD:=fun args objs K=>match args with
 | [a0]=>fE aA a0 (HK.mk:HK fun n=>(n.s.length≤4611686018427387904)∧(n.kind=3)∧(n.name=[])∧K (.bool (rC n)) objs 0)
 | _=>False
theorem GN:aB Tryz.prog 97 (fT):=by
 intro args objs K h
 unfold fT at h
 split at h
 · rename_i a0
   obtain ⟨n,rfl,h1,h2,h3,hk⟩:=h
   exact ⟨_,_,_,.pure _ rfl (I4 n h1 h2 h3),hk⟩
 · exact h.elim
end Lp
namespace Lp
open Go Go.Proofs
def sS (v:Vl) (i:Nat):Int:=match iB v.length (v.drop i) 1 with
 | some c=>(i+c:Nat)
 | none=>-1
theorem zW {v:Vl}{i:Nat}(h:(iB v.length (v.drop i) 1).map (fun c=>i+c)=none):sS v i=-1:=by
 unfold sS
 cases hx:iB v.length (v.drop i) 1 with
 | none=>rfl
 | some c=>rw [hx] at h;simp at h
theorem GQ {v:Vl}{i j:Nat}(h:(iB v.length (v.drop i) 1).map (fun c=>i+c)=some j):sS v i=j:=by
 unfold sS
 cases hx:iB v.length (v.drop i) 1 with
 | none=>rw [hx] at h;simp at h
 | some c=>rw [hx] at h;simp only [Option.map_some,Option.some.injEq] at h;rw [← h]
theorem ql (L:Nat) (v:Vl):iB L v 0=some 0:=by cases v <;> rfl
theorem V7 (v:Vl) (i:Nat) (hi:i≤v.length) (hl:v.length≤1000000):ai Tryz.prog 68 [aS v,.int .i64 i] [] (.int .i64 (sS v i)) []:=by
 refine Bb.bf (T:=aR Tryz.prog []) 0 hD (aj ah) aZ (by decide) fun Q hQ=>?_
 (conv=>arg 4;cbv);simp(maxSteps:=400000)only[↓aT,aU,BEq.rfl,reduceIte,reduceCtorEq,Nat.reduceLT,Nat.reduceAdd,Nat.reduceSub,Nat.reduceMul,Nat.reduceBEq,Nat.reduceLeDiff,Int.reduceToNat,Int.reduceLE,hQ]
 refine aH (fun m S=>∃ j k:Nat,j+m=v.length∧k≤1+j*1000000∧(iB v.length (v.drop i) 1).map (fun c=>i+c)=(iB v.length (v.drop j) k).map (fun c=>j+c)∧
  S=⟨dH 41 [(0,aS v),(1,.int .i64 j),(5,.int .i64 k)],[]⟩) (v.length-i) ⟨i,1,by omega,by omega,rfl,?_⟩ ?_
 · simp only [bV,keepR,Nat.reduceAdd,ng,Nat.reduceBEq,List.map_nil]
   rfl
 rintro m S ⟨j,k,hjm,hk,hn,rfl⟩
 rcases Nat.lt_or_ge j v.length with h | h
 · have hg:=List.getElem?_eq_getElem h
   have hd:=List.drop_eq_getElem_cons h
   generalize v[j]=n at hg hd
   simp(maxSteps:=400000)only[↓aT,aU,BEq.rfl,reduceIte,reduceCtorEq,Nat.reduceLT,Nat.reduceAdd,Nat.reduceSub,Nat.reduceMul,Nat.reduceBEq,Nat.reduceLeDiff,Int.reduceToNat,Int.reduceLE,hQ,hg]
   refine ⟨fun hk0=>⟨fun h'=>absurd h' (by omega),fun _=>⟨by omega,fun hm=>?_,fun hm=>⟨by omega,fun hm2=>?_,fun hm2=>?_⟩⟩⟩,fun hk0=>?_⟩
   · obtain ⟨k,rfl⟩:∃ q,k=q+1:=⟨k-1,by omega⟩
     rw [hd,iB,if_pos (.inl hm)] at hn
     rw [zW hn]
   · obtain ⟨k,rfl⟩:∃ q,k=q+1:=⟨k-1,by omega⟩
     rw [hd,iB,if_pos (.inr hm2)] at hn
     rw [zW hn]
   · obtain ⟨k,rfl⟩:∃ q,k=q+1:=⟨k-1,by omega⟩
     rw [hd,iB,if_neg (by omega)] at hn
     have hk2:(((k+1:Nat):Int)-1+n.many)=((k+n.many.toNat:Nat):Int):=by omega
     refine ⟨⟨by omega,by omega⟩,by omega,⟨by omega,by omega⟩,⟨by omega,by omega⟩,m-1,by omega,j+1,k+n.many.toNat,by omega,by omega,?_,?_⟩
     · rw [hn]
       cases iB v.length (v.drop (j+1)) (k+n.many.toNat) with
       | none=>rfl
       | some c=>simp;omega
     · rw [hk2];rfl
   · have hk1:k=0:=by omega
     subst hk1
     rw [ql] at hn
     rw [GQ (j:=j) (by simpa using hn)]
 · simp(maxSteps:=400000)only[↓aT,aU,BEq.rfl,reduceIte,reduceCtorEq,Nat.reduceLT,Nat.reduceAdd,Nat.reduceSub,Nat.reduceMul,Nat.reduceBEq,Nat.reduceLeDiff,Int.reduceToNat,Int.reduceLE,hQ]
   refine ⟨fun hk0=>⟨fun _=>?_,fun h'=>absurd (by omega) h'⟩,fun hk0=>?_⟩
   · obtain ⟨k,rfl⟩:∃ q,k=q+1:=⟨k-1,by omega⟩
     rw [List.drop_eq_nil_of_le h] at hn
     simp only [iB,Option.map_none] at hn
     rw [zW hn]
   · have hk1:k=0:=by omega
     subst hk1
     rw [ql] at hn
     rw [GQ (j:=j) (by simpa using hn)]
theorem RH (v:Vl) (i:Int) (h0:0≤i) (hi:i.toNat≤v.length) (hl:v.length≤1000000):ai Tryz.prog 68 [aS v,.int .i64 i] [] (.int .i64 (sS v i.toNat)) []:=by
 have e:i=(i.toNat:Int):=by omega
 rw [e]
 exact V7 v i.toNat hi hl
def jf:dD:=fun args objs K=>match args with
 | [a0,.int .i64 i]=>fE aS a0 (HK.mk:HK fun v=>(0≤i)∧(i.toNat≤v.length)∧(v.length≤1000000)∧K (.int .i64 (sS v i.toNat)) objs 0)
 | _=>False
theorem uM:aB Tryz.prog 68 (jf):=by
 intro args objs K h
 unfold jf at h
 split at h
 · rename_i a0 i
   obtain ⟨v,rfl,h1,h2,h3,hk⟩:=h
   exact ⟨_,_,_,.pure _ rfl (RH v i h1 h2 h3),hk⟩
 · exact h.elim
end Lp
namespace Lp
open Go Go.Proofs
open Nat (reduceAdd reduceLeDiff reduceMul reduceSub)
open Int (reduceEq reduceLE reduceToNat)
theorem RI (n:Nd) (hl:n.s.length≤4611686018427387904):ai Tryz.prog 69 [aA n] [] (.bool (bH n)) []:=by
 refine zN.bf (T:=aR Tryz.prog [(25,gK),(97,fT)]) 0 hD (aj (af Dp (af GN ah))) aZ (by decide) fun Q hQ=>?_
 have h8:n.kind=0∨n.kind=1∨n.kind=2∨n.kind=3∨n.kind=4∨n.kind=5∨n.kind=6∨(n.kind≠0∧n.kind≠1∧n.kind≠2∧n.kind≠3∧n.kind≠4∧n.kind≠5∧n.kind≠6):=by omega
 rcases h8 with hk | hk | hk | hk | hk | hk | hk | ⟨k0,k1,k2,k3,k4,k5,k6⟩
 · (conv=>arg 4;cbv);simp(maxSteps:=400000)only[↓aT,aU,BEq.rfl,reduceIte,reduceCtorEq,Nat.reduceLT,reduceAdd,reduceSub,reduceMul,Nat.reduceBEq,reduceLeDiff,reduceToNat,reduceLE,hQ,↓gK,↓fT,hk,reduceEq]
   rw [Bool.eq_iff_iff]
   simp [bH,hk,and_assoc]
 · (conv=>arg 4;cbv);simp(maxSteps:=400000)only[↓aT,aU,BEq.rfl,reduceIte,reduceCtorEq,Nat.reduceLT,reduceAdd,reduceSub,reduceMul,Nat.reduceBEq,reduceLeDiff,reduceToNat,reduceLE,hQ,↓gK,↓fT,hk,reduceEq]
   rw [Bool.eq_iff_iff]
   simp [bH,hk,and_assoc]
 · (conv=>arg 4;cbv);simp(maxSteps:=400000)only[↓aT,aU,BEq.rfl,reduceIte,reduceCtorEq,Nat.reduceLT,reduceAdd,reduceSub,reduceMul,Nat.reduceBEq,reduceLeDiff,reduceToNat,reduceLE,hQ,↓gK,↓fT,hk,reduceEq]
   rw [Bool.eq_iff_iff]
   simp [bH,hk,and_assoc]
 · (conv=>arg 4;cbv);simp(maxSteps:=400000)only[↓aT,aU,BEq.rfl,reduceIte,reduceCtorEq,Nat.reduceLT,reduceAdd,reduceSub,reduceMul,Nat.reduceBEq,reduceLeDiff,reduceToNat,reduceLE,hQ,↓gK,↓fT,hk,reduceEq]
   refine ⟨hl,?_⟩
   simp [bH,hk,rC]
 · (conv=>arg 4;cbv);simp(maxSteps:=400000)only[↓aT,aU,BEq.rfl,reduceIte,reduceCtorEq,Nat.reduceLT,reduceAdd,reduceSub,reduceMul,Nat.reduceBEq,reduceLeDiff,reduceToNat,reduceLE,hQ,↓gK,↓fT,hk,reduceEq]
   refine ⟨hl,?_⟩
   cases hu:utf n.s
   · simp [zS,bH,hk,hu]
   · simp only [ifR]
     rw [Bool.eq_iff_iff]
     simp [bH,hk,hu,and_assoc]
 · (conv=>arg 4;cbv);simp(maxSteps:=400000)only[↓aT,aU,BEq.rfl,reduceIte,reduceCtorEq,Nat.reduceLT,reduceAdd,reduceSub,reduceMul,Nat.reduceBEq,reduceLeDiff,reduceToNat,reduceLE,hQ,↓gK,↓fT,hk,reduceEq]
   refine ⟨fun hm=>?_,fun hm=>?_⟩
   · rw [Bool.eq_iff_iff]
     simp [bH,hk,hm,and_assoc]
   · simp [bH,hk,hm]
 · (conv=>arg 4;cbv);simp(maxSteps:=400000)only[↓aT,aU,BEq.rfl,reduceIte,reduceCtorEq,Nat.reduceLT,reduceAdd,reduceSub,reduceMul,Nat.reduceBEq,reduceLeDiff,reduceToNat,reduceLE,hQ,↓gK,↓fT,hk,reduceEq]
   refine ⟨fun hm=>?_,fun hm=>?_⟩
   · rw [Bool.eq_iff_iff]
     simp [bH,hk,hm,and_assoc]
   · simp [bH,hk,hm]
 · (conv=>arg 4;cbv);simp(maxSteps:=400000)only[↓aT,aU,BEq.rfl,reduceIte,reduceCtorEq,Nat.reduceLT,reduceAdd,reduceSub,reduceMul,Nat.reduceBEq,reduceLeDiff,reduceToNat,reduceLE,hQ,↓gK,↓fT,k0,k1,k2,k3,k4,k5,k6]
   simp [bH,k0,k1,k2,k3,k4,k5,k6]
def sV:dD:=fun args objs K=>match args with
 | [a0]=>fE aA a0 (HK.mk:HK fun n=>(n.s.length≤4611686018427387904)∧K (.bool (bH n)) objs 0)
 | _=>False
theorem OE:aB Tryz.prog 69 (sV):=by
 intro args objs K h
 unfold sV at h
 split at h
 · rename_i a0
   obtain ⟨n,rfl,h1,hk⟩:=h
   exact ⟨_,_,_,.pure _ rfl (RI n h1),hk⟩
 · exact h.elim
end Lp
namespace Lp
open Go Go.Proofs
open Nat (reduceAdd reduceLeDiff reduceMul reduceSub)
open Int (reduceEq reduceLE reduceToNat)
def zX (kind:Int) (name:List UInt8):List Vl→Bool
 | []=>true
 | q::_=>kind !=6 || Op.bytesLess name (nameOf q)
structure Small (v:Vl):Prop where
 len:v.length≤1000000
 txt:∀ n ∈ v,n.s.length≤4611686018427387904∧n.name.length≤4611686018427387904
theorem sW (L:Nat):∀ (v:Vl) (j k c:Nat),iB L v (j+k)=some c→∃ c1 c2,iB L v j=some c1∧iB L (v.drop c1) k=some c2∧c=c1+c2
 | v,0,k,c,h=>⟨0,c,ql L v,by simpa using h,by simp⟩
 | [],j+1,k,c,h=>by
  rw [show j+1+k=(j+k)+1 by omega] at h
  simp [iB] at h
 | n::v,j+1,k,c,h=>by
  rw [show j+1+k=(j+k)+1 by omega,iB] at h
  split at h
  · cases h
  · rename_i hn
    cases hs:iB L v (j+k+n.many.toNat) with
    | none=>rw [hs] at h;simp at h
    | some c'=>
     rw [hs] at h
     simp only [Option.map_some,Option.some.injEq] at h
     rw [show j+k+n.many.toNat=(j+n.many.toNat)+k by omega] at hs
     obtain ⟨c1,c2,h1,h2,rfl⟩:=sW L v _ k c' hs
     refine ⟨c1+1,c2,?_,by simpa using h2,by omega⟩
     rw [iB,if_neg hn,h1];rfl
theorem Bt {v:Vl}{i c:Nat}(h:iB v.length (v.drop i) 1=some c):sS v i=(i+c:Nat):=by
 simp only [sS,h]
theorem OG (v:Vl) (at':Nat) (n:Nd) (c:Nat) (hs:Small v) (hat:v[at']?=some n) (hm:0≤n.many) (hc:iB v.length (v.drop (at'+1)) n.many.toNat=some c) (ps:List Vl) (hps:parts n.many.toNat (v.drop (at'+1))=some ps) :
  ai Tryz.prog 70 [aS v,.int .i64 at'] [] (.bool (kT n.kind ps)) []:=by
 obtain ⟨hl,htx⟩:=hs
 have aaM:=(List.getElem?_eq_some_iff.1 hat).1
 have hpl:=bS _ _ _ hps
 have GH:=eO _ _ _ hps
 simp only [List.length_drop] at GH
 refine yF.bf (T:=aR Tryz.prog [(25,gK),(68,jf)]) 0 hD (aj (af Dp (af uM ah))) aZ (by decide) fun Q hQ=>?_
 (conv=>arg 4;cbv);simp(maxSteps:=400000)only[↓aT,aU,BEq.rfl,reduceIte,reduceCtorEq,Nat.reduceLT,reduceAdd,reduceSub,reduceMul,Nat.reduceBEq,reduceLeDiff,reduceToNat,reduceLE,hQ]
 refine ⟨⟨by omega,by omega⟩,?_⟩
 refine aH (fun m S=>∃ (i c':Nat) (rest:List Vl),m=rest.length∧rest.length≤ps.length∧parts rest.length (v.drop i)=some rest∧iB v.length (v.drop i) rest.length=some c'∧kT n.kind rest=kT n.kind ps∧
  S=⟨dH 75 [(0,aS v),(1,.int .i64 at'),(5,.int .i64 i),(6,.int .i64 ((ps.length:Int)-rest.length))],[]⟩) ps.length ⟨at'+1,c,ps,rfl,Nat.le_refl _,by rw [hpl];exact hps,by rw [hpl];exact hc,rfl,?_⟩ ?_
 · simp only [bV,keepR,reduceAdd,ng,Nat.reduceBEq,List.map_nil]
   simp
 rintro m S ⟨i,c',rest,rfl,hrl,hrp,hrn,hrb,rfl⟩
 have hmn:n.many=(ps.length:Int):=by omega
 have z0:(0≤(at':Int))=True:=eq_true (by omega)
 have zi:(0≤(i:Int))=True:=eq_true (by omega)
 cases rest with
 | nil=>
  simp(maxSteps:=400000)only[↓aT,aU,BEq.rfl,reduceIte,reduceCtorEq,Nat.reduceLT,reduceAdd,reduceSub,reduceMul,Nat.reduceBEq,reduceLeDiff,reduceToNat,reduceLE,hQ,hat,hmn,z0]
  refine ⟨fun h=>absurd h (by simp),fun _=>?_⟩
  rw [← hrb];rfl
 | cons p qs=>
  obtain ⟨pc,qs',h1,h2,h3⟩:=eH (k:=qs.length) hrp
  simp only [List.cons.injEq] at h2
  obtain ⟨rfl,rfl⟩:=h2
  have hpc:=dY _ _ _ h1
  simp only [List.length_drop] at hpc
  have hil:i<v.length:=by omega
  have hgi:=List.getElem?_eq_getElem hil
  have hdi:=List.drop_eq_getElem_cons hil
  have I5:=htx _ (List.getElem_mem hil)
  generalize v[i]=pn at hgi hdi I5
  have hname:nameOf (List.take pc (v.drop i))=pn.name:=by
   obtain ⟨q,hq⟩:∃ q,pc=q+1:=⟨pc-1,by omega⟩
   rw [hdi,hq];rfl
  obtain ⟨c1,c2,e1,e2,e3⟩:=sW v.length (v.drop i) 1 qs.length c' (by rw [Nat.add_comm];exact hrn)
  have hcc:c1=pc:=by
   have:=nY _ _ _ _ e1
   rw [h1] at this
   exact (Option.some.inj this).symm
  subst hcc
  have hnx:=Bt e1
  simp only [List.length_cons] at hrl
  have ht1:((i+c1:Nat):Int).toNat=i+c1:=by omega
  have h3':parts qs.length (v.drop (i+c1))=some qs:=by rw [← List.drop_drop];exact h3
  have e2':iB v.length (v.drop (i+c1)) qs.length=some c2:=by rw [← List.drop_drop];exact e2
  have hun:∀ x:Bool,zX n.kind pn.name qs=x→kT n.kind (List.take c1 (v.drop i)::qs)=((n.kind !=5 || pn.name==[]) && utf pn.name && x && kT n.kind qs):=by
   intro x hx
   rw [← hx]
   cases qs <;> simp only [kT,zX,hname]
  have rP:((ps.length:Int)-((qs.length+1:Nat):Int)<(ps.length:Int))=True:=eq_true (by omega)
  cases hu:utf pn.name
  · have hfin:kT n.kind ps=false:=by rw [← hrb,hun _ rfl,hu];simp
    simp(maxSteps:=400000)only[↓aT,aU,BEq.rfl,reduceIte,reduceCtorEq,Nat.reduceLT,reduceAdd,reduceSub,reduceMul,Nat.reduceBEq,reduceLeDiff,reduceToNat,reduceLE,hQ,hat,hmn,z0,zi,hgi,↓gK,↓jf,hnx,hu,rP,hfin]
    exact ⟨fun _ _=>I5.2,fun _=>I5.2⟩
  by_cases h5:n.kind=5∧pn.name≠[]
  · have hfin:kT n.kind ps=false:=by rw [← hrb,hun _ rfl];simp [h5.1,h5.2]
    simp(maxSteps:=400000)only[↓aT,aU,BEq.rfl,reduceIte,reduceCtorEq,Nat.reduceLT,reduceAdd,reduceSub,reduceMul,Nat.reduceBEq,reduceLeDiff,reduceToNat,reduceLE,hQ,hat,hmn,z0,zi,hgi,↓gK,↓jf,hnx,hu,rP,h5.1,h5.2]
    rw [← h5.1];exact hfin
  have hc5:(n.kind !=5 || pn.name==[])=true:=by
   by_cases hk:n.kind=5
   · have:pn.name=[]:=Decidable.of_not_not fun h=>h5 ⟨hk,h⟩
     simp [this]
   · simp [hk]
  rw [hc5,hu] at hun
  have good:n.kind=5→pn.name=[]:=fun hk=>Decidable.of_not_not fun h=>h5 ⟨hk,h⟩
  have hlt1:(-9223372036854775808≤(ps.length:Int)-((qs.length+1:Nat):Int)+1∧(ps.length:Int)-((qs.length+1:Nat):Int)+1≤9223372036854775807)=True:=eq_true ⟨by omega,by omega⟩
  have hiv:i≤v.length:=by omega
  have e:(ps.length:Int)-((qs.length+1:Nat):Int)+1=(ps.length:Int)-qs.length:=by omega
  have l1:qs.length<qs.length+1:=Nat.lt_succ_self _
  have l2:qs.length≤ps.length:=by omega
  have zc:(0≤((i+c1:Nat):Int))=True:=eq_true (by omega)
  have step:zX n.kind pn.name qs=true→∃ m',m'<qs.length+1∧∃ (Fv c':Nat) (rest:List Vl),m'=rest.length∧rest.length≤ps.length∧parts rest.length (v.drop Fv)=some rest∧iB v.length (v.drop Fv) rest.length=some c'∧kT n.kind rest=kT n.kind ps∧
      (⟨dH 75 [(0,aS v),(1,.int .i64 at'),(5,.int .i64 (i+c1:Nat)),(6,.int .i64 ((ps.length:Int)-((qs.length+1:Nat):Int)+1))],[]⟩:St)=⟨dH 75 [(0,aS v),(1,.int .i64 at'),(5,.int .i64 Fv),(6,.int .i64 ((ps.length:Int)-rest.length))],[]⟩:=by
   intro hx
   refine ⟨qs.length,l1,i+c1,c2,qs,rfl,l2,h3',e2',?_,?_⟩
   · rw [← hrb,hun true hx];simp
   · rw [e]
  have stop:zX n.kind pn.name qs=false→kT n.kind ps=false:=fun hx=>by rw [← hrb,hun false hx];simp
  by_cases h6:n.kind=6
  · have h5':¬ n.kind=5:=by omega
    rcases Nat.eq_zero_or_pos qs.length with hq0 | hqp
    · have hq:qs=[]:=List.length_eq_zero_iff.1 hq0
      have hlast:((ps.length:Int)-((qs.length+1:Nat):Int)+1<(ps.length:Int))=False:=eq_false (by omega)
      have hst:=step (by rw [hq];rfl)
      simp(maxSteps:=400000)only[↓aT,aU,BEq.rfl,reduceIte,reduceCtorEq,Nat.reduceLT,reduceAdd,reduceSub,reduceMul,Nat.reduceBEq,reduceLeDiff,reduceToNat,reduceLE,hQ,hat,hmn,z0,zi,hgi,↓gK,↓jf,hnx,hu,rP,h6,reduceEq,hlt1,hlast]
      simp only [h6] at hst
      exact ⟨I5.2,hiv,hl,hst⟩
    · obtain ⟨q,r,hqr⟩:∃ q r,qs=q::r:=by
       cases qs with
       | nil=>simp at hqp
       | cons q r=>exact ⟨q,r,rfl⟩
      have hmore:((ps.length:Int)-((qs.length+1:Nat):Int)+1<(ps.length:Int))=True:=eq_true (by omega)
      have g0:=h3'
      rw [hqr] at g0
      obtain ⟨pc2,qs2,g1,g2,g3⟩:=eH (k:=r.length) g0
      simp only [List.cons.injEq] at g2
      have aeX:=dY _ _ _ g1
      simp only [List.length_drop] at aeX
      have ad5:i+c1<v.length:=by omega
      have acN:=List.getElem?_eq_getElem ad5
      have acO:=List.drop_eq_getElem_cons ad5
      generalize v[i+c1]=qn at acN acO
      have YO:nameOf q=qn.name:=by
       obtain ⟨w,hw⟩:∃ w,pc2=w+1:=⟨pc2-1,by omega⟩
       rw [g2.1,acO,hw];rfl
      have hno:zX n.kind pn.name qs=Op.bytesLess pn.name qn.name:=by
       rw [hqr,zX,YO];simp [h6]
      clear g0 g1 g2 g3 hqr YO acO hdi
      cases hbl:Op.bytesLess pn.name qn.name
      · have hfin:=stop (by rw [hno,hbl])
        simp(maxSteps:=400000)only[↓aT,aU,BEq.rfl,reduceIte,reduceCtorEq,Nat.reduceLT,reduceAdd,reduceSub,reduceMul,Nat.reduceBEq,reduceLeDiff,reduceToNat,reduceLE,hQ,hat,hmn,z0,zi,hgi,↓gK,↓jf,hnx,hu,rP,h6,reduceEq,hlt1,hmore,zc,ht1,acN,hbl]
        rw [h6] at hfin
        exact ⟨I5.2,hiv,hl,hfin⟩
      · have hst:=step (by rw [hno,hbl])
        simp(maxSteps:=400000)only[↓aT,aU,BEq.rfl,reduceIte,reduceCtorEq,Nat.reduceLT,reduceAdd,reduceSub,reduceMul,Nat.reduceBEq,reduceLeDiff,reduceToNat,reduceLE,hQ,hat,hmn,z0,zi,hgi,↓gK,↓jf,hnx,hu,rP,h6,reduceEq,hlt1,hmore,zc,ht1,acN,hbl]
        simp only [h6] at hst
        exact ⟨I5.2,hiv,hl,hst⟩
  · have hst:=step (by cases qs <;> simp [zX,h6])
    simp(maxSteps:=400000)only[↓aT,aU,BEq.rfl,reduceIte,reduceCtorEq,Nat.reduceLT,reduceAdd,reduceSub,reduceMul,Nat.reduceBEq,reduceLeDiff,reduceToNat,reduceLE,hQ,hat,hmn,z0,zi,hgi,↓gK,↓jf,hnx,hu,rP,h6,hlt1]
    exact ⟨fun h5'=>⟨fun _=>⟨I5.2,hiv,hl,hst⟩,fun hne=>absurd (good h5') hne⟩,fun _=>⟨I5.2,hiv,hl,hst⟩⟩
end Lp
namespace Lp
open Go Go.Proofs
open Nat (reduceAdd reduceLeDiff reduceMul reduceSub)
open Int (reduceLE reduceToNat)
theorem LD (L:Nat):∀ (v:Vl) (k c i:Nat),iB L v k=some c→i<c→∃ k' c',iB L (v.drop i) (k'+1)=some c'
 | v,0,c,i,h,hi=>by rw [ql] at h;cases h;omega
 | [],k+1,c,i,h,hi=>by simp [iB] at h
 | n::v,k+1,c,0,h,hi=>⟨k,c,by simpa using h⟩
 | n::v,k+1,c,i+1,h,hi=>by
  rw [iB] at h
  split at h
  · cases h
  · cases hs:iB L v (k+n.many.toNat) with
    | none=>rw [hs] at h;simp at h
    | some c'=>
     rw [hs] at h
     simp only [Option.map_some,Option.some.injEq] at h
     simpa using LD L v _ c' i hs (by omega)
def Dq (v:Vl) (i:Nat):Bool:=match v.drop i with
 | n::r=>(match parts n.many.toNat r with | some ps=>kT n.kind ps | none=>false)
 | []=>true
theorem RJ {v:Vl}{i:Nat}{n:Nd}(hi:v[i]?=some n):fI (v.drop i)=(bH n && Dq v i && fI (v.drop (i+1))):=by
 have hl:=(List.getElem?_eq_some_iff.1 hi).1
 have hd:=List.drop_eq_getElem_cons hl
 rw [List.getElem?_eq_getElem hl] at hi
 cases hi
 simp only [Dq,hd,fI]
 rfl
theorem OH (v:Vl) (i:Int) (h0:0≤i) (hi:i.toNat<v.length) (hs:Small v) (hn:iB v.length v 1=some v.length) :
  ai Tryz.prog 70 [aS v,.int .i64 i] [] (.bool (Dq v i.toNat)) []:=by
 obtain ⟨i,rfl⟩:∃ k:Nat,i=k:=⟨i.toNat,by omega⟩
 simp only [Int.toNat_natCast] at hi ⊢
 have hg:=List.getElem?_eq_getElem hi
 have hd:=List.drop_eq_getElem_cons hi
 generalize v[i]=n at hg hd
 obtain ⟨k',c',h'⟩:=LD v.length v 1 _ i hn hi
 rw [Nat.add_comm] at h'
 obtain ⟨c1,_,h1,_,_⟩:=sW v.length _ 1 k' c' h'
 rw [hd,iB] at h1
 split at h1
 · cases h1
 · rename_i hm
   cases hx:iB v.length (v.drop (i+1)) (0+n.many.toNat) with
   | none=>rw [hx] at h1;simp at h1
   | some c=>
    rw [Nat.zero_add] at hx
    obtain ⟨ps,hp,_,_⟩:=eG _ _ _ (nY _ _ _ _ hx)
    have:=OG v i n c hs hg (by omega) hx ps hp
    simp only [Dq,hd,hp]
    exact this
def pW:dD:=fun args objs K=>match args with
 | [a0,.int .i64 i]=>fE aS a0 (HK.mk:HK fun v=>(0≤i)∧(i.toNat<v.length)∧(Small v)∧(iB v.length v 1=some v.length)∧K (.bool (Dq v i.toNat)) objs 0)
 | _=>False
theorem LF:aB Tryz.prog 70 (pW):=by
 intro args objs K h
 unfold pW at h
 split at h
 · rename_i a0 i
   obtain ⟨v,rfl,h1,h2,h3,h4,hk⟩:=h
   exact ⟨_,_,_,.pure _ rfl (OH v i h1 h2 h3 h4),hk⟩
 · exact h.elim
theorem RL (v:Vl) (hs:Small v):ai Tryz.prog 36 [aS v] [] (.bool (dI v)) []:=by
 have hl:=hs.len
 refine zH.bf (T:=aR Tryz.prog [(68,jf),(69,sV),(70,pW)]) 0 hD (aj (af uM (af OE (af LF ah)))) aZ (by decide) fun Q hQ=>?_
 rcases Nat.eq_zero_or_pos v.length with hv | hv
 · have hr:dI v=false:=by
    have:v=[]:=List.length_eq_zero_iff.1 hv
    rw [this];rfl
   have hv':((v.length:Int)=0)=True:=eq_true (by omega)
   (conv=>arg 4;cbv);simp(maxSteps:=400000)only[↓aT,aU,BEq.rfl,reduceIte,reduceCtorEq,Nat.reduceLT,reduceAdd,reduceSub,reduceMul,Nat.reduceBEq,reduceLeDiff,reduceToNat,reduceLE,hQ,hr,hv']
 have hv':((v.length:Int)=0)=False:=eq_false (by omega)
 obtain ⟨n0,r0,hvr⟩:∃ n r,v=n::r:=by
  cases v with
  | nil=>simp at hv
  | cons n r=>exact ⟨n,r,rfl⟩
 have hg0:v[0]?=some n0:=by rw [hvr];rfl
 have hnm:nameOf v=n0.name:=by rw [hvr];rfl
 have hne:v.isEmpty=false:=by rw [hvr];rfl
 by_cases hname:n0.name=[]
 rotate_left 1
 · have hr:dI v=false:=by simp [dI,hnm,hname]
   (conv=>arg 4;cbv);simp(maxSteps:=400000)only[↓aT,aU,BEq.rfl,reduceIte,reduceCtorEq,Nat.reduceLT,reduceAdd,reduceSub,reduceMul,Nat.reduceBEq,reduceLeDiff,reduceToNat,reduceLE,hQ,hr,hv',hg0,hname]
 have hz:Int.toNat 0=0:=rfl
 by_cases hnx:sS v 0=(v.length:Int)
 rotate_left 1
 · have hr:dI v=false:=by
    have:iB v.length v 1≠some v.length:=fun h=>hnx (by rw [Bt (i:=0) (by simpa using h)];simp)
    simp [dI,this]
   (conv=>arg 4;cbv);simp(maxSteps:=400000)only[↓aT,aU,BEq.rfl,reduceIte,reduceCtorEq,Nat.reduceLT,reduceAdd,reduceSub,reduceMul,Nat.reduceBEq,reduceLeDiff,reduceToNat,reduceLE,hQ,hr,hv',hg0,hname,↓jf,hnx]
   exact ⟨by omega,hl⟩
 have hn:iB v.length v 1=some v.length:=by
  unfold sS at hnx
  rw [List.drop_zero] at hnx
  cases hx:iB v.length v 1 with
  | none=>rw [hx] at hnx;simp only at hnx;omega
  | some c=>rw [hx] at hnx;simp only at hnx;congr 1;omega
 have hr:dI v=fI v:=by simp [dI,hnm,hname,hn,hne]
 (conv=>arg 4;cbv);simp(maxSteps:=400000)only[↓aT,aU,BEq.rfl,reduceIte,reduceCtorEq,Nat.reduceLT,reduceAdd,reduceSub,reduceMul,Nat.reduceBEq,reduceLeDiff,reduceToNat,reduceLE,hQ,hv',hg0,hname,↓jf,hnx]
 refine ⟨by omega,hl,?_⟩
 refine aH (fun m S=>∃ i:Nat,i+m=v.length∧fI (v.drop i)=fI v∧S=⟨dH 39 [(0,aS v),(3,.int .i64 i)],[]⟩) v.length ⟨0,by omega,rfl,?_⟩ ?_
 · simp only [bV,keepR,reduceAdd,ng,Nat.reduceBEq,List.map_nil]
   rfl
 rintro m S ⟨i,him,hgd,rfl⟩
 rcases Nat.lt_or_ge i v.length with h | h
 · have hg:=List.getElem?_eq_getElem h
   have htx:=hs.txt _ (List.getElem_mem h)
   generalize v[i]=n at hg htx
   have hd:=RJ hg
   rw [hgd] at hd
   have zi:(0≤(i:Int))=True:=eq_true (by omega)
   have hlt:((i:Int)<(v.length:Int))=True:=eq_true (by omega)
   cases hp:bH n
   · have hr2:dI v=false:=by rw [hr,hd,hp];rfl
     simp(maxSteps:=400000)only[↓aT,aU,BEq.rfl,reduceIte,reduceCtorEq,Nat.reduceLT,reduceAdd,reduceSub,reduceMul,Nat.reduceBEq,reduceLeDiff,reduceToNat,reduceLE,hQ,hg,↓sV,↓pW,hp,zi,hlt,hr2]
     exact htx.1
   cases hq:Dq v i
   · have hr2:dI v=false:=by rw [hr,hd,hp,hq];rfl
     simp(maxSteps:=400000)only[↓aT,aU,BEq.rfl,reduceIte,reduceCtorEq,Nat.reduceLT,reduceAdd,reduceSub,reduceMul,Nat.reduceBEq,reduceLeDiff,reduceToNat,reduceLE,hQ,hg,↓sV,↓pW,hp,hq,zi,hlt,hr2]
     exact ⟨htx.1,h,hs,hn⟩
   · simp(maxSteps:=400000)only[↓aT,aU,BEq.rfl,reduceIte,reduceCtorEq,Nat.reduceLT,reduceAdd,reduceSub,reduceMul,Nat.reduceBEq,reduceLeDiff,reduceToNat,reduceLE,hQ,hg,↓sV,↓pW,hp,hq,zi,hlt]
     refine ⟨htx.1,h,hs,hn,⟨by omega,by omega⟩,m-1,by omega,i+1,by omega,?_,by simp⟩
     rw [hd,hp,hq];simp
 · have hlt:((i:Int)<(v.length:Int))=False:=eq_false (by omega)
   simp(maxSteps:=400000)only[↓aT,aU,BEq.rfl,reduceIte,reduceCtorEq,Nat.reduceLT,reduceAdd,reduceSub,reduceMul,Nat.reduceBEq,reduceLeDiff,reduceToNat,reduceLE,hQ,hlt]
   rw [hr,← hgd,List.drop_eq_nil_of_le h];rfl
def wX:dD:=fun args objs K=>match args with
 | [a0]=>fE aS a0 (HK.mk:HK fun v=>(Small v)∧K (.bool (dI v)) objs 0)
 | _=>False
theorem OI:aB Tryz.prog 36 (wX):=by
 intro args objs K h
 unfold wX at h
 split at h
 · rename_i a0
   obtain ⟨v,rfl,h1,hk⟩:=h
   exact ⟨_,_,_,.pure _ rfl (RL v h1),hk⟩
 · exact h.elim
end Lp
namespace Lp
open Go Go.Proofs
open List (length_append length_cons length_nil map_map map_nil mem_singleton)
open Nat (reduceAdd reduceLeDiff reduceMul reduceSub)
open Int (reduceLE reduceToNat)
theorem bN:PV.vO (.agg ⟨[.int .i64 0,.int .i64 0,.string ⟨⟨[]⟩⟩,.string ⟨⟨[]⟩⟩,.bool false,.int .i64 0]⟩)=aA ⟨0,0,[],[],false,0⟩:=rfl
theorem bO (a:Nd) (k m:Int) (x y:List UInt8) (g:Bool) (e:Int):(aA a).putCells 0 [.int .i64 k,.int .i64 m,.str x,.str y,.bool g,.int .i64 e]=aA ⟨k,m,x,y,g,e⟩:=rfl
theorem ad6 (n:Nd) (r:Vl):(∀ y,y ∈ aA n::r.map aA→y.cells.length=6∧y.cells.all PV.storable=true)=True:=by
 have:=rO (enc:=aA) (sz:=6) (fun _=>rfl) (fun _=>rfl) (n::r)
 rwa [List.map_cons] at this
theorem YP (v:Vl) (i j:Nat) (hij:i<j) (hj:j≤v.length) (hl:v.length≤1000000):ai Tryz.prog 74 [aS v,.int .i64 i,.int .i64 j] [] (aS (jX ((v.take j).drop i))) []:=by
 obtain ⟨n,r,hnr⟩:∃ n r,(v.take j).drop i=n::r:=by
  cases h:(v.take j).drop i with
  | nil=>have:=congrArg List.length h;simp at this;omega
  | cons n r=>exact ⟨n,r,rfl⟩
 have hlen:((v.take j).drop i).length≤1000000:=by simp;omega
 rw [hnr] at hlen ⊢
 simp only [length_cons] at hlen
 have zi:(0≤(i:Int))=True:=eq_true (by omega)
 have c1:((i:Int)≤(j:Int))=True:=eq_true (by omega)
 have c2:((j:Int)≤(v.length:Int))=True:=eq_true (by omega)
 refine Di.bf (T:=aR Tryz.prog []) 1 hD (aj ah) aZ (by decide) fun Q hQ=>?_
 (conv=>arg 4;cbv);simp(maxSteps:=400000)only[↓aT,aU,BEq.rfl,reduceIte,reduceCtorEq,Nat.reduceLT,reduceAdd,reduceSub,reduceMul,Nat.reduceBEq,reduceLeDiff,reduceToNat,reduceLE,hQ,zi,c1,c2,hnr,bN,bO,ad6,List.set_cons_zero]
 exact ⟨by omega,by omega,by omega,by omega,((iV hV inN).1 _ _ (jX (n::r)) 2 _).symm⟩
theorem V8 (v:Vl) (i j:Int) (h:0≤i∧i<j∧j≤v.length) (hl:v.length≤1000000):ai Tryz.prog 74 [aS v,.int .i64 i,.int .i64 j] [] (aS (jX ((v.take j.toNat).drop i.toNat))) []:=by
 have e1:i=(i.toNat:Int):=by omega
 have e2:j=(j.toNat:Int):=by omega
 have:=YP v i.toNat j.toNat (by omega) (by omega) hl
 rw [← e1,← e2] at this
 exact this
def LG:dD:=fun args objs K=>match args with
 | [a0,.int .i64 i,.int .i64 j]=>fE aS a0 (HK.mk:HK fun v=>(0≤i∧i<j∧j≤v.length)∧(v.length≤1000000)∧K (aS (jX ((v.take j.toNat).drop i.toNat))) objs 0)
 | _=>False
theorem V9:aB Tryz.prog 74 (LG):=by
 intro args objs K h
 unfold LG at h
 split at h
 · rename_i a0 i j
   obtain ⟨v,rfl,h1,h2,hk⟩:=h
   exact ⟨_,_,_,.pure _ rfl (V8 v i j h1 h2),hk⟩
 · exact h.elim
theorem qm (L:Nat):∀ (v:Vl) (k c:Nat),skip v k=some c→c≤L→iB L v k=some c
 | v,0,c,h,_=>by cases v <;> simpa [iB,skip] using h
 | [],k+1,c,h,_=>by simp [skip] at h
 | n::v,k+1,c,h,hc=>by
  obtain ⟨hm,c',rfl,h'⟩:=dm h
  have:=dY _ _ _ h'
  rw [iB,if_neg (by omega),qm L v _ c' h' (by omega)];rfl
def ad7 (l:List Vl) (ver:Nat):Obj:=⟨41,1,l.map aS,true,ver⟩
def ad8 (l:List (List UInt8)) (ver:Nat):Obj:=⟨9,1,l.map .str,true,ver⟩
theorem V_ (d n:Nat) (O:List Obj) (t:TypeId) (sz:Nat) (l:List Vl) (ver:Nat):fB d n O ⟨t,sz,l.map aS,true,ver⟩=⟨t,sz,l.map aS,true,ver⟩:=by
 have:(l.map aS).map (PV.bI (eZ d n O))=l.map aS:=by
  rw [map_map]
  exact List.map_congr_left fun x _=>rfl
 simp only [fB,this]
theorem Kk (d n:Nat) (O:List Obj) (t:TypeId) (sz:Nat) (l:List (List UInt8)) (ver:Nat):fB d n O ⟨t,sz,l.map .str,true,ver⟩=⟨t,sz,l.map .str,true,ver⟩:=by
 have:(l.map PV.str).map (PV.bI (eZ d n O))=l.map PV.str:=by
  rw [map_map]
  exact List.map_congr_left fun x _=>rfl
 simp only [fB,this]
theorem Kl (l:List Vl) (ver:Nat):eX [ad7 l ver]:=by
 intro o ho x hx c hc
 simp only [mem_singleton] at ho;subst ho
 obtain ⟨y,_,rfl⟩:=List.mem_map.1 hx
 simp only [aS,PV.cells,mem_singleton] at hc
 subst hc;rfl
theorem Dr (l:List (List UInt8)) (ver:Nat):eX [ad8 l ver]:=by
 intro o ho x hx c hc
 simp only [mem_singleton] at ho;subst ho
 obtain ⟨y,_,rfl⟩:=List.mem_map.1 hx
 simp only [PV.cells,mem_singleton] at hc
 subst hc;rfl
theorem I6 (v:Vl) (ho:One v) (hl:v.length≤1000000):ai Tryz.prog 42 [aS v] [] (.bG 0 0) [ad7 (bP v) 0]:=by
 obtain ⟨n,r,hv⟩:∃ n r,v=n::r:=by
  cases v with
  | nil=>exact absurd rfl ho.ne
  | cons n r=>exact ⟨n,r,rfl⟩
 have ho':=ho
 rw [hv] at ho'
 obtain ⟨hm,ps,hp,hfl,hps⟩:=ho'.parts
 have hpl:=bS _ _ _ hp
 have hg0:v[0]?=some n:=by rw [hv];rfl
 have hr:bP v=ps.map jX:=by rw [hv,bP];exact (gq hp).1
 have hmn:n.many=(ps.length:Int):=by omega
 have hd1:v.drop 1=r:=by rw [hv];rfl
 have GH:=eO _ _ _ hp
 have hrl:r.length+1=v.length:=by rw [hv];rfl
 rw [hr]
 refine zJ.abL (T:=aR Tryz.prog [(68,jf),(74,LG)]) 1 hD (aj (af uM (af V9 ah))) aZ fun Q hQ=>?_
 (conv=>arg 4;cbv);simp(maxSteps:=400000)only[↓aT,aU,BEq.rfl,reduceIte,reduceCtorEq,Nat.reduceLT,reduceAdd,reduceSub,reduceMul,Nat.reduceBEq,reduceLeDiff,reduceToNat,reduceLE,hQ]
 refine aH (fun m S=>∃ (i ver:Nat) (done:List Vl) (rest:List Vl),m=rest.length∧done.length+rest.length=ps.length∧done++rest.map jX=ps.map jX∧parts rest.length (v.drop i)=some rest∧
  S=⟨dH 28 [(0,aS v),(3,.bG 0 ver),(4,.int .i64 i),(5,.int .i64 done.length)],[⟨41,1,done.map aS,true,ver⟩]⟩) ps.length ⟨1,1,[],ps,rfl,by simp,rfl,by rw [hd1,hpl];exact hp,?_⟩ ?_
 · simp only [bV,keepR,reduceAdd,ng,Nat.reduceBEq,map_nil]
   rfl
 rintro m S ⟨i,ver,done,rest,rfl,hdl,hdr,hrp,rfl⟩
 cases rest with
 | nil=>
  simp only [length_nil,Nat.add_zero] at hdl
  have hlt:((done.length:Int)<(ps.length:Int))=False:=eq_false (by omega)
  simp only [map_nil,List.append_nil] at hdr
  simp(maxSteps:=400000)only[↓aT,aU,BEq.rfl,reduceIte,reduceCtorEq,Nat.reduceLT,reduceAdd,reduceSub,reduceMul,Nat.reduceBEq,reduceLeDiff,reduceToNat,reduceLE,hQ,hg0,hmn,hlt]
  rw [hdr]
  exact acL (k:=0) (ver:=ver) rfl rfl rfl rfl (congrArg (fun o:Obj=>{ o with ver:=0 }) (V_ 1 1 _ 41 1 (ps.map jX) ver)) (Kl _ 0)
 | cons p qs=>
  obtain ⟨c,qs',h1,h2,h3⟩:=eH (k:=qs.length) hrp
  simp only [List.cons.injEq] at h2
  obtain ⟨hp1,rfl⟩:=h2
  simp only [length_cons] at hdl
  have hlt:((done.length:Int)<(ps.length:Int))=True:=eq_true (by omega)
  have hc:=dY _ _ _ h1
  simp only [List.length_drop] at hc
  have hnx:sS v i=(i+c:Nat):=Bt (qm _ _ _ _ h1 (by omega))
  have zi:(0≤(i:Int))=True:=eq_true (by omega)
  simp(maxSteps:=400000)only[↓aT,aU,BEq.rfl,reduceIte,reduceCtorEq,Nat.reduceLT,reduceAdd,reduceSub,reduceMul,Nat.reduceBEq,reduceLeDiff,reduceToNat,reduceLE,hQ,hg0,hmn,hlt,↓jf,↓LG,hnx,zi]
  have hpe:List.drop i (List.take (i+c) v)=p:=by
   rw [List.drop_take,hp1,show i+c-i=c by omega]
  have happ:List.map aS done++[aS (jX p)]=List.map aS (done++[jX p]):=by simp
  rw [hpe,happ]
  refine ⟨by omega,hl,⟨by omega,by omega⟩,hl,by omega,by omega,⟨by omega,by omega⟩,qs.length,by omega,i+c,ver+1,done++[jX p],qs,rfl,?_,?_,?_,?_⟩
  · simp only [length_append,length_cons,length_nil];omega
  · rw [← hdr];simp
  · rw [← List.drop_drop];exact h3
  · simp only [length_append,length_cons,length_nil,Nat.zero_add,Int.natCast_add,Int.cast_ofNat_Int,Int.natCast_one]
theorem I7 (v:Vl) (ho:One v) (hl:v.length≤1000000):ai Tryz.prog 42 [aS v] [] (mJ (bP v)) []:=
 (I6 v ho hl).froze rfl rfl (Kl _ 0)
def oG:dD:=fun args objs K=>match args with
 | [a0]=>fE aS a0 (HK.mk:HK fun v=>(One v)∧(v.length≤1000000)∧K (mJ (bP v)) objs 0)
 | _=>False
theorem GR:aB Tryz.prog 42 (oG):=by
 intro args objs K h
 unfold oG at h
 split at h
 · rename_i a0
   obtain ⟨v,rfl,h1,h2,hk⟩:=h
   exact ⟨_,_,_,.pure _ rfl (I7 v h1 h2),hk⟩
 · exact h.elim
theorem EL (v:Vl) (ho:One v) (hl:v.length≤1000000):ai Tryz.prog 82 [aS v] [] (.bG 0 0) [ad8 (fF v) 0]:=by
 obtain ⟨n,r,hv⟩:∃ n r,v=n::r:=by
  cases v with
  | nil=>exact absurd rfl ho.ne
  | cons n r=>exact ⟨n,r,rfl⟩
 have ho':=ho
 rw [hv] at ho'
 obtain ⟨hm,ps,hp,hfl,hps⟩:=ho'.parts
 have hpl:=bS _ _ _ hp
 have hg0:v[0]?=some n:=by rw [hv];rfl
 have hr:fF v=if n.kind=6 then ps.map nameOf else []:=by rw [hv,fF,(gq hp).2]
 have hmn:n.many=(ps.length:Int):=by omega
 have hd1:v.drop 1=r:=by rw [hv];rfl
 have GH:=eO _ _ _ hp
 have hrl:r.length+1=v.length:=by rw [hv];rfl
 refine zM.abL (T:=aR Tryz.prog [(68,jf)]) 1 hD (aj (af uM ah)) aZ fun Q hQ=>?_
 (conv=>arg 4;cbv);simp(maxSteps:=400000)only[↓aT,aU,BEq.rfl,reduceIte,reduceCtorEq,Nat.reduceLT,reduceAdd,reduceSub,reduceMul,Nat.reduceBEq,reduceLeDiff,reduceToNat,reduceLE,hQ]
 refine aH (fun m S=>∃ (i ver:Nat) (done:List (List UInt8)) (rest:List Vl),m=rest.length∧(done=[]∨n.kind=6)∧done.length+rest.length=ps.length∧done++rest.map nameOf=ps.map nameOf∧parts rest.length (v.drop i)=some rest∧
  S=⟨dH 34 [(0,aS v),(3,.bG 0 ver),(4,.int .i64 i),(5,.int .i64 done.length)],[⟨9,1,done.map .str,true,ver⟩]⟩) ps.length ⟨1,1,[],ps,rfl,.inl rfl,by simp,rfl,by rw [hd1,hpl];exact hp,?_⟩ ?_
 · simp only [bV,keepR,reduceAdd,ng,Nat.reduceBEq,map_nil]
   rfl
 rintro m S ⟨i,ver,done,rest,rfl,hdn,hdl,hdr,hrp,rfl⟩
 cases rest with
 | nil=>
  simp only [length_nil,Nat.add_zero] at hdl
  have hlt:((done.length:Int)<(ps.length:Int))=False:=eq_false (by omega)
  simp only [map_nil,List.append_nil] at hdr
  simp(maxSteps:=400000)only[↓aT,aU,BEq.rfl,reduceIte,reduceCtorEq,Nat.reduceLT,reduceAdd,reduceSub,reduceMul,Nat.reduceBEq,reduceLeDiff,reduceToNat,reduceLE,hQ,hg0,hmn,hlt]
  have hd:done=fF v:=by
   rw [hr]
   split
   · exact hdr
   · rename_i h6
     exact hdn.resolve_right h6
  rw [hd]
  exact acL (k:=0) (ver:=ver) rfl rfl rfl rfl (congrArg (fun o:Obj=>{ o with ver:=0 }) (Kk 1 1 _ 9 1 (fF v) ver)) (Dr _ 0)
 | cons p qs=>
  obtain ⟨c,qs',h1,h2,h3⟩:=eH (k:=qs.length) hrp
  simp only [List.cons.injEq] at h2
  obtain ⟨hp1,rfl⟩:=h2
  simp only [length_cons] at hdl
  have hlt:((done.length:Int)<(ps.length:Int))=True:=eq_true (by omega)
  have hc:=dY _ _ _ h1
  simp only [List.length_drop] at hc
  have hnx:sS v i=(i+c:Nat):=Bt (qm _ _ _ _ h1 (by omega))
  have zi:(0≤(i:Int))=True:=eq_true (by omega)
  have hil:i<v.length:=by omega
  have hgi:=List.getElem?_eq_getElem hil
  have hdi:=List.drop_eq_getElem_cons hil
  generalize v[i]=pn at hgi hdi
  have hname:nameOf p=pn.name:=by
   obtain ⟨w,hw⟩:∃ w,c=w+1:=⟨c-1,by omega⟩
   rw [hp1,hdi,hw];rfl
  by_cases h6:n.kind=6
  rotate_left 1
  · simp(maxSteps:=400000)only[↓aT,aU,BEq.rfl,reduceIte,reduceCtorEq,Nat.reduceLT,reduceAdd,reduceSub,reduceMul,Nat.reduceBEq,reduceLeDiff,reduceToNat,reduceLE,hQ,hg0,hmn,hlt,h6]
    have hd:done=fF v:=by rw [hr,if_neg h6,hdn.resolve_right h6]
    rw [hd]
    exact acL (k:=0) (ver:=ver) rfl rfl rfl rfl (congrArg (fun o:Obj=>{ o with ver:=0 }) (Kk 1 1 _ 9 1 (fF v) ver)) (Dr _ 0)
  simp(maxSteps:=400000)only[↓aT,aU,BEq.rfl,reduceIte,reduceCtorEq,Nat.reduceLT,reduceAdd,reduceSub,reduceMul,Nat.reduceBEq,reduceLeDiff,reduceToNat,reduceLE,hQ,hg0,hmn,hlt,h6,↓jf,hnx,zi,hgi]
  have happ:List.map PV.str done++[PV.str pn.name]=List.map PV.str (done++[pn.name]):=by simp
  rw [happ]
  refine ⟨by omega,by omega,by omega,hl,⟨by omega,by omega⟩,qs.length,by omega,i+c,ver+1,done++[pn.name],qs,rfl,?_,?_,?_,?_⟩
  · simp only [length_append,length_cons,length_nil];omega
  · rw [← hdr,List.map_cons,hname];simp
  · rw [← List.drop_drop];exact h3
  · simp only [length_append,length_cons,length_nil,Nat.zero_add,Int.natCast_add,Int.cast_ofNat_Int,Int.natCast_one]
theorem EM (v:Vl) (ho:One v) (hl:v.length≤1000000):ai Tryz.prog 82 [aS v] [] (kr (fF v)) []:=
 (EL v ho hl).froze rfl rfl (Dr _ 0)
def nU:dD:=fun args objs K=>match args with
 | [a0]=>fE aS a0 (HK.mk:HK fun v=>(One v)∧(v.length≤1000000)∧K (kr (fF v)) objs 0)
 | _=>False
theorem Dt:aB Tryz.prog 82 (nU):=by
 intro args objs K h
 unfold nU at h
 split at h
 · rename_i a0
   obtain ⟨v,rfl,h1,h2,hk⟩:=h
   exact ⟨_,_,_,.pure _ rfl (EM v h1 h2),hk⟩
 · exact h.elim
end Lp
namespace Lp
open Go Go.Proofs
end Lp
namespace Lp
open Go Go.Proofs
theorem nmP (n:Nd) (nm:List UInt8):(aA n).putCells 2 [.str nm]=aA { n with name:=nm }:=rfl
theorem aeY (n:Nd):(aA n).cells.length=6:=rfl
theorem I8:(PV.vO (Value.agg { toList:=[Value.int IntKind.i64 0,Value.int IntKind.i64 0,Value.string { data:={ toList:=[] } },Value.string { data:={ toList:=[] } },Value.bool false,Value.int IntKind.i64 0] })).cells.length=6:=rfl
theorem I9:(PV.vO (Value.agg { toList:=[Value.int IntKind.i64 0,Value.int IntKind.i64 0,Value.string { data:={ toList:=[] } },Value.string { data:={ toList:=[] } },Value.bool false,Value.int IntKind.i64 0] })).cells.all PV.storable=true:=rfl
theorem Wd (n:Nat) (objs:List Obj) (v:Vl):(v.map aA).map (PV.bI (iU 0 n objs))=v.map aA:=by
 rw [List.map_map]
 exact List.map_congr_left fun x _=>rfl
theorem Wh (v:Vl) (ver:Nat) (t:TypeId) (rest:List Obj):eZ 1 0 (⟨t,6,v.map aA,true,ver⟩::rest) (.bG 0 ver)=aS v:=by
 simp only [eZ,Nat.not_lt_zero,if_false,iU,List.getElem?_cons_zero,Nat.le_refl,decide_true,Bool.true_and,beq_self_eq_true,if_true,Wd]
 rfl
end Lp
namespace Lp
open Go Go.Proofs
end Lp
namespace Lp
open Go Go.Proofs
theorem knI (l:List (FuncId×dD)) (n:Nat):(((aR Tryz.prog l).inner n).fn=sJ l)∧(((aR Tryz.prog l).inner n).noY.fn=sJ l)∧(((aR Tryz.prog l).inner n).nx=n):=⟨rfl,rfl,rfl⟩
end Lp
namespace Lp
open Go Go.Lib
open List (length_cons length_drop length_take)
def YQ (b0:Nat):Bool:=
 decide (b0<128) || (firstT b0 % 8==1 && (decide (b0<194) || decide (245≤b0))) || (firstT b0 % 8==2 && accLo (firstT b0 / 16)==128 && accHi (firstT b0 / 16)==191 && decide (194≤b0) && decide (b0<224)) ||
  (firstT b0 % 8==3 && accLo (firstT b0 / 16)==(if b0=224 then 160 else 128) && accHi (firstT b0 / 16)==(if b0=237 then 159 else 191) && decide (224≤b0) && decide (b0<240)) ||
  (firstT b0 % 8==4 && accLo (firstT b0 / 16)==(if b0=240 then 144 else 128) && accHi (firstT b0 / 16)==(if b0=244 then 143 else 191) && decide (240≤b0) && decide (b0<245))
theorem RN:(List.range 256).all YQ=true:=by decide
theorem RO (b0:Nat) (h:b0<256) (h':128≤b0):(firstT b0 % 8=1∧(b0<194∨245≤b0))∨(firstT b0 % 8=2∧accLo (firstT b0 / 16)=128∧accHi (firstT b0 / 16)=191∧194≤b0∧b0<224)∨
  (firstT b0 % 8=3∧accLo (firstT b0 / 16)=(if b0=224 then 160 else 128)∧accHi (firstT b0 / 16)=(if b0=237 then 159 else 191)∧224≤b0∧b0<240)∨
  (firstT b0 % 8=4∧accLo (firstT b0 / 16)=(if b0=240 then 144 else 128)∧accHi (firstT b0 / 16)=(if b0=244 then 143 else 191)∧240≤b0∧b0<245):=by
 have:=List.all_eq_true.1 RN b0 (List.mem_range.2 h)
 simp only [YQ,Bool.or_eq_true,Bool.and_eq_true,decide_eq_true_eq,beq_iff_eq,and_assoc] at this
 rcases this with (((g | g) | g) | g) | g
 · omega
 · exact .inl g
 · exact .inr (.inl g)
 · exact .inr (.inr (.inl g))
 · exact .inr (.inr (.inr g))
theorem YR (c:UInt8) (t:List UInt8):utf (c::t)=(bY (c::t) !=0 && utf ((c::t).drop (bY (c::t)))):=by
 unfold utf
 rw [length_cons,FL]
 simp only [List.isEmpty_cons,Bool.false_or]
 by_cases h:bY (c::t)=0
 · simp [h]
 · congr 1
   exact CB _ _ _ (by simp only [length_drop,length_cons];omega) (Nat.le_refl _)
theorem u8n (c:UInt8) (n:Nat) (h:n<256):c=UInt8.ofNat n↔c.toNat=n:=by
 constructor
 · rintro rfl;simp [UInt8.toNat_ofNat'];omega
 · intro e;rw [← e];simp
theorem RP (c:UInt8) (t:List UInt8) (h:128≤c.toNat) :
  checkN (t.length+1) (t.getD 0 0).toNat (t.getD 1 0).toNat (t.getD 2 0).toNat (firstT c.toNat % 8) (accLo (firstT c.toNat / 16)) (accHi (firstT c.toNat / 16))=
   if bY (c::t)=0 then none else some (bY (c::t)):=by
 have e1:(c<128)↔c.toNat<128:=UInt8.lt_iff_toNat_lt
 have e2:(194≤c)↔194≤c.toNat:=UInt8.le_iff_toNat_le
 have e3:(c<224)↔c.toNat<224:=UInt8.lt_iff_toNat_lt
 have e4:(224≤c)↔224≤c.toNat:=UInt8.le_iff_toNat_le
 have e5:(c<240)↔c.toNat<240:=UInt8.lt_iff_toNat_lt
 have e6:(240≤c)↔240≤c.toNat:=UInt8.le_iff_toNat_le
 have e7:(c<245)↔c.toNat<245:=UInt8.lt_iff_toNat_lt
 have e8:c=224↔c.toNat=224:=u8n c 224 (by decide)
 have e9:c=237↔c.toNat=237:=u8n c 237 (by decide)
 have ea:c=240↔c.toNat=240:=u8n c 240 (by decide)
 have eb:c=244↔c.toNat=244:=u8n c 244 (by decide)
 have hc:∀ i,gV t i=true↔i<t.length∧128≤(t.getD i 0).toNat∧(t.getD i 0).toNat<192:=by
  intro i
  unfold gV
  cases hg:t[i]? with
  | none=>
   have:=List.getElem?_eq_none_iff.1 hg
   simp;omega
  | some d=>
   have hl:=(List.getElem?_eq_some_iff.1 hg).1
   have hd:t.getD i 0=d:=by simp [List.getD,hg]
   rw [hd]
   simp only [Bool.and_eq_true,decide_eq_true_eq]
   have x1:(128≤d)↔128≤d.toNat:=UInt8.le_iff_toNat_le
   have x2:(d<192)↔d.toNat<192:=UInt8.lt_iff_toNat_lt
   rw [x1,x2]
   exact ⟨fun g=>⟨hl,g⟩,fun g=>g.2⟩
 have hh:t.headD 0=t.getD 0 0:=by cases t <;> rfl
 have f1:(t.getD 0 0<160)↔(t.getD 0 0).toNat<160:=UInt8.lt_iff_toNat_lt
 have f2:(160≤t.getD 0 0)↔160≤(t.getD 0 0).toNat:=UInt8.le_iff_toNat_le
 have f3:(t.getD 0 0<144)↔(t.getD 0 0).toNat<144:=UInt8.lt_iff_toNat_lt
 have f4:(144≤t.getD 0 0)↔144≤(t.getD 0 0).toNat:=UInt8.le_iff_toNat_le
 simp only [bY,e1,e2,e3,e4,e5,e6,e7,e8,e9,ea,eb,hc,hh,f1,f2,f3,f4]
 have hn:=c.toNat_lt
 generalize c.toNat=n at *
 generalize (t.getD 0 0).toNat=b1 at *
 generalize (t.getD 1 0).toNat=b2 at *
 generalize (t.getD 2 0).toNat=b3 at *
 generalize t.length=L at *
 clear e1 e2 e3 e4 e5 e6 e7 e8 e9 ea eb hc f1 f2 f3 f4 hh
 obtain ⟨R,hR⟩:∃ R,(if n<128 then 1 else if 194≤n∧n<224∧0<L∧128≤b1∧b1<192 then 2
  else if 224≤n∧n<240∧(0<L∧128≤b1∧b1<192)∧1<L∧128≤b2∧b2<192 then (if n=224∧b1<160∨n=237∧160≤b1 then 0 else 3)
  else if 240≤n∧n<245∧(0<L∧128≤b1∧b1<192)∧(1<L∧128≤b2∧b2<192)∧2<L∧128≤b3∧b3<192 then (if n=240∧b1<144∨n=244∧144≤b1 then 0 else 4) else 0)=R:=⟨_,rfl⟩
 rw [hR]
 rw [if_neg (by omega)] at hR
 rcases RO n hn h with ⟨k1,k2⟩ | ⟨k1,k2,k3,k4,k5⟩ | ⟨k1,k2,k3,k4,k5⟩ | ⟨k1,k2,k3,k4,k5⟩
 · rw [k1]
   rw [if_neg (by omega),if_neg (by omega),if_neg (by omega)] at hR
   subst hR;rfl
 · rw [k1,k2,k3]
   simp only [checkN,if_true]
   by_cases g:0<L∧128≤b1∧b1<192
   · rw [if_pos ⟨k4,k5,g⟩] at hR
     subst hR
     rw [if_neg (by omega)];rfl
   · rw [if_neg (by omega),if_neg (by omega),if_neg (by omega)] at hR
     subst hR
     rw [if_pos (by omega)];rfl
 · rw [k1,k2,k3]
   simp only [checkN,Nat.reduceEqDiff,if_false,if_true]
   rw [if_neg (by omega)] at hR
   by_cases g:(0<L∧128≤b1∧b1<192)∧1<L∧128≤b2∧b2<192
   · rw [if_pos ⟨k4,k5,g⟩] at hR
     by_cases g2:n=224∧b1<160∨n=237∧160≤b1
     · rw [if_pos g2] at hR
       subst hR
       rw [if_pos (by split <;> split <;> omega)];rfl
     · rw [if_neg g2] at hR
       subst hR
       rw [if_neg (by split <;> split <;> omega)];rfl
   · rw [if_neg (fun x=>g x.2.2),if_neg (by omega)] at hR
     subst hR
     rw [if_pos (by split <;> split <;> omega)];rfl
 · rw [k1,k2,k3]
   simp only [checkN,Nat.reduceEqDiff,if_false,if_true]
   rw [if_neg (by omega),if_neg (by omega)] at hR
   by_cases g:(0<L∧128≤b1∧b1<192)∧(1<L∧128≤b2∧b2<192)∧2<L∧128≤b3∧b3<192
   · rw [if_pos ⟨k4,k5,g⟩] at hR
     by_cases g2:n=240∧b1<144∨n=244∧144≤b1
     · rw [if_pos g2] at hR
       subst hR
       rw [if_pos (by split <;> split <;> omega)];rfl
     · rw [if_neg g2] at hR
       subst hR
       rw [if_neg (by split <;> split <;> omega)];rfl
   · rw [if_neg (fun x=>g x.2.2)] at hR
     subst hR
     rw [if_pos (by split <;> split <;> omega)];rfl
theorem zY:∀ (k:Nat) (l:List UInt8),l.length≤k→validD l=utf l
 | _,[],_=>rfl
 | 0,_::_,h=>by simp at h
 | k+1,c::t,h=>by
  simp only [length_cons] at h
  rw [YR]
  by_cases hc:c.toNat<128
  · have hr:bY (c::t)=1:=by
     simp only [bY];rw [if_pos (UInt8.lt_iff_toNat_lt.2 hc)]
    rw [validD_cons c t hc,hr,zY k t (by omega)];simp
  · rw [validD_lead _ (by simp) (by simpa using hc)]
    have e:=RP c t (by omega)
    simp only [List.getD_cons_zero,List.getD_cons_succ,length_cons] at e ⊢
    rw [e]
    by_cases h0:bY (c::t)=0
    · rw [if_pos h0,h0];rfl
    · rw [if_neg h0]
      have:((c::t).drop (bY (c::t))).length≤k:=by simp only [length_drop,length_cons];omega
      rw [show (bY (c::t) !=0)=true by simpa using h0,Bool.true_and]
      exact zY k _ this
theorem Wi (l:List UInt8):validD l=utf l:=zY _ l (Nat.le_refl _)
def lZ (x:Nat):Bool:=decide (48≤x) && decide (x≤57)
theorem Ef (n b0 b1 b2 b3:Nat) (h:(decodeN n b0 b1 b2 b3).1<128):b0<128∧decodeN n b0 b1 b2 b3=(b0,1):=by
 unfold decodeN at *
 split at h
 · rename_i h0;rw [if_pos h0];exact ⟨h0,rfl⟩
 · exfalso
   repeat' split at h
   all_goals (simp at h;try omega)
theorem Eg (n b0 b1 b2 b3:Nat) (h:b0<128):decodeN n b0 b1 b2 b3=(b0,1):=by unfold decodeN;rw [if_pos h]
theorem Fw {x:Nat}(h:lZ x=true):x<128:=by simp [lZ] at h;omega
def Fx (l:List UInt8) (i:Nat):Prop:=∀ j,i≤j→j<l.length→lZ (l.getD j 0).toNat=true
theorem OJ (s:ByteArray):∀ (f pos:Nat),s.data.toList.length-pos≤f→(idxFuncFrom lZ false s f pos=-1↔Fx s.data.toList pos)
 | 0,pos,h=>by
  simp only [idxFuncFrom,true_iff]
  intro j h1 h2;omega
 | f+1,pos,h=>by
  unfold idxFuncFrom
  rw [size_eq]
  split
  · rename_i hp
    rw [decode_N]
    generalize hd:decodeN _ _ _ _ _=d
    split
    · rename_i hf
      have:¬ Fx s.data.toList pos:=fun hg=>by
       have g:=hg pos (Nat.le_refl _) hp
       rw [Eg _ _ _ _ _ (Fw g)] at hd
       rw [← hd] at hf
       simp only at hf
       rw [g] at hf;cases hf
      simp only [this,iff_false];omega
    · rename_i hf
      simp only [Bool.not_eq_false] at hf
      have hlt:=Fw hf
      rw [← hd] at hlt
      obtain ⟨g1,g2⟩:=Ef _ _ _ _ _ hlt
      rw [g2] at hd
      subst hd
      rw [OJ s f (pos+1) (by omega)]
      constructor
      · intro hh j h1 h2
        rcases Nat.eq_or_lt_of_le h1 with rfl | h1
        · exact hf
        · exact hh j h1 h2
      · intro hh j h1 h2;exact hh j (by omega) h2
  · rename_i hp
    simp only [true_iff]
    intro j h1 h2;omega
theorem GU (l:List UInt8) (h:(decodeLastL l).1<128):l≠[]∧(l.getD (l.length-1) 0).toNat<128∧decodeLastL l=((l.getD (l.length-1) 0).toNat,1):=by
 unfold decodeLastL at *
 split at h
 · simp [Utf8.runeError] at h
 · rename_i hne
   rw [if_neg hne]
   split at h
   · rename_i h1;rw [if_pos h1];exact ⟨hne,h1,rfl⟩
   · rename_i h1
     exfalso
     simp only at h
     split at h
     · rename_i h2
       rw [decodeL_N] at h h2
       obtain ⟨g1,g2⟩:=Ef _ _ _ _ _ h
       rw [g2] at h2
       simp only [getD_dropU] at g1
       have:lastStart l+0=l.length-1:=by omega
       rw [this] at g1
       exact h1 g1
     · simp [Utf8.runeError] at h
theorem Km (s:ByteArray):∀ (f i:Nat),i≤f→i≤s.data.toList.length→lastIdxFuncFrom lZ false s f i=-1→∀ j,j<i→lZ (s.data.toList.getD j 0).toNat=true
 | 0,i,h,_,_,j,hj=>by omega
 | f+1,i,h,hi,hx,j,hj=>by
  unfold lastIdxFuncFrom at hx
  rw [if_pos (by omega)] at hx
  split at hx
  · omega
  · rename_i hf
    simp only [Bool.not_eq_false] at hf
    obtain ⟨g0,g1,g2⟩:=GU _ (Fw hf)
    rw [g2] at hf hx
    have hl:(s.data.toList.take i).length=i:=by rw [length_take];omega
    rw [hl] at hf hx
    have e:(s.data.toList.take i).getD (i-1) 0=s.data.toList.getD (i-1) 0:=by
     simp only [List.getD,List.getElem?_take];rw [if_pos (by omega)]
    rw [e] at hf
    rcases Nat.lt_or_ge j (i-1) with h1 | h1
    · exact Km s f (i-1) (by omega) (by omega) hx j h1
    · have:j=i-1:=by omega
      subst this;exact hf
theorem YS (l:List UInt8):fU l=true↔Fx l 0:=by
 unfold fU Fx
 rw [List.all_eq_true]
 have key:∀ c:UInt8,(decide (48≤c) && decide (c≤57))=lZ c.toNat:=fun c=>by
  have x1:(48≤c)↔48≤c.toNat:=UInt8.le_iff_toNat_le
  have x2:(c≤57)↔c.toNat≤57:=UInt8.le_iff_toNat_le
  simp only [lZ,x1,x2]
 constructor
 · intro h j _ hj
   rw [← key]
   have:l.getD j 0=l[j]:=by simp [List.getD,hj]
   rw [this]
   exact h _ (List.getElem_mem hj)
 · intro h c hc
   obtain ⟨j,hj,rfl⟩:=List.mem_iff_getElem.1 hc
   rw [key]
   have:l.getD j 0=l[j]:=by simp [List.getD,hj]
   rw [← this]
   exact h j (Nat.zero_le _) hj
theorem Eh (p:Nat→Bool) (truth:Bool) (s:ByteArray):∀ (f i:Nat),i≤s.size→lastIdxFuncFrom p truth s f i=-1∨(0≤lastIdxFuncFrom p truth s f i∧lastIdxFuncFrom p truth s f i<i)
 | 0,_,_=>.inl rfl
 | f+1,i,hi=>by
  unfold lastIdxFuncFrom
  split
  · rename_i h0
    have hk:=decodeLastL_width (s.data.toList.take i) (by rw [length_take,← size_eq];omega)
    rw [length_take,← size_eq,Nat.min_eq_left hi] at hk
    split
    · exact .inr ⟨by omega,by omega⟩
    · rcases Eh p truth s f (i-(decodeLastL (s.data.toList.take i)).2) (by omega) with h | ⟨h1,h2⟩
      · exact .inl h
      · exact .inr ⟨h1,by omega⟩
  · exact .inl rfl
theorem RQ (l:List UInt8):(trimF lZ ⟨⟨l⟩⟩=⟨⟨[]⟩⟩)↔fU l=true:=by
 have hi:=OJ ⟨⟨l⟩⟩ l.length 0 (by simp)
 rw [YS,← (show (({ data:={ toList:=l } }:ByteArray).data.toList)=l from rfl),← hi]
 have hidx:idxFunc lZ false ⟨⟨l⟩⟩=idxFuncFrom lZ false ⟨⟨l⟩⟩ l.length 0:=rfl
 rw [← hidx]
 unfold trimF trimLeftF
 constructor
 · intro h
   refine Classical.byContradiction fun hne=>?_
   rw [if_neg hne] at h
   have hr:=idxFunc_range lZ false ⟨⟨l⟩⟩
   obtain ⟨r1,r2⟩:=hr.resolve_left hne
   rw [size_eq] at r2
   generalize hk:(idxFunc lZ false ⟨⟨l⟩⟩).toNat=k at *
   have hkl:k<l.length:=by simp at r2;omega
   rw [extract_from] at h
   simp only at h
   have hnd:lZ (l.getD k 0).toNat=false:=by
    have key:∀ f pos,idxFuncFrom lZ false ⟨⟨l⟩⟩ f pos≠-1→lZ (Utf8.decode ⟨⟨l⟩⟩ (idxFuncFrom lZ false ⟨⟨l⟩⟩ f pos).toNat).1=false:=by
     intro f
     induction f with
     | zero=>intro pos h;exact absurd rfl h
     | succ f ih=>
      intro pos h
      unfold idxFuncFrom at h ⊢
      split at h
      · rename_i hp
        rw [if_pos hp]
        split at h
        · rename_i hf;rw [if_pos hf];simpa using hf
        · rename_i hf;rw [if_neg hf];exact ih _ h
      · exact absurd rfl h
    have:=key _ _ hne
    rw [show (⟨⟨l⟩⟩:ByteArray).size=l.length from rfl,← hidx,hk,decode_N] at this
    cases hb:lZ (l.getD k 0).toNat with
    | false=>rfl
    | true=>
     have hlow:=Fw hb
     rw [Eg _ _ _ _ _ hlow] at this
     simp only at this
     rw [hb] at this;cases this
   unfold trimRightF at h
   rw [extract_upto] at h
   have hlen:=congrArg (fun b:ByteArray=>b.data.toList.length) h
   simp only [length_take,length_drop,List.length_nil] at hlen
   have hz:rightEndF lZ ⟨(l.drop k).toArray⟩=0:=by omega
   unfold rightEndF at hz
   have hlt:=Eh lZ false ⟨(l.drop k).toArray⟩ (l.drop k).length (l.drop k).length (by rw [size_eq];exact Nat.le_refl _)
   have YU:lastIdxFunc lZ false ⟨(l.drop k).toArray⟩=lastIdxFuncFrom lZ false ⟨(l.drop k).toArray⟩ (l.drop k).length (l.drop k).length:=rfl
   split at hz
   · rename_i h0
     rw [YU] at h0 hz
     obtain ⟨h1,h2⟩:=hlt.resolve_left (by omega)
     have h3:1≤(decodeGoB ((⟨(l.drop k).toArray⟩:ByteArray).extract (lastIdxFuncFrom lZ false ⟨(l.drop k).toArray⟩ (l.drop k).length (l.drop k).length).toNat (⟨(l.drop k).toArray⟩:ByteArray).size)).2:=by
      unfold decodeGoB
      rw [if_neg]
      · exact width_pos _ _
      · rw [extract_from,size_eq]
        simp only [length_drop] at h2 ⊢
        omega
     omega
   · rename_i h0
     rw [YU] at h0
     have h1:=hlt.resolve_right (by omega)
     have:=Km ⟨(l.drop k).toArray⟩ _ _ (Nat.le_refl _) (Nat.le_refl _) h1 0 (by rw [length_drop];omega)
     simp only [getD_dropU] at this
     rw [Nat.add_zero,hnd] at this
     cases this
 · intro h
   rw [if_pos h]
   rfl
theorem rQ {α:Type}(p:α→Bool) (l:List α):(l.dropWhile p).length≤l.length:=(List.dropWhile_suffix p).length_le
theorem GV {α:Type}(p:α→Bool):∀ l:List α,l.dropWhile p=l↔(∀ x,l.head?=some x→p x=false)
 | []=>by simp
 | x::t=>by
  rw [List.dropWhile_cons]
  split
  · rename_i h
    constructor
    · intro e
      have:=congrArg List.length e
      have h2:=rQ p t
      simp at this;omega
    · intro g;rw [g x rfl] at h;cases h
  · rename_i h;simpa using h
theorem RS (l:List UInt8) (c:UInt8):trimB l c=l↔l.head?≠some c∧l.getLast?≠some c:=by
 have h1:∀ m:List UInt8,(m.dropWhile (·==c)=m)↔m.head?≠some c:=fun m=>by
  rw [GV]
  constructor
  · intro h e;simpa using h c e
  · intro h x hx;rw [hx] at h;simpa using h
 unfold trimB trimLeftB
 have hlen:(trimRightB l c).length≤l.length:=by
  unfold trimRightB
  have:=rQ (·==c) l.reverse
  simpa using this
 have hr:trimRightB l c=l↔l.getLast?≠some c:=by
  unfold trimRightB
  rw [List.reverse_eq_iff,h1,List.head?_reverse]
 constructor
 · intro h
   have h2:=rQ (·==c) (trimRightB l c)
   have h3:=congrArg List.length h
   have h4:trimRightB l c=l:=by
    unfold trimRightB at *
    have:=List.dropWhile_suffix (l:=l.reverse) (p:=(·==c))
    have e:=this.eq_of_length (by simp at *;omega)
    rw [e,List.reverse_reverse]
   rw [h4] at h
   exact ⟨(h1 l).1 h,hr.1 h4⟩
 · rintro ⟨g1,g2⟩
   rw [hr.2 g2];exact (h1 l).2 g1
end Lp
namespace Go.Proofs
open Go.Shelf
def Tryz.OL:Go.Shelf.Ren:=⟨fun | 160=>185 | 232=>160 | 231=>156 | 227=>157 | 234=>161 | 233=>158 | 236=>162 | 235=>159 | 228=>179 | 271=>182 | 151=>181 | 197=>180 | 120=>193 | 152=>192 | 260=>191 | 137=>194 | 119=>195 | 224=>196 | 225=>197 | 217=>198 | 266=>199 | n=>n,fun | 9=>9 | 4=>4 | 3=>3 | 5=>5 | 117=>181 | 116=>180 | 0=>0 | 124=>184 | 21=>21 | 105=>203 | 46=>152 | 119=>193 | 139=>196 | 138=>195 | n=>n,fun | 3=>0 | 4=>1 | n=>n⟩
theorem Tryz.Uy:Go.Proofs.Lays.n160 Tryz.prog Tryz.OL:={
 mixed:=by kernel_rfl
 f119:=Tryz.func195.trans (congrArg some (by kernel_rfl))
 f120:=Tryz.func193.trans (congrArg some (by kernel_rfl))
 f137:=Tryz.func194.trans (congrArg some (by kernel_rfl))
 f151:=Tryz.func181.trans (congrArg some (by kernel_rfl))
 f152:=Tryz.func192.trans (congrArg some (by kernel_rfl))
 f160:=Tryz.func185.trans (congrArg some (by kernel_rfl))
 f197:=Tryz.func180.trans (congrArg some (by kernel_rfl))
 f217:=Tryz.func198.trans (congrArg some (by kernel_rfl))
 f224:=Tryz.func196.trans (congrArg some (by kernel_rfl))
 f225:=Tryz.func197.trans (congrArg some (by kernel_rfl))
 f227:=Tryz.func157.trans (congrArg some (by kernel_rfl))
 f228:=Tryz.func179.trans (congrArg some (by kernel_rfl))
 f231:=Tryz.func156.trans (congrArg some (by kernel_rfl))
 f232:=Tryz.func160.trans (congrArg some (by kernel_rfl))
 f233:=Tryz.func158.trans (congrArg some (by kernel_rfl))
 f234:=Tryz.func161.trans (congrArg some (by kernel_rfl))
 f235:=Tryz.func159.trans (congrArg some (by kernel_rfl))
 f236:=Tryz.func162.trans (congrArg some (by kernel_rfl))
 f260:=Tryz.func191.trans (congrArg some (by kernel_rfl))
 f266:=Tryz.func199.trans (congrArg some (by kernel_rfl))
 f271:=Tryz.func182.trans (congrArg some (by kernel_rfl))
 t0:=Tryz.underlying0
 a0:=Tryz.isAgg0
 z0:=Tryz.sizeOf0
 v0:=Tryz.zeroValue0
 t3:=Tryz.underlying3
 a3:=Tryz.isAgg3
 z3:=Tryz.sizeOf3
 v3:=Tryz.zeroValue3
 t4:=Tryz.underlying4
 a4:=Tryz.isAgg4
 z4:=Tryz.sizeOf4
 v4:=Tryz.zeroValue4
 t5:=Tryz.underlying5
 a5:=Tryz.isAgg5
 z5:=Tryz.sizeOf5
 v5:=Tryz.zeroValue5
 t9:=Tryz.underlying9
 a9:=Tryz.isAgg9
 z9:=Tryz.sizeOf9
 v9:=Tryz.zeroValue9
 t21:=Tryz.underlying21
 a21:=Tryz.isAgg21
 z21:=Tryz.sizeOf21
 v21:=Tryz.zeroValue21
 t46:=Tryz.underlying152
 a46:=Tryz.isAgg152
 z46:=Tryz.sizeOf152
 v46:=Tryz.zeroValue152
 t105:=Tryz.underlying203
 a105:=Tryz.isAgg203
 z105:=Tryz.sizeOf203
 v105:=Tryz.zeroValue203
 t116:=Tryz.underlying180
 a116:=Tryz.isAgg180
 z116:=Tryz.sizeOf180
 t117:=Tryz.underlying181
 a117:=Tryz.isAgg181
 z117:=Tryz.sizeOf181
 v117:=Tryz.zeroValue181
 t119:=Tryz.underlying193
 a119:=Tryz.isAgg193
 z119:=Tryz.sizeOf193
 t124:=Tryz.underlying184
 a124:=Tryz.isAgg184
 z124:=Tryz.sizeOf184
 v124:=Tryz.zeroValue184
 t138:=Tryz.underlying195
 a138:=Tryz.isAgg195
 z138:=Tryz.sizeOf195
 v138:=Tryz.zeroValue195
 t139:=Tryz.underlying196
 a139:=Tryz.isAgg196
 z139:=Tryz.sizeOf196
 v139:=Tryz.zeroValue196
 g3:=by kernel_rfl
 g4:=by kernel_rfl }
def Tryz.OM:Go.Shelf.Ren:=⟨fun | 196=>142 | 259=>169 | n=>n,fun | 9=>9 | 4=>4 | 3=>3 | 5=>5 | 12=>12 | 119=>193 | 0=>0 | 46=>152 | 139=>196 | 138=>195 | 53=>188 | n=>n,fun | 3=>0 | 4=>1 | n=>n⟩
theorem Tryz.LH:Go.Proofs.Lays.n196 Tryz.prog Tryz.OM:={
 mixed:=by kernel_rfl
 f196:=Tryz.func142.trans (congrArg some (by kernel_rfl))
 f259:=Tryz.func169.trans (congrArg some (by kernel_rfl))
 t0:=Tryz.underlying0
 a0:=Tryz.isAgg0
 z0:=Tryz.sizeOf0
 v0:=Tryz.zeroValue0
 t3:=Tryz.underlying3
 a3:=Tryz.isAgg3
 z3:=Tryz.sizeOf3
 v3:=Tryz.zeroValue3
 t4:=Tryz.underlying4
 a4:=Tryz.isAgg4
 z4:=Tryz.sizeOf4
 v4:=Tryz.zeroValue4
 t5:=Tryz.underlying5
 a5:=Tryz.isAgg5
 z5:=Tryz.sizeOf5
 v5:=Tryz.zeroValue5
 t9:=Tryz.underlying9
 a9:=Tryz.isAgg9
 z9:=Tryz.sizeOf9
 v9:=Tryz.zeroValue9
 t12:=Tryz.underlying12
 a12:=Tryz.isAgg12
 z12:=Tryz.sizeOf12
 v12:=Tryz.zeroValue12
 t46:=Tryz.underlying152
 a46:=Tryz.isAgg152
 z46:=Tryz.sizeOf152
 v46:=Tryz.zeroValue152
 t53:=Tryz.underlying188
 a53:=Tryz.isAgg188
 z53:=Tryz.sizeOf188
 v53:=Tryz.zeroValue188
 t119:=Tryz.underlying193
 a119:=Tryz.isAgg193
 z119:=Tryz.sizeOf193
 t138:=Tryz.underlying195
 a138:=Tryz.isAgg195
 z138:=Tryz.sizeOf195
 v138:=Tryz.zeroValue195
 t139:=Tryz.underlying196
 a139:=Tryz.isAgg196
 z139:=Tryz.sizeOf196
 v139:=Tryz.zeroValue196
 g3:=by kernel_rfl
 g4:=by kernel_rfl }
def Tryz.OO:Go.Shelf.Ren:=⟨fun | 237=>154 | 272=>178 | 238=>177 | 315=>190 | 273=>189 | 197=>180 | 271=>182 | 260=>191 | 120=>193 | n=>n,fun | 9=>9 | 40=>177 | 4=>4 | 3=>3 | 105=>203 | 21=>21 | 0=>0 | 5=>5 | 119=>193 | 46=>152 | 139=>196 | 138=>195 | n=>n,fun | 3=>0 | 4=>1 | n=>n⟩
theorem Tryz.Uz:Go.Proofs.Lays.n237 Tryz.prog Tryz.OO:={
 mixed:=by kernel_rfl
 f120:=Tryz.func193.trans (congrArg some (by kernel_rfl))
 f197:=Tryz.func180.trans (congrArg some (by kernel_rfl))
 f237:=Tryz.func154.trans (congrArg some (by kernel_rfl))
 f238:=Tryz.func177.trans (congrArg some (by kernel_rfl))
 f260:=Tryz.func191.trans (congrArg some (by kernel_rfl))
 f271:=Tryz.func182.trans (congrArg some (by kernel_rfl))
 f272:=Tryz.func178.trans (congrArg some (by kernel_rfl))
 f273:=Tryz.func189.trans (congrArg some (by kernel_rfl))
 f315:=Tryz.func190.trans (congrArg some (by kernel_rfl))
 t0:=Tryz.underlying0
 a0:=Tryz.isAgg0
 z0:=Tryz.sizeOf0
 v0:=Tryz.zeroValue0
 t3:=Tryz.underlying3
 a3:=Tryz.isAgg3
 z3:=Tryz.sizeOf3
 v3:=Tryz.zeroValue3
 t4:=Tryz.underlying4
 a4:=Tryz.isAgg4
 z4:=Tryz.sizeOf4
 v4:=Tryz.zeroValue4
 t5:=Tryz.underlying5
 a5:=Tryz.isAgg5
 z5:=Tryz.sizeOf5
 v5:=Tryz.zeroValue5
 t9:=Tryz.underlying9
 a9:=Tryz.isAgg9
 z9:=Tryz.sizeOf9
 v9:=Tryz.zeroValue9
 t21:=Tryz.underlying21
 a21:=Tryz.isAgg21
 z21:=Tryz.sizeOf21
 v21:=Tryz.zeroValue21
 t40:=Tryz.underlying177
 a40:=Tryz.isAgg177
 z40:=Tryz.sizeOf177
 v40:=Tryz.zeroValue177
 t46:=Tryz.underlying152
 a46:=Tryz.isAgg152
 z46:=Tryz.sizeOf152
 v46:=Tryz.zeroValue152
 t105:=Tryz.underlying203
 a105:=Tryz.isAgg203
 z105:=Tryz.sizeOf203
 v105:=Tryz.zeroValue203
 t119:=Tryz.underlying193
 a119:=Tryz.isAgg193
 z119:=Tryz.sizeOf193
 t138:=Tryz.underlying195
 a138:=Tryz.isAgg195
 z138:=Tryz.sizeOf195
 v138:=Tryz.zeroValue195
 t139:=Tryz.underlying196
 a139:=Tryz.isAgg196
 z139:=Tryz.sizeOf196
 v139:=Tryz.zeroValue196
 g3:=by kernel_rfl
 g4:=by kernel_rfl }
def Tryz.Bu:Go.Shelf.Ren:=⟨fun | 4=>118 | n=>n,fun | 22=>23 | 25=>51 | 3=>3 | 4=>4 | 9=>9 | 20=>20 | 0=>0 | n=>n,fun | n=>n⟩
theorem Tryz.GX:Go.Proofs.Lays8.n4 Tryz.prog Tryz.Bu:={
 mixed:=by kernel_rfl
 f4:=⟨Tryz.f118.name,by decide,Tryz.func118.trans (congrArg some (by kernel_rfl))⟩
 t0:=Tryz.underlying0
 a0:=Tryz.isAgg0
 z0:=Tryz.sizeOf0
 v0:=Tryz.zeroValue0
 t3:=Tryz.underlying3
 a3:=Tryz.isAgg3
 z3:=Tryz.sizeOf3
 v3:=Tryz.zeroValue3
 t4:=Tryz.underlying4
 a4:=Tryz.isAgg4
 z4:=Tryz.sizeOf4
 v4:=Tryz.zeroValue4
 t9:=Tryz.underlying9
 a9:=Tryz.isAgg9
 z9:=Tryz.sizeOf9
 v9:=Tryz.zeroValue9
 t20:=Tryz.underlying20
 a20:=Tryz.isAgg20
 z20:=Tryz.sizeOf20
 v20:=Tryz.zeroValue20
 t22:=Tryz.underlying23
 a22:=Tryz.isAgg23
 z22:=Tryz.sizeOf23
 v22:=Tryz.zeroValue23 }
def Tryz.Ei:Go.Shelf.Ren:=⟨fun | 105=>126 | 212=>135 | 99=>136 | 165=>137 | 166=>138 | 170=>139 | 169=>140 | 263=>163 | 264=>164 | 206=>165 | 240=>166 | 241=>167 | 276=>183 | 277=>184 | n=>n,fun | 9=>9 | 3=>3 | 4=>4 | 20=>20 | 0=>0 | 46=>152 | 109=>153 | 5=>5 | 72=>158 | 76=>162 | 51=>185 | 146=>186 | 53=>188 | 148=>189 | 70=>156 | 37=>146 | 75=>161 | 127=>191 | 164=>206 | 80=>165 | n=>n,fun | n=>n⟩
theorem Tryz.xP:Go.Proofs.Lays.n105 Tryz.prog Tryz.Ei:={
 mixed:=by kernel_rfl
 f99:=Tryz.func136.trans (congrArg some (by kernel_rfl))
 f105:=Tryz.func126.trans (congrArg some (by kernel_rfl))
 f165:=Tryz.func137.trans (congrArg some (by kernel_rfl))
 f166:=Tryz.func138.trans (congrArg some (by kernel_rfl))
 f169:=Tryz.func140.trans (congrArg some (by kernel_rfl))
 f170:=Tryz.func139.trans (congrArg some (by kernel_rfl))
 f206:=Tryz.func165.trans (congrArg some (by kernel_rfl))
 f212:=Tryz.func135.trans (congrArg some (by kernel_rfl))
 f240:=Tryz.func166.trans (congrArg some (by kernel_rfl))
 f241:=Tryz.func167.trans (congrArg some (by kernel_rfl))
 f263:=Tryz.func163.trans (congrArg some (by kernel_rfl))
 f264:=Tryz.func164.trans (congrArg some (by kernel_rfl))
 f276:=Tryz.func183.trans (congrArg some (by kernel_rfl))
 f277:=Tryz.func184.trans (congrArg some (by kernel_rfl))
 t0:=Tryz.underlying0
 a0:=Tryz.isAgg0
 z0:=Tryz.sizeOf0
 v0:=Tryz.zeroValue0
 t3:=Tryz.underlying3
 a3:=Tryz.isAgg3
 z3:=Tryz.sizeOf3
 v3:=Tryz.zeroValue3
 t4:=Tryz.underlying4
 a4:=Tryz.isAgg4
 z4:=Tryz.sizeOf4
 v4:=Tryz.zeroValue4
 t5:=Tryz.underlying5
 a5:=Tryz.isAgg5
 z5:=Tryz.sizeOf5
 v5:=Tryz.zeroValue5
 t9:=Tryz.underlying9
 a9:=Tryz.isAgg9
 z9:=Tryz.sizeOf9
 v9:=Tryz.zeroValue9
 t20:=Tryz.underlying20
 a20:=Tryz.isAgg20
 z20:=Tryz.sizeOf20
 v20:=Tryz.zeroValue20
 t37:=Tryz.underlying146
 a37:=Tryz.isAgg146
 z37:=Tryz.sizeOf146
 v37:=Tryz.zeroValue146
 t46:=Tryz.underlying152
 a46:=Tryz.isAgg152
 z46:=Tryz.sizeOf152
 v46:=Tryz.zeroValue152
 t51:=Tryz.underlying185
 a51:=Tryz.isAgg185
 z51:=Tryz.sizeOf185
 v51:=Tryz.zeroValue185
 t53:=Tryz.underlying188
 a53:=Tryz.isAgg188
 z53:=Tryz.sizeOf188
 v53:=Tryz.zeroValue188
 t70:=Tryz.underlying156
 a70:=Tryz.isAgg156
 z70:=Tryz.sizeOf156
 v70:=Tryz.zeroValue156
 t72:=Tryz.underlying158
 a72:=Tryz.isAgg158
 z72:=Tryz.sizeOf158
 v72:=Tryz.zeroValue158
 t75:=Tryz.underlying161
 a75:=Tryz.isAgg161
 z75:=Tryz.sizeOf161
 v75:=Tryz.zeroValue161
 t76:=Tryz.underlying162
 a76:=Tryz.isAgg162
 z76:=Tryz.sizeOf162
 v76:=Tryz.zeroValue162
 t109:=Tryz.underlying153
 a109:=Tryz.isAgg153
 z109:=Tryz.sizeOf153
 v109:=Tryz.zeroValue153
 t127:=Tryz.underlying191
 a127:=Tryz.isAgg191
 z127:=Tryz.sizeOf191
 v127:=Tryz.zeroValue191
 t146:=Tryz.underlying186
 a146:=Tryz.isAgg186
 z146:=Tryz.sizeOf186
 v146:=Tryz.zeroValue186
 t148:=Tryz.underlying189
 a148:=Tryz.isAgg189
 z148:=Tryz.sizeOf189
 v148:=Tryz.zeroValue189
 t164:=Tryz.underlying206
 a164:=Tryz.isAgg206
 z164:=Tryz.sizeOf206
 v164:=Tryz.zeroValue206 }
def Tryz.OP:Go.Shelf.Ren:=⟨fun | 161=>132 | 231=>156 | 227=>157 | 233=>158 | 235=>159 | 228=>179 | 197=>180 | 151=>181 | 260=>191 | 152=>192 | 137=>194 | 119=>195 | 224=>196 | 225=>197 | 217=>198 | 266=>199 | n=>n,fun | 9=>9 | 4=>4 | 3=>3 | 5=>5 | 117=>181 | 116=>180 | 0=>0 | 124=>184 | 105=>203 | 21=>21 | 119=>193 | 46=>152 | 139=>196 | 138=>195 | n=>n,fun | 3=>0 | 4=>1 | n=>n⟩
theorem Tryz.UA:Go.Proofs.Lays.n161 Tryz.prog Tryz.OP:={
 mixed:=by kernel_rfl
 f119:=Tryz.func195.trans (congrArg some (by kernel_rfl))
 f137:=Tryz.func194.trans (congrArg some (by kernel_rfl))
 f151:=Tryz.func181.trans (congrArg some (by kernel_rfl))
 f152:=Tryz.func192.trans (congrArg some (by kernel_rfl))
 f161:=Tryz.func132.trans (congrArg some (by kernel_rfl))
 f197:=Tryz.func180.trans (congrArg some (by kernel_rfl))
 f217:=Tryz.func198.trans (congrArg some (by kernel_rfl))
 f224:=Tryz.func196.trans (congrArg some (by kernel_rfl))
 f225:=Tryz.func197.trans (congrArg some (by kernel_rfl))
 f227:=Tryz.func157.trans (congrArg some (by kernel_rfl))
 f228:=Tryz.func179.trans (congrArg some (by kernel_rfl))
 f231:=Tryz.func156.trans (congrArg some (by kernel_rfl))
 f233:=Tryz.func158.trans (congrArg some (by kernel_rfl))
 f235:=Tryz.func159.trans (congrArg some (by kernel_rfl))
 f260:=Tryz.func191.trans (congrArg some (by kernel_rfl))
 f266:=Tryz.func199.trans (congrArg some (by kernel_rfl))
 t0:=Tryz.underlying0
 a0:=Tryz.isAgg0
 z0:=Tryz.sizeOf0
 v0:=Tryz.zeroValue0
 t3:=Tryz.underlying3
 a3:=Tryz.isAgg3
 z3:=Tryz.sizeOf3
 v3:=Tryz.zeroValue3
 t4:=Tryz.underlying4
 a4:=Tryz.isAgg4
 z4:=Tryz.sizeOf4
 v4:=Tryz.zeroValue4
 t5:=Tryz.underlying5
 a5:=Tryz.isAgg5
 z5:=Tryz.sizeOf5
 v5:=Tryz.zeroValue5
 t9:=Tryz.underlying9
 a9:=Tryz.isAgg9
 z9:=Tryz.sizeOf9
 v9:=Tryz.zeroValue9
 t21:=Tryz.underlying21
 a21:=Tryz.isAgg21
 z21:=Tryz.sizeOf21
 v21:=Tryz.zeroValue21
 t46:=Tryz.underlying152
 a46:=Tryz.isAgg152
 z46:=Tryz.sizeOf152
 v46:=Tryz.zeroValue152
 t105:=Tryz.underlying203
 a105:=Tryz.isAgg203
 z105:=Tryz.sizeOf203
 v105:=Tryz.zeroValue203
 t116:=Tryz.underlying180
 a116:=Tryz.isAgg180
 z116:=Tryz.sizeOf180
 t117:=Tryz.underlying181
 a117:=Tryz.isAgg181
 z117:=Tryz.sizeOf181
 v117:=Tryz.zeroValue181
 t119:=Tryz.underlying193
 a119:=Tryz.isAgg193
 z119:=Tryz.sizeOf193
 t124:=Tryz.underlying184
 a124:=Tryz.isAgg184
 z124:=Tryz.sizeOf184
 v124:=Tryz.zeroValue184
 t138:=Tryz.underlying195
 a138:=Tryz.isAgg195
 z138:=Tryz.sizeOf195
 v138:=Tryz.zeroValue195
 t139:=Tryz.underlying196
 a139:=Tryz.isAgg196
 z139:=Tryz.sizeOf196
 v139:=Tryz.zeroValue196
 g3:=by kernel_rfl
 g4:=by kernel_rfl }
def Tryz.OQ:Go.Shelf.Ren:=⟨fun | 162=>133 | 232=>160 | 227=>157 | 234=>161 | 236=>162 | 228=>179 | 271=>182 | 151=>181 | 120=>193 | 197=>180 | 152=>192 | 260=>191 | 137=>194 | 119=>195 | 224=>196 | 225=>197 | 217=>198 | 266=>199 | n=>n,fun | 9=>9 | 4=>4 | 3=>3 | 5=>5 | 117=>181 | 116=>180 | 0=>0 | 124=>184 | 21=>21 | 105=>203 | 46=>152 | 119=>193 | 139=>196 | 138=>195 | n=>n,fun | 3=>0 | 4=>1 | n=>n⟩
theorem Tryz.UB:Go.Proofs.Lays.n162 Tryz.prog Tryz.OQ:={
 mixed:=by kernel_rfl
 f119:=Tryz.func195.trans (congrArg some (by kernel_rfl))
 f120:=Tryz.func193.trans (congrArg some (by kernel_rfl))
 f137:=Tryz.func194.trans (congrArg some (by kernel_rfl))
 f151:=Tryz.func181.trans (congrArg some (by kernel_rfl))
 f152:=Tryz.func192.trans (congrArg some (by kernel_rfl))
 f162:=Tryz.func133.trans (congrArg some (by kernel_rfl))
 f197:=Tryz.func180.trans (congrArg some (by kernel_rfl))
 f217:=Tryz.func198.trans (congrArg some (by kernel_rfl))
 f224:=Tryz.func196.trans (congrArg some (by kernel_rfl))
 f225:=Tryz.func197.trans (congrArg some (by kernel_rfl))
 f227:=Tryz.func157.trans (congrArg some (by kernel_rfl))
 f228:=Tryz.func179.trans (congrArg some (by kernel_rfl))
 f232:=Tryz.func160.trans (congrArg some (by kernel_rfl))
 f234:=Tryz.func161.trans (congrArg some (by kernel_rfl))
 f236:=Tryz.func162.trans (congrArg some (by kernel_rfl))
 f260:=Tryz.func191.trans (congrArg some (by kernel_rfl))
 f266:=Tryz.func199.trans (congrArg some (by kernel_rfl))
 f271:=Tryz.func182.trans (congrArg some (by kernel_rfl))
 t0:=Tryz.underlying0
 a0:=Tryz.isAgg0
 z0:=Tryz.sizeOf0
 v0:=Tryz.zeroValue0
 t3:=Tryz.underlying3
 a3:=Tryz.isAgg3
 z3:=Tryz.sizeOf3
 v3:=Tryz.zeroValue3
 t4:=Tryz.underlying4
 a4:=Tryz.isAgg4
 z4:=Tryz.sizeOf4
 v4:=Tryz.zeroValue4
 t5:=Tryz.underlying5
 a5:=Tryz.isAgg5
 z5:=Tryz.sizeOf5
 v5:=Tryz.zeroValue5
 t9:=Tryz.underlying9
 a9:=Tryz.isAgg9
 z9:=Tryz.sizeOf9
 v9:=Tryz.zeroValue9
 t21:=Tryz.underlying21
 a21:=Tryz.isAgg21
 z21:=Tryz.sizeOf21
 v21:=Tryz.zeroValue21
 t46:=Tryz.underlying152
 a46:=Tryz.isAgg152
 z46:=Tryz.sizeOf152
 v46:=Tryz.zeroValue152
 t105:=Tryz.underlying203
 a105:=Tryz.isAgg203
 z105:=Tryz.sizeOf203
 v105:=Tryz.zeroValue203
 t116:=Tryz.underlying180
 a116:=Tryz.isAgg180
 z116:=Tryz.sizeOf180
 t117:=Tryz.underlying181
 a117:=Tryz.isAgg181
 z117:=Tryz.sizeOf181
 v117:=Tryz.zeroValue181
 t119:=Tryz.underlying193
 a119:=Tryz.isAgg193
 z119:=Tryz.sizeOf193
 t124:=Tryz.underlying184
 a124:=Tryz.isAgg184
 z124:=Tryz.sizeOf184
 v124:=Tryz.zeroValue184
 t138:=Tryz.underlying195
 a138:=Tryz.isAgg195
 z138:=Tryz.sizeOf195
 v138:=Tryz.zeroValue195
 t139:=Tryz.underlying196
 a139:=Tryz.isAgg196
 z139:=Tryz.sizeOf196
 v139:=Tryz.zeroValue196
 g3:=by kernel_rfl
 g4:=by kernel_rfl }
end Go.Proofs
namespace Lp
open Go Go.Proofs Go.RowKit
theorem Ej {w:World}{ok:Nat→Prop}{blk:Nat→Option Nat}{args:List PV}{vs:List Value}(h:dh (aV w ok [] blk) args vs):dh (dB w ok) args vs:=h.mono fun _ _ h=>wF h
theorem ai.qX {P:Program}{f:FuncId}{args:List PV}{r:PV}(hent:Enters P f)
  (h:∀ (w:World) (vs:List Value) (ok:Nat→Prop),rD.holds w.heap→dh (dB w ok) args vs→Calls P f ⟨vs⟩ w fun e w'=>∃ v,e=.returned v∧(∀ w ok,dB w ok r v)∧Below w.heap.size w w') :
  ai P f args [] r []:=by
 refine ⟨hent,fun w blk vs base hb _ hargs=>(h w vs _ hb.1 (Ej hargs)).mono ?_⟩
 rintro e w' ⟨v,h1,h2,h3⟩
 exact ⟨v,blk,h1,wG,.aJ (h2 _ _),fun b hb _=>h3.block b hb,h3.size,h3.os,h3.output⟩
theorem ai.RU {P:Program}{f:FuncId}{args:List PV}{ty:TypeId}{sz:Nat}(hent:Enters P f) (hty:ty≠MT)
  (h:∀ (w:World) (vs:List Value) (ok:Nat→Prop),rD.holds w.heap→dh (dB w ok) args vs→Calls P f ⟨vs⟩ w fun e w'=>∃ v,e=.returned v∧Below w.heap.size w w'∧
   (v=.slice none 0 0∨∃ g cap c,w.heap.size≤g∧v=.slice (some ⟨g,0,none⟩) 0 cap∧w'.heap[g]?=some (.cells c ty (0,0))∧cap≤maxLen∧c.size=cap*sz)) :
  ai P f args [] (.bG 0 0) [⟨ty,sz,[],true,0⟩]:=by
 refine ⟨hent,fun w blk vs base hb _ hargs=>(h w vs _ hb.1 (Ej hargs)).mono ?_⟩
 have one:∀ (k:Nat) (o:Obj),([⟨ty,sz,[],true,0⟩]:List Obj)[k]?=some o→k=0∧o=⟨ty,sz,[],true,0⟩:=fun k o ho=>by
  match k,ho with
  | 0,ho=>cases ho;exact ⟨rfl,rfl⟩
  | _+1,ho=>simp at ho
 rintro e w' ⟨v,h1,h3,h4⟩
 rcases h4 with rfl | ⟨g,cap,c,hg,rfl,hc,hm,hs⟩
 · refine ⟨_,fun _=>none,h1,⟨fun k o ho _=>?_,fun k k' o o' g _ _ _ _ _ hx=>(by cases hx),fun k o g _ _ hx=>(by cases hx)⟩,⟨rfl,_,rfl,Nat.le_refl _,fun _ _=>⟨hty,?_⟩⟩,fun b hb _=>h3.block b hb,h3.size,h3.os,h3.output⟩
   · obtain ⟨rfl,rfl⟩:=one k o ho;rfl
   · exact ⟨rfl,rfl⟩
 · refine ⟨_,fun _=>some g,h1,⟨fun k o ho _=>?_,fun k k' o o' g hkk ho _ ho' _ _=>?_,fun k o g' ho _ hx hp=>?_⟩,⟨rfl,_,rfl,Nat.le_refl _,fun _ _=>⟨hty,?_⟩⟩,fun b hb _=>h3.block b hb,h3.size,h3.os,h3.output⟩
   · obtain ⟨rfl,rfl⟩:=one k o ho
     exact ⟨c,by rw [lu hty];exact hc,uo hty (by simp),fun i x hx=>by simp at hx⟩
   · obtain ⟨rfl,_⟩:=one k o ho
     obtain ⟨rfl,_⟩:=one k' o' ho'
     exact absurd rfl hkk
   · simp only [Option.some.injEq] at hx
     subst hx
     exact absurd hp.1 (by omega)
   · exact ⟨cap,c,rfl,hc,Nat.zero_le _,hm,hs⟩
theorem acP {w:World}{ok:Nat→Prop}{p:PV}{vs:List Value}(h:dh (dB w ok) [p] vs):∃ u,vs=[u]∧dB w ok p u:=by
 obtain ⟨hl,h⟩:=h
 match vs,hl with
 | [u],_=>exact ⟨u,rfl,h 0 _ _ rfl rfl⟩
theorem OT {w:World}{ok:Nat→Prop}{p q:PV}{vs:List Value}(h:dh (dB w ok) [p,q] vs):∃ u v,vs=[u,v]∧dB w ok p u∧dB w ok q v:=by
 obtain ⟨hl,h⟩:=h
 match vs,hl with
 | [u,v],_=>exact ⟨u,v,rfl,h 0 _ _ rfl rfl,h 1 _ _ rfl rfl⟩
theorem kD {w:World}{ok:Nat→Prop}{s:List UInt8}{v:Value}(h:dB w ok (.str s) v):v=.string ⟨⟨s⟩⟩:=by cases h;rfl
theorem OU {w:World}{ok:Nat→Prop}{k:IntKind}{n:Int}{v:Value}(h:dB w ok (.int k n) v):v=.int k n:=by cases h;rfl
theorem RV (w:World):Below w.heap.size w w.drew:=(Below.refl _ _).drew
theorem Kn {w:World}(h:rD.holds w.heap):Lib.Utf8Tabs 0 1 w:=h w rfl
theorem Du (s:List UInt8) (hs:s.length≤4611686018427387904):ai Tryz.prog 142 [.str s] [] (.bool (utf s)) []:=by
 refine ai.qX ⟨_,Tryz.LH.f196,by kernel_rfl,by kernel_rfl⟩ fun w vs ok hg hr=>?_
 obtain ⟨u,rfl,h⟩:=acP hr
 cases kD h
 refine (Any.utf8_ValidString Tryz.LH ⟨⟨s⟩⟩ w (by rw [Lib.size_eq];simp;omega) (Kn hg)).mono ?_
 rintro e w' ⟨h1,h2⟩
 exact ⟨_,h1,fun w ok=>by rw [Wi];exact .bool _,h2⟩
theorem RX (s:List UInt8) (hs:s.length≤4611686018427387904):ai Tryz.prog 185 [.str s,.str [48]] [] (.str (Lib.trimB s 48)) []:=by
 refine ai.qX ⟨_,Tryz.Uy.f160,by kernel_rfl,by kernel_rfl⟩ fun w vs ok hg hr=>?_
 obtain ⟨u,v,rfl,h,h'⟩:=OT hr
 cases kD h
 cases kD h'
 refine (Any.strings_Trim_one Tryz.Uy ⟨⟨s⟩⟩ 48 (by decide) w (by rw [Lib.size_eq];simp;omega)).mono ?_
 rintro e w' ⟨h1,h2⟩
 refine ⟨_,h1,fun w ok=>.str _,?_⟩
 rcases h2 with rfl | rfl
 · exact .refl _ _
 · exact RV w
theorem I_ (W:World) (x:Nat) (hx:x≤1114111):Calls Tryz.prog 155 #[.int .i32 (x:Int)] W fun e w'=>e=.returned (.bool (lZ x))∧Below W.heap.size W w':=by
 have mixed:Tryz.prog.follows .mixedOrders=true:=by kernel_rfl
 have e1:lZ x=(decide (48≤(x:Int)) && decide ((x:Int)≤57)):=by
  have a:decide (48≤x)=decide (48≤(x:Int)):=decide_eq_decide.2 (by omega)
  have b:decide (x≤57)=decide ((x:Int)≤57):=decide_eq_decide.2 (by omega)
  rw [lZ,a,b]
 rw [e1]
 have h1:(x:Int)<48∨48≤(x:Int):=by omega
 rcases h1 with h1 | h1
 · have h2:¬ (48≤(x:Int)):=by omega
   rw [decide_eq_false h2]
   go_enter Tryz.func155,Tryz.ntmps155
   go_wp2
   go_ret
   exact ⟨rfl,.refl _ _⟩
 · rw [decide_eq_true h1]
   rcases (by omega:(x:Int)≤57∨57<(x:Int)) with h2 | h2
   · rw [decide_eq_true h2]
     go_enter Tryz.func155,Tryz.ntmps155
     go_wp2
     go_ret
     exact ⟨rfl,.refl _ _⟩
   · have h3:¬ ((x:Int)≤57):=by omega
     rw [decide_eq_false h3]
     go_enter Tryz.func155,Tryz.ntmps155
     go_wp2
     go_ret
     exact ⟨rfl,.refl _ _⟩
theorem LJ (s:List UInt8) (hs:s.length≤4611686018427387904):ai Tryz.prog 154 [.str s,.fn 155 [] []] [] (.str (Lib.trimF lZ ⟨⟨s⟩⟩).data.toList) []:=by
 refine ai.qX ⟨_,Tryz.Uz.f237,by kernel_rfl,by kernel_rfl⟩ fun w vs ok hg hr=>?_
 obtain ⟨u,v,rfl,h,h'⟩:=OT hr
 cases kD h
 have hv:v=.func (.func 155) #[] #[]:=by
  cases h' with
  | fn _ _ _ va vc hla hlc ha hc=>
   have e1:va=[]:=List.length_eq_zero_iff.1 (by simpa using hla.symm)
   have e2:vc=[]:=List.length_eq_zero_iff.1 (by simpa using hlc.symm)
   subst e1;subst e2;rfl
 subst hv
 have eg:∀ args w,(callFunc 155 args).run Tryz.prog w=.ok (.enter 155 args) w:=enters_of Tryz.func155 (by kernel_rfl) rfl
 refine (Any.strings_TrimFunc_grows Tryz.Uz 155 #[] eg lZ ⟨⟨s⟩⟩ w (by rw [Lib.size_eq];simp;omega) (Kn hg) fun W x hx _=>I_ W x hx).mono ?_
 rintro e w' ⟨h1,h2⟩
 exact ⟨_,h1,fun w ok=>.str _,h2⟩
def uN:dD:=fun args objs K=>match args with
 | [.str s,a1]=>a1=(.fn 155 [] [])∧(s.length≤4611686018427387904)∧K (.str (Lib.trimF lZ ⟨⟨s⟩⟩).data.toList) objs 0
 | _=>False
theorem Ja:aB Tryz.prog 154 (uN):=by
 intro args objs K h
 unfold uN at h
 split at h
 · rename_i s a1
   obtain ⟨rfl,h1,hk⟩:=h
   exact ⟨_,_,_,.pure _ rfl (LJ s h1),hk⟩
 · exact h.elim
def eu:dD:=fun args objs K=>match args with
 | [.str s]=>(s.length≤4611686018427387904)∧K (.bool (utf s)) objs 0
 | _=>False
theorem Bv:aB Tryz.prog 142 (eu):=by
 intro args objs K h
 unfold eu at h
 split at h
 · rename_i s
   obtain ⟨h1,hk⟩:=h
   exact ⟨_,_,_,.pure _ rfl (Du s h1),hk⟩
 · exact h.elim
def Bw:dD:=fun args objs K=>match args with
 | [.str s,a1]=>a1=(.str [48])∧(s.length≤4611686018427387904)∧K (.str (Lib.trimB s 48)) objs 0
 | _=>False
theorem OV:aB Tryz.prog 185 (Bw):=by
 intro args objs K h
 unfold Bw at h
 split at h
 · rename_i s a1
   obtain ⟨rfl,h1,hk⟩:=h
   exact ⟨_,_,_,.pure _ rfl (RX s h1),hk⟩
 · exact h.elim
end Lp
namespace Lp
open Go Go.Proofs
theorem qo (d n:Nat) (O:List Obj) (t:TypeId) (sz:Nat) (v:Vl) (ver:Nat):fB d n O ⟨t,sz,v.map aA,true,ver⟩=⟨t,sz,v.map aA,true,ver⟩:=by
 have:(v.map aA).map (PV.bI (eZ d n O))=v.map aA:=by
  rw [List.map_map]
  exact List.map_congr_left fun x _=>rfl
 simp only [fB,this]
end Lp
namespace Lp
open Go Go.Proofs
section
variable {α:Type}{enc:α→PV}{sz:Nat}
def ofR (enc:α→PV) (xs:List PV){K:List α→Prop}(_h:HK K):Prop:=∃ l,xs=l.map enc∧K l
theorem RY (hi:∀ a b,enc a=enc b→a=b) (K:List α→Prop) (l:List α):ofR enc (l.map enc) (HK.mk:HK K)=K l:=by
 refine propext ⟨fun ⟨m,h1,h2⟩=>?_,fun h=>⟨l,rfl,h⟩⟩
 have:l=m:=(List.map_inj_right (fun a b h=>hi a b h)).1 h1
 subst this;exact h2
end
end Lp
namespace Lp
open Go Go.Proofs
open Nat (lt_or_ge reduceAdd reduceLeDiff reduceMul reduceSub)
open Int (reduceLE reduceToNat)
theorem aP.YV {P:Program}{D:TypeId→aD}{T:Know}{f:FuncId}{n t u v:Nat}{C:LC}{args:List PV}{r:PV}(h:aP P f n [.tmp t,.tmp u,.tmp v] C) (d:Nat) (hD:∀ t,iK P t (D t)) (hT:Fj P none rJ T) (hm:P.follows .mixedOrders=true) (ht:t<n) (hu:u<n) (hv:v<n)
  (hw:∀ Q:Exit→St→Prop,(∀ l ob,Q .ret ⟨dH n l,ob⟩=(r=.bZ [gJ d 0 ob (l6 l t),gJ d 0 ob (l6 l u),gJ d 0 ob (l6 l v)]))→kS P D T C Q (bU args n)):ai P f args [] r []:=by
 refine h.pure d hD hT hm (by simp) (hw _ fun l ob=>?_)
 simp only [m_,jF,rM.2.1 n l t ht,rM.2.1 n l u hu,rM.2.1 n l v hv,List.map_cons,List.map_nil,fC]
theorem Wj (s:List UInt8) (hs:s.length≤1000000000):ai Tryz.prog 119 [.str s] [] (.bool (nu s)) []:=by
 refine Bl.bf (T:=aR Tryz.prog []) 0 hD (aj ah) aZ (by decide) fun Q hQ=>?_
 (conv=>arg 4;cbv);simp(maxSteps:=400000)only[↓av,ax,BEq.rfl,reduceIte,reduceCtorEq,Nat.reduceLT,reduceAdd,reduceSub,reduceMul,Nat.reduceBEq,reduceLeDiff,reduceToNat,reduceLE,hQ]
 refine aH (fun m S=>∃ i:Nat,i+m=s.length∧(∀ (j:Nat) c,j<i→s[j]?=some c→(o8 c || (decide (0<j) && nE c))=true)∧S=⟨dH 49 [(0,.str s),(3,.int .i64 i)],[]⟩) s.length ⟨0,by omega,fun j c h=>absurd h (Nat.not_lt_zero j),?_⟩ ?_
 · simp only [bV,keepR,reduceAdd,ng,Nat.reduceBEq,List.map_nil]
   rfl
 rintro m S ⟨i,him,hb,rfl⟩
 rcases lt_or_ge i s.length with h | h
 · have hlt:((i:Int)<(s.length:Int))=True:=eq_true (by omega)
   have zi:(0≤(i:Int))=True:=eq_true (by omega)
   have hgi:=List.getElem?_eq_getElem h
   generalize s[i]=c at hgi
   have hw:=NF hgi
   have hn:(o8 c || (decide (0<i) && nE c))=true→(∀ (j:Nat) c,j<i+1→s[j]?=some c→(o8 c || (decide (0<j) && nE c))=true):=fun hc j x hj hx=>by
    rcases lt_or_ge j i with g | g
    · exact hb j x g hx
    · have:j=i:=by omega
      subst this
      rw [hgi] at hx;cases hx;exact hc
   have hiff:(o8 c || (decide (0<i) && nE c))=true↔((97≤(c.toNat:Int)∧(c.toNat:Int)≤122)∨(65≤(c.toNat:Int)∧(c.toNat:Int)≤90)∨(c.toNat:Int)=95∨(0<i∧48≤(c.toNat:Int)∧(c.toNat:Int)≤57)):=by
    simp only [o8,nE,Bool.or_eq_true,Bool.and_eq_true,decide_eq_true_eq,or_assoc]
   have hw':=fun h=>hw (by rw [← Bool.not_eq_true,hiff];exact h)
   have hn':=fun h=>hn (hiff.2 h)
   clear hw hn hiff
   simp(maxSteps:=400000)only[↓av,ax,BEq.rfl,reduceIte,reduceCtorEq,Nat.reduceLT,reduceAdd,reduceSub,reduceMul,Nat.reduceBEq,reduceLeDiff,reduceToNat,reduceLE,hQ,hlt,zi,hgi]
   repeat' (first | exact ⟨⟨by omega,by omega⟩,m-1,by omega,i+1,by omega,hn' (by omega),rfl⟩ | exact hw' (by omega) | intro _ | refine ⟨?_,?_⟩)
 · have hlt:((i:Int)<(s.length:Int))=False:=eq_false (by omega)
   simp(maxSteps:=400000)only[↓av,ax,BEq.rfl,reduceIte,reduceCtorEq,Nat.reduceLT,reduceAdd,reduceSub,reduceMul,Nat.reduceBEq,reduceLeDiff,reduceToNat,reduceLE,hQ,hlt]
   cases hs0:s with
   | nil=>rfl
   | cons a t=>
    rw [← hs0,QW (by rw [hs0];simp) fun j c hc=>hb j c (by have:=(List.getElem?_eq_some_iff.1 hc).1;omega) hc]
    simp [hs0]
def jW:dD:=fun args objs K=>match args with
 | [.str s]=>(s.length≤1000000000)∧K (.bool (nu s)) objs 0
 | _=>False
theorem RZ:aB Tryz.prog 119 (jW):=by
 intro args objs K h
 unfold jW at h
 split at h
 · rename_i s
   obtain ⟨h1,hk⟩:=h
   exact ⟨_,_,_,.pure _ rfl (Wj s h1),hk⟩
 · exact h.elim
theorem cv8 (objs:List Obj) (K:KT):(∀ x,j6 D 5 3 (.int .u8 x) objs K=K (.int .i64 (IntKind.i64.wrap x)) objs 0)∧(∀ x,j6 D 3 5 (.int .i64 x) objs K=K (.int .u8 (IntKind.u8.wrap x)) objs 0):=by
 refine ⟨fun x=>?_,fun x=>?_⟩
 all_goals simp [j6,ny,bL]
theorem aaN:∀ k:Nat,k≤7→(10:Int) ^ k≤10000000:=by
 intro k hk
 have:∀ k ∈ List.range 8,(10:Int) ^ k≤10000000:=by decide
 exact this k (List.mem_range.2 (by omega))
theorem OW {s:List UInt8}{f i:Nat}{n:Int}(h:f=0∨s[i]?=none∨∃ c,s[i]?=some c∧¬ (48≤(c.toNat:Int)∧(c.toNat:Int)≤57)):qI s f i n=(n,i):=by
 cases f with
 | zero=>rfl
 | succ f=>
  rcases h with h | h | ⟨c,h,hc⟩
  · omega
  · simp only [qI,h]
  · have:nE c=false:=by simp only [nE,Bool.and_eq_false_iff,decide_eq_false_iff_not];omega
    simp only [qI,h,this];rfl
theorem aaO {s:List UInt8}{f i:Nat}{n:Int}{c:UInt8}(h:s[i]?=some c) (h1:48≤(c.toNat:Int)) (h2:(c.toNat:Int)≤57):qI s (f+1) i n=qI s f (i+1) (n*10+((c.toNat:Int)-48)):=by
 have:nE c=true:=by simp only [nE,Bool.and_eq_true,decide_eq_true_eq];exact ⟨h1,h2⟩
 simp only [qI,h,this,if_true]
theorem aaP {s:List UInt8}{i0 i:Nat}{n:Int}(hF:qI s 7 i0 0=(n,i)) :
  ((i=i0∨(s[i0]?=some 48∧i0+1<i)∨1000000<n)→dz s i0=(-1,i0))∧(¬ (i=i0∨(s[i0]?=some 48∧i0+1<i)∨1000000<n)→dz s i0=(n,i)):=by
 constructor
 · intro h;unfold dz;rw [hF,if_pos h]
 · intro h;unfold dz;rw [hF,if_neg h]
theorem pz {a b:Int×Nat}(h:a=b):PV.bZ [PV.int .i64 a.1,PV.int .i64 (a.2:Int)]=PV.bZ [PV.int .i64 b.1,PV.int .i64 (b.2:Int)]:=by rw [h]
theorem Wl (s:List UInt8) (i0:Nat) (hs:s.length≤1000000000) (hi0:i0≤s.length):ai Tryz.prog 122 [.str s,.int .i64 i0] [] (.bZ [.int .i64 (dz s i0).1,.int .i64 (dz s i0).2]) []:=by
 refine wT.Dj (T:=aR Tryz.prog []) 0 hD (aj ah) aZ (by decide) (by decide) fun Q hQ=>?_
 (conv=>arg 4;cbv);simp(maxSteps:=400000)only[↓av,ax,BEq.rfl,reduceIte,reduceCtorEq,Nat.reduceLT,reduceAdd,reduceSub,reduceMul,Nat.reduceBEq,reduceLeDiff,reduceToNat,reduceLE,hQ]
 refine aH (fun m S=>∃ (i:Nat) (n:Int),m=7-(i-i0)∧i0≤i∧i-i0≤7∧i≤s.length∧0≤n∧n<10 ^ (i-i0)∧qI s 7 i0 0=qI s (7-(i-i0)) i n∧S=⟨dH 63 [(0,.str s),(1,.int .i64 i),(6,.int .i64 n),(7,.int .i64 i0)],[]⟩) 7 ⟨i0,0,by omega,by omega,by omega,hi0,by omega,by simp,by simp,?_⟩ ?_
 · simp only [bV,keepR,reduceAdd,ng,Nat.reduceBEq,List.map_nil]
 rintro m S ⟨i,n,hm,h1,h2,h3,h4,h5,hF,rfl⟩
 have hn7:n<10000000:=by have:=aaN (i-i0) h2;omega
 have zi:(0≤(i:Int))=True:=eq_true (by omega)
 have zi0:(0≤(i0:Int))=True:=eq_true (by omega)
 have hend:qI s (7-(i-i0)) i n=(n,i)→((∀ c0,s[i0]?=some c0→(i=i0∨((c0.toNat:Int)=48∧i0+1<i)∨1000000<n)→dz s i0=(-1,i0))∧(∀ c0,s[i0]?=some c0→¬ (i=i0∨((c0.toNat:Int)=48∧i0+1<i)∨1000000<n)→dz s i0=(n,i))∧(i=i0→dz s i0=(-1,i0))):=fun e=>by
  obtain ⟨g1,g2⟩:=aaP (hF.trans e)
  have b48:∀ c0:UInt8,(c0.toNat:Int)=48↔c0=48:=fun c0=>l_ (k:=48) (by omega)
  refine ⟨fun c0 h0 hc=>g1 ?_,fun c0 h0 hc=>g2 ?_,fun h=>g1 (Or.inl h)⟩
  · rw [h0,Option.some.injEq,← b48];exact hc
  · rw [h0,Option.some.injEq,← b48];exact hc
 have e0:((i:Int)=(i0:Int))=(i=i0):=propext (by omega)
 rcases lt_or_ge i s.length with h | h
 · have hlt:((i:Int)<(s.length:Int))=True:=eq_true (by omega)
   have hgi:=List.getElem?_eq_getElem h
   generalize s[i]=c at hgi
   have hstep:i-i0<7→48≤(c.toNat:Int)→(c.toNat:Int)≤57→qI s 7 i0 0=qI s (7-(i+1-i0)) (i+1) (n*10+((c.toNat:Int)-48))∧0≤n*10+((c.toNat:Int)-48)∧n*10+((c.toNat:Int)-48)<10 ^ (i+1-i0):=fun a1 a2 a3=>by
    obtain ⟨k,hk⟩:∃ k,i-i0=k:=⟨_,rfl⟩
    have e1:7-(i-i0)=(7-(i+1-i0))+1:=by omega
    refine ⟨by rw [hF,e1,aaO hgi a2 a3],by omega,?_⟩
    have e2:i+1-i0=k+1:=by omega
    rw [e2,Int.pow_succ]
    rw [hk] at h5
    omega
   have hE:(¬ (48≤(c.toNat:Int)∧(c.toNat:Int)≤57)∨i-i0=7)→qI s (7-(i-i0)) i n=(n,i):=fun hc=>OW (by
    rcases hc with hc | hc
    · exact .inr (.inr ⟨c,hgi,hc⟩)
    · exact .inl (by omega))
   have hcv:48≤(c.toNat:Int)→IntKind.i64.wrap ((c.toNat:Int)-48)=(c.toNat:Int)-48:=fun _=>by have:=Aq c;rw [IntKind.wrap_i64];omega
   rcases Nat.eq_or_lt_of_le h1 with hi | hi
   · subst hi
     by_cases h48:48≤(c.toNat:Int)
     · have acQ:=hcv h48
       simp(maxSteps:=400000)only[↓av,ax,BEq.rfl,reduceIte,reduceCtorEq,Nat.reduceLT,reduceAdd,reduceSub,reduceMul,Nat.reduceBEq,reduceLeDiff,reduceToNat,reduceLE,hQ,hlt,zi,hgi,cv8,acQ,zi0]
       repeat' (first | exact ⟨⟨by omega,by omega⟩,m-1,by omega,i0+1,_,by omega,by omega,by omega,by omega,(hstep (by omega) (by omega) (by omega)).2.1,(hstep (by omega) (by omega) (by omega)).2.2,(hstep (by omega) (by omega) (by omega)).1,rfl⟩ | exact (pz ((hend (hE (by omega))).2.2 rfl)) | exact (by omega) | intro _ | refine ⟨?_,?_⟩)
     · simp(maxSteps:=400000)only[↓av,ax,BEq.rfl,reduceIte,reduceCtorEq,Nat.reduceLT,reduceAdd,reduceSub,reduceMul,Nat.reduceBEq,reduceLeDiff,reduceToNat,reduceLE,hQ,hlt,zi,hgi,zi0]
       repeat' (first | exact (pz ((hend (hE (by omega))).2.2 rfl)) | exact (by omega) | intro _ | refine ⟨?_,?_⟩)
   · have hg0:=List.getElem?_eq_getElem (show i0<s.length by omega)
     generalize s[i0]=c0 at hg0
     by_cases h48:48≤(c.toNat:Int)
     · have acQ:=hcv h48
       simp(maxSteps:=400000)only[↓av,ax,BEq.rfl,reduceIte,reduceCtorEq,Nat.reduceLT,reduceAdd,reduceSub,reduceMul,Nat.reduceBEq,reduceLeDiff,reduceToNat,reduceLE,hQ,hlt,zi,hgi,cv8,acQ,zi0,hg0]
       repeat' (first | exact ⟨⟨by omega,by omega⟩,m-1,by omega,i+1,_,by omega,by omega,by omega,by omega,(hstep (by omega) (by omega) (by omega)).2.1,(hstep (by omega) (by omega) (by omega)).2.2,(hstep (by omega) (by omega) (by omega)).1,rfl⟩ | exact (pz ((hend (hE (by omega))).1 c0 hg0 (by omega))) | exact (pz ((hend (hE (by omega))).2.1 c0 hg0 (by omega))) | exact (by omega) | intro _ | refine ⟨?_,?_⟩)
     · simp(maxSteps:=400000)only[↓av,ax,BEq.rfl,reduceIte,reduceCtorEq,Nat.reduceLT,reduceAdd,reduceSub,reduceMul,Nat.reduceBEq,reduceLeDiff,reduceToNat,reduceLE,hQ,hlt,zi,hgi,zi0,hg0]
       repeat' (first | exact (pz ((hend (hE (by omega))).1 c0 hg0 (by omega))) | exact (pz ((hend (hE (by omega))).2.1 c0 hg0 (by omega))) | exact (by omega) | intro _ | refine ⟨?_,?_⟩)
 · have hlt:((i:Int)<(s.length:Int))=False:=eq_false (by omega)
   have hE:qI s (7-(i-i0)) i n=(n,i):=OW (.inr (.inl (List.getElem?_eq_none_iff.2 h)))
   rcases Nat.eq_or_lt_of_le h1 with hi | hi
   · subst hi
     simp(maxSteps:=400000)only[↓av,ax,BEq.rfl,reduceIte,reduceCtorEq,Nat.reduceLT,reduceAdd,reduceSub,reduceMul,Nat.reduceBEq,reduceLeDiff,reduceToNat,reduceLE,hQ,hlt,zi0]
     repeat' (first | exact (pz ((hend hE).2.2 rfl)) | exact (by omega) | intro _ | refine ⟨?_,?_⟩)
   · have hg0:=List.getElem?_eq_getElem (show i0<s.length by omega)
     generalize s[i0]=c0 at hg0
     simp(maxSteps:=400000)only[↓av,ax,BEq.rfl,reduceIte,reduceCtorEq,Nat.reduceLT,reduceAdd,reduceSub,reduceMul,Nat.reduceBEq,reduceLeDiff,reduceToNat,reduceLE,hQ,hlt,zi0,hg0]
     repeat' (first | exact (pz ((hend hE).1 c0 hg0 (by omega))) | exact (pz ((hend hE).2.1 c0 hg0 (by omega))) | exact (by omega) | intro _ | refine ⟨?_,?_⟩)
def nV:dD:=fun args objs K=>match args with
 | [.str s,.int .i64 i]=>(s.length≤1000000000)∧(0≤i)∧(i≤s.length)∧K (.bZ [.int .i64 (dz s i.toNat).1,.int .i64 (dz s i.toNat).2]) objs 0
 | _=>False
theorem R7:aB Tryz.prog 122 (nV):=by
 intro args objs K h
 unfold nV at h
 split at h
 · rename_i s i
   obtain ⟨h1,h2,h3,hk⟩:=h
   exact ⟨_,_,_,.pure _ rfl ((by have:=Wl s i.toNat h1 (by omega);rwa [Int.toNat_of_nonneg h2] at this)),hk⟩
 · exact h.elim
theorem YW:∀ bs bs':List UInt8,bs.map (fun b:UInt8=>PV.int .u8 b.toNat)=bs'.map (fun b:UInt8=>PV.int .u8 b.toNat)→bs=bs'
 | [],[],_=>rfl
 | [],_::_,h=>by simp at h
 | _::_,[],h=>by simp at h
 | a::t,b::u,h=>by
  simp only [List.map_cons,List.cons.injEq,PV.int.injEq,true_and] at h
  have h1:a.toNat=b.toNat:=by omega
  rw [UInt8.toNat_inj.1 h1,YW t u h.2]
theorem GY (bs:List UInt8) (hb:bs≠[]) (K:KT):j6 D 146 9 (.bG 0 1) [⟨5,1,bs.map (fun b:UInt8=>PV.int .u8 b.toNat),true,1⟩] K=K (.str bs) [⟨5,1,bs.map (fun b:UInt8=>PV.int .u8 b.toNat),true,1⟩] 4:=by
 refine propext ⟨?_,fun h=>⟨_,bs,rfl,rfl,rfl,rfl,hb,rfl,by simp only [bL],⟨5,by simp only [bL],by simp only [bL]⟩,h⟩⟩
 rintro ⟨o,bs',h1,_,_,_,_,h2,_,_,h⟩
 cases h1
 have:bs=bs':=YW _ _ h2
 subst this
 exact h
theorem YX (n:Int):IntKind.u8.wrap n=((yw n).toNat:Int):=by
 have h1:0≤n % 256:=by omega
 have h2:n % 256<256:=by omega
 have:(yw n).toNat=(n % 256).toNat:=by simp only [yw,UInt8.toNat_ofNat'];omega
 rw [this,IntKind.wrap_u8];omega
theorem abV :
  (∀ (c:UInt8) K,j6 D 146 9 (.bG 0 1) [⟨5,1,[.int .u8 c.toNat],true,1⟩] K=K (.str [c]) [⟨5,1,[.int .u8 c.toNat],true,1⟩] 4)∧
  (∀ a K,j6 D 146 9 (.bG 0 1) [⟨5,1,[.int .u8 (IntKind.u8.wrap a)],true,1⟩] K=K (.str [yw a]) [⟨5,1,[.int .u8 (IntKind.u8.wrap a)],true,1⟩] 4)∧
  (∀ a b K,j6 D 146 9 (.bG 0 1) [⟨5,1,[.int .u8 (IntKind.u8.wrap a),.int .u8 (IntKind.u8.wrap b)],true,1⟩] K=K (.str [yw a,yw b]) [⟨5,1,[.int .u8 (IntKind.u8.wrap a),.int .u8 (IntKind.u8.wrap b)],true,1⟩] 4)∧
  (∀ a b c K,j6 D 146 9 (.bG 0 1) [⟨5,1,[.int .u8 (IntKind.u8.wrap a),.int .u8 (IntKind.u8.wrap b),.int .u8 (IntKind.u8.wrap c)],true,1⟩] K=K (.str [yw a,yw b,yw c]) [⟨5,1,[.int .u8 (IntKind.u8.wrap a),.int .u8 (IntKind.u8.wrap b),.int .u8 (IntKind.u8.wrap c)],true,1⟩] 4)∧
  (∀ a b c d K,j6 D 146 9 (.bG 0 1) [⟨5,1,[.int .u8 (IntKind.u8.wrap a),.int .u8 (IntKind.u8.wrap b),.int .u8 (IntKind.u8.wrap c),.int .u8 (IntKind.u8.wrap d)],true,1⟩] K=K (.str [yw a,yw b,yw c,yw d]) [⟨5,1,[.int .u8 (IntKind.u8.wrap a),.int .u8 (IntKind.u8.wrap b),.int .u8 (IntKind.u8.wrap c),.int .u8 (IntKind.u8.wrap d)],true,1⟩] 4):=by
 simp only [YX]
 exact ⟨fun c K=>GY [c] (by simp) K,fun a K=>GY [yw a] (by simp) K,fun a b K=>GY [yw a,yw b] (by simp) K,fun a b c K=>GY [yw a,yw b,yw c] (by simp) K,fun a b c d K=>GY [yw a,yw b,yw c,yw d] (by simp) K⟩
theorem YZ {l:List PV}{i:Nat}{a:PV}(h:l[i]?=some a) (objs:List Obj) (K:KT):bg (.bZ l) i objs K=K a objs 0:=by
 unfold bg
 exact propext ⟨fun ⟨p,h1,h2⟩=>by rw [h] at h1;cases h1;exact h2,fun k=>⟨_,h,k⟩⟩
theorem gZ :
  (∀ a b objs K,bg (.bZ [a,b]) 0 objs K=K a objs 0)∧(∀ a b objs K,bg (.bZ [a,b]) 1 objs K=K b objs 0)∧
  (∀ a b c objs K,bg (.bZ [a,b,c]) 0 objs K=K a objs 0)∧(∀ a b c objs K,bg (.bZ [a,b,c]) 1 objs K=K b objs 0)∧(∀ a b c objs K,bg (.bZ [a,b,c]) 2 objs K=K c objs 0):=
 ⟨fun _ _=>YZ rfl,fun _ _=>YZ rfl,fun _ _ _=>YZ rfl,fun _ _ _=>YZ rfl,fun _ _ _=>YZ rfl⟩
end Lp
namespace Lp
open Go Go.Proofs
open List (length_cons length_drop length_take map_nil)
open Nat (lt_or_ge reduceAdd reduceLeDiff reduceMul reduceSub)
open Int (reduceLE reduceToNat toNat_natCast)
theorem Bz (n:Nat):(U4 n).length≤1:=by simp only [U4,length_drop,length_take];omega
theorem Y0 (n:Nat) (hn:n<16):ai Tryz.prog 153 [.int .i64 n] [] (.str (U4 n)) []:=by
 refine Dk.bf (T:=aR Tryz.prog []) 0 hD (aj ah) aZ (by decide) fun Q hQ=>?_
 (conv=>arg 4;cbv);simp(maxSteps:=400000)only[↓av,ax,BEq.rfl,reduceIte,reduceCtorEq,Nat.reduceLT,reduceAdd,reduceSub,reduceMul,Nat.reduceBEq,reduceLeDiff,reduceToNat,reduceLE,hQ]
 have t1:((n:Int)+1).toNat=n+1:=by omega
 refine ⟨⟨by omega,by omega⟩,by omega,by omega,by have:((16:Nat):Int)=16:=rfl;omega,?_⟩
 rw [t1];rfl
def LK:dD:=fun args objs K=>match args with
 | [.int .i64 n]=>(0≤n)∧(n<16)∧K (.str (U4 n.toNat)) objs 0
 | _=>False
theorem Wm:aB Tryz.prog 153 (LK):=by
 intro args objs K h
 unfold LK at h
 split at h
 · rename_i n
   obtain ⟨h1,h2,hk⟩:=h
   exact ⟨_,_,_,.pure _ rfl ((by have:=Y0 n.toNat (by omega);rwa [Int.toNat_of_nonneg h1] at this)),hk⟩
 · exact h.elim
theorem LM (c:UInt8):ai Tryz.prog 130 [.int .u8 c.toNat] [] (.str (ol c)) []:=by
 refine wU.bf (T:=aR Tryz.prog [(153,LK)]) 0 hD (aj (af Wm ah)) aZ (by decide) fun Q hQ=>?_
 have hl:=Aq c
 have hw:IntKind.i64.wrap (c.toNat:Int)=(c.toNat:Int):=by rw [IntKind.wrap_i64];omega
 have hd:((c.toNat:Int)).tdiv 16=((c.toNat / 16:Nat):Int):=rfl
 have hm:((c.toNat:Int)).tmod 16=((c.toNat % 16:Nat):Int):=rfl
 have l1:=Bz (c.toNat / 16)
 have l2:=Bz (c.toNat % 16)
 (conv=>arg 4;cbv);simp(maxSteps:=400000)only[↓av,ax,BEq.rfl,reduceIte,reduceCtorEq,Nat.reduceLT,reduceAdd,reduceSub,reduceMul,Nat.reduceBEq,reduceLeDiff,reduceToNat,reduceLE,hQ,↓LK,cv8,hw,abV,hd,hm,toNat_natCast]
 repeat' (first | ((simp only [ol, *,if_true,if_false,Int.reduceEq,Int.reduceLT,reduceIte] <;> fail)) | (omega) | intro _ | refine ⟨?_,?_⟩)
def uO:dD:=fun args objs K=>match args with
 | [.int .u8 x]=>(0≤x)∧(x<256)∧K (.str (ol (UInt8.ofNat x.toNat))) objs 0
 | _=>False
theorem Jb:aB Tryz.prog 130 (uO):=by
 intro args objs K h
 unfold uO at h
 split at h
 · rename_i x
   obtain ⟨h1,h2,hk⟩:=h
   exact ⟨_,_,_,.pure _ rfl ((by have:=LM (UInt8.ofNat x.toNat);rwa [show ((UInt8.ofNat x.toNat).toNat:Int)=x by simp only [UInt8.toNat_ofNat'];omega] at this)),hk⟩
 · exact h.elim
theorem abW:∀ k:Nat,k≤4→(16:Int) ^ k≤65536:=by
 intro k hk
 have:∀ k ∈ List.range 5,(16:Int) ^ k≤65536:=by decide
 exact this k (List.mem_range.2 (by omega))
theorem Wn (s:List UInt8) (i:Nat) (hs:s.length≤1000000000) (hi:i≤1000000010):ai Tryz.prog 175 [.str s,.int .i64 i] [] (.int .i64 (d_ s i)) []:=by
 refine Bn.bf (T:=aR Tryz.prog []) 0 hD (aj ah) aZ (by decide) fun Q hQ=>?_
 have zi:(0≤(i:Int))=True:=eq_true (by omega)
 have Nv:(0≤(i:Int)+1)=True:=eq_true (by omega)
 rcases lt_or_ge s.length (i+6) with h | h
 · have hlt:((s.length:Int)<(i:Int)+6)=True:=eq_true (by omega)
   have e:d_ s i=-1:=if_pos (.inl h)
   (conv=>arg 4;cbv);simp(maxSteps:=400000)only[↓av,ax,BEq.rfl,reduceIte,reduceCtorEq,Nat.reduceLT,reduceAdd,reduceSub,reduceMul,Nat.reduceBEq,reduceLeDiff,reduceToNat,reduceLE,hQ,zi,Nv,hlt,e]
   omega
 have hlt:((s.length:Int)<(i:Int)+6)=False:=eq_false (by omega)
 have hg0:=List.getElem?_eq_getElem (show i<s.length by omega)
 have hg1:=List.getElem?_eq_getElem (show i+1<s.length by omega)
 generalize s[i]=c0 at hg0
 generalize s[i+1]=c1 at hg1
 have t1:((i:Int)+1).toNat=i+1:=by omega
 have b0:(c0.toNat:Int)=92↔c0=92:=l_ (k:=92) (by omega)
 have b1:(c1.toNat:Int)=117↔c1=117:=l_ (k:=117) (by omega)
 by_cases hc:(c0.toNat:Int)=92∧(c1.toNat:Int)=117
 · obtain ⟨k0,k1⟩:=hc
   have e0:d_ s i=om ((s.take (i+6)).drop (i+2)) 0:=by
    unfold d_
    rw [if_neg]
    rintro (g | g | g)
    · omega
    · exact g (by rw [hg0,b0.1 k0])
    · exact g (by rw [hg1,b1.1 k1])
   (conv=>arg 4;cbv);simp(maxSteps:=400000)only[↓av,ax,BEq.rfl,reduceIte,reduceCtorEq,Nat.reduceLT,reduceAdd,reduceSub,reduceMul,Nat.reduceBEq,reduceLeDiff,reduceToNat,reduceLE,hQ,zi,Nv,hlt,hg0,hg1,t1,k0,k1]
   refine ⟨⟨by omega,by omega⟩,⟨by omega,by omega⟩,⟨by omega,by omega⟩,?_⟩
   refine aH (fun m S=>∃ (k:Nat) (n:Int),m=i+6-k∧i+2≤k∧k≤i+6∧0≤n∧n<16 ^ (k-(i+2))∧d_ s i=om ((s.take (i+6)).drop k) n∧S=⟨dH 77 [(0,.str s),(1,.int .i64 i),(5,.int .i64 n),(6,.int .i64 k)],[]⟩) 4 ⟨i+2,0,by omega,by omega,by omega,by omega,by simp,e0,?_⟩ ?_
   · simp only [bV,keepR,reduceAdd,ng,Nat.reduceBEq,map_nil]
     rfl
   rintro m S ⟨k,n,hm,h1,h2,h3,h4,hU,rfl⟩
   have hn:n<65536:=by have:=abW (k-(i+2)) (by omega);omega
   have zk:(0≤(k:Int))=True:=eq_true (by omega)
   rcases lt_or_ge k (i+6) with g | g
   · have hg:((k:Int)<(i:Int)+6)=True:=eq_true (by omega)
     have Z8:=List.getElem?_eq_getElem (show k<s.length by omega)
     have hdr:(s.take (i+6)).drop k=s[k]'(by omega)::(s.take (i+6)).drop (k+1):=by
      rw [List.drop_eq_getElem_cons (by rw [length_take];omega),List.getElem_take]
     generalize s[k]'(by omega)=c at Z8 hdr
     have hl:=Aq c
     have hw:IntKind.i64.wrap (c.toNat:Int)=(c.toNat:Int):=by rw [IntKind.wrap_i64];omega
     have hb:∀ x:Int,0≤x→x≤n*16+15→0≤x∧x<16 ^ (k+1-(i+2)):=fun x x0 x1=>by
      obtain ⟨j,hj⟩:∃ j,k-(i+2)=j:=⟨_,rfl⟩
      have e2:k+1-(i+2)=j+1:=by omega
      rw [e2,Int.pow_succ]
      rw [hj] at h4
      omega
     rw [hdr] at hU
     have u1:48≤(c.toNat:Int)→(c.toNat:Int)≤57→d_ s i=om ((s.take (i+6)).drop (k+1)) (n*16+c.toNat-48):=fun a b=>by rw [hU,om,if_pos ⟨a,b⟩]
     have u2:97≤(c.toNat:Int)→(c.toNat:Int)≤102→d_ s i=om ((s.take (i+6)).drop (k+1)) (n*16+c.toNat-97+10):=fun a b=>by rw [hU,om,if_neg (by omega),if_pos ⟨a,b⟩]
     have u3:65≤(c.toNat:Int)→(c.toNat:Int)≤70→d_ s i=om ((s.take (i+6)).drop (k+1)) (n*16+c.toNat-65+10):=fun a b=>by rw [hU,om,if_neg (by omega),if_neg (by omega),if_pos ⟨a,b⟩]
     have u4:¬ (48≤(c.toNat:Int)∧(c.toNat:Int)≤57)→¬ (97≤(c.toNat:Int)∧(c.toNat:Int)≤102)→¬ (65≤(c.toNat:Int)∧(c.toNat:Int)≤70)→PV.int .i64 (d_ s i)=PV.int .i64 (-1):=fun a b d=>by rw [hU,om,if_neg a,if_neg b,if_neg d]
     simp(maxSteps:=400000)only[↓av,ax,BEq.rfl,reduceIte,reduceCtorEq,Nat.reduceLT,reduceAdd,reduceSub,reduceMul,Nat.reduceBEq,reduceLeDiff,reduceToNat,reduceLE,hQ,hg,zk,Z8,cv8,hw]
     repeat' (first | exact u4 (by omega) (by omega) (by omega) | exact ⟨m-1,by omega,k+1,_,by omega,by omega,by omega,(hb _ (by omega) (by omega)).1,(hb _ (by omega) (by omega)).2,u1 (by omega) (by omega),rfl⟩ | exact ⟨m-1,by omega,k+1,_,by omega,by omega,by omega,(hb _ (by omega) (by omega)).1,(hb _ (by omega) (by omega)).2,u2 (by omega) (by omega),rfl⟩ | exact ⟨m-1,by omega,k+1,_,by omega,by omega,by omega,(hb _ (by omega) (by omega)).1,(hb _ (by omega) (by omega)).2,u3 (by omega) (by omega),rfl⟩ | (omega) | intro _ | refine ⟨?_,?_⟩)
   · have hg:((k:Int)<(i:Int)+6)=False:=eq_false (by omega)
     have hk:k=i+6:=by omega
     subst hk
     rw [List.drop_eq_nil_of_le (by rw [length_take];omega),om] at hU
     simp(maxSteps:=400000)only[↓av,ax,BEq.rfl,reduceIte,reduceCtorEq,Nat.reduceLT,reduceAdd,reduceSub,reduceMul,Nat.reduceBEq,reduceLeDiff,reduceToNat,reduceLE,hQ,hg,hU]
     omega
 · have e:d_ s i=-1:=by
    unfold d_
    rw [if_pos]
    by_cases k0:(c0.toNat:Int)=92
    · exact .inr (.inr (by rw [hg1];intro e;exact hc ⟨k0,b1.2 (Option.some.inj e)⟩))
    · exact .inr (.inl (by rw [hg0];intro e;exact k0 (b0.2 (Option.some.inj e))))
   by_cases k0:(c0.toNat:Int)=92
   · have k1:((c1.toNat:Int)=117)=False:=eq_false fun g=>hc ⟨k0,g⟩
     (conv=>arg 4;cbv);simp(maxSteps:=400000)only[↓av,ax,BEq.rfl,reduceIte,reduceCtorEq,Nat.reduceLT,reduceAdd,reduceSub,reduceMul,Nat.reduceBEq,reduceLeDiff,reduceToNat,reduceLE,hQ,zi,Nv,hlt,hg0,hg1,t1,k0,k1,e]
     omega
   · have k0':=eq_false k0
     (conv=>arg 4;cbv);simp(maxSteps:=400000)only[↓av,ax,BEq.rfl,reduceIte,reduceCtorEq,Nat.reduceLT,reduceAdd,reduceSub,reduceMul,Nat.reduceBEq,reduceLeDiff,reduceToNat,reduceLE,hQ,zi,Nv,hlt,hg0,hg1,t1,k0',e]
     omega
theorem Wo (n:Int) (h0:0≤n) (h1:n<2000000):ai Tryz.prog 176 [.int .i64 n] [] (.str (CO n)) []:=by
 refine Dl.bf (T:=aR Tryz.prog []) 0 hD (aj ah) aZ (by decide) fun Q hQ=>?_
 have d64:¬ (64:Int)=0:=by omega
 have m64:∀ x:Int,0≤x→(0≤x.tdiv 64∧x.tdiv 64≤x)∧0≤x.tmod 64∧x.tmod 64<64:=fun x hx=>⟨⟨Int.tdiv_nonneg hx (by omega),Int.tdiv_le_self _ hx⟩,Int.tmod_nonneg _ hx,Int.tmod_lt_of_pos _ (by omega)⟩
 have a0:=m64 n h0
 have a1:0≤n.tdiv 4096∧n.tdiv 4096≤n:=⟨Int.tdiv_nonneg h0 (by omega),Int.tdiv_le_self _ h0⟩
 have a2:0≤n.tdiv 262144∧n.tdiv 262144≤n:=⟨Int.tdiv_nonneg h0 (by omega),Int.tdiv_le_self _ h0⟩
 have a3:=m64 _ a0.1.1
 have a4:=m64 _ a1.1
 (conv=>arg 4;cbv);simp(maxSteps:=400000)only[↓av,ax,BEq.rfl,reduceIte,reduceCtorEq,Nat.reduceLT,reduceAdd,reduceSub,reduceMul,Nat.reduceBEq,reduceLeDiff,reduceToNat,reduceLE,hQ,cv8,abV]
 repeat' (first | ((simp only [CO, *,if_true,if_false] <;> fail)) | (omega) | intro _ | refine ⟨?_,?_⟩)
def Fy:dD:=fun args objs K=>match args with
 | [.str s,.int .i64 i]=>(s.length≤1000000000)∧(0≤i)∧(i≤1000000010)∧K (.int .i64 (d_ s i.toNat)) objs 0
 | _=>False
theorem R8:aB Tryz.prog 175 (Fy):=by
 intro args objs K h
 unfold Fy at h
 split at h
 · rename_i s i
   obtain ⟨h1,h2,h3,hk⟩:=h
   exact ⟨_,_,_,.pure _ rfl ((by have:=Wn s i.toNat h1 (by omega);rwa [Int.toNat_of_nonneg h2] at this)),hk⟩
 · exact h.elim
def Fz:dD:=fun args objs K=>match args with
 | [.int .i64 n]=>(0≤n)∧(n<2000000)∧K (.str (CO n)) objs 0
 | _=>False
theorem R9:aB Tryz.prog 176 (Fz):=by
 intro args objs K h
 unfold Fz at h
 split at h
 · rename_i n
   obtain ⟨h1,h2,hk⟩:=h
   exact ⟨_,_,_,.pure _ rfl (Wo n h1 h2),hk⟩
 · exact h.elim
theorem El (c:UInt8):(ol c).length≤6:=by
 have l1:=Bz (c.toNat / 16)
 have l2:=Bz (c.toNat % 16)
 unfold ol
 repeat' split
 all_goals simp only [List.length_append,length_cons,List.length_nil]
 all_goals omega
theorem BA:∀ l:List UInt8,(l.map ol).flatten.length≤6*l.length
 | []=>by simp
 | c::t=>by
  have:=El c
  have:=BA t
  simp only [List.map_cons,List.flatten_cons,List.length_append,length_cons];omega
theorem R_ (s:List UInt8) (hs:s.length≤1000000000):ai Tryz.prog 121 [.str s] [] (.str (zx s)) []:=by
 refine zT.bf (T:=aR Tryz.prog [(130,uO)]) 0 hD (aj (af Jb ah)) aZ (by decide) fun Q hQ=>?_
 (conv=>arg 4;cbv);simp(maxSteps:=400000)only[↓av,ax,BEq.rfl,reduceIte,reduceCtorEq,Nat.reduceLT,reduceAdd,reduceSub,reduceMul,Nat.reduceBEq,reduceLeDiff,reduceToNat,reduceLE,hQ]
 refine aH (fun m S=>∃ i:Nat,i+m=s.length∧S=⟨dH 19 [(0,.str s),(3,.str ([34]++((s.take i).map ol).flatten)),(4,.int .i64 i)],[]⟩) s.length ⟨0,by omega,?_⟩ ?_
 · simp only [bV,keepR,reduceAdd,ng,Nat.reduceBEq,map_nil]
   rfl
 rintro m S ⟨i,him,rfl⟩
 have hfl:=BA (s.take i)
 have htl:(s.take i).length≤s.length:=List.length_take_le' _ _
 rcases lt_or_ge i s.length with h | h
 · have hlt:((i:Int)<(s.length:Int))=True:=eq_true (by omega)
   have zi:(0≤(i:Int))=True:=eq_true (by omega)
   have hgi:=List.getElem?_eq_getElem h
   have htk:s.take (i+1)=s.take i++[s[i]]:=List.take_succ_eq_append_getElem h
   generalize s[i]=c at hgi htk
   have hwl:=El c
   have hl:=Aq c
   simp(maxSteps:=400000)only[↓av,ax,BEq.rfl,reduceIte,reduceCtorEq,Nat.reduceLT,reduceAdd,reduceSub,reduceMul,Nat.reduceBEq,reduceLeDiff,reduceToNat,reduceLE,hQ,hlt,zi,hgi,↓uO,toNat_natCast,UInt8.ofNat_toNat]
   exact ⟨by omega,by omega,by omega,⟨by omega,by omega⟩,m-1,by omega,i+1,by omega,by rw [htk];simp only [List.map_append,List.map_cons,map_nil,List.flatten_append,List.flatten_cons,List.flatten_nil,List.append_nil,List.append_assoc,Int.natCast_add,Int.natCast_one]⟩
 · have hlt:((i:Int)<(s.length:Int))=False:=eq_false (by omega)
   rw [List.take_of_length_le h]
   rw [List.take_of_length_le h] at hfl
   simp(maxSteps:=400000)only[↓av,ax,BEq.rfl,reduceIte,reduceCtorEq,Nat.reduceLT,reduceAdd,reduceSub,reduceMul,Nat.reduceBEq,reduceLeDiff,reduceToNat,reduceLE,hQ,hlt]
   exact ⟨by omega,rfl⟩
def mK:dD:=fun args objs K=>match args with
 | [.str s]=>(s.length≤1000000000)∧K (.str (zx s)) objs 0
 | _=>False
theorem OX:aB Tryz.prog 121 (mK):=by
 intro args objs K h
 unfold mK at h
 split at h
 · rename_i s
   obtain ⟨h1,hk⟩:=h
   exact ⟨_,_,_,.pure _ rfl (R_ s h1),hk⟩
 · exact h.elim
theorem OY:∀ (l:List UInt8) (n N:Int),0≤n→n<N→om l n<N*16 ^ l.length
 | [],n,N,_,h=>by simpa [om] using h
 | c::t,n,N,h0,h=>by
  have ih:=fun x (a:0≤x) (b:x<N*16)=>OY t x (N*16) a b
  have e:N*16 ^ (c::t).length=N*16*16 ^ t.length:=by rw [length_cons,Int.pow_succ,Int.mul_assoc,Int.mul_comm (16 ^ t.length) 16]
  have hp:(0:Int)<16 ^ t.length:=Int.pow_pos (by omega)
  have hq:0<N*16*16 ^ t.length:=Int.mul_pos (by omega) hp
  rw [e,om]
  split
  · exact ih _ (by omega) (by omega)
  · split
    · exact ih _ (by omega) (by omega)
    · split
      · exact ih _ (by omega) (by omega)
      · omega
theorem OZ (s:List UInt8) (i:Nat):d_ s i<65536:=by
 unfold d_
 split
 · omega
 · have h1:=OY ((s.take (i+6)).drop (i+2)) 0 1 (by omega) (by omega)
   have h2:=abW ((s.take (i+6)).drop (i+2)).length (by rw [length_drop,length_take];omega)
   omega
theorem Y1 {c:UInt8}(h:∀ j,j<8→kH[j]?≠some c):kH.findIdx? (·=c)=none:=by
 rw [List.findIdx?_eq_none_iff]
 intro x hx
 obtain ⟨j,hj⟩:=List.mem_iff_getElem?.1 hx
 have:=(List.getElem?_eq_some_iff.1 hj).1
 have h1:=h j this
 rw [hj] at h1
 simpa using fun e=>h1 (by rw [e])
theorem Y2 {c:UInt8}{k:Nat}(h:∀ j,j<k→kH[j]?≠some c) (hk:kH[k]?=some c):kH.findIdx? (·=c)=some k:=by
 obtain ⟨h1,h2⟩:=List.getElem?_eq_some_iff.1 hk
 rw [List.findIdx?_eq_some_iff_getElem]
 refine ⟨h1,by simpa using h2,fun j hj=>?_⟩
 have:=h j hj
 rw [List.getElem?_eq_getElem (by omega)] at this
 simpa using fun e=>this (by rw [e])
theorem LP {a b:List UInt8×Int}(h:a=b):PV.bZ [PV.str a.1,PV.int .i64 a.2]=PV.bZ [PV.str b.1,PV.int .i64 b.2]:=by rw [h]
theorem O0 (s:List UInt8) (i:Nat) (hs:s.length≤1000000000) (hi:i<s.length):ai Tryz.prog 152 [.str s,.int .i64 i] [] (.bZ [.str (fM s i).1,.int .i64 (fM s i).2]) []:=by
 refine yJ.Dj (T:=aR Tryz.prog [(175,Fy),(176,Fz)]) 0 hD (aj (af R8 (af R9 ah))) aZ (by decide) (by decide) fun Q hQ=>?_
 have Nv:(0≤(i:Int)+1)=True:=eq_true (by omega)
 have t1:((i:Int)+1).toNat=i+1:=by omega
 have t6:((i:Int)+6).toNat=i+6:=by omega
 have ua:=OZ s i
 have ub:=OZ s (i+6)
 rcases lt_or_ge (i+1) s.length with h | h
 · have hlt:((s.length:Int)≤(i:Int)+1)=False:=eq_false (by omega)
   have hlt':((i:Int)+1<(s.length:Int))=True:=eq_true (by omega)
   have hgi:=List.getElem?_eq_getElem h
   generalize s[i+1]=c at hgi
   (conv=>arg 4;cbv);simp(maxSteps:=400000)only[↓av,ax,BEq.rfl,reduceIte,reduceCtorEq,Nat.reduceLT,reduceAdd,reduceSub,reduceMul,Nat.reduceBEq,reduceLeDiff,reduceToNat,reduceLE,hQ,Nv,t1,hlt,hlt']
   refine ⟨⟨by omega,by omega⟩,?_⟩
   refine aH (fun m S=>∃ k:Nat,k+m=8∧(∀ j,j<k→kH[j]?≠some c)∧S=⟨dH 74 [(0,.str s),(1,.int .i64 i),(6,.str [34,92,47,98,102,110,114,116]),(7,.str [34,92,47,8,12,10,13,9]),(8,.int .i64 k)],[]⟩) 8 ⟨0,by omega,fun j hj=>absurd hj (Nat.not_lt_zero j),?_⟩ ?_
   · simp only [bV,keepR,reduceAdd,ng,Nat.reduceBEq,map_nil]
     rfl
   rintro m S ⟨k,him,hb,rfl⟩
   have zk:(0≤(k:Int))=True:=eq_true (by omega)
   have tk:((k:Int)+1).toNat=k+1:=by omega
   have hl:=Aq c
   rcases lt_or_ge k 8 with g | g
   · have h8:((8:Nat):Int)=8:=rfl
     have hg:((k:Int)<((8:Nat):Int))=True:=eq_true (by omega)
     have Z8:kH[k]?=some kH[k]:=List.getElem?_eq_getElem g
     generalize kH[k]=d at Z8
     by_cases hcd:c=d
     · have hq:((c.toNat:Int)=(d.toNat:Int))=True:=eq_true (by rw [hcd])
       have e:fM s i=((T_.take (k+1)).drop k,2):=by
        simp only [fM,hgi,Y2 hb (by rw [Z8,hcd])]
       rw [kH] at Z8
       rw [T_] at e
       simp(maxSteps:=400000)only[↓av,ax,BEq.rfl,reduceIte,reduceCtorEq,Nat.reduceLT,reduceAdd,reduceSub,reduceMul,Nat.reduceBEq,reduceLeDiff,reduceToNat,reduceLE,hQ,hg,zk,Z8,hgi,Nv,t1,tk,hq,e]
       repeat' (first | (omega) | intro _ | refine ⟨?_,?_⟩)
     · have hq:((c.toNat:Int)=(d.toNat:Int))=False:=eq_false (fun h=>hcd (UInt8.toNat_inj.1 (by omega)))
       have hb':∀ j,j<k+1→kH[j]?≠some c:=fun j hj=>by
        rcases lt_or_ge j k with h1 | h1
        · exact hb j h1
        · have:j=k:=by omega
          subst this
          rw [Z8];intro e;exact hcd (Option.some.inj e).symm
       rw [kH] at Z8
       simp(maxSteps:=400000)only[↓av,ax,BEq.rfl,reduceIte,reduceCtorEq,Nat.reduceLT,reduceAdd,reduceSub,reduceMul,Nat.reduceBEq,reduceLeDiff,reduceToNat,reduceLE,hQ,hg,zk,Z8,hgi,Nv,t1,tk,hq]
       repeat' (first | exact ⟨m-1,by omega,k+1,by omega,hb',rfl⟩ | (omega) | intro _ | refine ⟨?_,?_⟩)
   · have h8:((8:Nat):Int)=8:=rfl
     have hg:((k:Int)<((8:Nat):Int))=False:=eq_false (by omega)
     have hn:=Y1 fun j hj=>hb j (by omega)
     have e:fM s i=if d_ s i<0∨(56320≤d_ s i∧d_ s i<57344) then ([],0) else if d_ s i<55296∨57344≤d_ s i then (CO (d_ s i),6) else if d_ s (i+6)<56320∨57344≤d_ s (i+6) then ([],0) else (CO (65536+1024*(d_ s i-55296)+d_ s (i+6)-56320),12):=by
      simp only [fM,hgi,hn]
     simp(maxSteps:=400000)only[↓av,ax,BEq.rfl,reduceIte,reduceCtorEq,Nat.reduceLT,reduceAdd,reduceSub,reduceMul,Nat.reduceBEq,reduceLeDiff,reduceToNat,reduceLE,hQ,hg,↓Fy,↓Fz,toNat_natCast,t6]
     generalize d_ s i=a at *
     generalize d_ s (i+6)=b at *
     have e1:(a<0∨(56320≤a∧a<57344))→fM s i=([],0):=fun x=>by rw [e,if_pos x]
     have e2:¬ (a<0∨(56320≤a∧a<57344))→(a<55296∨57344≤a)→fM s i=(CO a,6):=fun x y=>by rw [e,if_neg x,if_pos y]
     have e3:¬ (a<0∨(56320≤a∧a<57344))→¬ (a<55296∨57344≤a)→(b<56320∨57344≤b)→fM s i=([],0):=fun x y z=>by rw [e,if_neg x,if_neg y,if_pos z]
     have e4:¬ (a<0∨(56320≤a∧a<57344))→¬ (a<55296∨57344≤a)→¬ (b<56320∨57344≤b)→fM s i=(CO (65536+1024*(a-55296)+b-56320),12):=fun x y z=>by rw [e,if_neg x,if_neg y,if_neg z]
     clear e
     repeat' (first | (omega) | exact (LP (e1 (by omega))) | exact (LP (e2 (by omega) (by omega))) | exact (LP (e3 (by omega) (by omega) (by omega))) | exact (LP (e4 (by omega) (by omega) (by omega))) | intro _ | refine ⟨?_,?_⟩)
 · have hlt:((s.length:Int)≤(i:Int)+1)=True:=eq_true (by omega)
   have hlt':((i:Int)+1<(s.length:Int))=False:=eq_false (by omega)
   have e:fM s i=([],0):=by simp only [fM,List.getElem?_eq_none_iff.2 h]
   (conv=>arg 4;cbv);simp(maxSteps:=400000)only[↓av,ax,BEq.rfl,reduceIte,reduceCtorEq,Nat.reduceLT,reduceAdd,reduceSub,reduceMul,Nat.reduceBEq,reduceLeDiff,reduceToNat,reduceLE,hQ,Nv,t1,hlt,hlt',e]
   omega
def xQ:dD:=fun args objs K=>match args with
 | [.str s,.int .i64 i]=>(s.length≤1000000000)∧(0≤i)∧(i<s.length)∧K (.bZ [.str (fM s i.toNat).1,.int .i64 (fM s i.toNat).2]) objs 0
 | _=>False
theorem LQ:aB Tryz.prog 152 (xQ):=by
 intro args objs K h
 unfold xQ at h
 split at h
 · rename_i s i
   obtain ⟨h1,h2,h3,hk⟩:=h
   exact ⟨_,_,_,.pure _ rfl ((by have:=O0 s i.toNat h1 (by omega);rwa [Int.toNat_of_nonneg h2] at this)),hk⟩
 · exact h.elim
theorem Sb (s:List UInt8) (i:Nat) (hs:s.length≤1000000000) (hi:i<s.length):ai Tryz.prog 129 [.str s,.int .i64 i] [] (.bZ [.str (j5 s i).1,.int .i64 (j5 s i).2]) []:=by
 refine zU.Dj (T:=aR Tryz.prog [(152,xQ),(62,xO)]) 0 hD (aj (af LQ (af GJ ah))) aZ (by decide) (by decide) fun Q hQ=>?_
 have zi:(0≤(i:Int))=True:=eq_true (by omega)
 have hgi:=List.getElem?_eq_getElem hi
 generalize s[i]=c at hgi
 have b0:(c.toNat:Int)=92↔c=92:=l_ (k:=92) (by omega)
 by_cases h:(c.toNat:Int)=92
 · have e:j5 s i=fM s i:=by unfold j5;rw [if_pos (by rw [hgi,b0.1 h])]
   (conv=>arg 4;cbv);simp(maxSteps:=400000)only[↓av,ax,BEq.rfl,reduceIte,reduceCtorEq,Nat.reduceLT,reduceAdd,reduceSub,reduceMul,Nat.reduceBEq,reduceLeDiff,reduceToNat,reduceLE,hQ,zi,hgi,h,↓xQ,e,toNat_natCast,gZ]
   omega
 · have h':=eq_false h
   have e:j5 s i=((s.drop i).take (bY (s.drop i)),(bY (s.drop i):Int)):=by
    unfold j5;rw [if_neg];rw [hgi];intro x;exact h (b0.2 (Option.some.inj x))
   have hrl:=GK (s.drop i)
   rw [length_drop] at hrl
   (conv=>arg 4;cbv);simp(maxSteps:=400000)only[↓av,ax,BEq.rfl,reduceIte,reduceCtorEq,Nat.reduceLT,reduceAdd,reduceSub,reduceMul,Nat.reduceBEq,reduceLeDiff,reduceToNat,reduceLE,hQ,zi,hgi,h',↓xO,toNat_natCast]
   refine ⟨by omega,by omega,⟨by omega,by omega⟩,by omega,by omega,?_⟩
   have tn:((i:Int)+(bY (s.drop i):Int)).toNat=i+bY (s.drop i):=by omega
   rw [e,tn,List.take_drop]
def BB:dD:=fun args objs K=>match args with
 | [.str s,.int .i64 i]=>(s.length≤1000000000)∧(0≤i)∧(i<s.length)∧K (.bZ [.str (j5 s i.toNat).1,.int .i64 (j5 s i.toNat).2]) objs 0
 | _=>False
theorem O1:aB Tryz.prog 129 (BB):=by
 intro args objs K h
 unfold BB at h
 split at h
 · rename_i s i
   obtain ⟨h1,h2,h3,hk⟩:=h
   exact ⟨_,_,_,.pure _ rfl ((by have:=Sb s i.toNat h1 (by omega);rwa [Int.toNat_of_nonneg h2] at this)),hk⟩
 · exact h.elim
end Lp
namespace Lp
open Go Go.Proofs
open Nat (reduceAdd reduceLeDiff reduceMul reduceSub zero_le)
open Int (reduceLE reduceToNat)
theorem O3 (n:Int):(CO n).length≤4:=by
 unfold CO
 repeat' split
 all_goals simp
theorem O4 {s:List UInt8}{i:Nat}(h:0≤d_ s i):i+6≤s.length:=by
 unfold d_ at h
 split at h
 · omega
 · rename_i g;simp only [not_or] at g;omega
theorem LU (s:List UInt8) (i:Nat) (hi:i<s.length):0≤(fM s i).2∧i+(fM s i).2≤s.length∧((fM s i).1.length:Int)≤(fM s i).2:=by
 unfold fM
 split
 · exact ⟨by omega,by show (i:Int)+0≤_;omega,by simp⟩
 · rename_i c hc
   have h1:=(List.getElem?_eq_some_iff.1 hc).1
   split
   · rename_i k _
     refine ⟨by omega,by show (i:Int)+2≤_;omega,?_⟩
     show (((T_.take (k+1)).drop k).length:Int)≤2
     simp only [List.length_drop,List.length_take];omega
   · have l1:=O3 (d_ s i)
     have l2:=O3 (65536+1024*(d_ s i-55296)+d_ s (i+6)-56320)
     split
     · exact ⟨by omega,by show (i:Int)+0≤_;omega,by simp⟩
     · rename_i h2
       have:=O4 (s:=s) (i:=i) (by omega)
       split
       · exact ⟨by show (0:Int)≤6;omega,by show (i:Int)+6≤_;omega,by show ((CO _).length:Int)≤6;omega⟩
       · split
         · exact ⟨by omega,by show (i:Int)+0≤_;omega,by simp⟩
         · rename_i h3
           have:=O4 (s:=s) (i:=i+6) (by omega)
           exact ⟨by show (0:Int)≤12;omega,by show (i:Int)+12≤_;omega,by show ((CO _).length:Int)≤12;omega⟩
theorem Em (s:List UInt8) (i:Nat) (hi:i<s.length):0≤(j5 s i).2∧i+(j5 s i).2≤s.length∧((j5 s i).1.length:Int)≤(j5 s i).2:=by
 unfold j5
 split
 · exact LU s i hi
 · have hrl:=GK (s.drop i)
   rw [List.length_drop] at hrl
   refine ⟨by show (0:Int)≤(bY (s.drop i):Int);omega,by show (i:Int)+(bY (s.drop i):Int)≤_;omega,?_⟩
   show (((s.drop i).take (bY (s.drop i))).length:Int)≤(bY (s.drop i):Int)
   simp only [List.length_take,List.length_drop];omega
theorem Y3 {a b:List UInt8×Int×Int}(h:a=b):PV.bZ [PV.str a.1,PV.int .i64 a.2.1,PV.int .i64 a.2.2]=PV.bZ [PV.str b.1,PV.int .i64 b.2.1,PV.int .i64 b.2.2]:=by rw [h]
theorem LV (s:List UInt8) (hs:s.length≤1000000000):ai Tryz.prog 120 [.str s] [] (.bZ [.str (bE s).1,.int .i64 (bE s).2.1,.int .i64 (bE s).2.2]) []:=by
 refine wV.YV (T:=aR Tryz.prog [(129,BB)]) 0 hD (aj (af O1 ah)) aZ (by decide) (by decide) (by decide) fun Q hQ=>?_
 cases s with
 | nil=>
  have e:bE []=([],0,1):=rfl
  (conv=>arg 4;cbv);simp(maxSteps:=400000)only[↓av,ax,BEq.rfl,reduceIte,reduceCtorEq,Nat.reduceLT,reduceAdd,reduceSub,reduceMul,Nat.reduceBEq,reduceLeDiff,reduceToNat,reduceLE,hQ,e]
 | cons a t=>
  have he:((a::t:List UInt8)=[])=False:=eq_false (by simp)
  have hg0:(a::t)[0]?=some a:=rfl
  generalize hst:a::t=s at *
  have b0:(a.toNat:Int)=34↔a=34:=l_ (k:=34) (by omega)
  by_cases h34:(a.toNat:Int)=34
  · have e0:bE s=EC s s.length 1 []:=by
     unfold bE;rw [if_neg];rintro (g | g)
     · exact he.mp g
     · exact g (by rw [hg0,b0.1 h34])
    have hlen:0<s.length:=by rw [← hst];simp
    (conv=>arg 4;cbv);simp(maxSteps:=400000)only[↓av,ax,BEq.rfl,reduceIte,reduceCtorEq,Nat.reduceLT,reduceAdd,reduceSub,reduceMul,Nat.reduceBEq,reduceLeDiff,reduceToNat,reduceLE,hQ,he,hg0,h34]
    refine aH (fun m S=>∃ (i f:Nat) (out:List UInt8),i+m=s.length∧1≤i∧s.length+1≤i+f∧out.length≤i∧bE s=EC s f i out∧S=⟨dH 50 [(0,.str s),(5,.str out),(6,.int .i64 i)],[]⟩) (s.length-1) ⟨1,s.length,[],by omega,by omega,by omega,by simp,e0,?_⟩ ?_
    · simp only [bV,keepR,reduceAdd,ng,Nat.reduceBEq,List.map_nil]
      rfl
    rintro m S ⟨i,f,out,him,h1,h2,h3,hU,rfl⟩
    have zi:(0≤(i:Int))=True:=eq_true (by omega)
    obtain ⟨f,rfl⟩:∃ g,f=g+1:=⟨f-1,by omega⟩
    rcases Nat.lt_or_ge i s.length with h | h
    · have hlt:((i:Int)<(s.length:Int))=True:=eq_true (by omega)
      have hgi:=List.getElem?_eq_getElem h
      generalize s[i]=c at hgi
      obtain ⟨f1,f2,f3⟩:=Em s i h
      simp only [EC,hgi] at hU
      simp(maxSteps:=400000)only[↓av,ax,BEq.rfl,reduceIte,reduceCtorEq,Nat.reduceLT,reduceAdd,reduceSub,reduceMul,Nat.reduceBEq,reduceLeDiff,reduceToNat,reduceLE,hQ,hlt,zi,hgi,↓BB,Int.toNat_natCast,gZ]
      generalize j5 s i=x at *
      obtain ⟨y,z⟩:=x
      simp only at f1 f2 f3 hU ⊢
      obtain ⟨n,rfl⟩:∃ n:Nat,z=n:=⟨z.toNat,by omega⟩
      rw [Int.toNat_natCast] at hU
      have u1:(c.toNat:Int)=34→bE s=(out,(i:Int)+1,0):=fun g=>by rw [hU,if_pos g]
      have u2:¬ (c.toNat:Int)=34→((n:Int)=0∨(c.toNat:Int)<32)→bE s=([],(i:Int),1):=fun g g'=>by rw [hU,if_neg g,if_pos g']
      have u3:¬ (c.toNat:Int)=34→¬ ((n:Int)=0∨(c.toNat:Int)<32)→bE s=EC s f (i+n) (out++y):=fun g g'=>by rw [hU,if_neg g,if_neg g']
      repeat' (first | (omega) | exact (Y3 (u1 (by omega))) | exact (Y3 (u2 (by omega) (by omega))) | exact ⟨m-n,by omega,i+n,f,out++y,by omega,by omega,by omega,by rw [List.length_append];omega,u3 (by omega) (by omega),by rw [Int.natCast_add]⟩ | intro _ | refine ⟨?_,?_⟩)
    · have hlt:((i:Int)<(s.length:Int))=False:=eq_false (by omega)
      have hU':bE s=([],(s.length:Int),1):=by rw [hU];simp only [EC,List.getElem?_eq_none_iff.2 h]
      simp(maxSteps:=400000)only[↓av,ax,BEq.rfl,reduceIte,reduceCtorEq,Nat.reduceLT,reduceAdd,reduceSub,reduceMul,Nat.reduceBEq,reduceLeDiff,reduceToNat,reduceLE,hQ,hlt,hU']
  · have e0:bE s=([],0,1):=by
     unfold bE;rw [if_pos];right;rw [hg0];intro g;exact h34 (b0.2 (Option.some.inj g))
    have aeZ:=eq_false h34
    (conv=>arg 4;cbv);simp(maxSteps:=400000)only[↓av,ax,BEq.rfl,reduceIte,reduceCtorEq,Nat.reduceLT,reduceAdd,reduceSub,reduceMul,Nat.reduceBEq,reduceLeDiff,reduceToNat,reduceLE,hQ,he,hg0,aeZ,e0]
def fH:dD:=fun args objs K=>match args with
 | [.str s]=>(s.length≤1000000000)∧K (.bZ [.str (bE s).1,.int .i64 (bE s).2.1,.int .i64 (bE s).2.2]) objs 0
 | _=>False
theorem Jc:aB Tryz.prog 120 (fH):=by
 intro args objs K h
 unfold fH at h
 split at h
 · rename_i s
   obtain ⟨h1,hk⟩:=h
   exact ⟨_,_,_,.pure _ rfl (LV s h1),hk⟩
 · exact h.elim
theorem za (s:List UInt8):((bE s).2.2=0→1≤(bE s).2.1∧(bE s).2.1≤s.length)∧(bE s).1.length≤s.length:=by
 have gen:∀ (f i:Nat) (out:List UInt8),i≤s.length→out.length≤i→((EC s f i out).2.2=0→1≤(EC s f i out).2.1∧(EC s f i out).2.1≤s.length)∧(EC s f i out).1.length≤s.length:=by
  intro f
  induction f with
  | zero=>intro i out _ _;exact ⟨fun h=>absurd (show (1:Int)=0 from h) (by decide),zero_le _⟩
  | succ f ih=>
   intro i out hi ho
   simp only [EC]
   split
   · exact ⟨fun h=>absurd (show (1:Int)=0 from h) (by decide),zero_le _⟩
   · rename_i c hc
     have hl:=(List.getElem?_eq_some_iff.1 hc).1
     obtain ⟨f1,f2,f3⟩:=Em s i hl
     split
     · exact ⟨fun _=>⟨by show (1:Int)≤(i:Int)+1;omega,by show (i:Int)+1≤_;omega⟩,by show out.length≤_;omega⟩
     · split
       · exact ⟨fun h=>absurd (show (1:Int)=0 from h) (by decide),zero_le _⟩
       · exact ih _ _ (by omega) (by rw [List.length_append];omega)
 unfold bE
 split
 · exact ⟨fun h=>absurd (show (1:Int)=0 from h) (by decide),zero_le _⟩
 · rename_i g
   have:s≠[]:=fun e=>g (.inl e)
   have:0<s.length:=List.length_pos_iff.2 this
   exact gen _ _ _ (by omega) (by simp)
theorem Jd (s:List UInt8) (i:Nat) (hi:i≤s.length):(dz s i).2≤s.length∧i≤(dz s i).2:=by
 have gen:∀ (f i:Nat) (n:Int),i≤s.length→(qI s f i n).2≤s.length∧i≤(qI s f i n).2:=by
  intro f
  induction f with
  | zero=>intro i n h;exact ⟨h,Nat.le_refl _⟩
  | succ f ih=>
   intro i n h
   simp only [qI]
   split
   · exact ⟨h,Nat.le_refl _⟩
   · rename_i c hc
     have hl:=(List.getElem?_eq_some_iff.1 hc).1
     split
     · have:=ih (i+1) (n*10+((c.toNat:Int)-48)) (by omega);omega
     · exact ⟨h,Nat.le_refl _⟩
 unfold dz
 split
 · exact ⟨hi,Nat.le_refl _⟩
 · exact gen 7 i 0 hi
end Lp
namespace Lp
open Go Go.Proofs
open Nat (reduceAdd reduceLeDiff reduceMul reduceSub)
open Int (reduceLE reduceToNat)
theorem Wp {s:List UInt8}{i f k:Nat}(h:f=0∨¬ (k<s.length∧nu ((s.take (k+1)).drop i)=true)):oo s i f k=k:=by
 cases f with
 | zero=>rfl
 | succ f=>
  rcases h with h | h
  · omega
  · simp only [oo];rw [if_neg h]
theorem Y4 {s:List UInt8}{i f k:Nat}(h1:k<s.length) (h2:nu ((s.take (k+1)).drop i)=true):oo s i (f+1) k=oo s i f (k+1):=by
 simp only [oo];rw [if_pos ⟨h1,h2⟩]
theorem O5:∀ (s:List UInt8) (i f k:Nat),k≤s.length→oo s i f k≤s.length
 | _,_,0,_,h=>h
 | s,i,f+1,k,h=>by
  simp only [oo]
  split
  · exact O5 s i f (k+1) (by omega)
  · exact h
theorem Y5 {a b:Stp×Nat}(h:a=b):PV.bZ [encS a.1,PV.int .i64 (a.2:Int)]=PV.bZ [.agg [.bool b.1.part,.str b.1.name,.int .i64 b.1.n],PV.int .i64 (b.2:Int)]:=by rw [h];rfl
theorem mM:PV.vO (.agg ⟨[.bool false,.string ⟨⟨[]⟩⟩,.int .i64 0]⟩)=encS ⟨false,[],0⟩:=rfl
theorem mO (a:Stp):(∀ p nm n,(encS a).putCells 0 [.bool p,.str nm,.int .i64 n]=encS ⟨p,nm,n⟩):=fun _ _ _=>rfl
theorem mP (objs:List Obj) (K:KT) :
  (bF D 61 [] objs K=K (encS ⟨false,[],0⟩) objs 0)∧
  (∀ nm,bF D 61 [(1,.str nm)] objs K=K (encS ⟨false,nm,0⟩) objs 0)∧
  (∀ n,bF D 61 [(0,.bool true),(2,.int .i64 n)] objs K=K (encS ⟨true,[],n⟩) objs 0):=by
 have z:aI (D 61)=encS ⟨false,[],0⟩:=by kernel_rfl
 have a:(D 61).agg=true:=by kernel_rfl
 simp only [bL] at z a
 refine ⟨?_,fun nm=>?_,fun n=>?_⟩
 all_goals
  simp [bF,lG,a,z,bL,mg,encS,PV.isAgg,qb,PV.cells,PV.storable,PV.lS,PV.pure]
theorem Dv (s:List UInt8) (i p:Nat) (P:Int) (hP:P=p) (hs:s.length≤1000000000) (hi:i≤s.length) (hp:p≤s.length) (l:List (Nat×PV)) (h0:l6 l 0=.str s) (h1:l6 l 1=.int .i64 P) (h6:l6 l 6=.bJ 0 1 0 0) (h8:l6 l 8=.int .i64 i) (r:PV) (hr:r=.bZ [encS (oW s i p).1,.int .i64 (oW s i p).2]) (Q:Exit→St→Prop)
  (hQ:∀ l ob,Q .ret ⟨dH 129 l,ob⟩=fw (D 61) (l6 l 6) ob fun p _ _=>r=.bZ [gJ 0 0 ob p,gJ 0 0 ob (l6 l 7)]) :
  kS Tryz.prog D (aR Tryz.prog [(119,jW),(120,fH),(121,mK),(122,nV)]) bT Q ⟨dH 129 l,[⟨61,3,[encS ⟨false,[],0⟩],true,1⟩]⟩:=by
 subst hP
 have zp:(0≤(p:Int))=True:=eq_true (by omega)
 rcases Nat.lt_or_ge p s.length with h | h
 · have pl:((s.length:Int)≤(p:Int))=False:=eq_false (by omega)
   have pg:=List.getElem?_eq_getElem h
   generalize s[p]=d at pg
   have b91:(d.toNat:Int)=91↔d=91:=l_ (k:=91) (by omega)
   by_cases h91:(d.toNat:Int)=91
   · have ff:=Jd s (p+1) (by omega)
     have e1:oW s i p=if (dz s (p+1)).1<0∨s[(dz s (p+1)).2]?≠some 93 then (⟨false,[],0⟩,i) else (⟨true,[],(dz s (p+1)).1⟩,(dz s (p+1)).2+1):=by
      unfold oW;rw [if_neg];rw [pg,b91.1 h91];exact fun g=>g rfl
     have tp:((p:Int)+1).toNat=p+1:=by omega
     generalize hF:dz s (p+1)=F at *
     obtain ⟨fn,ft⟩:=F
     simp only at ff e1
     have zf:(0≤(ft:Int))=True:=eq_true (by omega)
     by_cases n0:fn<0
     · rw [if_pos (.inl n0)] at e1
       have n0':=eq_true n0
       rw [e1] at hr
       simp(maxSteps:=400000)only[↓av,ax,BEq.rfl,reduceIte,reduceCtorEq,Nat.reduceLT,reduceAdd,reduceSub,reduceMul,Nat.reduceBEq,reduceLeDiff,reduceToNat,reduceLE,hQ,bT,mM,mO,mP,zp,pl,pg,h91,↓nV,tp,hF,gZ,n0',h0,h1,h6,h8]
       repeat' (first | (omega) | exact hr | intro _ | refine ⟨?_,?_⟩)
     · have n0':=eq_false n0
       rcases Nat.lt_or_ge ft s.length with hf | hf
       · have fl:((s.length:Int)≤(ft:Int))=False:=eq_false (by omega)
         have fg:=List.getElem?_eq_getElem hf
         generalize s[ft]=g at fg
         have b93:(g.toNat:Int)=93↔g=93:=l_ (k:=93) (by omega)
         by_cases h93:(g.toNat:Int)=93
         · rw [if_neg (by rintro (x | x);exact n0 x;exact x (by rw [fg,b93.1 h93]))] at e1
           rw [e1] at hr
           simp(maxSteps:=400000)only[↓av,ax,BEq.rfl,reduceIte,reduceCtorEq,Nat.reduceLT,reduceAdd,reduceSub,reduceMul,Nat.reduceBEq,reduceLeDiff,reduceToNat,reduceLE,hQ,bT,mM,mO,mP,zp,pl,pg,h91,↓nV,tp,hF,gZ,n0',zf,fl,fg,h93,h0,h1,h6,h8]
           repeat' (first | (omega) | exact hr | intro _ | refine ⟨?_,?_⟩)
         · rw [if_pos (.inr (by rw [fg];intro x;exact h93 (b93.2 (Option.some.inj x))))] at e1
           rw [e1] at hr
           have ae0:=eq_false h93
           simp(maxSteps:=400000)only[↓av,ax,BEq.rfl,reduceIte,reduceCtorEq,Nat.reduceLT,reduceAdd,reduceSub,reduceMul,Nat.reduceBEq,reduceLeDiff,reduceToNat,reduceLE,hQ,bT,mM,mO,mP,zp,pl,pg,h91,↓nV,tp,hF,gZ,n0',zf,fl,fg,ae0,h0,h1,h6,h8]
           repeat' (first | (omega) | exact hr | intro _ | refine ⟨?_,?_⟩)
       · have fl:((s.length:Int)≤(ft:Int))=True:=eq_true (by omega)
         rw [if_pos (.inr (by rw [List.getElem?_eq_none_iff.2 hf];simp))] at e1
         rw [e1] at hr
         simp(maxSteps:=400000)only[↓av,ax,BEq.rfl,reduceIte,reduceCtorEq,Nat.reduceLT,reduceAdd,reduceSub,reduceMul,Nat.reduceBEq,reduceLeDiff,reduceToNat,reduceLE,hQ,bT,mM,mO,mP,zp,pl,pg,h91,↓nV,tp,hF,gZ,n0',zf,fl,h0,h1,h6,h8]
         repeat' (first | (omega) | exact hr | intro _ | refine ⟨?_,?_⟩)
   · have ae1:=eq_false h91
     have e1:oW s i p=(⟨false,[],0⟩,i):=by unfold oW;rw [if_pos];rw [pg];intro x;exact h91 (b91.2 (Option.some.inj x))
     rw [e1] at hr
     simp(maxSteps:=400000)only[↓av,ax,BEq.rfl,reduceIte,reduceCtorEq,Nat.reduceLT,reduceAdd,reduceSub,reduceMul,Nat.reduceBEq,reduceLeDiff,reduceToNat,reduceLE,hQ,bT,mM,mO,mP,zp,pl,pg,ae1,h0,h1,h6,h8]
     repeat' (first | (omega) | exact hr | intro _ | refine ⟨?_,?_⟩)
 · have pl:((s.length:Int)≤(p:Int))=True:=eq_true (by omega)
   have e1:oW s i p=(⟨false,[],0⟩,i):=by unfold oW;rw [if_pos];rw [List.getElem?_eq_none_iff.2 h];simp
   rw [e1] at hr
   simp(maxSteps:=400000)only[↓av,ax,BEq.rfl,reduceIte,reduceCtorEq,Nat.reduceLT,reduceAdd,reduceSub,reduceMul,Nat.reduceBEq,reduceLeDiff,reduceToNat,reduceLE,hQ,bT,mM,mO,mP,zp,pl,h0,h1,h6,h8]
   repeat' (first | (omega) | exact hr | intro _ | refine ⟨?_,?_⟩)
end Lp
namespace Lp
open Go Go.Proofs
open List (take_length)
open Nat (lt_or_ge reduceAdd reduceLeDiff reduceMul reduceSub)
open Int (reduceLE reduceToNat)
theorem O6 (s:List UInt8) (i k:Nat) (first:Bool) (hs:s.length≤1000000000) (hi:i<s.length) (hd:s[i]?=some 46) (hik:i+1≤k) (hk2:k≤s.length) (hE:oo s (i+1) (s.length-(i+1)) (i+1)=k) (l:List (Nat×PV)) (h0:l6 l 0=.str s) (h1:l6 l 1=.int .i64 ((i:Int)+1)) (h2:l6 l 2=.bool first) (h6:l6 l 6=.bJ 0 1 0 0) (h8:l6 l 8=.int .i64 i) (h9:l6 l 9=.int .i64 k) (r:PV) (hr:r=.bZ [encS (gY s i first).1,.int .i64 (gY s i first).2]) (Q:Exit→St→Prop)
  (hQ:∀ l ob,Q .ret ⟨dH 129 l,ob⟩=fw (D 61) (l6 l 6) ob fun p _ _=>r=.bZ [gJ 0 0 ob p,gJ 0 0 ob (l6 l 7)]) :
  kS Tryz.prog D (aR Tryz.prog [(119,jW),(120,fH),(121,mK),(122,nV)]) bM (thenS (fun S'=>kS Tryz.prog D (aR Tryz.prog [(119,jW),(120,fH),(121,mK),(122,nV)]) bT Q S') Q) ⟨dH 129 l,[⟨61,3,[encS ⟨false,[],0⟩],true,1⟩]⟩:=by
 have Y6:=fun (l:List (Nat×PV)) a0 a1 a6 a8 hr=>Dv s i (i+1) ((i:Int)+1) (by omega) hs (by omega) (by omega) l a0 a1 a6 a8 r hr Q hQ
 have zk:(0≤(k:Int))=True:=eq_true (by omega)
 have Nv:(0≤(i:Int)+1)=True:=eq_true (by omega)
 have LW:((i:Int)+1).toNat=i+1:=by omega
 have e0:gY s i first=if i+1<k then (⟨false,(s.take k).drop (i+1),0⟩,k) else if (bE (s.drop (i+1))).2.2=0∧nu (bE (s.drop (i+1))).1=false∧zx (bE (s.drop (i+1))).1=(s.take (i+1+(bE (s.drop (i+1))).2.1.toNat)).drop (i+1) then (⟨false,(bE (s.drop (i+1))).1,0⟩,i+1+(bE (s.drop (i+1))).2.1.toNat) else if first then oW s i (i+1) else (⟨false,[],0⟩,i):=by
  unfold gY;rw [if_pos hd,hE]
 have ul:(s.drop (i+1)).length=s.length-(i+1):=List.length_drop
 have uf:=za (s.drop (i+1))
 rw [ul] at uf
 generalize hU:bE (s.drop (i+1))=U at *
 obtain ⟨nm,n,e⟩:=U
 simp only at e0 uf
 rcases lt_or_ge (i+1) k with hk | hk
 · have kg:((i:Int)+1<(k:Int))=True:=eq_true (by omega)
   rw [if_pos hk] at e0
   rw [e0] at hr
   simp(maxSteps:=400000)only[↓av,ax,BEq.rfl,reduceIte,reduceCtorEq,Nat.reduceLT,reduceAdd,reduceSub,reduceMul,Nat.reduceBEq,reduceLeDiff,reduceToNat,reduceLE,hQ,bM,mM,mO,mP,zk,LW,kg,Int.toNat_natCast,h0,h1,h2,h6,h8,h9]
   repeat' (first | (omega) | exact hr | intro _ | refine ⟨?_,?_⟩)
 · have kg:((i:Int)+1<(k:Int))=False:=eq_false (by omega)
   rw [if_neg (by omega)] at e0
   have Y7:first=false→¬ (e=0∧nu nm=false∧zx nm=(s.take (i+1+n.toNat)).drop (i+1))→r=.bZ [encS ⟨false,[],0⟩,.int .i64 i]:=fun a b=>by rw [hr,e0,if_neg b,if_neg (by rw [a];simp)]
   have Y8:first=true→¬ (e=0∧nu nm=false∧zx nm=(s.take (i+1+n.toNat)).drop (i+1))→r=.bZ [encS (oW s i (i+1)).1,.int .i64 (oW s i (i+1)).2]:=fun a b=>by rw [hr,e0,if_neg b,if_pos a]
   by_cases he:e=0
   · subst he
     have un:=uf.1 rfl
     have tn:((i:Int)+1+n).toNat=i+1+n.toNat:=by omega
     cases c2:nu nm with
     | false=>
      by_cases c3:zx nm=(s.take (i+1+n.toNat)).drop (i+1)
      · rw [if_pos ⟨rfl,c2,c3⟩] at e0
        have zn:(((i+1+n.toNat:Nat)):Int)=(i:Int)+1+n:=by omega
        have c3':=eq_true c3
        rw [e0] at hr
        simp only [zn] at hr
        simp(maxSteps:=400000)only[↓av,ax,BEq.rfl,reduceIte,reduceCtorEq,Nat.reduceLT,reduceAdd,reduceSub,reduceMul,Nat.reduceBEq,reduceLeDiff,reduceToNat,reduceLE,hQ,bM,mM,mO,mP,zk,Nv,LW,kg,↓fH,take_length,hU,gZ,↓jW,c2,↓mK,tn,c3',h0,h1,h2,h6,h8,h9]
        repeat' (first | (omega) | exact hr | intro _ | refine ⟨?_,?_⟩)
      · have c3':=eq_false c3
        cases first with
        | false=>
         have g:=Y7 rfl fun x=>c3 x.2.2
         simp(maxSteps:=400000)only[↓av,ax,BEq.rfl,reduceIte,reduceCtorEq,Nat.reduceLT,reduceAdd,reduceSub,reduceMul,Nat.reduceBEq,reduceLeDiff,reduceToNat,reduceLE,hQ,bM,mM,mO,mP,zk,Nv,LW,kg,↓fH,take_length,hU,gZ,↓jW,c2,↓mK,tn,c3',h0,h1,h2,h6,h8,h9]
         repeat' (first | (omega) | exact g | intro _ | refine ⟨?_,?_⟩)
        | true=>
         have g:=Y8 rfl fun x=>c3 x.2.2
         simp(maxSteps:=400000)only[↓av,ax,BEq.rfl,reduceIte,reduceCtorEq,Nat.reduceLT,reduceAdd,reduceSub,reduceMul,Nat.reduceBEq,reduceLeDiff,reduceToNat,reduceLE,hQ,bM,mM,mO,mP,zk,Nv,LW,kg,↓fH,take_length,hU,gZ,↓jW,c2,↓mK,tn,c3',h0,h1,h2,h6,h8,h9]
         repeat' (first | (omega) | exact (Y6 _ h0 h1 h6 h8 g) | intro _ | refine ⟨?_,?_⟩)
     | true=>
      cases first with
      | false=>
       have g:=Y7 rfl fun x=>absurd (c2.symm.trans x.2.1) (by decide)
       simp(maxSteps:=400000)only[↓av,ax,BEq.rfl,reduceIte,reduceCtorEq,Nat.reduceLT,reduceAdd,reduceSub,reduceMul,Nat.reduceBEq,reduceLeDiff,reduceToNat,reduceLE,hQ,bM,mM,mO,mP,zk,Nv,LW,kg,↓fH,take_length,hU,gZ,↓jW,c2,h0,h1,h2,h6,h8,h9]
       repeat' (first | (omega) | exact g | intro _ | refine ⟨?_,?_⟩)
      | true=>
       have g:=Y8 rfl fun x=>absurd (c2.symm.trans x.2.1) (by decide)
       simp(maxSteps:=400000)only[↓av,ax,BEq.rfl,reduceIte,reduceCtorEq,Nat.reduceLT,reduceAdd,reduceSub,reduceMul,Nat.reduceBEq,reduceLeDiff,reduceToNat,reduceLE,hQ,bM,mM,mO,mP,zk,Nv,LW,kg,↓fH,take_length,hU,gZ,↓jW,c2,h0,h1,h2,h6,h8,h9]
       repeat' (first | (omega) | exact (Y6 _ h0 h1 h6 h8 g) | intro _ | refine ⟨?_,?_⟩)
   · have he':=eq_false he
     cases first with
     | false=>
      have g:=Y7 rfl fun x=>he x.1
      simp(maxSteps:=400000)only[↓av,ax,BEq.rfl,reduceIte,reduceCtorEq,Nat.reduceLT,reduceAdd,reduceSub,reduceMul,Nat.reduceBEq,reduceLeDiff,reduceToNat,reduceLE,hQ,bM,mM,mO,mP,zk,Nv,LW,kg,↓fH,take_length,hU,gZ,he',h0,h1,h2,h6,h8,h9]
      repeat' (first | (omega) | exact g | intro _ | refine ⟨?_,?_⟩)
     | true=>
      have g:=Y8 rfl fun x=>he x.1
      simp(maxSteps:=400000)only[↓av,ax,BEq.rfl,reduceIte,reduceCtorEq,Nat.reduceLT,reduceAdd,reduceSub,reduceMul,Nat.reduceBEq,reduceLeDiff,reduceToNat,reduceLE,hQ,bM,mM,mO,mP,zk,Nv,LW,kg,↓fH,take_length,hU,gZ,he',h0,h1,h2,h6,h8,h9]
      repeat' (first | (omega) | exact (Y6 _ h0 h1 h6 h8 g) | intro _ | refine ⟨?_,?_⟩)
theorem Wq (s:List UInt8) (i:Nat) (first:Bool) (hs:s.length≤1000000000) (hi:i≤s.length):ai Tryz.prog 107 [.str s,.int .i64 i,.bool first] [] (.bZ [encS (gY s i first).1,.int .i64 (gY s i first).2]) []:=by
 refine Bo.acK (T:=aR Tryz.prog [(119,jW),(120,fH),(121,mK),(122,nV)]) 0 hD (aj (af RZ (af Jc (af OX (af R7 ah))))) aZ (by decide) (by decide) fun Q hQ=>?_
 have zi:(0≤(i:Int))=True:=eq_true (by omega)
 by_cases hd:s[i]?=some 46
 · have h:=(List.getElem?_eq_some_iff.1 hd).1
   have hlt:((i:Int)<(s.length:Int))=True:=eq_true (by omega)
   have h46:(((46:UInt8).toNat:Int)=46)=True:=eq_true rfl
   have LW:((i:Int)+1).toNat=i+1:=by omega
   simp(maxSteps:=400000)only[↓av,ax,BEq.rfl,reduceIte,reduceCtorEq,Nat.reduceLT,reduceAdd,reduceSub,reduceMul,Nat.reduceBEq,reduceLeDiff,reduceToNat,reduceLE,hQ,fV,mM,mO,mP,zi,hlt,hd,h46]
   refine ⟨⟨by omega,by omega⟩,?_⟩
   refine aH (fun m S=>∃ k:Nat,m=s.length-k∧i+1≤k∧k≤s.length∧oo s (i+1) (s.length-(i+1)) (i+1)=oo s (i+1) (s.length-k) k∧S=⟨dH 129 [(0,.str s),(1,.int .i64 ((i:Int)+1)),(2,.bool first),(6,.bJ 0 1 0 0),(8,.int .i64 i),(9,.int .i64 k)],[⟨61,3,[encS ⟨false,[],0⟩],true,1⟩]⟩) (s.length-(i+1)) ⟨i+1,rfl,by omega,by omega,rfl,?_⟩ ?_
   · simp only [bV,keepR,reduceAdd,ng,Nat.reduceBEq,List.map_nil]
     rfl
   rintro m S ⟨k,hm,h1,h2,hW,rfl⟩
   have zk:(0≤(k:Int))=True:=eq_true (by omega)
   have tk:((k:Int)+1).toNat=k+1:=by omega
   have wl:((s.take (k+1)).drop (i+1)).length≤1000000000:=by rw [List.length_drop,List.length_take];omega
   by_cases hw:k<s.length∧nu ((s.take (k+1)).drop (i+1))=true
   · have kl:((k:Int)<(s.length:Int))=True:=eq_true (by omega)
     have hwb:=hw.2
     have hW':oo s (i+1) (s.length-k) k=oo s (i+1) (s.length-(k+1)) (k+1):=by
      rw [show s.length-k=s.length-(k+1)+1 by omega,Y4 hw.1 hw.2]
     simp(maxSteps:=400000)only[↓av,ax,BEq.rfl,reduceIte,reduceCtorEq,Nat.reduceLT,reduceAdd,reduceSub,reduceMul,Nat.reduceBEq,reduceLeDiff,reduceToNat,reduceLE,hQ,mM,mO,mP,zk,kl,↓jW,LW,tk,hwb]
     exact ⟨⟨by omega,by omega⟩,by omega,by omega,by omega,wl,⟨by omega,by omega⟩,s.length-(k+1),by omega,k+1,rfl,by omega,by omega,by rw [hW,hW'],rfl⟩
   · have hE:oo s (i+1) (s.length-(i+1)) (i+1)=k:=by rw [hW];exact Wp (.inr hw)
     rcases lt_or_ge k s.length with hkl | hkl
     · have kl:((k:Int)<(s.length:Int))=True:=eq_true (by omega)
       have hwb:nu ((s.take (k+1)).drop (i+1))=false:=by
        cases x:nu ((s.take (k+1)).drop (i+1)) with
        | false=>rfl
        | true=>exact absurd ⟨hkl,x⟩ hw
       simp(maxSteps:=400000)only[↓av,ax,BEq.rfl,reduceIte,reduceCtorEq,Nat.reduceLT,reduceAdd,reduceSub,reduceMul,Nat.reduceBEq,reduceLeDiff,reduceToNat,reduceLE,hQ,mM,mO,mP,zk,↓jW,LW,tk,kl,hwb]
       repeat' (first | (omega) | exact wl | exact (O6 s i k first hs h hd h1 h2 hE _ rfl rfl rfl rfl rfl rfl _ rfl Q hQ) | intro _ | refine ⟨?_,?_⟩)
     · have kl:((k:Int)<(s.length:Int))=False:=eq_false (by omega)
       simp(maxSteps:=400000)only[↓av,ax,BEq.rfl,reduceIte,reduceCtorEq,Nat.reduceLT,reduceAdd,reduceSub,reduceMul,Nat.reduceBEq,reduceLeDiff,reduceToNat,reduceLE,hQ,mM,mO,mP,zk,↓jW,LW,tk,kl]
       repeat' (first | (omega) | exact (O6 s i k first hs h hd h1 h2 hE _ rfl rfl rfl rfl rfl rfl _ rfl Q hQ) | intro _ | refine ⟨?_,?_⟩)
 · have e0:gY s i first=if first then (⟨false,[],0⟩,i) else oW s i i:=by unfold gY;rw [if_neg hd]
   rcases lt_or_ge i s.length with h | h
   · have hlt:((i:Int)<(s.length:Int))=True:=eq_true (by omega)
     have hg:=List.getElem?_eq_getElem h
     generalize s[i]=c at hg
     have b46:(c.toNat:Int)=46↔c=46:=l_ (k:=46) (by omega)
     have h46:((c.toNat:Int)=46)=False:=eq_false fun x=>hd (by rw [hg,b46.1 x])
     cases first with
     | false=>
      simp(maxSteps:=400000)only[↓av,ax,BEq.rfl,reduceIte,reduceCtorEq,Nat.reduceLT,reduceAdd,reduceSub,reduceMul,Nat.reduceBEq,reduceLeDiff,reduceToNat,reduceLE,hQ,fV,mM,mO,mP,zi,hlt,hg,h46]
      repeat' (first | (omega) | exact (Dv s i i i rfl hs hi hi _ rfl rfl rfl rfl _ (by rw [e0];rfl) Q hQ) | intro _ | refine ⟨?_,?_⟩)
     | true=>
      have g:=Y5 e0
      simp(maxSteps:=400000)only[↓av,ax,BEq.rfl,reduceIte,reduceCtorEq,Nat.reduceLT,reduceAdd,reduceSub,reduceMul,Nat.reduceBEq,reduceLeDiff,reduceToNat,reduceLE,hQ,fV,mM,mO,mP,zi,hlt,hg,h46]
      repeat' (first | (omega) | exact g | intro _ | refine ⟨?_,?_⟩)
   · have hlt:((i:Int)<(s.length:Int))=False:=eq_false (by omega)
     cases first with
     | false=>
      simp(maxSteps:=400000)only[↓av,ax,BEq.rfl,reduceIte,reduceCtorEq,Nat.reduceLT,reduceAdd,reduceSub,reduceMul,Nat.reduceBEq,reduceLeDiff,reduceToNat,reduceLE,hQ,fV,mM,mO,mP,zi,hlt]
      repeat' (first | (omega) | exact (Dv s i i i rfl hs hi hi _ rfl rfl rfl rfl _ (by rw [e0];rfl) Q hQ) | intro _ | refine ⟨?_,?_⟩)
     | true=>
      have g:=Y5 e0
      simp(maxSteps:=400000)only[↓av,ax,BEq.rfl,reduceIte,reduceCtorEq,Nat.reduceLT,reduceAdd,reduceSub,reduceMul,Nat.reduceBEq,reduceLeDiff,reduceToNat,reduceLE,hQ,fV,mM,mO,mP,zi,hlt]
      repeat' (first | (omega) | exact g | intro _ | refine ⟨?_,?_⟩)
end Lp
namespace Lp
open Go Go.Proofs
open List (length_cons length_nil map_map map_nil)
open Nat (lt_or_ge reduceAdd reduceLeDiff reduceMul reduceSub)
open Int (reduceLE reduceToNat toNat_natCast)
def pE:dD:=fun args objs K=>match args with
 | [.str s,.int .i64 i,.bool b]=>(s.length≤1000000000)∧(0≤i)∧(i≤s.length)∧K (.bZ [encS (gY s i.toNat b).1,.int .i64 (gY s i.toNat b).2]) objs 0
 | _=>False
theorem Sc:aB Tryz.prog 107 (pE):=by
 intro args objs K h
 unfold pE at h
 split at h
 · rename_i s i b
   obtain ⟨h1,h2,h3,hk⟩:=h
   exact ⟨_,_,_,.pure _ rfl ((by have:=Wq s i.toNat b h1 (by omega);rwa [Int.toNat_of_nonneg h2] at this)),hk⟩
 · exact h.elim
theorem O7 (s:List UInt8) (a i:Nat) (ha:a≤s.length) (hi:i+1≤s.length∨s.length≤i):(oW s a i).2≤s.length:=by
 unfold oW
 split
 · exact ha
 · split
   · exact ha
   · rename_i h1 h2
     have h3:s[(dz s (i+1)).2]?=some 93:=Decidable.of_not_not fun h=>h2 (.inr h)
     exact (List.getElem?_eq_some_iff.1 h3).1
theorem Y9 (s:List UInt8) (i:Nat) (b:Bool) (hi:i≤s.length):(gY s i b).2≤s.length:=by
 unfold gY
 split
 · rename_i hd
   have h:=(List.getElem?_eq_some_iff.1 hd).1
   split
   · exact O5 s (i+1) (s.length-(i+1)) (i+1) (by omega)
   · split
     · rename_i hc
       have hu:=(za (s.drop (i+1))).1 hc.1
       rw [List.length_drop] at hu
       show i+1+(bE (s.drop (i+1))).2.1.toNat≤s.length
       omega
     · split
       · exact O7 s i (i+1) hi (by omega)
       · exact hi
 · split
   · exact hi
   · exact O7 s i i hi (by omega)
theorem Dw {s:List UInt8}{f i:Nat}{out:List Stp}(h:f=0∨(gY s i out.isEmpty).2=i):CP s f i out=(out,i):=by
 cases f with
 | zero=>rfl
 | succ f=>
  rcases h with h | h
  · omega
  · simp only [CP];rw [if_pos h]
theorem UC {s:List UInt8}{f i:Nat}{out:List Stp}(h:¬ (gY s i out.isEmpty).2=i):CP s (f+1) i out=CP s f (gY s i out.isEmpty).2 (out++[(gY s i out.isEmpty).1]):=by
 simp only [CP];rw [if_neg h]
def O8 (l:List Stp) (ver:Nat):Obj:=⟨61,3,l.map encS,true,ver⟩
theorem BD (v:List Stp) (ver:Nat) (t:TypeId) (rest:List Obj):eZ 1 0 (⟨t,3,v.map encS,true,ver⟩::rest) (.bG 0 ver)=gG v:=by
 have:(v.map encS).map (PV.bI (iU 0 0 (⟨t,3,v.map encS,true,ver⟩::rest)))=v.map encS:=by
  rw [map_map];exact List.map_congr_left fun x _=>rfl
 simp only [eZ,Nat.not_lt_zero,if_false,iU,List.getElem?_cons_zero,Nat.le_refl,decide_true,Bool.true_and,beq_self_eq_true,if_true,this]
 rfl
theorem zSl:(PV.vO (.agg ⟨[.bool false,.string ⟨⟨[]⟩⟩,.int .i64 0]⟩)).cells.length=3:=rfl
theorem zSs:(PV.vO (.agg ⟨[.bool false,.string ⟨⟨[]⟩⟩,.int .i64 0]⟩)).cells.all PV.storable=true:=rfl
theorem ad9 (a:Stp):PV.agg [.bool a.part,.str a.name,.int .i64 a.n]=encS a:=rfl
theorem abX (a:Stp):encS ⟨a.part,a.name,a.n⟩=encS a:=rfl
theorem Y_:∀ d X v,eZ d 1 X (.bG 0 v)=.bG 0 v:=fun _ _ _=>rfl
theorem ad_ (X:List Obj) (l:List Stp) (a:Stp) (v:Nat):fB 1 1 X ⟨61,3,l.map encS++[encS a],true,v⟩=⟨61,3,l.map encS++[encS a],true,v⟩:=by
 unfold fB
 simp only [List.map_append,map_map,List.map_cons,map_nil]
 rfl
theorem O9 (s:List UInt8) (hs:s.length≤1000000000):ai Tryz.prog 96 [.str s,.int .i64 0] [] (.bZ [gG (eT s).1,.int .i64 (eT s).2]) []:=by
 refine yK.Dj (T:=aR Tryz.prog [(107,pE)]) 1 hD (aj (af Sc ah)) aZ (by decide) (by decide) fun Q hQ=>?_
 (conv=>arg 4;cbv);simp(maxSteps:=400000)only[↓av,ax,BEq.rfl,reduceIte,reduceCtorEq,Nat.reduceLT,reduceAdd,reduceSub,reduceMul,Nat.reduceBEq,reduceLeDiff,reduceToNat,reduceLE,hQ,mM,mO,mP,zSl,zSs]
 refine aH (fun m S=>∃ (i ver:Nat) (out:List Stp),m+out.length=20∧i≤s.length∧CP s 20 0 []=CP s m i out∧S=⟨dH 52 [(0,.str s),(1,.int .i64 i),(6,.bG 0 ver),(7,.int .i64 0)],[O8 out ver]⟩) 20 (hz:=Nat.zero_le _) ⟨0,1,[],rfl,by omega,rfl,?_⟩ ?_
 · simp only [bV,keepR,reduceAdd,ng,Nat.reduceBEq,map_nil]
   rfl
 rintro m S ⟨i,ver,out,hm,hi,hB,rfl⟩
 rcases Nat.eq_zero_or_pos m with h0 | h0
 · subst h0
   have hlt:((out.length:Int)<20)=False:=eq_false (by omega)
   have b0:decide ((out.length:Int)=0)=false:=decide_eq_false (by omega)
   have hb:eT s=(out,i):=by
    unfold eT;rw [hB,Dw (.inl rfl)]
    rw [if_neg];rintro ⟨h,_⟩;simp only at h;rw [h] at hm;simp at hm
   unfold O8
   simp(maxSteps:=400000)only[↓av,ax,BEq.rfl,reduceIte,reduceCtorEq,Nat.reduceLT,reduceAdd,reduceSub,reduceMul,Nat.reduceBEq,reduceLeDiff,reduceToNat,reduceLE,hQ,hlt,b0,hb,BD]
 · obtain ⟨m,rfl⟩:∃ k,m=k+1:=⟨m-1,by omega⟩
   have hlt:((out.length:Int)<20)=True:=eq_true (by omega)
   have hle:=Y9 s i out.isEmpty hi
   have z0:Int.toNat 0=0:=rfl
   cases hE:out.isEmpty with
   | true=>
    have ho:out=[]:=List.isEmpty_iff.1 hE
    have b0:decide ((out.length:Int)=0)=true:=decide_eq_true (by rw [ho];rfl)
    have b1:((out.length:Int)=0)=True:=eq_true (by rw [ho];rfl)
    rw [hE] at hle
    by_cases hst:(gY s i true).2=i
    · have hst':(((gY s i true).2:Int)=(i:Int))=True:=eq_true (by omega)
      have hF:CP s 20 0 []=([],i):=by rw [hB,Dw (.inr (by rw [hE];exact hst)),ho]
      rcases lt_or_ge 0 s.length with hp | hp
      · have pl:((0:Int)<(s.length:Int))=True:=eq_true (by omega)
        have pg:=List.getElem?_eq_getElem hp
        generalize s[0]=d at pg
        have b46:(d.toNat:Int)=46↔d=46:=l_ (k:=46) (by omega)
        by_cases hd:(d.toNat:Int)=46
        · have hb:eT s=(out,1):=by rw [ho];unfold eT;rw [hF,if_pos ⟨rfl,by rw [pg,b46.1 hd]⟩]
          unfold O8
          simp(maxSteps:=400000)only[↓av,ax,BEq.rfl,reduceIte,reduceCtorEq,Nat.reduceLT,reduceAdd,reduceSub,reduceMul,Nat.reduceBEq,reduceLeDiff,reduceToNat,reduceLE,hQ,hlt,b0,b1,↓pE,toNat_natCast,gZ,mM,mO,mP,zSl,zSs,hst',pl,z0,pg,hd,hb,BD]
          repeat' (first | (omega) | exact rfl | intro _ | refine ⟨?_,?_⟩)
        · have hb:eT s=(out,i):=by rw [ho];unfold eT;rw [hF,if_neg];rintro ⟨_,h⟩;rw [pg] at h;exact hd (b46.2 (Option.some.inj h))
          have hd':=eq_false hd
          unfold O8
          simp(maxSteps:=400000)only[↓av,ax,BEq.rfl,reduceIte,reduceCtorEq,Nat.reduceLT,reduceAdd,reduceSub,reduceMul,Nat.reduceBEq,reduceLeDiff,reduceToNat,reduceLE,hQ,hlt,b0,b1,↓pE,toNat_natCast,gZ,mM,mO,mP,zSl,zSs,hst',pl,z0,pg,hd',hb,BD]
          repeat' (first | (omega) | exact rfl | intro _ | refine ⟨?_,?_⟩)
      · have pl:((0:Int)<(s.length:Int))=False:=eq_false (by omega)
        have hb:eT s=(out,i):=by rw [ho];unfold eT;rw [hF,if_neg];rintro ⟨_,h⟩;rw [List.getElem?_eq_none_iff.2 hp] at h;cases h
        unfold O8
        simp(maxSteps:=400000)only[↓av,ax,BEq.rfl,reduceIte,reduceCtorEq,Nat.reduceLT,reduceAdd,reduceSub,reduceMul,Nat.reduceBEq,reduceLeDiff,reduceToNat,reduceLE,hQ,hlt,b0,b1,↓pE,toNat_natCast,gZ,mM,mO,mP,zSl,zSs,hst',pl,hb,BD]
        repeat' (first | (omega) | exact rfl | intro _ | refine ⟨?_,?_⟩)
    · have hst':(((gY s i true).2:Int)=(i:Int))=False:=eq_false (by omega)
      have hg:=UC (s:=s) (f:=m) (i:=i) (out:=out) (by rw [hE];exact hst)
      rw [hE] at hg
      unfold O8
      simp(maxSteps:=400000)only[↓av,ax,BEq.rfl,reduceIte,reduceCtorEq,Nat.reduceLT,reduceAdd,reduceSub,reduceMul,Nat.reduceBEq,reduceLeDiff,reduceToNat,reduceLE,hQ,hlt,b0,↓pE,toNat_natCast,gZ,mM,mO,mP,zSl,zSs,hst',ad9,abX,Y_,List.take_succ_cons,List.take_zero,ad_]
      repeat' (first | (omega) | exact ⟨m,by omega,(gY s i true).2,ver+1,out++[(gY s i true).1],by rw [List.length_append];simp only [length_cons,length_nil];omega,hle,hB.trans hg,by simp⟩ | intro _ | refine ⟨?_,?_⟩)
   | false=>
    have hon:out≠[]:=fun e=>by rw [e] at hE;cases hE
    have hol:0<out.length:=List.length_pos_iff.2 hon
    have b0:decide ((out.length:Int)=0)=false:=decide_eq_false (by omega)
    rw [hE] at hle
    by_cases hst:(gY s i false).2=i
    · have hst':(((gY s i false).2:Int)=(i:Int))=True:=eq_true (by omega)
      have hb:eT s=(out,i):=by
       unfold eT;rw [hB,Dw (.inr (by rw [hE];exact hst)),if_neg];rintro ⟨h,_⟩;exact hon h
      unfold O8
      simp(maxSteps:=400000)only[↓av,ax,BEq.rfl,reduceIte,reduceCtorEq,Nat.reduceLT,reduceAdd,reduceSub,reduceMul,Nat.reduceBEq,reduceLeDiff,reduceToNat,reduceLE,hQ,hlt,b0,↓pE,toNat_natCast,gZ,mM,mO,mP,zSl,zSs,hst',hb,BD]
      repeat' (first | (omega) | exact rfl | intro _ | refine ⟨?_,?_⟩)
    · have hst':(((gY s i false).2:Int)=(i:Int))=False:=eq_false (by omega)
      have hg:=UC (s:=s) (f:=m) (i:=i) (out:=out) (by rw [hE];exact hst)
      rw [hE] at hg
      unfold O8
      simp(maxSteps:=400000)only[↓av,ax,BEq.rfl,reduceIte,reduceCtorEq,Nat.reduceLT,reduceAdd,reduceSub,reduceMul,Nat.reduceBEq,reduceLeDiff,reduceToNat,reduceLE,hQ,hlt,b0,↓pE,toNat_natCast,gZ,mM,mO,mP,zSl,zSs,hst',ad9,abX,Y_,List.take_succ_cons,List.take_zero,ad_]
      repeat' (first | (omega) | exact ⟨m,by omega,(gY s i false).2,ver+1,out++[(gY s i false).1],by rw [List.length_append];simp only [length_cons,length_nil];omega,hle,hB.trans hg,by simp⟩ | intro _ | refine ⟨?_,?_⟩)
def nP:dD:=fun args objs K=>match args with
 | [.str s,a1]=>a1=(.int .i64 0)∧(s.length≤1000000000)∧K (.bZ [gG (eT s).1,.int .i64 (eT s).2]) objs 0
 | _=>False
theorem LX:aB Tryz.prog 96 (nP):=by
 intro args objs K h
 unfold nP at h
 split at h
 · rename_i s a1
   obtain ⟨rfl,h1,hk⟩:=h
   exact ⟨_,_,_,.pure _ rfl (O9 s h1),hk⟩
 · exact h.elim
def zb (s:List UInt8):PV:=if (jg s).2.2=0 then .bZ [gG (jg s).1,.int .i64 (jg s).2.1,.int .i64 (jg s).2.2] else .bZ [.sl 0 [] (some true),.int .i64 (jg s).2.1,.int .i64 (jg s).2.2]
theorem Sd (s:List UInt8) (hs:s.length≤1000000000):ai Tryz.prog 66 [.str s] [] (zb s) []:=by
 refine Bp.YV (T:=aR Tryz.prog [(96,nP)]) 0 hD (aj (af LX ah)) aZ (by decide) (by decide) (by decide) fun Q hQ=>?_
 by_cases h46:s=[46]
 · have hr:zb s=.bZ [gG (eT s).1,.int .i64 0,.int .i64 0]:=by simp only [zb,jg,if_pos h46,if_true]
   have Za:=eq_true h46
   (conv=>arg 4;cbv);simp(maxSteps:=400000)only[↓av,ax,BEq.rfl,reduceIte,reduceCtorEq,Nat.reduceLT,reduceAdd,reduceSub,reduceMul,Nat.reduceBEq,reduceLeDiff,reduceToNat,reduceLE,hQ,↓nP,gZ,Za,hr]
   repeat' (first | (omega) | exact rfl | intro _ | refine ⟨?_,?_⟩)
 have Za:=eq_false h46
 cases hB:eT s with
 | mk p n=>
 by_cases hp:p=[]
 · have hr:zb s=.bZ [.sl 0 [] (some true),.int .i64 0,.int .i64 1]:=by simp [zb,jg,h46,hB,hp]
   subst hp
   have b0:((([]:List Stp).length:Int)=0)=True:=eq_true rfl
   (conv=>arg 4;cbv);simp(maxSteps:=400000)only[↓av,ax,BEq.rfl,reduceIte,reduceCtorEq,Nat.reduceLT,reduceAdd,reduceSub,reduceMul,Nat.reduceBEq,reduceLeDiff,reduceToNat,reduceLE,hQ,↓nP,gZ,Za,hB,b0,hr]
   repeat' (first | (omega) | exact rfl | intro _ | refine ⟨?_,?_⟩)
 · have hpl:0<p.length:=List.length_pos_iff.2 hp
   have b0:((p.length:Int)=0)=False:=eq_false (by omega)
   rcases lt_or_ge n s.length with hn | hn
   · have hn':((n:Int)<(s.length:Int))=True:=eq_true (by omega)
     have hr:zb s=.bZ [.sl 0 [] (some true),.int .i64 n,.int .i64 1]:=by simp [zb,jg,h46,hB,hp,hn]
     (conv=>arg 4;cbv);simp(maxSteps:=400000)only[↓av,ax,BEq.rfl,reduceIte,reduceCtorEq,Nat.reduceLT,reduceAdd,reduceSub,reduceMul,Nat.reduceBEq,reduceLeDiff,reduceToNat,reduceLE,hQ,↓nP,gZ,Za,hB,b0,hn',hr]
     repeat' (first | (omega) | exact rfl | intro _ | refine ⟨?_,?_⟩)
   · have hn':((n:Int)<(s.length:Int))=False:=eq_false (by omega)
     have hr:zb s=.bZ [gG p,.int .i64 0,.int .i64 0]:=by simp [zb,jg,h46,hB,hp,Nat.not_lt.2 hn]
     (conv=>arg 4;cbv);simp(maxSteps:=400000)only[↓av,ax,BEq.rfl,reduceIte,reduceCtorEq,Nat.reduceLT,reduceAdd,reduceSub,reduceMul,Nat.reduceBEq,reduceLeDiff,reduceToNat,reduceLE,hQ,↓nP,gZ,Za,hB,b0,hn',hr]
     repeat' (first | (omega) | exact rfl | intro _ | refine ⟨?_,?_⟩)
theorem acR {a b c a':PV}(h:nC a a'):nC (.bZ [a,b,c]) (.bZ [a',b,c]):=
 .bZ rfl fun i p q hp hq=>by
  match i with
  | 0=>cases hp;cases hq;exact h
  | 1=>cases hp;cases hq;exact .refl _
  | 2=>cases hp;cases hq;exact .refl _
  | _+3=>simp at hp
theorem Ws {s:List UInt8}(h:¬ (jg s).2.2=0):(jg s).1=[]:=by
 unfold jg at h ⊢
 split
 · rename_i h1;rw [if_pos h1] at h;exact absurd rfl h
 · rename_i h1
   rw [if_neg h1] at h
   split
   · rfl
   · rename_i h2
     rw [if_neg h2] at h
     split
     · rfl
     · rename_i h3;rw [if_neg h3] at h;exact absurd rfl h
theorem Wt (s:List UInt8) (hs:s.length≤1000000000):ai Tryz.prog 66 [.str s] [] (.bZ [gG (jg s).1,.int .i64 (jg s).2.1,.int .i64 (jg s).2.2]) []:=by
 refine (Sd s hs).res ?_
 unfold zb
 split
 · exact .refl _
 · rename_i h;rw [Ws h];exact acR (sO 0 3)
def BF:dD:=fun args objs K=>match args with
 | [.str s]=>(s.length≤1000000000)∧K (.bZ [gG (jg s).1,.int .i64 (jg s).2.1,.int .i64 (jg s).2.2]) objs 0
 | _=>False
theorem Sg:aB Tryz.prog 66 (BF):=by
 intro args objs K h
 unfold BF at h
 split at h
 · rename_i s
   obtain ⟨h1,hk⟩:=h
   exact ⟨_,_,_,.pure _ rfl (Wt s h1),hk⟩
 · exact h.elim
theorem O_ (s:List UInt8):∀ (f i:Nat) (out:List Stp),(CP s f i out).1.length≤out.length+f
 | 0,_,_=>Nat.le_refl _
 | f+1,i,out=>by
  simp only [CP]
  split
  · show out.length≤_;omega
  · have:=O_ s f (gY s i out.isEmpty).2 (out++[(gY s i out.isEmpty).1])
    rw [List.length_append] at this
    simp only [length_cons,length_nil] at this
    omega
theorem Ko (s:List UInt8):(eD s).length≤20:=by
 have hb:(eT s).1.length≤20:=by
  unfold eT
  split
  · simp
  · have:=O_ s 20 0 [];simpa using this
 unfold eD jg
 split
 · exact hb
 · split
   · simp
   · split
     · simp
     · exact hb
theorem Pb (p:List Stp) (hp:p.length≤1000000):ai Tryz.prog 67 [gG p] [] (.bool (p.all fun x=>!x.part)) []:=by
 refine yL.bf (T:=aR Tryz.prog []) 0 hD (aj ah) aZ (by decide) fun Q hQ=>?_
 (conv=>arg 4;cbv);simp(maxSteps:=400000)only[↓av,ax,BEq.rfl,reduceIte,reduceCtorEq,Nat.reduceLT,reduceAdd,reduceSub,reduceMul,Nat.reduceBEq,reduceLeDiff,reduceToNat,reduceLE,hQ]
 refine aH (fun m S=>∃ i:Nat,i+m=p.length∧(∀ (j:Nat) x,j<i→p[j]?=some x→x.part=false)∧S=⟨dH 15 [(0,gG p),(3,.int .i64 i)],[]⟩) p.length ⟨0,by omega,fun j x h=>absurd h (Nat.not_lt_zero j),?_⟩ ?_
 · simp only [bV,keepR,reduceAdd,ng,Nat.reduceBEq,map_nil]
   rfl
 rintro m S ⟨i,him,hb,rfl⟩
 have zi:(0≤(i:Int))=True:=eq_true (by omega)
 rcases lt_or_ge i p.length with h | h
 · have hlt:((i:Int)<(p.length:Int))=True:=eq_true (by omega)
   have hgi:=List.getElem?_eq_getElem h
   generalize p[i]=x at hgi
   cases hx:x.part with
   | true=>
    have hr:(p.all fun x=>!x.part)=false:=by rw [List.all_eq_false];exact ⟨x,List.mem_of_getElem? hgi,by simp [hx]⟩
    simp(maxSteps:=400000)only[↓av,ax,BEq.rfl,reduceIte,reduceCtorEq,Nat.reduceLT,reduceAdd,reduceSub,reduceMul,Nat.reduceBEq,reduceLeDiff,reduceToNat,reduceLE,hQ,hlt,zi,hgi,hx,hr]
   | false=>
    simp(maxSteps:=400000)only[↓av,ax,BEq.rfl,reduceIte,reduceCtorEq,Nat.reduceLT,reduceAdd,reduceSub,reduceMul,Nat.reduceBEq,reduceLeDiff,reduceToNat,reduceLE,hQ,hlt,zi,hgi,hx]
    refine ⟨⟨by omega,by omega⟩,m-1,by omega,i+1,by omega,fun j y hj hy=>?_,rfl⟩
    rcases lt_or_ge j i with g | g
    · exact hb j y g hy
    · have:j=i:=by omega
      subst this
      rw [hgi] at hy;cases hy;exact hx
 · have hlt:((i:Int)<(p.length:Int))=False:=eq_false (by omega)
   have hr:(p.all fun x=>!x.part)=true:=by
    rw [List.all_eq_true];intro x hx
    obtain ⟨j,hj⟩:=List.mem_iff_getElem?.1 hx
    have:=(List.getElem?_eq_some_iff.1 hj).1
    rw [hb j x (by omega) hj];rfl
   simp(maxSteps:=400000)only[↓av,ax,BEq.rfl,reduceIte,reduceCtorEq,Nat.reduceLT,reduceAdd,reduceSub,reduceMul,Nat.reduceBEq,reduceLeDiff,reduceToNat,reduceLE,hQ,hlt,hr]
def sZ:dD:=fun args objs K=>match args with
 | [a0]=>fE gG a0 (HK.mk:HK fun p=>(p.length≤1000000)∧K (.bool (p.all fun x=>!x.part)) objs 0)
 | _=>False
theorem LY:aB Tryz.prog 67 (sZ):=by
 intro args objs K h
 unfold sZ at h
 split at h
 · rename_i a0
   obtain ⟨p,rfl,h1,hk⟩:=h
   exact ⟨_,_,_,.pure _ rfl (Pb p h1),hk⟩
 · exact h.elim
theorem Wu (s:List UInt8) (hs:s.length≤1000000000):ai Tryz.prog 34 [.str s] [] (.bZ [gG (eD s),.bool (bA s)]) []:=by
 refine Bq.Dj (T:=aR Tryz.prog [(66,BF),(67,sZ)]) 0 hD (aj (af Sg (af LY ah))) aZ (by decide) (by decide) fun Q hQ=>?_
 have hl:=Ko s
 unfold eD at hl
 by_cases he:(jg s).2.2=0
 · have he':=eq_true he
   have d1:decide ((jg s).2.2=0)=true:=decide_eq_true he
   have hr:bA s=(jg s).1.all fun x=>!x.part:=by unfold bA;rw [d1];rfl
   (conv=>arg 4;cbv);simp(maxSteps:=400000)only[↓av,ax,BEq.rfl,reduceIte,reduceCtorEq,Nat.reduceLT,reduceAdd,reduceSub,reduceMul,Nat.reduceBEq,reduceLeDiff,reduceToNat,reduceLE,hQ,↓BF,↓sZ,gZ,he',eD,hr]
   repeat' (first | (omega) | exact rfl | intro _ | refine ⟨?_,?_⟩)
 · have he':=eq_false he
   have d1:decide ((jg s).2.2=0)=false:=decide_eq_false he
   have hr:bA s=false:=by unfold bA;rw [d1];rfl
   (conv=>arg 4;cbv);simp(maxSteps:=400000)only[↓av,ax,BEq.rfl,reduceIte,reduceCtorEq,Nat.reduceLT,reduceAdd,reduceSub,reduceMul,Nat.reduceBEq,reduceLeDiff,reduceToNat,reduceLE,hQ,↓BF,↓sZ,gZ,he',eD,hr]
   repeat' (first | (omega) | exact rfl | intro _ | refine ⟨?_,?_⟩)
def fZ:dD:=fun args objs K=>match args with
 | [.str s]=>(s.length≤1000000000)∧K (.bZ [gG (eD s),.bool (bA s)]) objs 0
 | _=>False
theorem BG:aB Tryz.prog 34 (fZ):=by
 intro args objs K h
 unfold fZ at h
 split at h
 · rename_i s
   obtain ⟨h1,hk⟩:=h
   exact ⟨_,_,_,.pure _ rfl (Wu s h1),hk⟩
 · exact h.elim
end Lp
namespace Lp
open Go Go.Proofs
open Nat (reduceAdd reduceLeDiff reduceMul reduceSub)
open Int (reduceLE reduceToNat)
def ze (n:Nd) (p:Int):Int:=
 let i:Int:=n.s.length-1-(p-n.e)
 if i<0 then 0 else match n.s[i.toNat]? with
  | some c=>(c.toNat:Int)-48
  | none=>0
def mQ (a b:Nd):Nat→Int→Int
 | 0,_=>0
 | k+1,p=>if ze a p<ze b p then -1 else if ze b p<ze a p then 1 else mQ a b k (p-1)
def kP (a b:Nd):Int:=if (b.s.length+b.e:Int) > a.s.length+a.e then (b.s.length+b.e:Int) else a.s.length+a.e
def jZ (a b:Nd):Int:=if b.e<a.e then b.e else a.e
def kZ (a b:Nd):Int:=
 let side:Int:=if a.neg then -1 else 1
 if a.neg≠b.neg then side else side*mQ a b (kP a b-jZ a b+1).toNat (kP a b)
structure BH (n:Nd):Prop where
 len:n.s.length≤200
 fU:fU n.s=true
 lo:-1000≤n.e
 hi:n.e≤1000
theorem qp {s:List UInt8}(h:fU s=true){i:Nat}{c:UInt8}(hc:s[i]?=some c):48≤c.toNat∧c.toNat≤57:=by
 simp only [fU,List.all_eq_true,Bool.and_eq_true,decide_eq_true_eq] at h
 have:=h c (List.mem_of_getElem? hc)
 exact ⟨UInt8.le_iff_toNat_le.1 this.1,UInt8.le_iff_toNat_le.1 this.2⟩
theorem aaQ (n:Nd) (p:Int) (hn:BH n) (hp:-2000≤p∧p≤2000):ai Tryz.prog 100 [aA n,.int .i64 p] [] (.int .i64 (ze n p)) []:=by
 obtain ⟨h1,h2,h3,h4⟩:=hn
 refine EI.pure (T:=aR Tryz.prog []) 0 hD (aj ah) aZ (by decide) ?_
 (conv=>arg 4;cbv);simp(maxSteps:=400000)only[↓aT,aU,BEq.rfl,reduceIte,reduceCtorEq,Nat.reduceLT,reduceAdd,reduceSub,reduceMul,Nat.reduceBEq,reduceLeDiff,reduceToNat,reduceLE]
 refine aO _ (Weak.freeze 1 0 (Nat.le_refl _) _) ?_
 simp(maxSteps:=400000)only[↓aT,aU,BEq.rfl,reduceIte,reduceCtorEq,Nat.reduceLT,reduceAdd,reduceSub,reduceMul,Nat.reduceBEq,reduceLeDiff,reduceToNat,reduceLE,jw]
 refine ⟨⟨by omega,by omega⟩,⟨by omega,by omega⟩,⟨by omega,by omega⟩,fun h=>?_,fun h=>⟨fun h'=>?_,fun h'=>⟨by omega,?_⟩⟩⟩
 · simp only [ze,if_pos h]
 · have:n.s[(↑n.s.length-1-(p-n.e)).toNat]?=none:=List.getElem?_eq_none (by omega)
   simp only [ze,if_neg h,this]
 · have hi:(↑n.s.length-1-(p-n.e)).toNat<n.s.length:=by omega
   have hg:=List.getElem?_eq_getElem hi
   have hf:=qp h2 hg
   generalize hc:n.s[(↑n.s.length-1-(p-n.e)).toNat]=c at *
   simp(maxSteps:=400000)only[↓aT,aU,BEq.rfl,reduceIte,reduceCtorEq,Nat.reduceLT,reduceAdd,reduceSub,reduceMul,Nat.reduceBEq,reduceLeDiff,reduceToNat,reduceLE,hg,j6,ny,IntKind.wrap]
   refine ⟨⟨by omega,by omega⟩,?_⟩
   simp only [ze,if_neg h,hg]
   have hm:((c.toNat:Int)-48) % 2 ^ IntKind.i64.bits=(c.toNat:Int)-48:=Int.emod_eq_of_lt (by omega) (by have:(2:Int) ^ IntKind.i64.bits=18446744073709551616:=rfl;omega)
   rw [hm,if_neg]
   have h2:(2:Int) ^ (IntKind.i64.bits-1)=9223372036854775808:=rfl
   have h3:IntKind.i64.signed=true:=rfl
   rw [h2,h3]
   simp
   omega
def UD:dD:=fun args objs K=>match args with
 | [a0,.int .i64 p]=>fE aA a0 (HK.mk:HK fun n=>(BH n)∧(-2000≤p∧p≤2000)∧K (.int .i64 (ze n p)) objs 0)
 | _=>False
theorem Zb:aB Tryz.prog 100 (UD):=by
 intro args objs K h
 unfold UD at h
 split at h
 · rename_i a0 p
   obtain ⟨n,rfl,h1,h2,hk⟩:=h
   exact ⟨_,_,_,.pure _ rfl (aaQ n p h1 h2),hk⟩
 · exact h.elim
theorem Pf (a b:Nd) (ha:BH a) (hb:BH b):ai Tryz.prog 79 [aA a,aA b] [] (.int .i64 (kZ a b)) []:=by
 refine Dg.pure (T:=aR Tryz.prog [(100,UD)]) 0 hD (aj (af Zb ah)) aZ (by decide) ?_
 (conv=>arg 4;cbv);simp(maxSteps:=400000)only[↓aT,aU,BEq.rfl,reduceIte,reduceCtorEq,Nat.reduceLT,reduceAdd,reduceSub,reduceMul,Nat.reduceBEq,reduceLeDiff,reduceToNat,reduceLE]
 refine aO _ (Weak.freeze 1 0 (Nat.le_refl _) _) ?_
 cases hx:a.neg <;> cases hy:b.neg
 all_goals simp(maxSteps:=400000)only[↓aT,aU,BEq.rfl,reduceIte,reduceCtorEq,Nat.reduceLT,reduceAdd,reduceSub,reduceMul,Nat.reduceBEq,reduceLeDiff,reduceToNat,reduceLE,YL,YM,hx,hy]
 case false.true=>simp [kZ,hx,hy]
 case true.false=>simp [kZ,hx,hy]
 all_goals
  have b1:-2000≤kP a b∧kP a b≤2000:=by obtain ⟨a1,a2,a3,a4⟩:=ha;obtain ⟨b1,b2,b3,b4⟩:=hb;unfold kP;split <;> omega
  have b2:-1000≤jZ a b∧jZ a b≤1000:=by obtain ⟨a1,a2,a3,a4⟩:=ha;obtain ⟨b1,b2,b3,b4⟩:=hb;unfold jZ;split <;> omega
  have l1:=ha.len
  have l2:=hb.len
  have e1:=ha.lo
  have e2:=ha.hi
  have e3:=hb.lo
  have e4:=hb.hi
  refine ⟨⟨by omega,by omega⟩,⟨by omega,by omega⟩,?_⟩
  refine aH (fun m S=>∃ p:Int,(m:Int)=(if 0≤p-jZ a b+1 then p-jZ a b+1 else 0)∧p≤kP a b∧-2000≤p∧
   (mQ a b (kP a b-jZ a b+1).toNat (kP a b)=mQ a b (p-jZ a b+1).toNat p)∧
   S=⟨dH 56 [(2,.addr (aA a)),(3,.addr (aA b)),(5,.int .i64 (if a.neg=true then -1 else 1)),(7,.int .i64 p)],[]⟩) (kP a b-jZ a b+1).toNat ⟨kP a b,?_,Int.le_refl _,by omega,rfl,?_⟩ ?_
  · split <;> omega
  · simp only [bV,keepR,reduceAdd,ng,Nat.reduceBEq,hx,if_true,if_false,kP,Bool.false_eq_true]
  rintro m S ⟨p,hm,hp1,hp2,hd,rfl⟩
  simp(maxSteps:=400000)only[↓aT,aU,BEq.rfl,reduceIte,reduceCtorEq,Nat.reduceLT,reduceAdd,reduceSub,reduceMul,Nat.reduceBEq,reduceLeDiff,reduceToNat,reduceLE,↓UD]
  refine ⟨fun hlow=>⟨ha,⟨by omega,by omega⟩,hb,⟨by omega,by omega⟩,fun hlt=>?_,fun hlt=>⟨fun hgt=>?_,fun hgt=>?_⟩⟩,fun hlow=>?_⟩
  · have hl:jZ a b≤p:=hlow
    have e:(p-jZ a b+1).toNat=(p-jZ a b).toNat+1:=by omega
    rw [e] at hd
    simp only [mQ,if_pos hlt] at hd
    simp only [kZ,hd,hx,hy]
    simp
  · have hl:jZ a b≤p:=hlow
    have e:(p-jZ a b+1).toNat=(p-jZ a b).toNat+1:=by omega
    rw [e] at hd
    simp only [mQ,if_neg hlt,if_pos hgt] at hd
    simp only [kZ,hd,hx,hy]
    simp
  · have hl:jZ a b≤p:=hlow
    have e:(p-jZ a b+1).toNat=(p-1-jZ a b+1).toNat+1:=by omega
    rw [e] at hd
    simp only [mQ,if_neg hlt,if_neg hgt] at hd
    rw [if_pos (by omega)] at hm
    refine ⟨⟨by omega,by omega⟩,m-1,by omega,p-1,?_,by omega,by omega,hd,rfl⟩
    split <;> omega
  · have hl:¬ jZ a b≤p:=hlow
    have e:(p-jZ a b+1).toNat=0:=by omega
    rw [e] at hd
    simp only [mQ] at hd
    simp only [kZ,hd,hx,hy]
    simp
def xR:dD:=fun args objs K=>match args with
 | [a0,a1]=>fE aA a0 (HK.mk:HK fun a=>fE aA a1 (HK.mk:HK fun b=>(BH a)∧(BH b)∧K (.int .i64 (kZ a b)) objs 0))
 | _=>False
theorem LZ:aB Tryz.prog 79 (xR):=by
 intro args objs K h
 unfold xR at h
 split at h
 · rename_i a0 a1
   obtain ⟨a,rfl,b,rfl,h1,h2,hk⟩:=h
   exact ⟨_,_,_,.pure _ rfl (Pf a b h1 h2),hk⟩
 · exact h.elim
end Lp
namespace Lp
open Go Go.Proofs
theorem GZ (x:Int):ai Tryz.prog 171 [.int .i64 x] [] (.bool false) []:=by
 refine Dh.pure (T:=aR Tryz.prog []) 0 hD (aj ah) aZ (by decide) ?_
 (conv=>arg 4;cbv);simp only [↓zG,Eb,↓AZ,↓yD,↓A7,yE,↓mI,m_,jF,fC,Db,Nat.reduceAdd,Nat.reduceSub,qU,bL,Fq,Fs]
 simp
def L6:dD:=fun args objs K=>∃ x:Int,args=[.int .i64 x]∧K (.bool false) objs 0
theorem Si:aB Tryz.prog 171 L6:=by
 rintro args objs K ⟨x,rfl,hk⟩
 exact ⟨_,_,_,.pure _ rfl (GZ x),hk⟩
theorem Dx (x y:Int):ai Tryz.prog 145 [.int .i64 x,.int .i64 y] [] (.int .i64 (t_ x y)) []:=by
 refine zI.pure (T:=aR Tryz.prog [(171,L6)]) 0 hD (aj (af Si ah)) aZ (by decide) ?_
 (conv=>arg 4;cbv);simp only [↓zG,Eb,↓AZ,↓yD,↓A7,yE,↓mI,m_,jF,fC,Db,Nat.reduceAdd,Nat.reduceSub,qU,bL,caR,taR,L6,Nat.reduceBEq,BEq.rfl,cond_true,cond_false,qP,Fq,Fs]
 refine ⟨x,rfl,y,rfl,(fun h=>by cases h),fun _=>⟨(fun h=>by cases h),fun _=>⟨fun h=>?_,fun h=>⟨fun h'=>?_,fun h'=>?_⟩⟩⟩⟩
 · rw [t_,if_pos (of_decide_eq_true h)]
 · rw [t_,if_neg (of_decide_eq_false h),if_pos (of_decide_eq_true h')]
 · rw [t_,if_neg (of_decide_eq_false h),if_neg (of_decide_eq_false h')]
theorem G5 (x:List UInt8):ai Tryz.prog 173 [.str x] [] (.bool false) []:=by
 refine yG.pure (T:=aR Tryz.prog []) 0 hD (aj ah) aZ (by decide) ?_
 (conv=>arg 4;cbv);simp only [↓zG,Eb,↓AZ,↓yD,↓A7,yE,↓mI,m_,jF,fC,Db,Nat.reduceAdd,Nat.reduceSub,qU,bL,Fq,jh]
 simp
def L8:dD:=fun args objs K=>∃ x:List UInt8,args=[.str x]∧K (.bool false) objs 0
theorem Sj:aB Tryz.prog 173 L8:=by
 rintro args objs K ⟨x,rfl,hk⟩
 exact ⟨_,_,_,.pure _ rfl (G5 x),hk⟩
theorem tq (x y:List UInt8):ai Tryz.prog 147 [.str x,.str y] [] (.int .i64 (jJ x y)) []:=by
 refine vQ.pure (T:=aR Tryz.prog [(173,L8)]) 0 hD (aj (af Sj ah)) aZ (by decide) ?_
 (conv=>arg 4;cbv);simp only [↓zG,Eb,↓AZ,↓yD,↓A7,yE,↓mI,m_,jF,fC,Db,Nat.reduceAdd,Nat.reduceSub,qU,bL,caR,taR,L8,Nat.reduceBEq,BEq.rfl,cond_true,cond_false,qP,Fq,jh]
 refine ⟨x,rfl,y,rfl,(fun h=>by cases h),fun _=>⟨(fun h=>by cases h),fun _=>⟨fun h=>?_,fun h=>⟨fun h'=>?_,fun h'=>?_⟩⟩⟩⟩
 · rw [jJ,if_pos h]
 · rw [h,Bool.false_or] at h'
   have hne:x≠y:=by simpa using h'
   rw [jJ,if_neg (by rw [h];simp),if_neg hne]
 · rw [h,Bool.false_or] at h'
   have he:x=y:=by simpa using h'
   rw [jJ,if_neg (by rw [h];simp),if_pos he]
end Lp
namespace Lp
open Go Go.Proofs
def L9:dD:=fun args objs K=>∃ x y:List UInt8,args=[.str x,.str y]∧K (.int .i64 (jJ x y)) objs 0
theorem Sk:aB Tryz.prog 147 L9:=by
 rintro args objs K ⟨x,y,rfl,hk⟩
 exact ⟨_,_,_,.pure _ rfl (tq x y),hk⟩
theorem zZ (a b:List (List UInt8)) (ha:a.length≤9223372036854775807) (_hb:b.length≤9223372036854775807) :
  ai Tryz.prog 148 [kr a,kr b] [] (.int .i64 (eP jJ a b)) []:=by
 refine lY.pure (T:=aR Tryz.prog [(147,L9)]) 0 hD (aj (af Sk ah)) aZ (by decide) ?_
 (conv=>arg 4;cbv);simp only [↓zG,Eb,↓AZ,↓yD,↓A7,yE,↓mI,m_,jF,fC,Db,Nat.reduceAdd,Nat.reduceSub,qU,bL,dU,p_,kr,List.length_map,Fq,Fs]
 refine aH (fun m S=>∃ i:Nat,m=a.length-i∧i≤a.length∧i≤b.length∧eP jJ (a.drop i) (b.drop i)=eP jJ a b∧
  S=⟨mkT 36 [(0,kr a),(1,kr b),(9,kr a),(10,.int .i64 a.length),(11,.int .i64 i)],[]⟩) a.length ⟨0,rfl,Nat.zero_le _,Nat.zero_le _,rfl,?_⟩ ?_
 · simp only [QS,kr,qU];rfl
 rintro m S ⟨i,rfl,hi,hib,hlex,rfl⟩
 simp only [↓zG,Eb,↓AZ,↓yD,↓A7,yE,↓mI,m_,jF,fC,Db,Nat.reduceAdd,Nat.reduceSub,qU,QS,bL,caR,taR,L9,Nat.reduceBEq,BEq.rfl,cond_true,cond_false,dU,p_,kr,Fq,Fs,wH,List.length_map,a_,fw,↓y8,IU,Fu,ne_eq,reduceCtorEq,not_false_eq_true,true_and,PV.bool.injEq,Int.toNat_natCast,List.length_cons,List.length_nil]
 refine ⟨fun h=>?_,fun h=>?_⟩
 · have hlt:i<a.length:=by have:=of_decide_eq_true h;omega
   rw [List.drop_eq_getElem_cons hlt] at hlex
   refine ⟨by omega,a[i],List.getElem?_eq_getElem hlt,fun hge=>?_,fun hgl=>?_⟩
   · have hbe:b.length≤i:=by have:=of_decide_eq_true hge;omega
     rw [List.drop_eq_nil_of_le hbe] at hlex
     rw [← hlex];rfl
   · have hbl:i<b.length:=by have:=of_decide_eq_false hgl;omega
     rw [List.drop_eq_getElem_cons hbl] at hlex
     refine ⟨by omega,b[i],List.getElem?_eq_getElem hbl,a[i],b[i],rfl,fun hne=>?_,fun heq=>⟨by omega,a.length-(i+1),by omega,i+1,rfl,by omega,by omega,?_,rfl⟩⟩
     · have hne':jJ a[i] b[i]≠0:=by simpa using hne
       rw [← hlex,eP,if_neg hne']
     · have heq':jJ a[i] b[i]=0:=by simpa using heq
       rw [← hlex,eP,if_pos heq']
 · rw [if_pos trivial]
   have hge:a.length≤i:=by have:=of_decide_eq_false h;omega
   rw [List.drop_eq_nil_of_le hge] at hlex
   refine ⟨fun hl=>?_,fun hl=>?_⟩
   · have hl':i<b.length:=by have:=of_decide_eq_true hl;omega
     rw [List.drop_eq_getElem_cons hl'] at hlex
     rw [← hlex];rfl
   · have hl':b.length≤i:=by have:=of_decide_eq_false hl;omega
     rw [List.drop_eq_nil_of_le hl'] at hlex
     rw [← hlex];rfl
end Lp
