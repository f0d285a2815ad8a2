/-
  Part 3 of what the statement rests on: LpN, LpNb, LpO, LpP, LpT, LpQ, LpR, LpS, LpGen, LpI1, LpC1, LpC2, LpC4, LpC5, LpC6, LpY, LpU, LpZ, LpEq, LpU2. No condition.
-/
import Derived.Test.YtfgfjbcoeakonaaGreatDoorLp2
import Derived.RangeFuncRecord
import Derived.RangeFuncLeaves
import Derived.KernelRfl
import Derived.Test.YtfgfjbcoeakonaaGreatDoorProg
import Derived.Laws.StructEq

set_option linter.all false
set_option maxHeartbeats 8000000
set_option maxRecDepth 100000
namespace Lp
open Go
open Option (bind_some getD_some map_some)
variable {P:Program}{D:TypeId→aG}{l:Option Nat}
structure Hu where
 r:PV
 objs:List Obj
 t:Nat
 deriving Inhabited
def iM (ops:List Oper) (g:Option (Nat×Bool)) (tmps:List PV):Option Bool:=
 match g with
 | none=>some true
 | some (j,want)=>
  match (ops[j]?).bind (·.dst) with
  | none=>none
  | some d=>
   match tmps.getD d .dead with
   | .bool b=>some (b==want)
   | .bU []=>some false
   | _=>none
theorem Co {ops:List Oper}{g:Option (Nat×Bool)}{S:St}{X Y:St→Prop}(h:og ops g S X Y) :
  (iM ops g S.tmps=some true∧X S)∨(iM ops g S.tmps=some false∧Y S):=by
 unfold og at h
 unfold iM
 split at h
 · exact .inl ⟨rfl,h⟩
 · rename_i j want
   simp only []
   split at h
   · exact h.elim
   · rename_i d hd
     rw [hd]
     simp only []
     split at h
     · rename_i b hb
       rw [hb]
       by_cases hbw:b=want
       · left
         have:=h.1 hbw
         rw [z_ (by rw [hb,hbw]) (by simp)] at this
         exact ⟨by simp [hbw],this⟩
       · right
         have hbn:b=!want:=by cases b <;> cases want <;> simp_all
         have:=h.2 hbn
         rw [z_ (by rw [hb,hbn]) (by simp)] at this
         exact ⟨by simp [hbn],this⟩
     · rename_i hb
       rw [hb]
       exact .inr ⟨rfl,h⟩
     · exact h.elim
theorem Cq {ops:List Oper}{g:Option (Nat×Bool)}{S:St}{b:Bool}(h:iM ops g S.tmps=some b) :
  og ops g S (fun _=>b=true) (fun _=>b=false):=by
 unfold iM at h
 unfold og
 split at h
 · simpa using h.symm
 · rename_i j want
   simp only []
   split at h
   · cases h
   · rename_i d hd
     rw [hd]
     simp only []
     split at h
     · rename_i b0 hb
       rw [hb]
       simp only [Option.some.injEq] at h
       subst h
       exact ⟨fun e=>by simp [e],fun e=>by simp [e]⟩
     · rename_i hb
       rw [hb]
       simpa using h.symm
     · cases h
theorem oD {ops:List Oper}{base ak:Nat→Prop}{w0:Wz}{S:St}{blk:Nat→Option Nat}{a:Act}{w:World}{b:Bool}{o:Oper}
  (R:Rel base ak w0 S blk a w) (h:iM ops o.guard S.tmps=some b):Region.wanted o (yielded ops.toArray a.tmps)=b:=by
 rcases vz R (Cq h) o rfl with ⟨h1,h2⟩ | ⟨h1,h2⟩ <;> rw [h1,h2]
def qO (P:Program) (D:TypeId→aG) (own:Bool) (ops:List Oper) (o:Oper) (S:St) (e:Hu):Prop:=
 (iM ops o.guard S.tmps=some true∧(co e.t≠2→e.objs=S.objs)∧(∀ K:KT,K e.r e.objs e.t→Ht P D own S.ev S.objs o.op K)∧
  (e.t=0→∀ (dS:List Obj) (K:KT),K e.r dS 0→Ht P D own S.ev dS o.op K)∧YC (fun ob K=>Ht P D own S.ev ob o.op K) S.objs e.r e.objs e.t)∨
 (iM ops o.guard S.tmps=some false∧e.r=.bU []∧e.objs=S.objs∧e.t=0)
def Trace (P:Program) (D:TypeId→aG) (own:Nat→Bool) (ops:List Oper):List Oper→Nat→St→List Hu→St→Prop
 | [],_,S,tr,S'=>tr=[]∧S'=S
 | o::rest,i,S,tr,S'=>∃ e tr',tr=e::tr'∧qO P D (own i) ops o S e∧Trace P D own ops rest (i+1) (St.put ⟨S.tmps,e.objs⟩ o.dst e.r) tr' S'
theorem lT {own:Nat→Bool}{ops:List Oper}:∀ (qg:List Oper) (i:Nat) (S:St) (ts:List Nat) (K:St→List Nat→Prop),pM P D own ops qg i S ts K→
  ∃ tr S',Trace P D own ops qg i S tr S'∧K S' (ts++tr.map (·.t))
 | [],i,S,ts,K,h=>⟨[],S,⟨rfl,rfl⟩,by simpa [pM] using h⟩
 | o::rest,i,S,ts,K,h=>by
  unfold pM at h
  rcases Co h with ⟨hw,hx⟩ | ⟨hw,hy⟩
  · obtain ⟨r,ob,t,h1,h2,h3,h4,h4b⟩:=SH hx
    obtain ⟨tr,S',h5,h6⟩:=lT rest _ _ _ K h1
    refine ⟨⟨r,ob,t⟩::tr,S',⟨_,_,rfl,.inl ⟨hw,h2,h3,h4,h4b⟩,h5⟩,by simpa using h6⟩
  · obtain ⟨tr,S',h5,h6⟩:=lT rest _ _ _ K hy
    refine ⟨⟨.bU [],S.objs,0⟩::tr,S',⟨_,_,rfl,.inr ⟨hw,rfl,rfl,rfl⟩,?_⟩,by simpa using h6⟩
    exact h5
def oG (dst:Option Nat) (r:PV) (tm:List PV):List PV:=
 match dst with
 | some d=>tm.set d r
 | none=>tm
section
variable (dst:Nat→Option Nat) (en:Nat→Hu)
def FH (X:Nat→Bool):Nat→List PV→List PV
 | 0,tm=>tm
 | n+1,tm=>if X n then oG (dst n) (en n).r (FH X n tm) else FH X n tm
def o7 (X:Nat→Bool):Nat→List Obj→List Obj
 | 0,ob=>ob
 | n+1,ob=>if X n && co (en n).t==2 then (en n).objs else o7 X n ob
def upd (X:Nat→Bool) (i:Nat) (j:Nat):Bool:=X j || j==i
variable {dst en}
theorem mQ {X Y:Nat→Bool}:∀ (n:Nat) (tm:List PV),(∀ j,j<n→X j=Y j)→FH dst en X n tm=FH dst en Y n tm
 | 0,_,_=>rfl
 | n+1,tm,h=>by simp only [FH];rw [h n (by omega),mQ n tm (fun j hj=>h j (by omega))]
theorem o8 {X Y:Nat→Bool}:∀ (n:Nat) (ob:List Obj),(∀ j,j<n→co (en j).t=2→X j=Y j)→o7 en X n ob=o7 en Y n ob
 | 0,_,_=>rfl
 | n+1,ob,h=>by
  simp only [o7]
  rw [o8 n ob (fun j hj=>h j (by omega))]
  by_cases ht:co (en n).t=2
  · rw [h n (by omega) ht]
  · simp [ht]
theorem Nk (d:Option Nat) (r:PV) (tm:List PV):(oG d r tm).length=tm.length:=by cases d <;> simp [oG]
theorem yE (X:Nat→Bool):∀ (n:Nat) (tm:List PV),(FH dst en X n tm).length=tm.length
 | 0,_=>rfl
 | n+1,tm=>by simp only [FH];split <;> simp [Nk,yE X n tm]
theorem Aa {d:Option Nat}{x:Nat}(h:d≠some x) (r:PV) (tm:List PV):(oG d r tm).getD x .dead=tm.getD x .dead:=by
 cases d with
 | none=>rfl
 | some d=>
  have:d≠x:=fun e=>h (by rw [e])
  simp [oG,List.getD_eq_getElem?_getD,List.getElem?_set_ne this]
theorem Ed {d:Option Nat}{x:Nat}{r:PV}{tm tm':List PV}(hl:tm.length=tm'.length) (h:tm.getD x .dead=tm'.getD x .dead):(oG d r tm).getD x .dead=(oG d r tm').getD x .dead:=by
 cases d with
 | none=>exact h
 | some d=>
  by_cases hd:d=x
  · subst hd
    simp [oG,List.getD_eq_getElem?_getD,List.getElem?_set,hl]
  · simpa [oG,List.getD_eq_getElem?_getD,List.getElem?_set_ne hd] using h
theorem FI {X Y:Nat→Bool}{x:Nat}:∀ (n:Nat) (tm:List PV),(∀ j,j<n→dst j=some x→X j=Y j)→(FH dst en X n tm).getD x .dead=(FH dst en Y n tm).getD x .dead
 | 0,_,_=>rfl
 | n+1,tm,h=>by
  have ih:=FI (X:=X) (Y:=Y) (x:=x) n tm (fun j hj=>h j (by omega))
  simp only [FH]
  by_cases hd:dst n=some x
  · rw [h n (by omega) hd]
    split
    · exact Ed (by rw [yE,yE]) ih
    · exact ih
  · split <;> split <;> (try rw [Aa hd]) <;> (try rw [Aa hd]) <;> exact ih
theorem Ut {d d':Option Nat}{r r':PV}{tm:List PV}(h:∀ x,d=some x→d'≠some x):oG d r (oG d' r' tm)=oG d' r' (oG d r tm):=by
 cases d with
 | none=>rfl
 | some x=>
  cases d' with
  | none=>rfl
  | some y=>
   have hxy:y≠x:=fun e=>h x rfl (by rw [e])
   simp only [oG]
   exact List.set_comm _ _ hxy
theorem Kv {X:Nat→Bool}{i:Nat}:∀ (n:Nat) (tm:List PV),i<n→X i=false→(∀ j,i<j→j<n→X j=true→∀ x,dst i=some x→dst j≠some x)→
  oG (dst i) (en i).r (FH dst en X n tm)=FH dst en (upd X i) n tm
 | 0,_,h,_,_=>by omega
 | n+1,tm,hi,hx,hd=>by
  simp only [FH]
  by_cases hin:i=n
  · subst hin
    simp only [hx,upd,beq_self_eq_true,Bool.or_true,if_true,Bool.false_eq_true,if_false]
    rw [mQ (Y:=upd X i) i tm (fun j hj=>by simp [upd];omega)]
  · have ih:=Kv (X:=X) n tm (by omega) hx (fun j h1 h2=>hd j h1 (by omega))
    have hu:upd X i n=X n:=by simp [upd];omega
    rw [hu]
    split
    · rename_i hn
      rw [← ih,Ut (fun x hx'=>hd n (by omega) (by omega) hn x hx')]
    · exact ih
theorem Kw {X:Nat→Bool}{i:Nat}:∀ (n:Nat) (ob:List Obj),i<n→co (en i).t=2→(∀ j,i<j→j<n→X j=true→co (en j).t≠2)→o7 en (upd X i) n ob=(en i).objs
 | 0,_,h,_,_=>by omega
 | n+1,ob,hi,ht,hd=>by
  simp only [o7]
  by_cases hin:i=n
  · subst hin
    simp [upd,ht]
  · have hu:upd X i n=X n:=by simp [upd];omega
    rw [hu]
    cases hn:X n with
    | false=>simpa using Kw n ob (by omega) ht (fun j h1 h2=>hd j h1 (by omega))
    | true=>
     have:=hd n (by omega) (by omega) hn
     simpa [this] using Kw n ob (by omega) ht (fun j h1 h2=>hd j h1 (by omega))
def cnt (X:Nat→Bool):Nat→Nat
 | 0=>0
 | n+1=>cnt X n+if X n then 0 else 1
theorem JC {X Y:Nat→Bool}:∀ (n:Nat),(∀ j,j<n→X j=Y j)→cnt X n=cnt Y n
 | 0,_=>rfl
 | n+1,h=>by simp only [cnt];rw [h n (by omega),JC n (fun j hj=>h j (by omega))]
theorem Ky {X:Nat→Bool}{i:Nat}:∀ (n:Nat),i<n→X i=false→cnt (upd X i) n+1=cnt X n
 | 0,h,_=>by omega
 | n+1,hi,hx=>by
  simp only [cnt]
  by_cases hin:i=n
  · subst hin
    rw [JC (Y:=upd X i) (X:=X) i (fun j hj=>by simp [upd];omega)]
    simp [upd,hx]
  · have:=Ky (X:=X) n (by omega) hx
    have hu:upd X i n=X n:=by simp [upd];omega
    rw [hu];omega
theorem FJ {X:Nat→Bool}:∀ (n:Nat),cnt X n=0→∀ j,j<n→X j=true
 | 0,_,j,h=>by omega
 | n+1,h,j,hj=>by
  simp only [cnt] at h
  by_cases hjn:j=n
  · subst hjn
    cases hx:X j with
    | true=>rfl
    | false=>simp [hx] at h
  · exact FJ n (by omega) j (by omega)
end
def ja (ops:List Oper) (o:Oper):List Nat:=
 (o.op.operands.toList.filterMap fun | .tmp t=>some t | _=>none)++
 (match o.guard with
  | some (g,_)=>((ops[g]?).bind (·.dst)).toList
  | none=>[])
def Cr (acc:List Nat) (o:Oper):Nat:=
 o.after.toList.foldl (fun m e=>if Region.binds .any e then (m ||| (1 <<<e.on)) ||| acc.getD e.on 0 else m) 0
def masks:List Oper→List Nat→List Nat
 | [],acc=>acc
 | o::rest,acc=>masks rest (acc++[Cr acc o])
def clash (dj di:Option Nat) (lj li:List Nat) (tj ti:Nat):Bool:=
 (match dj with
  | some d=>li.contains d || di==some d
  | none=>false) ||
 (match di with
  | some d=>lj.contains d
  | none=>false) ||
 (tj==2 && ti !=0) || (ti==2 && tj !=0)
def sZ (ops:List Oper) (ts:List Nat):Bool:=
 let ms:=masks ops []
 let ls:=ops.map (ja ops)
 (List.range ops.length).all fun i=>
  match ops[i]? with
  | none=>true
  | some o=>
   (o.after.toList.all fun e=>!Region.binds .any e || decide (e.on<i)) &&
   (ms.getD i 0 &&& Cr ms o==ms.getD i 0) &&
   (List.range i).all fun j=>
    !clash ((ops[j]?).bind (·.dst)) o.dst (ls.getD j []) (ls.getD i []) (co (ts.getD j 0)) (co (ts.getD i 0)) || (ms.getD i 0).testBit j
theorem FK {acc:List Nat}{o:Oper}{j:Nat}(h:(Cr acc o).testBit j=true) :
  ∃ e ∈ o.after.toList,Region.binds .any e=true∧(j=e.on∨(acc.getD e.on 0).testBit j=true):=by
 unfold Cr at h
 have key:∀ (es:List Edge) (m:Nat),(es.foldl (fun m e=>if Region.binds .any e then (m ||| (1 <<<e.on)) ||| acc.getD e.on 0 else m) m).testBit j=true→
     m.testBit j=true∨∃ e ∈ es,Region.binds .any e=true∧(j=e.on∨(acc.getD e.on 0).testBit j=true):=by
  intro es
  induction es with
  | nil=>intro m h;exact .inl h
  | cons e es ih=>
   intro m h
   rw [List.foldl_cons] at h
   rcases ih _ h with h | ⟨e',h1,h2⟩
   · split at h
     · rename_i hb
       rw [Nat.testBit_or,Nat.testBit_or] at h
       simp only [Bool.or_eq_true] at h
       rcases h with (h | h) | h
       · exact .inl h
       · rw [Nat.one_shiftLeft,Nat.testBit_two_pow] at h
         exact .inr ⟨e,List.mem_cons_self,hb,.inl (of_decide_eq_true h).symm⟩
       · exact .inr ⟨e,List.mem_cons_self,hb,.inr h⟩
     · exact .inl h
   · exact .inr ⟨e',List.mem_cons_of_mem _ h1,h2⟩
 rcases key _ _ h with h | h
 · simp at h
 · exact h
structure Ql (ops:List Oper) (ts:List Nat) (ms:List Nat):Prop where
 back:∀ (i:Nat) (o:Oper),ops[i]?=some o→∀ e ∈ o.after.toList,Region.binds .any e=true→e.on<i
 mask:∀ (i:Nat) (o:Oper),ops[i]?=some o→∀ j,(ms.getD i 0).testBit j=true→∃ e ∈ o.after.toList,Region.binds .any e=true∧(j=e.on∨(ms.getD e.on 0).testBit j=true)
 ord:∀ (i:Nat) (o:Oper) (j:Nat) (p:Oper),ops[i]?=some o→ops[j]?=some p→j<i→clash p.dst o.dst (ja ops p) (ja ops o) (co (ts.getD j 0)) (co (ts.getD i 0))=true→(ms.getD i 0).testBit j=true
theorem Dr {ops:List Oper}{ts:List Nat}(h:sZ ops ts=true):Ql ops ts (masks ops []):=by
 unfold sZ at h
 simp only [List.all_eq_true,List.mem_range] at h
 have hh:∀ i o,ops[i]?=some o→_:=fun i o ho=>by
  have:=h i (List.getElem?_eq_some_iff.1 ho).1
  rw [ho] at this
  simp only [Bool.and_eq_true,List.all_eq_true,List.mem_range,beq_iff_eq] at this
  exact this
 refine ⟨fun i o ho e he hb=>by simpa [hb] using (hh i o ho).1.1 e he,fun i o ho j hj=>?_,fun i o j p ho hp hji hc=>?_⟩
 · refine FK ?_
   have h2:=(hh i o ho).1.2
   rw [← h2,Nat.testBit_and] at hj
   simp only [Bool.and_eq_true] at hj
   exact hj.2
 · have h3:=(hh i o ho).2 j hji
   have hlt:=(List.getElem?_eq_some_iff.1 hp).1
   have e1:(ops.map (ja ops)).getD j []=ja ops p:=by rw [List.getD_eq_getElem?_getD,List.getElem?_map,hp];rfl
   have e2:(ops.map (ja ops)).getD i []=ja ops o:=by rw [List.getD_eq_getElem?_getD,List.getElem?_map,ho];rfl
   rw [e1,e2,hp] at h3
   simp only [bind_some,hc,Bool.not_true,Bool.false_or] at h3
   exact h3
def pO (ops:List Oper) (i:Nat):Option Nat:=(ops[i]?).bind (·.dst)
def aP (tr:List Hu) (i:Nat):Hu:=tr.getD i default
def lD (ops:List Oper) (tr:List Hu) (S:St) (X:Nat→Bool) (n:Nat):St:=⟨FH (pO ops) (aP tr) X n S.tmps,o7 (aP tr) X n S.objs⟩
theorem vC {own:Nat→Bool}{ops:List Oper}{S0:St}{tr0:List Hu}:∀ (qg:List Oper) (k:Nat) (S:St) (tr:List Hu) (S':St),Trace P D own ops qg k S tr S'→
  (∀ j,qg[j]?=ops[k+j]?)→(∀ j,tr[j]?=tr0[k+j]?)→S=lD ops tr0 S0 (fun _=>true) k→
  (∀ i o,k≤i→ops[i]?=some o→qO P D (own i) ops o (lD ops tr0 S0 (fun _=>true) i) (aP tr0 i))∧S'=lD ops tr0 S0 (fun _=>true) (k+qg.length)
 | [],k,S,tr,S',h,hl,ht,hs=>by
  refine ⟨fun i o hi ho=>?_,by rw [h.2,hs];rfl⟩
  have:=hl (i-k)
  rw [show k+(i-k)=i by omega,ho] at this
  simp at this
 | o::rest,k,S,tr,S',h,hl,ht,hs=>by
  obtain ⟨e,tr',rfl,h1,h2⟩:=h
  have ho:ops[k]?=some o:=by simpa using (hl 0).symm
  have he:aP tr0 k=e:=by
   have:=ht 0
   simp only [List.getElem?_cons_zero,Nat.add_zero] at this
   simp [aP,List.getD_eq_getElem?_getD,← this]
  have hst:St.put ⟨S.tmps,e.objs⟩ o.dst e.r=lD ops tr0 S0 (fun _=>true) (k+1):=by
   have e1:(lD ops tr0 S0 (fun _=>true) (k+1)).tmps=oG o.dst e.r S.tmps:=by
    simp only [lD,FH,if_true,he,pO,ho,bind_some]
    rw [hs];rfl
   have e2:(lD ops tr0 S0 (fun _=>true) (k+1)).objs=e.objs:=by
    simp only [lD,o7,he,Bool.true_and]
    have hso:S.objs=o7 (aP tr0) (fun _=>true) k S0.objs:=by rw [hs];rfl
    split
    · rfl
    · rename_i hne
      have hne:co e.t≠2:=by simpa using hne
      rcases h1 with ⟨_,h1,_⟩ | ⟨_,_,h1,_⟩
      · rw [h1 hne,hso]
      · rw [h1,hso]
   cases hd:o.dst with
   | none=>rw [hd] at e1;simp only [St.put,oG] at e1 ⊢;rw [← e1,← e2]
   | some d=>rw [hd] at e1;simp only [St.put,oG] at e1 ⊢;rw [← e1,← e2]
  obtain ⟨h3,h4⟩:=vC rest (k+1) _ tr' S' h2 (fun j=>by have:=hl (j+1);simpa [Nat.add_assoc,Nat.add_comm 1 j] using this)
   (fun j=>by have:=ht (j+1);simpa [Nat.add_assoc,Nat.add_comm 1 j] using this) hst
  refine ⟨fun i o' hi ho'=>?_,by rw [h4,List.length_cons];congr 1;omega⟩
  by_cases hik:i=k
  · subst hik
    rw [ho] at ho'
    cases ho'
    rw [he,← hs];exact h1
  · exact h3 i o' (by omega) ho'
theorem Cs {dst:Nat→Option Nat}{en:Nat→Hu}{i:Nat}:∀ (n:Nat) (tm:List PV),i≤n→FH dst en (fun j=>decide (j<i)) n tm=FH dst en (fun _=>true) i tm
 | 0,_,h=>by have:i=0:=by omega
             subst this;rfl
 | n+1,tm,h=>by
  by_cases hi:i=n+1
  · subst hi
    exact mQ (n+1) tm fun j hj=>by simp [hj]
  · simp only [FH]
    rw [if_neg (by simp;omega)]
    exact Cs n tm (by omega)
theorem JD {en:Nat→Hu}{i:Nat}:∀ (n:Nat) (ob:List Obj),i≤n→o7 en (fun j=>decide (j<i)) n ob=o7 en (fun _=>true) i ob
 | 0,_,h=>by have:i=0:=by omega
             subst this;rfl
 | n+1,tm,h=>by
  by_cases hi:i=n+1
  · subst hi
    exact o8 (n+1) tm fun j hj _=>by simp [hj]
  · simp only [o7]
    rw [if_neg (by simp;omega)]
    exact JD n tm (by omega)
theorem FL {dj di:Option Nat}{lj li:List Nat}{tj ti x:Nat}(h:dj=some x) (hx:x ∈ li):clash dj di lj li tj ti=true:=by simp [clash,h,hx]
theorem Dt {dj di:Option Nat}{lj li:List Nat}{tj ti x:Nat}(h:di=some x) (hx:x ∈ lj):clash dj di lj li tj ti=true:=by simp [clash,h,hx]
theorem JE {dj di:Option Nat}{lj li:List Nat}{tj ti x:Nat}(h:dj=some x) (hx:di=some x):clash dj di lj li tj ti=true:=by simp [clash,h,hx]
theorem SI {dj di:Option Nat}{lj li:List Nat}{tj ti:Nat}(h:tj=2) (hx:ti≠0):clash dj di lj li tj ti=true:=by simp [clash,h,hx]
theorem Wq {dj di:Option Nat}{lj li:List Nat}{tj ti:Nat}(h:ti=2) (hx:tj≠0):clash dj di lj li tj ti=true:=by simp [clash,h,hx]
theorem Kz {own:Bool}{ops:List Oper}{o:Oper}{S S':St}{e:Hu}(h:qO P D own ops o S e) (hx:∀ x ∈ ja ops o,S.tmps.getD x .dead=S'.tmps.getD x .dead) (ho:e.t≠0→S.objs=S'.objs) :
  (iM ops o.guard S'.tmps=some true∧(co e.t≠2→e.t≠0→e.objs=S'.objs)∧Ht P D own S'.ev S'.objs o.op (fun r objs' t=>r=e.r∧t=e.t∧(e.t=0→objs'=S'.objs)∧(e.t≠0→objs'=e.objs)))∨
  (iM ops o.guard S'.tmps=some false∧e.r=.bU []∧e.t=0):=by
 have hev:∀ x ∈ o.op.operands,S.ev x=S'.ev x:=by
  intro x hm
  cases x with
  | tmp t=>exact hx t (List.mem_append_left _ (List.mem_filterMap.2 ⟨.tmp t,by simpa using hm,rfl⟩))
  | _=>rfl
 have hg:iM ops o.guard S.tmps=iM ops o.guard S'.tmps:=by
  cases hgd:o.guard with
  | none=>rfl
  | some g=>
   obtain ⟨j,want⟩:=g
   simp only [iM]
   cases hd:(ops[j]?).bind (·.dst) with
   | none=>rfl
   | some d=>
    simp only []
    rw [hx d (List.mem_append_right _ (by rw [hgd];simp [hd]))]
 rcases h with ⟨h1,h2,h3,h4,_⟩ | ⟨h1,h2,h3,h4⟩
 · left
   refine ⟨hg ▸ h1,fun a b=>by rw [h2 a,ho b],?_⟩
   by_cases ht:e.t=0
   · exact wK hev (h4 ht S'.objs _ ⟨rfl,ht.symm,fun _=>rfl,fun c=>absurd ht c⟩)
   · have:=wK hev (h3 (fun r objs' t=>r=e.r∧t=e.t∧(e.t=0→objs'=S'.objs)∧(e.t≠0→objs'=e.objs)) ⟨rfl,rfl,fun c=>absurd c ht,fun _=>rfl⟩)
     rw [ho ht] at this
     exact this
 · exact .inr ⟨hg ▸ h1,h2,h4⟩
theorem Uu {own:Nat→Bool}{ops:List Oper}{ts:List Nat}{ms:List Nat}{tr:List Hu}{S0:St}(hD:∀ t,iL P t (D t)) (hok:Ql ops ts ms)
  (hts:∀ i,i<ops.length→ts.getD i 0=(aP tr i).t)
  (hst:∀ i o,ops[i]?=some o→qO P D (own i) ops o (lD ops tr S0 (fun _=>true) i) (aP tr i))
  {X:Nat→Bool}{i:Nat}{o:Oper}(ho:ops[i]?=some o) (hX:X i=false) (hcl:∀ j,j<ops.length→X j=true→∀ x,(ms.getD j 0).testBit x=true→X x=true)
  (hrd:∀ x,(ms.getD i 0).testBit x=true→X x=true)
  {base ak:Nat→Prop}{w0:Wz}{blk:Nat→Option Nat}{a:Act}{w:World}(R:Rel base ak w0 (lD ops tr S0 X ops.length) blk a w)
  {Q:Exit→Act→World→Prop}{K:Act→World→Prop}(hK:∀ av a' w',Rel base ak w0 (lD ops tr S0 (upd X i) ops.length) av a' w'→K a' w') :
  wpOpIn (EF l) 0 P ops.toArray Q i K a w:=by
 have hi:i<ops.length:=(List.getElem?_eq_some_iff.1 ho).1
 have hdst:pO ops i=o.dst:=by simp [pO,ho]
 have KA:∀ j,j<ops.length→∃ p,ops[j]?=some p∧pO ops j=p.dst:=fun j hj=>⟨ops[j],List.getElem?_eq_getElem hj,by simp [pO,List.getElem?_eq_getElem hj]⟩
 have before:∀ j p,ops[j]?=some p→j<i→clash p.dst o.dst (ja ops p) (ja ops o) (co (ts.getD j 0)) (co (ts.getD i 0))=true→X j=true:=
  fun j p hp hj hc=>hrd j (hok.ord i o j p ho hp hj hc)
 have behind:∀ j p,ops[j]?=some p→i<j→clash o.dst p.dst (ja ops o) (ja ops p) (co (ts.getD i 0)) (co (ts.getD j 0))=true→X j=false:=fun j p hp hj hc=>by
  cases hx:X j with
  | false=>rfl
  | true=>
   have:=hcl j (List.getElem?_eq_some_iff.1 hp).1 hx i (hok.ord j p i o hp ho hj hc)
   rw [hX] at this;cases this
 have SK:∀ x ∈ ja ops o,(lD ops tr S0 (fun _=>true) i).tmps.getD x .dead=(lD ops tr S0 X ops.length).tmps.getD x .dead:=by
  intro x hx
  simp only [lD]
  rw [← Cs (dst:=pO ops) ops.length S0.tmps (Nat.le_of_lt hi)]
  refine FI _ _ fun j hj hd=>?_
  obtain ⟨p,hp,Ws⟩:=KA j hj
  rw [Ws] at hd
  rcases Nat.lt_trichotomy j i with hji | hji | hji
  · rw [before j p hp hji (FL hd hx)];simp [hji]
  · subst hji;rw [hX];simp
  · rw [behind j p hp hji (Dt hd hx)];simp;omega
 have oz:(aP tr i).t≠0→(lD ops tr S0 (fun _=>true) i).objs=(lD ops tr S0 X ops.length).objs:=by
  intro ht
  simp only [lD]
  rw [← JD ops.length S0.objs (Nat.le_of_lt hi)]
  refine o8 _ _ fun j hj h2=>?_
  obtain ⟨p,hp,Ws⟩:=KA j hj
  rcases Nat.lt_trichotomy j i with hji | hji | hji
  · rw [before j p hp hji (SI (by rw [hts j hj];exact h2) (by rw [hts i hi];exact SG ht))];simp [hji]
  · subst hji;rw [hX];simp
  · rw [behind j p hp hji (Wq (by rw [hts j hj];exact h2) (by rw [hts i hi];exact SG ht))];simp;omega
 have hadd:oG o.dst (aP tr i).r (lD ops tr S0 X ops.length).tmps=(lD ops tr S0 (upd X i) ops.length).tmps:=by
  simp only [lD]
  rw [← hdst]
  refine Kv _ _ hi hX fun j hj hjn hxj x hx hd=>?_
  obtain ⟨p,hp,Ws⟩:=KA j hjn
  rw [Ws] at hd
  rw [hdst] at hx
  have:=behind j p hp hj (JE hx hd)
  rw [this] at hxj;cases hxj
 have ZH:(lD ops tr S0 (upd X i) ops.length).objs=if co (aP tr i).t=2 then (aP tr i).objs else (lD ops tr S0 X ops.length).objs:=by
  simp only [lD]
  split
  · rename_i ht
    refine Kw _ _ hi ht fun j hj hjn hxj hj2=>?_
    obtain ⟨p,hp,Ws⟩:=KA j hjn
    have:=behind j p hp hj (SI (by rw [hts i hi];exact ht) (by rw [hts j hjn,hj2];decide))
    rw [this] at hxj;cases hxj
  · rename_i ht
    refine o8 _ _ fun j hj h2=>?_
    have hne:j≠i:=fun e=>ht (e ▸ h2)
    simp [upd,hne]
 have hput:∀ objs',(objs'=(lD ops tr S0 (upd X i) ops.length).objs)→St.put ⟨(lD ops tr S0 X ops.length).tmps,objs'⟩ o.dst (aP tr i).r=lD ops tr S0 (upd X i) ops.length:=by
  rintro objs' rfl
  cases hd:o.dst with
  | none=>rw [hd] at hadd;simp only [oG] at hadd;simp only [St.put];rw [hadd]
  | some d=>rw [hd] at hadd;simp only [oG] at hadd;simp only [St.put];rw [hadd]
 unfold wpOpIn
 have h0:ops.toArray[i]?=some o:=by simpa using ho
 rw [h0]
 simp only []
 rcases Kz (hst i o ho) SK oz with ⟨h1,h2,h3⟩ | ⟨h1,h2,h3⟩
 · rw [if_pos (oD R h1)]
   refine z8 l hD R h3 fun r objs' t v w' av hr R' hv=>?_
   obtain ⟨rfl,rfl,e0,e1⟩:=hr
   have:=R'.put hv o.dst
   rw [hput objs' (by
    rw [ZH]
    split
    · rename_i ht;exact e1 (fun hz=>by rw [hz] at ht;exact absurd ht (by decide))
    · rename_i ht
      by_cases hz:(aP tr i).t=0
      · exact e0 hz
      · rw [e1 hz];exact h2 ht hz)] at this
   exact hK _ _ _ this
 · rw [if_neg (by rw [oD R h1];simp)]
   refine ⟨fun _ _=>trivial,?_⟩
   have:=R.put (wL w _ _ blk) o.dst
   rw [← h2] at this
   have hs:=hput (lD ops tr S0 X ops.length).objs (by rw [ZH,if_neg (by rw [h3];decide)])
   rw [show (lD ops tr S0 X ops.length).put o.dst (aP tr i).r=St.put ⟨(lD ops tr S0 X ops.length).tmps,(lD ops tr S0 X ops.length).objs⟩ o.dst (aP tr i).r from rfl,hs] at this
   exact hK _ _ _ this
theorem FM {own:Nat→Bool}{ops:List Oper}{ts:List Nat}{ms:List Nat}{tr:List Hu}{S0:St}(hD:∀ t,iL P t (D t)) (hok:Ql ops ts ms)
  (hts:∀ i,i<ops.length→ts.getD i 0=(aP tr i).t)
  (hst:∀ i o,ops[i]?=some o→qO P D (own i) ops o (lD ops tr S0 (fun _=>true) i) (aP tr i))
  {base ak:Nat→Prop}{w0:Wz}{Q:Exit→Act→World→Prop}
  (hQ:∀ av a' w',Rel base ak w0 (lD ops tr S0 (fun _=>true) ops.length) av a' w'→Q .normal a' w') :
  ∀ (fuel:Nat) (L:Array Bool) (blk:Nat→Option Nat) (a:Act) (w:World),L.size=ops.length→
   (∀ j,j<ops.length→L.getD j false=true→∀ x,(ms.getD j 0).testBit x=true→L.getD x false=true)→cnt (fun j=>L.getD j false) ops.length≤fuel→
   Rel base ak w0 (lD ops tr S0 (fun j=>L.getD j false) ops.length) blk a w→wpAnyIn (EF l) 0 P .any ops.toArray Q fuel L a w:=by
 have full:∀ (L:Array Bool),L.size=ops.length→Region.ready .any ops.toArray L=[]→∀ i,i<ops.length→L.getD i false=true:=by
  intro L hsz hr i
  induction i using Nat.strongRecOn with
  | _ i ih=>
   intro hi
   cases hx:L.getD i false with
   | true=>rfl
   | false=>
    have hmem:i ∈ Region.ready .any ops.toArray L:=by
     simp only [Region.ready,List.mem_filter,List.mem_range,Bool.and_eq_true]
     refine ⟨by simpa using hi,?_,?_⟩
     · have hil:i<L.size:=by omega
       rw [Array.getD_eq_getD_getElem?,Array.getElem?_eq_getElem hil,getD_some] at hx ⊢
       rw [hx];rfl
     · have ho:ops.toArray[i]?=some ops[i]:=by simp [hi]
       rw [ho]
       simp only [map_some,getD_some]
       rw [Array.all_eq_true']
       intro e he
       cases hbd:Region.binds .any e with
       | false=>simp
       | true=>
        have hb:=hok.back i ops[i] (List.getElem?_eq_getElem hi) e (by simpa using he) hbd
        rw [ih e.on hb (by omega)];simp
    rw [hr] at hmem
    simp at hmem
 have step:∀ (L:Array Bool) (i:Nat),L.size=ops.length→i ∈ Region.ready .any ops.toArray L→∃ o,ops[i]?=some o∧L.getD i false=false∧∀ e ∈ o.after.toList,Region.binds .any e=true→L.getD e.on false=true:=by
  intro L i hsz hm
  simp only [Region.ready,List.mem_filter,List.mem_range,Bool.and_eq_true] at hm
  obtain ⟨hi,h1,h2⟩:=hm
  have hi:i<ops.length:=by simpa using hi
  have ho:ops.toArray[i]?=some ops[i]:=by simp [hi]
  rw [ho] at h2
  simp only [map_some,getD_some] at h2
  rw [Array.all_eq_true'] at h2
  refine ⟨ops[i],List.getElem?_eq_getElem hi,?_,fun e he hb=>?_⟩
  · have hil:i<L.size:=by omega
    rw [Array.getD_eq_getD_getElem?,Array.getElem?_eq_getElem hil,getD_some] at h1 ⊢
    simpa using h1
  · have:=h2 e (by simpa using he)
    rw [hb] at this
    simpa using this
 intro fuel
 induction fuel with
 | zero=>
  intro L blk a w hsz hcl hc R
  have hall:=FJ (X:=fun j=>L.getD j false) ops.length (by omega)
  have hst':lD ops tr S0 (fun j=>L.getD j false) ops.length=lD ops tr S0 (fun _=>true) ops.length:=by
   simp only [lD];rw [mQ ops.length _ hall,o8 ops.length _ fun j hj _=>hall j hj]
  refine ⟨?_,hQ blk a w (hst' ▸ R)⟩
  cases hr:Region.ready .any ops.toArray L with
  | nil=>rfl
  | cons i is=>
   obtain ⟨o,ho,hx,_⟩:=step L i hsz (by rw [hr];exact List.mem_cons_self)
   rw [hall i (List.getElem?_eq_some_iff.1 ho).1] at hx
   cases hx
 | succ fuel ih=>
  intro L blk a w hsz hcl hc R
  refine ⟨fun hr=>?_,fun i hm=>?_⟩
  · have hall:=full L hsz hr
    have hst':lD ops tr S0 (fun j=>L.getD j false) ops.length=lD ops tr S0 (fun _=>true) ops.length:=by
     simp only [lD];rw [mQ ops.length _ hall,o8 ops.length _ fun j hj _=>hall j hj]
    exact hQ blk a w (hst' ▸ R)
  · obtain ⟨o,ho,hx,hrd⟩:=step L i hsz hm
    have hi:i<ops.length:=(List.getElem?_eq_some_iff.1 ho).1
    have Wt:∀ x,(ms.getD i 0).testBit x=true→L.getD x false=true:=by
     intro x hb
     obtain ⟨e,h1,h2,h3⟩:=hok.mask i o ho x hb
     have he:=hrd e h1 h2
     rcases h3 with rfl | h3
     · exact he
     · exact hcl e.on (by have:=hok.back i o ho e h1 h2;omega) he x h3
    have Wu:∀ j,(L.setIfInBounds i true).getD j false=upd (fun j=>L.getD j false) i j:=by
     intro j
     rw [Array.getD_eq_getD_getElem?,Array.getElem?_setIfInBounds]
     simp only [upd]
     by_cases hij:i=j
     · subst hij
       rw [if_pos rfl,if_pos (by omega)];simp
     · rw [if_neg hij,Array.getD_eq_getD_getElem?]
       have:(j==i)=false:=by simp;omega
       rw [this,Bool.or_false]
    have hfun:(fun j=>(L.setIfInBounds i true).getD j false)=upd (fun j=>L.getD j false) i:=funext Wu
    refine Uu (X:=fun j=>L.getD j false) hD hok hts hst ho hx hcl Wt R fun av a' w' R'=>?_
    refine ih _ av a' w' (by simpa using hsz) ?_ ?_ (by rw [hfun];exact R')
    · intro j hj hb x hbx
      rw [Wu] at hb ⊢
      simp only [upd,Bool.or_eq_true,beq_iff_eq] at hb ⊢
      rcases hb with hb | rfl
      · exact .inl (hcl j hj hb x hbx)
      · exact .inl (Wt x hbx)
    · rw [hfun]
      have:=Ky (X:=fun j=>L.getD j false) ops.length hi hx
      omega
theorem PW.draw {E:Env}{id:Nat}{ops:List Oper}{Q:Exit→St→Prop}{S:St}(own:Nat→Bool) (hD:∀ t,iL P t (D t)) (hm:P.follows .mixedOrders=true)
  (h:pM P D own ops ops 0 S [] fun S' ts=>sZ ops ts=true∧Q .normal S'):PW P l E (.region id ops.toArray true) Q S:=by
 intro base ak V hE blk a w ⟨w0,hV,R⟩
 obtain ⟨tr,S',h1,h2,h3⟩:=lT _ _ _ _ _ h
 obtain ⟨h4,h5⟩:=vC (S0:=S) (tr0:=tr) ops 0 S tr S' h1 (fun j=>by simp) (fun j=>by simp) rfl
 refine wpIn_region_any hm ?_
 have R':Rel base ak w0 S blk a { w with drawn:=w.drawn+1 }:=R.grew (.same rfl)
 have hR:∀ (L:Array Bool),(∀ j,L.getD j false=false)→lD ops tr S (fun j=>L.getD j false) ops.length=S:=by
  intro L hL
  have e1:∀ n tm,FH (pO ops) (aP tr) (fun j=>L.getD j false) n tm=tm:=by
   intro n tm
   induction n with
   | zero=>rfl
   | succ n ih=>simp only [FH];rw [if_neg (by rw [hL n];simp)];exact ih
  have e2:∀ n ob,o7 (aP tr) (fun j=>L.getD j false) n ob=ob:=by
   intro n ob
   induction n with
   | zero=>rfl
   | succ n ih=>simp only [o7];rw [if_neg (by rw [hL n];simp)];exact ih
  simp only [lD,e1,e2]
 have hcn:∀ (X:Nat→Bool) n,cnt X n≤n:=by
  intro X n
  induction n with
  | zero=>exact Nat.le_refl _
  | succ n ih=>simp only [cnt];split <;> omega
 have hrep:∀ j,(Array.replicate ops.toArray.size false).getD j false=false:=by
  intro j
  rw [Array.getD_eq_getD_getElem?,Array.getElem?_replicate]
  split <;> rfl
 have hts:∀ i,i<ops.length→(tr.map (·.t)).getD i 0=(aP tr i).t:=by
  intro i hi
  have hl:tr.length=ops.length:=by
   clear h2 h3 h4 h5 h
   have:∀ (qg:List Oper) (k:Nat) (S:St) (tr:List Hu) (S':St),Trace P D own ops qg k S tr S'→tr.length=qg.length:=by
    intro qg
    induction qg with
    | nil=>rintro k S tr S' ⟨rfl,_⟩;rfl
    | cons o qg ih=>
     rintro k S tr S' ⟨e,tr',rfl,_,h⟩
     simp [ih _ _ _ _ h]
   exact this _ _ _ _ _ h1
  have hil:i<tr.length:=by omega
  simp [aP,List.getD_eq_getElem?_getD,List.getElem?_map,List.getElem?_eq_getElem hil]
 rw [Nat.zero_add] at h5
 subst h5
 have hc:=hcn (fun j=>(Array.replicate ops.toArray.size false).getD j false) ops.length
 have hsz:ops.toArray.size=ops.length:=by simp
 have hrs:(Array.replicate ops.toArray.size false).size=ops.length:=by simp
 have hQ:∀ av a' w',Rel base ak w0 (lD ops tr S (fun _=>true) ops.length) av a' w'→∃ S' pQ,Q .normal S'∧qm base ak V S' pQ a' w':=
  fun av a' w' R''=>⟨_,av,h3,w0,hV,R''⟩
 have R1:Rel base ak w0 (lD ops tr S (fun j=>(Array.replicate ops.toArray.size false).getD j false) ops.length) blk a { w with drawn:=w.drawn+1 }:=by rw [hR _ hrep];exact R'
 have hcl:∀ j,j<ops.length→(Array.replicate ops.toArray.size false).getD j false=true→∀ x,((masks ops []).getD j 0).testBit x=true→(Array.replicate ops.toArray.size false).getD x false=true:=by
  intro j _ hb
  rw [hrep] at hb;cases hb
 have h2':sZ ops (tr.map (·.t))=true:=h2
 generalize Array.replicate ops.toArray.size false=L at *
 exact FM (Q:=fun e a' w'=>∃ S' av,Q e S'∧qm base ak V S' av a' w') hD (Dr h2') hts (fun i o ho=>h4 i o (Nat.zero_le _) ho) hQ ops.toArray.size L blk a _ hrs hcl (by rw [hsz];exact hc) R1
end Lp
namespace Lp
open Go
open Bool (and_eq_true or_eq_true)
open Option (getD_some map_some)
variable {P:Program}{D:TypeId→aG}{l:Option Nat}
def hole:Obj:=⟨0,0,[],false,0⟩
section
variable {base ak:Nat→Prop}{w0:Wz}{blk:Nat→Option Nat}{a:Act}{w:World}
theorem Ab {ok:Nat→Prop}{objs:List Obj}{cs:List PV}{vs:List Value}(h:cu (bL w ok objs blk) cs vs):cs.all (PV.uY objs.length)=true:=by
 rw [List.all_eq_true]
 intro p hp
 obtain ⟨i,hi,rfl⟩:=List.getElem_of_mem hp
 exact nP (h.2 i _ _ (List.getElem?_eq_getElem hi) (List.getElem?_eq_getElem (by rw [← h.1];exact hi)))
theorem Nl {ok:Nat→Prop}{objs:List Obj}{p:PV}{v:Value}(h:aU w ok objs blk p v):p.lt objs.length=true:=by
 cases p with
 | fn f a c=>obtain ⟨_,_,_,h1,h2⟩:=h;simp only [PV.lt,Ab h1,Ab h2,Bool.and_self]
 | bU cs=>obtain ⟨_,_,h1⟩:=h;simp only [PV.lt,Ab h1]
 | agg cs=>obtain ⟨_,_,h1⟩:=h;simp only [PV.lt,Ab h1]
 | aY k ver=>exact nP (w:=w) (ok:=ok) (p:=.aY k ver) (v:=v) h
 | bM k ver i f=>exact nP (w:=w) (ok:=ok) (p:=.bM k ver i f) (v:=v) h
 | sJ k ver=>exact nP (w:=w) (ok:=ok) (p:=.sJ k ver) (v:=v) h
 | _=>rfl
theorem Rel.holes {S:St}(R:Rel base ak w0 S blk a w):∀ n:Nat,∃ av,Rel base ak w0 ⟨S.tmps,S.objs++List.replicate n hole⟩ av a w
 | 0=>⟨blk,by simpa using R⟩
 | n+1=>by
  obtain ⟨av,R'⟩:=R.holes n
  have h:=R'.Cj (o1:=hole) (gb:=none) (kr.refl w) (fun g hg=>by cases hg) fun _=>by
   unfold bY aI
   rw [if_pos rfl]
   rfl
  rw [List.replicate_succ',← List.append_assoc]
  exact ⟨_,h⟩
theorem Rel.fill {tm:List PV}{O:List Obj}{o1:Obj}{k:Nat}{w':World}{av:Nat→Option Nat}(R:Rel base ak w0 ⟨tm,O⟩ blk a w) (hk:O[k]?=some hole) (hl:o1.live=true) (hv:o1.ver=1)
  (R':Rel base ak w0 ⟨tm,O++[o1]⟩ av a w') (hn:Dj O (O++[o1])){mk:Nat→PV}(hm:Mk mk){v:Value}(hr:aU w' (bZ base (O++[o1]) av) (O++[o1]) av (mk O.length) v) :
  ∃ iG,Rel base ak w0 ⟨tm,O.set k o1⟩ iG a w'∧aU w' (bZ base (O.set k o1) iG) (O.set k o1) iG (mk k) v:=by
 have hkl:=(List.getElem?_eq_some_iff.1 hk).1
 obtain ⟨iG,hb2⟩:∃ iG:Nat→Option Nat,iG=fun j=>if j=k then av O.length else av j:=⟨_,rfl⟩
 have bk:iG k=av O.length:=by rw [hb2];simp
 have bo:∀ j,j≠k→iG j=av j:=fun j hj=>by rw [hb2];simp [hj]
 have YE:(O++[o1])[O.length]?=some o1:=by simp
 have acL:∀ j o,O[j]?=some o→(O++[o1])[j]?=some o:=fun j o h=>by
  rw [List.getElem?_append_left (List.getElem?_eq_some_iff.1 h).1];exact h
 have gk:(O.set k o1)[k]?=some o1:=by rw [List.getElem?_set];simp [hkl]
 have go:∀ j,j≠k→(O.set k o1)[j]?=O[j]?:=fun j hj=>by rw [List.getElem?_set,if_neg (fun e=>hj e.symm)]
 have hlive:∀ (j:Nat) (o:Obj),(O.set k o1)[j]?=some o→o.live=true→∃ j',(O++[o1])[j']?=some o∧av j'=iG j∧((j=k∧j'=O.length)∨(j≠k∧j'=j∧j<O.length)):=by
  intro j o h1 h2
  by_cases hj:j=k
  · subst hj
    rw [gk] at h1;cases h1
    exact ⟨O.length,YE,bk.symm,.inl ⟨rfl,rfl⟩⟩
  · rw [go j hj] at h1
    exact ⟨j,acL j o h1,(bo j hj).symm,.inr ⟨hj,rfl,(List.getElem?_eq_some_iff.1 h1).1⟩⟩
 have hnl:∀ b,aW (O++[o1]) av b→aW (O.set k o1) iG b:=by
  intro b h j o h1 h2 h3
  obtain ⟨j',g1,g2,_⟩:=hlive j o h1 h2
  exact h j' o g1 h2 (by rw [g2];exact h3)
 have hok:∀ b,bZ base (O++[o1]) av b→bZ base (O.set k o1) iG b:=fun b h=>⟨h.1,hnl b h.2⟩
 have hS:∀ (p:PV) (u:Value),p.uY O.length=true→bL w' (bZ base (O++[o1]) av) (O++[o1]) av p u→bL w' (bZ base (O.set k o1) iG) (O.set k o1) iG p u:=by
  intro p u hp h
  have hm':∀ q:PV,dB w' (bZ base (O++[o1]) av) q u→dB w' (bZ base (O.set k o1) iG) q u:=fun q hq=>hq.mono (Nat.le_refl _) (fun b _ hb=>hok b hb) (fun _ _ _ h=>h)
  cases p with
  | aY j ver=>
   have hj:j<O.length:=by simpa [PV.uY] using hp
   obtain ⟨h0,o,g1,g2,g3⟩:=h
   rw [List.getElem?_append_left hj] at g1
   by_cases hjk:j=k
   · subst hjk
     rw [hk] at g1;cases g1
     refine ⟨h0,o1,gk,by rw [hv];exact Nat.le_trans g2 (by decide),fun _ e=>?_⟩
     have:ver≤0:=g2
     omega
   · refine ⟨h0,o,by rw [go j hjk];exact g1,g2,fun e1 e2=>?_⟩
     obtain ⟨hM,this⟩:=g3 e1 e2
     refine ⟨hM,?_⟩
     unfold zU at this ⊢
     rw [bo j hjk];exact this
  | bM j ver i f=>
   have hj:j<O.length:=by simpa [PV.uY] using hp
   obtain ⟨h0,o,g1,g2,g3⟩:=h
   rw [List.getElem?_append_left hj] at g1
   by_cases hjk:j=k
   · subst hjk
     rw [hk] at g1;cases g1
     refine ⟨h0,o1,gk,by rw [hv];exact Nat.le_trans g2 (by decide),fun _ e=>?_⟩
     have:ver≤0:=g2
     omega
   · refine ⟨h0,o,by rw [go j hjk];exact g1,g2,fun e1 e2=>?_⟩
     rw [bo j hjk];exact g3 e1 e2
  | sJ j ver=>
   have hj:j<O.length:=by simpa [PV.uY] using hp
   obtain ⟨h0,o,g1,g2,g3⟩:=h
   rw [List.getElem?_append_left hj] at g1
   by_cases hjk:j=k
   · subst hjk
     rw [hk] at g1;cases g1
     refine ⟨h0,o1,gk,by rw [hv];exact Nat.le_trans g2 (by decide),fun _ e=>?_⟩
     have:ver≤0:=g2
     omega
   · refine ⟨h0,o,by rw [go j hjk];exact g1,g2,fun e1 e2=>?_⟩
     rw [bo j hjk];exact g3 e1 e2
  | _=>exact hm' _ h
 have hLs:∀ (cs:List PV) (us:List Value),cs.all (PV.uY O.length)=true→cu (bL w' (bZ base (O++[o1]) av) (O++[o1]) av) cs us→cu (bL w' (bZ base (O.set k o1) iG) (O.set k o1) iG) cs us:=
  fun cs us hc h=>⟨h.1,fun i p u h1 h2=>hS p u (List.all_eq_true.1 hc p (List.mem_of_getElem? h1)) (h.2 i p u h1 h2)⟩
 have hT:∀ (p:PV) (u:Value),p.lt O.length=true→aU w' (bZ base (O++[o1]) av) (O++[o1]) av p u→aU w' (bZ base (O.set k o1) iG) (O.set k o1) iG p u:=by
  intro p u hp h
  cases p with
  | fn f a c=>
   simp only [PV.lt,and_eq_true] at hp
   obtain ⟨va,vc,rfl,h1,h2⟩:=h
   exact ⟨va,vc,rfl,hLs _ _ hp.1 h1,hLs _ _ hp.2 h2⟩
  | bU cs=>obtain ⟨us,rfl,h1⟩:=h;exact ⟨us,rfl,hLs _ _ hp h1⟩
  | agg cs=>obtain ⟨us,rfl,h1⟩:=h;exact ⟨us,rfl,hLs _ _ hp h1⟩
  | aY j ver=>exact hS (.aY j ver) u hp h
  | bM j ver i f=>exact hS (.bM j ver i f) u hp h
  | sJ j ver=>exact hS (.sJ j ver) u hp h
  | _=>exact .jX (hS _ u rfl (by exact h))
 have Ia:∀ (j j':Nat) (o:Obj),bY w' (bZ base (O++[o1]) av) (O++[o1]) av j' o→av j'=iG j→(∀ x ∈ o.xs,∀ p ∈ x.cells,∀ u,bL w' (bZ base (O++[o1]) av) (O++[o1]) av p u→bL w' (bZ base (O.set k o1) iG) (O.set k o1) iG p u)→
     bY w' (bZ base (O.set k o1) iG) (O.set k o1) iG j o:=by
  intro j j' o h e ht
  unfold bY at h ⊢
  rw [← e]
  cases hb:av j' with
  | none=>rw [hb] at h;exact h
  | some g=>
   rw [hb] at h
   obtain ⟨c,x1,x2,x3⟩:=h
   refine ⟨c,x1,x2,fun i x hx=>⟨(x3 i x hx).1,fun q p hp=>?_⟩⟩
   obtain ⟨u,y1,y2⟩:=(x3 i x hx).2 q p hp
   exact ⟨u,y1,ht x (List.mem_of_getElem? hx) p (List.mem_of_getElem? hp) u y2⟩
 refine ⟨iG,⟨R'.nN.mono (fun b _ h=>⟨hok b h.1,h.2⟩) (fun _ _ _ h=>h),R'.Cg,fun t p hp=>hT p _ (Nl (R.tm t p hp)) (R'.tm t p hp),⟨?_,?_,?_⟩,R'.pr,R'.fr,R'.gr,R'.pb,fun x hx=>hT _ _ (Nl (R.ext x hx)) (R'.ext x hx),R'.Ju,R'.sm,R'.gl⟩,?_⟩
 · intro j o h1 h2
   obtain ⟨j',g1,g2,hc⟩:=hlive j o h1 h2
   have h3:=R'.objs.ob j' o g1 h2
   refine Ia j j' o h3 g2 fun x hx p hp u hu=>?_
   rcases hc with ⟨rfl,rfl⟩ | ⟨hj,_,hjl⟩
   · rw [gk] at h1;cases h1
     exact hS p u (hn o1 rfl x hx p hp) hu
   ·
    rw [go j hj] at h1
    have h4:=R.objs.ob j o h1 h2
    have hlt:p.uY O.length=true:=by
     obtain ⟨i,hi,rfl⟩:=List.getElem_of_mem hx
     obtain ⟨q,hq,rfl⟩:=List.getElem_of_mem hp
     unfold bY at h4
     cases hb:blk j with
     | none=>rw [hb] at h4;simp [h4] at hi
     | some g=>
      rw [hb] at h4
      obtain ⟨c,_,_,x3⟩:=h4
      obtain ⟨u',_,y2⟩:=(x3 i _ (List.getElem?_eq_getElem hi)).2 q _ (List.getElem?_eq_getElem hq)
      exact nP y2
    exact hS p u hlt hu
 · intro j1 j2 q1 q2 g hne h1 h2 h3 h4 h5
   obtain ⟨i1,a1,a2,a3⟩:=hlive j1 q1 h1 h2
   obtain ⟨i2,b1,b2,b3⟩:=hlive j2 q2 h3 h4
   rw [← a2] at h5
   rw [← b2]
   refine R'.objs.Js i1 i2 q1 q2 g ?_ a1 h2 b1 h4 h5
   rcases a3 with ⟨rfl,rfl⟩ | ⟨_,rfl,_⟩ <;> rcases b3 with ⟨rfl,rfl⟩ | ⟨_,rfl,_⟩ <;> first | exact absurd rfl hne | omega
 · intro j o g h1 h2 h3
   obtain ⟨j',g1,g2,_⟩:=hlive j o h1 h2
   rw [← g2] at h3
   exact R'.objs.np j' o g g1 h2 h3
 · rcases hm with rfl | rfl | rfl
   · obtain ⟨h0,o,g1,g2,g3⟩:=hr
     rw [YE] at g1;cases g1
     refine ⟨h0,o1,gk,g2,fun e1 e2=>?_⟩
     obtain ⟨hM,this⟩:=g3 e1 e2
     refine ⟨hM,?_⟩
     unfold zU at this ⊢
     rw [bk];exact this
   · obtain ⟨h0,o,g1,g2,g3⟩:=hr
     rw [YE] at g1;cases g1
     refine ⟨h0,o1,gk,g2,fun e1 e2=>?_⟩
     rw [bk];exact g3 e1 e2
   · obtain ⟨h0,o,g1,g2,g3⟩:=hr
     rw [YE] at g1;cases g1
     refine ⟨h0,o1,gk,g2,fun e1 e2=>?_⟩
     rw [bk];exact g3 e1 e2
end
def KC (t:Nat):Option Nat:=if 5≤t∧t % 2=1 then some ((t-5) / 2) else none
theorem Qn (k:Nat):KC (5+2*k)=some k:=by
 unfold KC;rw [if_pos (by omega)];congr 1;omega
theorem Wv (k:Nat):KC (4+2*k)=none:=by unfold KC;rw [if_neg (by omega)]
theorem Nn:KC 0=none:=rfl
def yF (tj ti:Nat):Bool:=decide (4≤tj) && decide (4≤ti) && (tj-4) / 2==(ti-4) / 2 && (tj % 2==1 || ti % 2==1)
theorem Ct {tj ti k:Nat}(h:(KC tj=some k∧(ti=4+2*k∨ti=5+2*k))∨(KC ti=some k∧(tj=4+2*k∨tj=5+2*k))):yF tj ti=true:=by
 have key:∀ t,KC t=some k→t=5+2*k:=by
  intro t ht
  unfold KC at ht
  split at ht
  · simp only [Option.some.injEq] at ht;omega
  · cases ht
 unfold yF
 simp only [and_eq_true,decide_eq_true_eq,or_eq_true,beq_iff_eq]
 rcases h with ⟨h1,h2 | h2⟩ | ⟨h1,h2 | h2⟩ <;> have:=key _ h1 <;> omega
def Ac (t:Nat):Bool:=t==0 || decide (4≤t)
theorem Du {t:Nat}(h:Ac t=true):t=0∨(∃ k,t=4+2*k)∨∃ k,t=5+2*k:=by
 simp only [Ac,or_eq_true,beq_iff_eq,decide_eq_true_eq] at h
 rcases h with h | h
 · exact .inl h
 · rcases Nat.mod_two_eq_zero_or_one t with e | e
   · exact .inr (.inl ⟨(t-4) / 2,by omega⟩)
   · exact .inr (.inr ⟨(t-5) / 2,by omega⟩)
structure KD (ops:List Oper) (ts:List Nat) (ms:List Nat):Prop where
 fine:∀ i,i<ops.length→Ac (ts.getD i 0)=true
 back:∀ (i:Nat) (o:Oper),ops[i]?=some o→∀ e ∈ o.after.toList,Region.binds .any e=true→e.on<i
 mask:∀ (i:Nat) (o:Oper),ops[i]?=some o→∀ j,(ms.getD i 0).testBit j=true→∃ e ∈ o.after.toList,Region.binds .any e=true∧(j=e.on∨(ms.getD e.on 0).testBit j=true)
 ord:∀ (i:Nat) (o:Oper) (j:Nat) (p:Oper),ops[i]?=some o→ops[j]?=some p→j<i→(clash p.dst o.dst (ja ops p) (ja ops o) 0 0 || yF (ts.getD j 0) (ts.getD i 0))=true→(ms.getD i 0).testBit j=true
section
variable {en:Nat→Hu}
def Ad (en:Nat→Hu) (X:Nat→Bool):Nat→List Obj→List Obj
 | 0,ob=>ob
 | n+1,ob=>if X n then (match KC (en n).t with
  | some k=>(Ad en X n ob).set k ((en n).objs.getD k hole)
  | none=>Ad en X n ob) else Ad en X n ob
theorem pR (X:Nat→Bool):∀ (n:Nat) (ob:List Obj),(Ad en X n ob).length=ob.length
 | 0,_=>rfl
 | n+1,ob=>by
  simp only [Ad]
  split
  · split
    · rw [List.length_set,pR X n ob]
    · exact pR X n ob
  · exact pR X n ob
theorem rH {X Y:Nat→Bool}:∀ (n:Nat) (ob:List Obj),(∀ j,j<n→X j=Y j)→Ad en X n ob=Ad en Y n ob
 | 0,_,_=>rfl
 | n+1,ob,h=>by simp only [Ad];rw [h n (by omega),rH n ob (fun j hj=>h j (by omega))]
theorem SL {X Y:Nat→Bool}{k:Nat}:∀ (n:Nat) (ob:List Obj),(∀ j,j<n→KC (en j).t=some k→X j=Y j)→(Ad en X n ob)[k]?=(Ad en Y n ob)[k]?
 | 0,_,_=>rfl
 | n+1,ob,h=>by
  have ih:=SL (X:=X) (Y:=Y) (k:=k) n ob (fun j hj=>h j (by omega))
  have hl:(Ad en X n ob).length=(Ad en Y n ob).length:=by rw [pR,pR]
  simp only [Ad]
  cases hw:KC (en n).t with
  | none=>simp only [];split <;> split <;> exact ih
  | some k'=>
   simp only []
   by_cases hk:k'=k
   · subst hk
     rw [h n (by omega) hw]
     split
     · rw [List.getElem?_set,List.getElem?_set];simp [hl]
     · exact ih
   · split <;> split <;> (try rw [List.getElem?_set,if_neg hk]) <;> (try rw [List.getElem?_set,if_neg hk]) <;> exact ih
theorem JF {i:Nat}:∀ (n:Nat) (ob:List Obj),i≤n→Ad en (fun j=>decide (j<i)) n ob=Ad en (fun _=>true) i ob
 | 0,_,h=>by have:i=0:=by omega
             subst this;rfl
 | n+1,ob,h=>by
  by_cases hi:i=n+1
  · subst hi
    exact rH (n+1) ob fun j hj=>by simp [hj]
  · simp only [Ad]
    rw [if_neg (by simp;omega)]
    exact JF n ob (by omega)
theorem SN {X:Nat→Bool}{i k:Nat}:∀ (n:Nat) (ob:List Obj),i<n→X i=false→KC (en i).t=some k→(∀ j,i<j→j<n→X j=true→KC (en j).t≠some k)→
  Ad en (upd X i) n ob=(Ad en X n ob).set k ((en i).objs.getD k hole)
 | 0,_,h,_,_,_=>by omega
 | n+1,ob,hi,hx,hw,hd=>by
  simp only [Ad]
  by_cases hin:i=n
  · subst hin
    simp only [hx,upd,beq_self_eq_true,Bool.or_true,if_true,Bool.false_eq_true,if_false,hw]
    rw [rH (en:=en) (X:=upd X i) (Y:=X) i ob (fun j hj=>by simp [upd];omega)]
  · have hu:upd X i n=X n:=by simp [upd];omega
    rw [hu]
    have ih:=SN (X:=X) n ob (by omega) hx hw (fun j h1 h2=>hd j h1 (by omega))
    split
    · rename_i hn
      have:=hd n (by omega) (by omega) hn
      split
      · rename_i k' hk'
        rw [hk'] at this
        have hne:k≠k':=fun e=>this (by rw [e])
        rw [ih,List.set_comm _ _ hne]
      · exact ih
    · exact ih
theorem Np {X:Nat→Bool}{i:Nat}:∀ (n:Nat) (ob:List Obj),KC (en i).t=none→Ad en (upd X i) n ob=Ad en X n ob
 | 0,_,_=>rfl
 | n+1,ob,hw=>by
  have ih:=Np (X:=X) n ob hw
  simp only [Ad]
  by_cases hin:n=i
  · subst hin
    rw [hw,ih]
    simp
  · have hu:upd X i n=X n:=by simp [upd,hin]
    rw [hu,ih]
end
def uU (ops:List Oper) (tr:List Hu) (S:St) (A:Nat) (X:Nat→Bool) (n:Nat):St:=⟨FH (pO ops) (aP tr) X n S.tmps,Ad (aP tr) X n (S.objs++List.replicate A hole)⟩
theorem SQ {own:Nat→Bool}{ops:List Oper}{tr:List Hu}{S0:St}(hst:∀ i o,ops[i]?=some o→qO P D (own i) ops o (lD ops tr S0 (fun _=>true) i) (aP tr i))
  (hf:∀ i,i<ops.length→Ac (aP tr i).t=true):∀ i,i<ops.length→(o7 (aP tr) (fun _=>true) i S0.objs).length≤(o7 (aP tr) (fun _=>true) (i+1) S0.objs).length∧
   ((KC (aP tr i).t=none∧o7 (aP tr) (fun _=>true) (i+1) S0.objs=o7 (aP tr) (fun _=>true) i S0.objs)∨
    ∃ k o1,KC (aP tr i).t=some k∧(aP tr i).objs.getD k hole=o1∧
     ((k<(o7 (aP tr) (fun _=>true) i S0.objs).length∧o7 (aP tr) (fun _=>true) (i+1) S0.objs=(o7 (aP tr) (fun _=>true) i S0.objs).set k o1)∨
      (k=(o7 (aP tr) (fun _=>true) i S0.objs).length∧o7 (aP tr) (fun _=>true) (i+1) S0.objs=o7 (aP tr) (fun _=>true) i S0.objs++[o1]))):=by
 intro i hi
 have h:=hst i ops[i] (List.getElem?_eq_getElem hi)
 have hfi:=hf i hi
 have oz:(lD ops tr S0 (fun _=>true) i).objs=o7 (aP tr) (fun _=>true) i S0.objs:=rfl
 have hX:o7 (aP tr) (fun _=>true) (i+1) S0.objs=if co (aP tr i).t=2 then (aP tr i).objs else o7 (aP tr) (fun _=>true) i S0.objs:=by
  simp only [o7,Bool.true_and,beq_iff_eq]
 rcases h with ⟨_,_,_,_,Dv⟩ | ⟨_,_,_,h4⟩
 · rw [oz] at Dv
   rcases Du hfi with h0 | ⟨k,hk⟩ | ⟨k,hk⟩
   · rw [hX,h0,if_neg (by decide)]
     exact ⟨Nat.le_refl _,.inl ⟨Nn,rfl⟩⟩
   · rw [hX,hk,abz,if_neg (by decide)]
     exact ⟨Nat.le_refl _,.inl ⟨Wv k,rfl⟩⟩
   · rw [hX,if_pos (by rw [hk];exact SF k)]
     rcases Dv.wr k hk with ⟨o1,g1,g2,_⟩ | ⟨g1,o1,mk,_,_,g2,_⟩
     · rw [g2]
       refine ⟨by simp,.inr ⟨k,o1,by rw [hk];exact Qn k,?_,.inl ⟨g1,rfl⟩⟩⟩
       rw [List.getD_eq_getElem?_getD,List.getElem?_set];simp [g1]
     · rw [g2]
       refine ⟨by simp,.inr ⟨k,o1,by rw [hk];exact Qn k,?_,.inr ⟨g1,rfl⟩⟩⟩
       rw [List.getD_eq_getElem?_getD,g1];simp
 · rw [hX,h4,if_neg (by decide)]
   exact ⟨Nat.le_refl _,.inl ⟨Nn,rfl⟩⟩
theorem Ww {own:Nat→Bool}{ops:List Oper}{tr:List Hu}{S0:St}{A:Nat}(hst:∀ i o,ops[i]?=some o→qO P D (own i) ops o (lD ops tr S0 (fun _=>true) i) (aP tr i))
  (hf:∀ i,i<ops.length→Ac (aP tr i).t=true) (hA:(o7 (aP tr) (fun _=>true) ops.length S0.objs).length=S0.objs.length+A) :
  ∀ i,i≤ops.length→(o7 (aP tr) (fun _=>true) i S0.objs).length≤S0.objs.length+A∧
   Ad (aP tr) (fun _=>true) i (S0.objs++List.replicate A hole)=o7 (aP tr) (fun _=>true) i S0.objs++List.replicate (S0.objs.length+A-(o7 (aP tr) (fun _=>true) i S0.objs).length) hole:=by
 have one:=SQ hst hf
 have mono:∀ d i,i+d=ops.length→(o7 (aP tr) (fun _=>true) i S0.objs).length≤S0.objs.length+A:=by
  intro d
  induction d with
  | zero=>intro i hi;rw [Nat.add_zero] at hi;rw [hi,hA];exact Nat.le_refl _
  | succ d ih=>intro i hi;exact Nat.le_trans (one i (by omega)).1 (ih (i+1) (by omega))
 intro i
 induction i with
 | zero=>intro _;exact ⟨by simp [o7],by simp [Ad,o7]⟩
 | succ i ih=>
  intro hi
  obtain ⟨h1,h2⟩:=ih (by omega)
  have hle:=mono (ops.length-(i+1)) (i+1) (by omega)
  refine ⟨hle,?_⟩
  simp only [Ad,if_true]
  rcases (one i (by omega)).2 with ⟨g1,g2⟩ | ⟨k,o1,g1,g0,⟨g2,g3⟩ | ⟨g2,g3⟩⟩
  · rw [g1,g2];exact h2
  · rw [g1]
    simp only []
    rw [g0,h2,g3,List.set_append_left _ _ g2,List.length_set]
  · rw [g1]
    simp only []
    rw [g3,List.length_append,List.length_singleton] at hle
    rw [g0,h2,g3,List.set_append_right _ _ (by omega),List.length_append,List.length_singleton]
    have:S0.objs.length+A-(o7 (aP tr) (fun _=>true) i S0.objs).length=(S0.objs.length+A-((o7 (aP tr) (fun _=>true) i S0.objs).length+1))+1:=by omega
    rw [this,List.replicate_succ,g2,Nat.sub_self,List.set_cons_zero,List.append_assoc]
    rfl
theorem Qo {own:Nat→Bool}{ops:List Oper}{ts:List Nat}{ms:List Nat}{tr:List Hu}{S0:St}{A:Nat}(hD:∀ t,iL P t (D t)) (hok:KD ops ts ms)
  (hts:∀ i,i<ops.length→ts.getD i 0=(aP tr i).t)
  (hst:∀ i o,ops[i]?=some o→qO P D (own i) ops o (lD ops tr S0 (fun _=>true) i) (aP tr i))
  (hA:(o7 (aP tr) (fun _=>true) ops.length S0.objs).length=S0.objs.length+A)
  {X:Nat→Bool}{i:Nat}{o:Oper}(ho:ops[i]?=some o) (hX:X i=false) (hcl:∀ j,j<ops.length→X j=true→∀ x,(ms.getD j 0).testBit x=true→X x=true)
  (hrd:∀ x,(ms.getD i 0).testBit x=true→X x=true)
  {base ak:Nat→Prop}{w0:Wz}{blk:Nat→Option Nat}{a:Act}{w:World}(R:Rel base ak w0 (uU ops tr S0 A X ops.length) blk a w)
  {Q:Exit→Act→World→Prop}{K:Act→World→Prop}(hK:∀ av a' w',Rel base ak w0 (uU ops tr S0 A (upd X i) ops.length) av a' w'→K a' w') :
  wpOpIn (EF l) 0 P ops.toArray Q i K a w:=by
 have hi:i<ops.length:=(List.getElem?_eq_some_iff.1 ho).1
 have hdst:pO ops i=o.dst:=by simp [pO,ho]
 have KA:∀ j,j<ops.length→∃ p,ops[j]?=some p∧pO ops j=p.dst:=fun j hj=>⟨ops[j],List.getElem?_eq_getElem hj,by simp [pO,List.getElem?_eq_getElem hj]⟩
 have hf:∀ j,j<ops.length→Ac (aP tr j).t=true:=fun j hj=>by rw [← hts j hj];exact hok.fine j hj
 have before:∀ j p,ops[j]?=some p→j<i→(clash p.dst o.dst (ja ops p) (ja ops o) 0 0 || yF (aP tr j).t (aP tr i).t)=true→X j=true:=
  fun j p hp hj hc=>hrd j (hok.ord i o j p ho hp hj (by rw [hts j (List.getElem?_eq_some_iff.1 hp).1,hts i hi];exact hc))
 have behind:∀ j p,ops[j]?=some p→i<j→(clash o.dst p.dst (ja ops o) (ja ops p) 0 0 || yF (aP tr i).t (aP tr j).t)=true→X j=false:=fun j p hp hj hc=>by
  cases hx:X j with
  | false=>rfl
  | true=>
   have hjl:=(List.getElem?_eq_some_iff.1 hp).1
   have:=hcl j hjl hx i (hok.ord j p i o hp ho hj (by rw [hts j hjl,hts i hi];exact hc))
   rw [hX] at this;cases this
 have SK:∀ x ∈ ja ops o,(lD ops tr S0 (fun _=>true) i).tmps.getD x .dead=(uU ops tr S0 A X ops.length).tmps.getD x .dead:=by
  intro x hx
  simp only [lD,uU]
  rw [← Cs (dst:=pO ops) ops.length S0.tmps (Nat.le_of_lt hi)]
  refine FI _ _ fun j hj hd=>?_
  obtain ⟨p,hp,Ws⟩:=KA j hj
  rw [Ws] at hd
  rcases Nat.lt_trichotomy j i with hji | hji | hji
  · rw [before j p hp hji (by rw [FL hd hx];rfl)];simp [hji]
  · subst hji;rw [hX];simp
  · rw [behind j p hp hji (by rw [Dt hd hx];rfl)];simp;omega
 have hadd:oG o.dst (aP tr i).r (uU ops tr S0 A X ops.length).tmps=(uU ops tr S0 A (upd X i) ops.length).tmps:=by
  simp only [uU]
  rw [← hdst]
  refine Kv _ _ hi hX fun j hj hjn hxj x hx hd=>?_
  obtain ⟨p,hp,Ws⟩:=KA j hjn
  rw [Ws] at hd
  rw [hdst] at hx
  have:=behind j p hp hj (by rw [JE hx hd];rfl)
  rw [this] at hxj;cases hxj
 obtain ⟨hle,abA⟩:=Ww hst hf hA i (Nat.le_of_lt hi)
 obtain ⟨T,hT⟩:∃ T,T=o7 (aP tr) (fun _=>true) i S0.objs:=⟨_,rfl⟩
 rw [← hT] at hle abA
 obtain ⟨B,hB⟩:∃ B,B=Ad (aP tr) X ops.length (S0.objs++List.replicate A hole):=⟨_,rfl⟩
 have slot:∀ k,((aP tr i).t=4+2*k∨(aP tr i).t=5+2*k)→B[k]?=(T++List.replicate (S0.objs.length+A-T.length) hole)[k]?:=by
  intro k hk
  rw [hB,← abA,← JF ops.length _ (Nat.le_of_lt hi)]
  refine SL _ _ fun j hj hw=>?_
  obtain ⟨p,hp,Ws⟩:=KA j hj
  rcases Nat.lt_trichotomy j i with hji | hji | hji
  · rw [before j p hp hji (by rw [Ct (.inl ⟨hw,hk⟩),Bool.or_true])];simp [hji]
  · subst hji;rw [hX];simp
  · rw [behind j p hp hji (by rw [Ct (.inr ⟨hw,hk⟩),Bool.or_true])];simp;omega
 have hwr:∀ k,KC (aP tr i).t=some k→((aP tr i).t=4+2*k∨(aP tr i).t=5+2*k)→(uU ops tr S0 A (upd X i) ops.length).objs=B.set k ((aP tr i).objs.getD k hole):=by
  intro k hw hk
  simp only [uU]
  rw [hB]
  refine SN _ _ hi hX hw fun j hj hjn hxj hwj=>?_
  obtain ⟨p,hp,Ws⟩:=KA j hjn
  have:=behind j p hp hj (by rw [Ct (.inr ⟨hwj,hk⟩),Bool.or_true])
  rw [this] at hxj;cases hxj
 have Wx:KC (aP tr i).t=none→(uU ops tr S0 A (upd X i) ops.length).objs=B:=fun hw=>by
  simp only [uU];rw [hB];exact Np _ _ hw
 have hput:∀ objs',(objs'=(uU ops tr S0 A (upd X i) ops.length).objs)→St.put ⟨(uU ops tr S0 A X ops.length).tmps,objs'⟩ o.dst (aP tr i).r=uU ops tr S0 A (upd X i) ops.length:=by
  rintro objs' rfl
  cases hd:o.dst with
  | none=>rw [hd] at hadd;simp only [oG] at hadd;simp only [St.put];rw [hadd]
  | some d=>rw [hd] at hadd;simp only [oG] at hadd;simp only [St.put];rw [hadd]
 have Nq:(uU ops tr S0 A X ops.length).objs=B:=hB.symm
 have hTo:(lD ops tr S0 (fun _=>true) i).objs=T:=hT.symm
 have hev:∀ x ∈ o.op.operands,(lD ops tr S0 (fun _=>true) i).ev x=(uU ops tr S0 A X ops.length).ev x:=by
  intro x hm
  cases x with
  | tmp t=>exact SK t (List.mem_append_left _ (List.mem_filterMap.2 ⟨.tmp t,by simpa using hm,rfl⟩))
  | _=>rfl
 have hg:iM ops o.guard (lD ops tr S0 (fun _=>true) i).tmps=iM ops o.guard (uU ops tr S0 A X ops.length).tmps:=by
  cases hgd:o.guard with
  | none=>rfl
  | some g=>
   obtain ⟨j,want⟩:=g
   simp only [iM]
   cases hd:(ops[j]?).bind (·.dst) with
   | none=>rfl
   | some d=>
    simp only []
    rw [SK d (List.mem_append_right _ (by rw [hgd];simp [hd]))]
 unfold wpOpIn
 have h0:ops.toArray[i]?=some o:=by simpa using ho
 rw [h0]
 simp only []
 rcases hst i o ho with ⟨h1,_,_,h4,Dv⟩ | ⟨h1,h2,_,h3⟩
 · rw [hg] at h1
   rw [if_pos (oD R h1)]
   rw [hTo] at Dv
   have run:∀ (O2:List Obj) (r2:PV),(∀ K:KT,(∀ t,K r2 O2 t)→Ht P D (own i) (lD ops tr S0 (fun _=>true) i).ev B o.op K)→r2=(aP tr i).r→O2=(uU ops tr S0 A (upd X i) ops.length).objs→
       o.wpIn (EF l) 0 P a w K Q:=by
    intro O2 r2 hop hr2 hO2
    have h5:=wK hev (hop (fun r objs' _=>r=r2∧objs'=O2) (fun _=>⟨rfl,rfl⟩))
    rw [← Nq] at h5
    refine z8 l hD R h5 fun r objs' t v w' av hr R' hv=>?_
    obtain ⟨rfl,rfl⟩:=hr
    have:=R'.put hv o.dst
    rw [hr2,hput objs' hO2] at this
    exact hK _ _ _ this
   rcases Du (hf i hi) with ht | ⟨k,hk⟩ | ⟨k,hk⟩
   · exact run B _ (fun K hk=>h4 ht B K (hk 0)) rfl (Wx (by rw [ht];rfl)).symm
   · obtain ⟨_,g1,g2⟩:=Dv.rd k hk
     have hs:=slot k (.inl hk)
     rw [List.getElem?_append_left g1] at hs
     exact run B _ (fun K hk'=>g2 B K hs (hk' _)) rfl (Wx (by rw [hk];exact Wv k)).symm
   · have hs:=slot k (.inr hk)
     have hw:=hwr k (by rw [hk];exact Qn k) (.inr hk)
     rcases Dv.wr k hk with ⟨o1,g1,g2,g3⟩ | ⟨g1,o1,mk,hm,gr,g2,hl1,hv1,g3⟩
     · rw [List.getElem?_append_left g1] at hs
       have hc:(aP tr i).objs.getD k hole=o1:=by
        rw [g2,List.getD_eq_getElem?_getD,List.getElem?_set];simp [g1]
       exact run (B.set k o1) _ (fun K hk'=>g3 B K hs (hk' _)) rfl (by rw [hw,hc])
     · have hc:(aP tr i).objs.getD k hole=o1:=by
        rw [g2,List.getD_eq_getElem?_getD,g1];simp
       have hlen:(o7 (aP tr) (fun _=>true) (i+1) S0.objs).length≤S0.objs.length+A:=(Ww hst hf hA (i+1) hi).1
       have hX1:o7 (aP tr) (fun _=>true) (i+1) S0.objs=T++[o1]:=by
        simp only [o7,Bool.true_and,beq_iff_eq]
        rw [if_pos (by rw [hk];exact SF k),g2]
       rw [hX1,List.length_append,List.length_singleton] at hlen
       have abB:B[k]?=some hole:=by
        rw [hs,g1,List.getElem?_append_right (Nat.le_refl _),Nat.sub_self,List.getElem?_replicate,if_pos (by omega)]
       have h5:=wK hev (g3 B (fun r objs' _=>r=mk B.length∧objs'=B++[o1]) ⟨rfl,rfl⟩)
       rw [← Nq] at h5
       refine JB l hD R h5 fun r objs' t v w' av hr R' hv hn=>?_
       obtain ⟨rfl,rfl⟩:=hr
       rw [Nq] at R' hv hn
       have R0:Rel base ak w0 ⟨(uU ops tr S0 A X ops.length).tmps,B⟩ blk a w:=by rw [← Nq];exact R
       obtain ⟨iG,R2,hv2⟩:=R0.fill abB hl1 hv1 R' hn hm hv
       have:=R2.put hv2 o.dst
       rw [← gr,hput _ (by rw [hw,hc])] at this
       exact hK _ _ _ this
 · rw [hg] at h1
   rw [if_neg (by rw [oD R h1];simp)]
   refine ⟨fun _ _=>trivial,?_⟩
   have:=R.put (wL w _ _ blk) o.dst
   rw [← h2] at this
   have hs:=hput (uU ops tr S0 A X ops.length).objs (by rw [Nq,Wx (by rw [h3];rfl)])
   rw [show (uU ops tr S0 A X ops.length).put o.dst (aP tr i).r=St.put ⟨(uU ops tr S0 A X ops.length).tmps,(uU ops tr S0 A X ops.length).objs⟩ o.dst (aP tr i).r from rfl,hs] at this
   exact hK _ _ _ this
theorem Nr {own:Nat→Bool}{ops:List Oper}{ts:List Nat}{ms:List Nat}{tr:List Hu}{S0:St}{A:Nat}(hD:∀ t,iL P t (D t)) (hok:KD ops ts ms)
  (hts:∀ i,i<ops.length→ts.getD i 0=(aP tr i).t)
  (hst:∀ i o,ops[i]?=some o→qO P D (own i) ops o (lD ops tr S0 (fun _=>true) i) (aP tr i))
  (hA:(o7 (aP tr) (fun _=>true) ops.length S0.objs).length=S0.objs.length+A)
  {base ak:Nat→Prop}{w0:Wz}{Q:Exit→Act→World→Prop}
  (hQ:∀ av a' w',Rel base ak w0 (uU ops tr S0 A (fun _=>true) ops.length) av a' w'→Q .normal a' w') :
  ∀ (fuel:Nat) (L:Array Bool) (blk:Nat→Option Nat) (a:Act) (w:World),L.size=ops.length→
   (∀ j,j<ops.length→L.getD j false=true→∀ x,(ms.getD j 0).testBit x=true→L.getD x false=true)→cnt (fun j=>L.getD j false) ops.length≤fuel→
   Rel base ak w0 (uU ops tr S0 A (fun j=>L.getD j false) ops.length) blk a w→wpAnyIn (EF l) 0 P .any ops.toArray Q fuel L a w:=by
 have full:∀ (L:Array Bool),L.size=ops.length→Region.ready .any ops.toArray L=[]→∀ i,i<ops.length→L.getD i false=true:=by
  intro L hsz hr i
  induction i using Nat.strongRecOn with
  | _ i ih=>
   intro hi
   cases hx:L.getD i false with
   | true=>rfl
   | false=>
    have hmem:i ∈ Region.ready .any ops.toArray L:=by
     simp only [Region.ready,List.mem_filter,List.mem_range,and_eq_true]
     refine ⟨by simpa using hi,?_,?_⟩
     · have hil:i<L.size:=by omega
       rw [Array.getD_eq_getD_getElem?,Array.getElem?_eq_getElem hil,getD_some] at hx ⊢
       rw [hx];rfl
     · have ho:ops.toArray[i]?=some ops[i]:=by simp [hi]
       rw [ho]
       simp only [map_some,getD_some]
       rw [Array.all_eq_true']
       intro e he
       cases hbd:Region.binds .any e with
       | false=>simp
       | true=>
        have hb:=hok.back i ops[i] (List.getElem?_eq_getElem hi) e (by simpa using he) hbd
        rw [ih e.on hb (by omega)];simp
    rw [hr] at hmem
    simp at hmem
 have step:∀ (L:Array Bool) (i:Nat),L.size=ops.length→i ∈ Region.ready .any ops.toArray L→∃ o,ops[i]?=some o∧L.getD i false=false∧∀ e ∈ o.after.toList,Region.binds .any e=true→L.getD e.on false=true:=by
  intro L i hsz hm
  simp only [Region.ready,List.mem_filter,List.mem_range,and_eq_true] at hm
  obtain ⟨hi,h1,h2⟩:=hm
  have hi:i<ops.length:=by simpa using hi
  have ho:ops.toArray[i]?=some ops[i]:=by simp [hi]
  rw [ho] at h2
  simp only [map_some,getD_some] at h2
  rw [Array.all_eq_true'] at h2
  refine ⟨ops[i],List.getElem?_eq_getElem hi,?_,fun e he hb=>?_⟩
  · have hil:i<L.size:=by omega
    rw [Array.getD_eq_getD_getElem?,Array.getElem?_eq_getElem hil,getD_some] at h1 ⊢
    simpa using h1
  · have:=h2 e (by simpa using he)
    rw [hb] at this
    simpa using this
 intro fuel
 induction fuel with
 | zero=>
  intro L blk a w hsz hcl hc R
  have hall:=FJ (X:=fun j=>L.getD j false) ops.length (by omega)
  have hst':uU ops tr S0 A (fun j=>L.getD j false) ops.length=uU ops tr S0 A (fun _=>true) ops.length:=by
   simp only [uU];rw [mQ ops.length _ hall,rH ops.length _ fun j hj=>hall j hj]
  refine ⟨?_,hQ blk a w (hst' ▸ R)⟩
  cases hr:Region.ready .any ops.toArray L with
  | nil=>rfl
  | cons i is=>
   obtain ⟨o,ho,hx,_⟩:=step L i hsz (by rw [hr];exact List.mem_cons_self)
   rw [hall i (List.getElem?_eq_some_iff.1 ho).1] at hx
   cases hx
 | succ fuel ih=>
  intro L blk a w hsz hcl hc R
  refine ⟨fun hr=>?_,fun i hm=>?_⟩
  · have hall:=full L hsz hr
    have hst':uU ops tr S0 A (fun j=>L.getD j false) ops.length=uU ops tr S0 A (fun _=>true) ops.length:=by
     simp only [uU];rw [mQ ops.length _ hall,rH ops.length _ fun j hj=>hall j hj]
    exact hQ blk a w (hst' ▸ R)
  · obtain ⟨o,ho,hx,hrd⟩:=step L i hsz hm
    have hi:i<ops.length:=(List.getElem?_eq_some_iff.1 ho).1
    have Wt:∀ x,(ms.getD i 0).testBit x=true→L.getD x false=true:=by
     intro x hb
     obtain ⟨e,h1,h2,h3⟩:=hok.mask i o ho x hb
     have he:=hrd e h1 h2
     rcases h3 with rfl | h3
     · exact he
     · exact hcl e.on (by have:=hok.back i o ho e h1 h2;omega) he x h3
    have Wu:∀ j,(L.setIfInBounds i true).getD j false=upd (fun j=>L.getD j false) i j:=by
     intro j
     rw [Array.getD_eq_getD_getElem?,Array.getElem?_setIfInBounds]
     simp only [upd]
     by_cases hij:i=j
     · subst hij
       rw [if_pos rfl,if_pos (by omega)];simp
     · rw [if_neg hij,Array.getD_eq_getD_getElem?]
       have:(j==i)=false:=by simp;omega
       rw [this,Bool.or_false]
    have hfun:(fun j=>(L.setIfInBounds i true).getD j false)=upd (fun j=>L.getD j false) i:=funext Wu
    refine Qo (X:=fun j=>L.getD j false) hD hok hts hst hA ho hx hcl Wt R fun av a' w' R'=>?_
    refine ih _ av a' w' (by simpa using hsz) ?_ ?_ (by rw [hfun];exact R')
    · intro j hj hb x hbx
      rw [Wu] at hb ⊢
      simp only [upd,or_eq_true,beq_iff_eq] at hb ⊢
      rcases hb with hb | rfl
      · exact .inl (hcl j hj hb x hbx)
      · exact .inl (Wt x hbx)
    · rw [hfun]
      have:=Ky (X:=fun j=>L.getD j false) ops.length hi hx
      omega
def wM (ops:List Oper) (ts:List Nat):Bool:=
 let ms:=masks ops []
 let ls:=ops.map (ja ops)
 ((List.range ops.length).all fun i=>Ac (ts.getD i 0)) &&
 (List.range ops.length).all fun i=>
  match ops[i]? with
  | none=>true
  | some o=>
   (o.after.toList.all fun e=>!Region.binds .any e || decide (e.on<i)) &&
   (ms.getD i 0 &&& Cr ms o==ms.getD i 0) &&
   (List.range i).all fun j=>
    !(clash ((ops[j]?).bind (·.dst)) o.dst (ls.getD j []) (ls.getD i []) 0 0 || yF (ts.getD j 0) (ts.getD i 0)) || (ms.getD i 0).testBit j
theorem KE {ops:List Oper}{ts:List Nat}(h:wM ops ts=true):KD ops ts (masks ops []):=by
 unfold wM at h
 simp only [and_eq_true,List.all_eq_true,List.mem_range] at h
 obtain ⟨Dv,h⟩:=h
 have hh:∀ i o,ops[i]?=some o→_:=fun i o ho=>by
  have:=h i (List.getElem?_eq_some_iff.1 ho).1
  rw [ho] at this
  simp only [and_eq_true,List.all_eq_true,List.mem_range,beq_iff_eq] at this
  exact this
 refine ⟨Dv,fun i o ho e he hb=>by simpa [hb] using (hh i o ho).1.1 e he,fun i o ho j hj=>?_,fun i o j p ho hp hji hc=>?_⟩
 · refine FK ?_
   have h2:=(hh i o ho).1.2
   rw [← h2,Nat.testBit_and] at hj
   simp only [and_eq_true] at hj
   exact hj.2
 · have h3:=(hh i o ho).2 j hji
   have hlt:=(List.getElem?_eq_some_iff.1 hp).1
   have e1:(ops.map (ja ops)).getD j []=ja ops p:=by rw [List.getD_eq_getElem?_getD,List.getElem?_map,hp];rfl
   have e2:(ops.map (ja ops)).getD i []=ja ops o:=by rw [List.getD_eq_getElem?_getD,List.getElem?_map,ho];rfl
   rw [e1,e2,hp] at h3
   simp only [Option.bind_some,hc,Bool.not_true,Bool.false_or] at h3
   exact h3
theorem PW.abC {E:Env}{id:Nat}{ops:List Oper}{Q:Exit→St→Prop}{S:St}(own:Nat→Bool) (hD:∀ t,iL P t (D t)) (hm:P.follows .mixedOrders=true)
  (h:pM P D own ops ops 0 S [] fun S' ts=>(sZ ops ts || wM ops ts)=true∧Q .normal S'):PW P l E (.region id ops.toArray true) Q S:=by
 intro base ak V hE blk a w ⟨w0,hV,R⟩
 obtain ⟨tr,S',h1,h2,h3⟩:=lT _ _ _ _ _ h
 obtain ⟨h4,h5⟩:=vC (S0:=S) (tr0:=tr) ops 0 S tr S' h1 (fun j=>by simp) (fun j=>by simp) rfl
 refine wpIn_region_any hm ?_
 have R':Rel base ak w0 S blk a { w with drawn:=w.drawn+1 }:=R.grew (.same rfl)
 have hcn:∀ (X:Nat→Bool) n,cnt X n≤n:=by
  intro X n
  induction n with
  | zero=>exact Nat.le_refl _
  | succ n ih=>simp only [cnt];split <;> omega
 have hrep:∀ j,(Array.replicate ops.toArray.size false).getD j false=false:=by
  intro j
  rw [Array.getD_eq_getD_getElem?,Array.getElem?_replicate]
  split <;> rfl
 have htr:tr.length=ops.length:=by
  clear h2 h3 h4 h5 h
  have:∀ (qg:List Oper) (k:Nat) (S:St) (tr:List Hu) (S':St),Trace P D own ops qg k S tr S'→tr.length=qg.length:=by
   intro qg
   induction qg with
   | nil=>rintro k S tr S' ⟨rfl,_⟩;rfl
   | cons o qg ih=>
    rintro k S tr S' ⟨e,tr',rfl,_,h⟩
    simp [ih _ _ _ _ h]
  exact this _ _ _ _ _ h1
 have hts:∀ i,i<ops.length→(tr.map (·.t)).getD i 0=(aP tr i).t:=by
  intro i hi
  have hil:i<tr.length:=by omega
  simp [aP,List.getD_eq_getElem?_getD,List.getElem?_map,List.getElem?_eq_getElem hil]
 rw [Nat.zero_add] at h5
 subst h5
 have hst:∀ i o,ops[i]?=some o→qO P D (own i) ops o (lD ops tr S (fun _=>true) i) (aP tr i):=fun i o ho=>h4 i o (Nat.zero_le _) ho
 have hc:=hcn (fun j=>(Array.replicate ops.toArray.size false).getD j false) ops.length
 have hsz:ops.toArray.size=ops.length:=by simp
 have hrs:(Array.replicate ops.toArray.size false).size=ops.length:=by simp
 have hQ:∀ av a' w',Rel base ak w0 (lD ops tr S (fun _=>true) ops.length) av a' w'→∃ S' pQ,Q .normal S'∧qm base ak V S' pQ a' w':=
  fun av a' w' R''=>⟨_,av,h3,w0,hV,R''⟩
 have hcl:∀ j,j<ops.length→(Array.replicate ops.toArray.size false).getD j false=true→∀ x,((masks ops []).getD j 0).testBit x=true→(Array.replicate ops.toArray.size false).getD x false=true:=by
  intro j _ hb
  rw [hrep] at hb;cases hb
 have e1:∀ (L:Array Bool),(∀ j,L.getD j false=false)→∀ n tm,FH (pO ops) (aP tr) (fun j=>L.getD j false) n tm=tm:=by
  intro L hL n tm
  induction n with
  | zero=>rfl
  | succ n ih=>simp only [FH];rw [if_neg (by rw [hL n];simp)];exact ih
 rcases or_eq_true _ _ ▸ h2 with h2 | h2
 · have hR:∀ (L:Array Bool),(∀ j,L.getD j false=false)→lD ops tr S (fun j=>L.getD j false) ops.length=S:=by
    intro L hL
    have e2:∀ n ob,o7 (aP tr) (fun j=>L.getD j false) n ob=ob:=by
     intro n ob
     induction n with
     | zero=>rfl
     | succ n ih=>simp only [o7];rw [if_neg (by rw [hL n];simp)];exact ih
    simp only [lD,e1 L hL,e2]
   have R1:Rel base ak w0 (lD ops tr S (fun j=>(Array.replicate ops.toArray.size false).getD j false) ops.length) blk a { w with drawn:=w.drawn+1 }:=by rw [hR _ hrep];exact R'
   have h2':sZ ops (tr.map (·.t))=true:=h2
   generalize Array.replicate ops.toArray.size false=L at *
   exact FM (Q:=fun e a' w'=>∃ S' av,Q e S'∧qm base ak V S' av a' w') hD (Dr h2') hts hst hQ ops.toArray.size L blk a _ hrs hcl (by rw [hsz];exact hc) R1
 · have h2':=KE h2
   have hf:∀ i,i<ops.length→Ac (aP tr i).t=true:=fun i hi=>by rw [← hts i hi];exact h2'.fine i hi
   have mono:∀ i,i≤ops.length→S.objs.length≤(o7 (aP tr) (fun _=>true) i S.objs).length:=by
    intro i
    induction i with
    | zero=>intro _;exact Nat.le_refl _
    | succ i ih=>intro hi;exact Nat.le_trans (ih (by omega)) (SQ hst hf i (by omega)).1
   obtain ⟨A,hA⟩:∃ A,(o7 (aP tr) (fun _=>true) ops.length S.objs).length=S.objs.length+A:=⟨(o7 (aP tr) (fun _=>true) ops.length S.objs).length-S.objs.length,by have:=mono ops.length (Nat.le_refl _);omega⟩
   obtain ⟨YF,R0⟩:=R'.holes A
   have hR:∀ (L:Array Bool),(∀ j,L.getD j false=false)→uU ops tr S A (fun j=>L.getD j false) ops.length=⟨S.tmps,S.objs++List.replicate A hole⟩:=by
    intro L hL
    have e2:∀ n ob,Ad (aP tr) (fun j=>L.getD j false) n ob=ob:=by
     intro n ob
     induction n with
     | zero=>rfl
     | succ n ih=>simp only [Ad];rw [if_neg (by rw [hL n];simp)];exact ih
    simp only [uU,e1 L hL,e2]
   have R1:Rel base ak w0 (uU ops tr S A (fun j=>(Array.replicate ops.toArray.size false).getD j false) ops.length) YF a { w with drawn:=w.drawn+1 }:=by rw [hR _ hrep];exact R0
   have hend:uU ops tr S A (fun _=>true) ops.length=lD ops tr S (fun _=>true) ops.length:=by
    have:=(Ww hst hf hA ops.length (Nat.le_refl _)).2
    simp only [uU,lD]
    rw [this,hA,Nat.sub_self,List.replicate_zero,List.append_nil]
   have hQ2:∀ av a' w',Rel base ak w0 (uU ops tr S A (fun _=>true) ops.length) av a' w'→∃ S' pQ,Q .normal S'∧qm base ak V S' pQ a' w':=
    fun av a' w' R''=>hQ av a' w' (hend ▸ R'')
   generalize Array.replicate ops.toArray.size false=L at *
   exact Nr (Q:=fun e a' w'=>∃ S' av,Q e S'∧qm base ak V S' av a' w') hD h2' hts hst hA hQ2 ops.toArray.size L YF a _ hrs hcl (by rw [hsz];exact hc) R1
end Lp
namespace Lp
open Go
open List (map_congr_left map_id)
open Option (map_some)
def PV.bC (f:PV→PV):PV→PV
 | .agg cs=>.agg (cs.map f)
 | p=>f p
theorem Ae {p:PV}(h:p.isAgg=false):p.cells=[p]:=by cases p <;> first | rfl | (simp [PV.isAgg] at h)
theorem lU {f:PV→PV}(hf:∀ p,p.isAgg=false→(f p).isAgg=false) (x:PV):(x.bC f).cells=x.cells.map f:=by
 cases hx:x.isAgg with
 | true=>
  cases x <;> simp [PV.isAgg] at hx
  rfl
 | false=>
  have:x.bC f=f x:=by cases x <;> first | rfl | (simp [PV.isAgg] at hx)
  rw [this,Ae hx,Ae (hf x hx)]
  rfl
def fG:Nat→Nat→List Obj→PV→PV
 | 0,_,_,.aY ..=>.dead
 | 0,_,_,.bM ..=>.dead
 | _,_,_,.sJ ..=>.dead
 | d+1,n,objs,.aY k ver=>
  match objs[k]? with
  | some o=>if decide (n≤k) && o.live && o.ver==ver then .sl o.sz (o.xs.map (PV.bC (fG d n objs))) none else .dead
  | none=>.dead
 | d+1,n,objs,.bM k ver i f=>
  match objs[k]? with
  | some o=>if decide (n≤k) && o.live && o.ver==ver && f==0 then (match o.xs[i]? with | some x=>.addr (x.bC (fG d n objs)) | none=>.dead) else .dead
  | none=>.dead
 | _,_,_,p=>p
def eP (d n:Nat) (objs:List Obj):PV→PV
 | .aY k ver=>if k<n then .aY k ver else fG d n objs (.aY k ver)
 | .bM k ver i f=>if k<n then .bM k ver i f else fG d n objs (.bM k ver i f)
 | .sJ k ver=>if k<n then .sJ k ver else .dead
 | p=>p
def gL (d n:Nat) (objs:List Obj):PV→PV
 | .fn f a c=>.fn f (a.map (eP d n objs)) (c.map (eP d n objs))
 | .bU cs=>.bU (cs.map (eP d n objs))
 | .agg cs=>.agg (cs.map (eP d n objs))
 | p=>eP d n objs p
def fu (d n:Nat) (objs:List Obj) (o:Obj):Obj:={ o with xs:=o.xs.map (PV.bC (eP d n objs)) }
def St.freeze (d n:Nat) (S:St):St:=⟨S.tmps.map (gL d n S.objs),(S.objs.take n).map (fu d n S.objs)⟩
theorem FN (d n:Nat) (objs:List Obj) (p:PV) (h:p.isAgg=false):(fG d n objs p).isAgg=false:=by
 cases d <;> cases p <;> simp only [fG] <;> first | rfl | exact h | (split <;> first | rfl | (split <;> first | rfl | (split <;> rfl)))
theorem SS (d n:Nat) (objs:List Obj) (p:PV) (h:p.isAgg=false):(eP d n objs p).isAgg=false:=by
 cases p <;> simp only [eP] <;> first | rfl | exact h | (split <;> first | rfl | (exact FN _ _ _ _ rfl))
section
variable {base ak:Nat→Prop}{w0:Wz}{S:St}{blk:Nat→Option Nat}{a:Act}{w:World}
theorem mR {d n k:Nat}{o':Obj}(h:(S.freeze d n).objs[k]?=some o'):k<n∧∃ o,S.objs[k]?=some o∧o'=fu d n S.objs o:=by
 simp only [St.freeze,List.getElem?_map,List.getElem?_take] at h
 split at h
 · rename_i hk
   cases ho:S.objs[k]? with
   | none=>rw [ho] at h;simp at h
   | some o=>rw [ho] at h;exact ⟨hk,o,rfl,by simpa using h.symm⟩
 · simp at h
theorem FO {d n b:Nat}(h:aW S.objs blk b):aW (S.freeze d n).objs blk b:=by
 intro k o' ho' hl
 obtain ⟨_,o,ho,rfl⟩:=mR ho'
 exact h k o ho hl
theorem wN {d n b:Nat}(h:bZ base S.objs blk b):bZ base (S.freeze d n).objs blk b:=⟨h.1,FO h.2⟩
theorem Af (R:Rel base ak w0 S blk a w){d n k g:Nat}{o:Obj}(hk:n≤k) (ho:S.objs[k]?=some o) (hl:o.live=true) (hg:blk k=some g):bZ base (S.freeze d n).objs blk g:=by
 refine ⟨R.pb g (R.objs.np k o g ho hl hg),fun k' o' ho' hl'=>?_⟩
 obtain ⟨hk',o1,ho1,rfl⟩:=mR ho'
 exact R.objs.Js k k' o o1 g (by omega) ho hl ho1 hl' hg
theorem Ns (R:Rel base ak w0 S blk a w) (d' n:Nat):∀ (d:Nat) (p:PV) (v:Value),bL w (bZ base S.objs blk) S.objs blk p v→dB w (bZ base (S.freeze d' n).objs blk) (fG d n S.objs p) v:=by
 intro d
 induction d with
 | zero=>
  intro p v h
  have hm:∀ q:PV,dB w (bZ base S.objs blk) q v→dB w (bZ base (S.freeze d' n).objs blk) q v:=fun q hq=>hq.mono (Nat.le_refl _) (fun b _ h=>wN h) (fun _ _ _ h=>h)
  cases p <;> simp only [fG] <;> first | exact .dead v | exact hm _ h
 | succ d ih=>
  intro p v h
  have hm:∀ q:PV,dB w (bZ base S.objs blk) q v→dB w (bZ base (S.freeze d' n).objs blk) q v:=fun q hq=>hq.mono (Nat.le_refl _) (fun b _ h=>wN h) (fun _ _ _ h=>h)
  cases p
  case aY k ver=>
   obtain ⟨_,o,ho,_,h3⟩:=h
   simp only [fG,ho]
   split
   · rename_i hc
     simp only [Bool.and_eq_true,decide_eq_true_eq,beq_iff_eq] at hc
     obtain ⟨⟨hn,hl⟩,hv⟩:=hc
     obtain ⟨hM,hh⟩:=h3 hl hv
     have hb:=R.objs.ob k o ho hl
     unfold zU at hh
     unfold bY at hb
     cases hg:blk k with
     | none=>
      rw [hg] at hh
      obtain ⟨rfl,hx⟩:=hh
      rw [hx]
      exact .slnil _ _ (by simp)
     | some g=>
      rw [hg] at hh hb
      obtain ⟨cap,c,rfl,hc,h4,h5,h6⟩:=hh
      obtain ⟨c',hc',h7,h8⟩:=hb
      rw [jW hM,hc] at hc'
      cases hc'
      have hlen:(o.xs.map (PV.bC (fG d n S.objs))).length=o.xs.length:=by simp
      rw [← hlen]
      have hel:∀ (i:Nat) (x:PV),(o.xs.map (PV.bC (fG d n S.objs)))[i]?=some x→∃ x0,o.xs[i]?=some x0∧x.cells=x0.cells.map (fG d n S.objs):=by
       intro i x hx
       rw [List.getElem?_map] at hx
       cases h0:o.xs[i]? with
       | none=>rw [h0] at hx;simp at hx
       | some x0=>
        rw [h0] at hx
        simp only [map_some,Option.some.injEq] at hx
        subst hx
        exact ⟨x0,rfl,lU (FN _ _ _) x0⟩
      have hgl:g<w.heap.size:=(Array.getElem?_eq_some_iff.1 hc).1
      refine .sl _ _ _ (by simp) g 0 cap (fun i j=>c.getD (i*o.sz+j) undef) (fun _=>⟨Af R hn ho hl hg,hgl⟩) (by rw [hlen];exact h4) h5 ?_ ?_ ?_
      · intro i x hx
        obtain ⟨x0,hx0,e⟩:=hel i x hx
        rw [e,List.length_map];exact (h8 i x0 hx0).1
      · intro i x j p hx hp
        obtain ⟨x0,hx0,e⟩:=hel i x hx
        rw [e,List.getElem?_map] at hp
        cases hp0:x0.cells[j]? with
        | none=>rw [hp0] at hp;simp at hp
        | some p0=>
         obtain ⟨u,hu,_⟩:=(h8 i x0 hx0).2 j p0 hp0
         have:0+i*o.sz+j=i*o.sz+j:=by omega
         unfold World.cell?
         simp only [hc,this]
         rw [Array.getD_eq_getD_getElem?,hu]
         rfl
      · intro i x j p hx hp
        obtain ⟨x0,hx0,e⟩:=hel i x hx
        rw [e,List.getElem?_map] at hp
        cases hp0:x0.cells[j]? with
        | none=>rw [hp0] at hp;simp at hp
        | some p0=>
         rw [hp0] at hp
         simp only [map_some,Option.some.injEq] at hp
         subst hp
         obtain ⟨u,hu,hr⟩:=(h8 i x0 hx0).2 j p0 hp0
         rw [Array.getD_eq_getD_getElem?,hu]
         exact ih p0 u hr
   · exact .dead v
  case bM k ver i f=>
   obtain ⟨_,o,ho,_,h3⟩:=h
   simp only [fG,ho]
   split
   · rename_i hc
     simp only [Bool.and_eq_true,decide_eq_true_eq,beq_iff_eq] at hc
     obtain ⟨⟨⟨hn,hl⟩,hv⟩,rfl⟩:=hc
     obtain ⟨hM,g,hg,rfl⟩:=h3 hl hv
     have hb:=R.objs.ob k o ho hl
     unfold bY at hb
     rw [hg] at hb
     obtain ⟨c,hc,h7,h8⟩:=hb
     rw [jW hM] at hc
     have hgl:g<w.heap.size:=(Array.getElem?_eq_some_iff.1 hc).1
     cases hx:o.xs[i]? with
     | none=>exact .dead _
     | some x0=>
      have e:=lU (FN d n S.objs) x0
      refine .addr _ g (i*o.sz+0) (fun j=>c.getD (i*o.sz+j) undef) ⟨Af R hn ho hl hg,hgl⟩ ?_ ?_
      · intro j p hp
        rw [e,List.getElem?_map] at hp
        cases hp0:x0.cells[j]? with
        | none=>rw [hp0] at hp;simp at hp
        | some p0=>
         obtain ⟨u,hu,_⟩:=(h8 i x0 hx).2 j p0 hp0
         unfold World.cell?
         simp only [hc,Nat.add_zero]
         rw [Array.getD_eq_getD_getElem?,hu]
         rfl
      · intro j p hp
        rw [e,List.getElem?_map] at hp
        cases hp0:x0.cells[j]? with
        | none=>rw [hp0] at hp;simp at hp
        | some p0=>
         rw [hp0] at hp
         simp only [map_some,Option.some.injEq] at hp
         subst hp
         obtain ⟨u,hu,hr⟩:=(h8 i x0 hx).2 j p0 hp0
         rw [Array.getD_eq_getD_getElem?,hu]
         exact ih p0 u hr
   · exact .dead _
  case sJ k ver=>simp only [fG];exact .dead v
  all_goals (simp only [fG];exact hm _ h)
theorem pU (R:Rel base ak w0 S blk a w) (d n:Nat) (p:PV) (v:Value) (h:bL w (bZ base S.objs blk) S.objs blk p v) :
  bL w (bZ base (S.freeze d n).objs blk) (S.freeze d n).objs blk (eP d n S.objs p) v:=by
 have hm:∀ q:PV,dB w (bZ base S.objs blk) q v→dB w (bZ base (S.freeze d n).objs blk) q v:=fun q hq=>hq.mono (Nat.le_refl _) (fun b _ h=>wN h) (fun _ _ _ h=>h)
 have hget:∀ k o,k<n→S.objs[k]?=some o→(S.freeze d n).objs[k]?=some (fu d n S.objs o):=by
  intro k o hk ho
  simp only [St.freeze,List.getElem?_map,List.getElem?_take,if_pos hk,ho,map_some]
 cases p
 case aY k ver=>
  simp only [eP]
  split
  · rename_i hk
    obtain ⟨h0,o,ho,h2,h3⟩:=h
    refine ⟨h0,_,hget k o hk ho,h2,fun hl hv=>?_⟩
    obtain ⟨hM,hh⟩:=h3 hl hv
    refine ⟨hM,?_⟩
    unfold zU at hh ⊢
    cases hg:blk k with
    | none=>rw [hg] at hh;exact ⟨hh.1,by simp [fu,hh.2]⟩
    | some g=>rw [hg] at hh;simpa [fu] using hh
  · exact .aJ (Ns R d n d _ v h)
 case bM k ver i f=>
  simp only [eP]
  split
  · rename_i hk
    obtain ⟨h0,o,ho,h2,h3⟩:=h
    exact ⟨h0,_,hget k o hk ho,h2,h3⟩
  · exact .aJ (Ns R d n d _ v h)
 case sJ k ver=>
  simp only [eP]
  split
  · rename_i hk
    obtain ⟨h0,o,ho,h2,h3⟩:=h
    exact ⟨h0,_,hget k o hk ho,h2,h3⟩
  · exact .aJ (.dead v)
 all_goals (simp only [eP];exact .aJ (hm _ h))
theorem wO {R R':PV→Value→Prop}{f:PV→PV}{cs:List PV}{vs:List Value}(h:cu R cs vs) (hf:∀ p v,R p v→R' (f p) v):cu R' (cs.map f) vs:=by
 refine ⟨by simpa using h.1,fun i p v hp hv=>?_⟩
 rw [List.getElem?_map] at hp
 cases hc:cs[i]? with
 | none=>rw [hc] at hp;simp at hp
 | some p0=>
  rw [hc] at hp
  simp only [map_some,Option.some.injEq] at hp
  subst hp
  exact hf p0 v (h.2 i p0 v hc hv)
theorem FP (R:Rel base ak w0 S blk a w) (d n:Nat) (p:PV) (v:Value) (h:aU w (bZ base S.objs blk) S.objs blk p v) :
  aU w (bZ base (S.freeze d n).objs blk) (S.freeze d n).objs blk (gL d n S.objs p) v:=by
 have hS:bL w (bZ base S.objs blk) S.objs blk p v→aU w (bZ base (S.freeze d n).objs blk) (S.freeze d n).objs blk (eP d n S.objs p) v:=fun h=>.jX (pU R d n p v h)
 cases p
 case fn f a c=>
  obtain ⟨va,vc,rfl,h1,h2⟩:=h
  exact ⟨va,vc,rfl,wO h1 (pU R d n),wO h2 (pU R d n)⟩
 case bU cs=>obtain ⟨vs,rfl,h1⟩:=h;exact ⟨vs,rfl,wO h1 (pU R d n)⟩
 case agg cs=>obtain ⟨vs,rfl,h1⟩:=h;exact ⟨vs,rfl,wO h1 (pU R d n)⟩
 all_goals exact hS h
theorem KF {d n:Nat}{objs:List Obj}{p:PV}(h:p.uY n=true):eP d n objs p=p:=by
 cases p <;> simp only [eP] <;> (try rfl) <;> (simp only [PV.uY,decide_eq_true_eq] at h;rw [if_pos h])
theorem EH {d n:Nat}{objs:List Obj}{cs:List PV}(h:cs.all (PV.uY n)=true):cs.map (eP d n objs)=cs:=by
 conv=>rhs;rw [← map_id cs]
 exact map_congr_left fun p hp=>KF (List.all_eq_true.1 h p hp)
theorem YG {d n:Nat}{objs:List Obj}{p:PV}(h:p.lt n=true):gL d n objs p=p:=by
 cases p <;> simp only [gL] <;> simp only [PV.lt,Bool.and_eq_true] at h
 case fn f a c=>rw [EH h.1,EH h.2]
 case bU cs=>rw [EH h]
 case agg cs=>rw [EH h]
 all_goals exact KF h
theorem FQ {n m:Nat}(h:n≤m){p:PV}(hp:p.uY n=true):p.uY m=true:=by
 cases p <;> simp only [PV.uY,decide_eq_true_eq] at hp ⊢ <;> omega
theorem oH {n m:Nat}(h:n≤m){cs:List PV}(hp:cs.all (PV.uY n)=true):cs.all (PV.uY m)=true:=by
 rw [List.all_eq_true] at hp ⊢
 exact fun p hm=>FQ h (hp p hm)
theorem SV {n m:Nat}(h:n≤m){p:PV}(hp:p.lt n=true):p.lt m=true:=by
 cases p <;> simp only [PV.lt,Bool.and_eq_true] at hp ⊢
 case fn f a c=>exact ⟨oH h hp.1,oH h hp.2⟩
 case bU cs=>exact oH h hp
 case agg cs=>exact oH h hp
 all_goals exact FQ h hp
theorem Rel.freeze (R:Rel base ak w0 S blk a w) (d n:Nat) (hn:w0.nx≤n):Rel base ak w0 (S.freeze d n) blk a w:=by
 refine ⟨R.nN.mono (fun b _ h=>⟨wN h.1,h.2⟩) (fun _ _ _ h=>h),by simpa [St.freeze] using R.Cg,fun t p hp=>?_,⟨fun k o' ho' hl=>?_,?_,?_⟩,R.pr,R.fr,R.gr,R.pb,fun x hx=>(YG (d:=d) (objs:=S.objs) (SV hn (R.Ju x hx))) ▸ FP R d n x.1 x.2 (R.ext x hx),R.Ju,R.sm,R.gl⟩
 · simp only [St.freeze,List.getElem?_map] at hp
   cases ht:S.tmps[t]? with
   | none=>rw [ht] at hp;simp at hp
   | some p0=>
    rw [ht] at hp
    simp only [map_some,Option.some.injEq] at hp
    subst hp
    exact FP R d n p0 _ (R.tm t p0 ht)
 · obtain ⟨hk,o,ho,rfl⟩:=mR ho'
   have hb:=R.objs.ob k o ho hl
   unfold bY at hb ⊢
   cases hg:blk k with
   | none=>rw [hg] at hb;simp [fu,hb]
   | some g=>
    rw [hg] at hb
    obtain ⟨c,hc,h7,h8⟩:=hb
    refine ⟨c,hc,by simpa [fu,fits] using h7,fun i x hx=>?_⟩
    simp only [fu,List.getElem?_map] at hx
    cases hx0:o.xs[i]? with
    | none=>rw [hx0] at hx;simp at hx
    | some x0=>
     rw [hx0] at hx
     simp only [map_some,Option.some.injEq] at hx
     subst hx
     have e:=lU (SS d n S.objs) x0
     refine ⟨by rw [e,List.length_map];exact (h8 i x0 hx0).1,fun j p hp=>?_⟩
     rw [e,List.getElem?_map] at hp
     cases hp0:x0.cells[j]? with
     | none=>rw [hp0] at hp;simp at hp
     | some p0=>
      rw [hp0] at hp
      simp only [map_some,Option.some.injEq] at hp
      subst hp
      obtain ⟨u,hu,hr⟩:=(h8 i x0 hx0).2 j p0 hp0
      exact ⟨u,hu,pU R d n p0 u hr⟩
 · intro k k' o o' g hne h1 h2 h3 h4 h5
   obtain ⟨_,o1,ho1,rfl⟩:=mR h1
   obtain ⟨_,o2,ho2,rfl⟩:=mR h3
   exact R.objs.Js k k' o1 o2 g hne ho1 h2 ho2 h4 h5
 · intro k o g h1 h2 h3
   obtain ⟨_,o1,ho1,rfl⟩:=mR h1
   exact R.objs.np k o1 g ho1 h2 h3
def xK:List Bool→List PV→List PV
 | _,[]=>[]
 | [],p::ps=>.dead::xK [] ps
 | true::ks,p::ps=>p::xK ks ps
 | false::ks,_::ps=>.dead::xK ks ps
theorem mU:∀ (ks:List Bool) (ps:List PV),(xK ks ps).length=ps.length
 | ks,[]=>by cases ks <;> simp [xK]
 | [],_::ps=>by simp [xK,mU [] ps]
 | true::ks,p::ps=>by simp [xK,mU ks ps]
 | false::ks,p::ps=>by simp [xK,mU ks ps]
theorem EI:∀ (ks:List Bool) (ps:List PV) (t:Nat) (p:PV),(xK ks ps)[t]?=some p→p=.dead∨ps[t]?=some p
 | ks,[],_,_,h=>by cases ks <;> simp [xK] at h
 | [],q::ps,0,p,h=>by simp only [xK,List.getElem?_cons_zero,Option.some.injEq] at h;exact .inl h.symm
 | [],q::ps,t+1,p,h=>by simp only [xK,List.getElem?_cons_succ] at h ⊢;exact EI [] ps t p h
 | true::ks,q::ps,0,p,h=>by simp only [xK,List.getElem?_cons_zero,Option.some.injEq] at h;exact .inr (by simpa using h)
 | true::ks,q::ps,t+1,p,h=>by simp only [xK,List.getElem?_cons_succ] at h ⊢;exact EI ks ps t p h
 | false::ks,q::ps,0,p,h=>by simp only [xK,List.getElem?_cons_zero,Option.some.injEq] at h;exact .inl h.symm
 | false::ks,q::ps,t+1,p,h=>by simp only [xK,List.getElem?_cons_succ] at h ⊢;exact EI ks ps t p h
def St.forget (ks:List Bool) (S:St):St:=⟨xK ks S.tmps,S.objs⟩
theorem aU.dead {ok:Nat→Prop}{objs:List Obj}(v:Value):aU w ok objs blk .dead v:=.aJ (.dead v)
theorem Rel.forget (R:Rel base ak w0 S blk a w) (ks:List Bool):Rel base ak w0 (S.forget ks) blk a w:=by
 refine ⟨R.nN,by simpa [St.forget,mU] using R.Cg,fun t p hp=>?_,R.objs,R.pr,R.fr,R.gr,R.pb,R.ext,R.Ju,R.sm,R.gl⟩
 rcases EI ks S.tmps t p hp with rfl | h
 · exact .dead _
 · exact R.tm t p h
def St.vD (t ty sz:Nat) (S:St):St:=
 match S.tmps[t]? with
 | some (.sl _ [] _)=>⟨S.tmps.set t (.aY S.objs.length 0),S.objs++[⟨ty,sz,[],true,0⟩]⟩
 | _=>S
end
theorem Weak.refl (m:Nat) (S:St):Weak m S S:=fun _ _ _ blk _ _ _ R=>⟨blk,R⟩
theorem Weak.trans {m:Nat}{S S' S'':St}(h:Weak m S S') (h':Weak m S' S''):Weak m S S'':=fun base ak w0 blk a w hm R=>let ⟨av,R'⟩:=h base ak w0 blk a w hm R;h' base ak w0 av a w hm R'
theorem Weak.freeze {m:Nat}(d n:Nat) (hn:m≤n) (S:St):Weak m S (S.freeze d n):=fun _ _ _ blk _ _ hm R=>⟨blk,R.freeze d n (Nat.le_trans hm hn)⟩
theorem Weak.forget (m:Nat) (ks:List Bool) (S:St):Weak m S (S.forget ks):=fun _ _ _ blk _ _ _ R=>⟨blk,R.forget ks⟩
def St.norm (ks:List Bool) (fz:Option (Nat×Nat)) (S:St):St:=
 match fz with
 | none=>S.forget ks
 | some (d,n)=>(S.forget ks).freeze d n
def Ih (m:Nat):Option (Nat×Nat)→Prop
 | none=>True
 | some (_,n)=>m≤n
theorem Weak.norm {m:Nat}(ks:List Bool) (fz:Option (Nat×Nat)) (h:Ih m fz) (S:St):Weak m S (S.norm ks fz):=by
 cases fz with
 | none=>exact .forget m ks S
 | some x=>exact (Weak.forget m ks S).trans (Weak.freeze _ _ h _)
theorem Rel.vD {base ak:Nat→Prop}{w0:Wz}{S:St}{blk:Nat→Option Nat}{a:Act}{w:World}(R:Rel base ak w0 S blk a w){t sz ty:Nat}{sz':Nat}(h:S.tmps[t]?=some (.sl sz' [] (some true))) (hM:ty≠MT) :
  Rel base ak w0 ⟨S.tmps.set t (.aY S.objs.length 0),S.objs++[⟨ty,sz,[],true,0⟩]⟩ (aI blk S.objs.length none) a w:=by
 have h1:=R.Cj (o1:=⟨ty,sz,[],true,0⟩) (gb:=none) (kr.refl w) (fun g hg=>by cases hg) fun _=>by
  unfold bY aI
  rw [if_pos rfl]
 refine ⟨h1.nN,by simpa using h1.Cg,fun t' p hp=>?_,h1.objs,h1.pr,h1.fr,h1.gr,h1.pb,h1.ext,h1.Ju,h1.sm,h1.gl⟩
 simp only [List.getElem?_set] at hp
 split at hp
 · rename_i ht
   subst ht
   split at hp
   · cases hp
     have hx:=R.tm t _ h
     have hx':dB w (bZ base S.objs blk) (.sl sz' [] (some true)) (a.tmps.getD t undef):=hx
     generalize hv:a.tmps.getD t undef=v at hx'
     cases hx' with
     | slnil _ _ _=>
      refine ⟨rfl,⟨ty,sz,[],true,0⟩,YB _ _,Nat.le_refl _,fun _ _=>⟨hM,?_⟩⟩
      unfold zU aI
      rw [if_pos rfl]
      exact ⟨rfl,rfl⟩
     | H6 _ _ hq=>exact absurd rfl hq
     | sl _ _ _ hq=>exact absurd rfl hq
   · cases hp
 · exact h1.tm t' p hp
theorem Weak.vD {m:Nat}{tm:List PV}{objs:List Obj}(t ty sz:Nat){sz':Nat}(h:tm[t]?=some (.sl sz' [] (some true))) (hM:ty≠MT:=by decide) :
  Weak m ⟨tm,objs⟩ ⟨tm.set t (.aY objs.length 0),objs++[⟨ty,sz,[],true,0⟩]⟩:=
 fun _ _ _ _ _ _ _ R=>⟨_,Rel.vD (S:=⟨tm,objs⟩) R h hM⟩
def jw (objs:List Obj):Prop:=∀ o ∈ objs,∀ x ∈ o.xs,∀ c ∈ x.cells,c.uY objs.length=true
theorem Nt {f:PV→PV}{x:PV}(h:∀ c ∈ x.cells,f c=c):x.bC f=x:=by
 cases x <;> simp only [PV.bC] <;> simp only [PV.cells] at h
 case agg cs=>congr 1;conv=>rhs;rw [← map_id cs]
              exact map_congr_left fun c hc=>h c hc
 all_goals exact h _ List.mem_cons_self
theorem EJ {d:Nat}{objs objs':List Obj}(h:jw objs):objs.map (fu d objs.length objs')=objs:=by
 conv=>rhs;rw [← map_id objs]
 refine map_congr_left fun o ho=>?_
 have hx:o.xs.map (PV.bC (eP d objs.length objs'))=o.xs:=by
  conv=>rhs;rw [← map_id o.xs]
  exact map_congr_left fun x hx=>Nt fun c hc=>KF (h o ho x hx c hc)
 simp only [fu,hx,id]
end Lp
namespace Lp
open Go
open List (all_eq_true mem_range)
structure Step where
 dst:Option Nat
 op:Op
 g:Option (Option Nat×Bool)
 own:Bool
inductive LC where
 | skip
 | ret
 | bad
 | reg (ss:List Step)
 | draw (ss:List Step) (un:List Nat)
 | seq (a b:LC)
 | cond (c:Operand) (a b:LC)
 | block (id:Nat) (c:LC)
 | loop (ks:List Bool) (fz:Option (Nat×Nat)) (c:LC)
 | exit (id:Nat)
 | weak (c:LC)
 | rf (f:Operand) (ps:List Nat) (fz:Option (Nat×Nat)) (a b:LC)
def qC (ops:List Oper) (ms:List Nat):List Nat:=
 (List.range ops.length).map fun i=>(List.range i).foldl (fun u j=>if (ms.getD i 0).testBit j then u else u ||| (1 <<<j)) 0
def fH (ops:List Oper) (ms:List Nat):Bool:=
 let ls:=ops.map (ja ops)
 let zs:=ops.map fun _=>0
 (List.range ops.length).all fun i=>
  match ops[i]? with
  | none=>true
  | some o=>
   (o.after.toList.all fun e=>!Region.binds .any e || decide (e.on<i)) &&
   (ms.getD i 0 &&& Cr ms o==ms.getD i 0) &&
   (List.range i).all fun j=>
    (ms.getD i 0).testBit j || !clash ((ops[j]?).bind (·.dst)) o.dst (ls.getD j []) (ls.getD i []) (zs.getD j 0) (zs.getD i 0)
def pV (un ts:List Nat):Bool:=
 (List.range un.length).all fun i=>co (ts.getD i 0)==0 || (List.range i).all fun j=>!(un.getD i 0).testBit j || !((co (ts.getD j 0)==2 && co (ts.getD i 0) !=0) || (co (ts.getD i 0)==2 && co (ts.getD j 0) !=0))
def yG (un ts:List Nat):Bool:=
 ((List.range un.length).all fun i=>Ac (ts.getD i 0)) && (List.range un.length).all fun i=>(List.range i).all fun j=>!(un.getD i 0).testBit j || !yF (ts.getD j 0) (ts.getD i 0)
def mV (un ts:List Nat):Bool:=pV un ts || yG un ts
def stepOf (ops:List Oper) (o:Oper):Step:=⟨o.dst,o.op,match o.guard with
 | none=>none
 | some (j,b)=>some ((ops[j]?).bind (·.dst),b),false⟩
def comp:Code→LC
 | .skip=>.skip
 | .ret=>.ret
 | .exit id=>.exit id
 | .region _ ops false=>.reg (ops.toList.map (stepOf ops.toList))
 | .region _ ops true=>bif fH ops.toList (masks ops.toList []) then .draw (ops.toList.map (stepOf ops.toList)) (qC ops.toList (masks ops.toList [])) else .bad
 | .seq a b=>.seq (comp a) (comp b)
 | .cond c a b=>.cond c (comp a) (comp b)
 | .block id c=>.block id (comp c)
 | .loop c=>.loop [] none (comp c)
 | .rangeFunc f ps a b=>.rf f ps.toList none (comp a) (comp b)
 | _=>.bad
def yH (s:Step):Step:={ s with own:=false }
def strip:LC→LC
 | .reg ss=>.reg (ss.map yH)
 | .draw ss un=>.draw (ss.map yH) un
 | .seq a b=>.seq (strip a) (strip b)
 | .cond c a b=>.cond c (strip a) (strip b)
 | .block id c=>.block id (strip c)
 | .loop _ _ c=>.loop [] none (strip c)
 | .weak c=>strip c
 | .rf f ps _ a b=>.rf f ps none (strip a) (strip b)
 | c=>c
abbrev Tab:=FuncId→List PV→List Obj→KT→Prop
abbrev YT:=List PV→List Obj→(Bool→List Obj→Prop)→Prop
structure Know where
 fn:Tab
 y:Nat
 Y:YT
 top:Bool
 gives:FuncId→List PV→List (List PV)→Prop
 nx:Nat
def nQ (T:Know) (pt:Bool) (f:PV) (args:List PV) (objs:List Obj) (K:KT):Prop:=
 match f with
 | .fn g first cap=>T.fn g (first++args++cap) objs K
 | .D9 l=>l=T.y∧pt=true∧args.all PV.pure=true∧T.Y args objs fun b o=>K (.bool b) o 2
 | _=>False
def Know.ZI (T:Know):Know:={ T with Y:=fun _ _ _=>False }
def Know.inner (T:Know) (n:Nat):Know:={ T with top:=false,Y:=fun _ _ _=>False,nx:=n }
def lF (P:Program) (D:TypeId→aG) (T:Know) (own pt:Bool) (ev:Operand→PV) (objs:List Obj) (op:Op) (K:KT):Prop:=
 match op with
 | .call { callee:=.value f,args,.. }=>nQ T pt (ev f) (args.toList.map ev) objs K
 | op=>Ht P D own ev objs op K
def vE (g:Option (Option Nat×Bool)) (S:St) (X Y:St→Prop):Prop:=
 match g with
 | none=>X S
 | some (none,_)=>False
 | some (some d,want)=>
  match S.tmps.getD d .dead with
  | .bool b=>(b=want→X { S with tmps:=S.tmps.set d (.bool want) })∧(b=!want→Y { S with tmps:=S.tmps.set d (.bool !want) })
  | .bU []=>Y S
  | _=>False
def LR (P:Program) (D:TypeId→aG) (T:Know):List Step→St→List Nat→(St→List Nat→Prop)→Prop
 | [],S,ts,K=>K S ts
 | s::rest,S,ts,K=>
  vE s.g S
   (fun S=>lF P D T s.own (S.tmps.all PV.pure) S.ev S.objs s.op fun r objs' t=>LR P D T rest (St.put ⟨S.tmps,objs'⟩ s.dst r) (ts++[t]) K)
   (fun S=>LR P D T rest (S.put s.dst (.bU [])) (ts++[0]) K)
def Qp (fz:Option (Nat×Nat)) (I:List Obj→Prop):Exit→St→Prop
 | .normal,S=>I (S.norm [] fz).objs
 | _,_=>False
def qo:List Nat→List PV→List PV→List PV
 | p::ps,y::ys,tm=>qo ps ys (tm.set p y)
 | _,_,tm=>tm
def BR:Obj:=⟨0,0,[],true,0⟩
def iC (k:Nat) (O:List Obj):List Obj:=(O.set k hole).set (k+1) BR
def Gh (k:Nat) (O:List Obj):Prop:=k+2≤O.length∧jw O∧O[k]?=some BR∧O[k+1]?=some hole
def FR:Exit→Option Code
 | .ret=>some .ret
 | .exit id=>some (.exit id)
 | _=>none
def KG (fz:Option (Nat×Nat)) (I:List Obj→Prop) (lv:Exit) (J:List Obj→Prop):Exit→St→Prop
 | .normal,S=>I (S.norm [] fz).objs
 | e,S=>e=lv∧J (S.norm [] fz).objs
def kE (P:Program) (D:TypeId→aG):Know→LC→(Exit→St→Prop)→St→Prop
 | _,.skip,Q,S=>Q .normal S
 | _,.ret,Q,S=>Q .ret S
 | _,.bad,_,_=>False
 | T,.reg ss,Q,S=>LR P D T ss S [] fun S' _=>Q .normal S'
 | T,.draw ss un,Q,S=>LR P D T.ZI ss S [] fun S' ts=>mV un ts=true∧Q .normal S'
 | T,.seq a b,Q,S=>kE P D T a (thenS (fun S'=>kE P D T b Q S') Q) S
 | T,.cond c a b,Q,S=>x_ (S.ev c) (kE P D T a Q S) (kE P D T b Q S)
 | T,.block id c,Q,S=>kE P D T c (qN id Q) S
 | T,.loop ks fz c,Q,S=>Ih T.nx fz∧∃ I:Nat→St→Prop,(∃ S0 m,Weak T.nx S S0∧I m S0)∧
   ∀ m S,I m S→kE P D T c (thenS (fun S'=>∃ m',m'<m∧I m' (S'.norm ks fz)) Q) S
 | _,.exit id,Q,S=>Q (.exit id) S
 | T,.weak c,Q,S=>∃ S',Weak T.nx S S'∧kE P D T c Q S'
 | T,.rf f ps fz x y,Q,S=>T.top=true∧∃ (g:FuncId) (cap:List PV) (ys:List (List PV)),
   S.ev f=.fn g [] cap∧cap.all PV.pure=true∧T.gives g cap ys∧(∀ y ∈ ys,y.length=ps.length)∧
   ((∃ I:Nat→List Obj→Prop,Ih S.objs.length fz∧I 0 S.objs∧(∀ i objs,I i objs→S.objs.length≤objs.length∧jw objs)∧
    (∀ i args objs,I i objs→ys[i]?=some args→kE P D (T.inner S.objs.length) x (thenS (fun S1=>kE P D (T.inner S.objs.length) y (Qp fz (I (i+1))) S1) (fun _ _=>False)) ⟨qo ps args S.tmps,objs⟩)∧
    ∀ objs,I ys.length objs→Q .normal ⟨S.tmps,objs⟩)∨
   (∃ (I J:Nat→List Obj→Prop) (lv:Exit) (lc:Code),FR lv=some lc∧Ih (S.objs.length+2) fz∧I 0 (S.objs++[BR,hole])∧(∀ i objs,I i objs→Gh S.objs.length objs)∧(∀ i objs,J i objs→Gh S.objs.length objs∧eU objs)∧
    (∀ i args objs,I i objs→ys[i]?=some args→kE P D (T.inner (S.objs.length+2)) x (thenS (fun S1=>kE P D (T.inner (S.objs.length+2)) y (KG fz (I (i+1)) lv (J i)) S1) (fun _ _=>False)) ⟨qo ps args S.tmps,objs⟩)∧
    (∀ objs,I ys.length objs→Q .normal ⟨S.tmps,objs⟩)∧∀ i objs,i<ys.length→J i objs→Q lv ⟨S.tmps,iC S.objs.length objs⟩))
def uM (P:Program) (T:Tab):Prop:=∀ f args objs K,T f args objs K→∃ r objs' t,lS P f args objs r objs' t∧K r objs' t
def Wy (P:Program) (l:Option Nat) (base ak:Nat→Prop) (V:Wz→Prop) (T:Know):Prop:=
 ∀ (S:St) (blk:Nat→Option Nat) (a:Act) (w:World) (args:List PV) (vs:List Value) (K:Bool→List Obj→Prop),qm base ak V S blk a w→S.tmps.all PV.pure=true→
  cu (dB w (bZ base S.objs blk)) args vs→T.Y args S.objs K→
  ∃ r:Loop,w.heap[T.y]?=some (.loop r)∧vs.length=r.params.size∧
   RoundIn (EF l) 0 P T.y r.fn ((r.params.zip (⟨vs⟩:Array Value)).foldl (fun t (p,v)=>t.setIfInBounds p v) r.tmps) r.assign r.body w
    (fun e w'=>∃ b objs' av,e=.returned (.bool b)∧K b objs'∧qm base ak V ⟨S.tmps,objs'⟩ av a w')
variable {P:Program}{D:TypeId→aG}{T:Know}{l:Option Nat}
theorem Uv (hT:uM P T.fn){own pt:Bool}{ev:Operand→PV}{objs:List Obj}{op:Op}{K:KT}(h:lF P D T.ZI own pt ev objs op K):Ht P D own ev objs op K:=by
 unfold lF at h
 split at h
 · unfold nQ at h
   split at h
   · rename_i e
     simp only [Ht,FB,e]
     exact hT _ _ _ _ h
   · exact h.2.2.2.elim
   · exact h.elim
 · exact h
theorem YH {base ak:Nat→Prop}{V:Wz→Prop}{S:St}{blk:Nat→Option Nat}{a:Act}{w:World}{own:Bool}{o:Oper}{K:KT}{next:Act→World→Prop}{Q:Exit→Act→World→Prop}
  (hD:∀ t,iL P t (D t)) (hT:uM P T.fn) (hY:Wy P l base ak V T) (R:qm base ak V S blk a w) (h:lF P D T own (S.tmps.all PV.pure) S.ev S.objs o.op K)
  (hn:∀ r objs' t v w' av,K r objs' t→qm base ak V ⟨S.tmps,objs'⟩ av a w'→aU w' (bZ base objs' av) objs' av r v→next (a.put o.dst v) w') :
  o.wpIn (EF l) 0 P a w next Q:=by
 obtain ⟨w0,hV,R0⟩:=R
 have JG:Ht P D own S.ev S.objs o.op K→o.wpIn (EF l) 0 P a w next Q:=fun h=>
  z8 l hD R0 h fun r objs' t v w' av h1 h2 h3=>hn r objs' t v w' av h1 ⟨w0,hV,h2⟩ h3
 unfold lF at h
 split at h
 · rename_i f args argTypes ho
   unfold nQ at h
   split at h
   · rename_i e
     refine JG ?_
     simp only [ho,Ht,FB,e]
     exact hT _ _ _ _ h
   · rename_i y e
     obtain ⟨rfl,hpt,hpure,hy⟩:=h
     have hf:=R0.ev f
     rw [e] at hf
     have hf':dB w (bZ base S.objs blk) (.D9 T.y) (a.eval f):=hf
     have hv:a.eval f=.func (.yield T.y) #[] #[]:=by
      generalize a.eval f=v at hf'
      cases hf'
      rfl
     have hargs:cu (dB w (bZ base S.objs blk)) (args.toList.map S.ev) (args.toList.map a.eval):=by
      have h0:cu (aU w (bZ base S.objs blk) S.objs blk) (args.toList.map S.ev) (args.toList.map a.eval):=zZ _ fun x _=>R0.ev x
      exact ⟨h0.1,fun i p v hp hv=>(h0.2 i p v hp hv).yD (all_eq_true.1 hpure p (List.mem_of_getElem? hp))⟩
     obtain ⟨r,hr,hsz,qP⟩:=hY S blk a w _ _ _ ⟨w0,hV,R0⟩ hpt hargs hy
     refine ⟨fun _ _=>trivial,?_⟩
     rw [Oper.semAt_eq _ _ _ (by rw [ho];simp)]
     have e1:args.map a.eval=Array.mk (args.toList.map a.eval):=by apply Array.ext';simp
     have hrun:(execOp a.eval o).run P w=.ok (.round T.y r.fn ((r.params.zip (⟨args.toList.map a.eval⟩:Array Value)).foldl (fun t (p,v)=>t.setIfInBounds p v) r.tmps) r.assign r.body) w:=by
      simp only [execOp,ho,resolve,hv,Deferred.ofValue,Sem.run_bind,Sem.run_pure,Result.andThen_ok,invoke]
      rw [e1]
      rw [Array.empty_append]
      exact run_yield (args:=Array.mk (args.toList.map a.eval)) hr (by simpa using hsz)
     rw [hrun]
     refine ⟨(fun h=>by cases h),?_⟩
     refine RoundIn.mono qP fun e w' ⟨b,objs',av,h1,h2,h3⟩=>?_
     subst h1
     exact hn _ _ _ _ _ _ h2 h3 (.aJ (.bool b))
   · exact h.elim
 · exact JG h
theorem Nu {own:Bool}{ev:Operand→PV}{objs:List Obj}{op:Op}{K K':KT}(h:Ht P D own ev objs op K) (hk:∀ r o t,K r o t→K' r o t):Ht P D own ev objs op K':=by
 obtain ⟨r,o,t,h1,_,h2,_,_⟩:=SH h
 exact h2 _ (hk _ _ _ h1)
theorem FT {ops:List Oper}{g:Option (Nat×Bool)}{S:St}{X Y:St→Prop}
  (h:vE (match g with | none=>none | some (j,b)=>some ((ops[j]?).bind (·.dst),b)) S X Y):og ops g S X Y:=by
 unfold vE at h
 unfold og
 cases g with
 | none=>exact h
 | some g=>
  obtain ⟨j,want⟩:=g
  simp only [] at h ⊢
  cases hd:(ops[j]?).bind (·.dst) with
  | none=>rw [hd] at h;exact h
  | some d=>rw [hd] at h;exact h
theorem Dw {ops:List Oper}{g:Option (Nat×Bool)}{S:St}{X X' Y Y':St→Prop}(h:og ops g S X Y) (hx:∀ S',S'.tmps.length=S.tmps.length→X S'→X' S')
  (hy:∀ S',S'.tmps.length=S.tmps.length→Y S'→Y' S'):og ops g S X' Y':=by
 cases g with
 | none=>exact hx _ rfl h
 | some g=>
  obtain ⟨j,want⟩:=g
  simp only [og] at h ⊢
  cases hd:(ops[j]?).bind (·.dst) with
  | none=>rw [hd] at h;exact h
  | some d=>
   rw [hd] at h
   simp only [] at h ⊢
   generalize hv:S.tmps.getD d .dead=v at h ⊢
   cases v
   case bool b=>exact ⟨fun hb=>hx _ (by simp) (h.1 hb),fun hb=>hy _ (by simp) (h.2 hb)⟩
   case bU cs=>
    cases cs with
    | nil=>exact hy _ rfl h
    | cons c cs=>exact h
   all_goals exact h
theorem vF (hT:uM P T.fn){ops:List Oper}{own:Nat→Bool}:∀ (qg:List Oper) (ss:List Step) (i:Nat) (S:St) (ts:List Nat) (K:St→List Nat→Prop),
  ss.map yH=qg.map (stepOf ops)→(∀ j s,ss[j]?=some s→own (i+j)=s.own)→LR P D T.ZI ss S ts K→pM P D own ops qg i S ts K
 | [],ss,i,S,ts,K,he,ho,h=>by
  have:ss=[]:=by simpa using he
  subst this
  exact h
 | o::qg,ss,i,S,ts,K,he,ho,h=>by
  cases ss with
  | nil=>simp at he
  | cons s ss=>
   simp only [List.map_cons,List.cons.injEq] at he
   obtain ⟨he1,he2⟩:=he
   have hd:s.dst=o.dst:=congrArg (fun x:Step=>x.dst) he1
   have hop:s.op=o.op:=congrArg (fun x:Step=>x.op) he1
   have hg:s.g=(stepOf ops o).g:=(congrArg (fun x:Step=>x.g) he1:(yH s).g=(stepOf ops o).g)
   have hown:own i=s.own:=ho 0 s rfl
   unfold LR at h
   unfold pM
   rw [hg] at h
   refine Dw (FT h) ?_ ?_
   · intro S' hS' hx
     rw [hown,← hop]
     refine Nu (Uv hT hx) ?_
     intro r objs' t hk
     rw [← hd]
     exact vF hT qg ss (i+1) _ _ K he2 (fun j s' hs'=>by rw [show i+1+j=i+(j+1) by omega];exact ho (j+1) s' hs') hk
   · intro S' hS' hy
     rw [← hd]
     exact vF hT qg ss (i+1) _ _ K he2 (fun j s' hs'=>by rw [show i+1+j=i+(j+1) by omega];exact ho (j+1) s' hs') hy
theorem yI {ops:List Oper}{own:Nat→Bool}{K K':St→List Nat→Prop}(hk:∀ S ts,K S ts→K' S ts):∀ (qg:List Oper) (i:Nat) (S:St) (ts:List Nat),pM P D own ops qg i S ts K→pM P D own ops qg i S ts K'
 | [],_,_,_,h=>hk _ _ h
 | o::qg,i,S,ts,h=>by
  unfold pM at h ⊢
  exact Dw h (fun S' _ hx=>Nu hx fun r o' t hh=>yI hk qg _ _ _ hh) (fun S' _ hy=>yI hk qg _ _ _ hy)
theorem PW.abD {E:Env}{c:Code}{Q:Exit→St→Prop}{S:St}{m nx:Nat}(hE:∀ base ak V,E base ak V→∀ w0,V w0→w0.nx≤nx) (I:Nat→St→Prop) (h0:I m S)
  (round:∀ m S,I m S→PW P l E c (thenS (fun S'=>∃ S'' m',Weak nx S' S''∧I m' S''∧m'<m) Q) S):PW P l E (.loop c) Q S:=by
 intro base ak V SX blk a w R b k cs hro hb hroom
 have hE':=hE base ak V SX
 have key:∀ n S blk a w,I n S→qm base ak V S blk a w→
     ∃ e a' w',(∃ S' av,Q e S'∧qm base ak V S' av a' w')∧ArrivesIn (Machine.fenced P (EF l)) P (lone (b.atR a (.code c::.inLoop c::k)) cs w) b k cs e a' w':=by
  intro n
  induction n using Nat.strongRecOn with
  | _ n ih=>
   intro S blk a w hI R
   obtain ⟨e,a₁,w₁,⟨S₁,blk₁,h1,R₁⟩,harr⟩:=round n S hI base ak V SX blk a w R b (.inLoop c::k) cs hro hb hroom
   cases e with
   | normal=>
    obtain ⟨S₂,m',hw,hI₂,hlt⟩:=h1
    obtain ⟨w0,hV,R₁⟩:=R₁
    obtain ⟨acM,R₂⟩:=hw base ak w0 blk₁ a₁ w₁ (hE' w0 hV) R₁
    obtain ⟨e₂,a₂,w₂,hq₂,harr₂⟩:=ih m' hlt S₂ acM a₁ w₁ hI₂ ⟨w0,hV,R₂⟩
    exact ⟨e₂,a₂,w₂,hq₂,.of_steps (StepsIn.trans harr (.one (fenced_calm hb hroom rfl) stepR_inLoop)) harr₂⟩
   | exit id=>exact ⟨_,a₁,w₁,⟨S₁,blk₁,h1,R₁⟩,.pass (x:=.inLoop c) rfl (fun _ _=>.inl (by simp)) harr⟩
   | goto t=>exact ⟨_,a₁,w₁,⟨S₁,blk₁,h1,R₁⟩,.pass (x:=.inLoop c) rfl (fun _ _=>.inl (by simp)) harr⟩
   | ret=>exact ⟨_,a₁,w₁,⟨S₁,blk₁,h1,R₁⟩,.pass (x:=.inLoop c) rfl (fun _ _=>.inl (by simp)) harr⟩
   | panic ch=>exact ⟨_,a₁,w₁,⟨S₁,blk₁,h1,R₁⟩,.pass (x:=.inLoop c) rfl (fun _ _=>.inl (by simp)) harr⟩
   | outgrown=>exact ⟨_,a₁,w₁,⟨S₁,blk₁,h1,R₁⟩,.pass (x:=.inLoop c) rfl (fun _ _=>.inl (by simp)) harr⟩
 obtain ⟨e,a',w',hq,harr⟩:=key m S blk a w h0 R
 exact ⟨e,a',w',hq,.of_steps (.one (fenced_calm hb hroom rfl) stepR_loop) harr⟩
theorem tq {next next':St→Prop}{Q:Exit→St→Prop}(h:∀ S,next S→next' S):∀ e S,thenS next Q e S→thenS next' Q e S:=by
 intro e S hh
 cases e <;> first | exact h _ hh | exact hh
theorem vG {n:Nat}{f:Nat→Bool}(h:(List.range n).all f=true){i:Nat}(hi:i<n):f i=true:=by
 rw [all_eq_true] at h
 exact h i (mem_range.2 hi)
theorem JH {m:Nat}{i:Nat}:∀ (n:Nat),i<n→((List.range n).foldl (fun u j=>if m.testBit j then u else u ||| (1 <<<j)) 0).testBit i=!m.testBit i:=by
 have key:∀ (n:Nat) (j:Nat),((List.range n).foldl (fun u j=>if m.testBit j then u else u ||| (1 <<<j)) 0).testBit j=(decide (j<n) && !m.testBit j):=by
  intro n
  induction n with
  | zero=>intro j;simp
  | succ n ih=>
   intro j
   rw [List.range_succ,List.foldl_append,List.foldl_cons,List.foldl_nil]
   split
   · rename_i hm
     rw [ih j]
     by_cases hj:j=n
     · subst hj;simp [hm]
     · have:decide (j<n+1)=decide (j<n):=by congr 1;apply propext;omega
       rw [this]
   · rename_i hm
     rw [Nat.testBit_or,ih j,Nat.one_shiftLeft,Nat.testBit_two_pow]
     by_cases hj:n=j
     · subst hj;simp [hm]
     · have:decide (j<n+1)=decide (j<n):=by congr 1;apply propext;omega
       rw [this];simp [hj]
 intro n hi
 rw [key n i];simp [hi]
theorem Qq {ops:List Oper}{ts:List Nat}(h1:fH ops (masks ops [])=true) (h2:pV (qC ops (masks ops [])) ts=true):sZ ops ts=true:=by
 unfold sZ
 unfold fH at h1
 unfold pV at h2
 generalize masks ops []=ms at *
 simp only [all_eq_true,mem_range] at h1 ⊢
 intro i hi
 have h1:=h1 i hi
 rw [List.getElem?_eq_getElem hi] at h1 ⊢
 simp only [Bool.and_eq_true,all_eq_true,mem_range] at h1 ⊢
 refine ⟨⟨h1.1.1,h1.1.2⟩,fun j hj=>?_⟩
 have hz:=h1.2 j hj
 cases hb:(ms.getD i 0).testBit j with
 | true=>simp
 | false=>
  rw [hb] at hz
  have hzz:∀ k,(ops.map fun _=>0).getD k 0=0:=by
   intro k
   rw [List.getD_eq_getElem?_getD,List.getElem?_map]
   cases ops[k]? <;> rfl
  rw [hzz,hzz] at hz
  simp only [Bool.false_or,Bool.not_eq_true',Bool.or_false] at hz ⊢
  have hlen:(qC ops ms).length=ops.length:=by simp [qC]
  have h2:=vG h2 (i:=i) (by omega)
  have hun:(qC ops ms).getD i 0=(List.range i).foldl (fun u j=>if (ms.getD i 0).testBit j then u else u ||| (1 <<<j)) 0:=by
   rw [List.getD_eq_getElem?_getD,qC,List.getElem?_map,List.getElem?_range hi]
   rfl
  have ht:((co (ts.getD j 0)==2 && co (ts.getD i 0) !=0) || (co (ts.getD i 0)==2 && co (ts.getD j 0) !=0))=false:=by
   simp only [Bool.or_eq_true] at h2
   rcases h2 with h2 | h2
   · have:co (ts.getD i 0)=0:=by simpa using h2
     rw [this];simp
   · have:=vG h2 hj
     rw [hun,JH i hj,hb] at this
     simp only [Bool.not_false,Bool.not_true,Bool.false_or,Bool.not_eq_true'] at this
     exact this
  unfold clash at hz ⊢
  simp only [Bool.or_eq_false_iff] at hz ht ⊢
  exact ⟨⟨⟨hz.1.1.1,hz.1.1.2⟩,ht.1⟩,ht.2⟩
theorem Qr {ops:List Oper}{ts:List Nat}(h1:fH ops (masks ops [])=true) (h2:yG (qC ops (masks ops [])) ts=true):wM ops ts=true:=by
 unfold wM
 unfold fH at h1
 unfold yG at h2
 generalize masks ops []=ms at *
 have hlen:(qC ops ms).length=ops.length:=by simp [qC]
 simp only [Bool.and_eq_true,all_eq_true,mem_range,hlen] at h1 h2 ⊢
 refine ⟨h2.1,fun i hi=>?_⟩
 have h1:=h1 i hi
 rw [List.getElem?_eq_getElem hi] at h1 ⊢
 simp only [Bool.and_eq_true,all_eq_true,mem_range] at h1 ⊢
 refine ⟨⟨h1.1.1,h1.1.2⟩,fun j hj=>?_⟩
 have hz:=h1.2 j hj
 cases hb:(ms.getD i 0).testBit j with
 | true=>simp
 | false=>
  rw [hb] at hz
  have hzz:∀ k,(ops.map fun _=>0).getD k 0=0:=by
   intro k
   rw [List.getD_eq_getElem?_getD,List.getElem?_map]
   cases ops[k]? <;> rfl
  rw [hzz,hzz] at hz
  simp only [Bool.false_or,Bool.not_eq_true',Bool.or_false] at hz ⊢
  have hun:(qC ops ms).getD i 0=(List.range i).foldl (fun u j=>if (ms.getD i 0).testBit j then u else u ||| (1 <<<j)) 0:=by
   rw [List.getD_eq_getElem?_getD,qC,List.getElem?_map,List.getElem?_range hi]
   rfl
  have:=h2.2 i hi j hj
  rw [hun,JH i hj,hb] at this
  simp only [Bool.not_false,Bool.not_true,Bool.false_or,Bool.not_eq_true'] at this
  rw [this,Bool.or_false]
  exact hz
theorem Uw {ops:List Oper}{ts:List Nat}(h1:fH ops (masks ops [])=true) (h2:mV (qC ops (masks ops [])) ts=true):(sZ ops ts || wM ops ts)=true:=by
 unfold mV at h2
 rcases Bool.or_eq_true _ _ ▸ h2 with h2 | h2
 · rw [Qq h1 h2];rfl
 · rw [Qr h1 h2,Bool.or_true]
theorem FU {base ak:Nat→Prop}{V:Wz→Prop}{ops:List Oper}{Qm:Exit→Act→World→Prop}(hD:∀ t,iL P t (D t)) (hT:uM P T.fn) (hY:Wy P l base ak V T) :
  ∀ (qg:List Oper) (ss:List Step) (k:Nat) (S:St) (ts:List Nat) (K:St→List Nat→Prop) (blk:Nat→Option Nat) (a:Act) (w:World),ss.map yH=qg.map (stepOf ops)→(∀ j,qg[j]?=ops[k+j]?)→
   LR P D T ss S ts K→qm base ak V S blk a w→(∀ S' ts' av a' w',K S' ts'→qm base ak V S' av a' w'→Qm .normal a' w')→wpOpsIn (EF l) 0 P ops.toArray Qm (List.range' k qg.length) a w
 | [],ss,k,S,ts,K,blk,a,w,he,_,h,R,hq=>by
  have:ss=[]:=by simpa using he
  subst this
  exact hq S ts blk a w h R
 | o::qg,ss,k,S,ts,K,blk,a,w,he,hl,h,R,hq=>by
  cases ss with
  | nil=>simp at he
  | cons s ss=>
   simp only [List.map_cons,List.cons.injEq] at he
   obtain ⟨he1,he2⟩:=he
   have hd:s.dst=o.dst:=congrArg (fun x:Step=>x.dst) he1
   have hop:s.op=o.op:=congrArg (fun x:Step=>x.op) he1
   have hg:s.g=(stepOf ops o).g:=(congrArg (fun x:Step=>x.g) he1:(yH s).g=(stepOf ops o).g)
   have h0:ops.toArray[k]?=some o:=by simpa using (hl 0).symm
   have hl':∀ j,qg[j]?=ops[k+1+j]?:=fun j=>by have:=hl (j+1);simpa [Nat.add_assoc,Nat.add_comm 1 j] using this
   simp only [List.length_cons,List.range'_succ,wpOpsIn,h0]
   unfold LR at h
   rw [hg] at h
   rcases vz R.choose_spec.2 (FT h) o rfl with ⟨hw,hx⟩ | ⟨hw,hy⟩
   · rw [if_pos hw]
     rw [hop] at hx
     refine YH hD hT hY R hx fun r objs' t v w' av hK R' hr=>?_
     rw [hd] at hK
     obtain ⟨w0,hV,R0⟩:=R'
     exact FU hD hT hY qg ss (k+1) _ _ K av _ w' he2 hl' hK ⟨w0,hV,R0.put hr o.dst⟩ hq
   · rw [if_neg (by rw [hw];simp)]
     rw [hd] at hy
     obtain ⟨w0,hV,R0⟩:=R
     exact ⟨fun _ _=>trivial,FU hD hT hY qg ss (k+1) _ _ K blk _ w he2 hl' hy ⟨w0,hV,R0.put (wL _ _ _ _) o.dst⟩ hq⟩
theorem Wy.ZI {base ak:Nat→Prop}{V:Wz→Prop}:Wy P l base ak V T.ZI:=fun _ _ _ _ _ _ _ _ _ _ h=>h.elim
theorem Wy.inner {base ak:Nat→Prop}{V:Wz→Prop}{n:Nat}:Wy P l base ak V (T.inner n):=fun _ _ _ _ _ _ _ _ _ _ h=>h.elim
end Lp
namespace Lp
open Go
open Nat (le_of_eq le_trans lt_of_lt_of_le)
variable {P:Program}{D:TypeId→aG}{T:Know}{l:Option Nat}
def VP (ys:List (List PV)) (I J:Nat→List Obj→Prop):YT:=fun args objs K=>∃ i,I i objs∧ys[i]?=some args∧(∀ objs',I (i+1) objs'→K true objs')∧∀ objs',J i objs'→K false objs'
def WA:Act:={ tmps:=#[],defers:=[] }
def Nv (y:Nat) (Y:YT):Know:=⟨fun _ _ _ _=>False,y,Y,false,fun _ _ _=>False,0⟩
def Gives (P:Program) (g:FuncId) (cap:List PV) (ys:List (List PV)):Prop:=
 Enters P g∧
 ∀ (I J:Nat→List Obj→Prop) (base ak:Nat→Prop) (V:Wz→Prop) (y:Nat) (objs:List Obj) (blk:Nat→Option Nat) (w:World) (Ii:List Value),
  Wy P none base ak V (Nv y (VP ys I J))→(∀ w0,V w0→w0.nx≤objs.length)→qm base ak V ⟨[],objs⟩ blk WA w→I 0 objs→(∀ i O,I i O→objs.length≤O.length∧jw O)→(∀ i O,J i O→objs.length≤O.length∧jw O)→cu (dB w (bZ base objs blk)) cap Ii→
  Calls P g ⟨.func (.yield y) #[] #[]::Ii⟩ w fun e w'=>∃ objs' av,e=.returned (.tuple #[])∧(I ys.length objs'∨∃ i,i<ys.length∧J i objs')∧qm base ak V ⟨[],objs'⟩ av WA w'
def iN (x:Go.Obj):Prop:=(∃ c t y,x=.cells c t y)∨∃ es n,x=.map es n
theorem Ag (ty:TypeId) (c:Array Value):iN (oz ty c):=by
 unfold oz
 split
 · exact .inr ⟨_,_,rfl⟩
 · exact .inl ⟨_,_,_,rfl⟩
section
variable {base ak:Nat→Prop}{w0:Wz}{S:St}{blk:Nat→Option Nat}{a:Act}{w:World}
theorem mO.cells {w w':World}(h:∀ (k:Nat) x,w.heap[k]?=some x→iN x→w'.heap[k]?=some x) (objs:List Obj) (blk:Nat→Option Nat):mO w w' objs objs blk blk:=
 fun _ o ho=>⟨o,ho,Nat.le_refl _,fun hl _=>⟨hl,rfl,rfl,rfl,fun _=>rfl,fun g c _ hc=>⟨c,h g _ hc (.inl ⟨c,_,_,rfl⟩),rfl⟩⟩⟩
theorem dQ.cells {objs:List Obj}{w w':World}{xZ:Nat→Prop}(R:dQ base ak objs blk w) (hs:w.heap.size≤w'.heap.size) (h:∀ (k:Nat) x,w.heap[k]?=some x→iN x→w'.heap[k]?=some x)
  (hnp:∀ k o g,objs[k]?=some o→o.live=true→blk k=some g→¬ xZ g):dQ base xZ objs blk w':=by
 refine ⟨fun k o h1 h4=>?_,R.Js,hnp⟩
 have hh:=R.ob k o h1 h4
 unfold bY at hh ⊢
 cases hg:blk k with
 | none=>rw [hg] at hh;exact hh
 | some g=>
  rw [hg] at hh
  obtain ⟨c,x1,x2,x3⟩:=hh
  refine ⟨c,h g _ x1 (Ag _ _),x2,fun i x hx=>⟨(x3 i x hx).1,fun j p hp=>?_⟩⟩
  obtain ⟨v,y1,y2⟩:=(x3 i x hx).2 j p hp
  exact ⟨v,y1,y2.rA hs (fun _ _ h=>h) (fun k x _ hx hcx=>h k x hx (.inl hcx)) (.cells h _ _)⟩
theorem fQ {ok:Nat→Prop}{objs:List Obj}{w w':World}{p:PV}{v:Value}(R:aU w ok objs blk p v) (hs:w.heap.size≤w'.heap.size) (h:∀ (k:Nat) x,w.heap[k]?=some x→iN x→w'.heap[k]?=some x) :
  aU w' ok objs blk p v:=R.rA hs (fun _ _ h=>h) (fun k x _ hx hcx=>h k x hx (.inl hcx)) (.cells h _ _)
theorem SY {ok:Nat→Prop}{objs:List Obj}{p:PV}{v:Value}(h:bL w ok objs blk p v):p.uY objs.length=true:=by
 cases p <;> simp only [PV.uY,decide_eq_true_eq] <;> (obtain ⟨_,o,ho,_⟩:=h;exact (List.getElem?_eq_some_iff.1 ho).1)
theorem EK {ok:Nat→Prop}{objs:List Obj}{cs:List PV}{vs:List Value}(h:cu (bL w ok objs blk) cs vs):cs.all (PV.uY objs.length)=true:=by
 rw [List.all_eq_true]
 intro p hp
 obtain ⟨i,hi,rfl⟩:=List.mem_iff_getElem.1 hp
 exact SY (h.2 i cs[i] (vs[i]'(by rw [← h.1];exact hi)) (List.getElem?_eq_getElem hi) (List.getElem?_eq_getElem _))
theorem EL {ok:Nat→Prop}{objs:List Obj}{p:PV}{v:Value}(h:aU w ok objs blk p v):p.lt objs.length=true:=by
 have hS:bL w ok objs blk p v→p.uY objs.length=true:=SY
 cases p
 case fn f a c=>obtain ⟨va,vc,rfl,h1,h2⟩:=h;simp only [PV.lt,EK h1,EK h2,Bool.and_self]
 case bU cs=>obtain ⟨vs,rfl,h1⟩:=h;exact EK h1
 case agg cs=>obtain ⟨vs,rfl,h1⟩:=h;exact EK h1
 all_goals exact hS h
theorem S9 {p:PV}{n:Nat}(h:p.pure=true):p.lt n=true:=by
 have hS:∀ p:PV,(!p.ref)=true→p.uY n=true:=fun p h=>by cases p <;> first | rfl | (simp [PV.ref] at h)
 cases p <;> simp only [PV.pure,Bool.and_eq_true,List.all_eq_true] at h <;> simp only [PV.lt,Bool.and_eq_true,List.all_eq_true] <;> first
  | rfl
  | exact ⟨fun q hq=>hS q (h.1 q hq),fun q hq=>hS q (h.2 q hq)⟩
  | exact fun q hq=>hS q (h q hq)
  | cases h
def pairs (tm:List PV) (vs:Array Value):List (PV×Value):=tm.zip vs.toList
theorem lm {tm:List PV}{vs:Array Value}{x:PV×Value}(h:x ∈ pairs tm vs):∃ t:Nat,tm[t]?=some x.1∧vs.getD t undef=x.2:=by
 obtain ⟨i,hi⟩:=List.mem_iff_getElem?.1 h
 rw [pairs,List.getElem?_zip_eq_some] at hi
 refine ⟨i,hi.1,?_⟩
 rw [Array.getD_eq_getD_getElem?,← Array.getElem?_toList,hi.2]
 rfl
theorem mW {tm:List PV}{vs:Array Value}(hl:vs.size=tm.length){t:Nat}{p:PV}(h:tm[t]?=some p):(p,vs.getD t undef) ∈ pairs tm vs:=by
 refine List.mem_iff_getElem?.2 ⟨t,?_⟩
 rw [pairs,List.getElem?_zip_eq_some]
 have hlt:t<vs.size:=by rw [hl];exact (List.getElem?_eq_some_iff.1 h).1
 refine ⟨h,?_⟩
 rw [Array.getD_eq_getD_getElem?,Array.getElem?_toList,Array.getElem?_eq_getElem hlt]
 rfl
theorem FV {R:PV→Value→Prop}(abE:∀ v,R .dead v):∀ (ps:List Nat) (args:List PV) (vs:List Value) (tm:List PV) (xs:Array Value),args.length=vs.length→xs.size=tm.length→
  (∀ (t:Nat) (p:PV),tm[t]?=some p→R p (xs.getD t undef))→(∀ (i:Nat) (p:PV) (v:Value),args[i]?=some p→vs[i]?=some v→R p v)→
  ((ps.zip vs).foldl (fun t (p,v)=>t.setIfInBounds p v) xs).size=(qo ps args tm).length∧∀ (t:Nat) (p:PV),(qo ps args tm)[t]?=some p→R p (((ps.zip vs).foldl (fun t (p,v)=>t.setIfInBounds p v) xs).getD t undef)
 | [],args,vs,tm,xs,_,hs,h,_=>by cases args <;> exact ⟨hs,h⟩
 | p::ps,[],vs,tm,xs,hl,hs,h,_=>by
  have:vs=[]:=by cases vs <;> simp_all
  subst this
  exact ⟨hs,h⟩
 | p::ps,q::args,[],tm,xs,hl,hs,h,_=>by simp at hl
 | p::ps,q::args,v::vs,tm,xs,hl,hs,h,ha=>by
  simp only [qo,List.zip_cons_cons,List.foldl_cons]
  refine FV abE ps args vs (tm.set p q) (xs.setIfInBounds p v) (by simpa using hl) (by simpa using hs) (fun t r hr=>?_) (fun i r u h1 h2=>ha (i+1) r u (by simpa using h1) (by simpa using h2))
  rw [pE]
  rw [List.getElem?_set] at hr
  by_cases hpt:p=t
  · subst hpt
    rw [if_pos rfl] at hr
    split at hr
    · cases hr
      rename_i hlt
      rw [if_pos ⟨rfl,by omega⟩]
      exact ha 0 q v rfl rfl
    · cases hr
  · rw [if_neg hpt] at hr
    rw [if_neg (fun e=>hpt e.1)]
    exact h t r hr
theorem je {w:World}{k:Nat}{o o':Go.Obj}(ho:w.heap[k]?=some o) (hn:¬ iN o):∀ (j:Nat) x,w.heap[j]?=some x→iN x→(w.putObj k o').heap[j]?=some x:=by
 intro j x hx hc
 rw [World.putObj_heap_other (fun e=>hn (by subst e;rw [ho] at hx;cases hx;exact hc))]
 exact hx
def E0 (n:Nat):Env:=fun _ _ V=>∀ w0,V w0→w0.nx≤n
theorem WB {f:Operand}{ps:List Nat}{x y:Code}{fz:Option (Nat×Nat)}{g:FuncId}{cap:List PV}{ys:List (List PV)}{I:Nat→List Obj→Prop}
  (hg:Gives P g cap ys) (hys:∀ y ∈ ys,y.length=ps.length) (hI0:I 0 S.objs) (Hw:∀ i objs,I i objs→S.objs.length≤objs.length∧jw objs) (R:Rel base ak w0 S blk a w) (hx:w0.xs=[]) (hf:S.ev f=.fn g [] cap) (hcap:cap.all PV.pure=true) (hfz:Ih S.objs.length fz)
  (qP:∀ i args objs,I i objs→ys[i]?=some args→∀ l0,PW P (some l0) (E0 S.objs.length) x (thenS (fun S1=>PW P (some l0) (E0 S.objs.length) y (Qp fz (I (i+1))) S1) (fun _ _=>False)) ⟨qo ps args S.tmps,objs⟩) :
  (Code.rangeFunc f ps.toArray x y).wpIn (EF none) 0 P (fun e a' w'=>∃ objs' av,e=.normal∧I ys.length objs'∧Rel base ak w0 ⟨S.tmps,objs'⟩ av a' w') a w:=by
 refine wpIn_rangeFunc fun fn _=>?_
 have hff:=R.ev f
 rw [hf] at hff
 obtain ⟨va,vc,hv,r1,r2⟩:=hff
 have hva:va=[]:=List.eq_nil_of_length_eq_zero r1.1.symm
 subst hva
 obtain ⟨rec,hrec⟩:∃ rec:LoopState→Loop,rec=fun st=>{ state:=st,pending:=none,fn,tmps:=a.tmps,params:=ps.toArray,assign:=x,body:=y,defers:=w.heap.size }:=⟨_,rfl⟩
 obtain ⟨W1,hW1⟩:∃ W1,(w.alloc (.deferred (some []))).alloc (.loop (rec .ready))=W1:=⟨_,rfl⟩
 have hL1:W1.heap[w.heap.size+1]?=some (.loop (rec .ready)):=by
  rw [← hW1];have:=World.alloc_heap_new (w.alloc (.deferred (some []))) (.loop (rec .ready));rwa [World.size_alloc] at this
 have hK1:W1.heap[w.heap.size]?=some (.deferred (some [])):=by
  rw [← hW1];exact (kr.push (w:=w.alloc (.deferred (some []))) (w':=(w.alloc (.deferred (some []))).alloc (.loop (rec .ready))) rfl).2.1 _ _ (World.alloc_heap_new w _)
 have hs1:W1.heap.size=w.heap.size+2:=by rw [← hW1,World.size_alloc,World.size_alloc]
 have vH:kr w W1:=by
  rw [← hW1]
  exact (kr.push (w':=w.alloc (.deferred (some []))) rfl).trans (kr.push rfl)
 have hnl:∀ k,w.heap.size≤k→aW S.objs blk k:=fun k hk j o h1 h2 h3=>by
  have:=EG R.objs h1 h2 h3;omega
 obtain ⟨⟨fng,hfn,hname,hbody⟩,hgive⟩:=hg
 refine ⟨w.heap.size+1,[{ target:=.collected w.heap.size,args:=#[] }],W1,{ target:=.fn (.func g) ⟨vc⟩,args:=#[.func (.yield (w.heap.size+1)) #[] #[]] },W1,g,
  ⟨.func (.yield (w.heap.size+1)) #[] #[]::vc⟩,W1,?_,?_,fun _ _=>trivial,?_,(fun h=>by cases h),?_⟩
 · rw [← hW1,hrec];exact run_enterLoop_outer _ _ _ _ _
 · simp only [resolve,hv]
   simp [go_sem]
 · have e1:(#[.func (.yield (w.heap.size+1)) #[] #[]]:Array Value)++Array.mk vc=Array.mk (.func (.yield (w.heap.size+1)) #[] #[]::vc):=by apply Array.ext';simp
   simp only [invoke,callFunc,run_program,Sem.run_bind,Result.andThen_ok,hfn,hname,hbody,Bool.false_eq_true,if_false,Sem.run_pure]
   rw [e1]
 · rw [show (0-1:Nat)=0 from rfl]
   refine callsIn_wide.2 ?_
   obtain ⟨l0,hl0⟩:∃ l0,l0=w.heap.size+1:=⟨_,rfl⟩
   rw [← hl0] at hL1 ⊢
   obtain ⟨jo,hprot2⟩:∃ jo:Nat→Prop,jo=fun b=>b<W1.heap.size∧aW S.objs blk b:=⟨_,rfl⟩
   obtain ⟨V2,hV2⟩:∃ V2:Wz→Prop,V2=fun z=>z=⟨W1.heap,pairs S.tmps a.tmps,S.objs.length,w⟩:=⟨_,rfl⟩
   have Nw:jo l0:=by rw [hprot2];exact ⟨by omega,hnl _ (by omega)⟩
   have hpD:jo w.heap.size:=by rw [hprot2];exact ⟨by omega,hnl _ (Nat.le_refl _)⟩
   have ZJ:=R.grew vH
   have aaJ:∀ b,¬ jo b→base b:=by
    intro b hb
    rw [hprot2] at hb
    by_cases h:ak b
    · exact absurd ⟨lt_of_lt_of_le (R.pr b h) (le_trans R.gr (by omega)),fun k o h1 h2 h3=>R.objs.np k o b h1 h2 h3 h⟩ hb
    · exact R.pb b h
   have aaK:∀ k o g,S.objs[k]?=some o→o.live=true→blk k=some g→¬ jo g:=by
    intro k o g h1 h2 h3 h4
    rw [hprot2] at h4
    exact h4.2 k o h1 h2 h3
   have hext:∀ x ∈ pairs S.tmps a.tmps,aU W1 (bZ base S.objs blk) S.objs blk x.1 x.2:=by
    intro x hx
    obtain ⟨t,h1,h2⟩:=lm hx
    rw [← h2]
    exact ZJ.tm t x.1 h1
   have Ux:∀ b ∈ qK.blocks,b<w.heap.size:=fun b hb=>lt_of_lt_of_le (R.pr b (R.gl.2 b hb)) R.gr
   have Ny:∀ b ∈ qK.blocks,jo b:=fun b hb=>by
    rw [hprot2];exact ⟨by have:=Ux b hb;omega,fun k o h1 h2 h3=>R.objs.np k o b h1 h2 h3 (R.gl.2 b hb)⟩
   have aaL:Rel base jo ⟨W1.heap,pairs S.tmps a.tmps,S.objs.length,w⟩ ⟨[],S.objs⟩ blk WA W1:=by
    refine ⟨.nil _ _,rfl,fun t p hp=>by simp at hp,⟨ZJ.objs.ob,R.objs.Js,aaK⟩,fun b hb=>by rw [hprot2] at hb;exact hb.1,fun _ _=>rfl,Nat.le_refl _,aaJ,hext,fun x hx=>EL (hext x hx),vH.2.2,⟨ZJ.mM,Ny⟩⟩
   have hcapR:cu (dB W1 (bZ base S.objs blk)) cap vc:=by
    refine ⟨r2.1,fun i p v hp hv=>?_⟩
    have hpp:=List.all_eq_true.1 hcap p (List.mem_of_getElem? hp)
    have h1:aU w (bZ base S.objs blk) S.objs blk p v:=.jX (r2.2 i p v hp hv)
    exact (h1.yD hpp).mono vH.1 (fun _ _ h=>h) (fun b x _ h=>vH.2.1 b x h)
   have aaM:Wy P none base jo V2 (Nv l0 (VP ys I fun _ _=>False)):=by
    rintro S2 iG a2 w2 args vs K ⟨z,hz,R2⟩ hpt hargs ⟨i,hIi,hyi,hK,_⟩
    rw [hV2] at hz
    subst hz
    have hL2:w2.heap[l0]?=some (.loop (rec .ready)):=(R2.fr l0 Nw).trans hL1
    have hlen:args.length=ps.length:=hys args (List.mem_of_getElem? hyi)
    refine ⟨rec .ready,hL2,by rw [hrec];simp [← hargs.1,hlen],?_⟩
    rw [show (Nv l0 (VP ys I fun _ _=>False)).y=l0 from rfl]
    refine roundIn_of_wpIn trivial ?_
    have hlt2:l0<w2.heap.size:=(Array.getElem?_eq_some_iff.1 hL2).1
    obtain ⟨fI,hprot3⟩:∃ fI:Nat→Prop,fI=fun b=>b<w2.heap.size∧aW S2.objs iG b:=⟨_,rfl⟩
    obtain ⟨FW,hxs3⟩:∃ FW,FW=pairs S.tmps a.tmps++pairs S2.tmps a2.tmps:=⟨_,rfl⟩
    have h23:∀ b,jo b→fI b:=by
     intro b hb
     rw [hprot3]
     exact ⟨lt_of_lt_of_le (R2.pr b hb) R2.gr,fun k o h1 h2 h3=>R2.objs.np k o b h1 h2 h3 hb⟩
    have WC:∀ b,¬ fI b→base b:=fun b hb=>R2.pb b fun h=>hb (h23 b h)
    have aaN:∀ k o g,S2.objs[k]?=some o→o.live=true→iG k=some g→¬ fI g:=by
     intro k o g h1 h2 h3 h4
     rw [hprot3] at h4
     exact h4.2 k o h1 h2 h3
    have WE:∀ x ∈ FW,aU w2 (bZ base S2.objs iG) S2.objs iG x.1 x.2:=by
     intro x hx
     rw [hxs3] at hx
     rcases List.mem_append.1 hx with hx | hx
     · exact R2.ext x hx
     · obtain ⟨t,h1,h2⟩:=lm hx
       rw [← h2]
       exact R2.tm t x.1 h1
    have WG:∀ x ∈ FW,x.1.lt S.objs.length=true:=by
     intro x hx
     rw [hxs3] at hx
     rcases List.mem_append.1 hx with hx | hx
     · exact R2.Ju x hx
     · obtain ⟨t,h1,_⟩:=lm hx
       exact S9 (List.all_eq_true.1 hpt x.1 (List.mem_of_getElem? h1))
    obtain ⟨YI,htm0⟩:∃ YI,YI=(((rec .ready).params.zip (⟨vs⟩:Array Value)).foldl (fun t (p,v)=>t.setIfInBounds p v) (rec .ready).tmps):=⟨_,rfl⟩
    rw [← htm0]
    have Nz:YI=(ps.zip vs).foldl (fun t (p,v)=>t.setIfInBounds p v) a.tmps:=by
     rw [htm0,hrec]
     simp only []
     rw [← Array.foldl_toList]
     simp
    have hset:=FV (R:=aU w2 (bZ base S2.objs iG) S2.objs iG) (fun v=>.dead v) ps args vs S.tmps a.tmps hargs.1 R.Cg
     (fun t p hp=>R2.ext (p,a.tmps.getD t undef) (mW R.Cg hp)) (fun i p v h1 h2=>.aJ (hargs.2 i p v h1 h2))
    have Rr:Rel base fI ⟨w2.heap,FW,S.objs.length,w⟩ ⟨qo ps args S.tmps,S2.objs⟩ iG { tmps:=YI,defers:=[] } w2:=by
     refine ⟨.nil _ _,by rw [Nz];exact hset.1,fun t p hp=>by rw [Nz];exact hset.2 t p hp,⟨R2.objs.ob,R2.objs.Js,aaN⟩,fun b hb=>by rw [hprot3] at hb;exact hb.1,fun _ _=>rfl,Nat.le_refl _,WC,WE,WG,R2.sm,⟨R2.mM,fun b hb=>h23 b (Ny b hb)⟩⟩
    have KH:=qP i args S2.objs hIi hyi l0 base fI (fun z=>z=⟨w2.heap,FW,S.objs.length,w⟩) (by rintro z rfl;exact Nat.le_refl _) iG _ w2 ⟨_,rfl,Rr⟩
    rw [show (rec .ready).assign=x by rw [hrec],show (rec .ready).body=y by rw [hrec]]
    change x.wpIn (EF (some l0)) 0 P _ _ _
    refine wpIn_mono KH ?_
    rintro e a3 w3 ⟨S3,WH,he,z,rfl,R3⟩
    cases e with
    | normal=>
     have hp3:fI l0:=h23 l0 Nw
     have hL3:w3.heap[l0]?=some (.loop (rec .ready)):=(R3.fr l0 hp3).trans hL2
     refine ⟨_,run_beginRound hL3 (by rw [hrec]),?_⟩
     have WI:({ rec .ready with state:=.busy }:Loop)=rec .busy:=by rw [hrec]
     rw [WI]
     obtain ⟨w4,hw4⟩:∃ w4,w4=w3.putObj l0 (.loop (rec .busy)):=⟨_,rfl⟩
     rw [← hw4]
     have hnc:∀ st,¬ iN (.loop (rec st)):=by rintro st (⟨c,t,y,h⟩ | ⟨es,n,h⟩) <;> cases h
     have Qs:∀ (k:Nat) x,w3.heap[k]?=some x→iN x→w4.heap[k]?=some x:=by rw [hw4];exact je hL3 (hnc _)
     have hs4:w4.heap.size=w3.heap.size:=by rw [hw4];exact World.putObj_size
     have ZK:∀ k:Nat,k≠l0→w4.heap[k]?=w3.heap[k]?:=fun k hk=>by rw [hw4];exact World.putObj_heap_other hk
     have aaO:l0<w3.heap.size:=(Array.getElem?_eq_some_iff.1 hL3).1
     have hL4:w4.heap[l0]?=some (.loop (rec .busy)):=by rw [hw4];exact World.putObj_heap_same aaO
     have aaP:∀ b,fI b→b<w2.heap.size:=fun b hb=>by rw [hprot3] at hb;exact hb.1
     have acN:w2.heap.size≤w3.heap.size:=R3.gr
     have R4:Rel base fI ⟨w4.heap,FW,S.objs.length,w⟩ S3 WH a3 w4:=by
      refine ⟨?_,R3.Cg,fun t p hp=>fQ (R3.tm t p hp) (le_of_eq hs4.symm) Qs,R3.objs.cells (le_of_eq hs4.symm) Qs R3.objs.np,fun b hb=>?_,fun _ _=>rfl,Nat.le_refl _,WC,fun x hx=>fQ (R3.ext x hx) (le_of_eq hs4.symm) Qs,R3.Ju,R3.sm.trans (by rw [hw4];exact ⟨rfl,rfl⟩),⟨qK.keep (fun b hb=>ZK b (by have:=Ux b hb;omega)) R3.mM,fun b hb=>h23 b (Ny b hb)⟩⟩
      · obtain ⟨Ds,h1,h2,h3⟩:=R3.nN
        refine ⟨Ds,h1,h2,fun b hb=>?_⟩
        rw [ZK b (fun e=>(h3 b hb).2.2 (e ▸ hp3))]
        exact h3 b hb
      · have:=aaP b hb;show b<w4.heap.size;omega
     have hbody:=he base fI (fun z=>z=⟨w4.heap,FW,S.objs.length,w⟩) (by rintro z rfl;exact Nat.le_refl _) WH a3 w4 ⟨_,rfl,R4⟩
     refine wpIn_mono hbody ?_
     rintro e a5 w5 ⟨S5,blk5,he5,z,rfl,R5⟩
     cases e with
     | normal=>
      have hL5:w5.heap[l0]?=some (.loop (rec .busy)):=(R5.fr l0 hp3).trans hL4
      refine ⟨_,_,run_endRound none hL5,?_⟩
      have Qt:({ rec .busy with state:=if (none:Option Code).isNone then .ready else .done,pending:=none }:Loop)=rec .ready:=by rw [hrec];rfl
      rw [Qt]
      obtain ⟨w6,hw6⟩:∃ w6,w6=w5.putObj l0 (.loop (rec .ready)):=⟨_,rfl⟩
      rw [← hw6]
      obtain ⟨FX,R6⟩:=Weak.norm (m:=S.objs.length) [] fz hfz S5 base fI _ blk5 a5 w5 (Nat.le_refl _) R5
      have FY:∀ (k:Nat) x,w5.heap[k]?=some x→iN x→w6.heap[k]?=some x:=by rw [hw6];exact je hL5 (hnc _)
      have hs6:w6.heap.size=w5.heap.size:=by rw [hw6];exact World.putObj_size
      have ho6:∀ k:Nat,k≠l0→w6.heap[k]?=w5.heap[k]?:=fun k hk=>by rw [hw6];exact World.putObj_heap_other hk
      have hl5:l0<w5.heap.size:=(Array.getElem?_eq_some_iff.1 hL5).1
      have abF:w4.heap.size≤w5.heap.size:=R5.gr
      have hall:∀ b,fI b→w6.heap[b]?=w2.heap[b]?:=by
       intro b hb
       by_cases hbl:b=l0
       · subst hbl
         rw [hL2,hw6,World.putObj_heap_same hl5]
       · rw [ho6 b hbl,R5.fr b hb]
         show w4.heap[b]?=_
         rw [ZK b hbl]
         exact R3.fr b hb
      have WJ:∀ b,fI b→aW (S5.norm [] fz).objs FX b:=fun b hb k o h1 h2 h3=>R6.objs.np k o b h1 h2 h3 hb
      refine ⟨true,(S5.norm [] fz).objs,FX,rfl,hK _ he5,⟨W1.heap,pairs S.tmps a.tmps,S.objs.length,w⟩,by rw [hV2],?_⟩
      have WK:∀ x ∈ pairs S.tmps a.tmps,x ∈ FW:=fun x hx=>by rw [hxs3];exact List.mem_append_left _ hx
      have WL:∀ x ∈ pairs S2.tmps a2.tmps,x ∈ FW:=fun x hx=>by rw [hxs3];exact List.mem_append_right _ hx
      refine ⟨?_,R2.Cg,fun t p hp=>?_,R6.objs.cells (le_of_eq hs6.symm) FY (fun k o g h1 h2 h3 h4=>R6.objs.np k o g h1 h2 h3 (h23 g h4)),R2.pr,fun b hb=>?_,?_,R2.pb,fun x hx=>fQ (R6.ext x (WK x hx)) (le_of_eq hs6.symm) FY,R2.Ju,R6.sm.trans (by rw [hw6];exact ⟨rfl,rfl⟩),R2.gl⟩
      · obtain ⟨Ds,h1,h2,h3⟩:=R2.nN
        refine ⟨Ds,h1,h2,fun b hb=>?_⟩
        obtain ⟨q1,q2,q3⟩:=h3 b hb
        have hb3:fI b:=by rw [hprot3];exact ⟨(Array.getElem?_eq_some_iff.1 q1).1,q2.2⟩
        exact ⟨by rw [hall b hb3];exact q1,⟨q2.1,WJ b hb3⟩,q3⟩
      · exact fQ (R6.ext (p,a2.tmps.getD t undef) (WL _ (mW R2.Cg hp))) (le_of_eq hs6.symm) FY
      · rw [hall b (h23 b hb)];exact R2.fr b hb
      · have:=R2.gr;show W1.heap.size≤w6.heap.size;simp only at this;omega
     | _=>exact he5.elim
    | _=>exact he.elim
   refine Calls.mono (hgive I (fun _ _=>False) base jo V2 l0 S.objs blk W1 vc aaM (fun z hz=>by rw [hV2] at hz;rw [hz];exact Nat.le_refl _) ⟨_,by rw [hV2],aaL⟩ hI0 Hw (fun _ _ h=>h.elim) hcapR) ?_
   rintro e w3 ⟨objs',av,rfl,hIJ,z,hz,R3⟩
   have hI:I ys.length objs':=hIJ.resolve_right fun ⟨_,_,h⟩=>h
   rw [hV2] at hz
   subst hz
   have hL3:w3.heap[l0]?=some (.loop (rec .ready)):=(R3.fr l0 Nw).trans hL1
   have hD3:w3.heap[w.heap.size]?=some (.deferred (some [])):=(R3.fr _ hpD).trans hK1
   have hnc:¬ iN (.loop (rec .ready)):=by rintro (⟨c,t,y,h⟩ | ⟨es,n,h⟩) <;> cases h
   have hend:=run_endLoop (P:=P) hL3 (by rw [hrec];simp)
   refine ⟨none,w3.putObj l0 (.loop { rec .ready with state:=.exhausted }),by rw [hend,hrec],?_⟩
   simp only []
   have hcl:=je (o':=.loop { rec .ready with state:=.exhausted }) hL3 hnc
   have hsz:(w3.putObj l0 (.loop { rec .ready with state:=.exhausted })).heap.size=w3.heap.size:=World.putObj_size
   have hle:w.heap.size≤w3.heap.size:=by have:=R3.gr;simp only at this;omega
   have hother:∀ k:Nat,k≠l0→(w3.putObj l0 (.loop { rec .ready with state:=.exhausted })).heap[k]?=w3.heap[k]?:=fun k hk=>World.putObj_heap_other hk
   have hkeep:∀ b,b<w.heap.size→aW S.objs blk b→aW objs' av b:=by
    intro b hb hnb k o h1 h2 h3
    refine R3.objs.np k o b h1 h2 h3 ?_
    rw [hprot2];exact ⟨by omega,hnb⟩
   have hsame:∀ b,b<w.heap.size→aW S.objs blk b→(w3.putObj l0 (.loop { rec .ready with state:=.exhausted })).heap[b]?=w.heap[b]?:=by
    intro b hb hnb
    rw [hother b (by omega),R3.fr b (by rw [hprot2];exact ⟨by omega,hnb⟩)]
    have hbx:w.heap[b]?=some (w.heap[b]):=Array.getElem?_eq_getElem hb
    rw [vH.2.1 b _ hbx,hbx]
   have hpn:∀ b,ak b→b<w.heap.size∧aW S.objs blk b:=fun b hb=>⟨lt_of_lt_of_le (R.pr b hb) R.gr,fun k o h1 h2 h3=>R.objs.np k o b h1 h2 h3 hb⟩
   have aaQ:∀ k o g,objs'[k]?=some o→o.live=true→av k=some g→¬ ak g:=fun k o g h1 h2 h3 h4=>hkeep g (hpn g h4).1 (hpn g h4).2 k o h1 h2 h3
   refine ⟨objs',av,trivial,hI,?_,R.Cg,fun t p hp=>?_,R3.objs.cells (le_of_eq hsz.symm) hcl aaQ,R.pr,fun b hb=>?_,le_trans R.gr (by rw [hsz];exact hle),R.pb,(by rw [hx];intro x h;simp at h),R.Ju,(R.sm.trans R3.sm).trans ⟨rfl,rfl⟩,R.gl⟩
   · obtain ⟨Ds,h1,h2,h3⟩:=R.nN
     refine ⟨w.heap.size::Ds,by simp [h1],List.nodup_cons.2 ⟨fun hm=>?_,h2⟩,fun b hb=>?_⟩
     · have:=(Array.getElem?_eq_some_iff.1 (h3 _ hm).1).1;omega
     · rcases List.mem_cons.1 hb with rfl | hb
       · refine ⟨by rw [hother _ (by omega)];exact hD3,⟨R.bs _ R.gr,fun k o h1 h2 h3=>R3.objs.np k o _ h1 h2 h3 hpD⟩,fun hp=>by have:=(hpn _ hp).1;omega⟩
       · obtain ⟨q1,q2,q3⟩:=h3 b hb
         have hbs:=(Array.getElem?_eq_some_iff.1 q1).1
         exact ⟨by rw [hsame b hbs q2.2];exact q1,⟨q2.1,hkeep b hbs q2.2⟩,q3⟩
   · exact fQ (R3.ext (p,a.tmps.getD t undef) (mW R.Cg hp)) (le_of_eq hsz.symm) hcl
   · rw [hsame b (hpn b hb).1 (hpn b hb).2];exact R.fr b hb
theorem JI (k:Nat) (O:List Obj):(iC k O).length=O.length:=by simp [iC]
theorem o9 {k j:Nat}{O:List Obj}(h1:j≠k) (h2:j≠k+1):(iC k O)[j]?=O[j]?:=by
 unfold iC
 rw [List.getElem?_set,if_neg (fun e=>h2 e.symm),List.getElem?_set,if_neg (fun e=>h1 e.symm)]
theorem EM {k:Nat}{O:List Obj}(h:k+1<O.length):(iC k O)[k]?=some hole:=by
 unfold iC
 rw [List.getElem?_set,if_neg (by omega),List.getElem?_set];simp;omega
theorem KI {k:Nat}{O:List Obj}(h:k+1<O.length):(iC k O)[k+1]?=some BR:=by
 unfold iC
 rw [List.getElem?_set];simp;omega
def kK (k:Nat) (blk:Nat→Option Nat):Nat→Option Nat:=fun j=>if j=k+1 then none else blk j
theorem tu {k b:Nat}{O:List Obj}{bl:Nat→Option Nat}(hk:k+1<O.length) (h:aW O bl b):aW (iC k O) (kK k bl) b:=by
 intro j o h1 h2 h3
 by_cases e2:j=k+1
 · subst e2;simp [kK] at h3
 · by_cases e1:j=k
   · subst e1;rw [EM hk] at h1;cases h1;cases h2
   · rw [o9 e1 e2] at h1
     refine h j o h1 h2 ?_
     simpa [kK,e2] using h3
theorem rJ {k:Nat}{O:List Obj}{bl:Nat→Option Nat}{p:PV}{v:Value}{ok ok':Nat→Prop}(hp:p.uY k=true) (hok:∀ b,ok b→ok' b) (h:bL w ok O bl p v):bL w ok' (iC k O) (kK k bl) p v:=by
 have hm:∀ q:PV,dB w ok q v→dB w ok' q v:=fun q hq=>hq.mono (Nat.le_refl _) (fun b _ h=>hok b h) (fun _ _ _ h=>h)
 cases p with
 | aY j ver=>
  have hj:j<k:=by simpa [PV.uY] using hp
  obtain ⟨h0,o,h1,h2,h3⟩:=h
  refine ⟨h0,o,by rw [o9 (by omega) (by omega)];exact h1,h2,fun e1 e2=>?_⟩
  obtain ⟨hM,hh⟩:=h3 e1 e2
  refine ⟨hM,?_⟩
  unfold zU at hh ⊢
  rw [show kK k bl j=bl j by simp [kK];omega]
  exact hh
 | bM j ver i f=>
  have hj:j<k:=by simpa [PV.uY] using hp
  obtain ⟨h0,o,h1,h2,h3⟩:=h
  refine ⟨h0,o,by rw [o9 (by omega) (by omega)];exact h1,h2,fun e1 e2=>?_⟩
  rw [show kK k bl j=bl j by simp [kK];omega]
  exact h3 e1 e2
 | sJ j ver=>
  have hj:j<k:=by simpa [PV.uY] using hp
  obtain ⟨h0,o,h1,h2,h3⟩:=h
  refine ⟨h0,o,by rw [o9 (by omega) (by omega)];exact h1,h2,fun e1 e2=>?_⟩
  rw [show kK k bl j=bl j by simp [kK];omega]
  exact h3 e1 e2
 | _=>exact hm _ h
theorem Uy {k:Nat}{O:List Obj}{bl:Nat→Option Nat}{p:PV}{v:Value}{ok ok':Nat→Prop}(hp:p.lt k=true) (hok:∀ b,ok b→ok' b) (h:aU w ok O bl p v):aU w ok' (iC k O) (kK k bl) p v:=by
 have hl:∀ (cs:List PV) (vs:List Value),cs.all (PV.uY k)=true→cu (bL w ok O bl) cs vs→cu (bL w ok' (iC k O) (kK k bl)) cs vs:=
  fun cs vs hc h=>⟨h.1,fun i p u h1 h2=>rJ (List.all_eq_true.1 hc p (List.mem_of_getElem? h1)) hok (h.2 i p u h1 h2)⟩
 cases p with
 | fn f a c=>
  simp only [PV.lt,Bool.and_eq_true] at hp
  obtain ⟨va,vc,rfl,h1,h2⟩:=h
  exact ⟨va,vc,rfl,hl _ _ hp.1 h1,hl _ _ hp.2 h2⟩
 | bU cs=>obtain ⟨us,rfl,h1⟩:=h;exact ⟨us,rfl,hl _ _ hp h1⟩
 | agg cs=>obtain ⟨us,rfl,h1⟩:=h;exact ⟨us,rfl,hl _ _ hp h1⟩
 | aY j ver=>exact rJ (p:=.aY j ver) hp hok h
 | bM j ver i f=>exact rJ (w:=w) (p:=.bM j ver i f) hp hok h
 | sJ j ver=>exact rJ (w:=w) (p:=.sJ j ver) hp hok h
 | _=>exact .jX (rJ rfl hok (by exact h))
theorem Uz {k:Nat}{O:List Obj}{bl:Nat→Option Nat}{xZ:Nat→Prop}(R:dQ base xZ O bl w) (hk:k+1<O.length) (hn:eU O) (hA:O[k]?=some BR) :
  dQ base xZ (iC k O) (kK k bl) w:=by
 have hok:∀ b,bZ base O bl b→bZ base (iC k O) (kK k bl) b:=fun b h=>⟨h.1,tu hk h.2⟩
 have get:∀ (j:Nat) (o:Obj),(iC k O)[j]?=some o→o.live=true→(j=k+1∧o=BR)∨(j≠k∧j≠k+1∧O[j]?=some o∧kK k bl j=bl j):=by
  intro j o h1 h2
  by_cases e2:j=k+1
  · subst e2;rw [KI hk] at h1;cases h1;exact .inl ⟨rfl,rfl⟩
  · by_cases e1:j=k
    · subst e1;rw [EM hk] at h1;cases h1;cases h2
    · rw [o9 e1 e2] at h1;exact .inr ⟨e1,e2,h1,by simp [kK,e2]⟩
 have hB:kK k bl (k+1)=none:=by simp [kK]
 refine ⟨fun j o h1 h2=>?_,fun j j' o o' g hne h1 h2 h3 h4 h5 h6=>?_,fun j o g h1 h2 h3=>?_⟩
 · rcases get j o h1 h2 with ⟨rfl,rfl⟩ | ⟨e1,e2,h1',hb⟩
   · unfold bY;rw [hB];rfl
   · have hh:=R.ob j o h1' h2
     unfold bY at hh ⊢
     rw [hb]
     cases hbj:bl j with
     | none=>rw [hbj] at hh;exact hh
     | some g=>
      rw [hbj] at hh
      obtain ⟨c,x1,x2,x3⟩:=hh
      refine ⟨c,x1,x2,fun i x hx=>⟨(x3 i x hx).1,fun q p hp=>?_⟩⟩
      obtain ⟨u,y1,y2⟩:=(x3 i x hx).2 q p hp
      exact ⟨u,y1,.aJ ((y2.yD (hn o (List.mem_of_getElem? h1') x (List.mem_of_getElem? hx) p (List.mem_of_getElem? hp))).om fun b _ hb=>hok b hb)⟩
 · rcases get j o h1 h2 with ⟨rfl,rfl⟩ | ⟨_,_,h1',hb⟩
   · rw [hB] at h5;cases h5
   · rcases get j' o' h3 h4 with ⟨rfl,rfl⟩ | ⟨_,_,h3',hb'⟩
     · rw [hB] at h6;cases h6
     · rw [hb] at h5;rw [hb'] at h6
       exact R.Js j j' o o' g hne h1' h2 h3' h4 h5 h6
 · rcases get j o h1 h2 with ⟨rfl,rfl⟩ | ⟨_,_,h1',hb⟩
   · rw [hB] at h3;cases h3
   · rw [hb] at h3;exact R.np j o g h1' h2 h3
theorem UA {f:Operand}{ps:List Nat}{x y:Code}{fz:Option (Nat×Nat)}{g:FuncId}{cap:List PV}{ys:List (List PV)}{I J:Nat→List Obj→Prop}{lv:Exit}{lc:Code}
  (hg:Gives P g cap ys) (hys:∀ y ∈ ys,y.length=ps.length) (hlv:FR lv=some lc) (hI0:I 0 (S.objs++[BR,hole])) (Hw:∀ i objs,I i objs→Gh S.objs.length objs) (VQ:∀ i objs,J i objs→Gh S.objs.length objs∧eU objs) (R:Rel base ak w0 S blk a w) (hx:w0.xs=[]) (hf:S.ev f=.fn g [] cap) (hcap:cap.all PV.pure=true) (hfz:Ih (S.objs.length+2) fz)
  (qP:∀ i args objs,I i objs→ys[i]?=some args→∀ l0,PW P (some l0) (E0 (S.objs.length+2)) x (thenS (fun S1=>PW P (some l0) (E0 (S.objs.length+2)) y (KG fz (I (i+1)) lv (J i)) S1) (fun _ _=>False)) ⟨qo ps args S.tmps,objs⟩) :
  (Code.rangeFunc f ps.toArray x y).wpIn (EF none) 0 P (fun e a' w'=>∃ objs' av,((e=.normal∧I ys.length objs')∨(e=lv∧∃ i O,i<ys.length∧J i O∧objs'=iC S.objs.length O))∧Rel base ak w0 ⟨S.tmps,objs'⟩ av a' w') a w:=by
 refine wpIn_rangeFunc fun fn _=>?_
 have aaR:∀ t:Nat,∀ p,S.tmps[t]?=some p→p.lt S.objs.length=true:=fun t p hp=>EL (R.tm t p hp)
 obtain ⟨k,hk⟩:∃ k,k=S.objs.length:=⟨_,rfl⟩
 have hff:=R.ev f
 rw [hf] at hff
 obtain ⟨va,vc,hv,r1,r2⟩:=hff
 have hva:va=[]:=List.eq_nil_of_length_eq_zero r1.1.symm
 subst hva
 obtain ⟨uV,RG,abG⟩:∃ uV,Rel base ak w0 ⟨S.tmps,S.objs++[BR,hole]⟩ uV a w∧∀ b,aW S.objs blk b→aW (S.objs++[BR,hole]) uV b:=by
  have g1:=R.Cj (o1:=BR) (gb:=none) (kr.refl w) (fun g hg=>by cases hg) fun _=>by
   unfold bY aI;rw [if_pos rfl];rfl
  have g2:=g1.Cj (o1:=hole) (gb:=none) (kr.refl w) (fun g hg=>by cases hg) fun _=>by
   unfold bY aI;rw [if_pos rfl];rfl
  have e1:(S.objs++[BR]).length=S.objs.length+1:=by simp
  have e2:S.objs++[BR]++[hole]=S.objs++[BR,hole]:=by simp
  simp only [e1,e2] at g2
  refine ⟨_,g2,fun b hn j o h1 h2 h3=>?_⟩
  have hj:j<S.objs.length+2:=by have:=(List.getElem?_eq_some_iff.1 h1).1;simpa using this
  unfold aI at h3
  split at h3
  · cases h3
  · split at h3
    · cases h3
    · rw [List.getElem?_append_left (by omega)] at h1
      exact hn j o h1 h2 h3
 have hAg:(S.objs++[BR,hole])[S.objs.length]?=some BR:=by simp
 have hBg:(S.objs++[BR,hole])[S.objs.length+1]?=some hole:=by simp
 have Yd:(S.objs++[BR,hole]).length=S.objs.length+2:=by simp
 obtain ⟨S',hS'⟩:∃ S':St,S'=⟨S.tmps,S.objs++[BR,hole]⟩:=⟨_,rfl⟩
 have hSt:S'.tmps=S.tmps:=by rw [hS']
 have hSo:S'.objs=S.objs++[BR,hole]:=by rw [hS']
 rw [← hS'] at RG
 rw [← hSo] at hAg hBg Yd hI0 abG
 rw [← hk] at hAg hBg Yd hfz qP Hw VQ aaR ⊢
 obtain ⟨rec,hrec⟩:∃ rec:LoopState→Option Code→Loop,rec=fun st pe=>{ state:=st,pending:=pe,fn,tmps:=a.tmps,params:=ps.toArray,assign:=x,body:=y,defers:=w.heap.size }:=⟨_,rfl⟩
 obtain ⟨W1,hW1⟩:∃ W1,(w.alloc (.deferred (some []))).alloc (.loop (rec .ready none))=W1:=⟨_,rfl⟩
 have hL1:W1.heap[w.heap.size+1]?=some (.loop (rec .ready none)):=by
  rw [← hW1];have:=World.alloc_heap_new (w.alloc (.deferred (some []))) (.loop (rec .ready none));rwa [World.size_alloc] at this
 have hK1:W1.heap[w.heap.size]?=some (.deferred (some [])):=by
  rw [← hW1];exact (kr.push (w:=w.alloc (.deferred (some []))) (w':=(w.alloc (.deferred (some []))).alloc (.loop (rec .ready none))) rfl).2.1 _ _ (World.alloc_heap_new w _)
 have hs1:W1.heap.size=w.heap.size+2:=by rw [← hW1,World.size_alloc,World.size_alloc]
 have vH:kr w W1:=by
  rw [← hW1]
  exact (kr.push (w':=w.alloc (.deferred (some []))) rfl).trans (kr.push rfl)
 have hnl:∀ k,w.heap.size≤k→aW S'.objs uV k:=fun k hk j o h1 h2 h3=>by
  have:=EG RG.objs h1 h2 h3;omega
 obtain ⟨⟨fng,hfn,hname,hbody⟩,hgive⟩:=hg
 refine ⟨w.heap.size+1,[{ target:=.collected w.heap.size,args:=#[] }],W1,{ target:=.fn (.func g) ⟨vc⟩,args:=#[.func (.yield (w.heap.size+1)) #[] #[]] },W1,g,
  ⟨.func (.yield (w.heap.size+1)) #[] #[]::vc⟩,W1,?_,?_,fun _ _=>trivial,?_,(fun h=>by cases h),?_⟩
 · rw [← hW1,hrec];exact run_enterLoop_outer _ _ _ _ _
 · simp only [resolve,hv]
   simp [go_sem]
 · have e1:(#[.func (.yield (w.heap.size+1)) #[] #[]]:Array Value)++Array.mk vc=Array.mk (.func (.yield (w.heap.size+1)) #[] #[]::vc):=by apply Array.ext';simp
   simp only [invoke,callFunc,run_program,Sem.run_bind,Result.andThen_ok,hfn,hname,hbody,Bool.false_eq_true,if_false,Sem.run_pure]
   rw [e1]
 · rw [show (0-1:Nat)=0 from rfl]
   refine callsIn_wide.2 ?_
   obtain ⟨l0,hl0⟩:∃ l0,l0=w.heap.size+1:=⟨_,rfl⟩
   rw [← hl0] at hL1 ⊢
   obtain ⟨jo,hprot2⟩:∃ jo:Nat→Prop,jo=fun b=>b<W1.heap.size∧aW S'.objs uV b:=⟨_,rfl⟩
   obtain ⟨z0,hz0⟩:∃ z0:Wz,z0=⟨W1.heap,(.aY (k+1) 0,.bool false)::pairs S'.tmps a.tmps,S'.objs.length,w⟩:=⟨_,rfl⟩
   obtain ⟨z1,hz1⟩:∃ z1:Wz,z1=⟨(W1.putObj l0 (.loop (rec .done (some lc)))).heap,(.aY k 0,.bool false)::pairs S'.tmps a.tmps,S'.objs.length,w⟩:=⟨_,rfl⟩
   obtain ⟨V2,hV2⟩:∃ V2:Wz→Prop,V2=fun z=>z=z0∨z=z1:=⟨_,rfl⟩
   have ghost:∀ {ww:World}{ok:Nat→Prop}{O:List Obj}{bl:Nat→Option Nat}{j:Nat},aU ww ok O bl (.aY j 0) (.bool false)→O[j]?=some BR→False:=by
    intro ww ok O bl j h h1
    have:=h.aY h1 rfl rfl
    unfold zU at this
    split at this
    · cases this.1
    · obtain ⟨_,_,h,_⟩:=this;cases h
   have ZL:∀ {ww:World}{ok:Nat→Prop}{O:List Obj}{bl:Nat→Option Nat}{j:Nat},O[j]?=some hole→aU ww ok O bl (.aY j 0) (.bool false):=
    fun h=>⟨rfl,_,h,Nat.le_refl _,fun hl=>by cases hl⟩
   have Nw:jo l0:=by rw [hprot2];exact ⟨by omega,hnl _ (by omega)⟩
   have hpD:jo w.heap.size:=by rw [hprot2];exact ⟨by omega,hnl _ (Nat.le_refl _)⟩
   have ZJ:=RG.grew vH
   have aaJ:∀ b,¬ jo b→base b:=by
    intro b hb
    rw [hprot2] at hb
    by_cases h:ak b
    · exact absurd ⟨lt_of_lt_of_le (RG.pr b h) (le_trans RG.gr (by omega)),fun k o h1 h2 h3=>RG.objs.np k o b h1 h2 h3 h⟩ hb
    · exact RG.pb b h
   have aaK:∀ k o g,S'.objs[k]?=some o→o.live=true→uV k=some g→¬ jo g:=by
    intro k o g h1 h2 h3 h4
    rw [hprot2] at h4
    exact h4.2 k o h1 h2 h3
   have hext:∀ x ∈ pairs S'.tmps a.tmps,aU W1 (bZ base S'.objs uV) S'.objs uV x.1 x.2:=by
    intro x hx
    obtain ⟨t,h1,h2⟩:=lm hx
    rw [← h2]
    exact ZJ.tm t x.1 h1
   have ZM:∀ x ∈ z0.xs,aU W1 (bZ base S'.objs uV) S'.objs uV x.1 x.2:=by
    intro x hx
    rw [hz0] at hx
    rcases List.mem_cons.1 hx with rfl | hx
    · exact ZL hBg
    · exact hext x hx
   have Ux:∀ b ∈ qK.blocks,b<w.heap.size:=fun b hb=>lt_of_lt_of_le (R.pr b (R.gl.2 b hb)) R.gr
   have Ny:∀ b ∈ qK.blocks,jo b:=fun b hb=>by
    rw [hprot2];exact ⟨by have:=Ux b hb;omega,fun k o h1 h2 h3=>RG.objs.np k o b h1 h2 h3 (R.gl.2 b hb)⟩
   have aaL:Rel base jo z0 ⟨[],S'.objs⟩ uV WA W1:=by
    refine ⟨.nil _ _,rfl,fun t p hp=>by simp at hp,⟨ZJ.objs.ob,RG.objs.Js,aaK⟩,fun b hb=>by rw [hprot2] at hb;rw [hz0];exact hb.1,fun _ _=>by rw [hz0],by rw [hz0];exact Nat.le_refl _,aaJ,ZM,fun x hx=>?_,by rw [hz0];exact vH.2.2,by rw [hz0];exact ⟨ZJ.mM,Ny⟩⟩
    have:=EL (ZM x hx)
    rw [hz0];exact this
   have acO:∀ b,b<w.heap.size→bZ base S.objs blk b→bZ base S'.objs uV b:=by
    intro b _ h
    refine ⟨h.1,fun j o h1 h2 h3=>?_⟩
    exact abG b h.2 j o h1 h2 h3
   have hcapR:cu (dB W1 (bZ base S'.objs uV)) cap vc:=by
    refine ⟨r2.1,fun i p v hp hv=>?_⟩
    have hpp:=List.all_eq_true.1 hcap p (List.mem_of_getElem? hp)
    have h1:aU w (bZ base S.objs blk) S.objs blk p v:=.jX (r2.2 i p v hp hv)
    have h2:dB w (bZ base S'.objs uV) p v:=(h1.yD hpp).om acO
    exact h2.mono vH.1 (fun _ _ h=>h) (fun b x _ h=>vH.2.1 b x h)
   have aaM:Wy P none base jo V2 (Nv l0 (VP ys I fun i O=>∃ O',J i O'∧O=iC k O')):=by
    rintro S2 iG a2 w2 args vs K ⟨z,hz,R2⟩ hpt hargs ⟨i,hIi,hyi,hK,hKf⟩
    rw [hV2] at hz
    have hz:z=z0:=by
     rcases hz with hz | hz
     · exact hz
     · exfalso
       refine ghost (R2.ext (.aY k 0,.bool false) ?_) (Hw i _ hIi).2.2.1
       rw [hz,hz1];exact List.mem_cons_self
    subst hz
    have YJ:z.heap=W1.heap:=by rw [hz0]
    have hzx:z.xs=(.aY (k+1) 0,.bool false)::pairs S'.tmps a.tmps:=by rw [hz0]
    have hzn:z.nx=S'.objs.length:=by rw [hz0]
    have hzo:z.out=w:=by rw [hz0]
    have hL2:w2.heap[l0]?=some (.loop (rec .ready none)):=(R2.fr l0 Nw).trans (by rw [YJ];exact hL1)
    have hlen:args.length=ps.length:=hys args (List.mem_of_getElem? hyi)
    refine ⟨rec .ready none,hL2,by rw [hrec];simp [← hargs.1,hlen],?_⟩
    rw [show (Nv l0 (VP ys I fun i O=>∃ O',J i O'∧O=iC k O')).y=l0 from rfl]
    refine roundIn_of_wpIn trivial ?_
    have hlt2:l0<w2.heap.size:=(Array.getElem?_eq_some_iff.1 hL2).1
    obtain ⟨fI,hprot3⟩:∃ fI:Nat→Prop,fI=fun b=>b<w2.heap.size∧aW S2.objs iG b:=⟨_,rfl⟩
    obtain ⟨FW,hxs3⟩:∃ FW,FW=z.xs++pairs S2.tmps a2.tmps:=⟨_,rfl⟩
    have h23:∀ b,jo b→fI b:=by
     intro b hb
     rw [hprot3]
     exact ⟨lt_of_lt_of_le (R2.pr b hb) R2.gr,fun k o h1 h2 h3=>R2.objs.np k o b h1 h2 h3 hb⟩
    have WC:∀ b,¬ fI b→base b:=fun b hb=>R2.pb b fun h=>hb (h23 b h)
    have aaN:∀ k o g,S2.objs[k]?=some o→o.live=true→iG k=some g→¬ fI g:=by
     intro k o g h1 h2 h3 h4
     rw [hprot3] at h4
     exact h4.2 k o h1 h2 h3
    have WE:∀ x ∈ FW,aU w2 (bZ base S2.objs iG) S2.objs iG x.1 x.2:=by
     intro x hx
     rw [hxs3] at hx
     rcases List.mem_append.1 hx with hx | hx
     · exact R2.ext x hx
     · obtain ⟨t,h1,h2⟩:=lm hx
       rw [← h2]
       exact R2.tm t x.1 h1
    have WG:∀ x ∈ FW,x.1.lt S'.objs.length=true:=by
     intro x hx
     rw [hxs3] at hx
     rcases List.mem_append.1 hx with hx | hx
     · rw [← hzn];exact R2.Ju x hx
     · obtain ⟨t,h1,_⟩:=lm hx
       exact S9 (List.all_eq_true.1 hpt x.1 (List.mem_of_getElem? h1))
    obtain ⟨YI,htm0⟩:∃ YI,YI=(((rec .ready none).params.zip (⟨vs⟩:Array Value)).foldl (fun t (p,v)=>t.setIfInBounds p v) (rec .ready none).tmps):=⟨_,rfl⟩
    rw [← htm0]
    have Nz:YI=(ps.zip vs).foldl (fun t (p,v)=>t.setIfInBounds p v) a.tmps:=by
     rw [htm0,hrec]
     simp only []
     rw [← Array.foldl_toList]
     simp
    have hset:=FV (R:=aU w2 (bZ base S2.objs iG) S2.objs iG) (fun v=>.dead v) ps args vs S'.tmps a.tmps hargs.1 RG.Cg
     (fun t p hp=>R2.ext (p,a.tmps.getD t undef) (by rw [hzx];exact List.mem_cons_of_mem _ (mW RG.Cg hp))) (fun i p v h1 h2=>.aJ (hargs.2 i p v h1 h2))
    have Rr:Rel base fI ⟨w2.heap,FW,S'.objs.length,w⟩ ⟨qo ps args S.tmps,S2.objs⟩ iG { tmps:=YI,defers:=[] } w2:=by
     refine ⟨.nil _ _,by rw [Nz,← hSt];exact hset.1,fun t p hp=>by rw [← hSt] at hp;rw [Nz];exact hset.2 t p hp,⟨R2.objs.ob,R2.objs.Js,aaN⟩,fun b hb=>by rw [hprot3] at hb;exact hb.1,fun _ _=>rfl,Nat.le_refl _,WC,WE,WG,by rw [← hzo];exact R2.sm,⟨R2.mM,fun b hb=>h23 b (Ny b hb)⟩⟩
    have KH:=qP i args S2.objs hIi hyi l0 base fI (fun z=>z=⟨w2.heap,FW,S'.objs.length,w⟩) (by rintro z rfl;rw [← Yd];exact Nat.le_refl _) iG _ w2 ⟨_,rfl,Rr⟩
    rw [show (rec .ready none).assign=x by rw [hrec],show (rec .ready none).body=y by rw [hrec]]
    change x.wpIn (EF (some l0)) 0 P _ _ _
    refine wpIn_mono KH ?_
    rintro e a3 w3 ⟨S3,WH,he,zz,rfl,R3⟩
    cases e with
    | normal=>
     have hp3:fI l0:=h23 l0 Nw
     have hL3:w3.heap[l0]?=some (.loop (rec .ready none)):=(R3.fr l0 hp3).trans hL2
     refine ⟨_,run_beginRound hL3 (by rw [hrec]),?_⟩
     have WI:({ rec .ready none with state:=.busy }:Loop)=rec .busy none:=by rw [hrec]
     rw [WI]
     obtain ⟨w4,hw4⟩:∃ w4,w4=w3.putObj l0 (.loop (rec .busy none)):=⟨_,rfl⟩
     rw [← hw4]
     have hnc:∀ st pe,¬ iN (.loop (rec st pe)):=by rintro st pe (⟨c,t,y,h⟩ | ⟨es,n,h⟩) <;> cases h
     have Qs:∀ (k:Nat) x,w3.heap[k]?=some x→iN x→w4.heap[k]?=some x:=by rw [hw4];exact je hL3 (hnc _ _)
     have hs4:w4.heap.size=w3.heap.size:=by rw [hw4];exact World.putObj_size
     have ZK:∀ k:Nat,k≠l0→w4.heap[k]?=w3.heap[k]?:=fun k hk=>by rw [hw4];exact World.putObj_heap_other hk
     have aaO:l0<w3.heap.size:=(Array.getElem?_eq_some_iff.1 hL3).1
     have hL4:w4.heap[l0]?=some (.loop (rec .busy none)):=by rw [hw4];exact World.putObj_heap_same aaO
     have aaP:∀ b,fI b→b<w2.heap.size:=fun b hb=>by rw [hprot3] at hb;exact hb.1
     have acN:w2.heap.size≤w3.heap.size:=R3.gr
     have R4:Rel base fI ⟨w4.heap,FW,S'.objs.length,w⟩ S3 WH a3 w4:=by
      refine ⟨?_,R3.Cg,fun t p hp=>fQ (R3.tm t p hp) (le_of_eq hs4.symm) Qs,R3.objs.cells (le_of_eq hs4.symm) Qs R3.objs.np,fun b hb=>?_,fun _ _=>rfl,Nat.le_refl _,WC,fun x hx=>fQ (R3.ext x hx) (le_of_eq hs4.symm) Qs,R3.Ju,R3.sm.trans (by rw [hw4];exact ⟨rfl,rfl⟩),⟨qK.keep (fun b hb=>ZK b (by have:=Ux b hb;omega)) R3.mM,fun b hb=>h23 b (Ny b hb)⟩⟩
      · obtain ⟨Ds,h1,h2,h3⟩:=R3.nN
        refine ⟨Ds,h1,h2,fun b hb=>?_⟩
        rw [ZK b (fun e=>(h3 b hb).2.2 (e ▸ hp3))]
        exact h3 b hb
      · have:=aaP b hb;show b<w4.heap.size;omega
     have hbody:=he base fI (fun z=>z=⟨w4.heap,FW,S'.objs.length,w⟩) (by rintro z rfl;rw [← Yd];exact Nat.le_refl _) WH a3 w4 ⟨_,rfl,R4⟩
     refine wpIn_mono hbody ?_
     rintro e a5 w5 ⟨S5,blk5,he5,zz,rfl,R5⟩
     have leave:FR e=some lc→J i (S5.norm [] fz).objs→∃ v w',(Instr.endRound l0 (some lc)).run P w5=.ok v w'∧(∃ b objs' av,Ending.returned v=.returned (.bool b)∧K b objs'∧qm base jo V2 ⟨S2.tmps,objs'⟩ av a2 w'):=by
      intro _ hJ
      have hL5:w5.heap[l0]?=some (.loop (rec .busy none)):=(R5.fr l0 hp3).trans hL4
      refine ⟨_,_,run_endRound (some lc) hL5,?_⟩
      have hdone:({ rec .busy none with state:=if (some lc:Option Code).isNone then .ready else .done,pending:=some lc }:Loop)=rec .done (some lc):=by rw [hrec];rfl
      rw [hdone]
      obtain ⟨w6,hw6⟩:∃ w6,w6=w5.putObj l0 (.loop (rec .done (some lc))):=⟨_,rfl⟩
      rw [← hw6]
      obtain ⟨FX,R6⟩:=Weak.norm (m:=S'.objs.length) [] fz (by rw [Yd];exact hfz) S5 base fI _ blk5 a5 w5 (Nat.le_refl _) R5
      have FY:∀ (k:Nat) x,w5.heap[k]?=some x→iN x→w6.heap[k]?=some x:=by rw [hw6];exact je hL5 (hnc _ _)
      have hs6:w6.heap.size=w5.heap.size:=by rw [hw6];exact World.putObj_size
      have ho6:∀ k:Nat,k≠l0→w6.heap[k]?=w5.heap[k]?:=fun k hk=>by rw [hw6];exact World.putObj_heap_other hk
      have hl5:l0<w5.heap.size:=(Array.getElem?_eq_some_iff.1 hL5).1
      have abF:w4.heap.size≤w5.heap.size:=R5.gr
      have hl1:l0<W1.heap.size:=(Array.getElem?_eq_some_iff.1 hL1).1
      have hall:∀ b,fI b→b≠l0→w6.heap[b]?=w2.heap[b]?:=by
       intro b hb hbl
       rw [ho6 b hbl,R5.fr b hb]
       show w4.heap[b]?=_
       rw [ZK b hbl]
       exact R3.fr b hb
      obtain ⟨⟨gl,_,gA,gB⟩,gN⟩:=VQ i _ hJ
      have hk1:k+1<(S5.norm [] fz).objs.length:=by omega
      have abH:∀ b,bZ base (S5.norm [] fz).objs FX b→bZ base (iC k (S5.norm [] fz).objs) (kK k FX) b:=fun b h=>⟨h.1,tu hk1 h.2⟩
      have WJ:∀ b,fI b→aW (iC k (S5.norm [] fz).objs) (kK k FX) b:=fun b hb=>tu hk1 fun k o h1 h2 h3=>R6.objs.np k o b h1 h2 h3 hb
      have WK:∀ x ∈ pairs S'.tmps a.tmps,x ∈ FW:=fun x hx=>by rw [hxs3,hzx];exact List.mem_append_left _ (List.mem_cons_of_mem _ hx)
      have WL:∀ x ∈ pairs S2.tmps a2.tmps,x ∈ FW:=fun x hx=>by rw [hxs3];exact List.mem_append_right _ hx
      have Ia:dQ base jo (S5.norm [] fz).objs FX w6:=R6.objs.cells (le_of_eq hs6.symm) FY (fun k o g h1 h2 h3 h4=>R6.objs.np k o g h1 h2 h3 (h23 g h4))
      refine ⟨false,iC k (S5.norm [] fz).objs,kK k FX,rfl,hKf _ ⟨_,hJ,rfl⟩,z1,by rw [hV2];exact .inr rfl,?_⟩
      refine ⟨?_,R2.Cg,fun t p hp=>?_,Uz Ia hk1 gN gA,fun b hb=>?_,fun b hb=>?_,?_,R2.pb,fun x hx=>?_,fun x hx=>?_,?_,by rw [hz1];exact ⟨qK.keep (fun b hb=>World.putObj_heap_other (by have:=Ux b hb;omega)) ZJ.mM,Ny⟩⟩
      · obtain ⟨Ds,h1,h2,h3⟩:=R2.nN
        refine ⟨Ds,h1,h2,fun b hb=>?_⟩
        obtain ⟨q1,q2,q3⟩:=h3 b hb
        have hb3:fI b:=by rw [hprot3];exact ⟨(Array.getElem?_eq_some_iff.1 q1).1,q2.2⟩
        exact ⟨by rw [hall b hb3 (fun e=>q3 (e ▸ Nw))];exact q1,⟨q2.1,WJ b hb3⟩,q3⟩
      · have hpp:p.pure=true:=List.all_eq_true.1 hpt p (List.mem_of_getElem? hp)
        have h1:=fQ (R6.ext (p,a2.tmps.getD t undef) (WL _ (mW R2.Cg hp))) (le_of_eq hs6.symm) FY
        exact .aJ ((h1.yD hpp).om fun b _ hb=>abH b hb)
      · rw [hprot2] at hb;rw [hz1];show b<(W1.putObj l0 _).heap.size;rw [World.putObj_size];exact hb.1
      · rw [hz1]
        show w6.heap[b]?=(W1.putObj l0 (.loop (rec .done (some lc)))).heap[b]?
        by_cases hbl:b=l0
        · subst hbl
          rw [hw6,World.putObj_heap_same hl5,World.putObj_heap_same hl1]
        · rw [hall b (h23 b hb) hbl,World.putObj_heap_other hbl,R2.fr b hb,YJ]
      · rw [hz1]
        show (W1.putObj l0 _).heap.size≤w6.heap.size
        rw [World.putObj_size]
        have:=R2.gr
        rw [YJ] at this
        omega
      · rw [hz1] at hx
        rcases List.mem_cons.1 hx with rfl | hx
        · exact ZL (EM hk1)
        · have h1:=fQ (R6.ext x (WK x hx)) (le_of_eq hs6.symm) FY
          obtain ⟨t,ht,_⟩:=lm hx
          exact Uy (aaR t x.1 (by rw [← hSt];exact ht)) abH h1
      · rw [hz1] at hx ⊢
        show x.1.lt S'.objs.length=true
        rcases List.mem_cons.1 hx with rfl | hx
        · simp [PV.lt,PV.uY,Yd]
        · obtain ⟨t,ht,_⟩:=lm hx
          exact SV (by rw [Yd];omega) (aaR t x.1 (by rw [← hSt];exact ht))
      · rw [hz1];exact R6.sm.trans (by rw [hw6];exact ⟨rfl,rfl⟩)
     cases e with
     | normal=>
      have hL5:w5.heap[l0]?=some (.loop (rec .busy none)):=(R5.fr l0 hp3).trans hL4
      refine ⟨_,_,run_endRound none hL5,?_⟩
      have Qt:({ rec .busy none with state:=if (none:Option Code).isNone then .ready else .done,pending:=none }:Loop)=rec .ready none:=by rw [hrec];rfl
      rw [Qt]
      obtain ⟨w6,hw6⟩:∃ w6,w6=w5.putObj l0 (.loop (rec .ready none)):=⟨_,rfl⟩
      rw [← hw6]
      obtain ⟨FX,R6⟩:=Weak.norm (m:=S'.objs.length) [] fz (by rw [Yd];exact hfz) S5 base fI _ blk5 a5 w5 (Nat.le_refl _) R5
      have FY:∀ (k:Nat) x,w5.heap[k]?=some x→iN x→w6.heap[k]?=some x:=by rw [hw6];exact je hL5 (hnc _ _)
      have hs6:w6.heap.size=w5.heap.size:=by rw [hw6];exact World.putObj_size
      have ho6:∀ k:Nat,k≠l0→w6.heap[k]?=w5.heap[k]?:=fun k hk=>by rw [hw6];exact World.putObj_heap_other hk
      have hl5:l0<w5.heap.size:=(Array.getElem?_eq_some_iff.1 hL5).1
      have abF:w4.heap.size≤w5.heap.size:=R5.gr
      have hall:∀ b,fI b→w6.heap[b]?=w2.heap[b]?:=by
       intro b hb
       by_cases hbl:b=l0
       · subst hbl
         rw [hL2,hw6,World.putObj_heap_same hl5]
       · rw [ho6 b hbl,R5.fr b hb]
         show w4.heap[b]?=_
         rw [ZK b hbl]
         exact R3.fr b hb
      have WJ:∀ b,fI b→aW (S5.norm [] fz).objs FX b:=fun b hb k o h1 h2 h3=>R6.objs.np k o b h1 h2 h3 hb
      refine ⟨true,(S5.norm [] fz).objs,FX,rfl,hK _ he5,z,by rw [hV2];exact .inl rfl,?_⟩
      have WK:∀ x ∈ z.xs,x ∈ FW:=fun x hx=>by rw [hxs3];exact List.mem_append_left _ hx
      have WL:∀ x ∈ pairs S2.tmps a2.tmps,x ∈ FW:=fun x hx=>by rw [hxs3];exact List.mem_append_right _ hx
      refine ⟨?_,R2.Cg,fun t p hp=>?_,R6.objs.cells (le_of_eq hs6.symm) FY (fun k o g h1 h2 h3 h4=>R6.objs.np k o g h1 h2 h3 (h23 g h4)),R2.pr,fun b hb=>?_,?_,R2.pb,fun x hx=>fQ (R6.ext x (WK x hx)) (le_of_eq hs6.symm) FY,R2.Ju,by rw [hzo];exact R6.sm.trans (by rw [hw6];exact ⟨rfl,rfl⟩),R2.gl⟩
      · obtain ⟨Ds,h1,h2,h3⟩:=R2.nN
        refine ⟨Ds,h1,h2,fun b hb=>?_⟩
        obtain ⟨q1,q2,q3⟩:=h3 b hb
        have hb3:fI b:=by rw [hprot3];exact ⟨(Array.getElem?_eq_some_iff.1 q1).1,q2.2⟩
        exact ⟨by rw [hall b hb3];exact q1,⟨q2.1,WJ b hb3⟩,q3⟩
      · exact fQ (R6.ext (p,a2.tmps.getD t undef) (WL _ (mW R2.Cg hp))) (le_of_eq hs6.symm) FY
      · rw [hall b (h23 b hb)];exact R2.fr b hb
      · have:=R2.gr;rw [YJ] at this ⊢;omega
     | ret=>
      obtain ⟨rfl,hJ⟩:=he5
      cases hlv
      exact leave rfl hJ
     | exit id=>
      obtain ⟨rfl,hJ⟩:=he5
      cases hlv
      exact leave rfl hJ
     | _=>
      obtain ⟨rfl,hJ⟩:=he5
      cases hlv
    | _=>exact he.elim
   refine Calls.mono (hgive I (fun i O=>∃ O',J i O'∧O=iC k O') base jo V2 l0 S'.objs uV W1 vc aaM (fun z hz=>by
    rw [hV2] at hz
    rcases hz with rfl | rfl
    · rw [hz0];exact Nat.le_refl _
    · rw [hz1];exact Nat.le_refl _) ⟨_,by rw [hV2];exact .inl rfl,aaL⟩ hI0 (fun i O h=>⟨by rw [Yd];exact (Hw i O h).1,(Hw i O h).2.1⟩) (fun i O h=>by
    obtain ⟨O',h,rfl⟩:=h
    obtain ⟨⟨q1,q2,_,_⟩,q5⟩:=VQ i O' h
    refine ⟨by rw [JI,Yd];exact q1,fun o ho x hx c hc=>?_⟩
    obtain ⟨j,hj⟩:=List.mem_iff_getElem?.1 ho
    rw [JI]
    have hno:o.xs=[]∨o ∈ O':=by
     by_cases e2:j=k+1
     · subst e2;rw [KI (by omega)] at hj;cases hj;exact .inl rfl
     · by_cases e1:j=k
       · subst e1;rw [EM (by omega)] at hj;cases hj;exact .inl rfl
       · rw [o9 e1 e2] at hj;exact .inr (List.mem_of_getElem? hj)
    rcases hno with h0 | h0
    · rw [h0] at hx;cases hx
    · exact q2 o h0 x hx c hc) hcapR) ?_
   rintro e w3 ⟨objs',av,rfl,hIJ,z,hz,R3⟩
   rw [hV2] at hz
   have fin:∀ (hp:Array Go.Obj) (st:LoopState) (pe:Option Code) (e':Exit),z.heap=hp→(∀ b,b≠l0→hp[b]?=W1.heap[b]?)→hp[l0]?=some (.loop (rec st pe))→st≠.busy→hp.size=W1.heap.size→z.out=w→(∀ x ∈ pairs S'.tmps a.tmps,x ∈ z.xs)→
       (∀ Q':Exit→Act→World→Prop,∀ aa ww,Q' e' aa ww→(match pe with | none=>Q' .normal aa ww | some c=>c.wpIn (EF none) 0 P Q' aa ww))→
       ((e'=.normal∧I ys.length objs')∨(e'=lv∧∃ i O,i<ys.length∧J i O∧objs'=iC k O))→
       ∃ jump w4,(Instr.endLoop l0).run P w3=.ok jump w4∧(match jump with
        | none=>(fun e a' w'=>∃ objs' av,((e=.normal∧I ys.length objs')∨(e=lv∧∃ i O,i<ys.length∧J i O∧objs'=iC k O))∧Rel base ak w0 ⟨S.tmps,objs'⟩ av a' w') .normal { a with defers:=[{ target:=.collected w.heap.size,args:=#[] }]++a.defers } w4
        | some c=>c.wpIn (EF none) 0 P (fun e a' w'=>∃ objs' av,((e=.normal∧I ys.length objs')∨(e=lv∧∃ i O,i<ys.length∧J i O∧objs'=iC k O))∧Rel base ak w0 ⟨S.tmps,objs'⟩ av a' w') { a with defers:=[{ target:=.collected w.heap.size,args:=#[] }]++a.defers } w4):=by
    intro hp st pe e' YJ hoth abI hst hsize hzo hzx hcode hend
    have hL3:w3.heap[l0]?=some (.loop (rec st pe)):=(R3.fr l0 Nw).trans (by rw [YJ];exact abI)
    have hD3:w3.heap[w.heap.size]?=some (.deferred (some [])):=(R3.fr _ hpD).trans (by rw [YJ,hoth _ (by omega)];exact hK1)
    have hnc:¬ iN (.loop (rec st pe)):=by rintro (⟨c,t,y,h⟩ | ⟨es,n,h⟩) <;> cases h
    have abJ:=run_endLoop (P:=P) hL3 (by rw [hrec];exact hst)
    refine ⟨pe,w3.putObj l0 (.loop { rec st pe with state:=.exhausted }),by rw [abJ,hrec],?_⟩
    have hcl:=je (o':=.loop { rec st pe with state:=.exhausted }) hL3 hnc
    have hsz:(w3.putObj l0 (.loop { rec st pe with state:=.exhausted })).heap.size=w3.heap.size:=World.putObj_size
    have hle:w.heap.size≤w3.heap.size:=by have:=R3.gr;rw [YJ,hsize] at this;omega
    have hother:∀ k:Nat,k≠l0→(w3.putObj l0 (.loop { rec st pe with state:=.exhausted })).heap[k]?=w3.heap[k]?:=fun k hk=>World.putObj_heap_other hk
    have hkeep:∀ b,b<w.heap.size→aW S'.objs uV b→aW objs' av b:=by
     intro b hb hnb k o h1 h2 h3
     refine R3.objs.np k o b h1 h2 h3 ?_
     rw [hprot2];exact ⟨by omega,hnb⟩
    have hsame:∀ b,b<w.heap.size→aW S'.objs uV b→(w3.putObj l0 (.loop { rec st pe with state:=.exhausted })).heap[b]?=w.heap[b]?:=by
     intro b hb hnb
     rw [hother b (by omega),R3.fr b (by rw [hprot2];exact ⟨by omega,hnb⟩),YJ,hoth b (by omega)]
     have hbx:w.heap[b]?=some (w.heap[b]):=Array.getElem?_eq_getElem hb
     rw [vH.2.1 b _ hbx,hbx]
    have hpn:∀ b,ak b→b<w.heap.size∧aW S'.objs uV b:=fun b hb=>⟨lt_of_lt_of_le (RG.pr b hb) RG.gr,fun k o h1 h2 h3=>RG.objs.np k o b h1 h2 h3 hb⟩
    have aaQ:∀ k o g,objs'[k]?=some o→o.live=true→av k=some g→¬ ak g:=fun k o g h1 h2 h3 h4=>hkeep g (hpn g h4).1 (hpn g h4).2 k o h1 h2 h3
    refine hcode (fun e a' w'=>∃ objs' av,((e=.normal∧I ys.length objs')∨(e=lv∧∃ i O,i<ys.length∧J i O∧objs'=iC k O))∧Rel base ak w0 ⟨S.tmps,objs'⟩ av a' w') _ _ ⟨objs',av,hend,?_,R.Cg,fun t p hp=>?_,R3.objs.cells (le_of_eq hsz.symm) hcl aaQ,R.pr,fun b hb=>?_,le_trans R.gr (by rw [hsz];exact hle),R.pb,(by rw [hx];intro x h;simp at h),R.Ju,(R.sm.trans (by rw [← hzo];exact R3.sm)).trans ⟨rfl,rfl⟩,R.gl⟩
    · obtain ⟨Ds,h1,h2,h3⟩:=RG.nN
      refine ⟨w.heap.size::Ds,by simp [h1],List.nodup_cons.2 ⟨fun hm=>?_,h2⟩,fun b hb=>?_⟩
      · have:=(Array.getElem?_eq_some_iff.1 (h3 _ hm).1).1;omega
      · rcases List.mem_cons.1 hb with rfl | hb
        · refine ⟨by rw [hother _ (by omega)];exact hD3,⟨RG.bs _ RG.gr,fun k o h1 h2 h3=>R3.objs.np k o _ h1 h2 h3 hpD⟩,fun hp=>by have:=(hpn _ hp).1;omega⟩
        · obtain ⟨q1,q2,q3⟩:=h3 b hb
          have hbs:=(Array.getElem?_eq_some_iff.1 q1).1
          exact ⟨by rw [hsame b hbs q2.2];exact q1,⟨q2.1,hkeep b hbs q2.2⟩,q3⟩
    · exact fQ (R3.ext (p,a.tmps.getD t undef) (hzx _ (mW RG.Cg (by rw [hSt];exact hp)))) (le_of_eq hsz.symm) hcl
    · rw [hsame b (hpn b hb).1 (hpn b hb).2];exact R.fr b hb
   rcases hz with rfl | rfl
   · have hI:I ys.length objs':=by
      refine hIJ.resolve_right fun ⟨i,_,O,hJ,e⟩=>?_
      refine ghost (R3.ext (.aY (k+1) 0,.bool false) (by rw [hz0];exact List.mem_cons_self)) ?_
      rw [e];exact KI (by have:=(VQ i O hJ).1.1;omega)
     exact fin W1.heap .ready none .normal (by rw [hz0]) (fun _ _=>rfl) hL1 (by simp) rfl (by rw [hz0]) (fun x hx=>by rw [hz0];exact List.mem_cons_of_mem _ hx) (fun Q' aa ww h=>h) (.inl ⟨rfl,hI⟩)
   · have hJ:∃ i O,i<ys.length∧J i O∧objs'=iC k O:=by
      rcases hIJ with h | ⟨i,hi,O,hJ,e⟩
      · exact (ghost (R3.ext (.aY k 0,.bool false) (by rw [hz1];exact List.mem_cons_self)) (Hw _ _ h).2.2.1).elim
      · exact ⟨i,O,hi,hJ,e⟩
     have hl1:l0<W1.heap.size:=(Array.getElem?_eq_some_iff.1 hL1).1
     refine fin (W1.putObj l0 (.loop (rec .done (some lc)))).heap .done (some lc) lv (by rw [hz1]) (fun b hb=>World.putObj_heap_other hb) (World.putObj_heap_same hl1) (by simp) World.putObj_size (by rw [hz1]) (fun x hx=>by rw [hz1];exact List.mem_cons_of_mem _ hx) (fun Q' aa ww h=>?_) (.inr ⟨rfl,hJ⟩)
     cases lv <;> simp only [FR,Option.some.injEq,reduceCtorEq] at hlv
     · subst hlv;exact wpIn_exit h
     · subst hlv;exact wpIn_ret h
end
structure FZ (P:Program) (l:Option Nat) (E:Env) (T:Know):Prop where
 fn:uM P T.fn
 y:∀ base ak V,E base ak V→Wy P l base ak V T
 nx:∀ base ak V,E base ak V→∀ w0,V w0→w0.nx≤T.nx
 top:T.top=true→l=none∧∀ base ak V,E base ak V→∀ w0,V w0→w0.xs=[]
 gives:∀ g cap ys,T.gives g cap ys→Gives P g cap ys
theorem FZ.inner {E:Env}(h:FZ P l E T) (n l0:Nat):FZ P (some l0) (E0 n) (T.inner n):=
 ⟨h.fn,fun _ _ _ _=>Wy.inner,fun _ _ _ hE w0 hw=>hE w0 hw,(fun h=>by cases h),h.gives⟩
theorem rM (hD:∀ t,iL P t (D t)) (hm:P.follows .mixedOrders=true):∀ (C:LC) (T:Know) (l:Option Nat) (E:Env) (c:Code) (Q:Exit→St→Prop) (S:St),FZ P l E T→strip C=comp c→kE P D T C Q S→PW P l E c Q S:=by
 intro C
 induction C with
 | skip=>
  intro T l E c Q S hk he h
  cases c <;> simp only [comp,strip] at he <;> first | (cases he;done) | skip
  · exact .skip h
  · rename_i d;cases d <;> simp only [comp] at he <;> first | (cases he;done) | (cases hs:fH _ _ <;> rw [hs] at he <;> cases he)
 | ret=>
  intro T l E c Q S hk he h
  cases c <;> simp only [comp,strip] at he <;> first | (cases he;done) | skip
  · rename_i d;cases d <;> simp only [comp] at he <;> first | (cases he;done) | (cases hs:fH _ _ <;> rw [hs] at he <;> cases he)
  · exact .ret h
 | bad=>intro T l E c Q S hk he h;exact h.elim
 | exit id=>
  intro T l E c Q S hk he h
  cases c <;> simp only [comp,strip] at he <;> first | (cases he;done) | skip
  · rename_i d;cases d <;> simp only [comp] at he <;> first | (cases he;done) | (cases hs:fH _ _ <;> rw [hs] at he <;> cases he)
  · cases he;exact .exit h
 | weak x ihx=>
  intro T l E c Q S hk he h
  obtain ⟨S',hw,h⟩:=h
  exact .weak hk.nx hw (ihx _ _ _ _ _ _ hk he h)
 | reg ss=>
  intro T l E c Q S hk he h
  cases c <;> simp only [comp,strip] at he <;> first | (cases he;done) | skip
  rename_i id ops d
  cases d <;> simp only [comp] at he
  · simp only [LC.reg.injEq] at he
    have ht:ops=ops.toList.toArray:=by simp
    intro base ak V hE blk a w R
    refine wpIn_region ?_
    have:=FU (Qm:=fun e a' w'=>∃ S' av,Q e S'∧qm base ak V S' av a' w') hD hk.fn (hk.y base ak V hE) ops.toList ss 0 S [] _ blk a w he (fun j=>by simp) h R (fun S' ts' av a' w' hK R'=>⟨S',av,hK,R'⟩)
    rw [List.range_eq_range']
    simpa using this
  · cases hs:fH _ _ <;> rw [hs] at he <;> cases he
 | draw ss un=>
  intro T l E c Q S hk he h
  cases c <;> simp only [comp,strip] at he <;> first | (cases he;done) | skip
  rename_i id ops d
  cases d <;> simp only [comp] at he
  · cases he
  · cases hs:fH ops.toList (masks ops.toList []) <;> rw [hs] at he
    · cases he
    · simp only [cond_true,LC.draw.injEq] at he
      obtain ⟨he,rfl⟩:=he
      have:ops=ops.toList.toArray:=by simp
      rw [this]
      refine PW.abC (fun i=>((ss[i]?).map (·.own)).getD false) hD hm (yI (fun S' ts hh=>?_) _ _ _ _ (vF hk.fn ops.toList ss 0 S [] _ he (fun j s hs=>by simp [hs]) h))
      exact ⟨Uw hs hh.1,hh.2⟩
 | seq x y ihx ihy=>
  intro T l E c Q S hk he h
  cases c <;> simp only [comp,strip] at he <;> first | (cases he;done) | skip
  · rename_i d;cases d <;> simp only [comp] at he <;> first | (cases he;done) | (cases hs:fH _ _ <;> rw [hs] at he <;> cases he)
  · simp only [LC.seq.injEq] at he
    exact .seq ((ihx _ _ _ _ _ _ hk he.1 h).mono (tq fun S' h'=>ihy _ _ _ _ _ _ hk he.2 h'))
 | cond o x y ihx ihy=>
  intro T l E c Q S hk he h
  cases c <;> simp only [comp,strip] at he <;> first | (cases he;done) | skip
  · rename_i d;cases d <;> simp only [comp] at he <;> first | (cases he;done) | (cases hs:fH _ _ <;> rw [hs] at he <;> cases he)
  · simp only [LC.cond.injEq] at he
    obtain ⟨rfl,h1,h2⟩:=he
    refine .cond ?_
    unfold kE x_ at h
    unfold x_
    split at h
    · exact ⟨fun hb=>ihx _ _ _ _ _ _ hk h1 (h.1 hb),fun hb=>ihy _ _ _ _ _ _ hk h2 (h.2 hb)⟩
    · exact h.elim
 | block id x ihx=>
  intro T l E c Q S hk he h
  cases c <;> simp only [comp,strip] at he <;> first | (cases he;done) | skip
  · rename_i d;cases d <;> simp only [comp] at he <;> first | (cases he;done) | (cases hs:fH _ _ <;> rw [hs] at he <;> cases he)
  · simp only [LC.block.injEq] at he
    obtain ⟨rfl,h1⟩:=he
    exact .block (ihx _ _ _ _ _ _ hk h1 h)
 | loop ks fz x ihx=>
  intro T l E c Q S hk he h
  cases c <;> simp only [comp,strip] at he <;> first | (cases he;done) | skip
  · rename_i d;cases d <;> simp only [comp] at he <;> first | (cases he;done) | (cases hs:fH _ _ <;> rw [hs] at he <;> cases he)
  · simp only [LC.loop.injEq,true_and] at he
    obtain ⟨hfz,I,⟨S0,m,hw,hI⟩,hr⟩:=h
    refine .weak hk.nx hw ?_
    exact PW.abD hk.nx I hI fun m S hS=>(ihx _ _ _ _ _ _ hk he (hr m S hS)).mono (tq fun S' ⟨m',h1,h2⟩=>⟨S'.norm ks fz,m',Weak.norm ks fz hfz S',h2,h1⟩)
 | rf f ps fz x y ihx ihy=>
  intro T l E c Q S hk he h
  cases c <;> simp only [comp,strip] at he <;> first | (cases he;done) | skip
  · rename_i d;cases d <;> simp only [comp] at he <;> first | (cases he;done) | (cases hs:fH _ _ <;> rw [hs] at he <;> cases he)
  · rename_i f' ps' x' y'
    simp only [LC.rf.injEq,true_and] at he
    obtain ⟨rfl,rfl,h1,h2⟩:=he
    obtain ⟨htop,g,cap,ys,hf,hcap,hg,hys,h⟩:=h
    obtain ⟨rfl,hxs⟩:=hk.top htop
    intro base ak V hE blk a w ⟨w0,hV,R⟩
    have hps:ps'.toList.toArray=ps':=by simp
    rcases h with ⟨I,hfz,hI0,Hw,qP,hend⟩ | ⟨I,J,lv,lc,hlv,hfz,hI0,Hw,VQ,qP,hend,hleave⟩
    · have:=WB (x:=x') (y:=y') (hk.gives g cap ys hg) hys hI0 Hw R (hxs base ak V hE w0 hV) hf hcap hfz fun i args objs hi hy l0=>
       (ihx _ _ _ _ _ _ (hk.inner S.objs.length l0) h1 (qP i args objs hi hy)).mono (tq fun S1 h'=>ihy _ _ _ _ _ _ (hk.inner S.objs.length l0) h2 h')
      rw [hps] at this
      refine wpIn_mono this ?_
      rintro e a' w' ⟨objs',av,rfl,hI,R'⟩
      exact ⟨_,av,hend objs' hI,w0,hV,R'⟩
    · have:=UA (x:=x') (y:=y') (hk.gives g cap ys hg) hys hlv hI0 Hw VQ R (hxs base ak V hE w0 hV) hf hcap hfz fun i args objs hi hy l0=>
       (ihx _ _ _ _ _ _ (hk.inner (S.objs.length+2) l0) h1 (qP i args objs hi hy)).mono (tq fun S1 h'=>ihy _ _ _ _ _ _ (hk.inner (S.objs.length+2) l0) h2 h')
      rw [hps] at this
      refine wpIn_mono this ?_
      rintro e a' w' ⟨objs',av,h,R'⟩
      rcases h with ⟨rfl,hI⟩ | ⟨rfl,i,O,hi,hJ,rfl⟩
      · exact ⟨_,av,hend objs' hI,w0,hV,R'⟩
      · exact ⟨_,av,hleave i O hi hJ,w0,hV,R'⟩
end Lp
namespace Lp
open Go
variable {P:Program}{D:TypeId→aG}{T:Know}
def iW (D:TypeId→aG) (S:St):List ResultVar→(List PV→Prop)→Prop
 | [],K=>K []
 | .tmp t::rs,K=>iW D S rs fun ps=>K (S.tmps.getD t .dead::ps)
 | .cell a t::rs,K=>eY (D t) (S.tmps.getD a .dead) S.objs fun p _ _=>iW D S rs fun ps=>K (p::ps)
def eT:List PV→PV
 | [p]=>p
 | ps=>.bU ps
def UB (D:TypeId→aG) (d:Nat) (rs:List ResultVar) (r:PV) (e:Exit) (S:St):Prop:=
 (e=.normal∨e=.ret)∧iW D S rs fun ps=>r=eT (ps.map (gL d 0 S.objs))
def Qu (d:Nat) (t:Nat) (o':Obj) (e:Exit) (S:St):Prop:=
 (e=.normal∨e=.ret)∧∃ S' k ver o,Weak 0 S S'∧S'.tmps.getD t .dead=.aY k ver∧S'.objs[k]?=some o∧o.live=true∧o.ver=ver∧{ fu d (k+1) S'.objs o with ver:=0 }=o'∧eU [o']
section
variable {base ak:Nat→Prop}{w0:Wz}{S:St}{blk:Nat→Option Nat}{a:Act}{w:World}
theorem vI {ok:Nat→Prop}{p:PV}{v:Value}(h:aU w ok [] blk p v):dB w ok p v:=by
 have hS:∀ (p:PV) (v:Value),bL w ok [] blk p v→dB w ok p v:=by
  intro p v h
  cases p <;> first | exact h | (obtain ⟨_,o,ho,_⟩:=h;simp at ho)
 cases p
 case fn f x c=>obtain ⟨va,vc,rfl,h1,h2⟩:=h;exact .fn _ _ _ va vc h1.1 h2.1 (fun i p v a b=>hS _ _ (h1.2 i p v a b)) (fun i p v a b=>hS _ _ (h2.2 i p v a b))
 case bU cs=>obtain ⟨vs,rfl,h1⟩:=h;exact .bU _ vs h1.1 (fun i p v a b=>hS _ _ (h1.2 i p v a b))
 case agg cs=>obtain ⟨vs,rfl,h1⟩:=h;exact .agg _ vs h1.1 (fun i p v a b=>hS _ _ (h1.2 i p v a b))
 all_goals exact hS _ _ h
theorem YK (S:St) (d:Nat):(S.freeze d 0).objs=[]:=by simp [St.freeze]
theorem acP (R:Rel base ak w0 S blk a w) (d:Nat) (p:PV) (v:Value) (h:aU w (bZ base S.objs blk) S.objs blk p v):dB w base (gL d 0 S.objs p) v:=by
 have:=FP R d 0 p v h
 rw [YK] at this
 exact (vI this).om fun b _ h=>h.1
theorem UC (hD:∀ t,iL P t (D t)) (R:Rel base ak w0 S blk a w){t x:Nat}{K:KT}(h:eY (D t) (S.tmps.getD x .dead) S.objs K) :
  ∃ p ad v τ,a.tmps.getD x undef=.pointer (some ad)∧(loadVar t ad).run P w=.ok v w∧K p S.objs τ∧aU w (bZ base S.objs blk) S.objs blk p v:=by
 have hx:=R.ev (.tmp x)
 change aU w (bZ base S.objs blk) S.objs blk (S.tmps.getD x .dead) (a.tmps.getD x undef) at hx
 unfold eY at h
 split at h
 · rename_i p e
   rw [e] at hx
   obtain ⟨hk,h1,h2,h3⟩:=h
   have hx':=hx.addr
   generalize hv:a.tmps.getD x undef=v at hx'
   cases hx' with
   | addr _ b off vs hok hcell hrep=>
    obtain ⟨u,g1,g2⟩:=lN (hD t) hk (At.yD vs hcell hrep) h1 h2
    exact ⟨_,_,_,_,rfl,g1,h3,zW g2⟩
 · rename_i k ver i f e
   rw [e] at hx
   obtain ⟨ob,el,h1,h2,h3,h4,hk,h5,h6,h7,h8⟩:=h
   obtain ⟨g,hb,hv,hty⟩:=hx.bM h1 h2 h3
   obtain ⟨y1,y2⟩:=Qa R.objs h1 h2 h4 hb hty
   have hat:At (bL w (bZ base S.objs blk) S.objs blk) w g (i*ob.sz) (.agg el.cells):=y2
   have hs:=At.sub hat f (D t).size (D t).agg h5 h6 (o5 h7)
   obtain ⟨c1,c2⟩:=Jy el.cells f _ _ h5 h6 h7
   obtain ⟨u,g1,g2⟩:=lN (hD t) hk hs c1 c2
   exact ⟨_,_,_,_,hv,g1,h8,xW g2⟩
 · exact h.elim
def YL (tmps:Array Value):ResultVar→Sem Value
 | .tmp t=>pure (tmps.getD t undef)
 | .cell a t=>do loadVar t (← asAddr (tmps.getD a undef))
def KJ (tmps:Array Value):List ResultVar→Sem (List Value)
 | []=>pure []
 | r::rs=>do
  let v ← YL tmps r
  let vs ← KJ tmps rs
  pure (v::vs)
theorem Ah (hD:∀ t,iL P t (D t)) (R:Rel base ak w0 S blk a w):∀ (rs:List ResultVar) (K:List PV→Prop),iW D S rs K→
  ∃ vs ps,(KJ a.tmps rs).run P w=.ok vs w∧K ps∧cu (aU w (bZ base S.objs blk) S.objs blk) ps vs
 | [],K,h=>⟨[],[],rfl,h,rfl,fun _ _ _ h=>by simp at h⟩
 | .tmp t::rs,K,h=>by
  obtain ⟨vs,ps,h1,h2,h3,h4⟩:=Ah hD R rs _ h
  refine ⟨a.tmps.getD t undef::vs,S.tmps.getD t .dead::ps,by simp [KJ,YL,h1],h2,by simpa using h3,fun i p v hp hv=>?_⟩
  cases i with
  | zero=>
   simp only [List.getElem?_cons_zero,Option.some.injEq] at hp hv
   subst hp;subst hv;exact R.ev (.tmp t)
  | succ i=>exact h4 i p v (by simpa using hp) (by simpa using hv)
 | .cell x t::rs,K,h=>by
  obtain ⟨p0,ad,v0,_,e1,e2,h,e3⟩:=UC hD R h
  obtain ⟨vs,ps,h1,h2,h3,h4⟩:=Ah hD R rs _ h
  refine ⟨v0::vs,p0::ps,by simp [KJ,YL,e1,e2,h1,asAddr],h2,by simpa using h3,fun i p v hp hv=>?_⟩
  cases i with
  | zero=>
   simp only [List.getElem?_cons_zero,Option.some.injEq] at hp hv
   subst hp;subst hv;exact e3
  | succ i=>exact h4 i p v (by simpa using hp) (by simpa using hv)
def Ij:List Value→Value
 | [v]=>v
 | vs=>.tuple ⟨vs⟩
end
theorem run_bind_ok {α β:Type}{x:Sem α}{f:α→Sem β}{P:Program}{w w':World}{b:β}(h:(x >>=f).run P w=.ok b w'):∃ c w1,x.run P w=.ok c w1∧(f c).run P w1=.ok b w':=by
 rw [Sem.run_bind] at h
 cases hx:x.run P w with
 | ok c w1=>rw [hx] at h;exact ⟨c,w1,rfl,h⟩
 | halt o w1=>rw [hx] at h;cases h
theorem Dx {fn:Func}{rs:List ResultVar}(h:fn.results=rs.toArray) (hl:rs.length≤3){tmps:Array Value}{vs:List Value}{P:Program}{w:World}
  (hr:(KJ tmps rs).run P w=.ok vs w):(results fn tmps).run P w=.ok (Ij vs) w:=by
 have hf:results fn tmps=(fn.results.mapM (YL tmps) >>=fun vs=>pure (if h:vs.size=1 then vs[0] else .tuple vs)):=by
  unfold results
  refine congrArg (fun f:ResultVar→Sem Value=>(Array.mapM f fn.results >>=fun vs=>pure (if h:vs.size=1 then vs[0] else Value.tuple vs):Sem Value)) ?_
  funext r
  cases r <;> rfl
 match rs,hl,h,hr with
 | [],_,h,hr=>
  simp only [KJ,Sem.run_pure] at hr
  cases hr
  simp [results,h,Ij]
 | [r1],_,h,hr=>
  simp only [KJ] at hr
  obtain ⟨v1,w1,h1,hr⟩:=run_bind_ok hr
  obtain ⟨v2,w2,h2,hr⟩:=run_bind_ok hr
  simp only [Sem.run_pure] at hr h2
  cases h2;cases hr
  rw [hf,h]
  simp [h1,Ij]
 | [r1,r2],_,h,hr=>
  simp only [KJ] at hr
  obtain ⟨v1,w1,h1,hr⟩:=run_bind_ok hr
  obtain ⟨v2,w2,h2,hr⟩:=run_bind_ok hr
  obtain ⟨v3,w3,h3,h2⟩:=run_bind_ok h2
  obtain ⟨v4,w4,h4,h2⟩:=run_bind_ok h2
  simp only [Sem.run_pure] at hr h2 h4
  cases h4;cases h2;cases hr
  rw [hf,h]
  simp [h1,h3,Ij]
 | [r1,r2,r3],_,h,hr=>
  simp only [KJ] at hr
  obtain ⟨v1,w1,h1,hr⟩:=run_bind_ok hr
  obtain ⟨v2,w2,h2,hr⟩:=run_bind_ok hr
  obtain ⟨v3,w3,h3,h2⟩:=run_bind_ok h2
  obtain ⟨v4,w4,h4,h2⟩:=run_bind_ok h2
  obtain ⟨v5,w5,h5,h4⟩:=run_bind_ok h4
  obtain ⟨v6,w6,h6,h4⟩:=run_bind_ok h4
  simp only [Sem.run_pure] at hr h2 h4 h6
  cases h6;cases h4;cases h2;cases hr
  rw [hf,h]
  simp [h1,h3,h5,Ij]
 | _::_::_::_::_,hl,_,_=>simp at hl
theorem vJ {base ak:Nat→Prop}{blk:Nat→Option Nat}{w:World}:dQ base ak [] blk w:=
 ⟨fun _ _ h=>by simp at h,fun _ _ _ _ _ _ h=>by simp at h,fun _ _ _ h=>by simp at h⟩
theorem NA (w:World) (b:Nat) (o:Go.Obj) (k:Nat):(w.putObj b o).heap[k]?=if b=k∧b<w.heap.size then some o else w.heap[k]?:=by
 simp only [World.putObj,Array.getElem?_setIfInBounds]
 by_cases h:b=k
 · subst h
   by_cases h':b<w.heap.size
   · simp [h']
   · simp [h']
 · simp [h]
theorem Rel.takeD {base ak:Nat→Prop}{w0:Wz}{S:St}{blk:Nat→Option Nat}{a:Act}{w:World}(R:Rel base ak w0 S blk a w){b:Nat}{ds:List Deferred}(hd:a.defers={ target:=.collected b,args:=#[] }::ds) :
  w.heap[b]?=some (.deferred (some []))∧Rel base ak w0 S blk { a with defers:=ds } (w.putObj b (.deferred none)):=by
 obtain ⟨Ds,h1,h2,h3⟩:=R.nN
 rw [hd] at h1
 cases Ds with
 | nil=>simp at h1
 | cons b' Ds=>
  simp only [List.map_cons,List.cons.injEq,Deferred.mk.injEq,Target.collected.injEq,and_true] at h1
  obtain ⟨rfl,rfl⟩:=h1
  obtain ⟨hb,adq,hbp⟩:=h3 b List.mem_cons_self
  have hsz:(w.putObj b (.deferred none)).heap.size=w.heap.size:=by simp [World.putObj]
  have hne:∀ k:Nat,k≠b→(w.putObj b (.deferred none)).heap[k]?=w.heap[k]?:=fun k hk=>by rw [NA,if_neg (fun e=>hk e.1.symm)]
  have hc:∀ (k:Nat) (x:Go.Obj),w.heap[k]?=some x→iN x→(w.putObj b (.deferred none)).heap[k]?=some x:=by
   rintro k x hk (⟨c,t,y,rfl⟩ | ⟨es,n,rfl⟩)
   · rw [hne k (fun e=>by subst e;rw [hb] at hk;cases hk),hk]
   · rw [hne k (fun e=>by subst e;rw [hb] at hk;cases hk),hk]
  have ho:mO w (w.putObj b (.deferred none)) S.objs S.objs blk blk:=fun k o ho=>⟨o,ho,Nat.le_refl _,fun hl _=>⟨hl,rfl,rfl,rfl,fun _=>rfl,fun g c _ hg=>⟨c,hc g _ hg (.inl ⟨c,_,_,rfl⟩),rfl⟩⟩⟩
  refine ⟨hb,⟨⟨Ds,rfl,(List.nodup_cons.1 h2).2,fun k hk=>?_⟩,R.Cg,fun t p hp=>(R.tm t p hp).rA (Nat.le_of_eq hsz.symm) (fun _ _ h=>h) (fun k x _ hx hcx=>hc k x hx (.inl hcx)) ho,⟨fun k o h1 h4=>?_,R.objs.Js,R.objs.np⟩,R.pr,fun k hk=>?_,by rw [hsz];exact R.gr,R.pb,fun x hx=>(R.ext x hx).rA (Nat.le_of_eq hsz.symm) (fun _ _ h=>h) (fun k x _ hx hcx=>hc k x hx (.inl hcx)) ho,R.Ju,R.sm.trans ⟨rfl,rfl⟩,R.gl⟩⟩
  · have hkb:k≠b:=fun e=>(List.nodup_cons.1 h2).1 (e ▸ hk)
    rw [hne k hkb]
    exact h3 k (List.mem_cons_of_mem _ hk)
  · have hh:=R.objs.ob k o h1 h4
    unfold bY at hh ⊢
    cases hg:blk k with
    | none=>rw [hg] at hh;exact hh
    | some g=>
     rw [hg] at hh
     obtain ⟨c,x1,x2,x3⟩:=hh
     refine ⟨c,hc g _ x1 (Ag _ _),x2,fun i x hx=>⟨(x3 i x hx).1,fun j p hp=>?_⟩⟩
     obtain ⟨v,y1,y2⟩:=(x3 i x hx).2 j p hp
     exact ⟨v,y1,y2.rA (Nat.le_of_eq hsz.symm) (fun _ _ h=>h) (fun k x _ hx hcx=>hc k x hx (.inl hcx)) ho⟩
  · rw [hne k (fun e=>hbp (e ▸ hk))];exact R.fr k hk
theorem o_ {base ak:Nat→Prop}{w0:Wz}{S:St}{blk:Nat→Option Nat}{P:Program}{fn:Func}{Q:Ending→World→Prop}{tm:Array Value}:∀ (ds:List Deferred) (w:World),Rel base ak w0 S blk { tmps:=tm,defers:=ds } w→
  (∀ w',Rel base ak w0 S blk { tmps:=tm,defers:=[] } w'→∃ v,(results fn tm).run P w'=.ok v w'∧Q (.returned v) w')→LeavesInM (EF none) 0 P fn tm Q ds .returning w
 | [],w,R,h=>h w R
 | d::ds,w,R,h=>by
  obtain ⟨Ds,h1,_,_⟩:=R.nN
  cases Ds with
  | nil=>simp at h1
  | cons b Ds=>
   simp only [List.map_cons,List.cons.injEq] at h1
   obtain ⟨rfl,rfl⟩:=h1
   obtain ⟨hb,R'⟩:=R.takeD (b:=b) rfl
   exact ⟨by simp,.inl ⟨b,_,rfl,run_takeDeferred hb,o_ _ _ R' h⟩⟩
def tC:Env:=fun _ _ V=>∀ w0,V w0→w0.xs=[]∧w0.nx=0
theorem FZ.acQ (h:uM P T.fn) (hy:T.Y=fun _ _ _=>False) (hg:∀ g cap ys,T.gives g cap ys→Gives P g cap ys):FZ P none tC T:=
 ⟨h,fun _ _ _ _ _ _ _ _ _ _ _ _ _ _ h=>by rw [hy] at h;exact h.elim,fun _ _ _ hE w0 hw=>by rw [(hE w0 hw).2];exact Nat.zero_le _,fun _=>⟨rfl,fun _ _ _ hE w0 hw=>(hE w0 hw).1⟩,hg⟩
def bS (args:List PV) (n:Nat):St:=⟨args++List.replicate (n-args.length) .dead,[]⟩
theorem Cu {base:Nat→Prop}{w:World}{blk:Nat→Option Nat}{args:List PV}{vs:List Value}(hb:qK.holds w.heap∧∀ b,w.heap.size≤b→base b) (h:cu (aU w (bZ base [] blk) [] blk) args vs) (n:Nat) :
  Rel base (fun b=>b<w.heap.size∧aW [] blk b) ⟨w.heap,[],0,w⟩ (bS args n) blk { tmps:=(⟨vs⟩:Array Value)++Array.replicate (n-(⟨vs⟩:Array Value).size) undef,defers:=[] } w:=by
 have hl:=h.1
 refine ⟨.nil _ _,?_,fun t p hp=>?_,vJ,fun b hb=>hb.1,fun _ _=>rfl,Nat.le_refl _,fun b hn=>hb.2 b ?_,fun x hx=>by simp at hx,fun x hx=>by simp at hx,.refl w,⟨hb.1,fun b hg=>⟨qK.lt hb.1 b hg,dR _ _⟩⟩⟩
 · simp [bS,hl]
 · simp only [bS] at hp
   rw [List.getElem?_append] at hp
   split at hp
   · rename_i ht
     obtain ⟨v,hv⟩:∃ v,vs[t]?=some v:=⟨vs[t]'(by omega),List.getElem?_eq_getElem (by omega)⟩
     have hg:((⟨vs⟩:Array Value)++Array.replicate (n-(⟨vs⟩:Array Value).size) undef).getD t undef=v:=by
      rw [Array.getD_eq_getD_getElem?,Array.getElem?_append,if_pos (by simpa using (by omega:t<vs.length))]
      simp [hv]
     rw [hg]
     exact h.2 t p v hp hv
   · rw [List.getElem?_replicate] at hp
     split at hp
     · cases hp;exact .dead _
     · cases hp
 · rcases Nat.lt_or_ge b w.heap.size with h1 | h1
   · exact absurd ⟨h1,dR blk b⟩ hn
   · exact h1
theorem YM {w:World}{ok:Nat→Prop}{f:PV→PV}{ps:List PV}{vs:List Value}{R:PV→Value→Prop}(h:cu R ps vs) (hf:∀ p v,R p v→dB w ok (f p) v):dB w ok (eT (ps.map f)) (Ij vs):=by
 obtain ⟨hl,h⟩:=h
 match ps,vs,hl,h with
 | [p],[v],_,h=>exact hf p v (h 0 p v rfl rfl)
 | [],[],_,_=>exact .bU [] [] rfl (fun _ _ _ h=>by simp at h)
 | p::p'::ps,v::v'::vs,hl,h=>
  refine .bU _ _ (by simpa using hl) fun i q u hq hu=>?_
  rw [← List.map_cons,List.getElem?_map] at hq
  cases hc:(p::p'::ps)[i]? with
  | none=>rw [hc] at hq;simp at hq
  | some q0=>
   rw [hc] at hq
   simp only [Option.map_some,Option.some.injEq] at hq
   subst hq
   exact hf q0 u (h i q0 u hc hu)
theorem ah.EN {f:FuncId}{fn:Func}{c:Code}{C:LC}{args:List PV}{r:PV}(d:Nat){rs:List ResultVar}{n:Nat}(hD:∀ t,iL P t (D t)) (hT:FZ P none tC T) (hm:P.follows .mixedOrders=true)
  (hf:P.funcs[f]?=some fn) (hname:(fn.name== "runtime.NumGoroutine")=false) (hb:fn.body=some c) (hn:fn.ntmps=n) (hr:fn.results=rs.toArray) (hl:rs.length≤3) (hC:strip C=comp c)
  (h:kE P D T C (UB D d rs r) (bS args n)):ah P f args [] r []:=by
 refine ⟨⟨fn,hf,hname,by rw [hb];rfl⟩,fun w blk vs base hbase _ hargs=>?_⟩
 have hpw:PW P none tC c (UB D d rs r) (bS args n):=rM hD hm C _ _ _ c _ _ hT hC h
 have R:=Cu hbase hargs n
 have hw:=hpw _ _ (fun x=>(⟨w.heap,[],0,w⟩:Wz)=x) (by rintro z rfl;exact ⟨rfl,rfl⟩) _ _ _ ⟨_,rfl,R⟩
 rw [← callsIn_wide (n:=0)]
 refine callsIn_of_wp_marks hf hb trivial ?_
 rw [hn]
 refine wpIn_mono hw ?_
 rintro e a' w' ⟨S',av,⟨he,ho⟩,_,rfl,R'⟩
 have key:∀ w',Rel base (fun b=>b<w.heap.size∧aW [] blk b) ⟨w.heap,[],0,w⟩ S' av { a' with defers:=[] } w'→∃ v,(results fn a'.tmps).run P w'=.ok v w'∧(∃ v' av,Ending.returned v=.returned v'∧dQ base (fun b=>b<w.heap.size∧aW [] blk b) [] av w'∧
     aU w' (bZ base [] av) [] av r v'∧(∀ b,b<w.heap.size→aW [] blk b→w'.heap[b]?=w.heap[b]?)∧w.heap.size≤w'.heap.size∧Sm w w'):=by
  intro w' R'
  obtain ⟨vs',ps,h1,h2,h3⟩:=Ah hD R' rs _ ho
  refine ⟨Ij vs',Dx hr hl h1,Ij vs',av,rfl,vJ,?_,fun b hb1 hb2=>R'.fr b ⟨hb1,hb2⟩,R'.gr,R'.sm⟩
  rw [h2]
  exact .aJ ((YM h3 (fun p v h=>acP R' d p v h)).om fun b _ h=>⟨h,dR _ _⟩)
 rcases he with rfl | rfl <;> exact o_ _ _ R' key
def nR (d k:Nat) (S:St) (o:Obj):Obj:={ fu d (k+1) S.objs o with ver:=0 }
theorem JJ {base ak:Nat→Prop}{w0:Wz}{S':St}{av:Nat→Option Nat}{a:Act}{w':World}{d k:Nat}{o:Obj}(R':Rel base ak w0 S' av a w') (ho:S'.objs[k]?=some o) (hlv:o.live=true) (hnr:eU [nR d k S' o]) :
  dQ base ak [nR d k S' o] (fun j=>if j=0 then av k else none) w'∧
  ∀ v,bL w' (bZ base S'.objs av) S'.objs av (.aY k o.ver) v→bL w' (bZ base [nR d k S' o] (fun j=>if j=0 then av k else none)) [nR d k S' o] (fun j=>if j=0 then av k else none) (.aY 0 0) v:=by
 unfold nR at hnr ⊢
 refine ⟨⟨?_,?_,?_⟩,fun v hx=>?_⟩
 · intro j o1 hj hl1
   cases j with
   | succ j=>simp at hj
   | zero=>
    simp only [List.getElem?_cons_zero,Option.some.injEq] at hj
    subst hj
    have hb:=R'.objs.ob k o ho hlv
    unfold bY at hb ⊢
    simp only [if_true]
    cases hg:av k with
    | none=>rw [hg] at hb;simp [fu,hb]
    | some g=>
     rw [hg] at hb
     obtain ⟨c',hc,h7,h8⟩:=hb
     refine ⟨c',hc,by simpa [fu,fits] using h7,fun i x hx=>?_⟩
     simp only [fu,List.getElem?_map] at hx
     cases hx0:o.xs[i]? with
     | none=>rw [hx0] at hx;simp at hx
     | some x0=>
      rw [hx0] at hx
      simp only [Option.map_some,Option.some.injEq] at hx
      subst hx
      have e:=lU (SS d (k+1) S'.objs) x0
      refine ⟨by rw [e,List.length_map];exact (h8 i x0 hx0).1,fun j p hp=>?_⟩
      rw [e,List.getElem?_map] at hp
      cases hp0:x0.cells[j]? with
      | none=>rw [hp0] at hp;simp at hp
      | some p0=>
       rw [hp0] at hp
       simp only [Option.map_some,Option.some.injEq] at hp
       subst hp
       obtain ⟨u,hu,hrr⟩:=(h8 i x0 hx0).2 j p0 hp0
       refine ⟨u,hu,?_⟩
       have h9:=pU R' d (k+1) p0 u hrr
       have h10:(eP d (k+1) S'.objs p0).ref=false:=by
        refine hnr _ List.mem_cons_self (x0.bC (eP d (k+1) S'.objs)) ?_ _ ?_
        · simp only [fu,List.mem_map];exact ⟨x0,List.mem_of_getElem? hx0,rfl⟩
        · rw [e];exact List.mem_map.2 ⟨p0,List.mem_of_getElem? hp0,rfl⟩
       refine .aJ ((h9.yD h10).om fun b _ hb=>⟨hb.1,fun k' o' hk' _=>?_⟩)
       cases k' with
       | succ k'=>simp at hk'
       | zero=>
        simp only [if_true]
        rw [← hg]
        refine hb.2 k (fu d (k+1) S'.objs o) ?_ hlv
        simp [St.freeze,ho]
 · intro j j' o1 o2 g hne h1 h2 h3 h4
   cases j <;> cases j' <;> simp at h1 h3
   exact absurd rfl hne
 · intro j o1 g h1 h2 h3
   cases j with
   | succ j=>simp at h1
   | zero=>simp only [if_true] at h3;exact R'.objs.np k o g ho hlv h3
 · obtain ⟨h0,o1,h1,h2,h3⟩:=hx
   rw [ho] at h1
   cases h1
   obtain ⟨hM,hh⟩:=h3 hlv rfl
   refine ⟨h0,_,rfl,Nat.le_refl _,fun _ _=>⟨hM,?_⟩⟩
   unfold zU at hh ⊢
   simp only [if_true]
   cases hg:av k with
   | none=>rw [hg] at hh;exact ⟨hh.1,by simp [fu,hh.2]⟩
   | some g=>rw [hg] at hh;simpa [fu] using hh
theorem ah.UD {f:FuncId}{fn:Func}{c:Code}{C:LC}{args:List PV}{o':Obj}(d:Nat){t n:Nat}(hD:∀ t,iL P t (D t)) (hT:FZ P none tC T) (hm:P.follows .mixedOrders=true)
  (hf:P.funcs[f]?=some fn) (hname:(fn.name== "runtime.NumGoroutine")=false) (hb:fn.body=some c) (hn:fn.ntmps=n) (hr:fn.results=#[.tmp t]) (hC:strip C=comp c)
  (h:kE P D T C (Qu d t o') (bS args n)):ah P f args [] (.aY 0 0) [o']:=by
 refine ⟨⟨fn,hf,hname,by rw [hb];rfl⟩,fun w blk vs base hbase _ hargs=>?_⟩
 have hpw:PW P none tC c (Qu d t o') (bS args n):=rM hD hm C _ _ _ c _ _ hT hC h
 have R:=Cu hbase hargs n
 have hw:=hpw _ _ (fun x=>(⟨w.heap,[],0,w⟩:Wz)=x) (by rintro z rfl;exact ⟨rfl,rfl⟩) _ _ _ ⟨_,rfl,R⟩
 rw [← callsIn_wide (n:=0)]
 refine callsIn_of_wp_marks hf hb trivial ?_
 rw [hn]
 refine wpIn_mono hw ?_
 rintro e a' w' ⟨S0,YF,⟨he,S',k,ver,o,hwk,ht,ho,hlv,hv,rfl,hnr⟩,_,rfl,R0⟩
 obtain ⟨av,R'⟩:=hwk _ _ _ _ _ _ (Nat.le_refl _) R0
 have key:∀ w',Rel base (fun b=>b<w.heap.size∧aW [] blk b) ⟨w.heap,[],0,w⟩ S' av { a' with defers:=[] } w'→∃ v,(results fn a'.tmps).run P w'=.ok v w'∧(∃ v' pQ,Ending.returned v=.returned v'∧
     dQ base (fun b=>b<w.heap.size∧aW [] blk b) [nR d k S' o] pQ w'∧
     aU w' (bZ base [nR d k S' o] pQ) [nR d k S' o] pQ (.aY 0 0) v'∧(∀ b,b<w.heap.size→aW [] blk b→w'.heap[b]?=w.heap[b]?)∧w.heap.size≤w'.heap.size∧Sm w w'):=by
  intro w' R'
  have hx:=R'.ev (.tmp t)
  change aU w' _ _ av (S'.tmps.getD t .dead) (a'.tmps.getD t undef) at hx
  rw [ht,← hv] at hx
  obtain ⟨c1,c2⟩:=JJ (d:=d) R' ho hlv hnr
  exact ⟨_,results_tmp hr _ _ _,a'.tmps.getD t undef,_,rfl,c1,c2 _ hx,fun b hb1 hb2=>R'.fr b ⟨hb1,hb2⟩,R'.gr,R'.sm⟩
 rcases he with rfl | rfl <;> exact o_ _ _ R' key
def YN (D:TypeId→aG) (d:Nat) (rs:List ResultVar) (qs:List PV) (o':Obj) (e:Exit) (S:St):Prop:=
 (e=.normal∨e=.ret)∧∃ S' k o,Weak 0 S S'∧iW D S' rs (fun ps=>ps=.aY k o.ver::qs)∧S'.objs[k]?=some o∧o.live=true∧nR d k S' o=o'∧eU [o']∧qs.all PV.atom=true
theorem ah.Qv {f:FuncId}{fn:Func}{c:Code}{C:LC}{args:List PV}{o':Obj}(d:Nat){rs:List ResultVar}{n:Nat}{qs:List PV}(hD:∀ t,iL P t (D t)) (hT:FZ P none tC T) (hm:P.follows .mixedOrders=true)
  (hf:P.funcs[f]?=some fn) (hname:(fn.name== "runtime.NumGoroutine")=false) (hb:fn.body=some c) (hn:fn.ntmps=n) (hr:fn.results=rs.toArray) (hl:rs.length≤3) (hC:strip C=comp c)
  (h:kE P D T C (YN D d rs qs o') (bS args n)):ah P f args [] (eT (.aY 0 0::qs)) [o']:=by
 refine ⟨⟨fn,hf,hname,by rw [hb];rfl⟩,fun w blk vs base hbase _ hargs=>?_⟩
 have hpw:PW P none tC c (YN D d rs qs o') (bS args n):=rM hD hm C _ _ _ c _ _ hT hC h
 have R:=Cu hbase hargs n
 have hw:=hpw _ _ (fun x=>(⟨w.heap,[],0,w⟩:Wz)=x) (by rintro z rfl;exact ⟨rfl,rfl⟩) _ _ _ ⟨_,rfl,R⟩
 rw [← callsIn_wide (n:=0)]
 refine callsIn_of_wp_marks hf hb trivial ?_
 rw [hn]
 refine wpIn_mono hw ?_
 rintro e a' w' ⟨S0,YF,⟨he,S',k,o,hwk,hout,ho,hlv,rfl,hnr,hq⟩,_,rfl,R0⟩
 obtain ⟨av,R'⟩:=hwk _ _ _ _ _ _ (Nat.le_refl _) R0
 have key:∀ w',Rel base (fun b=>b<w.heap.size∧aW [] blk b) ⟨w.heap,[],0,w⟩ S' av { a' with defers:=[] } w'→∃ v,(results fn a'.tmps).run P w'=.ok v w'∧(∃ v' pQ,Ending.returned v=.returned v'∧
     dQ base (fun b=>b<w.heap.size∧aW [] blk b) [nR d k S' o] pQ w'∧
     aU w' (bZ base [nR d k S' o] pQ) [nR d k S' o] pQ (eT (.aY 0 0::qs)) v'∧(∀ b,b<w.heap.size→aW [] blk b→w'.heap[b]?=w.heap[b]?)∧w.heap.size≤w'.heap.size∧Sm w w'):=by
  intro w' R'
  obtain ⟨vs',ps,h1,h2,h3⟩:=Ah hD R' rs _ hout
  subst h2
  obtain ⟨c1,c2⟩:=JJ (d:=d) R' ho hlv hnr
  refine ⟨Ij vs',Dx hr hl h1,Ij vs',_,rfl,c1,?_,fun b hb1 hb2=>R'.fr b ⟨hb1,hb2⟩,R'.gr,R'.sm⟩
  obtain ⟨hl3,h3⟩:=h3
  match vs',qs,hl3,h3,hq with
  | [v],[],_,h3,_=>exact c2 v (h3 0 _ v rfl rfl)
  | v::v'::vs,q::qs,hl3,h3,hq=>
   refine ⟨v::v'::vs,rfl,by simpa using hl3,fun i p u hp hu=>?_⟩
   cases i with
   | zero=>cases hp;cases hu;exact c2 _ (h3 0 _ _ rfl rfl)
   | succ i=>
    have hp':(q::qs)[i]?=some p:=hp
    have ha:=List.all_eq_true.1 hq p (List.mem_of_getElem? hp')
    have h5:=h3 (i+1) p u hp hu
    refine FC ha (w:=w') (ok:=bZ base S'.objs av) (objs:=S'.objs) (blk:=av) ?_
    cases p <;> first | exact h5 | (simp [PV.atom] at ha)
 rcases he with rfl | rfl <;> exact o_ _ _ R' key
def WM (n:Nat) (I J:Nat→List Obj→Prop) (e:Exit) (S:St):Prop:=(e=.normal∨e=.ret)∧(I n S.objs∨∃ i,i<n∧J i S.objs)
def F3 (fn:Tab) (y:Nat) (Y:YT) (nx:Nat):Know:=⟨fn,y,Y,false,fun _ _ _=>False,nx⟩
theorem Gives.EN {f:FuncId}{fn:Func}{c:Code}{C:LC}{cap:List PV}{ys:List (List PV)}{n:Nat}{fnT:Tab}(hD:∀ t,iL P t (D t)) (hT:uM P fnT) (hm:P.follows .mixedOrders=true)
  (hf:P.funcs[f]?=some fn) (hname:(fn.name== "runtime.NumGoroutine")=false) (hb:fn.body=some c) (hn:fn.ntmps=n) (hr:fn.results=#[]) (hC:strip C=comp c)
  (h:∀ (I J:Nat→List Obj→Prop) (objs:List Obj) (y:Nat),I 0 objs→(∀ i O,I i O→objs.length≤O.length∧jw O)→(∀ i O,J i O→objs.length≤O.length∧jw O)→
   kE P D (F3 fnT y (VP ys I J) objs.length) C (WM ys.length I J) ⟨(bS (.D9 y::cap) n).tmps,objs⟩):Gives P f cap ys:=by
 refine ⟨⟨fn,hf,hname,by rw [hb];rfl⟩,fun I J base ak V y objs blk w Ii hY hnx hR hI0 Hw VQ hcap=>?_⟩
 obtain ⟨w0,hV,R⟩:=hR
 let E:Env:=fun base' xZ V'=>base'=base∧xZ=ak∧V'=V
 have hk:FZ P none E (F3 fnT y (VP ys I J) objs.length):=
  ⟨hT,by rintro b p v ⟨rfl,rfl,rfl⟩;exact hY,by rintro b p v ⟨rfl,rfl,rfl⟩;exact hnx,(fun h=>by cases h),fun _ _ _ h=>h.elim⟩
 have hpw:PW P none E c (WM ys.length I J) ⟨(bS (.D9 y::cap) n).tmps,objs⟩:=rM hD hm C _ _ _ c _ _ hk hC (h I J objs y hI0 Hw VQ)
 have hargs:cu (aU w (bZ base objs blk) objs blk) (.D9 y::cap) (.func (.yield y) #[] #[]::Ii):=by
  refine ⟨by simpa using hcap.1,fun i p v hp hv=>?_⟩
  cases i with
  | zero=>
   simp only [List.getElem?_cons_zero,Option.some.injEq] at hp hv
   subst hp;subst hv
   exact .aJ (.D9 y)
  | succ i=>exact .aJ (hcap.2 i p v (by simpa using hp) (by simpa using hv))
 have R1:Rel base ak w0 ⟨(bS (.D9 y::cap) n).tmps,objs⟩ blk { tmps:=(⟨.func (.yield y) #[] #[]::Ii⟩:Array Value)++Array.replicate (n-(⟨.func (.yield y) #[] #[]::Ii⟩:Array Value).size) undef,defers:=[] } w:=by
  have hl:=hargs.1
  refine ⟨.nil _ _,?_,fun t p hp=>?_,R.objs,R.pr,R.fr,R.gr,R.pb,R.ext,R.Ju,R.sm,R.gl⟩
  · simp only [bS,Array.size_append,Array.size_replicate,List.length_append,List.length_replicate,hl]
    simp
  · simp only [bS] at hp
    rw [List.getElem?_append] at hp
    split at hp
    · rename_i ht
      obtain ⟨v,hv⟩:∃ v,(Value.func (.yield y) #[] #[]::Ii)[t]?=some v:=⟨_,List.getElem?_eq_getElem (by omega)⟩
      have hg:((⟨.func (.yield y) #[] #[]::Ii⟩:Array Value)++Array.replicate (n-(⟨.func (.yield y) #[] #[]::Ii⟩:Array Value).size) undef).getD t undef=v:=by
       rw [Array.getD_eq_getD_getElem?,Array.getElem?_append,if_pos (by simpa using (by rw [← hl];exact ht:t<(Value.func (.yield y) #[] #[]::Ii).length))]
       simp [hv]
      rw [hg]
      exact hargs.2 t p v hp hv
    · rw [List.getElem?_replicate] at hp
      split at hp
      · cases hp;exact .dead _
      · cases hp
 have hw:=hpw base ak V ⟨rfl,rfl,rfl⟩ blk _ w ⟨w0,hV,R1⟩
 rw [← callsIn_wide (n:=0)]
 refine callsIn_of_wp_marks hf hb trivial ?_
 rw [hn]
 refine wpIn_mono hw ?_
 rintro e a' w' ⟨S',av,⟨he,hI⟩,w0',hV',R'⟩
 have key:∀ w'',Rel base ak w0' S' av { a' with defers:=[] } w''→∃ v,(results fn a'.tmps).run P w''=.ok v w''∧(∃ objs' pQ,Ending.returned v=.returned (.tuple #[])∧(I ys.length objs'∨∃ i,i<ys.length∧J i objs')∧qm base ak V ⟨[],objs'⟩ pQ WA w''):=by
  intro w'' R''
  refine ⟨_,results_none hr _ _ _,S'.objs,av,rfl,hI,w0',hV',.nil _ _,rfl,fun t p hp=>by simp at hp,R''.objs,R''.pr,R''.fr,R''.gr,R''.pb,R''.ext,R''.Ju,R''.sm,R''.gl⟩
 rcases he with rfl | rfl <;> exact o_ _ _ R' key
theorem UE {w:World}{ok:Nat→Prop}{sz:Nat}{xs:List PV}{v:Value}(h:dB w ok (.sl sz xs none) v):(xs=[]∧dB w ok (.sl sz xs (some true)) v)∨dB w ok (.sl sz xs (some false)) v:=by
 cases h with
 | slnil _ _ _=>exact .inl ⟨rfl,.slnil _ _ (by simp)⟩
 | H6 _ _ _ a cap hc=>exact .inr (.H6 _ _ (by simp) a cap hc)
 | sl _ _ _ _ b off cap vs h1 h2 h3 h4 h5 h6=>exact .inr (.sl _ _ _ (by simp) b off cap vs h1 h2 h3 h4 h5 h6)
theorem ah.split {f:FuncId}{pre post:List PV}{sz:Nat}{xs:List PV}{r:PV}{os:List Obj}(h1:xs=[]→ah P f (pre++.sl sz [] (some true)::post) [] r os) (h2:ah P f (pre++.sl sz xs (some false)::post) [] r os) :
  ah P f (pre++.sl sz xs none::post) [] r os:=by
 refine ⟨h2.1,fun w blk vs base hb ho hargs=>?_⟩
 have key:∀ p:PV,(∀ v,aU w (bZ base [] blk) [] blk (.sl sz xs none) v→vs[pre.length]?=some v→aU w (bZ base [] blk) [] blk p v)→cu (aU w (bZ base [] blk) [] blk) (pre++p::post) vs:=by
  intro p hp
  refine ⟨by have:=hargs.1;simpa using this,fun i q u hq hu=>?_⟩
  rw [List.getElem?_append] at hq
  by_cases hi:i<pre.length
  · rw [if_pos hi] at hq
    exact hargs.2 i q u (by rw [List.getElem?_append,if_pos hi];exact hq) hu
  · rw [if_neg hi] at hq
    by_cases he:i=pre.length
    · subst he
      simp only [Nat.sub_self,List.getElem?_cons_zero,Option.some.injEq] at hq
      subst hq
      exact hp u (hargs.2 pre.length _ u (by rw [List.getElem?_append,if_neg (by omega)];simp) hu) hu
    · refine hargs.2 i q u ?_ hu
      rw [List.getElem?_append,if_neg hi]
      obtain ⟨j,hj⟩:∃ j,i-pre.length=j+1:=⟨i-pre.length-1,by omega⟩
      rw [hj] at hq ⊢
      simpa using hq
 have hlt:pre.length<vs.length:=by have:=hargs.1;simp at this;omega
 have hr:dB w (bZ base [] blk) (.sl sz xs none) (vs[pre.length]):=hargs.2 pre.length (.sl sz xs none) _ (by simp) (List.getElem?_eq_getElem hlt)
 rcases UE hr with ⟨rfl,hr⟩ | hr
 · exact (h1 rfl).2 w blk vs base hb ho (key _ fun v _ hv=>by rw [List.getElem?_eq_getElem hlt] at hv;cases hv;exact hr)
 · exact h2.2 w blk vs base hb ho (key _ fun v _ hv=>by rw [List.getElem?_eq_getElem hlt] at hv;cases hv;exact hr)
theorem ah.WN {f:FuncId}{args:List PV}{r r':PV}(h:ah P f args [] r []) (hr:∀ w ok v,dB w ok r v→dB w ok r' v):ah P f args [] r' []:=by
 refine ⟨h.1,fun w blk vs base hb ho hargs=>Calls.mono (h.2 w blk vs base hb ho hargs) ?_⟩
 rintro e w' ⟨v,av,h1,h2,h3,h4,h5⟩
 exact ⟨v,av,h1,h2,.aJ (hr _ _ _ (vI h3)),h4,h5⟩
theorem KL {w:World}{ok:Nat→Prop}{s s':Nat}{q:Option Bool}{v:Value}(h:dB w ok (.sl s [] (some true)) v) (hq:q≠some false):dB w ok (.sl s' [] q) v:=by
 cases h with
 | slnil _ _ _=>exact .slnil _ _ hq
 | H6 _ _ hq'=>exact absurd rfl hq'
 | sl _ _ _ hq'=>exact absurd rfl hq'
end Lp
namespace Lp
open Go
def aO (P:Program) (f:FuncId) (n:Nat) (rs:List ResultVar) (C:LC):Prop:=
 ∃ fn c,P.funcs[f]?=some fn∧(fn.name== "runtime.NumGoroutine")=false∧fn.body=some c∧fn.ntmps=n∧fn.results=rs.toArray∧strip C=comp c
abbrev dN:=List PV→List Obj→KT→Prop
def aF (P:Program) (f:FuncId) (c:dN):Prop:=∀ args objs K,c args objs K→∃ r objs' t,lS P f args objs r objs' t∧K r objs' t
def tF:List (FuncId×dN)→Tab
 | [],_,_,_,_=>False
 | (g,c)::l,f,args,objs,K=>bif f==g then c args objs K else tF l f args objs K
def aQ (P:Program) (l:List (FuncId×dN)):Know:=⟨tF l,0,fun _ _ _=>False,true,Gives P,0⟩
theorem ai {P:Program}:uM P (tF []):=fun _ _ _ _ h=>h.elim
theorem af {P:Program}{g:FuncId}{c:dN}{l:List (FuncId×dN)}(h:aF P g c) (hl:uM P (tF l)):uM P (tF ((g,c)::l)):=by
 intro f args objs K hh
 unfold tF at hh
 cases he:f==g with
 | true=>
  rw [he] at hh
  have:f=g:=by simpa using he
  subst this
  exact h args objs K hh
 | false=>rw [he] at hh;exact hl f args objs K hh
theorem aj {P:Program}{l:List (FuncId×dN)}(h:uM P (tF l)):FZ P none tC (aQ P l):=.acQ h rfl fun _ _ _ h=>h
variable {P:Program}{D:TypeId→aG}{T:Know}
theorem aO.pure {f:FuncId}{n:Nat}{rs:List ResultVar}{C:LC}{args:List PV}{r:PV}(h:aO P f n rs C) (d:Nat) (hD:∀ t,iL P t (D t)) (hT:FZ P none tC T) (hm:P.follows .mixedOrders=true) (hl:rs.length≤3)
  (hw:kE P D T C (UB D d rs r) (bS args n)):ah P f args [] r []:=by
 obtain ⟨fn,c,h1,h2,h3,h4,h5,h6⟩:=h
 exact ah.EN d hD hT hm h1 h2 h3 h4 h5 hl h6 hw
theorem aO.made {f:FuncId}{n t:Nat}{C:LC}{args:List PV}{o':Obj}(h:aO P f n [.tmp t] C) (d:Nat) (hD:∀ t,iL P t (D t)) (hT:FZ P none tC T) (hm:P.follows .mixedOrders=true)
  (hw:kE P D T C (Qu d t o') (bS args n)):ah P f args [] (.aY 0 0) [o']:=by
 obtain ⟨fn,c,h1,h2,h3,h4,h5,h6⟩:=h
 exact ah.UD d hD hT hm h1 h2 h3 h4 h5 h6 hw
theorem aO.abK {f:FuncId}{n:Nat}{rs:List ResultVar}{C:LC}{args:List PV}{qs:List PV}{o':Obj}(h:aO P f n rs C) (d:Nat) (hD:∀ t,iL P t (D t)) (hT:FZ P none tC T) (hm:P.follows .mixedOrders=true) (hl:rs.length≤3)
  (hw:kE P D T C (YN D d rs qs o') (bS args n)):ah P f args [] (eT (.aY 0 0::qs)) [o']:=by
 obtain ⟨fn,c,h1,h2,h3,h4,h5,h6⟩:=h
 exact ah.Qv d hD hT hm h1 h2 h3 h4 h5 hl h6 hw
theorem aO.gives {f:FuncId}{n:Nat}{C:LC}{cap:List PV}{ys:List (List PV)}{fnT:Tab}(h:aO P f n [] C) (hD:∀ t,iL P t (D t)) (hT:uM P fnT) (hm:P.follows .mixedOrders=true)
  (hw:∀ (I J:Nat→List Obj→Prop) (objs:List Obj) (y:Nat),I 0 objs→(∀ i O,I i O→objs.length≤O.length∧jw O)→(∀ i O,J i O→objs.length≤O.length∧jw O)→
   kE P D (F3 fnT y (VP ys I J) objs.length) C (WM ys.length I J) ⟨(bS (.D9 y::cap) n).tmps,objs⟩):Gives P f cap ys:=by
 obtain ⟨fn,c,h1,h2,h3,h4,h5,h6⟩:=h
 exact Gives.EN hD hT hm h1 h2 h3 h4 h5 h6 hw
def mkT (n:Nat) (l:List (Nat×PV)):List PV:=l.foldl (fun tm x=>tm.set x.1 x.2) (List.replicate n .dead)
def kS (v:PV) (d:Nat) (want:Bool) (S:St) (X Y:St→Prop):Prop:=
 match v with
 | .bool b=>(b=want→X { S with tmps:=S.tmps.set d (.bool want) })∧(b=!want→Y { S with tmps:=S.tmps.set d (.bool !want) })
 | .bU []=>Y S
 | _=>False
def noTwo:List Nat→Bool
 | []=>true
 | t::ts=>co t !=2 && noTwo ts
theorem Cv:∀ (ts:List Nat) (i:Nat),noTwo ts=true→co (ts.getD i 0)≠2
 | [],i,_=>by simp [co]
 | t::ts,i,h=>by
  simp only [noTwo,Bool.and_eq_true,bne_iff_ne,ne_eq] at h
  cases i with
  | zero=>simpa using h.1
  | succ i=>simpa using Cv ts i h.2
theorem KM (un ts:List Nat):(mV un ts=true)=((noTwo ts || mV un ts)=true):=by
 cases h:noTwo ts with
 | false=>rfl
 | true=>
  have:pV un ts=true:=by
   unfold pV
   rw [List.all_eq_true]
   intro i _
   simp only [Bool.or_eq_true,List.all_eq_true]
   right
   intro j _
   have h1:=Cv ts i h
   have h2:=Cv ts j h
   simp only [beq_eq_false_iff_ne.2 h1,beq_eq_false_iff_ne.2 h2,Bool.false_and,Bool.or_false,Bool.not_false,or_true]
  simp [mV,this]
theorem Ai :
  (∀ (Q:Exit→St→Prop) S,kE P D T .skip Q S=Q .normal S)∧
  (∀ (Q:Exit→St→Prop) S,kE P D T .ret Q S=Q .ret S)∧
  (∀ id (Q:Exit→St→Prop) S,kE P D T (.exit id) Q S=Q (.exit id) S)∧
  (∀ ss (Q:Exit→St→Prop) S,kE P D T (.reg ss) Q S=LR P D T ss S [] fun S' _=>Q .normal S')∧
  (∀ ss un (Q:Exit→St→Prop) S,kE P D T (.draw ss un) Q S=LR P D T.ZI ss S [] fun S' ts=>(noTwo ts || mV un ts)=true∧Q .normal S')∧
  (∀ a b (Q:Exit→St→Prop) S,kE P D T (.seq a b) Q S=kE P D T a (thenS (fun S'=>kE P D T b Q S') Q) S)∧
  (∀ c a b (Q:Exit→St→Prop) S,kE P D T (.cond c a b) Q S=x_ (S.ev c) (kE P D T a Q S) (kE P D T b Q S))∧
  (∀ id c (Q:Exit→St→Prop) S,kE P D T (.block id c) Q S=kE P D T c (qN id Q) S):=by
 refine ⟨fun _ _=>rfl,fun _ _=>rfl,fun _ _ _=>rfl,fun _ _ _=>rfl,fun ss un Q S=>?_,fun _ _ _ _=>rfl,fun _ _ _ _ _=>rfl,fun _ _ _ _=>rfl⟩
 simp only [← KM]
 rfl
theorem yJ :
  (∀ (n:St→Prop) (Q:Exit→St→Prop) S,thenS n Q .normal S=n S)∧
  (∀ (n:St→Prop) (Q:Exit→St→Prop) S,thenS n Q .ret S=Q .ret S)∧
  (∀ (n:St→Prop) (Q:Exit→St→Prop) S id,thenS n Q (.exit id) S=Q (.exit id) S)∧
  (∀ (Q:Exit→St→Prop) S id,qN id Q .normal S=Q .normal S)∧
  (∀ (Q:Exit→St→Prop) S id,qN id Q .ret S=Q .ret S)∧
  (∀ (Q:Exit→St→Prop) S id id',qN id Q (.exit id') S=if id'=id then Q .normal S else Q (.exit id') S)∧
  (∀ b X Y,x_ (.bool b) X Y=((b=true→X)∧(b=false→Y))):=
 ⟨fun _ _ _=>rfl,fun _ _ _=>rfl,fun _ _ _ _=>rfl,fun _ _ _=>rfl,fun _ _ _=>rfl,fun _ _ _ _=>rfl,fun _ _ _=>rfl⟩
theorem Cw :
  (∀ S ts (K:St→List Nat→Prop),LR P D T [] S ts K=K S ts)∧
  (∀ d o g w rest S ts (K:St→List Nat→Prop),LR P D T (⟨d,o,g,w⟩::rest) S ts K=vE g S
   (fun S=>lF P D T w (S.tmps.all PV.pure) S.ev S.objs o fun r objs' t=>LR P D T rest (St.put ⟨S.tmps,objs'⟩ d r) (ts++[t]) K)
   (fun S=>LR P D T rest (S.put d (.bU [])) (ts++[0]) K)):=⟨fun _ _ _=>rfl,fun _ _ _ _ _ _ _ _=>rfl⟩
theorem Cx :
  (∀ (S:St) (X Y:St→Prop),vE none S X Y=X S)∧
  (∀ d w (S:St) (X Y:St→Prop),vE (some (some d,w)) S X Y=kS (S.tmps.getD d .dead) d w S X Y)∧
  (∀ b d w (S:St) (X Y:St→Prop),kS (.bool b) d w S X Y=((b=w→X { S with tmps:=S.tmps.set d (.bool w) })∧(b=!w→Y { S with tmps:=S.tmps.set d (.bool !w) })))∧
  (∀ d w (S:St) (X Y:St→Prop),kS (.bU []) d w S X Y=Y S):=⟨fun _ _ _=>rfl,fun _ _ _ _ _=>rfl,fun _ _ _ _ _ _=>rfl,fun _ _ _ _ _=>rfl⟩
theorem yK :
  (∀ tm ob d p,St.put ⟨tm,ob⟩ (some d) p=⟨tm.set d p,ob⟩)∧
  (∀ tm ob p,St.put ⟨tm,ob⟩ none p=⟨tm,ob⟩)∧
  (∀ tm ob t,St.ev ⟨tm,ob⟩ (.tmp t)=tm.getD t .dead)∧
  (∀ (S:St) v,S.ev (.const v)=.ve v)∧
  (∀ (S:St) f,S.ev (.func f)=.fn f [] [])∧
  (∀ k n,PV.ve (.int k n)=.int k n)∧(∀ b,PV.ve (.bool b)=.bool b)∧(∀ l,PV.ve (.string ⟨⟨l⟩⟩)=.str l)∧
  (PV.ve (.slice none 0 0)=.sl 0 [] (some true))∧(PV.ve (.pointer none)=.zT)∧(PV.ve .nilFunc=.Cf)∧
  (∀ args n,bS args n=⟨args++List.replicate (n-args.length) .dead,[]⟩):=
 ⟨fun _ _ _ _=>rfl,fun _ _ _=>rfl,fun _ _ _=>rfl,fun _ _=>rfl,fun _ _=>rfl,
  fun _ _=>rfl,fun _=>rfl,fun _=>rfl,rfl,rfl,rfl,fun _ _=>rfl⟩
theorem mX (w pt:Bool) (ev:Operand→PV) (objs:List Obj) (K:KT) :
  (∀ x,lF P D T w pt ev objs (.move x) K=K (ev x) objs 0)∧(∀ x,lF P D T w pt ev objs (.assign x) K=K (ev x) objs 0)∧
  (∀ c x y,lF P D T w pt ev objs (.pick c x y) K=qA (ev c) (ev x) (ev y) objs K)∧
  (∀ t,lF P D T w pt ev objs (.alloc t) K=qM t (D t) objs K)∧
  (∀ t x,lF P D T w pt ev objs (.box t x) K=H8 t (D t) (ev x) objs K)∧
  (∀ t ps,lF P D T w pt ev objs (.build t ps) K=bD D t (ps.toList.map fun x=>(x.1,ev x.2)) objs K)∧
  (∀ t n ps,lF P D T w pt ev objs (.buildSlice t n ps) K=bK D w t n (ps.toList.map fun x=>(x.1,ev x.2)) objs K)∧
  (∀ t x,lF P D T w pt ev objs (.load t x) K=eY (D t) (ev x) objs K)∧
  (∀ t x y,lF P D T w pt ev objs (.store t x y) K=jv (D t) (ev x) (ev y) objs K)∧
  (∀ x,lF P D T w pt ev objs (.nilCheck x) K=dJ (ev x) objs K)∧
  (∀ b t x y t',lF P D T w pt ev objs (.binOp b t x y t') K=pG P (D t) t b (ev x) (ev y) fun r=>K r objs 0)∧
  (∀ u t x,lF P D T w pt ev objs (.unOp u t x) K=MJ u (ev x) fun r=>K r objs 0)∧
  (∀ s t x,lF P D T w pt ev objs (.convert s t x) K=jN D s t (ev x) objs K)∧
  (∀ f first cap,lF P D T w pt ev objs (.makeFunc (.func f) first cap) K=jr f (first.toList.map ev) (cap.toList.map ev) objs K)∧
  (∀ t l c,lF P D T w pt ev objs (.makeSlice t l c) K=fq D t (ev l) (ev c) objs K)∧
  (∀ t x lo hi,lF P D T w pt ev objs (.slice t x lo hi none) K=iU D t (ev x) (lo.map ev) (hi.map ev) objs K)∧
  (∀ t x f,lF P D T w pt ev objs (.fieldAddr t x f) K=aL D t (ev x) f objs K)∧
  (∀ t x f,lF P D T w pt ev objs (.field t x f) K=n_ D t (ev x) f objs K)∧
  (∀ t x i,lF P D T w pt ev objs (.indexAddr t x i) K=aZ D t (ev x) (ev i) objs K)∧
  (∀ t x i,lF P D T w pt ev objs (.index t x i) K=kQ D t (ev x) (ev i) objs K)∧
  (∀ x i,lF P D T w pt ev objs (.extract x i) K=bN (ev x) i objs K)∧
  (∀ t x at',lF P D T w pt ev objs (.call { callee:=.builtin .len,args:=⟨[x]⟩,argTypes:=⟨t::at'⟩ }) K=eZ D .len (t::at') [x] ev objs K)∧
  (∀ b args ats,lF P D T w pt ev objs (.call { callee:=.builtin b,args:=args,argTypes:=ats }) K=eZ D b ats.toList args.toList ev objs K)∧
  (∀ f args ats,lF P D T w pt ev objs (.call { callee:=.value f,args:=args,argTypes:=ats }) K=nQ T pt (ev f) (args.toList.map ev) objs K):=
 ⟨fun _=>rfl,fun _=>rfl,fun _ _ _=>rfl,fun _=>rfl,fun _ _=>rfl,fun _ _=>rfl,fun _ _ _=>rfl,fun _ _=>rfl,fun _ _ _=>rfl,fun _=>rfl,fun _ _ _ _ _=>rfl,fun _ _ _=>rfl,fun _ _ _=>rfl,
  fun _ _ _=>rfl,fun _ _ _=>rfl,fun _ _ _ _=>rfl,fun _ _ _=>rfl,fun _ _ _=>rfl,fun _ _ _=>rfl,fun _ _ _=>rfl,fun _ _=>rfl,fun _ _ _=>rfl,fun _ _ _=>rfl,fun _ _ _=>rfl⟩
theorem ZN :
  (∀ pt g first cap args objs (K:KT),nQ T pt (.fn g first cap) args objs K=T.fn g (first++args++cap) objs K)∧
  (∀ pt l args objs (K:KT),nQ T pt (.D9 l) args objs K=(l=T.y∧pt=true∧args.all PV.pure=true∧T.Y args objs fun b o=>K (.bool b) o 2)):=
 ⟨fun _ _ _ _ _ _ _=>rfl,fun _ _ _ _ _=>rfl⟩
theorem EO (l:List (FuncId×dN)):((aQ P l).ZI=aQ P l)∧((aQ P l).fn=tF l)∧((aQ P l).nx=0)∧((aQ P l).top=true)∧((aQ P l).gives=Gives P):=⟨rfl,rfl,rfl,rfl,rfl⟩
theorem kiR (fn:Tab) (y:Nat) (Y:YT) (nx:Nat):((F3 fn y Y nx).fn=fn)∧((F3 fn y Y nx).y=y)∧((F3 fn y Y nx).Y=Y)∧((F3 fn y Y nx).nx=nx):=⟨rfl,rfl,rfl,rfl⟩
theorem ZO (g f:FuncId) (c:dN) (l:List (FuncId×dN)) (args:List PV) (objs:List Obj) (K:KT):tF ((g,c)::l) f args objs K=bif f==g then c args objs K else tF l f args objs K:=rfl
def kindOf:TypeDesc→TK
 | .string=>.str
 | .bool=>.bool
 | .int k=>.int k
 | .slice e=>.slice e
 | .array n e=>.array n e
 | .struct fl=>.struct (fl.toList.map fun f=>(f.offset,f.type))
 | .map k e=>.map k e
 | _=>.other
theorem aaS {P:Program}{t:TypeId}{k:TK}{sz by':Nat}{z:Value}(h1:(P.info? t).map (fun i=>(i.size,i.bytes,i.zero))=some (sz,by',some z)) (h2:(P.underlying t).map kindOf=some k) (h3:Nat.beq t MT=false):iL P t ⟨k,sz,by',z⟩:=by
 cases hi:P.info? t with
 | none=>rw [hi] at h1;simp at h1
 | some i=>
  rw [hi] at h1
  simp only [Option.map_some,Option.some.injEq,Prod.mk.injEq] at h1
  cases hu:P.underlying t with
  | none=>rw [hu] at h2;simp at h2
  | some d=>
   rw [hu] at h2
   simp only [Option.map_some,Option.some.injEq] at h2
   subst h2
   refine .inr ⟨⟨i,hi,h1.1,h1.2.1,h1.2.2,fun e=>by rw [e] at h3;exact absurd h3 (by decide)⟩,?_⟩
   cases d <;> simp only [kindOf] <;> first
    | exact hu
    | exact ⟨_,hu,rfl⟩
theorem KN {P:Program}{t:TypeId}:iL P t aG.off:=.inl rfl
end Lp
namespace Lp
open Go
variable {P:Program}{D:TypeId→aG}{T:Know}{objs objs':List Obj}{K:KT}
@[congr] theorem abL {ss:List Step}{S S':St}{ts ts':List Nat}{K:St→List Nat→Prop}(h:S=S') (h':ts=ts'):LR P D T ss S ts K=LR P D T ss S' ts' K:=by rw [h,h']
@[congr] theorem YO {v v':PV}{d:Nat}{w:Bool}{S:St}{X Y:St→Prop}(h:v=v'):kS v d w S X Y=kS v' d w S X Y:=by rw [h]
@[congr] theorem ZP {v v':PV}{X Y:Prop}(h:v=v'):x_ v X Y=x_ v' X Y:=by rw [h]
@[congr] theorem ZQ {c c' x x' y y':PV}(h1:c=c') (h2:x=x') (h3:y=y') (ho:objs=objs'):qA c x y objs K=qA c' x' y' objs' K:=by rw [h1,h2,h3,ho]
@[congr] theorem YP {t:TypeId}{ti S_:aG}(h:ti=S_) (ho:objs=objs'):qM t ti objs K=qM t S_ objs' K:=by rw [h,ho]
@[congr] theorem aaT {t:TypeId}{ti S_:aG}{v v':PV}(h:ti=S_) (h1:v=v') (ho:objs=objs'):H8 t ti v objs K=H8 t S_ v' objs' K:=by rw [h,h1,ho]
@[congr] theorem YQ {t:TypeId}{ps ps':List (Nat×PV)}(h:ps=ps') (ho:objs=objs'):bD D t ps objs K=bD D t ps' objs' K:=by rw [h,ho]
@[congr] theorem Ta {own:Bool}{t:TypeId}{n:Nat}{ps ps':List (Nat×PV)}(h:ps=ps') (ho:objs=objs'):bK D own t n ps objs K=bK D own t n ps' objs' K:=by rw [h,ho]
@[congr] theorem ZR {ti S_:aG}{p p':PV}(h:ti=S_) (h1:p=p') (ho:objs=objs'):eY ti p objs K=eY S_ p' objs' K:=by rw [h,h1,ho]
@[congr] theorem YR {ti S_:aG}{p p' v v':PV}(h:ti=S_) (h1:p=p') (h2:v=v') (ho:objs=objs'):jv ti p v objs K=jv S_ p' v' objs' K:=by rw [h,h1,h2,ho]
@[congr] theorem VR {x x':PV}(h:x=x') (ho:objs=objs'):dJ x objs K=dJ x' objs' K:=by rw [h,ho]
@[congr] theorem aaU {ti S_:aG}{t:TypeId}{b:BinOp}{x x' y y':PV}{K:PV→Prop}(h:ti=S_) (h1:x=x') (h2:y=y'):pG P ti t b x y K=pG P S_ t b x' y' K:=by rw [h,h1,h2]
@[congr] theorem abo {u:UnOp}{x x':PV}{K:PV→Prop}(h:x=x'):MJ u x K=MJ u x' K:=by rw [h]
@[congr] theorem ZT {s s' d d':aG}{x x':PV}{K:PV→Prop}(h:s=s') (h1:d=d') (h2:x=x'):mI s d x K=mI s' d' x' K:=by rw [h,h1,h2]
@[congr] theorem VS {f:FuncId}{a a' c c':List PV}(h:a=a') (h1:c=c') (ho:objs=objs'):jr f a c objs K=jr f a' c' objs' K:=by rw [h,h1,ho]
@[congr] theorem UF {t:TypeId}{l l' c c':PV}(h:l=l') (h1:c=c') (ho:objs=objs'):fq D t l c objs K=fq D t l' c' objs' K:=by rw [h,h1,ho]
@[congr] theorem YS {t:TypeId}{x x':PV}{lo lo' hi hi':Option PV}(h:x=x') (h1:lo=lo') (h2:hi=hi') (ho:objs=objs'):iU D t x lo hi objs K=iU D t x' lo' hi' objs' K:=by rw [h,h1,h2,ho]
@[congr] theorem UG {t:TypeId}{x x':PV}{f:Nat}(h:x=x') (ho:objs=objs'):aL D t x f objs K=aL D t x' f objs' K:=by rw [h,ho]
@[congr] theorem YU {t:TypeId}{x x':PV}{f:Nat}(h:x=x') (ho:objs=objs'):n_ D t x f objs K=n_ D t x' f objs' K:=by rw [h,ho]
@[congr] theorem UH {t:TypeId}{x x' i i':PV}(h:x=x') (h1:i=i') (ho:objs=objs'):aZ D t x i objs K=aZ D t x' i' objs' K:=by rw [h,h1,ho]
@[congr] theorem YV {t:TypeId}{x x' i i':PV}(h:x=x') (h1:i=i') (ho:objs=objs'):kQ D t x i objs K=kQ D t x' i' objs' K:=by rw [h,h1,ho]
@[congr] theorem WO {x x':PV}{i:Nat}(h:x=x') (ho:objs=objs'):bN x i objs K=bN x' i objs' K:=by rw [h,ho]
@[congr] theorem aaV {t:TypeId}{x x':PV}(h:x=x') (ho:objs=objs'):pI D t x objs K=pI D t x' objs' K:=by rw [h,ho]
@[congr] theorem Ye {t u:TypeId}{s s' x x':PV}(h:s=s') (h1:x=x') (ho:objs=objs'):dZ D t u s x objs K=dZ D t u s' x' objs' K:=by rw [h,h1,ho]
@[congr] theorem Yf {b:Bool}{xs xs':List PV}{K:PV→Prop}(h:xs=xs'):iA b xs K=iA b xs' K:=by rw [h]
@[congr] theorem ZU {pt pt':Bool}{f f':PV}{args args':List PV}(hp:pt=pt') (h:f=f') (h1:args=args') (ho:objs=objs'):nQ T pt f args objs K=nQ T pt' f' args' objs' K:=by rw [hp,h,h1,ho]
@[congr] theorem ZV {pl:Nat→Option (Nat×Nat)}{cs cs':List PV}{ps:List (Nat×PV)}{K:List PV→Prop}(h:cs=cs'):nO pl cs ps K=nO pl cs' ps K:=by rw [h]
@[congr] theorem YW {x x':Option PV}{d d':Int}{K:Int→Prop}(h:x=x') (h1:d=d'):dn x d K=dn x' d' K:=by rw [h,h1]
@[congr] theorem abp {C:LC}{Q:Exit→St→Prop}{S S':St}(h:S=S'):kE P D T C Q S=kE P D T C Q S':=by rw [h]
theorem aA {ks:List Bool}{fz:Option (Nat×Nat)}{c:LC}{Q:Exit→St→Prop}{S:St}(I:Nat→St→Prop) (m:Nat) (h0:I m (S.norm ks fz))
  (hr:∀ m S,I m S→kE P D T c (thenS (fun S'=>∃ m',m'<m∧I m' (S'.norm ks fz)) Q) S) (hz:Ih T.nx fz:=by exact trivial):kE P D T (.loop ks fz c) Q S:=⟨hz,I,⟨_,m,Weak.norm ks fz hz S,h0⟩,hr⟩
theorem wP {ks:List Bool}{fz:Option (Nat×Nat)}{c:LC}{Q:Exit→St→Prop}{S:St}(S0:St) (I:Nat→St→Prop) (m:Nat) (hw:Weak T.nx (S.norm ks fz) S0) (h0:I m S0)
  (hr:∀ m S,I m S→kE P D T c (thenS (fun S'=>∃ m',m'<m∧I m' (S'.norm ks fz)) Q) S) (hz:Ih T.nx fz:=by exact trivial):kE P D T (.loop ks fz c) Q S:=⟨hz,I,⟨S0,m,(Weak.norm ks fz hz S).trans hw,h0⟩,hr⟩
theorem aR {c:LC}{Q:Exit→St→Prop}{S:St}(S':St) (hw:Weak T.nx S S') (h:kE P D T c Q S'):kE P D T (.weak c) Q S:=⟨S',hw,h⟩
theorem F4 {f:Operand}{ps:List Nat}{fz:Option (Nat×Nat)}{x y:LC}{Q:Exit→St→Prop}{S:St}(g:FuncId) (cap:List PV) (ys:List (List PV)) (I:Nat→List Obj→Prop) (ht:T.top=true)
  (hf:S.ev f=.fn g [] cap) (hc:cap.all PV.pure=true) (hz:Ih S.objs.length fz) (hg:T.gives g cap ys) (hy:∀ y ∈ ys,y.length=ps.length) (h0:I 0 S.objs) (hl:∀ i objs,I i objs→S.objs.length≤objs.length∧jw objs)
  (hr:∀ i args objs,I i objs→ys[i]?=some args→kE P D (T.inner S.objs.length) x (thenS (fun S1=>kE P D (T.inner S.objs.length) y (Qp fz (I (i+1))) S1) (fun _ _=>False)) ⟨qo ps args S.tmps,objs⟩)
  (he:∀ objs,I ys.length objs→Q .normal ⟨S.tmps,objs⟩):kE P D T (.rf f ps fz x y) Q S:=⟨ht,g,cap,ys,hf,hc,hg,hy,.inl ⟨I,hz,h0,hl,hr,he⟩⟩
theorem YX {f:Operand}{ps:List Nat}{fz:Option (Nat×Nat)}{x y:LC}{Q:Exit→St→Prop}{S:St}(g:FuncId) (cap:List PV) (ys:List (List PV)) (I J:Nat→List Obj→Prop) (lv:Exit){lc:Code}(hlv:FR lv=some lc) (ht:T.top=true)
  (hf:S.ev f=.fn g [] cap) (hc:cap.all PV.pure=true) (hz:Ih (S.objs.length+2) fz) (hg:T.gives g cap ys) (hy:∀ y ∈ ys,y.length=ps.length) (h0:I 0 (S.objs++[BR,hole])) (hl:∀ i objs,I i objs→Gh S.objs.length objs)
  (hj:∀ i objs,J i objs→Gh S.objs.length objs∧eU objs)
  (hr:∀ i args objs,I i objs→ys[i]?=some args→kE P D (T.inner (S.objs.length+2)) x (thenS (fun S1=>kE P D (T.inner (S.objs.length+2)) y (KG fz (I (i+1)) lv (J i)) S1) (fun _ _=>False)) ⟨qo ps args S.tmps,objs⟩)
  (he:∀ objs,I ys.length objs→Q .normal ⟨S.tmps,objs⟩) (hv:∀ i objs,i<ys.length→J i objs→Q lv ⟨S.tmps,iC S.objs.length objs⟩):kE P D T (.rf f ps fz x y) Q S:=
 ⟨ht,g,cap,ys,hf,hc,hg,hy,.inr ⟨I,J,lv,lc,hlv,hz,h0,hl,hj,hr,he,hv⟩⟩
theorem Ee (d n:Nat) (objs:List Obj) :
  (∀ k m,gL d n objs (.int k m)=.int k m)∧(∀ b,gL d n objs (.bool b)=.bool b)∧(∀ s,gL d n objs (.str s)=.str s)∧(∀ sz xs q,gL d n objs (.sl sz xs q)=.sl sz xs q)∧(∀ x,gL d n objs (.addr x)=.addr x)∧
  (gL d n objs .dead=.dead)∧
  (∀ cs,gL d n objs (.agg cs)=.agg (cs.map (eP d n objs)))∧(∀ cs,gL d n objs (.bU cs)=.bU (cs.map (eP d n objs)))∧
  (∀ k m,eP d n objs (.int k m)=.int k m)∧(∀ b,eP d n objs (.bool b)=.bool b)∧(∀ s,eP d n objs (.str s)=.str s)∧(∀ sz xs q,eP d n objs (.sl sz xs q)=.sl sz xs q)∧(∀ x,eP d n objs (.addr x)=.addr x)∧(eP d n objs .dead=.dead):=
 ⟨fun _ _=>rfl,fun _=>rfl,fun _=>rfl,fun _ _ _=>rfl,fun _=>rfl,rfl,fun _=>rfl,fun _=>rfl,fun _ _=>rfl,fun _=>rfl,fun _=>rfl,fun _ _ _=>rfl,fun _=>rfl,rfl⟩
theorem mE (d:Nat) (rs:List ResultVar) (r:PV) (S:St) :
  (UB D d rs r .ret S=iW D S rs fun ps=>r=eT (ps.map (gL d 0 S.objs)))∧(UB D d rs r .normal S=iW D S rs fun ps=>r=eT (ps.map (gL d 0 S.objs))):=by
 constructor <;> simp [UB]
theorem JK (d t:Nat) (o:Obj) (S:St) :
  (Qu d t o .ret S=∃ S' k ver o0,Weak 0 S S'∧S'.tmps.getD t .dead=.aY k ver∧S'.objs[k]?=some o0∧o0.live=true∧o0.ver=ver∧{ fu d (k+1) S'.objs o0 with ver:=0 }=o∧eU [o])∧
  (Qu d t o .normal S=∃ S' k ver o0,Weak 0 S S'∧S'.tmps.getD t .dead=.aY k ver∧S'.objs[k]?=some o0∧o0.live=true∧o0.ver=ver∧{ fu d (k+1) S'.objs o0 with ver:=0 }=o∧eU [o]):=by
 constructor <;> simp [Qu]
theorem qV:(∀ (x p:PV) l n,(x::l).set (n+1) p=x::l.set n p)∧(∀ (x p:PV) l,(x::l).set 0 p=p::l)∧(∀ (x:PV) l n d,(x::l).getD (n+1) d=l.getD n d)∧(∀ (x:PV) l d,(x::l).getD 0 d=x)∧
  (∀ (x:PV) l m,(x::l)++m=x::(l++m))∧(∀ m:List PV,[]++m=m)∧(∀ n (x:PV),List.replicate (n+1) x=x::List.replicate n x)∧(∀ (x:PV),List.replicate 0 x=[])∧(∀ (x:PV) l,(x::l).length=l.length+1)∧(([]:List PV).length=0)∧
  (∀ (f:Operand→PV) x l,(x::l).map f=f x::l.map f)∧(∀ (f:Operand→PV),[].map f=[])∧
  (∀ (f:Nat×Operand→Nat×PV) x l,(x::l).map f=f x::l.map f)∧(∀ (f:Nat×Operand→Nat×PV),[].map f=[])∧
  (∀ (f:PV→PV) x l,(x::l).map f=f x::l.map f)∧(∀ (f:PV→PV),[].map f=[])∧
  (∀ (f:Operand→PV) x,(some x).map f=some (f x))∧(∀ (f:Operand→PV),none.map f=none)∧
  (∀ (x:Nat) l m,(x::l)++m=x::(l++m))∧(∀ m:List Nat,[]++m=m)∧
  (∀ n l,mkT n l=l.foldl (fun tm x=>tm.set x.1 x.2) (List.replicate n .dead))∧
  (∀ (f:List PV→Nat×PV→List PV) x l i,(x::l).foldl f i=l.foldl f (f i x))∧(∀ (f:List PV→Nat×PV→List PV) i,[].foldl f i=i):=
 ⟨fun _ _ _ _=>rfl,fun _ _ _=>rfl,fun _ _ _ _=>rfl,fun _ _ _=>rfl,fun _ _ _=>rfl,fun _=>rfl,fun _ _=>rfl,fun _=>rfl,fun _ _=>rfl,rfl,fun _ _ _=>rfl,fun _=>rfl,
  fun _ _ _=>rfl,fun _=>rfl,fun _ _ _=>rfl,fun _=>rfl,fun _ _=>rfl,fun _=>rfl,fun _ _ _=>rfl,fun _=>rfl,fun _ _=>rfl,fun _ _ _ _=>rfl,fun _ _=>rfl⟩
theorem Tc:(∀ ks x (l:List PV),xK (true::ks) (x::l)=x::xK ks l)∧(∀ ks x (l:List PV),xK (false::ks) (x::l)=.dead::xK ks l)∧(∀ ks,xK ks []=[])∧(∀ ks (S:St),S.norm ks none=S.forget ks)∧(∀ ks tm ob,St.forget ks ⟨tm,ob⟩=⟨xK ks tm,ob⟩):=
 ⟨fun _ _ _=>rfl,fun _ _ _=>rfl,fun ks=>by cases ks <;> rfl,fun _ _=>rfl,fun _ _ _=>rfl⟩
theorem Hy (ti:aG) (t:TypeId) (K:PV→Prop) :
  (∀ b k x y,pG P ti t b (.int k x) (.int k y) K=qL b k k x y K)∧
  (∀ b x y,pG P ti t b (.str x) (.str y) K=iT b x y K)∧
  (∀ x y,pG P ti t .eql (.bool x) (.bool y) K=(ti.kind=.bool∧K (.bool (x==y))))∧
  (∀ x y,pG P ti t .neq (.bool x) (.bool y) K=(ti.kind=.bool∧K (.bool (!(x==y)))))∧
  (∀ x y,pG P ti t .eql (.agg x) (.agg y) K=(H7 P t x y∧∃ r,BQ x y=some r∧K (.bool r)))∧
  (∀ x y,pG P ti t .neq (.agg x) (.agg y) K=(H7 P t x y∧∃ r,BQ x y=some r∧K (.bool (!r))))∧
  (∀ s x q s' x',pG P ti t .eql (.sl s x (some q)) (.sl s' x' (some true)) K=((∃ e,ti.kind=.slice e)∧K (.bool q)))∧
  (∀ s x q s' x',pG P ti t .neq (.sl s x (some q)) (.sl s' x' (some true)) K=((∃ e,ti.kind=.slice e)∧K (.bool (!q)))):=
 ⟨fun _ _ _ _=>rfl,fun _ _ _=>rfl,fun _ _=>rfl,fun _ _=>rfl,fun _ _=>rfl,fun _ _=>rfl,fun _ _ _ _ _=>rfl,fun _ _ _ _ _=>rfl⟩
theorem Hz (k:IntKind) (a b:Int) (K:PV→Prop) :
  (qL .add k k a b K=(D_ k (a+b)∧K (.int k (a+b))))∧(qL .sub k k a b K=(D_ k (a-b)∧K (.int k (a-b))))∧(qL .mul k k a b K=(D_ k (a*b)∧K (.int k (a*b))))∧
  (qL .quo k k a b K=(b≠0∧D_ k (a.tdiv b)∧K (.int k (a.tdiv b))))∧(qL .rem k k a b K=(b≠0∧K (.int k (a.tmod b))))∧
  (qL .eql k k a b K=K (.bool (decide (a=b))))∧(qL .neq k k a b K=K (.bool (!decide (a=b))))∧(qL .lss k k a b K=K (.bool (decide (a<b))))∧(qL .leq k k a b K=K (.bool (decide (a≤b))))∧
  (qL .gtr k k a b K=K (.bool (decide (b<a))))∧(qL .geq k k a b K=K (.bool (decide (b≤a)))):=by
 refine ⟨?_,?_,?_,?_,?_,?_,?_,?_,?_,?_,?_⟩ <;> simp [qL]
theorem yL (a:Int):(D_ .i64 a=(-9223372036854775808≤a∧a≤9223372036854775807))∧(D_ .u8 a=(0≤a∧a≤255)):=⟨rfl,rfl⟩
theorem eH (ev:Operand→PV):(∀ t x,eZ D .len [t] [x] ev objs K=pI D t (ev x) objs K)∧(∀ t u s x,eZ D .append [t,u] [s,x] ev objs K=dZ D t u (ev s) (ev x) objs K)∧
  (∀ ts xs,eZ D .max ts xs ev objs K=iA true (xs.map ev) fun r=>K r objs 0)∧(∀ ts xs,eZ D .min ts xs ev objs K=iA false (xs.map ev) fun r=>K r objs 0):=
 ⟨fun _ _=>rfl,fun _ _ _ _=>rfl,fun _ _=>rfl,fun _ _=>rfl⟩
theorem yc {α:Type}(l:List α) (f:α→PV) (n:Nat) (q:PV→Prop):(∃ y,(l.map f)[n]?=some y∧q y)=∃ x,l[n]?=some x∧q (f x):=by
 apply propext
 constructor
 · rintro ⟨y,h,hq⟩
   rw [List.getElem?_map] at h
   cases hx:l[n]? with
   | none=>rw [hx] at h;simp at h
   | some x=>rw [hx] at h;simp only [Option.map_some,Option.some.injEq] at h;exact ⟨x,rfl,h ▸ hq⟩
 · rintro ⟨x,h,hq⟩
   exact ⟨f x,by rw [List.getElem?_map,h];rfl,hq⟩
theorem KO {α:Type}(a:α) (l:List α) (q:α→Prop):((∃ x,(a::l)[0]?=some x∧q x)=q a)∧(∀ n,(∃ x,(a::l)[n+1]?=some x∧q x)=∃ x,l[n]?=some x∧q x):=by
 refine ⟨propext ⟨?_,fun h=>⟨a,rfl,h⟩⟩,fun n=>rfl⟩
 rintro ⟨x,h,hq⟩
 simp only [List.getElem?_cons_zero,Option.some.injEq] at h
 exact h ▸ hq
theorem Ik:(∀ s b z,aG.agg ⟨.str,s,b,z⟩=false)∧(∀ k s b z,aG.agg ⟨.int k,s,b,z⟩=false)∧(∀ s b z,aG.agg ⟨.bool,s,b,z⟩=false)∧(∀ e s b z,aG.agg ⟨.slice e,s,b,z⟩=false)∧(∀ s b z,aG.agg ⟨.other,s,b,z⟩=false)∧
  (∀ fs s b z,aG.agg ⟨.struct fs,s,b,z⟩=true)∧(∀ n e s b z,aG.agg ⟨.array n e,s,b,z⟩=true):=⟨fun _ _ _=>rfl,fun _ _ _ _=>rfl,fun _ _ _=>rfl,fun _ _ _ _=>rfl,fun _ _ _=>rfl,fun _ _ _ _=>rfl,fun _ _ _ _ _=>rfl⟩
theorem tH (cs:List PV) (o n:Nat):(sub cs o n false=cs.getD o .dead)∧(sub cs o n true=.agg ((cs.drop o).take n)):=⟨rfl,rfl⟩
theorem EP:(∀ k n,PV.isAgg (.int k n)=false)∧(∀ b,PV.isAgg (.bool b)=false)∧(∀ s,PV.isAgg (.str s)=false)∧(∀ s x q,PV.isAgg (.sl s x q)=false)∧(∀ cs,PV.isAgg (.agg cs)=true)∧(∀ k v,PV.isAgg (.aY k v)=false)∧(∀ k v i f,PV.isAgg (.bM k v i f)=false)∧(∀ x,PV.isAgg (.addr x)=false)∧(PV.isAgg .zT=false)∧
  (∀ k n,PV.cells (.int k n)=[.int k n])∧(∀ b,PV.cells (.bool b)=[.bool b])∧(∀ s,PV.cells (.str s)=[.str s])∧(∀ s x q,PV.cells (.sl s x q)=[.sl s x q])∧(∀ cs,PV.cells (.agg cs)=cs)∧(∀ k v,PV.cells (.aY k v)=[.aY k v])∧(∀ k v i f,PV.cells (.bM k v i f)=[.bM k v i f])∧(∀ x,PV.cells (.addr x)=[.addr x]):=
 ⟨fun _ _=>rfl,fun _=>rfl,fun _=>rfl,fun _ _ _=>rfl,fun _=>rfl,fun _ _=>rfl,fun _ _ _ _=>rfl,fun _=>rfl,rfl,fun _ _=>rfl,fun _=>rfl,fun _=>rfl,fun _ _ _=>rfl,fun _=>rfl,fun _ _=>rfl,fun _ _ _ _=>rfl,fun _=>rfl⟩
theorem HV:(∀ (f:PV→Bool) x l,(x::l).all f=(f x && l.all f))∧(∀ f:PV→Bool,[].all f=true)∧(∀ (x:PV) l n,(x::l).take (n+1)=x::l.take n)∧(∀ l:List PV,l.take 0=[])∧(∀ (x:PV) l n,(x::l).drop (n+1)=l.drop n)∧(∀ l:List PV,l.drop 0=l)∧(∀ n,([]:List PV).take n=[])∧(∀ n,([]:List PV).drop n=[]):=
 ⟨fun _ _ _=>rfl,fun _=>rfl,fun _ _ _=>rfl,fun _=>by simp,fun _ _ _=>rfl,fun _=>rfl,fun _=>by simp,fun _=>by simp⟩
theorem fzR (d n:Nat) (objs:List Obj):(∀ k v,gL d n objs (.aY k v)=eP d n objs (.aY k v))∧(∀ k v i f,gL d n objs (.bM k v i f)=eP d n objs (.bM k v i f))∧(∀ l,gL d n objs (.D9 l)=.D9 l)∧
  (∀ f a c,gL d n objs (.fn f a c)=.fn f (a.map (eP d n objs)) (c.map (eP d n objs))):=⟨fun _ _=>rfl,fun _ _ _ _=>rfl,fun _=>rfl,fun _ _ _=>rfl⟩
theorem puR:(∀ k n,PV.pure (.int k n)=true)∧(∀ b,PV.pure (.bool b)=true)∧(∀ s,PV.pure (.str s)=true)∧(∀ s x q,PV.pure (.sl s x q)=true)∧(∀ x,PV.pure (.addr x)=true)∧(PV.pure .dead=true)∧(∀ l,PV.pure (.D9 l)=true):=
 ⟨fun _ _=>rfl,fun _=>rfl,fun _=>rfl,fun _ _ _=>rfl,fun _=>rfl,rfl,fun _=>rfl⟩
theorem yg {d n:Nat}{objs:List Obj}{k v i f:Nat}(h:n≤k):(eP d n objs (.bM k v i f)).pure=true:=by
 simp only [eP,if_neg (Nat.not_lt.2 h)]
 cases d <;> simp only [fG]
 · rfl
 · split
   · split
     · split <;> rfl
     · rfl
   · rfl
theorem F5 {α β:Type}(a:α) (l:List α) (q:α→β→Prop):((∃ x y,(a::l)[0]?=some x∧q x y)=∃ y,q a y)∧(∀ n,(∃ x y,(a::l)[n+1]?=some x∧q x y)=∃ x y,l[n]?=some x∧q x y):=by
 refine ⟨propext ⟨?_,fun ⟨y,h⟩=>⟨a,y,rfl,h⟩⟩,fun n=>rfl⟩
 rintro ⟨x,y,h,hq⟩
 simp only [List.getElem?_cons_zero,Option.some.injEq] at h
 exact ⟨y,h ▸ hq⟩
theorem WQ:(∀ (x p:Obj) l n,(x::l).set (n+1) p=x::l.set n p)∧(∀ (x p:Obj) l,(x::l).set 0 p=p::l)∧(∀ (x:Obj) l m,(x::l)++m=x::(l++m))∧(∀ m:List Obj,[]++m=m)∧(∀ (x:Obj) l,(x::l).length=l.length+1)∧(([]:List Obj).length=0):=
 ⟨fun _ _ _ _=>rfl,fun _ _ _=>rfl,fun _ _ _=>rfl,fun _=>rfl,fun _ _=>rfl,rfl⟩
end Lp
namespace Lp
open Go
def acR (ops:List Oper) (j:Nat):Option Nat:=(ops[j]?).bind (·.dst)
def aaW (l:List Nat) (x:Nat):Bool:=l.any (Nat.beq x)
def acS (own:List Nat):Option Nat→Bool
 | some d=>aaW own d
 | none=>false
def stepG (own:List Nat) (ops:List Oper) (o:Oper):Step:=⟨o.dst,o.op,match o.guard with
 | none=>none
 | some (j,b)=>some (acR ops j,b),acS own o.dst⟩
abbrev LpH:=Nat×Option (Nat×Nat)
def acT (nt m:Nat):List Bool:=(List.range nt).map (Nat.testBit m)
def vK (nt:Nat) (own wk:List Nat):Code→List LpH→LC×List LpH
 | .skip,k=>(.skip,k)
 | .ret,k=>(.ret,k)
 | .exit id,k=>(.exit id,k)
 | .region id ops false,k=>(bif aaW wk id then .weak (.reg (ops.toList.map (stepG own ops.toList))) else .reg (ops.toList.map (stepG own ops.toList)),k)
 | .region id ops true,k=>(bif aaW wk id then .weak (.draw (ops.toList.map (stepG own ops.toList)) (qC ops.toList (masks ops.toList []))) else .draw (ops.toList.map (stepG own ops.toList)) (qC ops.toList (masks ops.toList [])),k)
 | .seq a b,k=>
  match vK nt own wk a k with
  | (x,k')=>match vK nt own wk b k' with
   | (y,k'')=>(.seq x y,k'')
 | .cond c a b,k=>
  match vK nt own wk a k with
  | (x,k')=>match vK nt own wk b k' with
   | (y,k'')=>(.cond c x y,k'')
 | .block id b,k=>
  match vK nt own wk b k with
  | (x,k')=>(.block id x,k')
 | .loop b,k=>
  match vK nt own wk b k.tail with
  | (x,k')=>(.loop (acT nt (k.headD (0,none)).1) (k.headD (0,none)).2 x,k')
 | .rangeFunc f ps a b,k=>
  match vK nt own wk a k.tail with
  | (x,k')=>match vK nt own wk b k' with
   | (y,k'')=>(.rf f ps.toList (k.headD (0,none)).2 x y,k'')
 | _,k=>(.bad,k)
def gen (own:List Nat) (lps:List LpH) (wk:List Nat) (f:Func):LC:=
 match f.body with
 | some c=>(vK f.ntmps own wk c lps).1
 | none=>.bad
def iO:Code→Bool
 | .region _ ops true=>fH ops.toList (masks ops.toList [])
 | .seq a b=>iO a && iO b
 | .cond _ a b=>iO a && iO b
 | .block _ c=>iO c
 | .loop c=>iO c
 | .rangeFunc _ _ a b=>iO a && iO b
 | _=>true
theorem Dy (own:List Nat) (ops l:List Oper):(l.map (stepG own ops)).map yH=l.map (stepOf ops):=by
 rw [List.map_map]
 exact List.map_congr_left fun o _=>rfl
theorem Aj (b:Bool) (c:LC):strip (bif b then .weak c else c)=strip c:=by cases b <;> rfl
theorem jf (nt:Nat) (own wk:List Nat):∀ (c:Code),iO c=true→∀ (k:List LpH),strip (vK nt own wk c k).1=comp c
 | .skip,_,_=>rfl
 | .ret,_,_=>rfl
 | .exit _,_,_=>rfl
 | .region id ops false,_,_=>by
  simp only [vK,Aj,strip,Dy,comp]
 | .region id ops true,h,_=>by
  simp only [iO] at h
  simp only [vK,Aj,strip,Dy,comp,h,cond_true]
 | .seq a b,h,k=>by
  simp only [iO,Bool.and_eq_true] at h
  simp only [vK,strip,comp,jf nt own wk a h.1,jf nt own wk b h.2]
 | .cond c a b,h,k=>by
  simp only [iO,Bool.and_eq_true] at h
  simp only [vK,strip,comp,jf nt own wk a h.1,jf nt own wk b h.2]
 | .block id c,h,k=>by
  simp only [iO] at h
  simp only [vK,strip,comp,jf nt own wk c h]
 | .loop c,h,k=>by
  simp only [iO] at h
  simp only [vK,strip,comp,jf nt own wk c h]
 | .rangeFunc f ps a b,h,k=>by
  simp only [iO,Bool.and_eq_true] at h
  simp only [vK,strip,comp,jf nt own wk a h.1,jf nt own wk b h.2]
 | .scope _,_,_=>rfl
 | .label _,_,_=>rfl
 | .goto _,_,_=>rfl
 | .refuse _,_,_=>rfl
def okF (f:Func) (n:Nat):Bool:=!(f.name== "runtime.NumGoroutine") && Nat.beq f.ntmps n && match f.body with | some c=>iO c | none=>false
theorem a_ {P:Program}{f:FuncId}{fn:Func}{n:Nat}{rs:List ResultVar}{own wk:List Nat}{lps:List LpH}(h:P.funcs[f]?=some fn) (hr:fn.results=rs.toArray) (hk:okF fn n=true):aO P f n rs (gen own lps wk fn):=by
 unfold okF at hk
 rw [Bool.and_eq_true,Bool.and_eq_true] at hk
 obtain ⟨⟨h1,h2⟩,h3⟩:=hk
 cases hb:fn.body with
 | none=>rw [hb] at h3;cases h3
 | some c=>
  rw [hb] at h3
  refine ⟨fn,c,h,by simpa using h1,hb,Nat.eq_of_beq_eq_true h2,hr,?_⟩
  unfold gen
  rw [hb]
  exact jf _ _ _ _ h3 _
def WR (P:Program) (t:TypeId):aG:=
 match P.info? t,P.underlying t with
 | some i,some d=>match i.zero with
  | some z=>bif Nat.beq t MT then aG.off else ⟨kindOf d,i.size,i.bytes,z⟩
  | none=>aG.off
 | _,_=>aG.off
theorem WS {P:Program}(t:TypeId):iL P t (WR P t):=by
 unfold WR
 split
 · rename_i i d hi hu
   split
   · rename_i z hz
     cases hm:Nat.beq t MT with
     | true=>exact KN
     | false=>exact aaS (by rw [hi,Option.map_some,hz]) (by rw [hu];rfl) hm
   · exact KN
 · exact KN
end Lp
namespace Lp
open Go Go.Proofs
noncomputable def D:TypeId→aG:=WR Tryz.prog
theorem hD (t:TypeId):iL Tryz.prog t (D t):=WS t
theorem aV:Tryz.prog.follows .mixedOrders=true:=by kernel_rfl
theorem bR:D 3=⟨(.int .i64),1,8,.int .i64 0⟩∧D 4=⟨.bool,1,1,.bool false⟩∧D 5=⟨(.int .u8),1,1,.int .u8 0⟩∧D 9=⟨.str,1,16,.string ⟨⟨[]⟩⟩⟩∧D 21=⟨(.int .i32),1,4,.int .i32 0⟩∧D 23=⟨(.slice 44),1,24,.slice none 0 0⟩∧D 27=⟨(.slice 42),1,24,.slice none 0 0⟩∧D 28=⟨(.slice 42),1,24,.slice none 0 0⟩∧D 31=⟨(.slice 28),1,24,.slice none 0 0⟩∧D 38=⟨(.slice 23),1,24,.slice none 0 0⟩∧D 42=⟨(.struct [(0,3),(1,3),(2,9),(3,9),(4,4),(5,3)]),6,64,.agg ⟨[.int .i64 0,.int .i64 0,.string ⟨⟨[]⟩⟩,.string ⟨⟨[]⟩⟩,.bool false,.int .i64 0]⟩⟩∧D 44=⟨(.struct [(0,3),(1,3),(2,9),(3,9),(4,3),(5,42)]),11,120,.agg ⟨[.int .i64 0,.int .i64 0,.string ⟨⟨[]⟩⟩,.string ⟨⟨[]⟩⟩,.int .i64 0,.int .i64 0,.int .i64 0,.string ⟨⟨[]⟩⟩,.string ⟨⟨[]⟩⟩,.bool false,.int .i64 0]⟩⟩∧D 46=⟨(.int .i64),1,8,.int .i64 0⟩∧D 49=⟨(.slice 9),1,24,.slice none 0 0⟩∧D 54=⟨(.slice 87),1,24,.slice none 0 0⟩∧D 65=⟨(.slice 4),1,24,.slice none 0 0⟩∧D 77=⟨(.map 9 28),1,8,.map none⟩∧D 87=⟨(.struct [(0,3),(1,42)]),7,72,.agg ⟨[.int .i64 0,.int .i64 0,.int .i64 0,.string ⟨⟨[]⟩⟩,.string ⟨⟨[]⟩⟩,.bool false,.int .i64 0]⟩⟩∧D 95=⟨(.slice 122),1,24,.slice none 0 0⟩∧D 122=⟨(.struct [(0,4),(1,9),(2,3)]),3,32,.agg ⟨[.bool false,.string ⟨⟨[]⟩⟩,.int .i64 0]⟩⟩∧D 142=⟨(.slice 5),1,24,.slice none 0 0⟩∧D 153=⟨(.struct [(0,3),(1,3),(2,4),(3,9)]),4,40,.agg ⟨[.int .i64 0,.int .i64 0,.bool false,.string ⟨⟨[]⟩⟩]⟩⟩∧D 154=⟨(.slice 153),1,24,.slice none 0 0⟩:=by (repeat' constructor) <;> kernel_rfl
end Lp
namespace Lp
open Go Go.Proofs
theorem NC:aO Tryz.prog 107 60 [.tmp 4] (gen [] [] [] Tryz.f107):=a_ Tryz.func107 rfl (by kernel_rfl)
theorem Cy:aO Tryz.prog 67 82 [.tmp 4] (gen [] [] [] Tryz.f67):=a_ Tryz.func67 rfl (by kernel_rfl)
theorem Ak:aO Tryz.prog 10 26 [.tmp 4] (gen [] [(35,none)] [] Tryz.f10):=a_ Tryz.func10 rfl (by kernel_rfl)
theorem Cz:aO Tryz.prog 46 17 [.tmp 2] (gen [] [(9,none)] [] Tryz.f46):=a_ Tryz.func46 rfl (by kernel_rfl)
theorem yM:aO Tryz.prog 16 39 [.tmp 2] (gen [] [(9,none)] [] Tryz.f16):=a_ Tryz.func16 rfl (by kernel_rfl)
theorem yN:aO Tryz.prog 131 20 [.tmp 4] (gen [] [] [] Tryz.f131):=a_ Tryz.func131 rfl (by kernel_rfl)
theorem UI:aO Tryz.prog 132 30 [.tmp 4] (gen [] [] [1] Tryz.f132):=a_ Tryz.func132 rfl (by kernel_rfl)
theorem uW:aO Tryz.prog 133 20 [.tmp 4] (gen [] [] [] Tryz.f133):=a_ Tryz.func133 rfl (by kernel_rfl)
theorem lG:aO Tryz.prog 134 36 [.tmp 4] (gen [] [(3587,none)] [] Tryz.f134):=a_ Tryz.func134 rfl (by kernel_rfl)
theorem ND:aO Tryz.prog 135 19 [.tmp 2] (gen [] [(0,none)] [] Tryz.f135):=a_ Tryz.func135 rfl (by kernel_rfl)
theorem fE:aO Tryz.prog 136 39 [.tmp 6] (gen [] [(14343,none)] [] Tryz.f136):=a_ Tryz.func136 rfl (by kernel_rfl)
theorem NE:aO Tryz.prog 137 15 [.tmp 2] (gen [] [(0,none)] [] Tryz.f137):=a_ Tryz.func137 rfl (by kernel_rfl)
theorem Al:aO Tryz.prog 91 7 [.tmp 4] (gen [] [] [] Tryz.f91):=a_ Tryz.func91 rfl (by kernel_rfl)
theorem CB:aO Tryz.prog 92 56 [.tmp 4] (gen [] [(172,none)] [1] Tryz.f92):=a_ Tryz.func92 rfl (by kernel_rfl)
theorem Am:aO Tryz.prog 93 42 [.tmp 4] (gen [] [(35,none)] [] Tryz.f93):=a_ Tryz.func93 rfl (by kernel_rfl)
theorem yO:aO Tryz.prog 38 28 [.tmp 2] (gen [7] [(57,none)] [] Tryz.f38):=a_ Tryz.func38 rfl (by kernel_rfl)
theorem yP:aO Tryz.prog 94 48 [.tmp 4] (gen [] [(35,none)] [] Tryz.f94):=a_ Tryz.func94 rfl (by kernel_rfl)
theorem yQ:aO Tryz.prog 90 34 [.tmp 2] (gen [6] [(57,none)] [] Tryz.f90):=a_ Tryz.func90 rfl (by kernel_rfl)
noncomputable def qD:LC:=(gen [] [] [] Tryz.f69)
theorem Ao:aO Tryz.prog 69 109 [.tmp 4] qD:=a_ Tryz.func69 rfl (by kernel_rfl)
theorem Ap:aO Tryz.prog 34 41 [.tmp 4] (gen [] [(35,none)] [] Tryz.f34):=a_ Tryz.func34 rfl (by kernel_rfl)
theorem yR:aO Tryz.prog 35 48 [.tmp 2] (gen [] [] [] Tryz.f35):=a_ Tryz.func35 rfl (by kernel_rfl)
theorem xL:aO Tryz.prog 36 75 [.tmp 4] (gen [] [(99,none)] [] Tryz.f36):=a_ Tryz.func36 rfl (by kernel_rfl)
theorem CF:aO Tryz.prog 166 6 [.tmp 2] (gen [] [] [] Tryz.f166):=a_ Tryz.func166 rfl (by kernel_rfl)
theorem Qw:aO Tryz.prog 167 42 [.tmp 4] (gen [] [] [1] Tryz.f167):=a_ Tryz.func167 rfl (by kernel_rfl)
theorem xM:aO Tryz.prog 168 6 [.tmp 2] (gen [] [] [] Tryz.f168):=a_ Tryz.func168 rfl (by kernel_rfl)
theorem Qx:aO Tryz.prog 169 4 [.tmp 2] (gen [] [] [] Tryz.f169):=a_ Tryz.func169 rfl (by kernel_rfl)
theorem Ef:aO Tryz.prog 115 30 [.tmp 4] (gen [] [] [1] Tryz.f115):=a_ Tryz.func115 rfl (by kernel_rfl)
theorem CG:aO Tryz.prog 65 23 [.tmp 6] (gen [9] [] [] Tryz.f65):=a_ Tryz.func65 rfl (by kernel_rfl)
theorem Aq:aO Tryz.prog 97 21 [.tmp 4] (gen [] [] [] Tryz.f97):=a_ Tryz.func97 rfl (by kernel_rfl)
theorem yS:aO Tryz.prog 61 72 [.tmp 2] (gen [] [] [1] Tryz.f61):=a_ Tryz.func61 rfl (by kernel_rfl)
theorem KP:aO Tryz.prog 188 34 [] (gen [] [(1547,none)] [6] Tryz.f188):=a_ Tryz.func188 rfl (by kernel_rfl)
theorem KQ:aO Tryz.prog 189 19 [.tmp 4] (gen [] [(35,none)] [] Tryz.f189):=a_ Tryz.func189 rfl (by kernel_rfl)
theorem iD:aO Tryz.prog 190 8 [.tmp 2] (gen [5] [] [] Tryz.f190):=a_ Tryz.func190 rfl (by kernel_rfl)
theorem vL:aO Tryz.prog 88 20 [.tmp 2] (gen [] [(9,none)] [] Tryz.f88):=a_ Tryz.func88 rfl (by kernel_rfl)
end Lp
namespace Lp
open Go Go.Proofs
end Lp
namespace Lp
open Go Go.Proofs
noncomputable def oo:LC:=(gen [16,17] [(451,none),(1987,none)] [18] Tryz.f23)
theorem ou:aO Tryz.prog 23 97 [.tmp 4,.tmp 5] oo:=a_ Tryz.func23 rfl (by kernel_rfl)
theorem Ar:aO Tryz.prog 22 22 [.tmp 2] (gen [8] [(25,none)] [] Tryz.f22):=a_ Tryz.func22 rfl (by kernel_rfl)
theorem yT:aO Tryz.prog 47 41 [.tmp 4] (gen [12] [(99,some (1,1))] [] Tryz.f47):=a_ Tryz.func47 rfl (by kernel_rfl)
end Lp
namespace Lp
open Go Go.Proofs
theorem Il:aO Tryz.prog 128 48 [.tmp 2] (gen [] [] [2] Tryz.f128):=a_ Tryz.func128 rfl (by kernel_rfl)
theorem NF:aO Tryz.prog 164 54 [.tmp 2] (gen [] [] [1] Tryz.f164):=a_ Tryz.func164 rfl (by kernel_rfl)
theorem Im:aO Tryz.prog 121 17 [.tmp 4] (gen [] [] [] Tryz.f121):=a_ Tryz.func121 rfl (by kernel_rfl)
theorem Eg:aO Tryz.prog 118 6 [.tmp 2] (gen [] [] [] Tryz.f118):=a_ Tryz.func118 rfl (by kernel_rfl)
theorem NG:aO Tryz.prog 105 123 [.tmp 2] (gen [9] [(7177,some (1,1)),(7209,none)] [19] Tryz.f105):=a_ Tryz.func105 rfl (by kernel_rfl)
theorem Io:aO Tryz.prog 130 6 [.tmp 2] (gen [] [] [] Tryz.f130):=a_ Tryz.func130 rfl (by kernel_rfl)
theorem jg:aO Tryz.prog 129 9 [.tmp 4] (gen [] [] [] Tryz.f129):=a_ Tryz.func129 rfl (by kernel_rfl)
theorem jI:aO Tryz.prog 165 19 [.tmp 4] (gen [] [(387,none)] [] Tryz.f165):=a_ Tryz.func165 rfl (by kernel_rfl)
theorem Qy:aO Tryz.prog 29 10 [.tmp 2] (gen [6] [] [] Tryz.f29):=a_ Tryz.func29 rfl (by kernel_rfl)
theorem lH:aO Tryz.prog 53 36 [.tmp 2] (gen [] [(3593,none),(234881088,none)] [] Tryz.f53):=a_ Tryz.func53 rfl (by kernel_rfl)
theorem Qz:aO Tryz.prog 59 35 [.tmp 4] (gen [12] [(57377,none)] [] Tryz.f59):=a_ Tryz.func59 rfl (by kernel_rfl)
theorem tJ:aO Tryz.prog 31 66 [.tmp 4,.tmp 5] (gen [] [(14680131,none),(7881299347904576,none)] [19] Tryz.f31):=a_ Tryz.func31 rfl (by kernel_rfl)
theorem lq:aO Tryz.prog 57 9 [.tmp 2] (gen [] [] [] Tryz.f57):=a_ Tryz.func57 rfl (by kernel_rfl)
theorem lV:aO Tryz.prog 58 4 [.tmp 2] (gen [] [] [] Tryz.f58):=a_ Tryz.func58 rfl (by kernel_rfl)
theorem kT:aO Tryz.prog 86 16 [] (gen [] [(225,none)] [] Tryz.f86):=a_ Tryz.func86 rfl (by kernel_rfl)
theorem kL:aO Tryz.prog 84 5 [.tmp 2] (gen [] [] [] Tryz.f84):=a_ Tryz.func84 rfl (by kernel_rfl)
theorem gm:aO Tryz.prog 108 13 [.tmp 4] (gen [] [(0,none)] [] Tryz.f108):=a_ Tryz.func108 rfl (by kernel_rfl)
end Lp
namespace Lp
open Go Go.Proofs
theorem jJ:aO Tryz.prog 106 19 [.tmp 4] (gen [] [(387,none)] [] Tryz.f106):=a_ Tryz.func106 rfl (by kernel_rfl)
theorem jh:aO Tryz.prog 77 9 [.tmp 4] (gen [] [] [] Tryz.f77):=a_ Tryz.func77 rfl (by kernel_rfl)
theorem F6:aO Tryz.prog 76 11 [.tmp 2] (gen [] [] [1] Tryz.f76):=a_ Tryz.func76 rfl (by kernel_rfl)
theorem KR:aO Tryz.prog 79 36 [.tmp 4] (gen [] [] [1] Tryz.f79):=a_ Tryz.func79 rfl (by kernel_rfl)
theorem Ip:aO Tryz.prog 51 22 [.tmp 6] (gen [] [] [1] Tryz.f51):=a_ Tryz.func51 rfl (by kernel_rfl)
theorem Eh:aO Tryz.prog 78 8 [.tmp 3] (gen [] [] [1] Tryz.f78):=a_ Tryz.func78 rfl (by kernel_rfl)
theorem UJ:aO Tryz.prog 102 31 [.tmp 2] (gen [] [] [] Tryz.f102):=a_ Tryz.func102 rfl (by kernel_rfl)
theorem NH:aO Tryz.prog 103 25 [.tmp 2] (gen [] [] [] Tryz.f103):=a_ Tryz.func103 rfl (by kernel_rfl)
theorem Iq:aO Tryz.prog 75 63 [.cell 4 42,.tmp 5] (gen [] [] [] Tryz.f75):=a_ Tryz.func75 rfl (by kernel_rfl)
theorem Au:aO Tryz.prog 50 4 [.tmp 2] (gen [] [] [1] Tryz.f50):=a_ Tryz.func50 rfl (by kernel_rfl)
theorem xN:aO Tryz.prog 74 90 [] (gen [18] [(3670027,none),(120262754347,none),(2017612633061982217,none),(4231240368651202111471617,none)] [6,12,13,20,21,24] Tryz.f74):=a_ Tryz.func74 rfl (by kernel_rfl)
theorem KS:aO Tryz.prog 27 16 [.cell 4 42,.cell 5 4] (gen [] [(0,some (1,6))] [] Tryz.f27):=a_ Tryz.func27 rfl (by kernel_rfl)
theorem QA:aO Tryz.prog 101 50 [.cell 6 42,.tmp 7] (gen [] [] [] Tryz.f101):=a_ Tryz.func101 rfl (by kernel_rfl)
theorem Av:aO Tryz.prog 89 28 [.tmp 4] (gen [] [] [] Tryz.f89):=a_ Tryz.func89 rfl (by kernel_rfl)
theorem yU:aO Tryz.prog 62 11 [.tmp 2] (gen [] [] [1] Tryz.f62):=a_ Tryz.func62 rfl (by kernel_rfl)
theorem yV:aO Tryz.prog 98 16 [.tmp 2] (gen [] [] [1] Tryz.f98):=a_ Tryz.func98 rfl (by kernel_rfl)
theorem yX:aO Tryz.prog 64 14 [.tmp 4] (gen [] [] [1] Tryz.f64):=a_ Tryz.func64 rfl (by kernel_rfl)
theorem Aw:aO Tryz.prog 63 16 [.tmp 4] (gen [] [(35,none)] [] Tryz.f63):=a_ Tryz.func63 rfl (by kernel_rfl)
theorem xO:aO Tryz.prog 37 31 [.tmp 6] (gen [] [(162,none)] [1] Tryz.f37):=a_ Tryz.func37 rfl (by kernel_rfl)
end Lp
namespace Lp
open Go
def yY (b:Bool) (X Y:Prop):Prop:=(b=true→X)∧(b=false→Y)
@[congr] theorem abq {b b':Bool}{X Y:Prop}(h:b=b'):yY b X Y=yY b' X Y:=by rw [h]
theorem ZW :
  (∀ X Y,yY true X Y=X)∧(∀ X Y,yY false X Y=Y)∧
  (∀ (p:Prop) [Decidable p] X Y,yY (decide p) X Y=((p→X)∧(¬ p→Y)))∧
  (∀ b X Y,yY (!b) X Y=yY b Y X)∧
  (∀ a b X Y,yY (a && b) X Y=yY a (yY b X Y) Y)∧
  (∀ a b X Y,yY (a || b) X Y=yY a X (yY b X Y))∧
  (∀ (x y:List UInt8) X Y,yY (x==y) X Y=((x=y→X)∧(x≠y→Y)))∧
  (∀ (x y:Bool) X Y,yY (x==y) X Y=((x=y→X)∧(x≠y→Y))):=by
 refine ⟨fun X Y=>?_,fun X Y=>?_,fun p _ X Y=>?_,fun b X Y=>?_,fun a b X Y=>?_,fun a b X Y=>?_,fun x y X Y=>?_,fun x y X Y=>?_⟩
 · simp [yY]
 · simp [yY]
 · simp [yY]
 · cases b <;> simp [yY]
 · cases a <;> simp [yY]
 · cases a <;> simp [yY]
 · simp [yY]
 · simp [yY]
theorem abM :
  (∀ (n:St→Prop) (Q:Exit→St→Prop) S,thenS n Q .normal S=n S)∧
  (∀ (n:St→Prop) (Q:Exit→St→Prop) S,thenS n Q .ret S=Q .ret S)∧
  (∀ (n:St→Prop) (Q:Exit→St→Prop) S id,thenS n Q (.exit id) S=Q (.exit id) S)∧
  (∀ (Q:Exit→St→Prop) S id,qN id Q .normal S=Q .normal S)∧
  (∀ (Q:Exit→St→Prop) S id,qN id Q .ret S=Q .ret S)∧
  (∀ (Q:Exit→St→Prop) S id id',qN id Q (.exit id') S=if id'=id then Q .normal S else Q (.exit id') S)∧
  (∀ b X Y,x_ (.bool b) X Y=yY b X Y):=
 ⟨fun _ _ _=>rfl,fun _ _ _=>rfl,fun _ _ _ _=>rfl,fun _ _ _=>rfl,fun _ _ _=>rfl,fun _ _ _ _=>rfl,fun _ _ _=>rfl⟩
theorem abN :
  (∀ (S:St) (X Y:St→Prop),vE none S X Y=X S)∧
  (∀ d w (S:St) (X Y:St→Prop),vE (some (some d,w)) S X Y=kS (S.tmps.getD d .dead) d w S X Y)∧
  (∀ b d (S:St) (X Y:St→Prop),kS (.bool b) d true S X Y=yY b (X { S with tmps:=S.tmps.set d (.bool true) }) (Y { S with tmps:=S.tmps.set d (.bool false) }))∧
  (∀ b d (S:St) (X Y:St→Prop),kS (.bool b) d false S X Y=yY b (Y { S with tmps:=S.tmps.set d (.bool true) }) (X { S with tmps:=S.tmps.set d (.bool false) }))∧
  (∀ d w (S:St) (X Y:St→Prop),kS (.bU []) d w S X Y=Y S):=
 ⟨fun _ _ _=>rfl,fun _ _ _ _ _=>rfl,fun _ _ _ _ _=>rfl,fun b _ _ _ _=>by cases b <;> simp [kS,yY],fun _ _ _ _ _=>rfl⟩
structure HQ (C:LC) (Q:Exit→St→Prop):Type where
def aaX (P:Program) (D:TypeId→aG) (T:Know){C:LC}{Q:Exit→St→Prop}(_h:HQ C Q) (S:St):Prop:=kE P D T C Q S
theorem hoR (P:Program) (D:TypeId→aG) (T:Know) :
  (∀ ks fz c (Q:Exit→St→Prop) S,kE P D T (.loop ks fz c) Q S=aaX P D T (HQ.mk:HQ (.loop ks fz c) Q) S)∧
  (∀ c (Q:Exit→St→Prop) S,kE P D T (.weak c) Q S=aaX P D T (HQ.mk:HQ (.weak c) Q) S)∧
  (∀ f ps fz x y (Q:Exit→St→Prop) S,kE P D T (.rf f ps fz x y) Q S=aaX P D T (HQ.mk:HQ (.rf f ps fz x y) Q) S):=
 ⟨fun _ _ _ _ _=>rfl,fun _ _ _=>rfl,fun _ _ _ _ _ _ _=>rfl⟩
def j4:List (Nat×PV)→Nat→PV
 | [],_=>.dead
 | (j,p)::l,i=>if i=j then p else j4 l i
def dh (n:Nat) (l:List (Nat×PV)):List PV:=(List.range n).map (j4 l)
theorem mY (n:Nat) (l:List (Nat×PV)):(dh n l).length=n:=by simp [dh]
theorem tK (n:Nat) (l:List (Nat×PV)) (i:Nat):(dh n l)[i]?=if i<n then some (j4 l i) else none:=by
 simp only [dh,List.getElem?_map]
 split
 · rename_i h;rw [List.getElem?_range h];rfl
 · rename_i h;rw [List.getElem?_eq_none (by simpa using h)];rfl
theorem wQ {n:Nat}{l:List (Nat×PV)}{m:List PV}(hm:m.length=n) (h:∀ i,i<n→m[i]?=some (j4 l i)):m=dh n l:=by
 refine List.ext_getElem? fun i=>?_
 rw [tK]
 split
 · rename_i hi;exact h i hi
 · rename_i hi;exact List.getElem?_eq_none (by omega)
def NI (d n:Nat) (objs:List Obj):List (Nat×PV)→List (Nat×PV)
 | []=>[]
 | (j,p)::l=>(j,gL d n objs p)::NI d n objs l
def fgA (ks:List Bool):List (Nat×PV)→List (Nat×PV)
 | []=>[]
 | (j,p)::l=>if ks[j]?=some true then (j,p)::fgA ks l else fgA ks l
theorem Td (d n:Nat) (objs:List Obj):∀ (l:List (Nat×PV)) i,j4 (NI d n objs l) i=gL d n objs (j4 l i)
 | [],i=>by simp [j4,NI,gL,eP]
 | (j,p)::l,i=>by
  simp only [j4,NI]
  split
  · rfl
  · exact Td d n objs l i
theorem WT (ks:List Bool):∀ (l:List (Nat×PV)) i,j4 (fgA ks l) i=if ks[i]?=some true then j4 l i else .dead
 | [],i=>by simp [j4,fgA]
 | (j,p)::l,i=>by
  have ih:=WT ks l i
  simp only [fgA]
  split
  · rename_i h
    simp only [j4]
    by_cases hij:i=j
    · subst hij;simp [h]
    · simp only [hij,if_false,ih]
  · rename_i h
    rw [ih]
    by_cases hij:i=j
    · subst hij;simp [h]
    · simp [j4,hij]
theorem vM:∀ (ks:List Bool) (l:List PV) (i:Nat),(xK ks l)[i]?=l[i]?.map fun p=>if ks[i]?=some true then p else .dead
 | ks,[],i=>by cases ks <;> simp [xK]
 | [],p::ps,0=>by simp [xK]
 | [],p::ps,i+1=>by simpa [xK] using vM [] ps i
 | true::ks,p::ps,0=>by simp [xK]
 | false::ks,p::ps,0=>by simp [xK]
 | true::ks,p::ps,i+1=>by simpa [xK] using vM ks ps i
 | false::ks,p::ps,i+1=>by simpa [xK] using vM ks ps i
theorem kU :
  (∀ i p l,j4 ((i,p)::l) i=p)∧(∀ i j p l,(i==j)=false→j4 ((j,p)::l) i=j4 l i)∧(∀ i,j4 [] i=.dead):=by
 refine ⟨fun i p l=>by simp [j4],fun i j p l h=>?_,fun _=>rfl⟩
 simp only [j4]
 rw [if_neg (by simpa using h)]
theorem mZ :
  (∀ n l i p,(dh n l).set i p=dh n ((i,p)::l))∧
  (∀ n l i,i<n→(dh n l).getD i .dead=j4 l i)∧
  (∀ n l d k objs,(dh n l).map (gL d k objs)=dh n (NI d k objs l))∧
  (∀ ks n l,xK ks (dh n l)=dh n (fgA ks l))∧
  (∀ d n objs,NI d n objs []=[])∧(∀ d n objs j p l,NI d n objs ((j,p)::l)=(j,gL d n objs p)::NI d n objs l):=by
 refine ⟨fun n l i p=>?_,fun n l i h=>?_,fun n l d k objs=>?_,fun ks n l=>?_,fun _ _ _=>rfl,fun _ _ _ _ _ _=>rfl⟩
 · refine wQ (by simp [mY]) fun k hk=>?_
   rw [List.getElem?_set]
   simp only [j4]
   split
   · rename_i h;subst h;simp [mY,hk]
   · rename_i h;rw [tK,if_pos hk,if_neg (fun h'=>h h'.symm)]
 · rw [List.getD_eq_getElem?_getD,tK,if_pos h];rfl
 · refine wQ (by simp [mY]) fun i hi=>?_
   rw [List.getElem?_map,tK,if_pos hi,Td];rfl
 · refine wQ (by simp [mU,mY]) fun i hi=>?_
   rw [vM,tK,if_pos hi,WT];rfl
theorem WU :
  (∀ n,bS [] n=⟨dh n [],[]⟩)∧
  (∀ a n,1≤n→bS [a] n=⟨dh n [(0,a)],[]⟩)∧
  (∀ a b n,2≤n→bS [a,b] n=⟨dh n [(0,a),(1,b)],[]⟩)∧
  (∀ a b c n,3≤n→bS [a,b,c] n=⟨dh n [(0,a),(1,b),(2,c)],[]⟩)∧
  (∀ a b c d n,4≤n→bS [a,b,c,d] n=⟨dh n [(0,a),(1,b),(2,c),(3,d)],[]⟩)∧
  (∀ a b c d e n,5≤n→bS [a,b,c,d,e] n=⟨dh n [(0,a),(1,b),(2,c),(3,d),(4,e)],[]⟩):=by
 have key:∀ (args:List PV) (n:Nat) (l:List (Nat×PV)),args.length≤n→(∀ i,i<n→args.getD i .dead=j4 l i)→bS args n=⟨dh n l,[]⟩:=by
  intro args n l h1 h2
  have:args++List.replicate (n-args.length) PV.dead=dh n l:=by
   refine wQ (by simp;omega) fun i hi=>?_
   rw [← h2 i hi,List.getElem?_append,List.getD_eq_getElem?_getD]
   split
   · rename_i h;rw [List.getElem?_eq_getElem h];rfl
   · rename_i h;rw [List.getElem?_replicate,if_pos (by omega),List.getElem?_eq_none (by omega)];rfl
  rw [bS,this]
 refine ⟨fun n=>key _ _ _ (by simp) ?_,fun a n h=>key _ _ _ h ?_,fun a b n h=>key _ _ _ h ?_,fun a b c n h=>key _ _ _ h ?_,fun a b c d n h=>key _ _ _ h ?_,fun a b c d e n h=>key _ _ _ h ?_⟩
 all_goals
  intro i _
  match i with
  | 0=>rfl
  | 1=>rfl
  | 2=>rfl
  | 3=>rfl
  | 4=>rfl
  | i+5=>simp [j4]
theorem aaY :
  (∀ tm ob d p,St.put ⟨tm,ob⟩ (some d) p=⟨tm.set d p,ob⟩)∧
  (∀ tm ob p,St.put ⟨tm,ob⟩ none p=⟨tm,ob⟩)∧
  (∀ tm ob t,St.ev ⟨tm,ob⟩ (.tmp t)=tm.getD t .dead)∧
  (∀ (S:St) v,S.ev (.const v)=.ve v)∧
  (∀ (S:St) f,S.ev (.func f)=.fn f [] [])∧
  (∀ k n,PV.ve (.int k n)=.int k n)∧(∀ b,PV.ve (.bool b)=.bool b)∧(∀ l,PV.ve (.string ⟨⟨l⟩⟩)=.str l)∧
  (PV.ve (.slice none 0 0)=.sl 0 [] (some true))∧(PV.ve (.pointer none)=.zT)∧(PV.ve .nilFunc=.Cf):=
 ⟨fun _ _ _ _=>rfl,fun _ _ _=>rfl,fun _ _ _=>rfl,fun _ _=>rfl,fun _ _=>rfl,
  fun _ _=>rfl,fun _=>rfl,fun _=>rfl,rfl,rfl,rfl⟩
end Lp
namespace Lp
open Go
def au (n:Nd):PV:=.agg [.int .i64 n.kind,.int .i64 n.many,.str n.name,.str n.s,.bool n.neg,.int .i64 n.e]
def aD (v:Vl):PV:=.sl 6 (v.map au) none
end Lp
namespace Lp
open Go
structure HK {α:Type}(K:α→Prop):Type where
def atO {α:Type}{K:α→Prop}(o:Option α) (_h:HK K):Prop:=∃ x,o=some x∧K x
theorem atR {α:Type}(K:α→Prop):(∀ x,atO (some x) (HK.mk:HK K)=K x)∧(∀ (a:α) l,(a::l)[0]?=some a)∧(∀ (a:α) l (n:Nat),(a::l)[n+1]?=l[n]?):=
 ⟨fun x=>by simp [atO],fun _ _=>rfl,fun _ _ _=>by simp⟩
def JL (k:TK) (K:TypeId→Prop):Prop:=match k with
 | .slice e=>K e
 | _=>False
def arK (k:TK) (K:Nat→TypeId→Prop):Prop:=match k with
 | .array n e=>K n e
 | _=>False
def KU (k:TK) (X:Prop):Prop:=match k with
 | .str=>X
 | _=>False
@[congr] theorem abr {k k':TK}{K:TypeId→Prop}(h:k=k'):JL k K=JL k' K:=by rw [h]
@[congr] theorem abt {k k':TK}{K:Nat→TypeId→Prop}(h:k=k'):arK k K=arK k' K:=by rw [h]
@[congr] theorem aaZ {k k':TK}{X:Prop}(h:k=k'):KU k X=KU k' X:=by rw [h]
theorem skR:(∀ e K,JL (.slice e) K=K e)∧(∀ n e K,arK (.array n e) K=K n e)∧(∀ X,KU .str X=X):=⟨fun _ _=>rfl,fun _ _ _=>rfl,fun _=>rfl⟩
theorem WV (D:TypeId→aG) (objs:List Obj) (K:KT) :
  (∀ t sz xs q k n,aZ D t (.sl sz xs q) (.int k n) objs K=JL (D t).kind fun e=>(D e).kind≠.none∧0≤n∧(D e).size=sz∧atO xs[n.toNat]? (HK.mk:HK fun y=>K (.addr y) objs 0))∧
  (∀ t k ver k' n,aZ D t (.aY k ver) (.int k' n) objs K=JL (D t).kind fun e=>(D e).kind≠.none∧0≤n∧∃ o,objs[k]?=some o∧o.live=true∧o.ver=ver∧n<o.xs.length∧(D e).size=o.sz∧K (.bM k ver n.toNat 0) objs (4+2*k))∧
  (∀ t cs k n,aZ D t (.addr (.agg cs)) (.int k n) objs K=arK (D t).kind fun m e=>(D e).kind≠.none∧0≤n∧n<m∧(n.toNat+1)*(D e).size≤cs.length∧((D e).agg=false→(D e).size=1)∧cs.all (fun c=>!c.isAgg)=true∧
   K (.addr (sub cs (n.toNat*(D e).size) (D e).size (D e).agg)) objs 0)∧
  (∀ t k ver i f k' n,aZ D t (.bM k ver i f) (.int k' n) objs K=arK (D t).kind fun m e=>(D e).kind≠.none∧0≤n∧n<m∧∃ o,objs[k]?=some o∧o.live=true∧o.ver=ver∧K (.bM k ver i (f+n.toNat*(D e).size)) objs (4+2*k))∧
  (∀ t s k n,kQ D t (.str s) (.int k n) objs K=KU (D t).kind (0≤n∧atO s[n.toNat]? (HK.mk:HK fun b=>K (.int .u8 b.toNat) objs 0)))∧
  (∀ t cs k n,kQ D t (.agg cs) (.int k n) objs K=arK (D t).kind fun m e=>(D e).kind≠.none∧0≤n∧n<m∧(n.toNat+1)*(D e).size≤cs.length∧(D e).size≠0∧K (sub cs (n.toNat*(D e).size) (D e).size (D e).agg) objs 0)∧
  (∀ t cs f,aL D t (.addr (.agg cs)) f objs K=dY D t f fun off ti=>off+ti.size≤cs.length∧(ti.agg=false→ti.size=1)∧cs.all (fun c=>!c.isAgg)=true∧K (.addr (sub cs off ti.size ti.agg)) objs 0)∧
  (∀ t k ver i f' f,aL D t (.bM k ver i f') f objs K=∃ o,objs[k]?=some o∧o.live=true∧o.ver=ver∧dY D t f fun off _=>K (.bM k ver i (f'+off)) objs (4+2*k))∧
  (∀ t cs f,n_ D t (.agg cs) f objs K=dY D t f fun off ti=>off+ti.size≤cs.length∧K (sub cs off ti.size ti.agg) objs 0)∧
  (∀ t s,pI D t (.str s) objs K=KU (D t).kind (K (.int .i64 s.length) objs 0))∧
  (∀ t sz xs q,pI D t (.sl sz xs q) objs K=JL (D t).kind fun _=>K (.int .i64 xs.length) objs 0)∧
  (∀ t k ver,pI D t (.aY k ver) objs K=JL (D t).kind fun _=>∃ o,objs[k]?=some o∧o.live=true∧o.ver=ver∧K (.int .i64 o.xs.length) objs (4+2*k))∧
  (∀ t s lo hi,iU D t (.str s) lo hi objs K=KU (D t).kind (dn lo 0 fun l=>dn hi s.length fun h=>0≤l∧l≤h∧h≤s.length∧K (.str ((s.take h.toNat).drop l.toNat)) objs 0))∧
  (∀ t sz xs q lo hi,iU D t (.sl sz xs q) lo hi objs K=JL (D t).kind fun e=>(D e).kind≠.none∧(xs=[]∨(D e).size=sz)∧dn lo 0 fun l=>dn hi xs.length fun h=>0≤l∧l≤h∧h≤xs.length∧
   K (.sl sz ((xs.take h.toNat).drop l.toNat) q) objs 0)∧
  (∀ t k ver lo hi,iU D t (.aY k ver) lo hi objs K=JL (D t).kind fun e=>(D e).kind≠.none∧∃ o,objs[k]?=some o∧o.live=true∧o.ver=ver∧(D e).size=o.sz∧lo=none∧dn hi o.xs.length fun h=>0≤h∧h≤o.xs.length∧
   K (.aY k (ver+1)) (objs.set k { o with xs:=o.xs.take h.toNat,ver:=ver+1 }) (5+2*k)):=by
 refine ⟨fun t sz xs q k n=>?_,fun t k ver k' n=>?_,fun t cs k n=>?_,fun t k ver i f k' n=>?_,fun t s k n=>?_,fun t cs k n=>?_,fun _ _ _=>rfl,fun _ _ _ _ _ _=>rfl,fun _ _ _=>rfl,fun t s=>?_,fun t sz xs q=>?_,fun t k ver=>?_,fun t s lo hi=>?_,fun t sz xs q lo hi=>?_,fun t k ver lo hi=>?_⟩
 all_goals try simp only [aZ,kQ,pI,iU]
 all_goals cases (D t).kind <;> simp only [JL,arK,KU,atO]
 apply propext
 constructor
 · rintro ⟨h1,h2,y,h3,h4,h5⟩;exact ⟨h1,h2,h4,y,h3,h5⟩
 · rintro ⟨h1,h2,h4,y,h3,h5⟩;exact ⟨h1,h2,y,h3,h4,h5⟩
theorem ldR (objs:List Obj) (K:KT) :
  (∀ ti x,eY ti (.addr x) objs K=(ti.kind≠.none∧x.cells.length=ti.size∧x.isAgg=ti.agg∧K x objs 0))∧
  (∀ ti k ver i f,eY ti (.bM k ver i f) objs K=∃ o e,objs[k]?=some o∧o.live=true∧o.ver=ver∧o.xs[i]?=some e∧ti.kind≠.none∧f+ti.size≤e.cells.length∧
   (ti.agg=false→ti.size=1)∧e.cells.all (fun c=>!c.isAgg)=true∧K (sub e.cells f ti.size ti.agg) objs (4+2*k)):=⟨fun _ _=>rfl,fun _ _ _ _ _=>rfl⟩
theorem WW (D:TypeId→aG) (objs:List Obj) (K:List PV→Bool→Prop) :
  (∀ t sz xs q,mD D t (.sl sz xs q) objs K=JL (D t).kind fun _=>K xs false)∧
  (∀ t k ver,mD D t (.aY k ver) objs K=JL (D t).kind fun _=>∃ o,objs[k]?=some o∧o.live=true∧o.ver=ver∧K o.xs true)∧
  (∀ t s,mD D t (.str s) objs K=KU (D t).kind (K (s.map fun b=>.int .u8 b.toNat) false)):=by
 refine ⟨fun t sz xs q=>?_,fun t k ver=>?_,fun t s=>?_⟩
 all_goals simp only [mD]
 all_goals cases (D t).kind <;> simp only [JL,KU]
@[congr] theorem aa0 {D:TypeId→aG}{t:TypeId}{x x':PV}{objs objs':List Obj}{K:List PV→Bool→Prop}(h:x=x') (ho:objs=objs'):mD D t x objs K=mD D t x' objs' K:=by rw [h,ho]
theorem ntR:noTwo []=true∧(∀ l,noTwo (0::l)=noTwo l)∧(∀ l,noTwo (1::l)=noTwo l)∧(∀ l,noTwo (4::l)=noTwo l)∧(∀ l,noTwo (6::l)=noTwo l)∧(∀ l,noTwo (8::l)=noTwo l)∧(∀ l,noTwo (10::l)=noTwo l):=
 ⟨rfl,fun _=>rfl,fun _=>rfl,fun _=>rfl,fun _=>rfl,fun _=>rfl,fun _=>rfl⟩
theorem rO {α:Type}{E:List α→PV}{sz:Nat}{enc:α→PV}(hE:∀ l,E l=.sl sz (l.map enc) none) (D:TypeId→aG) (objs:List Obj) (K:KT) :
  (∀ t l k n,aZ D t (E l) (.int k n) objs K=JL (D t).kind fun e=>(D e).kind≠.none∧0≤n∧(D e).size=sz∧atO l[n.toNat]? (HK.mk:HK fun y=>K (.addr (enc y)) objs 0))∧
  (∀ t l,pI D t (E l) objs K=JL (D t).kind fun _=>K (.int .i64 l.length) objs 0)∧
  (∀ t l lo hi,iU D t (E l) lo hi objs K=JL (D t).kind fun e=>(D e).kind≠.none∧(l=[]∨(D e).size=sz)∧dn lo 0 fun a=>dn hi l.length fun h=>0≤a∧a≤h∧h≤l.length∧
   K (E ((l.take h.toNat).drop a.toNat)) objs 0):=by
 refine ⟨fun t l k n=>?_,fun t l=>?_,fun t l lo hi=>?_⟩
 all_goals simp only [hE,(WV D objs K).1,(WV D objs K).2.2.2.2.2.2.2.2.2.2.1,(WV D objs K).2.2.2.2.2.2.2.2.2.2.2.2.2.1]
 all_goals cases (D t).kind <;> simp only [JL,atO,List.length_map,List.map_eq_nil_iff,List.map_drop,List.map_take]
 apply propext
 constructor
 · rintro ⟨h1,h2,h4,y,h3,h5⟩
   rw [List.getElem?_map] at h3
   cases hx:l[n.toNat]? with
   | none=>rw [hx] at h3;simp at h3
   | some x=>rw [hx] at h3;simp only [Option.map_some,Option.some.injEq] at h3;exact ⟨h1,h2,h4,x,rfl,h3 ▸ h5⟩
 · rintro ⟨h1,h2,h4,y,h3,h5⟩
   exact ⟨h1,h2,h4,enc y,by rw [List.getElem?_map,h3];rfl,h5⟩
theorem jq {α:Type}{E:List α→PV}{sz:Nat}{enc:α→PV}(hE:∀ l,E l=.sl sz (l.map enc) none) (D:TypeId→aG) (objs:List Obj) (K:List PV→Bool→Prop) :
  (∀ t l,mD D t (E l) objs K=JL (D t).kind fun _=>K (l.map enc) false):=by
 intro t l
 rw [hE]
 exact (WW D objs K).1 ..
theorem rP {α:Type}{E:List α→PV}{sz:Nat}{enc:α→PV}(hE:∀ l,E l=.sl sz (l.map enc) none) :
  (∀ l,(E l).cells=[E l])∧(∀ l,(E l).isAgg=false)∧(∀ l,(E l).pure=true)∧(∀ l,(E l).ref=false)∧(∀ l,(E l).mH=true)∧(∀ l,(E l).storable=true)∧
  (∀ d n O l,eP d n O (E l)=E l)∧(∀ d n O l,gL d n O (E l)=E l):=by
 refine ⟨fun l=>?_,fun l=>?_,fun l=>?_,fun l=>?_,fun l=>?_,fun l=>?_,fun _ _ _ l=>?_,fun _ _ _ l=>?_⟩
 all_goals rw [hE];rfl
def gZ {α:Type}(E:α→PV){K:α→Prop}(x:PV) (_h:HK K):Prop:=∃ v,x=E v∧K v
theorem aN {α:Type}{E:α→PV}(hE:∀ a b,E a=E b→a=b) (K:α→Prop) (v:α):gZ E (E v) (HK.mk:HK K)=K v:=
 propext ⟨fun ⟨w,h,hk⟩=>hE v w h ▸ hk,fun hk=>⟨v,rfl,hk⟩⟩
theorem ny {α:Type}{E:List α→PV}{sz:Nat}{enc:α→PV}(hE:∀ l,E l=.sl sz (l.map enc) none) (he:∀ a b,enc a=enc b→a=b):∀ a b,E a=E b→a=b:=by
 intro a b h
 rw [hE,hE] at h
 injection h with _ h _
 induction a generalizing b with
 | nil=>cases b with
  | nil=>rfl
  | cons y ys=>simp at h
 | cons x xs ih=>cases b with
  | nil=>simp at h
  | cons y ys=>
   simp only [List.map_cons,List.cons.injEq] at h
   rw [he x y h.1,ih ys h.2]
theorem exS {α:Type}(a:α) (q:α→Prop):(∃ o,some a=some o∧q o)=q a:=by simp
theorem abO:(∀ k n,PV.storable (.int k n)=true)∧(∀ b,PV.storable (.bool b)=true)∧(∀ s,PV.storable (.str s)=true)∧(∀ z xs q,PV.storable (.sl z xs q)=true)∧
  (∀ k v,PV.storable (.aY k v)=true)∧(∀ k v i f,PV.storable (.bM k v i f)=true)∧(∀ x,PV.storable (.addr x)=true):=
 ⟨fun _ _=>rfl,fun _=>rfl,fun _=>rfl,fun _ _ _=>rfl,fun _ _=>rfl,fun _ _ _ _=>rfl,fun _=>rfl⟩
theorem WX {α β:Type}(f:α→β) (l m:List α):l.map f++m.map f=(l++m).map f:=by simp
def uN {α:Type}(enc:α→PV):Prop:=∀ d n objs x,PV.bC (fG d n objs) (enc x)=enc x
theorem iH {α:Type}{E:List α→PV}{sz:Nat}{enc:α→PV}(hE:∀ l,E l=.sl sz (l.map enc) none) (h:uN enc) :
  (∀ d ty l v rest,eP (d+1) 0 (⟨ty,sz,l.map enc,true,v⟩::rest) (.aY 0 v)=E l)∧
  (∀ d ty l v o rest,eP (d+1) 0 (o::⟨ty,sz,l.map enc,true,v⟩::rest) (.aY 1 v)=E l)∧
  (∀ d ty l v o o' rest,eP (d+1) 0 (o::o'::⟨ty,sz,l.map enc,true,v⟩::rest) (.aY 2 v)=E l):=by
 have key:∀ d ty l v objs k,objs[k]?=some ⟨ty,sz,l.map enc,true,v⟩→eP (d+1) 0 objs (.aY k v)=E l:=by
  intro d ty l v objs k hk
  simp only [eP,Nat.not_lt_zero,if_false,fG,hk,Nat.zero_le,decide_true,Bool.and_self,BEq.rfl,if_true]
  rw [hE]
  congr 1
  rw [List.map_map]
  exact List.map_congr_left fun x _=>h d 0 objs x
 exact ⟨fun d ty l v rest=>key d ty l v _ 0 rfl,fun d ty l v o rest=>key d ty l v _ 1 rfl,fun d ty l v o o' rest=>key d ty l v _ 2 rfl⟩
theorem qQ {α:Type}{enc:α→PV}{sz:Nat}(h1:∀ x,(enc x).cells.length=sz) (h2:∀ x,(enc x).cells.all PV.storable=true) (l:List α) :
  (∀ y,y ∈ l.map enc→y.cells.length=sz∧y.cells.all PV.storable=true)=True:=by
 refine eq_true fun y hy=>?_
 obtain ⟨x,_,rfl⟩:=List.mem_map.1 hy
 exact ⟨h1 x,h2 x⟩
theorem ZX (y0:PV) (sz:Nat):(∀ y,y ∈ [y0]→y.cells.length=sz∧y.cells.all PV.storable=true)=(y0.cells.length=sz∧y0.cells.all PV.storable=true):=by simp
theorem JM (E:PV) (h:E.ref=false) (k:Nat):(∀ k' v':Nat,E=.aY k' v'→¬ k'=k)=True:=by
 refine eq_true fun k' v' he=>?_
 rw [he] at h;cases h
def qE:List Bool→Nat→List (Nat×PV)→List (Nat×PV)
 | [],_,_=>[]
 | true::ks,i,l=>(i,j4 l i)::qE ks (i+1) l
 | false::ks,i,l=>qE ks (i+1) l
theorem F7:∀ (ks:List Bool) (j:Nat) (l:List (Nat×PV)) (i:Nat),j4 (qE ks j l) i=if j≤i∧ks[i-j]?=some true then j4 l i else .dead
 | [],j,l,i=>by simp [qE,j4]
 | true::ks,j,l,i=>by
  simp only [qE,j4]
  by_cases h:i=j
  · subst h;simp
  · rw [if_neg h,F7 ks (j+1) l i]
    by_cases hj:j+1≤i
    · have e:i-j=(i-(j+1))+1:=by omega
      simp only [e,List.getElem?_cons_succ,hj,true_and,show j≤i by omega]
    · rw [if_neg (by omega),if_neg (by omega)]
 | false::ks,j,l,i=>by
  simp only [qE]
  rw [F7 ks (j+1) l i]
  by_cases h:i=j
  · subst h;rw [if_neg (by omega),if_neg (by simp)]
  · by_cases hj:j+1≤i
    · have e:i-j=(i-(j+1))+1:=by omega
      simp only [e,List.getElem?_cons_succ,hj,true_and,show j≤i by omega]
    · rw [if_neg (by omega),if_neg (by omega)]
theorem NJ (ks:List Bool) (n:Nat) (l:List (Nat×PV)):xK ks (dh n l)=dh n (qE ks 0 l):=by
 refine wQ (by simp [mU,mY]) fun i hi=>?_
 rw [vM,tK,if_pos hi,F7]
 simp
theorem bJ :
  (∀ ks n l ob,St.norm ks none ⟨dh n l,ob⟩=⟨dh n (qE ks 0 l),ob⟩)∧
  (∀ ks d k n l ob,St.norm ks (some (d,k)) ⟨dh n l,ob⟩=St.freeze d k ⟨dh n (qE ks 0 l),ob⟩):=by
 refine ⟨fun ks n l ob=>?_,fun ks d k n l ob=>?_⟩
 · simp only [St.norm,St.forget,NJ]
 · simp only [St.norm,St.forget,NJ]
theorem keepR:(∀ i l,qE [] i l=[])∧(∀ ks i l,qE (true::ks) i l=(i,j4 l i)::qE ks (i+1) l)∧(∀ ks i l,qE (false::ks) i l=qE ks (i+1) l):=
 ⟨fun _ _=>rfl,fun _ _ _=>rfl,fun _ _ _=>rfl⟩
theorem abP (T:Know) (K:KT) (objs:List Obj) (pt:Bool) :
  (∀ g args,nQ T pt (.fn g [] []) args objs K=T.fn g args objs K)∧
  (∀ g c,nQ T pt (.fn g [] [c]) [] objs K=T.fn g [c] objs K)∧
  (∀ g c a,nQ T pt (.fn g [] [c]) [a] objs K=T.fn g [a,c] objs K)∧
  (∀ g c a b,nQ T pt (.fn g [] [c]) [a,b] objs K=T.fn g [a,b,c] objs K)∧
  (∀ g c d a,nQ T pt (.fn g [] [c,d]) [a] objs K=T.fn g [a,c,d] objs K)∧
  (∀ g c d a b,nQ T pt (.fn g [] [c,d]) [a,b] objs K=T.fn g [a,b,c,d] objs K)∧
  (∀ l args,nQ T pt (.D9 l) args objs K=(l=T.y∧pt=true∧args.all PV.pure=true∧T.Y args objs fun b o=>K (.bool b) o 2)):=by
 refine ⟨fun g args=>?_,fun _ _=>rfl,fun _ _ _=>rfl,fun _ _ _ _=>rfl,fun _ _ _ _=>rfl,fun _ _ _ _ _=>rfl,fun _ _=>rfl⟩
 simp [nQ]
theorem YZ (K:KT) (objs:List Obj) (args:List PV) (c:dN) (l:List (FuncId×dN)) (f:FuncId) :
  (tF ((f,c)::l) f args objs K=c args objs K)∧(∀ g,(f==g)=false→tF ((g,c)::l) f args objs K=tF l f args objs K):=by
 refine ⟨by simp [tF],fun g h=>?_⟩
 rw [ZO,h];rfl
@[congr] theorem WY {D:TypeId→aG}{b:Builtin}{ats abQ:List TypeId}{args args':List Operand}{ev:Operand→PV}{objs:List Obj}{K:KT}(h:ats=abQ) (h1:args=args'):eZ D b ats args ev objs K=eZ D b abQ args' ev objs K:=by rw [h,h1]
theorem ZY (P:Program) (D:TypeId→aG) (T:Know) (w pt:Bool) (ev:Operand→PV) (objs:List Obj) (K:KT) :
  (∀ x,lF P D T w pt ev objs (.move x) K=K (ev x) objs 0)∧(∀ x,lF P D T w pt ev objs (.assign x) K=K (ev x) objs 0)∧
  (∀ c x y,lF P D T w pt ev objs (.pick c x y) K=qA (ev c) (ev x) (ev y) objs K)∧
  (∀ t,lF P D T w pt ev objs (.alloc t) K=qM t (D t) objs K)∧
  (∀ t x,lF P D T w pt ev objs (.box t x) K=H8 t (D t) (ev x) objs K)∧
  (∀ t ps,lF P D T w pt ev objs (.build t ps) K=bD D t (ps.toList.map fun x=>(x.1,ev x.2)) objs K)∧
  (∀ t n ps,lF P D T w pt ev objs (.buildSlice t n ps) K=bK D w t n (ps.toList.map fun x=>(x.1,ev x.2)) objs K)∧
  (∀ t x,lF P D T w pt ev objs (.load t x) K=eY (D t) (ev x) objs K)∧
  (∀ t x y,lF P D T w pt ev objs (.store t x y) K=jv (D t) (ev x) (ev y) objs K)∧
  (∀ x,lF P D T w pt ev objs (.nilCheck x) K=dJ (ev x) objs K)∧
  (∀ b t x y t',lF P D T w pt ev objs (.binOp b t x y t') K=pG P (D t) t b (ev x) (ev y) fun r=>K r objs 0)∧
  (∀ u t x,lF P D T w pt ev objs (.unOp u t x) K=MJ u (ev x) fun r=>K r objs 0)∧
  (∀ s t x,lF P D T w pt ev objs (.convert s t x) K=jN D s t (ev x) objs K)∧
  (∀ f first cap,lF P D T w pt ev objs (.makeFunc (.func f) first cap) K=jr f (first.toList.map ev) (cap.toList.map ev) objs K)∧
  (∀ t l c,lF P D T w pt ev objs (.makeSlice t l c) K=fq D t (ev l) (ev c) objs K)∧
  (∀ t x lo hi,lF P D T w pt ev objs (.slice t x lo hi none) K=iU D t (ev x) (lo.map ev) (hi.map ev) objs K)∧
  (∀ t x f,lF P D T w pt ev objs (.fieldAddr t x f) K=aL D t (ev x) f objs K)∧
  (∀ t x f,lF P D T w pt ev objs (.field t x f) K=n_ D t (ev x) f objs K)∧
  (∀ t x i,lF P D T w pt ev objs (.indexAddr t x i) K=aZ D t (ev x) (ev i) objs K)∧
  (∀ t x i,lF P D T w pt ev objs (.index t x i) K=kQ D t (ev x) (ev i) objs K)∧
  (∀ x i,lF P D T w pt ev objs (.extract x i) K=bN (ev x) i objs K)∧
  (∀ t x,lF P D T w pt ev objs (.call { callee:=.builtin .len,args:=⟨[x]⟩,argTypes:=⟨[t]⟩ }) K=pI D t (ev x) objs K)∧
  (∀ t u s x,lF P D T w pt ev objs (.call { callee:=.builtin .append,args:=⟨[s,x]⟩,argTypes:=⟨[t,u]⟩ }) K=dZ D t u (ev s) (ev x) objs K)∧
  (∀ x y ats,lF P D T w pt ev objs (.call { callee:=.builtin .max,args:=⟨[x,y]⟩,argTypes:=ats }) K=iA true [ev x,ev y] fun r=>K r objs 0)∧
  (∀ x y ats,lF P D T w pt ev objs (.call { callee:=.builtin .min,args:=⟨[x,y]⟩,argTypes:=ats }) K=iA false [ev x,ev y] fun r=>K r objs 0)∧
  (∀ f args ats,lF P D T w pt ev objs (.call { callee:=.value f,args:=args,argTypes:=ats }) K=nQ T pt (ev f) (args.toList.map ev) objs K):=
 ⟨fun _=>rfl,fun _=>rfl,fun _ _ _=>rfl,fun _=>rfl,fun _ _=>rfl,fun _ _=>rfl,fun _ _ _=>rfl,fun _ _=>rfl,fun _ _ _=>rfl,fun _=>rfl,fun _ _ _ _ _=>rfl,fun _ _ _=>rfl,fun _ _ _=>rfl,
  fun _ _ _=>rfl,fun _ _ _=>rfl,fun _ _ _ _=>rfl,fun _ _ _=>rfl,fun _ _ _=>rfl,fun _ _ _=>rfl,fun _ _ _=>rfl,fun _ _=>rfl,fun _ _=>rfl,fun _ _ _ _=>rfl,fun _ _ _=>rfl,fun _ _ _=>rfl,fun _ _ _=>rfl⟩
theorem abR {α β:Type}(a:α) (q:α→β→Prop):(∃ o e,some a=some o∧q o e)=∃ e,q a e:=by simp
theorem setRow {α:Type}{enc:α→PV}(h:∀ x y:α,(enc x).putCells 0 (enc y).cells=enc y) (l:List α) (i:Nat) (x y:α):(l.map enc).set i ((enc x).putCells 0 (enc y).cells)=(l.set i y).map enc:=by
 rw [h,List.map_set]
theorem abS (P:Program) (D:TypeId→aG) (T:Know) :
  (∀ S ts (K:St→List Nat→Prop),LR P D T [] S ts K=K S ts)∧
  (∀ d o w rest n l ob ts (K:St→List Nat→Prop),LR P D T (⟨some d,o,none,w⟩::rest) ⟨dh n l,ob⟩ ts K=
   lF P D T w ((dh n l).all PV.pure) (St.ev ⟨dh n l,ob⟩) ob o fun r objs' t=>LR P D T rest ⟨dh n ((d,r)::l),objs'⟩ (ts++[t]) K)∧
  (∀ o w rest n l ob ts (K:St→List Nat→Prop),LR P D T (⟨none,o,none,w⟩::rest) ⟨dh n l,ob⟩ ts K=
   lF P D T w ((dh n l).all PV.pure) (St.ev ⟨dh n l,ob⟩) ob o fun r objs' t=>LR P D T rest ⟨dh n l,objs'⟩ (ts++[t]) K)∧
  (∀ d o g v w rest n l ob ts (K:St→List Nat→Prop),LR P D T (⟨some d,o,some (some g,v),w⟩::rest) ⟨dh n l,ob⟩ ts K=
   kS ((dh n l).getD g .dead) g v ⟨dh n l,ob⟩ (fun S=>LR P D T (⟨some d,o,none,w⟩::rest) S ts K) (fun S=>LR P D T rest (S.put (some d) (.bU [])) (ts++[0]) K))∧
  (∀ o g v w rest n l ob ts (K:St→List Nat→Prop),LR P D T (⟨none,o,some (some g,v),w⟩::rest) ⟨dh n l,ob⟩ ts K=
   kS ((dh n l).getD g .dead) g v ⟨dh n l,ob⟩ (fun S=>LR P D T (⟨none,o,none,w⟩::rest) S ts K) (fun S=>LR P D T rest S (ts++[0]) K)):=by
 refine ⟨fun _ _ _=>rfl,fun d o w rest n l ob ts K=>?_,fun o w rest n l ob ts K=>rfl,fun d o g v w rest n l ob ts K=>rfl,fun o g v w rest n l ob ts K=>rfl⟩
 simp only [← mZ.1]
 rfl
theorem Y0 :
  (∀ b d n l ob (X Y:St→Prop),kS (.bool b) d true ⟨dh n l,ob⟩ X Y=yY b (X ⟨dh n ((d,.bool true)::l),ob⟩) (Y ⟨dh n ((d,.bool false)::l),ob⟩))∧
  (∀ b d n l ob (X Y:St→Prop),kS (.bool b) d false ⟨dh n l,ob⟩ X Y=yY b (Y ⟨dh n ((d,.bool true)::l),ob⟩) (X ⟨dh n ((d,.bool false)::l),ob⟩))∧
  (∀ d w (S:St) (X Y:St→Prop),kS (.bU []) d w S X Y=Y S):=by
 refine ⟨fun b d n l ob X Y=>?_,fun b d n l ob X Y=>?_,fun _ _ _ _ _=>rfl⟩
 · simp only [abN,mZ.1]
 · simp only [abN,mZ.1]
theorem Z0:(∀ n l ob d p,St.put ⟨dh n l,ob⟩ (some d) p=⟨dh n ((d,p)::l),ob⟩):=fun n l ob d p=>by
 rw [← mZ.1];rfl
theorem aO.bg {P:Program}{D:TypeId→aG}{T:Know}{f:FuncId}{n t:Nat}{C:LC}{args:List PV}{r:PV}(h:aO P f n [.tmp t] C) (d:Nat) (hD:∀ t,iL P t (D t)) (hT:FZ P none tC T) (hm:P.follows .mixedOrders=true) (ht:t<n)
  (hw:∀ Q:Exit→St→Prop,(∀ l ob,Q .ret ⟨dh n l,ob⟩=(r=gL d 0 ob (j4 l t)))→kE P D T C Q (bS args n)):ah P f args [] r []:=by
 refine h.pure d hD hT hm (by simp) (hw _ fun l ob=>?_)
 simp only [mE,iW,mZ.2.1 n l t ht,List.map_cons,List.map_nil,eT]
theorem aO.vN {P:Program}{D:TypeId→aG}{T:Know}{f:FuncId}{n t u:Nat}{C:LC}{args:List PV}{r:PV}(h:aO P f n [.tmp t,.tmp u] C) (d:Nat) (hD:∀ t,iL P t (D t)) (hT:FZ P none tC T) (hm:P.follows .mixedOrders=true) (ht:t<n) (hu:u<n)
  (hw:∀ Q:Exit→St→Prop,(∀ l ob,Q .ret ⟨dh n l,ob⟩=(r=.bU [gL d 0 ob (j4 l t),gL d 0 ob (j4 l u)]))→kE P D T C Q (bS args n)):ah P f args [] r []:=by
 refine h.pure d hD hT hm (by simp) (hw _ fun l ob=>?_)
 simp only [mE,iW,mZ.2.1 n l t ht,mZ.2.1 n l u hu,List.map_cons,List.map_nil,eT]
theorem pkR (x y:PV) (objs:List Obj) (K:KT):(qA (.bool true) x y objs K=K x objs 0)∧(qA (.bool false) x y objs K=K y objs 0):=⟨rfl,rfl⟩
theorem abT :
  type_of% @Ai∧
  type_of% @EO∧
  type_of% @kiR∧
  type_of% @abS∧
  type_of% @abM∧
  type_of% @Y0∧
  type_of% @Z0∧
  type_of% @hoR∧
  type_of% @ZW∧
  type_of% @ZY∧
  type_of% @YZ∧
  type_of% @eH∧
  type_of% @Hz∧
  type_of% @yc∧
  type_of% @KO∧
  type_of% @F5∧
  type_of% @WW∧
  type_of% @skR∧
  type_of% @atR∧
  type_of% @exS∧
  type_of% @abR:=
 ⟨@Ai,@EO,@kiR,@abS,@abM,@Y0,@Z0,@hoR,@ZW,@ZY,@YZ,@eH,@Hz,@yc,@KO,@F5,@WW,@skR,@atR,@exS,@abR⟩
theorem Z4 :
  type_of% @EO∧
  type_of% @kiR∧
  type_of% @kU∧
  type_of% @mZ∧
  type_of% @WU∧
  type_of% @Y0∧
  type_of% @ZW∧
  type_of% @aaY∧
  type_of% @mE∧
  type_of% @JK∧
  type_of% @Ee∧
  type_of% @fzR∧
  type_of% @qV∧
  type_of% @bJ∧
  type_of% @keepR∧
  type_of% @abP∧
  type_of% @YZ∧
  type_of% @eH∧
  type_of% @pkR∧
  type_of% @Hy∧
  type_of% @Hz∧
  type_of% @yL∧
  type_of% @WQ∧
  type_of% @Ik∧
  type_of% @tH∧
  type_of% @EP∧
  type_of% @HV∧
  type_of% @WV∧
  type_of% @ldR∧
  type_of% @WW∧
  type_of% @skR∧
  type_of% @ntR∧
  type_of% @atR∧
  type_of% @abO∧
  type_of% @puR∧
  type_of% @WX∧
  type_of% @ZX:=
 ⟨@EO,@kiR,@kU,@mZ,@WU,@Y0,@ZW,@aaY,@mE,@JK,@Ee,@fzR,@qV,@bJ,@keepR,@abP,@YZ,@eH,@pkR,@Hy,@Hz,@yL,@WQ,@Ik,@tH,@EP,@HV,@WV,@ldR,@WW,@skR,@ntR,@atR,@abO,@puR,@WX,@ZX⟩
theorem Z5 :
  type_of% @decide_true∧
  type_of% @decide_false∧
  type_of% @not_true_eq_false∧
  type_of% @not_false_eq_true∧
  type_of% @false_and∧
  type_of% @and_false∧
  type_of% @cond_true.{1}∧
  type_of% @cond_false.{1}∧
  type_of% @List.take_zero.{0}∧
  type_of% @ne_eq.{1}∧
  type_of% @true_and∧
  type_of% @PV.bool.injEq∧
  type_of% @Int.toNat_natCast∧
  type_of% @Int.toNat_zero∧
  type_of% @Bool.not_false∧
  type_of% @Bool.not_true∧
  type_of% @Bool.and_self∧
  type_of% @Bool.false_eq_true∧
  type_of% @Bool.true_eq_false∧
  type_of% @forall_const.{1}∧
  type_of% @false_implies∧
  type_of% @true_implies∧
  type_of% @and_true∧
  type_of% @implies_true.{1}∧
  type_of% @implies_true.{0}∧
  type_of% @forall_const.{0}∧
  type_of% @Nat.zero_add∧
  type_of% @List.length_map.{0,0}∧
  type_of% @List.length_cons.{0}∧
  type_of% @List.length_nil.{0}∧
  type_of% @List.nil_append.{0}∧
  type_of% @List.map_cons.{0,0}∧
  type_of% @List.map_nil.{0,0}∧
  type_of% @Bool.true_or∧
  type_of% @List.getElem?_cons_zero.{0}∧
  type_of% @List.getElem?_cons_succ.{0}∧
  type_of% @Option.map_some.{0,0}∧
  type_of% @or_true∧
  type_of% @List.getElem?_map.{0,0}∧
  type_of% @List.length_replicate.{0}∧
  type_of% @List.all_cons.{0}∧
  type_of% @List.all_nil.{0}∧
  type_of% @Bool.and_true∧
  type_of% @Bool.true_and∧
  type_of% @Bool.false_or∧
  type_of% @Bool.or_false∧
  type_of% @Nat.le_refl∧
  type_of% @Nat.lt_add_one∧
  type_of% @List.length_append.{0}:=
 ⟨@decide_true,@decide_false,@not_true_eq_false,@not_false_eq_true,@false_and,@and_false,@cond_true.{1},@cond_false.{1},@List.take_zero.{0},@ne_eq.{1},@true_and,@PV.bool.injEq,@Int.toNat_natCast,@Int.toNat_zero,@Bool.not_false,@Bool.not_true,@Bool.and_self,@Bool.false_eq_true,@Bool.true_eq_false,@forall_const.{1},@false_implies,@true_implies,@and_true,@implies_true.{1},@implies_true.{0},@forall_const.{0},@Nat.zero_add,@List.length_map.{0,0},@List.length_cons.{0},@List.length_nil.{0},@List.nil_append.{0},@List.map_cons.{0,0},@List.map_nil.{0,0},@Bool.true_or,@List.getElem?_cons_zero.{0},@List.getElem?_cons_succ.{0},@Option.map_some.{0,0},@or_true,@List.getElem?_map.{0,0},@List.length_replicate.{0},@List.all_cons.{0},@List.all_nil.{0},@Bool.and_true,@Bool.true_and,@Bool.false_or,@Bool.or_false,@Nat.le_refl,@Nat.lt_add_one,@List.length_append.{0}⟩
theorem Z6 {D:TypeId→aG}{t:TypeId}{k k':IntKind}{n m:Int}{objs:List Obj}{K:KT}:fq D t (.int k n) (.int k' m) objs K=
  JL (D t).kind fun e=>(D e).kind≠.none∧(aK (D e)).cells.length=(D e).size∧(D e).size≠0∧(aK (D e)).cells.all PV.storable=true∧0≤n∧n≤m∧m≤9223372036854775807∧(D e).bytes*m≤281474976710656∧
   K (.aY objs.length 1) (newObj objs e (D e).size (List.replicate n.toNat (aK (D e)))) (5+2*objs.length):=by
 unfold fq JL
 cases (D t).kind <;> rfl
theorem abU:type_of% @iT.eq_1∧type_of% @iT.eq_2∧type_of% @iT.eq_3∧type_of% @iT.eq_4∧type_of% @iT.eq_5∧type_of% @iT.eq_6∧type_of% @iT.eq_7∧type_of% @iT.eq_8∧type_of% @dn.eq_1∧type_of% @dn.eq_2∧type_of% @dn.eq_3∧type_of% @dY.eq_1:=⟨@iT.eq_1,@iT.eq_2,@iT.eq_3,@iT.eq_4,@iT.eq_5,@iT.eq_6,@iT.eq_7,@iT.eq_8,@dn.eq_1,@dn.eq_2,@dn.eq_3,@dY.eq_1⟩
theorem abV:type_of% @MJ.eq_1∧type_of% @MJ.eq_2∧type_of% @MJ.eq_3∧type_of% @iW.eq_1∧type_of% @iW.eq_2∧type_of% @iW.eq_3∧type_of% @eT.eq_1∧type_of% @eT.eq_2∧type_of% @iT.eq_1∧type_of% @iT.eq_2∧type_of% @iT.eq_3∧type_of% @iT.eq_4∧type_of% @iT.eq_5∧type_of% @iT.eq_6∧type_of% @iT.eq_7∧type_of% @iT.eq_8∧type_of% @dn.eq_1∧type_of% @dn.eq_2∧type_of% @dn.eq_3∧type_of% @dY.eq_1∧type_of% @H8.eq_1∧type_of% @qM.eq_1∧type_of% @newObj.eq_1∧type_of% @aK.eq_1∧type_of% @bK.eq_1∧type_of% @dZ.eq_1∧type_of% @iV.eq_1∧type_of% @iV.eq_2∧type_of% @jv.eq_1∧type_of% @jv.eq_2∧type_of% @St.freeze.eq_1∧type_of% @Z6∧type_of% @iA.eq_1∧type_of% @iA.eq_2∧type_of% @jr.eq_1:=⟨@MJ.eq_1,@MJ.eq_2,@MJ.eq_3,@iW.eq_1,@iW.eq_2,@iW.eq_3,@eT.eq_1,@eT.eq_2,@iT.eq_1,@iT.eq_2,@iT.eq_3,@iT.eq_4,@iT.eq_5,@iT.eq_6,@iT.eq_7,@iT.eq_8,@dn.eq_1,@dn.eq_2,@dn.eq_3,@dY.eq_1,@H8.eq_1,@qM.eq_1,@newObj.eq_1,@aK.eq_1,@bK.eq_1,@dZ.eq_1,@iV.eq_1,@iV.eq_2,@jv.eq_1,@jv.eq_2,@St.freeze.eq_1,@Z6,@iA.eq_1,@iA.eq_2,@jr.eq_1⟩
end Lp
namespace Lp
open Go
variable {P:Program}
def UK:Option TypeDesc→PV→PV→Bool
 | some (.int k),.int k1 _,.int k2 _=>decide (k1=k2)
 | some .bool,.bool _,.bool _=>true
 | some .string,.str _,.str _=>true
 | _,_,_=>false
def vO (P:Program):Nat→List Field→List PV→List PV→Bool
 | _,[],[],[]=>true
 | k,f::fs,p::aa,q::bs=>(f.name != "_") && f.offset==k && UK (P.underlying f.type) p q && vO P (k+1) fs aa bs
 | _,_,_,_=>false
theorem Ay {w:World}{t:TypeId}{xs:Array Value}{o:Nat}{v:Value}{d:TypeDesc}(hu:P.underlying t=some d) (hd:(∃ k,d=.int k)∨d=.bool∨d=.string) (hv:xs[o]?=some v):(part t xs o).run P w=.ok v w:=by
 rcases hd with ⟨k,rfl⟩ | rfl | rfl
 all_goals simp [part,isAgg,run_underlying hu,hv]
theorem WZ {w:World}{d:Nat}{t:TypeId}{p q:PV}{v u:Value}{ok:Nat→Prop}(hf:UK (P.underlying t) p q=true) (hv:dB w ok p v) (hu:dB w ok q u) :
  ∃ b,Zz p q=some b∧(Op.equalIn (d+1) t v u).run P w=.ok b w∧∃ e,P.underlying t=some e∧((∃ k,e=.int k)∨e=.bool∨e=.string):=by
 unfold UK at hf
 split at hf
 · rename_i k k1 a k2 b hk
   have:k1=k2:=by simpa using hf
   subst this
   cases hv;cases hu
   exact ⟨decide (a=b),by simp [Zz],by rw [run_equalIn_int w d t k1 k a b hk];rfl,_,hk,.inl ⟨_,rfl⟩⟩
 · rename_i a b hk
   cases hv;cases hu
   exact ⟨a==b,rfl,run_equalIn_bool' w d t a b hk,_,hk,.inr (.inl rfl)⟩
 · rename_i a b hk
   cases hv;cases hu
   refine ⟨decide (a=b),rfl,?_,_,hk,.inr (.inr rfl)⟩
   rw [run_equalIn_string w d t _ _ hk]
   congr 1
   simp only [ByteArray.toList_eq]
   by_cases h:a=b
   · simp [h]
   · simp [h]
 · cases hf
theorem KV {w:World}{d:Nat}{ok:Nat→Prop}{xs ys:Array Value}:∀ (fs:List Field) (k:Nat) (aa bs:List PV) (r:Bool),vO P k fs aa bs=true→BQ aa bs=some r→
  (∀ i p,aa[i]?=some p→∃ v,xs[k+i]?=some v∧dB w ok p v)→(∀ i p,bs[i]?=some p→∃ v,ys[k+i]?=some v∧dB w ok p v)→
  (Op.eqFields (d+1) xs ys fs).run P w=.ok r w
 | [],k,aa,bs,r,hf,he,_,_=>by
  cases aa <;> cases bs <;> simp [vO] at hf
  simp only [BQ,Option.some.injEq] at he
  subst he
  rfl
 | f::fs,k,aa,bs,r,hf,he,ha,hb=>by
  cases aa with
  | nil=>cases bs <;> simp [vO] at hf
  | cons p aa=>
   cases bs with
   | nil=>simp [vO] at hf
   | cons q bs=>
    simp only [vO,Bool.and_eq_true,beq_iff_eq,bne_iff_ne] at hf
    obtain ⟨⟨⟨hn,ho⟩,ht⟩,hr⟩:=hf
    obtain ⟨v,hv,rv⟩:=ha 0 p rfl
    obtain ⟨u,hu,ru⟩:=hb 0 q rfl
    obtain ⟨b,hb1,hb2,e,he1,he2⟩:=WZ (d:=d) ht rv ru
    simp only [BQ,hb1] at he
    cases hq:BQ aa bs with
    | none=>rw [hq] at he;simp at he
    | some r'=>
     rw [hq] at he
     simp only [Option.some.injEq] at he
     subst he
     have ih:=KV (w:=w) (d:=d) (ok:=ok) (xs:=xs) (ys:=ys) fs (k+1) aa bs r' hr hq (fun i p h=>by have:=ha (i+1) p (by simpa using h);rwa [show k+(i+1)=k+1+i by omega] at this) (fun i p h=>by have:=hb (i+1) p (by simpa using h);rwa [show k+(i+1)=k+1+i by omega] at this)
     have p1:=Ay (w:=w) (xs:=xs) (o:=f.offset) he1 he2 (by rw [ho];simpa using hv)
     have p2:=Ay (w:=w) (xs:=ys) (o:=f.offset) he1 he2 (by rw [ho];simpa using hu)
     simp only [Op.eqFields,ne_eq,hn,not_false_eq_true,if_true,Sem.run_bind,p1,Result.andThen_ok,p2,hb2]
     cases b
     · simp
     · simpa using ih
theorem Y1 {t:TypeId}{aa bs:List PV}(hg:P.eqGuardType P.depth t=false) (ht:P.underlying t=some (.struct (P.fieldsOf t))) (hp:P.stoodInHeld t=false) (hf:vO P 0 (P.fieldsOf t).toList aa bs=true):H7 P t aa bs:=by
 refine ⟨hg,fun w ok vs us r hr h1 h2=>?_⟩
 have e:Op.equal t (.agg ⟨vs⟩) (.agg ⟨us⟩)=Op.equalIn (9999+1) t (.agg ⟨vs⟩) (.agg ⟨us⟩):=rfl
 rw [e,run_equalIn_struct w 9999 t _ _ ht hp]
 refine KV (d:=9998) (ok:=ok) _ 0 aa bs r hf hr ?_ ?_
 · intro i p hi
   have hlt:=(List.getElem?_eq_some_iff.1 hi).1
   have hv:vs[i]?=some (vs[i]'(by rw [← h1.1];exact hlt)):=List.getElem?_eq_getElem _
   exact ⟨_,by simpa using hv,h1.2 i p _ hi hv⟩
 · intro i p hi
   have hlt:=(List.getElem?_eq_some_iff.1 hi).1
   have hv:us[i]?=some (us[i]'(by rw [← h2.1];exact hlt)):=List.getElem?_eq_getElem _
   exact ⟨_,by simpa using hv,h2.2 i p _ hi hv⟩
end Lp
namespace Lp
open Go Go.Proofs
def cZ (l:List (List UInt8)):PV:=.sl 1 (l.map .str) none
def dK (l:List Vl):PV:=.sl 1 (l.map aD) none
def encI (l:List Int):PV:=.sl 1 (l.map (.int .i64)) none
def NK (l:List (List Int)):PV:=.sl 1 (l.map encI) none
theorem hV:∀ l,aD l=.sl 6 (l.map au) none:=fun _=>rfl
theorem hT:∀ l,cZ l=.sl 1 (l.map .str) none:=fun _=>rfl
theorem hL:∀ l,dK l=.sl 1 (l.map aD) none:=fun _=>rfl
theorem hI:∀ l,encI l=.sl 1 (l.map (.int .i64)) none:=fun _=>rfl
theorem hG:∀ l,NK l=.sl 1 (l.map encI) none:=fun _=>rfl
theorem vP:∀ a b,au a=au b→a=b:=by
 intro a b h
 cases a;cases b
 simp only [au,PV.agg.injEq,List.cons.injEq,PV.int.injEq,PV.str.injEq,PV.bool.injEq,true_and,and_true] at h
 obtain ⟨rfl,rfl,rfl,rfl,rfl,rfl⟩:=h
 rfl
theorem rQ:∀ a b,aD a=aD b→a=b:=ny hV vP
theorem vQ:∀ a b,cZ a=cZ b→a=b:=ny hT fun _ _ h=>by injection h
theorem vR:∀ a b,encI a=encI b→a=b:=ny hI fun _ _ h=>by injection h
theorem vS:∀ a b,dK a=dK b→a=b:=ny hL rQ
theorem Az:∀ a b,NK a=NK b→a=b:=ny hG vR
theorem Z7 (objs:List Obj) (K:KT) :
  (∀ n,aL D 42 (.addr (au n)) 0 objs K=K (.addr (.int .i64 n.kind)) objs 0)∧
  (∀ n,aL D 42 (.addr (au n)) 1 objs K=K (.addr (.int .i64 n.many)) objs 0)∧
  (∀ n,aL D 42 (.addr (au n)) 2 objs K=K (.addr (.str n.name)) objs 0)∧
  (∀ n,aL D 42 (.addr (au n)) 3 objs K=K (.addr (.str n.s)) objs 0)∧
  (∀ n,aL D 42 (.addr (au n)) 4 objs K=K (.addr (.bool n.neg)) objs 0)∧
  (∀ n,aL D 42 (.addr (au n)) 5 objs K=K (.addr (.int .i64 n.e)) objs 0):=by
 refine ⟨fun n=>?_,fun n=>?_,fun n=>?_,fun n=>?_,fun n=>?_,fun n=>?_⟩
 all_goals
  simp only [au,aL,dY,bR,↓KO,Ik,tH,qV,EP,HV,ne_eq,reduceCtorEq,not_false_eq_true,true_and,Bool.not_false,Bool.and_self,Nat.reduceAdd,Nat.reduceLeDiff,forall_const]
theorem Z8 :
  (∀ n,(au n).cells=[.int .i64 n.kind,.int .i64 n.many,.str n.name,.str n.s,.bool n.neg,.int .i64 n.e])∧
  (∀ n,(au n).isAgg=true)∧(∀ n,(au n).pure=true)∧(∀ d m O n,eP d m O (au n)=au n)∧(∀ d m O n,gL d m O (au n)=au n):=
 ⟨fun _=>rfl,fun _=>rfl,fun _=>rfl,fun _ _ _ _=>rfl,fun _ _ _ _=>rfl⟩
theorem W9 (a b:Nd):H7 Tryz.prog 42 (au a).cells (au b).cells:=
 Y1 (by kernel_rfl) (by kernel_rfl) (by kernel_rfl) (by
  have h:(Tryz.prog.fieldsOf 42).toList.map (fun f=>(f.name != "_",f.offset,Tryz.prog.underlying f.type))=[(true,0,some (.int .i64)),(true,1,some (.int .i64)),(true,2,some .string),(true,3,some .string),(true,4,some .bool),(true,5,some (.int .i64))]:=by kernel_rfl
  generalize (Tryz.prog.fieldsOf 42).toList=fs at h
  obtain _ | ⟨f0,_ | ⟨f1,_ | ⟨f2,_ | ⟨f3,_ | ⟨f4,_ | ⟨f5,_ | ⟨f6,fr⟩⟩⟩⟩⟩⟩⟩:=fs
  all_goals simp only [List.map_cons,List.map_nil,List.cons.injEq,Prod.mk.injEq,and_true,reduceCtorEq,and_false] at h
  obtain ⟨⟨a0,b0,c0⟩,⟨a1,b1,c1⟩,⟨a2,b2,c2⟩,⟨a3,b3,c3⟩,⟨a4,b4,c4⟩,⟨a5,b5,c5⟩⟩:=h
  simp only [vO,UK,au,PV.cells,a0,b0,c0,a1,b1,c1,a2,b2,c2,a3,b3,c3,a4,b4,c4,a5,b5,c5,Bool.and_true,BEq.rfl,decide_true,Nat.zero_add,Nat.reduceAdd])
theorem abW (a b:Nd):BQ (au a).cells (au b).cells=some (decide (a=b)):=by
 cases a;cases b
 simp only [au,PV.cells,BQ,Zz,if_true,Bool.and_true,Nd.mk.injEq,Option.some.injEq]
 rw [Bool.eq_iff_iff]
 simp
theorem W_ (ti:aG) (K:PV→Prop) :
  (∀ a b,pG Tryz.prog ti 42 .eql (au a) (au b) K=K (.bool (decide (a=b))))∧
  (∀ a b,pG Tryz.prog ti 42 .neq (au a) (au b) K=K (.bool (!decide (a=b))))∧
  (∀ a k m x y g e,pG Tryz.prog ti 42 .eql (au a) (.agg [.int .i64 k,.int .i64 m,.str x,.str y,.bool g,.int .i64 e]) K=K (.bool (decide (a=⟨k,m,x,y,g,e⟩)))):=by
 have h:∀ a b,pG Tryz.prog ti 42 .eql (au a) (au b) K=K (.bool (decide (a=b))):=fun a b=>by
  show (H7 Tryz.prog 42 (au a).cells (au b).cells∧∃ r,BQ (au a).cells (au b).cells=some r∧K (.bool r))=_
  rw [abW]
  simp [W9]
 refine ⟨h,fun a b=>?_,fun a k m x y g e=>h a ⟨k,m,x,y,g,e⟩⟩
 show (H7 Tryz.prog 42 (au a).cells (au b).cells∧∃ r,BQ (au a).cells (au b).cells=some r∧K (.bool (!r)))=_
 rw [abW]
 simp [W9]
theorem Z9 (n:Nd) :
  (∀ x,(au n).putCells 0 [.int .i64 x]=au { n with kind:=x })∧(∀ x,(au n).putCells 1 [.int .i64 x]=au { n with many:=x })∧
  (∀ x,(au n).putCells 2 [.str x]=au { n with name:=x })∧(∀ x,(au n).putCells 3 [.str x]=au { n with s:=x })∧
  (∀ x,(au n).putCells 4 [.bool x]=au { n with neg:=x })∧(∀ x,(au n).putCells 5 [.int .i64 x]=au { n with e:=x }):=
 ⟨fun _=>rfl,fun _=>rfl,fun _=>rfl,fun _=>rfl,fun _=>rfl,fun _=>rfl⟩
theorem Z_ (k m:Int) (x y:List UInt8) (g:Bool) (e:Int):PV.agg [.int .i64 k,.int .i64 m,.str x,.str y,.bool g,.int .i64 e]=au ⟨k,m,x,y,g,e⟩:=rfl
theorem aac (objs:List Obj) (K:KT) :
  (∀ k,bD D 42 [(0,.int .i64 k)] objs K=K (au ⟨k,0,[],[],false,0⟩) objs 0)∧
  (∀ k m,bD D 42 [(0,.int .i64 k),(1,.int .i64 m)] objs K=K (au ⟨k,m,[],[],false,0⟩) objs 0)∧
  (∀ k s,bD D 42 [(0,.int .i64 k),(3,.str s)] objs K=K (au ⟨k,0,[],s,false,0⟩) objs 0)∧
  (∀ k s g e,bD D 42 [(0,.int .i64 k),(3,.str s),(4,.bool g),(5,.int .i64 e)] objs K=K (au ⟨k,0,[],s,g,e⟩) objs 0):=by
 have z:aK (D 42)=au ⟨0,0,[],[],false,0⟩:=by kernel_rfl
 have a:(D 42).agg=true:=by kernel_rfl
 simp only [bR] at z a
 refine ⟨fun k=>?_,fun k m=>?_,fun k s=>?_,fun k s g e=>?_⟩
 all_goals
  simp [bD,mP,a,z,bR,nO,au,PV.isAgg,sU,PV.cells,PV.storable,PV.mH,PV.pure]
theorem aad :
  (∀ n0,PV.sl 6 [au n0] none=aD [n0])∧
  (∀ n0 n1,PV.sl 6 [au n0,au n1] none=aD [n0,n1])∧
  (∀ n0 n1 n2,PV.sl 6 [au n0,au n1,au n2] none=aD [n0,n1,n2])∧
  (∀ s0,PV.sl 1 [PV.str s0] none=cZ [s0])∧
  (∀ s0 s1,PV.sl 1 [PV.str s0,PV.str s1] none=cZ [s0,s1])∧
  (∀ s0 s1 s2,PV.sl 1 [PV.str s0,PV.str s1,PV.str s2] none=cZ [s0,s1,s2])∧
  (∀ i0,PV.sl 1 [PV.int .i64 i0] none=encI [i0])∧
  (∀ i0 i1,PV.sl 1 [PV.int .i64 i0,PV.int .i64 i1] none=encI [i0,i1])∧
  (∀ i0 i1 i2,PV.sl 1 [PV.int .i64 i0,PV.int .i64 i1,PV.int .i64 i2] none=encI [i0,i1,i2])∧
  (∀ v0,PV.sl 1 [aD v0] none=dK [v0])∧
  (∀ v0 v1,PV.sl 1 [aD v0,aD v1] none=dK [v0,v1])∧
  (∀ v0 v1 v2,PV.sl 1 [aD v0,aD v1,aD v2] none=dK [v0,v1,v2])∧
  (∀ g0,PV.sl 1 [encI g0] none=NK [g0])∧
  (∀ g0 g1,PV.sl 1 [encI g0,encI g1] none=NK [g0,g1])∧
  (∀ g0 g1 g2,PV.sl 1 [encI g0,encI g1,encI g2] none=NK [g0,g1,g2]):=
 ⟨fun _=>rfl,fun _ _=>rfl,fun _ _ _=>rfl,fun _=>rfl,fun _ _=>rfl,fun _ _ _=>rfl,fun _=>rfl,fun _ _=>rfl,fun _ _ _=>rfl,fun _=>rfl,fun _ _=>rfl,fun _ _ _=>rfl,fun _=>rfl,fun _ _=>rfl,fun _ _ _=>rfl⟩
theorem inN:uN au:=by intro d n o x;cases d <;> rfl
theorem inV:uN aD:=by intro d n o x;cases d <;> rfl
theorem inS:uN PV.str:=by intro d n o x;cases d <;> rfl
theorem inI:uN (PV.int .i64):=by intro d n o x;cases d <;> rfl
theorem inG:uN encI:=by intro d n o x;cases d <;> rfl
theorem abX :
  type_of% (jq hV)∧
  type_of% (jq hT)∧
  type_of% (jq hL)∧
  type_of% (jq hI)∧
  type_of% (jq hG)∧
  type_of% (aN vP)∧
  type_of% (aN rQ)∧
  type_of% (aN vQ)∧
  type_of% (aN vS)∧
  type_of% (aN vR)∧
  type_of% (aN Az):=
 ⟨jq hV,jq hT,jq hL,jq hI,jq hG,aN vP,aN rQ,aN vQ,aN vS,aN vR,aN Az⟩
theorem aae :
  type_of% (Z7)∧
  type_of% (Z8)∧
  type_of% (W_)∧
  type_of% (Z9)∧
  type_of% (Z_)∧
  type_of% (aac)∧
  type_of% (aad)∧
  type_of% (rO hV)∧
  type_of% (rO hT)∧
  type_of% (rO hL)∧
  type_of% (rO hI)∧
  type_of% (rO hG)∧
  type_of% (jq hV)∧
  type_of% (jq hT)∧
  type_of% (jq hL)∧
  type_of% (jq hI)∧
  type_of% (jq hG)∧
  type_of% (rP hV)∧
  type_of% (rP hT)∧
  type_of% (rP hL)∧
  type_of% (rP hI)∧
  type_of% (rP hG)∧
  type_of% (aN vP)∧
  type_of% (aN rQ)∧
  type_of% (aN vQ)∧
  type_of% (aN vS)∧
  type_of% (aN vR)∧
  type_of% (aN Az)∧
  type_of% (iH hV inN)∧
  type_of% (iH hT inS)∧
  type_of% (iH hL inV)∧
  type_of% (iH hI inI)∧
  type_of% (iH hG inG)∧
  type_of% (qQ (enc:=au) (sz:=6) (fun _=>rfl) (fun _=>rfl))∧
  type_of% (qQ (enc:=aD) (sz:=1) (fun _=>rfl) (fun _=>rfl))∧
  type_of% (qQ (enc:=PV.str) (sz:=1) (fun _=>rfl) (fun _=>rfl))∧
  type_of% (qQ (enc:=(PV.int .i64)) (sz:=1) (fun _=>rfl) (fun _=>rfl))∧
  type_of% (qQ (enc:=encI) (sz:=1) (fun _=>rfl) (fun _=>rfl))∧
  type_of% (qQ (enc:=PV.bool) (sz:=1) (fun _=>rfl) (fun _=>rfl))∧
  type_of% (fun (l:Vl) (k:Nat)=>JM (aD l) rfl k)∧
  type_of% (fun (l:List (List UInt8)) (k:Nat)=>JM (cZ l) rfl k)∧
  type_of% (fun (l:List Vl) (k:Nat)=>JM (dK l) rfl k)∧
  type_of% (fun (l:List Int) (k:Nat)=>JM (encI l) rfl k)∧
  type_of% (fun (l:List (List Int)) (k:Nat)=>JM (NK l) rfl k)∧
  type_of% (fun (z:Nat) (xs:List PV) (q:Option Bool) (k:Nat)=>JM (.sl z xs q) rfl k):=
 ⟨Z7,Z8,W_,Z9,Z_,aac,aad,rO hV,rO hT,rO hL,rO hI,rO hG,jq hV,jq hT,jq hL,jq hI,jq hG,rP hV,rP hT,rP hL,rP hI,rP hG,aN vP,aN rQ,aN vQ,aN vS,aN vR,aN Az,iH hV inN,iH hT inS,iH hL inV,iH hI inI,iH hG inG,qQ (enc:=au) (sz:=6) (fun _=>rfl) (fun _=>rfl),qQ (enc:=aD) (sz:=1) (fun _=>rfl) (fun _=>rfl),qQ (enc:=PV.str) (sz:=1) (fun _=>rfl) (fun _=>rfl),qQ (enc:=(PV.int .i64)) (sz:=1) (fun _=>rfl) (fun _=>rfl),qQ (enc:=encI) (sz:=1) (fun _=>rfl) (fun _=>rfl),qQ (enc:=PV.bool) (sz:=1) (fun _=>rfl) (fun _=>rfl),fun (l:Vl) (k:Nat)=>JM (aD l) rfl k,fun (l:List (List UInt8)) (k:Nat)=>JM (cZ l) rfl k,fun (l:List Vl) (k:Nat)=>JM (dK l) rfl k,fun (l:List Int) (k:Nat)=>JM (encI l) rfl k,fun (l:List (List Int)) (k:Nat)=>JM (NK l) rfl k,fun (z:Nat) (xs:List PV) (q:Option Bool) (k:Nat)=>JM (.sl z xs q) rfl k⟩
theorem aB:type_of% @abT∧type_of% @abX∧type_of% @abU:=⟨@abT,@abX,@abU⟩
theorem aC:type_of% @Z4∧type_of% @Z5∧type_of% @aae∧type_of% bR∧type_of% @abV:=⟨@Z4,@Z5,@aae,bR,@abV⟩
end Lp
