/-
  Part 3 of what the statement rests on: LpN, LpNb, LpO, LpP, LpT, LpQ, LpR, LpS, LpGen, LpI1, LpC1, LpC2, LpC4, LpC5, LpC6, LpY, LpU, LpZ, LpEq. No condition.
-/
import Derived.Test.YtgfdogdnlgfcpaaGreatDoorLp2
import Derived.RangeFuncRecord
import Derived.RangeFuncLeaves
import Derived.KernelRfl
import Derived.Test.YtgfdogdnlgfcpaaGreatDoorProg
import Derived.Laws.StructEq

set_option linter.all false
set_option maxHeartbeats 8000000
set_option maxRecDepth 100000
namespace Lp
open Go
open Option (bind_some getD_some map_some)
variable {P:Program}{D:TypeId→aD}{l:Option Nat}
structure IG where
 r:PV
 objs:List Obj
 t:Nat
 deriving Inhabited
def jg (ops:List Oper) (g:Option (Nat×Bool)) (tmps:List PV):Option Bool:=
 match g with
 | none=>some true
 | some (j,want)=>
  match (ops[j]?).bind (·.dst) with
  | none=>none
  | some d=>
   match tmps.getD d .dead with
   | .bool b=>some (b==want)
   | .b_ []=>some false
   | _=>none
theorem Da {ops:List Oper}{g:Option (Nat×Bool)}{S:St}{X Y:St→Prop}(h:oW ops g S X Y) :
  (jg ops g S.tmps=some true∧X S)∨(jg ops g S.tmps=some false∧Y S):=by
 unfold oW at h
 unfold jg
 split at h
 · exact .inl ⟨rfl,h⟩
 · rename_i j want
   simp only []
   split at h
   · exact h.elim
   · rename_i d hd
     rw [hd]
     simp only []
     split at h
     · rename_i b hb
       rw [hb]
       by_cases hbw:b=want
       · left
         have:=h.1 hbw
         rw [AR (by rw [hb,hbw]) (by simp)] at this
         exact ⟨by simp [hbw],this⟩
       · right
         have hbn:b=!want:=by cases b <;> cases want <;> simp_all
         have:=h.2 hbn
         rw [AR (by rw [hb,hbn]) (by simp)] at this
         exact ⟨by simp [hbn],this⟩
     · rename_i hb
       rw [hb]
       exact .inr ⟨rfl,h⟩
     · exact h.elim
theorem Db {ops:List Oper}{g:Option (Nat×Bool)}{S:St}{b:Bool}(h:jg ops g S.tmps=some b) :
  oW ops g S (fun _=>b=true) (fun _=>b=false):=by
 unfold jg at h
 unfold oW
 split at h
 · simpa using h.symm
 · rename_i j want
   simp only []
   split at h
   · cases h
   · rename_i d hd
     rw [hd]
     simp only []
     split at h
     · rename_i b0 hb
       rw [hb]
       simp only [Option.some.injEq] at h
       subst h
       exact ⟨fun e=>by simp [e],fun e=>by simp [e]⟩
     · rename_i hb
       rw [hb]
       simpa using h.symm
     · cases h
theorem pE {ops:List Oper}{base ak:Nat→Prop}{w0:Wz}{S:St}{blk:Nat→Option Nat}{a:Act}{w:World}{b:Bool}{o:Oper}
  (R:Rel base ak w0 S blk a w) (h:jg ops o.guard S.tmps=some b):Region.wanted o (yielded ops.toArray a.tmps)=b:=by
 rcases wJ R (Db h) o rfl with ⟨h1,h2⟩ | ⟨h1,h2⟩ <;> rw [h1,h2]
def rR (P:Program) (D:TypeId→aD) (own:Bool) (ops:List Oper) (o:Oper) (S:St) (e:IG):Prop:=
 (jg ops o.guard S.tmps=some true∧(co e.t≠2→e.objs=S.objs)∧(∀ K:KT,K e.r e.objs e.t→IE P D own S.ev S.objs o.op K)∧
  (e.t=0→∀ (dR:List Obj) (K:KT),K e.r dR 0→IE P D own S.ev dR o.op K)∧aaA (fun ob K=>IE P D own S.ev ob o.op K) S.objs e.r e.objs e.t)∨
 (jg ops o.guard S.tmps=some false∧e.r=.b_ []∧e.objs=S.objs∧e.t=0)
def Trace (P:Program) (D:TypeId→aD) (own:Nat→Bool) (ops:List Oper):List Oper→Nat→St→List IG→St→Prop
 | [],_,S,tr,S'=>tr=[]∧S'=S
 | o::rest,i,S,tr,S'=>∃ e tr',tr=e::tr'∧rR P D (own i) ops o S e∧Trace P D own ops rest (i+1) (St.put ⟨S.tmps,e.objs⟩ o.dst e.r) tr' S'
theorem mI {own:Nat→Bool}{ops:List Oper}:∀ (qN:List Oper) (i:Nat) (S:St) (ts:List Nat) (K:St→List Nat→Prop),ql P D own ops qN i S ts K→
  ∃ tr S',Trace P D own ops qN i S tr S'∧K S' (ts++tr.map (·.t))
 | [],i,S,ts,K,h=>⟨[],S,⟨rfl,rfl⟩,by simpa [ql] using h⟩
 | o::rest,i,S,ts,K,h=>by
  unfold ql at h
  rcases Da h with ⟨hw,hx⟩ | ⟨hw,hy⟩
  · obtain ⟨r,ob,t,h1,h2,h3,h4,h4b⟩:=Ut hx
    obtain ⟨tr,S',h5,h6⟩:=mI rest _ _ _ K h1
    refine ⟨⟨r,ob,t⟩::tr,S',⟨_,_,rfl,.inl ⟨hw,h2,h3,h4,h4b⟩,h5⟩,by simpa using h6⟩
  · obtain ⟨tr,S',h5,h6⟩:=mI rest _ _ _ K hy
    refine ⟨⟨.b_ [],S.objs,0⟩::tr,S',⟨_,_,rfl,.inr ⟨hw,rfl,rfl,rfl⟩,?_⟩,by simpa using h6⟩
    exact h5
def pF (dst:Option Nat) (r:PV) (tm:List PV):List PV:=
 match dst with
 | some d=>tm.set d r
 | none=>tm
section
variable (dst:Nat→Option Nat) (en:Nat→IG)
def Gs (X:Nat→Bool):Nat→List PV→List PV
 | 0,tm=>tm
 | n+1,tm=>if X n then pF (dst n) (en n).r (Gs X n tm) else Gs X n tm
def oQ (X:Nat→Bool):Nat→List Obj→List Obj
 | 0,ob=>ob
 | n+1,ob=>if X n && co (en n).t==2 then (en n).objs else oQ X n ob
def upd (X:Nat→Bool) (i:Nat) (j:Nat):Bool:=X j || j==i
variable {dst en}
theorem nM {X Y:Nat→Bool}:∀ (n:Nat) (tm:List PV),(∀ j,j<n→X j=Y j)→Gs dst en X n tm=Gs dst en Y n tm
 | 0,_,_=>rfl
 | n+1,tm,h=>by simp only [Gs];rw [h n (by omega),nM n tm (fun j hj=>h j (by omega))]
theorem pY {X Y:Nat→Bool}:∀ (n:Nat) (ob:List Obj),(∀ j,j<n→co (en j).t=2→X j=Y j)→oQ en X n ob=oQ en Y n ob
 | 0,_,_=>rfl
 | n+1,ob,h=>by
  simp only [oQ]
  rw [pY n ob (fun j hj=>h j (by omega))]
  by_cases ht:co (en n).t=2
  · rw [h n (by omega) ht]
  · simp [ht]
theorem Og (d:Option Nat) (r:PV) (tm:List PV):(pF d r tm).length=tm.length:=by cases d <;> simp [pF]
theorem zI (X:Nat→Bool):∀ (n:Nat) (tm:List PV),(Gs dst en X n tm).length=tm.length
 | 0,_=>rfl
 | n+1,tm=>by simp only [Gs];split <;> simp [Og,zI X n tm]
theorem AU {d:Option Nat}{x:Nat}(h:d≠some x) (r:PV) (tm:List PV):(pF d r tm).getD x .dead=tm.getD x .dead:=by
 cases d with
 | none=>rfl
 | some d=>
  have:d≠x:=fun e=>h (by rw [e])
  simp [pF,List.getD_eq_getElem?_getD,List.getElem?_set_ne this]
theorem ER {d:Option Nat}{x:Nat}{r:PV}{tm tm':List PV}(hl:tm.length=tm'.length) (h:tm.getD x .dead=tm'.getD x .dead):(pF d r tm).getD x .dead=(pF d r tm').getD x .dead:=by
 cases d with
 | none=>exact h
 | some d=>
  by_cases hd:d=x
  · subst hd
    simp [pF,List.getD_eq_getElem?_getD,List.getElem?_set,hl]
  · simpa [pF,List.getD_eq_getElem?_getD,List.getElem?_set_ne hd] using h
theorem Gt {X Y:Nat→Bool}{x:Nat}:∀ (n:Nat) (tm:List PV),(∀ j,j<n→dst j=some x→X j=Y j)→(Gs dst en X n tm).getD x .dead=(Gs dst en Y n tm).getD x .dead
 | 0,_,_=>rfl
 | n+1,tm,h=>by
  have ih:=Gt (X:=X) (Y:=Y) (x:=x) n tm (fun j hj=>h j (by omega))
  simp only [Gs]
  by_cases hd:dst n=some x
  · rw [h n (by omega) hd]
    split
    · exact ER (by rw [zI,zI]) ih
    · exact ih
  · split <;> split <;> (try rw [AU hd]) <;> (try rw [AU hd]) <;> exact ih
theorem VK {d d':Option Nat}{r r':PV}{tm:List PV}(h:∀ x,d=some x→d'≠some x):pF d r (pF d' r' tm)=pF d' r' (pF d r tm):=by
 cases d with
 | none=>rfl
 | some x=>
  cases d' with
  | none=>rfl
  | some y=>
   have hxy:y≠x:=fun e=>h x rfl (by rw [e])
   simp only [pF]
   exact List.set_comm _ _ hxy
theorem Lc {X:Nat→Bool}{i:Nat}:∀ (n:Nat) (tm:List PV),i<n→X i=false→(∀ j,i<j→j<n→X j=true→∀ x,dst i=some x→dst j≠some x)→
  pF (dst i) (en i).r (Gs dst en X n tm)=Gs dst en (upd X i) n tm
 | 0,_,h,_,_=>by omega
 | n+1,tm,hi,hx,hd=>by
  simp only [Gs]
  by_cases hin:i=n
  · subst hin
    simp only [hx,upd,beq_self_eq_true,Bool.or_true,if_true,Bool.false_eq_true,if_false]
    rw [nM (Y:=upd X i) i tm (fun j hj=>by simp [upd];omega)]
  · have ih:=Lc (X:=X) n tm (by omega) hx (fun j h1 h2=>hd j h1 (by omega))
    have hu:upd X i n=X n:=by simp [upd];omega
    rw [hu]
    split
    · rename_i hn
      rw [← ih,VK (fun x hx'=>hd n (by omega) (by omega) hn x hx')]
    · exact ih
theorem Ld {X:Nat→Bool}{i:Nat}:∀ (n:Nat) (ob:List Obj),i<n→co (en i).t=2→(∀ j,i<j→j<n→X j=true→co (en j).t≠2)→oQ en (upd X i) n ob=(en i).objs
 | 0,_,h,_,_=>by omega
 | n+1,ob,hi,ht,hd=>by
  simp only [oQ]
  by_cases hin:i=n
  · subst hin
    simp [upd,ht]
  · have hu:upd X i n=X n:=by simp [upd];omega
    rw [hu]
    cases hn:X n with
    | false=>simpa using Ld n ob (by omega) ht (fun j h1 h2=>hd j h1 (by omega))
    | true=>
     have:=hd n (by omega) (by omega) hn
     simpa [this] using Ld n ob (by omega) ht (fun j h1 h2=>hd j h1 (by omega))
def cnt (X:Nat→Bool):Nat→Nat
 | 0=>0
 | n+1=>cnt X n+if X n then 0 else 1
theorem Kl {X Y:Nat→Bool}:∀ (n:Nat),(∀ j,j<n→X j=Y j)→cnt X n=cnt Y n
 | 0,_=>rfl
 | n+1,h=>by simp only [cnt];rw [h n (by omega),Kl n (fun j hj=>h j (by omega))]
theorem Le {X:Nat→Bool}{i:Nat}:∀ (n:Nat),i<n→X i=false→cnt (upd X i) n+1=cnt X n
 | 0,h,_=>by omega
 | n+1,hi,hx=>by
  simp only [cnt]
  by_cases hin:i=n
  · subst hin
    rw [Kl (Y:=upd X i) (X:=X) i (fun j hj=>by simp [upd];omega)]
    simp [upd,hx]
  · have:=Le (X:=X) n (by omega) hx
    have hu:upd X i n=X n:=by simp [upd];omega
    rw [hu];omega
theorem Gu {X:Nat→Bool}:∀ (n:Nat),cnt X n=0→∀ j,j<n→X j=true
 | 0,_,j,h=>by omega
 | n+1,h,j,hj=>by
  simp only [cnt] at h
  by_cases hjn:j=n
  · subst hjn
    cases hx:X j with
    | true=>rfl
    | false=>simp [hx] at h
  · exact Gu n (by omega) j (by omega)
end
def jB (ops:List Oper) (o:Oper):List Nat:=
 (o.op.operands.toList.filterMap fun | .tmp t=>some t | _=>none)++
 (match o.guard with
  | some (g,_)=>((ops[g]?).bind (·.dst)).toList
  | none=>[])
def Dc (acc:List Nat) (o:Oper):Nat:=
 o.after.toList.foldl (fun m e=>if Region.binds .any e then (m ||| (1 <<<e.on)) ||| acc.getD e.on 0 else m) 0
def masks:List Oper→List Nat→List Nat
 | [],acc=>acc
 | o::rest,acc=>masks rest (acc++[Dc acc o])
def clash (dj di:Option Nat) (lj li:List Nat) (tj ti:Nat):Bool:=
 (match dj with
  | some d=>li.contains d || di==some d
  | none=>false) ||
 (match di with
  | some d=>lj.contains d
  | none=>false) ||
 (tj==2 && ti !=0) || (ti==2 && tj !=0)
def uP (ops:List Oper) (ts:List Nat):Bool:=
 let ms:=masks ops []
 let ls:=ops.map (jB ops)
 (List.range ops.length).all fun i=>
  match ops[i]? with
  | none=>true
  | some o=>
   (o.after.toList.all fun e=>!Region.binds .any e || decide (e.on<i)) &&
   (ms.getD i 0 &&& Dc ms o==ms.getD i 0) &&
   (List.range i).all fun j=>
    !clash ((ops[j]?).bind (·.dst)) o.dst (ls.getD j []) (ls.getD i []) (co (ts.getD j 0)) (co (ts.getD i 0)) || (ms.getD i 0).testBit j
theorem Gv {acc:List Nat}{o:Oper}{j:Nat}(h:(Dc acc o).testBit j=true) :
  ∃ e ∈ o.after.toList,Region.binds .any e=true∧(j=e.on∨(acc.getD e.on 0).testBit j=true):=by
 unfold Dc at h
 have key:∀ (es:List Edge) (m:Nat),(es.foldl (fun m e=>if Region.binds .any e then (m ||| (1 <<<e.on)) ||| acc.getD e.on 0 else m) m).testBit j=true→
     m.testBit j=true∨∃ e ∈ es,Region.binds .any e=true∧(j=e.on∨(acc.getD e.on 0).testBit j=true):=by
  intro es
  induction es with
  | nil=>intro m h;exact .inl h
  | cons e es ih=>
   intro m h
   rw [List.foldl_cons] at h
   rcases ih _ h with h | ⟨e',h1,h2⟩
   · split at h
     · rename_i hb
       rw [Nat.testBit_or,Nat.testBit_or] at h
       simp only [Bool.or_eq_true] at h
       rcases h with (h | h) | h
       · exact .inl h
       · rw [Nat.one_shiftLeft,Nat.testBit_two_pow] at h
         exact .inr ⟨e,List.mem_cons_self,hb,.inl (of_decide_eq_true h).symm⟩
       · exact .inr ⟨e,List.mem_cons_self,hb,.inr h⟩
     · exact .inl h
   · exact .inr ⟨e',List.mem_cons_of_mem _ h1,h2⟩
 rcases key _ _ h with h | h
 · simp at h
 · exact h
structure Ru (ops:List Oper) (ts:List Nat) (ms:List Nat):Prop where
 back:∀ (i:Nat) (o:Oper),ops[i]?=some o→∀ e ∈ o.after.toList,Region.binds .any e=true→e.on<i
 mask:∀ (i:Nat) (o:Oper),ops[i]?=some o→∀ j,(ms.getD i 0).testBit j=true→∃ e ∈ o.after.toList,Region.binds .any e=true∧(j=e.on∨(ms.getD e.on 0).testBit j=true)
 ord:∀ (i:Nat) (o:Oper) (j:Nat) (p:Oper),ops[i]?=some o→ops[j]?=some p→j<i→clash p.dst o.dst (jB ops p) (jB ops o) (co (ts.getD j 0)) (co (ts.getD i 0))=true→(ms.getD i 0).testBit j=true
theorem Ee {ops:List Oper}{ts:List Nat}(h:uP ops ts=true):Ru ops ts (masks ops []):=by
 unfold uP at h
 simp only [List.all_eq_true,List.mem_range] at h
 have hh:∀ i o,ops[i]?=some o→_:=fun i o ho=>by
  have:=h i (List.getElem?_eq_some_iff.1 ho).1
  rw [ho] at this
  simp only [Bool.and_eq_true,List.all_eq_true,List.mem_range,beq_iff_eq] at this
  exact this
 refine ⟨fun i o ho e he hb=>by simpa [hb] using (hh i o ho).1.1 e he,fun i o ho j hj=>?_,fun i o j p ho hp hji hc=>?_⟩
 · refine Gv ?_
   have h2:=(hh i o ho).1.2
   rw [← h2,Nat.testBit_and] at hj
   simp only [Bool.and_eq_true] at hj
   exact hj.2
 · have h3:=(hh i o ho).2 j hji
   have hlt:=(List.getElem?_eq_some_iff.1 hp).1
   have e1:(ops.map (jB ops)).getD j []=jB ops p:=by rw [List.getD_eq_getElem?_getD,List.getElem?_map,hp];rfl
   have e2:(ops.map (jB ops)).getD i []=jB ops o:=by rw [List.getD_eq_getElem?_getD,List.getElem?_map,ho];rfl
   rw [e1,e2,hp] at h3
   simp only [bind_some,hc,Bool.not_true,Bool.false_or] at h3
   exact h3
def qm (ops:List Oper) (i:Nat):Option Nat:=(ops[i]?).bind (·.dst)
def aO (tr:List IG) (i:Nat):IG:=tr.getD i default
def l7 (ops:List Oper) (tr:List IG) (S:St) (X:Nat→Bool) (n:Nat):St:=⟨Gs (qm ops) (aO tr) X n S.tmps,oQ (aO tr) X n S.objs⟩
theorem wL {own:Nat→Bool}{ops:List Oper}{S0:St}{tr0:List IG}:∀ (qN:List Oper) (k:Nat) (S:St) (tr:List IG) (S':St),Trace P D own ops qN k S tr S'→
  (∀ j,qN[j]?=ops[k+j]?)→(∀ j,tr[j]?=tr0[k+j]?)→S=l7 ops tr0 S0 (fun _=>true) k→
  (∀ i o,k≤i→ops[i]?=some o→rR P D (own i) ops o (l7 ops tr0 S0 (fun _=>true) i) (aO tr0 i))∧S'=l7 ops tr0 S0 (fun _=>true) (k+qN.length)
 | [],k,S,tr,S',h,hl,ht,hs=>by
  refine ⟨fun i o hi ho=>?_,by rw [h.2,hs];rfl⟩
  have:=hl (i-k)
  rw [show k+(i-k)=i by omega,ho] at this
  simp at this
 | o::rest,k,S,tr,S',h,hl,ht,hs=>by
  obtain ⟨e,tr',rfl,h1,h2⟩:=h
  have ho:ops[k]?=some o:=by simpa using (hl 0).symm
  have he:aO tr0 k=e:=by
   have:=ht 0
   simp only [List.getElem?_cons_zero,Nat.add_zero] at this
   simp [aO,List.getD_eq_getElem?_getD,← this]
  have hst:St.put ⟨S.tmps,e.objs⟩ o.dst e.r=l7 ops tr0 S0 (fun _=>true) (k+1):=by
   have e1:(l7 ops tr0 S0 (fun _=>true) (k+1)).tmps=pF o.dst e.r S.tmps:=by
    simp only [l7,Gs,if_true,he,qm,ho,bind_some]
    rw [hs];rfl
   have e2:(l7 ops tr0 S0 (fun _=>true) (k+1)).objs=e.objs:=by
    simp only [l7,oQ,he,Bool.true_and]
    have hso:S.objs=oQ (aO tr0) (fun _=>true) k S0.objs:=by rw [hs];rfl
    split
    · rfl
    · rename_i hne
      have hne:co e.t≠2:=by simpa using hne
      rcases h1 with ⟨_,h1,_⟩ | ⟨_,_,h1,_⟩
      · rw [h1 hne,hso]
      · rw [h1,hso]
   cases hd:o.dst with
   | none=>rw [hd] at e1;simp only [St.put,pF] at e1 ⊢;rw [← e1,← e2]
   | some d=>rw [hd] at e1;simp only [St.put,pF] at e1 ⊢;rw [← e1,← e2]
  obtain ⟨h3,h4⟩:=wL rest (k+1) _ tr' S' h2 (fun j=>by have:=hl (j+1);simpa [Nat.add_assoc,Nat.add_comm 1 j] using this)
   (fun j=>by have:=ht (j+1);simpa [Nat.add_assoc,Nat.add_comm 1 j] using this) hst
  refine ⟨fun i o' hi ho'=>?_,by rw [h4,List.length_cons];congr 1;omega⟩
  by_cases hik:i=k
  · subst hik
    rw [ho] at ho'
    cases ho'
    rw [he,← hs];exact h1
  · exact h3 i o' (by omega) ho'
theorem Df {dst:Nat→Option Nat}{en:Nat→IG}{i:Nat}:∀ (n:Nat) (tm:List PV),i≤n→Gs dst en (fun j=>decide (j<i)) n tm=Gs dst en (fun _=>true) i tm
 | 0,_,h=>by have:i=0:=by omega
             subst this;rfl
 | n+1,tm,h=>by
  by_cases hi:i=n+1
  · subst hi
    exact nM (n+1) tm fun j hj=>by simp [hj]
  · simp only [Gs]
    rw [if_neg (by simp;omega)]
    exact Df n tm (by omega)
theorem Km {en:Nat→IG}{i:Nat}:∀ (n:Nat) (ob:List Obj),i≤n→oQ en (fun j=>decide (j<i)) n ob=oQ en (fun _=>true) i ob
 | 0,_,h=>by have:i=0:=by omega
             subst this;rfl
 | n+1,tm,h=>by
  by_cases hi:i=n+1
  · subst hi
    exact pY (n+1) tm fun j hj _=>by simp [hj]
  · simp only [oQ]
    rw [if_neg (by simp;omega)]
    exact Km n tm (by omega)
theorem Gw {dj di:Option Nat}{lj li:List Nat}{tj ti x:Nat}(h:dj=some x) (hx:x ∈ li):clash dj di lj li tj ti=true:=by simp [clash,h,hx]
theorem Ef {dj di:Option Nat}{lj li:List Nat}{tj ti x:Nat}(h:di=some x) (hx:x ∈ lj):clash dj di lj li tj ti=true:=by simp [clash,h,hx]
theorem Kn {dj di:Option Nat}{lj li:List Nat}{tj ti x:Nat}(h:dj=some x) (hx:di=some x):clash dj di lj li tj ti=true:=by simp [clash,h,hx]
theorem Uu {dj di:Option Nat}{lj li:List Nat}{tj ti:Nat}(h:tj=2) (hx:ti≠0):clash dj di lj li tj ti=true:=by simp [clash,h,hx]
theorem Ye {dj di:Option Nat}{lj li:List Nat}{tj ti:Nat}(h:ti=2) (hx:tj≠0):clash dj di lj li tj ti=true:=by simp [clash,h,hx]
theorem Lf {own:Bool}{ops:List Oper}{o:Oper}{S S':St}{e:IG}(h:rR P D own ops o S e) (hx:∀ x ∈ jB ops o,S.tmps.getD x .dead=S'.tmps.getD x .dead) (ho:e.t≠0→S.objs=S'.objs) :
  (jg ops o.guard S'.tmps=some true∧(co e.t≠2→e.t≠0→e.objs=S'.objs)∧IE P D own S'.ev S'.objs o.op (fun r objs' t=>r=e.r∧t=e.t∧(e.t=0→objs'=S'.objs)∧(e.t≠0→objs'=e.objs)))∨
  (jg ops o.guard S'.tmps=some false∧e.r=.b_ []∧e.t=0):=by
 have hev:∀ x ∈ o.op.operands,S.ev x=S'.ev x:=by
  intro x hm
  cases x with
  | tmp t=>exact hx t (List.mem_append_left _ (List.mem_filterMap.2 ⟨.tmp t,by simpa using hm,rfl⟩))
  | _=>rfl
 have hg:jg ops o.guard S.tmps=jg ops o.guard S'.tmps:=by
  cases hgd:o.guard with
  | none=>rfl
  | some g=>
   obtain ⟨j,want⟩:=g
   simp only [jg]
   cases hd:(ops[j]?).bind (·.dst) with
   | none=>rfl
   | some d=>
    simp only []
    rw [hx d (List.mem_append_right _ (by rw [hgd];simp [hd]))]
 rcases h with ⟨h1,h2,h3,h4,_⟩ | ⟨h1,h2,h3,h4⟩
 · left
   refine ⟨hg ▸ h1,fun a b=>by rw [h2 a,ho b],?_⟩
   by_cases ht:e.t=0
   · exact xQ hev (h4 ht S'.objs _ ⟨rfl,ht.symm,fun _=>rfl,fun c=>absurd ht c⟩)
   · have:=xQ hev (h3 (fun r objs' t=>r=e.r∧t=e.t∧(e.t=0→objs'=S'.objs)∧(e.t≠0→objs'=e.objs)) ⟨rfl,rfl,fun c=>absurd c ht,fun _=>rfl⟩)
     rw [ho ht] at this
     exact this
 · exact .inr ⟨hg ▸ h1,h2,h4⟩
theorem VL {own:Nat→Bool}{ops:List Oper}{ts:List Nat}{ms:List Nat}{tr:List IG}{S0:St}(hD:∀ t,iN P t (D t)) (hok:Ru ops ts ms)
  (hts:∀ i,i<ops.length→ts.getD i 0=(aO tr i).t)
  (hst:∀ i o,ops[i]?=some o→rR P D (own i) ops o (l7 ops tr S0 (fun _=>true) i) (aO tr i))
  {X:Nat→Bool}{i:Nat}{o:Oper}(ho:ops[i]?=some o) (hX:X i=false) (hcl:∀ j,j<ops.length→X j=true→∀ x,(ms.getD j 0).testBit x=true→X x=true)
  (hrd:∀ x,(ms.getD i 0).testBit x=true→X x=true)
  {base ak:Nat→Prop}{w0:Wz}{blk:Nat→Option Nat}{a:Act}{w:World}(R:Rel base ak w0 (l7 ops tr S0 X ops.length) blk a w)
  {Q:Exit→Act→World→Prop}{K:Act→World→Prop}(hK:∀ au a' w',Rel base ak w0 (l7 ops tr S0 (upd X i) ops.length) au a' w'→K a' w') :
  wpOpIn (EO l) 0 P ops.toArray Q i K a w:=by
 have hi:i<ops.length:=(List.getElem?_eq_some_iff.1 ho).1
 have hdst:qm ops i=o.dst:=by simp [qm,ho]
 have Lg:∀ j,j<ops.length→∃ p,ops[j]?=some p∧qm ops j=p.dst:=fun j hj=>⟨ops[j],List.getElem?_eq_getElem hj,by simp [qm,List.getElem?_eq_getElem hj]⟩
 have before:∀ j p,ops[j]?=some p→j<i→clash p.dst o.dst (jB ops p) (jB ops o) (co (ts.getD j 0)) (co (ts.getD i 0))=true→X j=true:=
  fun j p hp hj hc=>hrd j (hok.ord i o j p ho hp hj hc)
 have behind:∀ j p,ops[j]?=some p→i<j→clash o.dst p.dst (jB ops o) (jB ops p) (co (ts.getD i 0)) (co (ts.getD j 0))=true→X j=false:=fun j p hp hj hc=>by
  cases hx:X j with
  | false=>rfl
  | true=>
   have:=hcl j (List.getElem?_eq_some_iff.1 hp).1 hx i (hok.ord j p i o hp ho hj hc)
   rw [hX] at this;cases this
 have Uv:∀ x ∈ jB ops o,(l7 ops tr S0 (fun _=>true) i).tmps.getD x .dead=(l7 ops tr S0 X ops.length).tmps.getD x .dead:=by
  intro x hx
  simp only [l7]
  rw [← Df (dst:=qm ops) ops.length S0.tmps (Nat.le_of_lt hi)]
  refine Gt _ _ fun j hj hd=>?_
  obtain ⟨p,hp,Yf⟩:=Lg j hj
  rw [Yf] at hd
  rcases Nat.lt_trichotomy j i with hji | hji | hji
  · rw [before j p hp hji (Gw hd hx)];simp [hji]
  · subst hji;rw [hX];simp
  · rw [behind j p hp hji (Ef hd hx)];simp;omega
 have oU:(aO tr i).t≠0→(l7 ops tr S0 (fun _=>true) i).objs=(l7 ops tr S0 X ops.length).objs:=by
  intro ht
  simp only [l7]
  rw [← Km ops.length S0.objs (Nat.le_of_lt hi)]
  refine pY _ _ fun j hj h2=>?_
  obtain ⟨p,hp,Yf⟩:=Lg j hj
  rcases Nat.lt_trichotomy j i with hji | hji | hji
  · rw [before j p hp hji (Uu (by rw [hts j hj];exact h2) (by rw [hts i hi];exact Us ht))];simp [hji]
  · subst hji;rw [hX];simp
  · rw [behind j p hp hji (Ye (by rw [hts j hj];exact h2) (by rw [hts i hi];exact Us ht))];simp;omega
 have hadd:pF o.dst (aO tr i).r (l7 ops tr S0 X ops.length).tmps=(l7 ops tr S0 (upd X i) ops.length).tmps:=by
  simp only [l7]
  rw [← hdst]
  refine Lc _ _ hi hX fun j hj hjn hxj x hx hd=>?_
  obtain ⟨p,hp,Yf⟩:=Lg j hjn
  rw [Yf] at hd
  rw [hdst] at hx
  have:=behind j p hp hj (Kn hx hd)
  rw [this] at hxj;cases hxj
 have aby:(l7 ops tr S0 (upd X i) ops.length).objs=if co (aO tr i).t=2 then (aO tr i).objs else (l7 ops tr S0 X ops.length).objs:=by
  simp only [l7]
  split
  · rename_i ht
    refine Ld _ _ hi ht fun j hj hjn hxj hj2=>?_
    obtain ⟨p,hp,Yf⟩:=Lg j hjn
    have:=behind j p hp hj (Uu (by rw [hts i hi];exact ht) (by rw [hts j hjn,hj2];decide))
    rw [this] at hxj;cases hxj
  · rename_i ht
    refine pY _ _ fun j hj h2=>?_
    have hne:j≠i:=fun e=>ht (e ▸ h2)
    simp [upd,hne]
 have hput:∀ objs',(objs'=(l7 ops tr S0 (upd X i) ops.length).objs)→St.put ⟨(l7 ops tr S0 X ops.length).tmps,objs'⟩ o.dst (aO tr i).r=l7 ops tr S0 (upd X i) ops.length:=by
  rintro objs' rfl
  cases hd:o.dst with
  | none=>rw [hd] at hadd;simp only [pF] at hadd;simp only [St.put];rw [hadd]
  | some d=>rw [hd] at hadd;simp only [pF] at hadd;simp only [St.put];rw [hadd]
 unfold wpOpIn
 have h0:ops.toArray[i]?=some o:=by simpa using ho
 rw [h0]
 simp only []
 rcases Lf (hst i o ho) Uv oU with ⟨h1,h2,h3⟩ | ⟨h1,h2,h3⟩
 · rw [if_pos (pE R h1)]
   refine AQ l hD R h3 fun r objs' t v w' au hr R' hv=>?_
   obtain ⟨rfl,rfl,e0,e1⟩:=hr
   have:=R'.put hv o.dst
   rw [hput objs' (by
    rw [aby]
    split
    · rename_i ht;exact e1 (fun hz=>by rw [hz] at ht;exact absurd ht (by decide))
    · rename_i ht
      by_cases hz:(aO tr i).t=0
      · exact e0 hz
      · rw [e1 hz];exact h2 ht hz)] at this
   exact hK _ _ _ this
 · rw [if_neg (by rw [pE R h1];simp)]
   refine ⟨fun _ _=>trivial,?_⟩
   have:=R.put (xR w _ _ blk) o.dst
   rw [← h2] at this
   have hs:=hput (l7 ops tr S0 X ops.length).objs (by rw [aby,if_neg (by rw [h3];decide)])
   rw [show (l7 ops tr S0 X ops.length).put o.dst (aO tr i).r=St.put ⟨(l7 ops tr S0 X ops.length).tmps,(l7 ops tr S0 X ops.length).objs⟩ o.dst (aO tr i).r from rfl,hs] at this
   exact hK _ _ _ this
theorem Gx {own:Nat→Bool}{ops:List Oper}{ts:List Nat}{ms:List Nat}{tr:List IG}{S0:St}(hD:∀ t,iN P t (D t)) (hok:Ru ops ts ms)
  (hts:∀ i,i<ops.length→ts.getD i 0=(aO tr i).t)
  (hst:∀ i o,ops[i]?=some o→rR P D (own i) ops o (l7 ops tr S0 (fun _=>true) i) (aO tr i))
  {base ak:Nat→Prop}{w0:Wz}{Q:Exit→Act→World→Prop}
  (hQ:∀ au a' w',Rel base ak w0 (l7 ops tr S0 (fun _=>true) ops.length) au a' w'→Q .normal a' w') :
  ∀ (fuel:Nat) (L:Array Bool) (blk:Nat→Option Nat) (a:Act) (w:World),L.size=ops.length→
   (∀ j,j<ops.length→L.getD j false=true→∀ x,(ms.getD j 0).testBit x=true→L.getD x false=true)→cnt (fun j=>L.getD j false) ops.length≤fuel→
   Rel base ak w0 (l7 ops tr S0 (fun j=>L.getD j false) ops.length) blk a w→wpAnyIn (EO l) 0 P .any ops.toArray Q fuel L a w:=by
 have full:∀ (L:Array Bool),L.size=ops.length→Region.ready .any ops.toArray L=[]→∀ i,i<ops.length→L.getD i false=true:=by
  intro L hsz hr i
  induction i using Nat.strongRecOn with
  | _ i ih=>
   intro hi
   cases hx:L.getD i false with
   | true=>rfl
   | false=>
    have hmem:i ∈ Region.ready .any ops.toArray L:=by
     simp only [Region.ready,List.mem_filter,List.mem_range,Bool.and_eq_true]
     refine ⟨by simpa using hi,?_,?_⟩
     · have hil:i<L.size:=by omega
       rw [Array.getD_eq_getD_getElem?,Array.getElem?_eq_getElem hil,getD_some] at hx ⊢
       rw [hx];rfl
     · have ho:ops.toArray[i]?=some ops[i]:=by simp [hi]
       rw [ho]
       simp only [map_some,getD_some]
       rw [Array.all_eq_true']
       intro e he
       cases hbd:Region.binds .any e with
       | false=>simp
       | true=>
        have hb:=hok.back i ops[i] (List.getElem?_eq_getElem hi) e (by simpa using he) hbd
        rw [ih e.on hb (by omega)];simp
    rw [hr] at hmem
    simp at hmem
 have step:∀ (L:Array Bool) (i:Nat),L.size=ops.length→i ∈ Region.ready .any ops.toArray L→∃ o,ops[i]?=some o∧L.getD i false=false∧∀ e ∈ o.after.toList,Region.binds .any e=true→L.getD e.on false=true:=by
  intro L i hsz hm
  simp only [Region.ready,List.mem_filter,List.mem_range,Bool.and_eq_true] at hm
  obtain ⟨hi,h1,h2⟩:=hm
  have hi:i<ops.length:=by simpa using hi
  have ho:ops.toArray[i]?=some ops[i]:=by simp [hi]
  rw [ho] at h2
  simp only [map_some,getD_some] at h2
  rw [Array.all_eq_true'] at h2
  refine ⟨ops[i],List.getElem?_eq_getElem hi,?_,fun e he hb=>?_⟩
  · have hil:i<L.size:=by omega
    rw [Array.getD_eq_getD_getElem?,Array.getElem?_eq_getElem hil,getD_some] at h1 ⊢
    simpa using h1
  · have:=h2 e (by simpa using he)
    rw [hb] at this
    simpa using this
 intro fuel
 induction fuel with
 | zero=>
  intro L blk a w hsz hcl hc R
  have hall:=Gu (X:=fun j=>L.getD j false) ops.length (by omega)
  have hst':l7 ops tr S0 (fun j=>L.getD j false) ops.length=l7 ops tr S0 (fun _=>true) ops.length:=by
   simp only [l7];rw [nM ops.length _ hall,pY ops.length _ fun j hj _=>hall j hj]
  refine ⟨?_,hQ blk a w (hst' ▸ R)⟩
  cases hr:Region.ready .any ops.toArray L with
  | nil=>rfl
  | cons i is=>
   obtain ⟨o,ho,hx,_⟩:=step L i hsz (by rw [hr];exact List.mem_cons_self)
   rw [hall i (List.getElem?_eq_some_iff.1 ho).1] at hx
   cases hx
 | succ fuel ih=>
  intro L blk a w hsz hcl hc R
  refine ⟨fun hr=>?_,fun i hm=>?_⟩
  · have hall:=full L hsz hr
    have hst':l7 ops tr S0 (fun j=>L.getD j false) ops.length=l7 ops tr S0 (fun _=>true) ops.length:=by
     simp only [l7];rw [nM ops.length _ hall,pY ops.length _ fun j hj _=>hall j hj]
    exact hQ blk a w (hst' ▸ R)
  · obtain ⟨o,ho,hx,hrd⟩:=step L i hsz hm
    have hi:i<ops.length:=(List.getElem?_eq_some_iff.1 ho).1
    have Yg:∀ x,(ms.getD i 0).testBit x=true→L.getD x false=true:=by
     intro x hb
     obtain ⟨e,h1,h2,h3⟩:=hok.mask i o ho x hb
     have he:=hrd e h1 h2
     rcases h3 with rfl | h3
     · exact he
     · exact hcl e.on (by have:=hok.back i o ho e h1 h2;omega) he x h3
    have Yh:∀ j,(L.setIfInBounds i true).getD j false=upd (fun j=>L.getD j false) i j:=by
     intro j
     rw [Array.getD_eq_getD_getElem?,Array.getElem?_setIfInBounds]
     simp only [upd]
     by_cases hij:i=j
     · subst hij
       rw [if_pos rfl,if_pos (by omega)];simp
     · rw [if_neg hij,Array.getD_eq_getD_getElem?]
       have:(j==i)=false:=by simp;omega
       rw [this,Bool.or_false]
    have hfun:(fun j=>(L.setIfInBounds i true).getD j false)=upd (fun j=>L.getD j false) i:=funext Yh
    refine VL (X:=fun j=>L.getD j false) hD hok hts hst ho hx hcl Yg R fun au a' w' R'=>?_
    refine ih _ au a' w' (by simpa using hsz) ?_ ?_ (by rw [hfun];exact R')
    · intro j hj hb x hbx
      rw [Yh] at hb ⊢
      simp only [upd,Bool.or_eq_true,beq_iff_eq] at hb ⊢
      rcases hb with hb | rfl
      · exact .inl (hcl j hj hb x hbx)
      · exact .inl (Yg x hbx)
    · rw [hfun]
      have:=Le (X:=fun j=>L.getD j false) ops.length hi hx
      omega
theorem PW.draw {E:Env}{id:Nat}{ops:List Oper}{Q:Exit→St→Prop}{S:St}(own:Nat→Bool) (hD:∀ t,iN P t (D t)) (hm:P.follows .mixedOrders=true)
  (h:ql P D own ops ops 0 S [] fun S' ts=>uP ops ts=true∧Q .normal S'):PW P l E (.region id ops.toArray true) Q S:=by
 intro base ak V hE blk a w ⟨w0,hV,R⟩
 obtain ⟨tr,S',h1,h2,h3⟩:=mI _ _ _ _ _ h
 obtain ⟨h4,h5⟩:=wL (S0:=S) (tr0:=tr) ops 0 S tr S' h1 (fun j=>by simp) (fun j=>by simp) rfl
 refine wpIn_region_any hm ?_
 have R':Rel base ak w0 S blk a { w with drawn:=w.drawn+1 }:=R.grew (.same rfl)
 have hR:∀ (L:Array Bool),(∀ j,L.getD j false=false)→l7 ops tr S (fun j=>L.getD j false) ops.length=S:=by
  intro L hL
  have e1:∀ n tm,Gs (qm ops) (aO tr) (fun j=>L.getD j false) n tm=tm:=by
   intro n tm
   induction n with
   | zero=>rfl
   | succ n ih=>simp only [Gs];rw [if_neg (by rw [hL n];simp)];exact ih
  have e2:∀ n ob,oQ (aO tr) (fun j=>L.getD j false) n ob=ob:=by
   intro n ob
   induction n with
   | zero=>rfl
   | succ n ih=>simp only [oQ];rw [if_neg (by rw [hL n];simp)];exact ih
  simp only [l7,e1,e2]
 have hcn:∀ (X:Nat→Bool) n,cnt X n≤n:=by
  intro X n
  induction n with
  | zero=>exact Nat.le_refl _
  | succ n ih=>simp only [cnt];split <;> omega
 have hrep:∀ j,(Array.replicate ops.toArray.size false).getD j false=false:=by
  intro j
  rw [Array.getD_eq_getD_getElem?,Array.getElem?_replicate]
  split <;> rfl
 have hts:∀ i,i<ops.length→(tr.map (·.t)).getD i 0=(aO tr i).t:=by
  intro i hi
  have hl:tr.length=ops.length:=by
   clear h2 h3 h4 h5 h
   have:∀ (qN:List Oper) (k:Nat) (S:St) (tr:List IG) (S':St),Trace P D own ops qN k S tr S'→tr.length=qN.length:=by
    intro qN
    induction qN with
    | nil=>rintro k S tr S' ⟨rfl,_⟩;rfl
    | cons o qN ih=>
     rintro k S tr S' ⟨e,tr',rfl,_,h⟩
     simp [ih _ _ _ _ h]
   exact this _ _ _ _ _ h1
  have hil:i<tr.length:=by omega
  simp [aO,List.getD_eq_getElem?_getD,List.getElem?_map,List.getElem?_eq_getElem hil]
 rw [Nat.zero_add] at h5
 subst h5
 have hc:=hcn (fun j=>(Array.replicate ops.toArray.size false).getD j false) ops.length
 have hsz:ops.toArray.size=ops.length:=by simp
 have hrs:(Array.replicate ops.toArray.size false).size=ops.length:=by simp
 have hQ:∀ au a' w',Rel base ak w0 (l7 ops tr S (fun _=>true) ops.length) au a' w'→∃ S' mJ,Q .normal S'∧qP base ak V S' mJ a' w':=
  fun au a' w' R''=>⟨_,au,h3,w0,hV,R''⟩
 have R1:Rel base ak w0 (l7 ops tr S (fun j=>(Array.replicate ops.toArray.size false).getD j false) ops.length) blk a { w with drawn:=w.drawn+1 }:=by rw [hR _ hrep];exact R'
 have hcl:∀ j,j<ops.length→(Array.replicate ops.toArray.size false).getD j false=true→∀ x,((masks ops []).getD j 0).testBit x=true→(Array.replicate ops.toArray.size false).getD x false=true:=by
  intro j _ hb
  rw [hrep] at hb;cases hb
 have h2':uP ops (tr.map (·.t))=true:=h2
 generalize Array.replicate ops.toArray.size false=L at *
 exact Gx (Q:=fun e a' w'=>∃ S' au,Q e S'∧qP base ak V S' au a' w') hD (Ee h2') hts (fun i o ho=>h4 i o (Nat.zero_le _) ho) hQ ops.toArray.size L blk a _ hrs hcl (by rw [hsz];exact hc) R1
end Lp
namespace Lp
open Go
open List (all_eq_true mem_range)
open Bool (and_eq_true or_eq_true)
open Option (getD_some map_some)
variable {P:Program}{D:TypeId→aD}{l:Option Nat}
def hole:Obj:=⟨0,0,[],false,0⟩
section
variable {base ak:Nat→Prop}{w0:Wz}{blk:Nat→Option Nat}{a:Act}{w:World}
theorem AV {ok:Nat→Prop}{objs:List Obj}{cs:List PV}{vs:List Value}(h:cZ (bD w ok objs blk) cs vs):cs.all (PV.vW objs.length)=true:=by
 rw [all_eq_true]
 intro p hp
 obtain ⟨i,hi,rfl⟩:=List.getElem_of_mem hp
 exact oI (h.2 i _ _ (List.getElem?_eq_getElem hi) (List.getElem?_eq_getElem (by rw [← h.1];exact hi)))
theorem Oh {ok:Nat→Prop}{objs:List Obj}{p:PV}{v:Value}(h:aX w ok objs blk p v):p.lt objs.length=true:=by
 cases p with
 | fn f a c=>obtain ⟨_,_,_,h1,h2⟩:=h;simp only [PV.lt,AV h1,AV h2,Bool.and_self]
 | b_ cs=>obtain ⟨_,_,h1⟩:=h;simp only [PV.lt,AV h1]
 | agg cs=>obtain ⟨_,_,h1⟩:=h;simp only [PV.lt,AV h1]
 | bG k ver=>exact oI (w:=w) (ok:=ok) (p:=.bG k ver) (v:=v) h
 | bI k ver i f=>exact oI (w:=w) (ok:=ok) (p:=.bI k ver i f) (v:=v) h
 | lD k ver=>exact oI (w:=w) (ok:=ok) (p:=.lD k ver) (v:=v) h
 | _=>rfl
theorem Rel.holes {S:St}(R:Rel base ak w0 S blk a w):∀ n:Nat,∃ au,Rel base ak w0 ⟨S.tmps,S.objs++List.replicate n hole⟩ au a w
 | 0=>⟨blk,by simpa using R⟩
 | n+1=>by
  obtain ⟨au,R'⟩:=R.holes n
  have h:=R'.C9 (o1:=hole) (gb:=none) (kN.refl w) (fun g hg=>by cases hg) fun _=>by
   unfold cK aF
   rw [if_pos rfl]
   rfl
  rw [List.replicate_succ',← List.append_assoc]
  exact ⟨_,h⟩
theorem Rel.fill {tm:List PV}{O:List Obj}{o1:Obj}{k:Nat}{w':World}{au:Nat→Option Nat}(R:Rel base ak w0 ⟨tm,O⟩ blk a w) (hk:O[k]?=some hole) (hl:o1.live=true) (hv:o1.ver=1)
  (R':Rel base ak w0 ⟨tm,O++[o1]⟩ au a w') (hn:D9 O (O++[o1])){mk:Nat→PV}(hm:Mk mk){v:Value}(hr:aX w' (bR base (O++[o1]) au) (O++[o1]) au (mk O.length) v) :
  ∃ iX,Rel base ak w0 ⟨tm,O.set k o1⟩ iX a w'∧aX w' (bR base (O.set k o1) iX) (O.set k o1) iX (mk k) v:=by
 have hkl:=(List.getElem?_eq_some_iff.1 hk).1
 obtain ⟨iX,hb2⟩:∃ iX:Nat→Option Nat,iX=fun j=>if j=k then au O.length else au j:=⟨_,rfl⟩
 have bk:iX k=au O.length:=by rw [hb2];simp
 have bo:∀ j,j≠k→iX j=au j:=fun j hj=>by rw [hb2];simp [hj]
 have aaC:(O++[o1])[O.length]?=some o1:=by simp
 have ae1:∀ j o,O[j]?=some o→(O++[o1])[j]?=some o:=fun j o h=>by
  rw [List.getElem?_append_left (List.getElem?_eq_some_iff.1 h).1];exact h
 have gk:(O.set k o1)[k]?=some o1:=by rw [List.getElem?_set];simp [hkl]
 have go:∀ j,j≠k→(O.set k o1)[j]?=O[j]?:=fun j hj=>by rw [List.getElem?_set,if_neg (fun e=>hj e.symm)]
 have hlive:∀ (j:Nat) (o:Obj),(O.set k o1)[j]?=some o→o.live=true→∃ j',(O++[o1])[j']?=some o∧au j'=iX j∧((j=k∧j'=O.length)∨(j≠k∧j'=j∧j<O.length)):=by
  intro j o h1 h2
  by_cases hj:j=k
  · subst hj
    rw [gk] at h1;cases h1
    exact ⟨O.length,aaC,bk.symm,.inl ⟨rfl,rfl⟩⟩
  · rw [go j hj] at h1
    exact ⟨j,ae1 j o h1,(bo j hj).symm,.inr ⟨hj,rfl,(List.getElem?_eq_some_iff.1 h1).1⟩⟩
 have hnl:∀ b,aY (O++[o1]) au b→aY (O.set k o1) iX b:=by
  intro b h j o h1 h2 h3
  obtain ⟨j',g1,g2,_⟩:=hlive j o h1 h2
  exact h j' o g1 h2 (by rw [g2];exact h3)
 have hok:∀ b,bR base (O++[o1]) au b→bR base (O.set k o1) iX b:=fun b h=>⟨h.1,hnl b h.2⟩
 have hS:∀ (p:PV) (u:Value),p.vW O.length=true→bD w' (bR base (O++[o1]) au) (O++[o1]) au p u→bD w' (bR base (O.set k o1) iX) (O.set k o1) iX p u:=by
  intro p u hp h
  have hm':∀ q:PV,dz w' (bR base (O++[o1]) au) q u→dz w' (bR base (O.set k o1) iX) q u:=fun q hq=>hq.mono (Nat.le_refl _) (fun b _ hb=>hok b hb) (fun _ _ _ h=>h)
  cases p with
  | bG j ver=>
   have hj:j<O.length:=by simpa [PV.vW] using hp
   obtain ⟨h0,o,g1,g2,g3⟩:=h
   rw [List.getElem?_append_left hj] at g1
   by_cases hjk:j=k
   · subst hjk
     rw [hk] at g1;cases g1
     refine ⟨h0,o1,gk,by rw [hv];exact Nat.le_trans g2 (by decide),fun _ e=>?_⟩
     have:ver≤0:=g2
     omega
   · refine ⟨h0,o,by rw [go j hjk];exact g1,g2,fun e1 e2=>?_⟩
     obtain ⟨hM,this⟩:=g3 e1 e2
     refine ⟨hM,?_⟩
     unfold yJ at this ⊢
     rw [bo j hjk];exact this
  | bI j ver i f=>
   have hj:j<O.length:=by simpa [PV.vW] using hp
   obtain ⟨h0,o,g1,g2,g3⟩:=h
   rw [List.getElem?_append_left hj] at g1
   by_cases hjk:j=k
   · subst hjk
     rw [hk] at g1;cases g1
     refine ⟨h0,o1,gk,by rw [hv];exact Nat.le_trans g2 (by decide),fun _ e=>?_⟩
     have:ver≤0:=g2
     omega
   · refine ⟨h0,o,by rw [go j hjk];exact g1,g2,fun e1 e2=>?_⟩
     rw [bo j hjk];exact g3 e1 e2
  | lD j ver=>
   have hj:j<O.length:=by simpa [PV.vW] using hp
   obtain ⟨h0,o,g1,g2,g3⟩:=h
   rw [List.getElem?_append_left hj] at g1
   by_cases hjk:j=k
   · subst hjk
     rw [hk] at g1;cases g1
     refine ⟨h0,o1,gk,by rw [hv];exact Nat.le_trans g2 (by decide),fun _ e=>?_⟩
     have:ver≤0:=g2
     omega
   · refine ⟨h0,o,by rw [go j hjk];exact g1,g2,fun e1 e2=>?_⟩
     rw [bo j hjk];exact g3 e1 e2
  | _=>exact hm' _ h
 have hLs:∀ (cs:List PV) (us:List Value),cs.all (PV.vW O.length)=true→cZ (bD w' (bR base (O++[o1]) au) (O++[o1]) au) cs us→cZ (bD w' (bR base (O.set k o1) iX) (O.set k o1) iX) cs us:=
  fun cs us hc h=>⟨h.1,fun i p u h1 h2=>hS p u (all_eq_true.1 hc p (List.mem_of_getElem? h1)) (h.2 i p u h1 h2)⟩
 have hT:∀ (p:PV) (u:Value),p.lt O.length=true→aX w' (bR base (O++[o1]) au) (O++[o1]) au p u→aX w' (bR base (O.set k o1) iX) (O.set k o1) iX p u:=by
  intro p u hp h
  cases p with
  | fn f a c=>
   simp only [PV.lt,and_eq_true] at hp
   obtain ⟨va,vc,rfl,h1,h2⟩:=h
   exact ⟨va,vc,rfl,hLs _ _ hp.1 h1,hLs _ _ hp.2 h2⟩
  | b_ cs=>obtain ⟨us,rfl,h1⟩:=h;exact ⟨us,rfl,hLs _ _ hp h1⟩
  | agg cs=>obtain ⟨us,rfl,h1⟩:=h;exact ⟨us,rfl,hLs _ _ hp h1⟩
  | bG j ver=>exact hS (.bG j ver) u hp h
  | bI j ver i f=>exact hS (.bI j ver i f) u hp h
  | lD j ver=>exact hS (.lD j ver) u hp h
  | _=>exact .kM (hS _ u rfl (by exact h))
 have Fp:∀ (j j':Nat) (o:Obj),cK w' (bR base (O++[o1]) au) (O++[o1]) au j' o→au j'=iX j→(∀ x ∈ o.xs,∀ p ∈ x.cells,∀ u,bD w' (bR base (O++[o1]) au) (O++[o1]) au p u→bD w' (bR base (O.set k o1) iX) (O.set k o1) iX p u)→
     cK w' (bR base (O.set k o1) iX) (O.set k o1) iX j o:=by
  intro j j' o h e ht
  unfold cK at h ⊢
  rw [← e]
  cases hb:au j' with
  | none=>rw [hb] at h;exact h
  | some g=>
   rw [hb] at h
   obtain ⟨c,x1,x2,x3⟩:=h
   refine ⟨c,x1,x2,fun i x hx=>⟨(x3 i x hx).1,fun q p hp=>?_⟩⟩
   obtain ⟨u,y1,y2⟩:=(x3 i x hx).2 q p hp
   exact ⟨u,y1,ht x (List.mem_of_getElem? hx) p (List.mem_of_getElem? hp) u y2⟩
 refine ⟨iX,⟨R'.oD.mono (fun b _ h=>⟨hok b h.1,h.2⟩) (fun _ _ _ h=>h),R'.CY,fun t p hp=>hT p _ (Oh (R.tm t p hp)) (R'.tm t p hp),⟨?_,?_,?_⟩,R'.pr,R'.fr,R'.gr,R'.pb,fun x hx=>hT _ _ (Oh (R.ext x hx)) (R'.ext x hx),R'.J8,R'.sm,R'.gl⟩,?_⟩
 · intro j o h1 h2
   obtain ⟨j',g1,g2,hc⟩:=hlive j o h1 h2
   have h3:=R'.objs.ob j' o g1 h2
   refine Fp j j' o h3 g2 fun x hx p hp u hu=>?_
   rcases hc with ⟨rfl,rfl⟩ | ⟨hj,_,hjl⟩
   · rw [gk] at h1;cases h1
     exact hS p u (hn o1 rfl x hx p hp) hu
   ·
    rw [go j hj] at h1
    have h4:=R.objs.ob j o h1 h2
    have hlt:p.vW O.length=true:=by
     obtain ⟨i,hi,rfl⟩:=List.getElem_of_mem hx
     obtain ⟨q,hq,rfl⟩:=List.getElem_of_mem hp
     unfold cK at h4
     cases hb:blk j with
     | none=>rw [hb] at h4;simp [h4] at hi
     | some g=>
      rw [hb] at h4
      obtain ⟨c,_,_,x3⟩:=h4
      obtain ⟨u',_,y2⟩:=(x3 i _ (List.getElem?_eq_getElem hi)).2 q _ (List.getElem?_eq_getElem hq)
      exact oI y2
    exact hS p u hlt hu
 · intro j1 j2 q1 q2 g hne h1 h2 h3 h4 h5
   obtain ⟨i1,a1,a2,a3⟩:=hlive j1 q1 h1 h2
   obtain ⟨i2,b1,b2,b3⟩:=hlive j2 q2 h3 h4
   rw [← a2] at h5
   rw [← b2]
   refine R'.objs.IK i1 i2 q1 q2 g ?_ a1 h2 b1 h4 h5
   rcases a3 with ⟨rfl,rfl⟩ | ⟨_,rfl,_⟩ <;> rcases b3 with ⟨rfl,rfl⟩ | ⟨_,rfl,_⟩ <;> first | exact absurd rfl hne | omega
 · intro j o g h1 h2 h3
   obtain ⟨j',g1,g2,_⟩:=hlive j o h1 h2
   rw [← g2] at h3
   exact R'.objs.np j' o g g1 h2 h3
 · rcases hm with rfl | rfl | rfl
   · obtain ⟨h0,o,g1,g2,g3⟩:=hr
     rw [aaC] at g1;cases g1
     refine ⟨h0,o1,gk,g2,fun e1 e2=>?_⟩
     obtain ⟨hM,this⟩:=g3 e1 e2
     refine ⟨hM,?_⟩
     unfold yJ at this ⊢
     rw [bk];exact this
   · obtain ⟨h0,o,g1,g2,g3⟩:=hr
     rw [aaC] at g1;cases g1
     refine ⟨h0,o1,gk,g2,fun e1 e2=>?_⟩
     rw [bk];exact g3 e1 e2
   · obtain ⟨h0,o,g1,g2,g3⟩:=hr
     rw [aaC] at g1;cases g1
     refine ⟨h0,o1,gk,g2,fun e1 e2=>?_⟩
     rw [bk];exact g3 e1 e2
end
def Lh (t:Nat):Option Nat:=if 5≤t∧t % 2=1 then some ((t-5) / 2) else none
theorem Rv (k:Nat):Lh (5+2*k)=some k:=by
 unfold Lh;rw [if_pos (by omega)];congr 1;omega
theorem Yi (k:Nat):Lh (4+2*k)=none:=by unfold Lh;rw [if_neg (by omega)]
theorem Oi:Lh 0=none:=rfl
def zJ (tj ti:Nat):Bool:=decide (4≤tj) && decide (4≤ti) && (tj-4) / 2==(ti-4) / 2 && (tj % 2==1 || ti % 2==1)
theorem Dg {tj ti k:Nat}(h:(Lh tj=some k∧(ti=4+2*k∨ti=5+2*k))∨(Lh ti=some k∧(tj=4+2*k∨tj=5+2*k))):zJ tj ti=true:=by
 have key:∀ t,Lh t=some k→t=5+2*k:=by
  intro t ht
  unfold Lh at ht
  split at ht
  · simp only [Option.some.injEq] at ht;omega
  · cases ht
 unfold zJ
 simp only [and_eq_true,decide_eq_true_eq,or_eq_true,beq_iff_eq]
 rcases h with ⟨h1,h2 | h2⟩ | ⟨h1,h2 | h2⟩ <;> have:=key _ h1 <;> omega
def AX (t:Nat):Bool:=t==0 || decide (4≤t)
theorem Eg {t:Nat}(h:AX t=true):t=0∨(∃ k,t=4+2*k)∨∃ k,t=5+2*k:=by
 simp only [AX,or_eq_true,beq_iff_eq,decide_eq_true_eq] at h
 rcases h with h | h
 · exact .inl h
 · rcases Nat.mod_two_eq_zero_or_one t with e | e
   · exact .inr (.inl ⟨(t-4) / 2,by omega⟩)
   · exact .inr (.inr ⟨(t-5) / 2,by omega⟩)
structure Li (ops:List Oper) (ts:List Nat) (ms:List Nat) (b:Nat):Prop where
 fine:∀ i,i<ops.length→i<b→AX (ts.getD i 0)=true
 bl:b≤ops.length
 two:b<ops.length→ts.getD b 0=2
 bar:b<ops.length→∀ j,j<b→ts.getD j 0≠0→(ms.getD b 0).testBit j=true
 rest:∀ i,i<ops.length→b<i→ts.getD i 0=0
 back:∀ (i:Nat) (o:Oper),ops[i]?=some o→∀ e ∈ o.after.toList,Region.binds .any e=true→e.on<i
 mask:∀ (i:Nat) (o:Oper),ops[i]?=some o→∀ j,(ms.getD i 0).testBit j=true→∃ e ∈ o.after.toList,Region.binds .any e=true∧(j=e.on∨(ms.getD e.on 0).testBit j=true)
 ord:∀ (i:Nat) (o:Oper) (j:Nat) (p:Oper),ops[i]?=some o→ops[j]?=some p→j<i→(clash p.dst o.dst (jB ops p) (jB ops o) 0 0 || zJ (ts.getD j 0) (ts.getD i 0))=true→(ms.getD i 0).testBit j=true
section
variable {en:Nat→IG}
def AY (en:Nat→IG) (X:Nat→Bool):Nat→List Obj→List Obj
 | 0,ob=>ob
 | n+1,ob=>if X n then (match Lh (en n).t with
  | some k=>(AY en X n ob).set k ((en n).objs.getD k hole)
  | none=>AY en X n ob) else AY en X n ob
theorem qo (X:Nat→Bool):∀ (n:Nat) (ob:List Obj),(AY en X n ob).length=ob.length
 | 0,_=>rfl
 | n+1,ob=>by
  simp only [AY]
  split
  · split
    · rw [List.length_set,qo X n ob]
    · exact qo X n ob
  · exact qo X n ob
theorem sO {X Y:Nat→Bool}:∀ (n:Nat) (ob:List Obj),(∀ j,j<n→X j=Y j)→AY en X n ob=AY en Y n ob
 | 0,_,_=>rfl
 | n+1,ob,h=>by simp only [AY];rw [h n (by omega),sO n ob (fun j hj=>h j (by omega))]
theorem Lj {X Y:Nat→Bool}{k:Nat}:∀ (n:Nat) (ob:List Obj),(∀ j,j<n→Lh (en j).t=some k→X j=Y j)→(AY en X n ob)[k]?=(AY en Y n ob)[k]?
 | 0,_,_=>rfl
 | n+1,ob,h=>by
  have ih:=Lj (X:=X) (Y:=Y) (k:=k) n ob (fun j hj=>h j (by omega))
  have hl:(AY en X n ob).length=(AY en Y n ob).length:=by rw [qo,qo]
  simp only [AY]
  cases hw:Lh (en n).t with
  | none=>simp only [];split <;> split <;> exact ih
  | some k'=>
   simp only []
   by_cases hk:k'=k
   · subst hk
     rw [h n (by omega) hw]
     split
     · rw [List.getElem?_set,List.getElem?_set];simp [hl]
     · exact ih
   · split <;> split <;> (try rw [List.getElem?_set,if_neg hk]) <;> (try rw [List.getElem?_set,if_neg hk]) <;> exact ih
theorem Ko {i:Nat}:∀ (n:Nat) (ob:List Obj),i≤n→AY en (fun j=>decide (j<i)) n ob=AY en (fun _=>true) i ob
 | 0,_,h=>by have:i=0:=by omega
             subst this;rfl
 | n+1,ob,h=>by
  by_cases hi:i=n+1
  · subst hi
    exact sO (n+1) ob fun j hj=>by simp [hj]
  · simp only [AY]
    rw [if_neg (by simp;omega)]
    exact Ko n ob (by omega)
theorem Uw {X:Nat→Bool}{i k:Nat}:∀ (n:Nat) (ob:List Obj),i<n→X i=false→Lh (en i).t=some k→(∀ j,i<j→j<n→X j=true→Lh (en j).t≠some k)→
  AY en (upd X i) n ob=(AY en X n ob).set k ((en i).objs.getD k hole)
 | 0,_,h,_,_,_=>by omega
 | n+1,ob,hi,hx,hw,hd=>by
  simp only [AY]
  by_cases hin:i=n
  · subst hin
    simp only [hx,upd,beq_self_eq_true,Bool.or_true,if_true,Bool.false_eq_true,if_false,hw]
    rw [sO (en:=en) (X:=upd X i) (Y:=X) i ob (fun j hj=>by simp [upd];omega)]
  · have hu:upd X i n=X n:=by simp [upd];omega
    rw [hu]
    have ih:=Uw (X:=X) n ob (by omega) hx hw (fun j h1 h2=>hd j h1 (by omega))
    split
    · rename_i hn
      have:=hd n (by omega) (by omega) hn
      split
      · rename_i k' hk'
        rw [hk'] at this
        have hne:k≠k':=fun e=>this (by rw [e])
        rw [ih,List.set_comm _ _ hne]
      · exact ih
    · exact ih
theorem Oj {X:Nat→Bool}{i:Nat}:∀ (n:Nat) (ob:List Obj),Lh (en i).t=none→AY en (upd X i) n ob=AY en X n ob
 | 0,_,_=>rfl
 | n+1,ob,hw=>by
  have ih:=Oj (X:=X) n ob hw
  simp only [AY]
  by_cases hin:n=i
  · subst hin
    rw [hw,ih]
    simp
  · have hu:upd X i n=X n:=by simp [upd,hin]
    rw [hu,ih]
end
def sP (ops:List Oper) (tr:List IG) (S:St) (A b:Nat) (X:Nat→Bool):St:=⟨Gs (qm ops) (aO tr) X ops.length S.tmps,if (decide (b<ops.length) && X b)=true then (aO tr b).objs else AY (aO tr) X b (S.objs++List.replicate A hole)⟩
theorem Ux {own:Nat→Bool}{ops:List Oper}{tr:List IG}{S0:St}(hst:∀ i o,ops[i]?=some o→rR P D (own i) ops o (l7 ops tr S0 (fun _=>true) i) (aO tr i))
  {b:Nat}(hbl:b≤ops.length) (hf:∀ i,i<ops.length→i<b→AX (aO tr i).t=true):∀ i,i<b→(oQ (aO tr) (fun _=>true) i S0.objs).length≤(oQ (aO tr) (fun _=>true) (i+1) S0.objs).length∧
   ((Lh (aO tr i).t=none∧oQ (aO tr) (fun _=>true) (i+1) S0.objs=oQ (aO tr) (fun _=>true) i S0.objs)∨
    ∃ k o1,Lh (aO tr i).t=some k∧(aO tr i).objs.getD k hole=o1∧
     ((k<(oQ (aO tr) (fun _=>true) i S0.objs).length∧oQ (aO tr) (fun _=>true) (i+1) S0.objs=(oQ (aO tr) (fun _=>true) i S0.objs).set k o1)∨
      (k=(oQ (aO tr) (fun _=>true) i S0.objs).length∧oQ (aO tr) (fun _=>true) (i+1) S0.objs=oQ (aO tr) (fun _=>true) i S0.objs++[o1]))):=by
 intro i hib
 have hi:i<ops.length:=by omega
 have h:=hst i ops[i] (List.getElem?_eq_getElem hi)
 have hfi:=hf i hi hib
 have oU:(l7 ops tr S0 (fun _=>true) i).objs=oQ (aO tr) (fun _=>true) i S0.objs:=rfl
 have hX:oQ (aO tr) (fun _=>true) (i+1) S0.objs=if co (aO tr i).t=2 then (aO tr i).objs else oQ (aO tr) (fun _=>true) i S0.objs:=by
  simp only [oQ,Bool.true_and,beq_iff_eq]
 rcases h with ⟨_,_,_,_,zm⟩ | ⟨_,_,_,h4⟩
 · rw [oU] at zm
   rcases Eg hfi with h0 | ⟨k,hk⟩ | ⟨k,hk⟩
   · rw [hX,h0,if_neg (by decide)]
     exact ⟨Nat.le_refl _,.inl ⟨Oi,rfl⟩⟩
   · rw [hX,hk,adH,if_neg (by decide)]
     exact ⟨Nat.le_refl _,.inl ⟨Yi k,rfl⟩⟩
   · rw [hX,if_pos (by rw [hk];exact Ur k)]
     rcases zm.wr k hk with ⟨o1,g1,g2,_⟩ | ⟨g1,o1,mk,_,_,g2,_⟩
     · rw [g2]
       refine ⟨by simp,.inr ⟨k,o1,by rw [hk];exact Rv k,?_,.inl ⟨g1,rfl⟩⟩⟩
       rw [List.getD_eq_getElem?_getD,List.getElem?_set];simp [g1]
     · rw [g2]
       refine ⟨by simp,.inr ⟨k,o1,by rw [hk];exact Rv k,?_,.inr ⟨g1,rfl⟩⟩⟩
       rw [List.getD_eq_getElem?_getD,g1];simp
 · rw [hX,h4,if_neg (by decide)]
   exact ⟨Nat.le_refl _,.inl ⟨Oi,rfl⟩⟩
theorem Uy {own:Nat→Bool}{ops:List Oper}{tr:List IG}{S0:St}{A:Nat}(hst:∀ i o,ops[i]?=some o→rR P D (own i) ops o (l7 ops tr S0 (fun _=>true) i) (aO tr i))
  {b:Nat}(hbl:b≤ops.length) (hf:∀ i,i<ops.length→i<b→AX (aO tr i).t=true) (hA:(oQ (aO tr) (fun _=>true) b S0.objs).length=S0.objs.length+A) :
  ∀ i,i≤b→(oQ (aO tr) (fun _=>true) i S0.objs).length≤S0.objs.length+A∧
   AY (aO tr) (fun _=>true) i (S0.objs++List.replicate A hole)=oQ (aO tr) (fun _=>true) i S0.objs++List.replicate (S0.objs.length+A-(oQ (aO tr) (fun _=>true) i S0.objs).length) hole:=by
 have one:=Ux hst hbl hf
 have mono:∀ d i,i+d=b→(oQ (aO tr) (fun _=>true) i S0.objs).length≤S0.objs.length+A:=by
  intro d
  induction d with
  | zero=>intro i hi;rw [Nat.add_zero] at hi;rw [hi,hA];exact Nat.le_refl _
  | succ d ih=>intro i hi;exact Nat.le_trans (one i (by omega)).1 (ih (i+1) (by omega))
 intro i
 induction i with
 | zero=>intro _;exact ⟨by simp [oQ],by simp [AY,oQ]⟩
 | succ i ih=>
  intro hi
  obtain ⟨h1,h2⟩:=ih (by omega)
  have hle:=mono (b-(i+1)) (i+1) (by omega)
  refine ⟨hle,?_⟩
  simp only [AY,if_true]
  rcases (one i (by omega)).2 with ⟨g1,g2⟩ | ⟨k,o1,g1,g0,⟨g2,g3⟩ | ⟨g2,g3⟩⟩
  · rw [g1,g2];exact h2
  · rw [g1]
    simp only []
    rw [g0,h2,g3,List.set_append_left _ _ g2,List.length_set]
  · rw [g1]
    simp only []
    rw [g3,List.length_append,List.length_singleton] at hle
    rw [g0,h2,g3,List.set_append_right _ _ (by omega),List.length_append,List.length_singleton]
    have:S0.objs.length+A-(oQ (aO tr) (fun _=>true) i S0.objs).length=(S0.objs.length+A-((oQ (aO tr) (fun _=>true) i S0.objs).length+1))+1:=by omega
    rw [this,List.replicate_succ,g2,Nat.sub_self,List.set_cons_zero,List.append_assoc]
    rfl
theorem Rw {own:Nat→Bool}{ops:List Oper}{ts:List Nat}{ms:List Nat}{b:Nat}{tr:List IG}{S0:St}{A:Nat}(hD:∀ t,iN P t (D t)) (hok:Li ops ts ms b)
  (hts:∀ i,i<ops.length→ts.getD i 0=(aO tr i).t)
  (hst:∀ i o,ops[i]?=some o→rR P D (own i) ops o (l7 ops tr S0 (fun _=>true) i) (aO tr i))
  (hA:(oQ (aO tr) (fun _=>true) b S0.objs).length=S0.objs.length+A)
  {X:Nat→Bool}{i:Nat}{o:Oper}(ho:ops[i]?=some o) (hX:X i=false) (hcl:∀ j,j<ops.length→X j=true→∀ x,(ms.getD j 0).testBit x=true→X x=true)
  (hrd:∀ x,(ms.getD i 0).testBit x=true→X x=true)
  {base ak:Nat→Prop}{w0:Wz}{blk:Nat→Option Nat}{a:Act}{w:World}(R:Rel base ak w0 (sP ops tr S0 A b X) blk a w)
  {Q:Exit→Act→World→Prop}{K:Act→World→Prop}(hK:∀ au a' w',Rel base ak w0 (sP ops tr S0 A b (upd X i)) au a' w'→K a' w') :
  wpOpIn (EO l) 0 P ops.toArray Q i K a w:=by
 have hi:i<ops.length:=(List.getElem?_eq_some_iff.1 ho).1
 have hbl:=hok.bl
 have hdst:qm ops i=o.dst:=by simp [qm,ho]
 have Lg:∀ j,j<ops.length→∃ p,ops[j]?=some p∧qm ops j=p.dst:=fun j hj=>⟨ops[j],List.getElem?_eq_getElem hj,by simp [qm,List.getElem?_eq_getElem hj]⟩
 have hf:∀ j,j<ops.length→j<b→AX (aO tr j).t=true:=fun j hj hb=>by rw [← hts j hj];exact hok.fine j hj hb
 have before:∀ j p,ops[j]?=some p→j<i→(clash p.dst o.dst (jB ops p) (jB ops o) 0 0 || zJ (aO tr j).t (aO tr i).t)=true→X j=true:=
  fun j p hp hj hc=>hrd j (hok.ord i o j p ho hp hj (by rw [hts j (List.getElem?_eq_some_iff.1 hp).1,hts i hi];exact hc))
 have behind:∀ j p,ops[j]?=some p→i<j→(clash o.dst p.dst (jB ops o) (jB ops p) 0 0 || zJ (aO tr i).t (aO tr j).t)=true→X j=false:=fun j p hp hj hc=>by
  cases hx:X j with
  | false=>rfl
  | true=>
   have hjl:=(List.getElem?_eq_some_iff.1 hp).1
   have:=hcl j hjl hx i (hok.ord j p i o hp ho hj (by rw [hts j hjl,hts i hi];exact hc))
   rw [hX] at this;cases this
 have Uv:∀ x ∈ jB ops o,(l7 ops tr S0 (fun _=>true) i).tmps.getD x .dead=(sP ops tr S0 A b X).tmps.getD x .dead:=by
  intro x hx
  simp only [l7,sP]
  rw [← Df (dst:=qm ops) ops.length S0.tmps (Nat.le_of_lt hi)]
  refine Gt _ _ fun j hj hd=>?_
  obtain ⟨p,hp,Yf⟩:=Lg j hj
  rw [Yf] at hd
  rcases Nat.lt_trichotomy j i with hji | hji | hji
  · rw [before j p hp hji (by rw [Gw hd hx];rfl)];simp [hji]
  · subst hji;rw [hX];simp
  · rw [behind j p hp hji (by rw [Ef hd hx];rfl)];simp;omega
 have hadd:pF o.dst (aO tr i).r (sP ops tr S0 A b X).tmps=(sP ops tr S0 A b (upd X i)).tmps:=by
  simp only [sP]
  rw [← hdst]
  refine Lc _ _ hi hX fun j hj hjn hxj x hx hd=>?_
  obtain ⟨p,hp,Yf⟩:=Lg j hjn
  rw [Yf] at hd
  rw [hdst] at hx
  have:=behind j p hp hj (by rw [Kn hx hd];rfl)
  rw [this] at hxj;cases hxj
 obtain ⟨T,hT⟩:∃ T,T=oQ (aO tr) (fun _=>true) i S0.objs:=⟨_,rfl⟩
 obtain ⟨B,hB⟩:∃ B,B=(sP ops tr S0 A b X).objs:=⟨_,rfl⟩
 have hnb:(aO tr i).t=0∨i<b→i≠b:=fun h e=>by
  rcases h with h | h
  · have:=hok.two (by omega)
    rw [← e,hts i hi,h] at this;cases this
  · omega
 have Yj:i≠b→Lh (aO tr i).t=none→(sP ops tr S0 A b (upd X i)).objs=B:=fun hne hw=>by
  rw [hB]
  have hu:upd X i b=X b:=by simp [upd];omega
  simp only [sP,hu,Oj _ _ hw]
 have hput:∀ objs',(objs'=(sP ops tr S0 A b (upd X i)).objs)→St.put ⟨(sP ops tr S0 A b X).tmps,objs'⟩ o.dst (aO tr i).r=sP ops tr S0 A b (upd X i):=by
  rintro objs' rfl
  cases hd:o.dst with
  | none=>rw [hd] at hadd;simp only [pF] at hadd;simp only [St.put];rw [hadd]
  | some d=>rw [hd] at hadd;simp only [pF] at hadd;simp only [St.put];rw [hadd]
 have Ol:(sP ops tr S0 A b X).objs=B:=hB.symm
 have hTo:(l7 ops tr S0 (fun _=>true) i).objs=T:=hT.symm
 have hev:∀ x ∈ o.op.operands,(l7 ops tr S0 (fun _=>true) i).ev x=(sP ops tr S0 A b X).ev x:=by
  intro x hm
  cases x with
  | tmp t=>exact Uv t (List.mem_append_left _ (List.mem_filterMap.2 ⟨.tmp t,by simpa using hm,rfl⟩))
  | _=>rfl
 have hg:jg ops o.guard (l7 ops tr S0 (fun _=>true) i).tmps=jg ops o.guard (sP ops tr S0 A b X).tmps:=by
  cases hgd:o.guard with
  | none=>rfl
  | some g=>
   obtain ⟨j,want⟩:=g
   simp only [jg]
   cases hd:(ops[j]?).bind (·.dst) with
   | none=>rfl
   | some d=>
    simp only []
    rw [Uv d (List.mem_append_right _ (by rw [hgd];simp [hd]))]
 unfold wpOpIn
 have h0:ops.toArray[i]?=some o:=by simpa using ho
 rw [h0]
 simp only []
 rcases hst i o ho with ⟨h1,_,hall,h4,zm⟩ | ⟨h1,h2,_,h3⟩
 · rw [hg] at h1
   rw [if_pos (pE R h1)]
   rw [hTo] at zm hall
   have run:∀ (O2:List Obj) (r2:PV),(∀ K:KT,(∀ t,K r2 O2 t)→IE P D (own i) (l7 ops tr S0 (fun _=>true) i).ev B o.op K)→r2=(aO tr i).r→O2=(sP ops tr S0 A b (upd X i)).objs→
       o.wpIn (EO l) 0 P a w K Q:=by
    intro O2 r2 hop hr2 hO2
    have h5:=xQ hev (hop (fun r objs' _=>r=r2∧objs'=O2) (fun _=>⟨rfl,rfl⟩))
    rw [← Ol] at h5
    refine AQ l hD R h5 fun r objs' t v w' au hr R' hv=>?_
    obtain ⟨rfl,rfl⟩:=hr
    have:=R'.put hv o.dst
    rw [hr2,hput objs' hO2] at this
    exact hK _ _ _ this
   have zero:(aO tr i).t=0→o.wpIn (EO l) 0 P a w K Q:=fun ht=>run B _ (fun K hk=>h4 ht B K (hk 0)) rfl (Yj (hnb (.inl ht)) (by rw [ht];rfl)).symm
   rcases Nat.lt_trichotomy i b with hib | hib | hib
   rotate_left 1
   ·
    subst hib
    have hBT:B=T:=by
     rw [hB]
     simp only [sP,hX,Bool.and_false,Bool.false_eq_true,if_false]
     obtain ⟨_,Yk⟩:=Uy hst hbl hf hA i (Nat.le_refl _)
     rw [hA,Nat.sub_self,List.replicate_zero,List.append_nil] at Yk
     rw [hT,← Yk]
     refine List.ext_getElem? fun k=>Lj _ _ fun j hj hw=>?_
     refine hrd j (hok.bar hi j hj fun hz=>?_)
     rw [hts j (by omega)] at hz
     rw [hz] at hw;cases hw
    refine run (aO tr i).objs _ (fun K hk=>by rw [hBT];exact hall K (hk _)) rfl ?_
    simp [sP,upd,hi]
   · exact zero (by rw [← hts i hi];exact hok.rest i hi hib)
   by_cases hXb:(decide (b<ops.length) && X b)=true
   ·
    refine zero (Decidable.of_not_not fun hz=>?_)
    simp only [and_eq_true,decide_eq_true_eq] at hXb
    have:=hcl b hXb.1 hXb.2 i (hok.bar hXb.1 i hib (by rw [hts i hi];exact hz))
    rw [hX] at this;cases this
   have hBe:B=AY (aO tr) X b (S0.objs++List.replicate A hole):=by
    rw [hB];simp only [sP];rw [if_neg hXb]
   obtain ⟨hle,Yk⟩:=Uy hst hbl hf hA i (Nat.le_of_lt hib)
   rw [← hT] at hle Yk
   have slot:∀ k,((aO tr i).t=4+2*k∨(aO tr i).t=5+2*k)→B[k]?=(T++List.replicate (S0.objs.length+A-T.length) hole)[k]?:=by
    intro k hk
    rw [hBe,← Yk,← Ko b _ (Nat.le_of_lt hib)]
    refine Lj _ _ fun j hj hw=>?_
    obtain ⟨p,hp,Yf⟩:=Lg j (by omega)
    rcases Nat.lt_trichotomy j i with hji | hji | hji
    · rw [before j p hp hji (by rw [Dg (.inl ⟨hw,hk⟩),Bool.or_true])];simp [hji]
    · subst hji;rw [hX];simp
    · rw [behind j p hp hji (by rw [Dg (.inr ⟨hw,hk⟩),Bool.or_true])];simp;omega
   have hwr:∀ k,Lh (aO tr i).t=some k→((aO tr i).t=4+2*k∨(aO tr i).t=5+2*k)→(sP ops tr S0 A b (upd X i)).objs=B.set k ((aO tr i).objs.getD k hole):=by
    intro k hw hk
    have hu:upd X i b=X b:=by simp [upd];omega
    simp only [sP,hu]
    rw [if_neg hXb,hBe]
    refine Uw _ _ hib hX hw fun j hj hjn hxj hwj=>?_
    obtain ⟨p,hp,Yf⟩:=Lg j (by omega)
    have:=behind j p hp hj (by rw [Dg (.inr ⟨hwj,hk⟩),Bool.or_true])
    rw [this] at hxj;cases hxj
   rcases Eg (hf i hi hib) with ht | ⟨k,hk⟩ | ⟨k,hk⟩
   · exact zero ht
   · obtain ⟨_,g1,g2⟩:=zm.rd k hk
     have hs:=slot k (.inl hk)
     rw [List.getElem?_append_left g1] at hs
     exact run B _ (fun K hk'=>g2 B K hs (hk' _)) rfl (Yj (by omega) (by rw [hk];exact Yi k)).symm
   · have hs:=slot k (.inr hk)
     have hw:=hwr k (by rw [hk];exact Rv k) (.inr hk)
     rcases zm.wr k hk with ⟨o1,g1,g2,g3⟩ | ⟨g1,o1,mk,hm,gr,g2,hl1,hv1,g3⟩
     · rw [List.getElem?_append_left g1] at hs
       have hc:(aO tr i).objs.getD k hole=o1:=by
        rw [g2,List.getD_eq_getElem?_getD,List.getElem?_set];simp [g1]
       exact run (B.set k o1) _ (fun K hk'=>g3 B K hs (hk' _)) rfl (by rw [hw,hc])
     · have hc:(aO tr i).objs.getD k hole=o1:=by
        rw [g2,List.getD_eq_getElem?_getD,g1];simp
       have hlen:(oQ (aO tr) (fun _=>true) (i+1) S0.objs).length≤S0.objs.length+A:=(Uy hst hbl hf hA (i+1) hib).1
       have hX1:oQ (aO tr) (fun _=>true) (i+1) S0.objs=T++[o1]:=by
        simp only [oQ,Bool.true_and,beq_iff_eq]
        rw [if_pos (by rw [hk];exact Ur k),g2]
       rw [hX1,List.length_append,List.length_singleton] at hlen
       have adI:B[k]?=some hole:=by
        rw [hs,g1,List.getElem?_append_right (Nat.le_refl _),Nat.sub_self,List.getElem?_replicate,if_pos (by omega)]
       have h5:=xQ hev (g3 B (fun r objs' _=>r=mk B.length∧objs'=B++[o1]) ⟨rfl,rfl⟩)
       rw [← Ol] at h5
       refine Kk l hD R h5 fun r objs' t v w' au hr R' hv hn=>?_
       obtain ⟨rfl,rfl⟩:=hr
       rw [Ol] at R' hv hn
       have R0:Rel base ak w0 ⟨(sP ops tr S0 A b X).tmps,B⟩ blk a w:=by rw [← Ol];exact R
       obtain ⟨iX,R2,hv2⟩:=R0.fill adI hl1 hv1 R' hn hm hv
       have:=R2.put hv2 o.dst
       rw [← gr,hput _ (by rw [hw,hc])] at this
       exact hK _ _ _ this
 · rw [hg] at h1
   rw [if_neg (by rw [pE R h1];simp)]
   refine ⟨fun _ _=>trivial,?_⟩
   have:=R.put (xR w _ _ blk) o.dst
   rw [← h2] at this
   have hs:=hput (sP ops tr S0 A b X).objs (by rw [Ol,Yj (hnb (.inl h3)) (by rw [h3];rfl)])
   rw [show (sP ops tr S0 A b X).put o.dst (aO tr i).r=St.put ⟨(sP ops tr S0 A b X).tmps,(sP ops tr S0 A b X).objs⟩ o.dst (aO tr i).r from rfl,hs] at this
   exact hK _ _ _ this
theorem Om {own:Nat→Bool}{ops:List Oper}{ts:List Nat}{ms:List Nat}{b:Nat}{tr:List IG}{S0:St}{A:Nat}(hD:∀ t,iN P t (D t)) (hok:Li ops ts ms b)
  (hts:∀ i,i<ops.length→ts.getD i 0=(aO tr i).t)
  (hst:∀ i o,ops[i]?=some o→rR P D (own i) ops o (l7 ops tr S0 (fun _=>true) i) (aO tr i))
  (hA:(oQ (aO tr) (fun _=>true) b S0.objs).length=S0.objs.length+A)
  {base ak:Nat→Prop}{w0:Wz}{Q:Exit→Act→World→Prop}
  (hQ:∀ au a' w',Rel base ak w0 (sP ops tr S0 A b (fun _=>true)) au a' w'→Q .normal a' w') :
  ∀ (fuel:Nat) (L:Array Bool) (blk:Nat→Option Nat) (a:Act) (w:World),L.size=ops.length→
   (∀ j,j<ops.length→L.getD j false=true→∀ x,(ms.getD j 0).testBit x=true→L.getD x false=true)→cnt (fun j=>L.getD j false) ops.length≤fuel→
   Rel base ak w0 (sP ops tr S0 A b (fun j=>L.getD j false)) blk a w→wpAnyIn (EO l) 0 P .any ops.toArray Q fuel L a w:=by
 have full:∀ (L:Array Bool),L.size=ops.length→Region.ready .any ops.toArray L=[]→∀ i,i<ops.length→L.getD i false=true:=by
  intro L hsz hr i
  induction i using Nat.strongRecOn with
  | _ i ih=>
   intro hi
   cases hx:L.getD i false with
   | true=>rfl
   | false=>
    have hmem:i ∈ Region.ready .any ops.toArray L:=by
     simp only [Region.ready,List.mem_filter,mem_range,and_eq_true]
     refine ⟨by simpa using hi,?_,?_⟩
     · have hil:i<L.size:=by omega
       rw [Array.getD_eq_getD_getElem?,Array.getElem?_eq_getElem hil,getD_some] at hx ⊢
       rw [hx];rfl
     · have ho:ops.toArray[i]?=some ops[i]:=by simp [hi]
       rw [ho]
       simp only [map_some,getD_some]
       rw [Array.all_eq_true']
       intro e he
       cases hbd:Region.binds .any e with
       | false=>simp
       | true=>
        have hb:=hok.back i ops[i] (List.getElem?_eq_getElem hi) e (by simpa using he) hbd
        rw [ih e.on hb (by omega)];simp
    rw [hr] at hmem
    simp at hmem
 have step:∀ (L:Array Bool) (i:Nat),L.size=ops.length→i ∈ Region.ready .any ops.toArray L→∃ o,ops[i]?=some o∧L.getD i false=false∧∀ e ∈ o.after.toList,Region.binds .any e=true→L.getD e.on false=true:=by
  intro L i hsz hm
  simp only [Region.ready,List.mem_filter,mem_range,and_eq_true] at hm
  obtain ⟨hi,h1,h2⟩:=hm
  have hi:i<ops.length:=by simpa using hi
  have ho:ops.toArray[i]?=some ops[i]:=by simp [hi]
  rw [ho] at h2
  simp only [map_some,getD_some] at h2
  rw [Array.all_eq_true'] at h2
  refine ⟨ops[i],List.getElem?_eq_getElem hi,?_,fun e he hb=>?_⟩
  · have hil:i<L.size:=by omega
    rw [Array.getD_eq_getD_getElem?,Array.getElem?_eq_getElem hil,getD_some] at h1 ⊢
    simpa using h1
  · have:=h2 e (by simpa using he)
    rw [hb] at this
    simpa using this
 intro fuel
 induction fuel with
 | zero=>
  intro L blk a w hsz hcl hc R
  have hall:=Gu (X:=fun j=>L.getD j false) ops.length (by omega)
  have hst':sP ops tr S0 A b (fun j=>L.getD j false)=sP ops tr S0 A b (fun _=>true):=by
   have hbl:=hok.bl
   simp only [sP]
   rw [nM ops.length _ hall,sO b _ fun j hj=>hall j (by omega)]
   by_cases hbb:b<ops.length
   · have e:L.getD b false=true:=hall b hbb
     simp only [e]
   · simp [hbb]
  refine ⟨?_,hQ blk a w (hst' ▸ R)⟩
  cases hr:Region.ready .any ops.toArray L with
  | nil=>rfl
  | cons i is=>
   obtain ⟨o,ho,hx,_⟩:=step L i hsz (by rw [hr];exact List.mem_cons_self)
   rw [hall i (List.getElem?_eq_some_iff.1 ho).1] at hx
   cases hx
 | succ fuel ih=>
  intro L blk a w hsz hcl hc R
  refine ⟨fun hr=>?_,fun i hm=>?_⟩
  · have hall:=full L hsz hr
    have hst':sP ops tr S0 A b (fun j=>L.getD j false)=sP ops tr S0 A b (fun _=>true):=by
     have hbl:=hok.bl
     simp only [sP]
     rw [nM ops.length _ hall,sO b _ fun j hj=>hall j (by omega)]
     by_cases hbb:b<ops.length
     · have e:L.getD b false=true:=hall b hbb
       simp only [e]
     · simp [hbb]
    exact hQ blk a w (hst' ▸ R)
  · obtain ⟨o,ho,hx,hrd⟩:=step L i hsz hm
    have hi:i<ops.length:=(List.getElem?_eq_some_iff.1 ho).1
    have Yg:∀ x,(ms.getD i 0).testBit x=true→L.getD x false=true:=by
     intro x hb
     obtain ⟨e,h1,h2,h3⟩:=hok.mask i o ho x hb
     have he:=hrd e h1 h2
     rcases h3 with rfl | h3
     · exact he
     · exact hcl e.on (by have:=hok.back i o ho e h1 h2;omega) he x h3
    have Yh:∀ j,(L.setIfInBounds i true).getD j false=upd (fun j=>L.getD j false) i j:=by
     intro j
     rw [Array.getD_eq_getD_getElem?,Array.getElem?_setIfInBounds]
     simp only [upd]
     by_cases hij:i=j
     · subst hij
       rw [if_pos rfl,if_pos (by omega)];simp
     · rw [if_neg hij,Array.getD_eq_getD_getElem?]
       have:(j==i)=false:=by simp;omega
       rw [this,Bool.or_false]
    have hfun:(fun j=>(L.setIfInBounds i true).getD j false)=upd (fun j=>L.getD j false) i:=funext Yh
    refine Rw (X:=fun j=>L.getD j false) hD hok hts hst hA ho hx hcl Yg R fun au a' w' R'=>?_
    refine ih _ au a' w' (by simpa using hsz) ?_ ?_ (by rw [hfun];exact R')
    · intro j hj hb x hbx
      rw [Yh] at hb ⊢
      simp only [upd,or_eq_true,beq_iff_eq] at hb ⊢
      rcases hb with hb | rfl
      · exact .inl (hcl j hj hb x hbx)
      · exact .inl (Yg x hbx)
    · rw [hfun]
      have:=Le (X:=fun j=>L.getD j false) ops.length hi hx
      omega
def xS (ops:List Oper) (ts:List Nat) (b:Nat):Bool:=
 let ms:=masks ops []
 let ls:=ops.map (jB ops)
 ((List.range ops.length).all fun i=>if i<b then AX (ts.getD i 0) else if i=b then ts.getD i 0==2 else ts.getD i 0==0) &&
 decide (b≤ops.length) &&
 (decide (b=ops.length) || (List.range b).all fun j=>ts.getD j 0==0 || (ms.getD b 0).testBit j) &&
 (List.range ops.length).all fun i=>
  match ops[i]? with
  | none=>true
  | some o=>
   (o.after.toList.all fun e=>!Region.binds .any e || decide (e.on<i)) &&
   (ms.getD i 0 &&& Dc ms o==ms.getD i 0) &&
   (List.range i).all fun j=>
    !(clash ((ops[j]?).bind (·.dst)) o.dst (ls.getD j []) (ls.getD i []) 0 0 || zJ (ts.getD j 0) (ts.getD i 0)) || (ms.getD i 0).testBit j
theorem Ll {ops:List Oper}{ts:List Nat}{b:Nat}(h:xS ops ts b=true):Li ops ts (masks ops []) b:=by
 unfold xS at h
 simp only [and_eq_true,all_eq_true,mem_range] at h
 obtain ⟨⟨⟨zm,hbl⟩,hbar⟩,h⟩:=h
 have hbl:=of_decide_eq_true hbl
 have hh:∀ i o,ops[i]?=some o→_:=fun i o ho=>by
  have:=h i (List.getElem?_eq_some_iff.1 ho).1
  rw [ho] at this
  simp only [and_eq_true,all_eq_true,mem_range,beq_iff_eq] at this
  exact this
 refine ⟨fun i hi hb=>?_,hbl,fun hb=>?_,fun hb j hj hz=>?_,fun i hi hb=>?_,fun i o ho e he hb=>by simpa [hb] using (hh i o ho).1.1 e he,fun i o ho j hj=>?_,fun i o j p ho hp hji hc=>?_⟩
 · have:=zm i hi;rwa [if_pos hb] at this
 · have:=zm b hb
   rw [if_neg (by omega),if_pos rfl] at this
   simpa using this
 · simp only [or_eq_true,decide_eq_true_eq,all_eq_true,mem_range,beq_iff_eq] at hbar
   rcases hbar with hbar | hbar
   · omega
   · rcases hbar j hj with h1 | h1
     · exact absurd h1 hz
     · exact h1
 · have:=zm i hi
   rw [if_neg (by omega),if_neg (by omega)] at this
   simpa using this
 · refine Gv ?_
   have h2:=(hh i o ho).1.2
   rw [← h2,Nat.testBit_and] at hj
   simp only [and_eq_true] at hj
   exact hj.2
 · have h3:=(hh i o ho).2 j hji
   have hlt:=(List.getElem?_eq_some_iff.1 hp).1
   have e1:(ops.map (jB ops)).getD j []=jB ops p:=by rw [List.getD_eq_getElem?_getD,List.getElem?_map,hp];rfl
   have e2:(ops.map (jB ops)).getD i []=jB ops o:=by rw [List.getD_eq_getElem?_getD,List.getElem?_map,ho];rfl
   rw [e1,e2,hp] at h3
   simp only [Option.bind_some,hc,Bool.not_true,Bool.false_or] at h3
   exact h3
theorem PW.adJ {E:Env}{id:Nat}{ops:List Oper}{Q:Exit→St→Prop}{S:St}(own:Nat→Bool) (hD:∀ t,iN P t (D t)) (hm:P.follows .mixedOrders=true)
  (h:ql P D own ops ops 0 S [] fun S' ts=>(uP ops ts=true∨∃ b,xS ops ts b=true)∧Q .normal S'):PW P l E (.region id ops.toArray true) Q S:=by
 intro base ak V hE blk a w ⟨w0,hV,R⟩
 obtain ⟨tr,S',h1,h2,h3⟩:=mI _ _ _ _ _ h
 obtain ⟨h4,h5⟩:=wL (S0:=S) (tr0:=tr) ops 0 S tr S' h1 (fun j=>by simp) (fun j=>by simp) rfl
 refine wpIn_region_any hm ?_
 have R':Rel base ak w0 S blk a { w with drawn:=w.drawn+1 }:=R.grew (.same rfl)
 have hcn:∀ (X:Nat→Bool) n,cnt X n≤n:=by
  intro X n
  induction n with
  | zero=>exact Nat.le_refl _
  | succ n ih=>simp only [cnt];split <;> omega
 have hrep:∀ j,(Array.replicate ops.toArray.size false).getD j false=false:=by
  intro j
  rw [Array.getD_eq_getD_getElem?,Array.getElem?_replicate]
  split <;> rfl
 have htr:tr.length=ops.length:=by
  clear h2 h3 h4 h5 h
  have:∀ (qN:List Oper) (k:Nat) (S:St) (tr:List IG) (S':St),Trace P D own ops qN k S tr S'→tr.length=qN.length:=by
   intro qN
   induction qN with
   | nil=>rintro k S tr S' ⟨rfl,_⟩;rfl
   | cons o qN ih=>
    rintro k S tr S' ⟨e,tr',rfl,_,h⟩
    simp [ih _ _ _ _ h]
  exact this _ _ _ _ _ h1
 have hts:∀ i,i<ops.length→(tr.map (·.t)).getD i 0=(aO tr i).t:=by
  intro i hi
  have hil:i<tr.length:=by omega
  simp [aO,List.getD_eq_getElem?_getD,List.getElem?_map,List.getElem?_eq_getElem hil]
 rw [Nat.zero_add] at h5
 subst h5
 have hst:∀ i o,ops[i]?=some o→rR P D (own i) ops o (l7 ops tr S (fun _=>true) i) (aO tr i):=fun i o ho=>h4 i o (Nat.zero_le _) ho
 have hc:=hcn (fun j=>(Array.replicate ops.toArray.size false).getD j false) ops.length
 have hsz:ops.toArray.size=ops.length:=by simp
 have hrs:(Array.replicate ops.toArray.size false).size=ops.length:=by simp
 have hQ:∀ au a' w',Rel base ak w0 (l7 ops tr S (fun _=>true) ops.length) au a' w'→∃ S' mJ,Q .normal S'∧qP base ak V S' mJ a' w':=
  fun au a' w' R''=>⟨_,au,h3,w0,hV,R''⟩
 have hcl:∀ j,j<ops.length→(Array.replicate ops.toArray.size false).getD j false=true→∀ x,((masks ops []).getD j 0).testBit x=true→(Array.replicate ops.toArray.size false).getD x false=true:=by
  intro j _ hb
  rw [hrep] at hb;cases hb
 have e1:∀ (L:Array Bool),(∀ j,L.getD j false=false)→∀ n tm,Gs (qm ops) (aO tr) (fun j=>L.getD j false) n tm=tm:=by
  intro L hL n tm
  induction n with
  | zero=>rfl
  | succ n ih=>simp only [Gs];rw [if_neg (by rw [hL n];simp)];exact ih
 rcases h2 with h2 | ⟨b,h2⟩
 · have hR:∀ (L:Array Bool),(∀ j,L.getD j false=false)→l7 ops tr S (fun j=>L.getD j false) ops.length=S:=by
    intro L hL
    have e2:∀ n ob,oQ (aO tr) (fun j=>L.getD j false) n ob=ob:=by
     intro n ob
     induction n with
     | zero=>rfl
     | succ n ih=>simp only [oQ];rw [if_neg (by rw [hL n];simp)];exact ih
    simp only [l7,e1 L hL,e2]
   have R1:Rel base ak w0 (l7 ops tr S (fun j=>(Array.replicate ops.toArray.size false).getD j false) ops.length) blk a { w with drawn:=w.drawn+1 }:=by rw [hR _ hrep];exact R'
   have h2':uP ops (tr.map (·.t))=true:=h2
   generalize Array.replicate ops.toArray.size false=L at *
   exact Gx (Q:=fun e a' w'=>∃ S' au,Q e S'∧qP base ak V S' au a' w') hD (Ee h2') hts hst hQ ops.toArray.size L blk a _ hrs hcl (by rw [hsz];exact hc) R1
 · have h2':=Ll h2
   have hbl:=h2'.bl
   have hf:∀ i,i<ops.length→i<b→AX (aO tr i).t=true:=fun i hi hb=>by rw [← hts i hi];exact h2'.fine i hi hb
   have mono:∀ i,i≤b→S.objs.length≤(oQ (aO tr) (fun _=>true) i S.objs).length:=by
    intro i
    induction i with
    | zero=>intro _;exact Nat.le_refl _
    | succ i ih=>intro hi;exact Nat.le_trans (ih (by omega)) (Ux hst hbl hf i (by omega)).1
   obtain ⟨A,hA⟩:∃ A,(oQ (aO tr) (fun _=>true) b S.objs).length=S.objs.length+A:=⟨(oQ (aO tr) (fun _=>true) b S.objs).length-S.objs.length,by have:=mono b (Nat.le_refl _);omega⟩
   obtain ⟨Yl,R0⟩:=R'.holes A
   have hR:∀ (L:Array Bool),(∀ j,L.getD j false=false)→sP ops tr S A b (fun j=>L.getD j false)=⟨S.tmps,S.objs++List.replicate A hole⟩:=by
    intro L hL
    have e2:∀ n ob,AY (aO tr) (fun j=>L.getD j false) n ob=ob:=by
     intro n ob
     induction n with
     | zero=>rfl
     | succ n ih=>simp only [AY];rw [if_neg (by rw [hL n];simp)];exact ih
    simp only [sP,e1 L hL,e2,hL b,Bool.and_false,Bool.false_eq_true,if_false]
   have R1:Rel base ak w0 (sP ops tr S A b (fun j=>(Array.replicate ops.toArray.size false).getD j false)) Yl a { w with drawn:=w.drawn+1 }:=by rw [hR _ hrep];exact R0
   have hend:sP ops tr S A b (fun _=>true)=l7 ops tr S (fun _=>true) ops.length:=by
    have h1:=(Uy hst hbl hf hA b (Nat.le_refl _)).2
    rw [hA,Nat.sub_self,List.replicate_zero,List.append_nil] at h1
    have up:∀ d n,b+1≤n→n+d=ops.length→oQ (aO tr) (fun _=>true) ops.length S.objs=oQ (aO tr) (fun _=>true) n S.objs:=by
     intro d
     induction d with
     | zero=>intro n _ hd;rw [← hd];rfl
     | succ d ih=>
      intro n hn hd
      rw [ih (n+1) (by omega) (by omega)]
      have hz:(aO tr n).t=0:=by rw [← hts n (by omega)];exact h2'.rest n (by omega) (by omega)
      simp only [oQ,hz]
      rw [if_neg (by decide)]
    simp only [sP,l7,Bool.and_true,decide_eq_true_eq]
    by_cases hbb:b<ops.length
    · rw [if_pos hbb,up (ops.length-(b+1)) (b+1) (Nat.le_refl _) (by omega)]
      have h22:(aO tr b).t=2:=by rw [← hts b hbb];exact h2'.two hbb
      simp only [oQ,h22]
      rw [if_pos (by decide)]
    · have:b=ops.length:=by omega
      subst this
      rw [if_neg hbb,h1]
   have hQ2:∀ au a' w',Rel base ak w0 (sP ops tr S A b (fun _=>true)) au a' w'→∃ S' mJ,Q .normal S'∧qP base ak V S' mJ a' w':=
    fun au a' w' R''=>hQ au a' w' (hend ▸ R'')
   generalize Array.replicate ops.toArray.size false=L at *
   exact Om (Q:=fun e a' w'=>∃ S' au,Q e S'∧qP base ak V S' au a' w') hD h2' hts hst hA hQ2 ops.toArray.size L Yl a _ hrs hcl (by rw [hsz];exact hc) R1
end Lp
namespace Lp
open Go
open List (map_congr_left map_id)
open Option (map_some)
def PV.bJ (f:PV→PV):PV→PV
 | .agg cs=>.agg (cs.map f)
 | p=>f p
theorem AZ {p:PV}(h:p.isAgg=false):p.cells=[p]:=by cases p <;> first | rfl | (simp [PV.isAgg] at h)
theorem mK {f:PV→PV}(hf:∀ p,p.isAgg=false→(f p).isAgg=false) (x:PV):(x.bJ f).cells=x.cells.map f:=by
 cases hx:x.isAgg with
 | true=>
  cases x <;> simp [PV.isAgg] at hx
  rfl
 | false=>
  have:x.bJ f=f x:=by cases x <;> first | rfl | (simp [PV.isAgg] at hx)
  rw [this,AZ hx,AZ (hf x hx)]
  rfl
def iY:Nat→Nat→List Obj→PV→PV
 | 0,_,_,.bG ..=>.dead
 | 0,_,_,.bI ..=>.dead
 | _,_,_,.lD ..=>.dead
 | d+1,n,objs,.bG k ver=>
  match objs[k]? with
  | some o=>if decide (n≤k) && o.live && o.ver==ver then .sl o.sz (o.xs.map (PV.bJ (iY d n objs))) none else .dead
  | none=>.dead
 | d+1,n,objs,.bI k ver i f=>
  match objs[k]? with
  | some o=>if decide (n≤k) && o.live && o.ver==ver && f==0 then (match o.xs[i]? with | some x=>.addr (x.bJ (iY d n objs)) | none=>.dead) else .dead
  | none=>.dead
 | _,_,_,p=>p
def eY (d n:Nat) (objs:List Obj):PV→PV
 | .bG k ver=>if k<n then .bG k ver else iY d n objs (.bG k ver)
 | .bI k ver i f=>if k<n then .bI k ver i f else iY d n objs (.bI k ver i f)
 | .lD k ver=>if k<n then .lD k ver else .dead
 | p=>p
def gQ (d n:Nat) (objs:List Obj):PV→PV
 | .fn f a c=>.fn f (a.map (eY d n objs)) (c.map (eY d n objs))
 | .b_ cs=>.b_ (cs.map (eY d n objs))
 | .agg cs=>.agg (cs.map (eY d n objs))
 | p=>eY d n objs p
def fE (d n:Nat) (objs:List Obj) (o:Obj):Obj:={ o with xs:=o.xs.map (PV.bJ (eY d n objs)) }
def St.freeze (d n:Nat) (S:St):St:=⟨S.tmps.map (gQ d n S.objs),(S.objs.take n).map (fE d n S.objs)⟩
theorem Gy (d n:Nat) (objs:List Obj) (p:PV) (h:p.isAgg=false):(iY d n objs p).isAgg=false:=by
 cases d <;> cases p <;> simp only [iY] <;> first | rfl | exact h | (split <;> first | rfl | (split <;> first | rfl | (split <;> rfl)))
theorem Uz (d n:Nat) (objs:List Obj) (p:PV) (h:p.isAgg=false):(eY d n objs p).isAgg=false:=by
 cases p <;> simp only [eY] <;> first | rfl | exact h | (split <;> first | rfl | (exact Gy _ _ _ _ rfl))
section
variable {base ak:Nat→Prop}{w0:Wz}{S:St}{blk:Nat→Option Nat}{a:Act}{w:World}
theorem nN {d n k:Nat}{o':Obj}(h:(S.freeze d n).objs[k]?=some o'):k<n∧∃ o,S.objs[k]?=some o∧o'=fE d n S.objs o:=by
 simp only [St.freeze,List.getElem?_map,List.getElem?_take] at h
 split at h
 · rename_i hk
   cases ho:S.objs[k]? with
   | none=>rw [ho] at h;simp at h
   | some o=>rw [ho] at h;exact ⟨hk,o,rfl,by simpa using h.symm⟩
 · simp at h
theorem Gz {d n b:Nat}(h:aY S.objs blk b):aY (S.freeze d n).objs blk b:=by
 intro k o' ho' hl
 obtain ⟨_,o,ho,rfl⟩:=nN ho'
 exact h k o ho hl
theorem xU {d n b:Nat}(h:bR base S.objs blk b):bR base (S.freeze d n).objs blk b:=⟨h.1,Gz h.2⟩
theorem A7 (R:Rel base ak w0 S blk a w){d n k g:Nat}{o:Obj}(hk:n≤k) (ho:S.objs[k]?=some o) (hl:o.live=true) (hg:blk k=some g):bR base (S.freeze d n).objs blk g:=by
 refine ⟨R.pb g (R.objs.np k o g ho hl hg),fun k' o' ho' hl'=>?_⟩
 obtain ⟨hk',o1,ho1,rfl⟩:=nN ho'
 exact R.objs.IK k k' o o1 g (by omega) ho hl ho1 hl' hg
theorem Oo (R:Rel base ak w0 S blk a w) (d' n:Nat):∀ (d:Nat) (p:PV) (v:Value),bD w (bR base S.objs blk) S.objs blk p v→dz w (bR base (S.freeze d' n).objs blk) (iY d n S.objs p) v:=by
 intro d
 induction d with
 | zero=>
  intro p v h
  have hm:∀ q:PV,dz w (bR base S.objs blk) q v→dz w (bR base (S.freeze d' n).objs blk) q v:=fun q hq=>hq.mono (Nat.le_refl _) (fun b _ h=>xU h) (fun _ _ _ h=>h)
  cases p <;> simp only [iY] <;> first | exact .dead v | exact hm _ h
 | succ d ih=>
  intro p v h
  have hm:∀ q:PV,dz w (bR base S.objs blk) q v→dz w (bR base (S.freeze d' n).objs blk) q v:=fun q hq=>hq.mono (Nat.le_refl _) (fun b _ h=>xU h) (fun _ _ _ h=>h)
  cases p
  case bG k ver=>
   obtain ⟨_,o,ho,_,h3⟩:=h
   simp only [iY,ho]
   split
   · rename_i hc
     simp only [Bool.and_eq_true,decide_eq_true_eq,beq_iff_eq] at hc
     obtain ⟨⟨hn,hl⟩,hv⟩:=hc
     obtain ⟨hM,hh⟩:=h3 hl hv
     have hb:=R.objs.ob k o ho hl
     unfold yJ at hh
     unfold cK at hb
     cases hg:blk k with
     | none=>
      rw [hg] at hh
      obtain ⟨rfl,hx⟩:=hh
      rw [hx]
      exact .slnil _ _ (by simp)
     | some g=>
      rw [hg] at hh hb
      obtain ⟨cap,c,rfl,hc,h4,h5,h6⟩:=hh
      obtain ⟨c',hc',h7,h8⟩:=hb
      rw [lF hM,hc] at hc'
      cases hc'
      have hlen:(o.xs.map (PV.bJ (iY d n S.objs))).length=o.xs.length:=by simp
      rw [← hlen]
      have hel:∀ (i:Nat) (x:PV),(o.xs.map (PV.bJ (iY d n S.objs)))[i]?=some x→∃ x0,o.xs[i]?=some x0∧x.cells=x0.cells.map (iY d n S.objs):=by
       intro i x hx
       rw [List.getElem?_map] at hx
       cases h0:o.xs[i]? with
       | none=>rw [h0] at hx;simp at hx
       | some x0=>
        rw [h0] at hx
        simp only [map_some,Option.some.injEq] at hx
        subst hx
        exact ⟨x0,rfl,mK (Gy _ _ _) x0⟩
      have hgl:g<w.heap.size:=(Array.getElem?_eq_some_iff.1 hc).1
      refine .sl _ _ _ (by simp) g 0 cap (fun i j=>c.getD (i*o.sz+j) undef) (fun _=>⟨A7 R hn ho hl hg,hgl⟩) (by rw [hlen];exact h4) h5 ?_ ?_ ?_
      · intro i x hx
        obtain ⟨x0,hx0,e⟩:=hel i x hx
        rw [e,List.length_map];exact (h8 i x0 hx0).1
      · intro i x j p hx hp
        obtain ⟨x0,hx0,e⟩:=hel i x hx
        rw [e,List.getElem?_map] at hp
        cases hp0:x0.cells[j]? with
        | none=>rw [hp0] at hp;simp at hp
        | some p0=>
         obtain ⟨u,hu,_⟩:=(h8 i x0 hx0).2 j p0 hp0
         have:0+i*o.sz+j=i*o.sz+j:=by omega
         unfold World.cell?
         simp only [hc,this]
         rw [Array.getD_eq_getD_getElem?,hu]
         rfl
      · intro i x j p hx hp
        obtain ⟨x0,hx0,e⟩:=hel i x hx
        rw [e,List.getElem?_map] at hp
        cases hp0:x0.cells[j]? with
        | none=>rw [hp0] at hp;simp at hp
        | some p0=>
         rw [hp0] at hp
         simp only [map_some,Option.some.injEq] at hp
         subst hp
         obtain ⟨u,hu,hr⟩:=(h8 i x0 hx0).2 j p0 hp0
         rw [Array.getD_eq_getD_getElem?,hu]
         exact ih p0 u hr
   · exact .dead v
  case bI k ver i f=>
   obtain ⟨_,o,ho,_,h3⟩:=h
   simp only [iY,ho]
   split
   · rename_i hc
     simp only [Bool.and_eq_true,decide_eq_true_eq,beq_iff_eq] at hc
     obtain ⟨⟨⟨hn,hl⟩,hv⟩,rfl⟩:=hc
     obtain ⟨hM,g,hg,rfl⟩:=h3 hl hv
     have hb:=R.objs.ob k o ho hl
     unfold cK at hb
     rw [hg] at hb
     obtain ⟨c,hc,h7,h8⟩:=hb
     rw [lF hM] at hc
     have hgl:g<w.heap.size:=(Array.getElem?_eq_some_iff.1 hc).1
     cases hx:o.xs[i]? with
     | none=>exact .dead _
     | some x0=>
      have e:=mK (Gy d n S.objs) x0
      refine .addr _ g (i*o.sz+0) (fun j=>c.getD (i*o.sz+j) undef) ⟨A7 R hn ho hl hg,hgl⟩ ?_ ?_
      · intro j p hp
        rw [e,List.getElem?_map] at hp
        cases hp0:x0.cells[j]? with
        | none=>rw [hp0] at hp;simp at hp
        | some p0=>
         obtain ⟨u,hu,_⟩:=(h8 i x0 hx).2 j p0 hp0
         unfold World.cell?
         simp only [hc,Nat.add_zero]
         rw [Array.getD_eq_getD_getElem?,hu]
         rfl
      · intro j p hp
        rw [e,List.getElem?_map] at hp
        cases hp0:x0.cells[j]? with
        | none=>rw [hp0] at hp;simp at hp
        | some p0=>
         rw [hp0] at hp
         simp only [map_some,Option.some.injEq] at hp
         subst hp
         obtain ⟨u,hu,hr⟩:=(h8 i x0 hx).2 j p0 hp0
         rw [Array.getD_eq_getD_getElem?,hu]
         exact ih p0 u hr
   · exact .dead _
  case lD k ver=>simp only [iY];exact .dead v
  all_goals (simp only [iY];exact hm _ h)
theorem qp (R:Rel base ak w0 S blk a w) (d n:Nat) (p:PV) (v:Value) (h:bD w (bR base S.objs blk) S.objs blk p v) :
  bD w (bR base (S.freeze d n).objs blk) (S.freeze d n).objs blk (eY d n S.objs p) v:=by
 have hm:∀ q:PV,dz w (bR base S.objs blk) q v→dz w (bR base (S.freeze d n).objs blk) q v:=fun q hq=>hq.mono (Nat.le_refl _) (fun b _ h=>xU h) (fun _ _ _ h=>h)
 have hget:∀ k o,k<n→S.objs[k]?=some o→(S.freeze d n).objs[k]?=some (fE d n S.objs o):=by
  intro k o hk ho
  simp only [St.freeze,List.getElem?_map,List.getElem?_take,if_pos hk,ho,map_some]
 cases p
 case bG k ver=>
  simp only [eY]
  split
  · rename_i hk
    obtain ⟨h0,o,ho,h2,h3⟩:=h
    refine ⟨h0,_,hget k o hk ho,h2,fun hl hv=>?_⟩
    obtain ⟨hM,hh⟩:=h3 hl hv
    refine ⟨hM,?_⟩
    unfold yJ at hh ⊢
    cases hg:blk k with
    | none=>rw [hg] at hh;exact ⟨hh.1,by simp [fE,hh.2]⟩
    | some g=>rw [hg] at hh;simpa [fE] using hh
  · exact .aJ (Oo R d n d _ v h)
 case bI k ver i f=>
  simp only [eY]
  split
  · rename_i hk
    obtain ⟨h0,o,ho,h2,h3⟩:=h
    exact ⟨h0,_,hget k o hk ho,h2,h3⟩
  · exact .aJ (Oo R d n d _ v h)
 case lD k ver=>
  simp only [eY]
  split
  · rename_i hk
    obtain ⟨h0,o,ho,h2,h3⟩:=h
    exact ⟨h0,_,hget k o hk ho,h2,h3⟩
  · exact .aJ (.dead v)
 all_goals (simp only [eY];exact .aJ (hm _ h))
theorem xV {R R':PV→Value→Prop}{f:PV→PV}{cs:List PV}{vs:List Value}(h:cZ R cs vs) (hf:∀ p v,R p v→R' (f p) v):cZ R' (cs.map f) vs:=by
 refine ⟨by simpa using h.1,fun i p v hp hv=>?_⟩
 rw [List.getElem?_map] at hp
 cases hc:cs[i]? with
 | none=>rw [hc] at hp;simp at hp
 | some p0=>
  rw [hc] at hp
  simp only [map_some,Option.some.injEq] at hp
  subst hp
  exact hf p0 v (h.2 i p0 v hc hv)
theorem GA (R:Rel base ak w0 S blk a w) (d n:Nat) (p:PV) (v:Value) (h:aX w (bR base S.objs blk) S.objs blk p v) :
  aX w (bR base (S.freeze d n).objs blk) (S.freeze d n).objs blk (gQ d n S.objs p) v:=by
 have hS:bD w (bR base S.objs blk) S.objs blk p v→aX w (bR base (S.freeze d n).objs blk) (S.freeze d n).objs blk (eY d n S.objs p) v:=fun h=>.kM (qp R d n p v h)
 cases p
 case fn f a c=>
  obtain ⟨va,vc,rfl,h1,h2⟩:=h
  exact ⟨va,vc,rfl,xV h1 (qp R d n),xV h2 (qp R d n)⟩
 case b_ cs=>obtain ⟨vs,rfl,h1⟩:=h;exact ⟨vs,rfl,xV h1 (qp R d n)⟩
 case agg cs=>obtain ⟨vs,rfl,h1⟩:=h;exact ⟨vs,rfl,xV h1 (qp R d n)⟩
 all_goals exact hS h
theorem Lm {d n:Nat}{objs:List Obj}{p:PV}(h:p.vW n=true):eY d n objs p=p:=by
 cases p <;> simp only [eY] <;> (try rfl) <;> (simp only [PV.vW,decide_eq_true_eq] at h;rw [if_pos h])
theorem Fu {d n:Nat}{objs:List Obj}{cs:List PV}(h:cs.all (PV.vW n)=true):cs.map (eY d n objs)=cs:=by
 conv=>rhs;rw [← map_id cs]
 exact map_congr_left fun p hp=>Lm (List.all_eq_true.1 h p hp)
theorem aaD {d n:Nat}{objs:List Obj}{p:PV}(h:p.lt n=true):gQ d n objs p=p:=by
 cases p <;> simp only [gQ] <;> simp only [PV.lt,Bool.and_eq_true] at h
 case fn f a c=>rw [Fu h.1,Fu h.2]
 case b_ cs=>rw [Fu h]
 case agg cs=>rw [Fu h]
 all_goals exact Lm h
theorem GD {n m:Nat}(h:n≤m){p:PV}(hp:p.vW n=true):p.vW m=true:=by
 cases p <;> simp only [PV.vW,decide_eq_true_eq] at hp ⊢ <;> omega
theorem pG {n m:Nat}(h:n≤m){cs:List PV}(hp:cs.all (PV.vW n)=true):cs.all (PV.vW m)=true:=by
 rw [List.all_eq_true] at hp ⊢
 exact fun p hm=>GD h (hp p hm)
theorem UA {n m:Nat}(h:n≤m){p:PV}(hp:p.lt n=true):p.lt m=true:=by
 cases p <;> simp only [PV.lt,Bool.and_eq_true] at hp ⊢
 case fn f a c=>exact ⟨pG h hp.1,pG h hp.2⟩
 case b_ cs=>exact pG h hp
 case agg cs=>exact pG h hp
 all_goals exact GD h hp
theorem Rel.freeze (R:Rel base ak w0 S blk a w) (d n:Nat) (hn:w0.nx≤n):Rel base ak w0 (S.freeze d n) blk a w:=by
 refine ⟨R.oD.mono (fun b _ h=>⟨xU h.1,h.2⟩) (fun _ _ _ h=>h),by simpa [St.freeze] using R.CY,fun t p hp=>?_,⟨fun k o' ho' hl=>?_,?_,?_⟩,R.pr,R.fr,R.gr,R.pb,fun x hx=>(aaD (d:=d) (objs:=S.objs) (UA hn (R.J8 x hx))) ▸ GA R d n x.1 x.2 (R.ext x hx),R.J8,R.sm,R.gl⟩
 · simp only [St.freeze,List.getElem?_map] at hp
   cases ht:S.tmps[t]? with
   | none=>rw [ht] at hp;simp at hp
   | some p0=>
    rw [ht] at hp
    simp only [map_some,Option.some.injEq] at hp
    subst hp
    exact GA R d n p0 _ (R.tm t p0 ht)
 · obtain ⟨hk,o,ho,rfl⟩:=nN ho'
   have hb:=R.objs.ob k o ho hl
   unfold cK at hb ⊢
   cases hg:blk k with
   | none=>rw [hg] at hb;simp [fE,hb]
   | some g=>
    rw [hg] at hb
    obtain ⟨c,hc,h7,h8⟩:=hb
    refine ⟨c,hc,by simpa [fE,fits] using h7,fun i x hx=>?_⟩
    simp only [fE,List.getElem?_map] at hx
    cases hx0:o.xs[i]? with
    | none=>rw [hx0] at hx;simp at hx
    | some x0=>
     rw [hx0] at hx
     simp only [map_some,Option.some.injEq] at hx
     subst hx
     have e:=mK (Uz d n S.objs) x0
     refine ⟨by rw [e,List.length_map];exact (h8 i x0 hx0).1,fun j p hp=>?_⟩
     rw [e,List.getElem?_map] at hp
     cases hp0:x0.cells[j]? with
     | none=>rw [hp0] at hp;simp at hp
     | some p0=>
      rw [hp0] at hp
      simp only [map_some,Option.some.injEq] at hp
      subst hp
      obtain ⟨u,hu,hr⟩:=(h8 i x0 hx0).2 j p0 hp0
      exact ⟨u,hu,qp R d n p0 u hr⟩
 · intro k k' o o' g hne h1 h2 h3 h4 h5
   obtain ⟨_,o1,ho1,rfl⟩:=nN h1
   obtain ⟨_,o2,ho2,rfl⟩:=nN h3
   exact R.objs.IK k k' o1 o2 g hne ho1 h2 ho2 h4 h5
 · intro k o g h1 h2 h3
   obtain ⟨_,o1,ho1,rfl⟩:=nN h1
   exact R.objs.np k o1 g ho1 h2 h3
def yM:List Bool→List PV→List PV
 | _,[]=>[]
 | [],p::ps=>.dead::yM [] ps
 | true::ks,p::ps=>p::yM ks ps
 | false::ks,_::ps=>.dead::yM ks ps
theorem nO:∀ (ks:List Bool) (ps:List PV),(yM ks ps).length=ps.length
 | ks,[]=>by cases ks <;> simp [yM]
 | [],_::ps=>by simp [yM,nO [] ps]
 | true::ks,p::ps=>by simp [yM,nO ks ps]
 | false::ks,p::ps=>by simp [yM,nO ks ps]
theorem Fv:∀ (ks:List Bool) (ps:List PV) (t:Nat) (p:PV),(yM ks ps)[t]?=some p→p=.dead∨ps[t]?=some p
 | ks,[],_,_,h=>by cases ks <;> simp [yM] at h
 | [],q::ps,0,p,h=>by simp only [yM,List.getElem?_cons_zero,Option.some.injEq] at h;exact .inl h.symm
 | [],q::ps,t+1,p,h=>by simp only [yM,List.getElem?_cons_succ] at h ⊢;exact Fv [] ps t p h
 | true::ks,q::ps,0,p,h=>by simp only [yM,List.getElem?_cons_zero,Option.some.injEq] at h;exact .inr (by simpa using h)
 | true::ks,q::ps,t+1,p,h=>by simp only [yM,List.getElem?_cons_succ] at h ⊢;exact Fv ks ps t p h
 | false::ks,q::ps,0,p,h=>by simp only [yM,List.getElem?_cons_zero,Option.some.injEq] at h;exact .inl h.symm
 | false::ks,q::ps,t+1,p,h=>by simp only [yM,List.getElem?_cons_succ] at h ⊢;exact Fv ks ps t p h
def St.forget (ks:List Bool) (S:St):St:=⟨yM ks S.tmps,S.objs⟩
theorem aX.dead {ok:Nat→Prop}{objs:List Obj}(v:Value):aX w ok objs blk .dead v:=.aJ (.dead v)
theorem Rel.forget (R:Rel base ak w0 S blk a w) (ks:List Bool):Rel base ak w0 (S.forget ks) blk a w:=by
 refine ⟨R.oD,by simpa [St.forget,nO] using R.CY,fun t p hp=>?_,R.objs,R.pr,R.fr,R.gr,R.pb,R.ext,R.J8,R.sm,R.gl⟩
 rcases Fv ks S.tmps t p hp with rfl | h
 · exact .dead _
 · exact R.tm t p h
def St.Eh (t ty sz:Nat) (S:St):St:=
 match S.tmps[t]? with
 | some (.sl _ [] _)=>⟨S.tmps.set t (.bG S.objs.length 0),S.objs++[⟨ty,sz,[],true,0⟩]⟩
 | _=>S
end
theorem Weak.refl (m:Nat) (S:St):Weak m S S:=fun _ _ _ blk _ _ _ R=>⟨blk,R⟩
theorem Weak.trans {m:Nat}{S S' S'':St}(h:Weak m S S') (h':Weak m S' S''):Weak m S S'':=fun base ak w0 blk a w hm R=>let ⟨au,R'⟩:=h base ak w0 blk a w hm R;h' base ak w0 au a w hm R'
theorem Weak.freeze {m:Nat}(d n:Nat) (hn:m≤n) (S:St):Weak m S (S.freeze d n):=fun _ _ _ blk _ _ hm R=>⟨blk,R.freeze d n (Nat.le_trans hm hn)⟩
theorem Weak.forget (m:Nat) (ks:List Bool) (S:St):Weak m S (S.forget ks):=fun _ _ _ blk _ _ _ R=>⟨blk,R.forget ks⟩
def St.norm (ks:List Bool) (fz:Option (Nat×Nat)) (S:St):St:=
 match fz with
 | none=>S.forget ks
 | some (d,n)=>(S.forget ks).freeze d n
def IZ (m:Nat):Option (Nat×Nat)→Prop
 | none=>True
 | some (_,n)=>m≤n
theorem Weak.norm {m:Nat}(ks:List Bool) (fz:Option (Nat×Nat)) (h:IZ m fz) (S:St):Weak m S (S.norm ks fz):=by
 cases fz with
 | none=>exact .forget m ks S
 | some x=>exact (Weak.forget m ks S).trans (Weak.freeze _ _ h _)
theorem Rel.Eh {base ak:Nat→Prop}{w0:Wz}{S:St}{blk:Nat→Option Nat}{a:Act}{w:World}(R:Rel base ak w0 S blk a w){t sz ty:Nat}{sz':Nat}(h:S.tmps[t]?=some (.sl sz' [] (some true))) (hM:ty≠MT) :
  Rel base ak w0 ⟨S.tmps.set t (.bG S.objs.length 0),S.objs++[⟨ty,sz,[],true,0⟩]⟩ (aF blk S.objs.length none) a w:=by
 have h1:=R.C9 (o1:=⟨ty,sz,[],true,0⟩) (gb:=none) (kN.refl w) (fun g hg=>by cases hg) fun _=>by
  unfold cK aF
  rw [if_pos rfl]
 refine ⟨h1.oD,by simpa using h1.CY,fun t' p hp=>?_,h1.objs,h1.pr,h1.fr,h1.gr,h1.pb,h1.ext,h1.J8,h1.sm,h1.gl⟩
 simp only [List.getElem?_set] at hp
 split at hp
 · rename_i ht
   subst ht
   split at hp
   · cases hp
     have hx:=R.tm t _ h
     have hx':dz w (bR base S.objs blk) (.sl sz' [] (some true)) (a.tmps.getD t undef):=hx
     generalize hv:a.tmps.getD t undef=v at hx'
     cases hx' with
     | slnil _ _ _=>
      refine ⟨rfl,⟨ty,sz,[],true,0⟩,aaz _ _,Nat.le_refl _,fun _ _=>⟨hM,?_⟩⟩
      unfold yJ aF
      rw [if_pos rfl]
      exact ⟨rfl,rfl⟩
     | J6 _ _ hq=>exact absurd rfl hq
     | sl _ _ _ hq=>exact absurd rfl hq
   · cases hp
 · exact h1.tm t' p hp
theorem Weak.Eh {m:Nat}{tm:List PV}{objs:List Obj}(t ty sz:Nat){sz':Nat}(h:tm[t]?=some (.sl sz' [] (some true))) (hM:ty≠MT:=by decide) :
  Weak m ⟨tm,objs⟩ ⟨tm.set t (.bG objs.length 0),objs++[⟨ty,sz,[],true,0⟩]⟩:=
 fun _ _ _ _ _ _ _ R=>⟨_,Rel.Eh (S:=⟨tm,objs⟩) R h hM⟩
def jU (objs:List Obj):Prop:=∀ o ∈ objs,∀ x ∈ o.xs,∀ c ∈ x.cells,c.vW objs.length=true
theorem Oq {f:PV→PV}{x:PV}(h:∀ c ∈ x.cells,f c=c):x.bJ f=x:=by
 cases x <;> simp only [PV.bJ] <;> simp only [PV.cells] at h
 case agg cs=>congr 1;conv=>rhs;rw [← map_id cs]
              exact map_congr_left fun c hc=>h c hc
 all_goals exact h _ List.mem_cons_self
theorem Fw {d:Nat}{objs objs':List Obj}(h:jU objs):objs.map (fE d objs.length objs')=objs:=by
 conv=>rhs;rw [← map_id objs]
 refine map_congr_left fun o ho=>?_
 have hx:o.xs.map (PV.bJ (eY d objs.length objs'))=o.xs:=by
  conv=>rhs;rw [← map_id o.xs]
  exact map_congr_left fun x hx=>Oq fun c hc=>Lm (h o ho x hx c hc)
 simp only [fE,hx,id]
end Lp
namespace Lp
open Go
open List (all_eq_true mem_range)
structure Step where
 dst:Option Nat
 op:Op
 g:Option (Option Nat×Bool)
 own:Bool
inductive LC where
 | skip
 | ret
 | bad
 | reg (ss:List Step)
 | draw (ss:List Step) (un:List Nat)
 | seq (a b:LC)
 | cond (c:Operand) (a b:LC)
 | block (id:Nat) (c:LC)
 | loop (ks:List Bool) (fz:Option (Nat×Nat)) (c:LC)
 | exit (id:Nat)
 | weak (c:LC)
 | rf (f:Operand) (ps:List Nat) (fz:Option (Nat×Nat)) (a b:LC)
def o9 (ops:List Oper) (ms:List Nat):List Nat:=
 (List.range ops.length).map fun i=>(List.range i).foldl (fun u j=>if (ms.getD i 0).testBit j then u else u ||| (1 <<<j)) 0
def fT (ops:List Oper) (ms:List Nat):Bool:=
 let ls:=ops.map (jB ops)
 let zs:=ops.map fun _=>0
 (List.range ops.length).all fun i=>
  match ops[i]? with
  | none=>true
  | some o=>
   (o.after.toList.all fun e=>!Region.binds .any e || decide (e.on<i)) &&
   (ms.getD i 0 &&& Dc ms o==ms.getD i 0) &&
   (List.range i).all fun j=>
    (ms.getD i 0).testBit j || !clash ((ops[j]?).bind (·.dst)) o.dst (ls.getD j []) (ls.getD i []) (zs.getD j 0) (zs.getD i 0)
def qw (un ts:List Nat):Bool:=
 (List.range un.length).all fun i=>co (ts.getD i 0)==0 || (List.range i).all fun j=>!(un.getD i 0).testBit j || !((co (ts.getD j 0)==2 && co (ts.getD i 0) !=0) || (co (ts.getD i 0)==2 && co (ts.getD j 0) !=0))
def zL (un ts:List Nat) (b:Nat):Bool:=
 ((List.range un.length).all fun i=>if i<b then AX (ts.getD i 0) else if i=b then ts.getD i 0==2 else ts.getD i 0==0) && decide (b≤un.length) &&
 (decide (b=un.length) || (List.range b).all fun j=>ts.getD j 0==0 || !(un.getD b 0).testBit j) &&
 (List.range un.length).all fun i=>(List.range i).all fun j=>!(un.getD i 0).testBit j || !zJ (ts.getD j 0) (ts.getD i 0)
def nP (un ts:List Nat):Bool:=qw un ts || zL un ts (ts.findIdx (·==2))
def stepOf (ops:List Oper) (o:Oper):Step:=⟨o.dst,o.op,match o.guard with
 | none=>none
 | some (j,b)=>some ((ops[j]?).bind (·.dst),b),false⟩
def comp:Code→LC
 | .skip=>.skip
 | .ret=>.ret
 | .exit id=>.exit id
 | .region _ ops false=>.reg (ops.toList.map (stepOf ops.toList))
 | .region _ ops true=>bif fT ops.toList (masks ops.toList []) then .draw (ops.toList.map (stepOf ops.toList)) (o9 ops.toList (masks ops.toList [])) else .bad
 | .seq a b=>.seq (comp a) (comp b)
 | .cond c a b=>.cond c (comp a) (comp b)
 | .block id c=>.block id (comp c)
 | .loop c=>.loop [] none (comp c)
 | .rangeFunc f ps a b=>.rf f ps.toList none (comp a) (comp b)
 | _=>.bad
def zM (s:Step):Step:={ s with own:=false }
def strip:LC→LC
 | .reg ss=>.reg (ss.map zM)
 | .draw ss un=>.draw (ss.map zM) un
 | .seq a b=>.seq (strip a) (strip b)
 | .cond c a b=>.cond c (strip a) (strip b)
 | .block id c=>.block id (strip c)
 | .loop _ _ c=>.loop [] none (strip c)
 | .weak c=>strip c
 | .rf f ps _ a b=>.rf f ps none (strip a) (strip b)
 | c=>c
abbrev Tab:=FuncId→List PV→List Obj→KT→Prop
abbrev YT:=List PV→List Obj→(Bool→List Obj→Prop)→Prop
structure Know where
 fn:Tab
 y:Nat
 Y:YT
 top:Bool
 gives:FuncId→List PV→List (List PV)→Prop
 nx:Nat
 rg:Bool:=true
def nD (T:Know) (pt:Bool) (f:PV) (args:List PV) (objs:List Obj) (K:KT):Prop:=
 match f with
 | .fn g first cap=>T.fn g (first++args++cap) objs K
 | .Fj l=>l=T.y∧pt=true∧args.all PV.pure=true∧T.Y args objs fun b o=>K (.bool b) o 2
 | _=>False
def Know.noY (T:Know):Know:={ T with Y:=fun _ _ _=>False,rg:=false }
def Know.inner (T:Know) (n:Nat):Know:={ T with top:=false,Y:=fun _ _ _=>False,nx:=n }
def lg (P:Program) (D:TypeId→aD) (T:Know) (own pt:Bool) (ev:Operand→PV) (objs:List Obj) (op:Op) (K:KT):Prop:=
 match op with
 | .call { callee:=.value f,args,.. }=>nD T pt (ev f) (args.toList.map ev) objs K
 | .next x false=>T.rg=true∧nextR (ev x) objs K
 | op=>IE P D own ev objs op K
def wM (g:Option (Option Nat×Bool)) (S:St) (X Y:St→Prop):Prop:=
 match g with
 | none=>X S
 | some (none,_)=>False
 | some (some d,want)=>
  match S.tmps.getD d .dead with
  | .bool b=>(b=want→X { S with tmps:=S.tmps.set d (.bool want) })∧(b=!want→Y { S with tmps:=S.tmps.set d (.bool !want) })
  | .b_ []=>Y S
  | _=>False
def LR (P:Program) (D:TypeId→aD) (T:Know):List Step→St→List Nat→(St→List Nat→Prop)→Prop
 | [],S,ts,K=>K S ts
 | s::rest,S,ts,K=>
  wM s.g S
   (fun S=>lg P D T s.own (S.tmps.all PV.pure) S.ev S.objs s.op fun r objs' t=>LR P D T rest (St.put ⟨S.tmps,objs'⟩ s.dst r) (ts++[t]) K)
   (fun S=>LR P D T rest (S.put s.dst (.b_ [])) (ts++[0]) K)
def Rx (fz:Option (Nat×Nat)) (I:List Obj→Prop):Exit→St→Prop
 | .normal,S=>I (S.norm [] fz).objs
 | _,_=>False
def qx:List Nat→List PV→List PV→List PV
 | p::ps,y::ys,tm=>qx ps ys (tm.set p y)
 | _,_,tm=>tm
def wz:Obj:=⟨0,0,[],true,0⟩
def iQ (k:Nat) (O:List Obj):List Obj:=(O.set k hole).set (k+1) wz
def Gh (k:Nat) (O:List Obj):Prop:=k+2≤O.length∧jU O∧O[k]?=some wz∧O[k+1]?=some hole
def GH:Exit→Option Code
 | .ret=>some .ret
 | .exit id=>some (.exit id)
 | _=>none
def Lr (fz:Option (Nat×Nat)) (I:List Obj→Prop) (lv:Exit) (J:List Obj→Prop):Exit→St→Prop
 | .normal,S=>I (S.norm [] fz).objs
 | e,S=>e=lv∧J (S.norm [] fz).objs
def kW (P:Program) (D:TypeId→aD):Know→LC→(Exit→St→Prop)→St→Prop
 | _,.skip,Q,S=>Q .normal S
 | _,.ret,Q,S=>Q .ret S
 | _,.bad,_,_=>False
 | T,.reg ss,Q,S=>LR P D T ss S [] fun S' _=>Q .normal S'
 | T,.draw ss un,Q,S=>LR P D T.noY ss S [] fun S' ts=>nP un ts=true∧Q .normal S'
 | T,.seq a b,Q,S=>kW P D T a (thenS (fun S'=>kW P D T b Q S') Q) S
 | T,.cond c a b,Q,S=>zh (S.ev c) (kW P D T a Q S) (kW P D T b Q S)
 | T,.block id c,Q,S=>kW P D T c (rQ id Q) S
 | T,.loop ks fz c,Q,S=>IZ T.nx fz∧∃ I:Nat→St→Prop,(∃ S0 m,Weak T.nx S S0∧I m S0)∧
   ∀ m S,I m S→kW P D T c (thenS (fun S'=>∃ m',m'<m∧I m' (S'.norm ks fz)) Q) S
 | _,.exit id,Q,S=>Q (.exit id) S
 | T,.weak c,Q,S=>∃ S',Weak T.nx S S'∧kW P D T c Q S'
 | T,.rf f ps fz x y,Q,S=>T.top=true∧∃ (g:FuncId) (cap:List PV) (ys:List (List PV)),
   S.ev f=.fn g [] cap∧cap.all PV.pure=true∧T.gives g cap ys∧(∀ y ∈ ys,y.length=ps.length)∧
   ((∃ I:Nat→List Obj→Prop,IZ S.objs.length fz∧I 0 S.objs∧(∀ i objs,I i objs→S.objs.length≤objs.length∧jU objs)∧
    (∀ i args objs,I i objs→ys[i]?=some args→kW P D (T.inner S.objs.length) x (thenS (fun S1=>kW P D (T.inner S.objs.length) y (Rx fz (I (i+1))) S1) (fun _ _=>False)) ⟨qx ps args S.tmps,objs⟩)∧
    ∀ objs,I ys.length objs→Q .normal ⟨S.tmps,objs⟩)∨
   (∃ (I J:Nat→List Obj→Prop) (lv:Exit) (lc:Code),GH lv=some lc∧IZ (S.objs.length+2) fz∧I 0 (S.objs++[wz,hole])∧(∀ i objs,I i objs→Gh S.objs.length objs)∧(∀ i objs,J i objs→Gh S.objs.length objs∧eX objs)∧
    (∀ i args objs,I i objs→ys[i]?=some args→kW P D (T.inner (S.objs.length+2)) x (thenS (fun S1=>kW P D (T.inner (S.objs.length+2)) y (Lr fz (I (i+1)) lv (J i)) S1) (fun _ _=>False)) ⟨qx ps args S.tmps,objs⟩)∧
    (∀ objs,I ys.length objs→Q .normal ⟨S.tmps,objs⟩)∧∀ i objs,i<ys.length→J i objs→Q lv ⟨S.tmps,iQ S.objs.length objs⟩))
def vO (P:Program) (T:Tab):Prop:=∀ f args objs K,T f args objs K→∃ r objs' t,mH P f args objs r objs' t∧K r objs' t
def Ym (P:Program) (l:Option Nat) (base ak:Nat→Prop) (V:Wz→Prop) (T:Know):Prop:=
 ∀ (S:St) (blk:Nat→Option Nat) (a:Act) (w:World) (args:List PV) (vs:List Value) (K:Bool→List Obj→Prop),qP base ak V S blk a w→S.tmps.all PV.pure=true→
  cZ (dz w (bR base S.objs blk)) args vs→T.Y args S.objs K→
  ∃ r:Loop,w.heap[T.y]?=some (.loop r)∧vs.length=r.params.size∧
   RoundIn (EO l) 0 P T.y r.fn ((r.params.zip (⟨vs⟩:Array Value)).foldl (fun t (p,v)=>t.setIfInBounds p v) r.tmps) r.assign r.body w
    (fun e w'=>∃ b objs' au,e=.returned (.bool b)∧K b objs'∧qP base ak V ⟨S.tmps,objs'⟩ au a w')
variable {P:Program}{D:TypeId→aD}{T:Know}{l:Option Nat}
theorem VN (hT:vO P T.fn){own pt:Bool}{ev:Operand→PV}{objs:List Obj}{op:Op}{K:KT}(h:lg P D T.noY own pt ev objs op K):IE P D own ev objs op K:=by
 unfold lg at h
 split at h
 · unfold nD at h
   split at h
   · rename_i e
     simp only [IE,Gn,e]
     exact hT _ _ _ _ h
   · exact h.2.2.2.elim
   · exact h.elim
 · exact absurd h.1 Bool.false_ne_true
 · exact h
theorem aaE {base ak:Nat→Prop}{V:Wz→Prop}{S:St}{blk:Nat→Option Nat}{a:Act}{w:World}{own:Bool}{o:Oper}{K:KT}{next:Act→World→Prop}{Q:Exit→Act→World→Prop}
  (hD:∀ t,iN P t (D t)) (hT:vO P T.fn) (hY:Ym P l base ak V T) (R:qP base ak V S blk a w) (h:lg P D T own (S.tmps.all PV.pure) S.ev S.objs o.op K)
  (hn:∀ r objs' t v w' au,K r objs' t→qP base ak V ⟨S.tmps,objs'⟩ au a w'→aX w' (bR base objs' au) objs' au r v→next (a.put o.dst v) w') :
  o.wpIn (EO l) 0 P a w next Q:=by
 obtain ⟨w0,hV,R0⟩:=R
 have Kq:IE P D own S.ev S.objs o.op K→o.wpIn (EO l) 0 P a w next Q:=fun h=>
  AQ l hD R0 h fun r objs' t v w' au h1 h2 h3=>hn r objs' t v w' au h1 ⟨w0,hV,h2⟩ h3
 unfold lg at h
 split at h
 · rename_i f args argTypes ho
   unfold nD at h
   split at h
   · rename_i e
     refine Kq ?_
     simp only [ho,IE,Gn,e]
     exact hT _ _ _ _ h
   · rename_i y e
     obtain ⟨rfl,hpt,hpure,hy⟩:=h
     have hf:=R0.ev f
     rw [e] at hf
     have hf':dz w (bR base S.objs blk) (.Fj T.y) (a.eval f):=hf
     have hv:a.eval f=.func (.yield T.y) #[] #[]:=by
      generalize a.eval f=v at hf'
      cases hf'
      rfl
     have hargs:cZ (dz w (bR base S.objs blk)) (args.toList.map S.ev) (args.toList.map a.eval):=by
      have h0:cZ (aX w (bR base S.objs blk) S.objs blk) (args.toList.map S.ev) (args.toList.map a.eval):=AP _ fun x _=>R0.ev x
      exact ⟨h0.1,fun i p v hp hv=>(h0.2 i p v hp hv).Ay (all_eq_true.1 hpure p (List.mem_of_getElem? hp))⟩
     obtain ⟨r,hr,hsz,rT⟩:=hY S blk a w _ _ _ ⟨w0,hV,R0⟩ hpt hargs hy
     refine ⟨fun _ _=>trivial,?_⟩
     rw [Oper.semAt_eq _ _ _ (by rw [ho];simp)]
     have e1:args.map a.eval=Array.mk (args.toList.map a.eval):=by apply Array.ext';simp
     have hrun:(execOp a.eval o).run P w=.ok (.round T.y r.fn ((r.params.zip (⟨args.toList.map a.eval⟩:Array Value)).foldl (fun t (p,v)=>t.setIfInBounds p v) r.tmps) r.assign r.body) w:=by
      simp only [execOp,ho,resolve,hv,Deferred.ofValue,Sem.run_bind,Sem.run_pure,Result.andThen_ok,invoke]
      rw [e1]
      rw [Array.empty_append]
      exact run_yield (args:=Array.mk (args.toList.map a.eval)) hr (by simpa using hsz)
     rw [hrun]
     refine ⟨(fun h=>by cases h),?_⟩
     refine RoundIn.mono rT fun e w' ⟨b,objs',au,h1,h2,h3⟩=>?_
     subst h1
     exact hn _ _ _ _ _ _ h2 h3 (.aJ (.bool b))
   · exact h.elim
 · rename_i x ho
   obtain ⟨v,w',r,objs',t,au,h1,h2,h3,h4,_⟩:=X4 ho R0 h.2
   exact D_ (by rw [ho];simp) h1 (hn r objs' t v w' au h2 ⟨w0,hV,h3⟩ h4)
 · exact Kq h
theorem Ot {own:Bool}{ev:Operand→PV}{objs:List Obj}{op:Op}{K K':KT}(h:IE P D own ev objs op K) (hk:∀ r o t,K r o t→K' r o t):IE P D own ev objs op K':=by
 obtain ⟨r,o,t,h1,_,h2,_,_⟩:=Ut h
 exact h2 _ (hk _ _ _ h1)
theorem GI {ops:List Oper}{g:Option (Nat×Bool)}{S:St}{X Y:St→Prop}
  (h:wM (match g with | none=>none | some (j,b)=>some ((ops[j]?).bind (·.dst),b)) S X Y):oW ops g S X Y:=by
 unfold wM at h
 unfold oW
 cases g with
 | none=>exact h
 | some g=>
  obtain ⟨j,want⟩:=g
  simp only [] at h ⊢
  cases hd:(ops[j]?).bind (·.dst) with
  | none=>rw [hd] at h;exact h
  | some d=>rw [hd] at h;exact h
theorem Ei {ops:List Oper}{g:Option (Nat×Bool)}{S:St}{X X' Y Y':St→Prop}(h:oW ops g S X Y) (hx:∀ S',S'.tmps.length=S.tmps.length→X S'→X' S')
  (hy:∀ S',S'.tmps.length=S.tmps.length→Y S'→Y' S'):oW ops g S X' Y':=by
 cases g with
 | none=>exact hx _ rfl h
 | some g=>
  obtain ⟨j,want⟩:=g
  simp only [oW] at h ⊢
  cases hd:(ops[j]?).bind (·.dst) with
  | none=>rw [hd] at h;exact h
  | some d=>
   rw [hd] at h
   simp only [] at h ⊢
   generalize hv:S.tmps.getD d .dead=v at h ⊢
   cases v
   case bool b=>exact ⟨fun hb=>hx _ (by simp) (h.1 hb),fun hb=>hy _ (by simp) (h.2 hb)⟩
   case b_ cs=>
    cases cs with
    | nil=>exact hy _ rfl h
    | cons c cs=>exact h
   all_goals exact h
theorem wN (hT:vO P T.fn){ops:List Oper}{own:Nat→Bool}:∀ (qN:List Oper) (ss:List Step) (i:Nat) (S:St) (ts:List Nat) (K:St→List Nat→Prop),
  ss.map zM=qN.map (stepOf ops)→(∀ j s,ss[j]?=some s→own (i+j)=s.own)→LR P D T.noY ss S ts K→ql P D own ops qN i S ts K
 | [],ss,i,S,ts,K,he,ho,h=>by
  have:ss=[]:=by simpa using he
  subst this
  exact h
 | o::qN,ss,i,S,ts,K,he,ho,h=>by
  cases ss with
  | nil=>simp at he
  | cons s ss=>
   simp only [List.map_cons,List.cons.injEq] at he
   obtain ⟨he1,he2⟩:=he
   have hd:s.dst=o.dst:=congrArg (fun x:Step=>x.dst) he1
   have hop:s.op=o.op:=congrArg (fun x:Step=>x.op) he1
   have hg:s.g=(stepOf ops o).g:=(congrArg (fun x:Step=>x.g) he1:(zM s).g=(stepOf ops o).g)
   have hown:own i=s.own:=ho 0 s rfl
   unfold LR at h
   unfold ql
   rw [hg] at h
   refine Ei (GI h) ?_ ?_
   · intro S' hS' hx
     rw [hown,← hop]
     refine Ot (VN hT hx) ?_
     intro r objs' t hk
     rw [← hd]
     exact wN hT qN ss (i+1) _ _ K he2 (fun j s' hs'=>by rw [show i+1+j=i+(j+1) by omega];exact ho (j+1) s' hs') hk
   · intro S' hS' hy
     rw [← hd]
     exact wN hT qN ss (i+1) _ _ K he2 (fun j s' hs'=>by rw [show i+1+j=i+(j+1) by omega];exact ho (j+1) s' hs') hy
theorem zN {ops:List Oper}{own:Nat→Bool}{K K':St→List Nat→Prop}(hk:∀ S ts,K S ts→K' S ts):∀ (qN:List Oper) (i:Nat) (S:St) (ts:List Nat),ql P D own ops qN i S ts K→ql P D own ops qN i S ts K'
 | [],_,_,_,h=>hk _ _ h
 | o::qN,i,S,ts,h=>by
  unfold ql at h ⊢
  exact Ei h (fun S' _ hx=>Ot hx fun r o' t hh=>zN hk qN _ _ _ hh) (fun S' _ hy=>zN hk qN _ _ _ hy)
theorem PW.adK {E:Env}{c:Code}{Q:Exit→St→Prop}{S:St}{m nx:Nat}(hE:∀ base ak V,E base ak V→∀ w0,V w0→w0.nx≤nx) (I:Nat→St→Prop) (h0:I m S)
  (round:∀ m S,I m S→PW P l E c (thenS (fun S'=>∃ S'' m',Weak nx S' S''∧I m' S''∧m'<m) Q) S):PW P l E (.loop c) Q S:=by
 intro base ak V UB blk a w R b k cs hro hb hroom
 have hE':=hE base ak V UB
 have key:∀ n S blk a w,I n S→qP base ak V S blk a w→
     ∃ e a' w',(∃ S' au,Q e S'∧qP base ak V S' au a' w')∧ArrivesIn (Machine.fenced P (EO l)) P (lone (b.atR a (.code c::.inLoop c::k)) cs w) b k cs e a' w':=by
  intro n
  induction n using Nat.strongRecOn with
  | _ n ih=>
   intro S blk a w hI R
   obtain ⟨e,a₁,w₁,⟨S₁,blk₁,h1,R₁⟩,harr⟩:=round n S hI base ak V UB blk a w R b (.inLoop c::k) cs hro hb hroom
   cases e with
   | normal=>
    obtain ⟨S₂,m',hw,hI₂,hlt⟩:=h1
    obtain ⟨w0,hV,R₁⟩:=R₁
    obtain ⟨ae2,R₂⟩:=hw base ak w0 blk₁ a₁ w₁ (hE' w0 hV) R₁
    obtain ⟨e₂,a₂,w₂,hq₂,harr₂⟩:=ih m' hlt S₂ ae2 a₁ w₁ hI₂ ⟨w0,hV,R₂⟩
    exact ⟨e₂,a₂,w₂,hq₂,.of_steps (StepsIn.trans harr (.one (fenced_calm hb hroom rfl) stepR_inLoop)) harr₂⟩
   | exit id=>exact ⟨_,a₁,w₁,⟨S₁,blk₁,h1,R₁⟩,.pass (x:=.inLoop c) rfl (fun _ _=>.inl (by simp)) harr⟩
   | goto t=>exact ⟨_,a₁,w₁,⟨S₁,blk₁,h1,R₁⟩,.pass (x:=.inLoop c) rfl (fun _ _=>.inl (by simp)) harr⟩
   | ret=>exact ⟨_,a₁,w₁,⟨S₁,blk₁,h1,R₁⟩,.pass (x:=.inLoop c) rfl (fun _ _=>.inl (by simp)) harr⟩
   | panic ch=>exact ⟨_,a₁,w₁,⟨S₁,blk₁,h1,R₁⟩,.pass (x:=.inLoop c) rfl (fun _ _=>.inl (by simp)) harr⟩
   | outgrown=>exact ⟨_,a₁,w₁,⟨S₁,blk₁,h1,R₁⟩,.pass (x:=.inLoop c) rfl (fun _ _=>.inl (by simp)) harr⟩
 obtain ⟨e,a',w',hq,harr⟩:=key m S blk a w h0 R
 exact ⟨e,a',w',hq,.of_steps (.one (fenced_calm hb hroom rfl) stepR_loop) harr⟩
theorem uQ {next next':St→Prop}{Q:Exit→St→Prop}(h:∀ S,next S→next' S):∀ e S,thenS next Q e S→thenS next' Q e S:=by
 intro e S hh
 cases e <;> first | exact h _ hh | exact hh
theorem wO {n:Nat}{f:Nat→Bool}(h:(List.range n).all f=true){i:Nat}(hi:i<n):f i=true:=by
 rw [all_eq_true] at h
 exact h i (mem_range.2 hi)
theorem Dh {m:Nat}{i:Nat}:∀ (n:Nat),i<n→((List.range n).foldl (fun u j=>if m.testBit j then u else u ||| (1 <<<j)) 0).testBit i=!m.testBit i:=by
 have key:∀ (n:Nat) (j:Nat),((List.range n).foldl (fun u j=>if m.testBit j then u else u ||| (1 <<<j)) 0).testBit j=(decide (j<n) && !m.testBit j):=by
  intro n
  induction n with
  | zero=>intro j;simp
  | succ n ih=>
   intro j
   rw [List.range_succ,List.foldl_append,List.foldl_cons,List.foldl_nil]
   split
   · rename_i hm
     rw [ih j]
     by_cases hj:j=n
     · subst hj;simp [hm]
     · have:decide (j<n+1)=decide (j<n):=by congr 1;apply propext;omega
       rw [this]
   · rename_i hm
     rw [Nat.testBit_or,ih j,Nat.one_shiftLeft,Nat.testBit_two_pow]
     by_cases hj:n=j
     · subst hj;simp [hm]
     · have:decide (j<n+1)=decide (j<n):=by congr 1;apply propext;omega
       rw [this];simp [hj]
 intro n hi
 rw [key n i];simp [hi]
theorem Ry {ops:List Oper}{ts:List Nat}(h1:fT ops (masks ops [])=true) (h2:qw (o9 ops (masks ops [])) ts=true):uP ops ts=true:=by
 unfold uP
 unfold fT at h1
 unfold qw at h2
 generalize masks ops []=ms at *
 simp only [all_eq_true,mem_range] at h1 ⊢
 intro i hi
 have h1:=h1 i hi
 rw [List.getElem?_eq_getElem hi] at h1 ⊢
 simp only [Bool.and_eq_true,all_eq_true,mem_range] at h1 ⊢
 refine ⟨⟨h1.1.1,h1.1.2⟩,fun j hj=>?_⟩
 have hz:=h1.2 j hj
 cases hb:(ms.getD i 0).testBit j with
 | true=>simp
 | false=>
  rw [hb] at hz
  have hzz:∀ k,(ops.map fun _=>0).getD k 0=0:=by
   intro k
   rw [List.getD_eq_getElem?_getD,List.getElem?_map]
   cases ops[k]? <;> rfl
  rw [hzz,hzz] at hz
  simp only [Bool.false_or,Bool.not_eq_true',Bool.or_false] at hz ⊢
  have hlen:(o9 ops ms).length=ops.length:=by simp [o9]
  have h2:=wO h2 (i:=i) (by omega)
  have hun:(o9 ops ms).getD i 0=(List.range i).foldl (fun u j=>if (ms.getD i 0).testBit j then u else u ||| (1 <<<j)) 0:=by
   rw [List.getD_eq_getElem?_getD,o9,List.getElem?_map,List.getElem?_range hi]
   rfl
  have ht:((co (ts.getD j 0)==2 && co (ts.getD i 0) !=0) || (co (ts.getD i 0)==2 && co (ts.getD j 0) !=0))=false:=by
   simp only [Bool.or_eq_true] at h2
   rcases h2 with h2 | h2
   · have:co (ts.getD i 0)=0:=by simpa using h2
     rw [this];simp
   · have:=wO h2 hj
     rw [hun,Dh i hj,hb] at this
     simp only [Bool.not_false,Bool.not_true,Bool.false_or,Bool.not_eq_true'] at this
     exact this
  unfold clash at hz ⊢
  simp only [Bool.or_eq_false_iff] at hz ht ⊢
  exact ⟨⟨⟨hz.1.1.1,hz.1.1.2⟩,ht.1⟩,ht.2⟩
theorem Rz {ops:List Oper}{ts:List Nat}(h1:fT ops (masks ops [])=true){b:Nat}(h2:zL (o9 ops (masks ops [])) ts b=true):xS ops ts b=true:=by
 unfold xS
 unfold fT at h1
 unfold zL at h2
 generalize masks ops []=ms at *
 have hlen:(o9 ops ms).length=ops.length:=by simp [o9]
 simp only [Bool.and_eq_true,all_eq_true,mem_range,hlen] at h1 h2 ⊢
 obtain ⟨⟨⟨g1,g2⟩,g3⟩,h2⟩:=h2
 have hbu:∀ i,i<ops.length→(o9 ops ms).getD i 0=(List.range i).foldl (fun u j=>if (ms.getD i 0).testBit j then u else u ||| (1 <<<j)) 0:=fun i hi=>by
  rw [List.getD_eq_getElem?_getD,o9,List.getElem?_map,List.getElem?_range hi]
  rfl
 refine ⟨⟨⟨g1,g2⟩,?_⟩,fun i hi=>?_⟩
 · have g2:=of_decide_eq_true g2
   rcases Nat.lt_or_ge b ops.length with hb | hb
   · simp only [Bool.or_eq_true,decide_eq_true_eq,all_eq_true,mem_range] at g3 ⊢
     rcases g3 with g3 | g3
     · exact .inl g3
     · refine .inr fun j hj=>?_
       rcases g3 j hj with g | g
       · exact .inl g
       · rw [hbu b hb,Dh b hj] at g
         exact .inr (by simpa using g)
   · have:b=ops.length:=by omega
     simp [this]
 have h1:=h1 i hi
 rw [List.getElem?_eq_getElem hi] at h1 ⊢
 simp only [Bool.and_eq_true,all_eq_true,mem_range] at h1 ⊢
 refine ⟨⟨h1.1.1,h1.1.2⟩,fun j hj=>?_⟩
 have hz:=h1.2 j hj
 cases hb:(ms.getD i 0).testBit j with
 | true=>simp
 | false=>
  rw [hb] at hz
  have hzz:∀ k,(ops.map fun _=>0).getD k 0=0:=by
   intro k
   rw [List.getD_eq_getElem?_getD,List.getElem?_map]
   cases ops[k]? <;> rfl
  rw [hzz,hzz] at hz
  simp only [Bool.false_or,Bool.not_eq_true',Bool.or_false] at hz ⊢
  have hun:(o9 ops ms).getD i 0=(List.range i).foldl (fun u j=>if (ms.getD i 0).testBit j then u else u ||| (1 <<<j)) 0:=by
   rw [List.getD_eq_getElem?_getD,o9,List.getElem?_map,List.getElem?_range hi]
   rfl
  have:=h2 i hi j hj
  rw [hun,Dh i hj,hb] at this
  simp only [Bool.not_false,Bool.not_true,Bool.false_or,Bool.not_eq_true'] at this
  rw [this,Bool.or_false]
  exact hz
theorem VO {ops:List Oper}{ts:List Nat}(h1:fT ops (masks ops [])=true) (h2:nP (o9 ops (masks ops [])) ts=true):uP ops ts=true∨∃ b,xS ops ts b=true:=by
 unfold nP at h2
 rcases Bool.or_eq_true _ _ ▸ h2 with h2 | h2
 · exact .inl (Ry h1 h2)
 · exact .inr ⟨_,Rz h1 h2⟩
theorem GJ {base ak:Nat→Prop}{V:Wz→Prop}{ops:List Oper}{Qm:Exit→Act→World→Prop}(hD:∀ t,iN P t (D t)) (hT:vO P T.fn) (hY:Ym P l base ak V T) :
  ∀ (qN:List Oper) (ss:List Step) (k:Nat) (S:St) (ts:List Nat) (K:St→List Nat→Prop) (blk:Nat→Option Nat) (a:Act) (w:World),ss.map zM=qN.map (stepOf ops)→(∀ j,qN[j]?=ops[k+j]?)→
   LR P D T ss S ts K→qP base ak V S blk a w→(∀ S' ts' au a' w',K S' ts'→qP base ak V S' au a' w'→Qm .normal a' w')→wpOpsIn (EO l) 0 P ops.toArray Qm (List.range' k qN.length) a w
 | [],ss,k,S,ts,K,blk,a,w,he,_,h,R,hq=>by
  have:ss=[]:=by simpa using he
  subst this
  exact hq S ts blk a w h R
 | o::qN,ss,k,S,ts,K,blk,a,w,he,hl,h,R,hq=>by
  cases ss with
  | nil=>simp at he
  | cons s ss=>
   simp only [List.map_cons,List.cons.injEq] at he
   obtain ⟨he1,he2⟩:=he
   have hd:s.dst=o.dst:=congrArg (fun x:Step=>x.dst) he1
   have hop:s.op=o.op:=congrArg (fun x:Step=>x.op) he1
   have hg:s.g=(stepOf ops o).g:=(congrArg (fun x:Step=>x.g) he1:(zM s).g=(stepOf ops o).g)
   have h0:ops.toArray[k]?=some o:=by simpa using (hl 0).symm
   have hl':∀ j,qN[j]?=ops[k+1+j]?:=fun j=>by have:=hl (j+1);simpa [Nat.add_assoc,Nat.add_comm 1 j] using this
   simp only [List.length_cons,List.range'_succ,wpOpsIn,h0]
   unfold LR at h
   rw [hg] at h
   rcases wJ R.choose_spec.2 (GI h) o rfl with ⟨hw,hx⟩ | ⟨hw,hy⟩
   · rw [if_pos hw]
     rw [hop] at hx
     refine aaE hD hT hY R hx fun r objs' t v w' au hK R' hr=>?_
     rw [hd] at hK
     obtain ⟨w0,hV,R0⟩:=R'
     exact GJ hD hT hY qN ss (k+1) _ _ K au _ w' he2 hl' hK ⟨w0,hV,R0.put hr o.dst⟩ hq
   · rw [if_neg (by rw [hw];simp)]
     rw [hd] at hy
     obtain ⟨w0,hV,R0⟩:=R
     exact ⟨fun _ _=>trivial,GJ hD hT hY qN ss (k+1) _ _ K blk _ w he2 hl' hy ⟨w0,hV,R0.put (xR _ _ _ _) o.dst⟩ hq⟩
theorem Ym.noY {base ak:Nat→Prop}{V:Wz→Prop}:Ym P l base ak V T.noY:=fun _ _ _ _ _ _ _ _ _ _ h=>h.elim
theorem Ym.inner {base ak:Nat→Prop}{V:Wz→Prop}{n:Nat}:Ym P l base ak V (T.inner n):=fun _ _ _ _ _ _ _ _ _ _ h=>h.elim
end Lp
namespace Lp
open Go
open Nat (le_of_eq le_trans lt_of_lt_of_le)
variable {P:Program}{D:TypeId→aD}{T:Know}{l:Option Nat}
def Yn (ys:List (List PV)) (I J:Nat→List Obj→Prop):YT:=fun args objs K=>∃ i,I i objs∧ys[i]?=some args∧(∀ objs',I (i+1) objs'→K true objs')∧∀ objs',J i objs'→K false objs'
def Yo:Act:={ tmps:=#[],defers:=[] }
def Ou (y:Nat) (Y:YT):Know:=⟨fun _ _ _ _=>False,y,Y,false,fun _ _ _=>False,0,true⟩
def Gives (P:Program) (g:FuncId) (cap:List PV) (ys:List (List PV)):Prop:=
 Enters P g∧
 ∀ (I J:Nat→List Obj→Prop) (base ak:Nat→Prop) (V:Wz→Prop) (y:Nat) (objs:List Obj) (blk:Nat→Option Nat) (w:World) (I4:List Value),
  Ym P none base ak V (Ou y (Yn ys I J))→(∀ w0,V w0→w0.nx≤objs.length)→qP base ak V ⟨[],objs⟩ blk Yo w→I 0 objs→(∀ i O,I i O→objs.length≤O.length∧jU O)→(∀ i O,J i O→objs.length≤O.length∧jU O)→cZ (dz w (bR base objs blk)) cap I4→
  Calls P g ⟨.func (.yield y) #[] #[]::I4⟩ w fun e w'=>∃ objs' au,e=.returned (.tuple #[])∧(I ys.length objs'∨∃ i,i<ys.length∧J i objs')∧qP base ak V ⟨[],objs'⟩ au Yo w'
def jh (x:Go.Obj):Prop:=(∃ c t y,x=.cells c t y)∨(∃ es n,x=.map es n)∨∃ a b c d,x=.mapIter a b c d
theorem A8 (ty:TypeId) (sz:Nat) (c:Array Value):jh (oU ty sz c):=by
 unfold oU
 split
 · split
   · exact .inr (.inl ⟨_,_,rfl⟩)
   · exact .inr (.inr ⟨_,_,_,_,rfl⟩)
 · exact .inl ⟨_,_,_,rfl⟩
section
variable {base ak:Nat→Prop}{w0:Wz}{S:St}{blk:Nat→Option Nat}{a:Act}{w:World}
theorem nK.cells {w w':World}(h:∀ (k:Nat) x,w.heap[k]?=some x→jh x→w'.heap[k]?=some x) (objs:List Obj) (blk:Nat→Option Nat):nK w w' objs objs blk blk:=
 fun _ o ho=>⟨o,ho,Nat.le_refl _,fun hl _=>⟨hl,rfl,rfl,rfl,fun _=>rfl,fun g c _ hc=>⟨c,h g _ hc (.inl ⟨c,_,_,rfl⟩),rfl⟩⟩⟩
theorem dG.cells {objs:List Obj}{w w':World}{zb:Nat→Prop}(R:dG base ak objs blk w) (hs:w.heap.size≤w'.heap.size) (h:∀ (k:Nat) x,w.heap[k]?=some x→jh x→w'.heap[k]?=some x)
  (hnp:∀ k o g,objs[k]?=some o→o.live=true→blk k=some g→¬ zb g):dG base zb objs blk w':=by
 refine ⟨fun k o h1 h4=>?_,R.IK,hnp⟩
 have hh:=R.ob k o h1 h4
 unfold cK at hh ⊢
 cases hg:blk k with
 | none=>rw [hg] at hh;exact hh
 | some g=>
  rw [hg] at hh
  obtain ⟨c,x1,x2,x3⟩:=hh
  refine ⟨c,h g _ x1 (A8 _ _ _),x2,fun i x hx=>⟨(x3 i x hx).1,fun j p hp=>?_⟩⟩
  obtain ⟨v,y1,y2⟩:=(x3 i x hx).2 j p hp
  exact ⟨v,y1,y2.sJ hs (fun _ _ h=>h) (fun k x _ hx hcx=>h k x hx (.inl hcx)) (.cells h _ _)⟩
theorem gI {ok:Nat→Prop}{objs:List Obj}{w w':World}{p:PV}{v:Value}(R:aX w ok objs blk p v) (hs:w.heap.size≤w'.heap.size) (h:∀ (k:Nat) x,w.heap[k]?=some x→jh x→w'.heap[k]?=some x) :
  aX w' ok objs blk p v:=R.sJ hs (fun _ _ h=>h) (fun k x _ hx hcx=>h k x hx (.inl hcx)) (.cells h _ _)
theorem UC {ok:Nat→Prop}{objs:List Obj}{p:PV}{v:Value}(h:bD w ok objs blk p v):p.vW objs.length=true:=by
 cases p <;> simp only [PV.vW,decide_eq_true_eq] <;> (obtain ⟨_,o,ho,_⟩:=h;exact (List.getElem?_eq_some_iff.1 ho).1)
theorem Fx {ok:Nat→Prop}{objs:List Obj}{cs:List PV}{vs:List Value}(h:cZ (bD w ok objs blk) cs vs):cs.all (PV.vW objs.length)=true:=by
 rw [List.all_eq_true]
 intro p hp
 obtain ⟨i,hi,rfl⟩:=List.mem_iff_getElem.1 hp
 exact UC (h.2 i cs[i] (vs[i]'(by rw [← h.1];exact hi)) (List.getElem?_eq_getElem hi) (List.getElem?_eq_getElem _))
theorem Fy {ok:Nat→Prop}{objs:List Obj}{p:PV}{v:Value}(h:aX w ok objs blk p v):p.lt objs.length=true:=by
 have hS:bD w ok objs blk p v→p.vW objs.length=true:=UC
 cases p
 case fn f a c=>obtain ⟨va,vc,rfl,h1,h2⟩:=h;simp only [PV.lt,Fx h1,Fx h2,Bool.and_self]
 case b_ cs=>obtain ⟨vs,rfl,h1⟩:=h;exact Fx h1
 case agg cs=>obtain ⟨vs,rfl,h1⟩:=h;exact Fx h1
 all_goals exact hS h
theorem UD {p:PV}{n:Nat}(h:p.pure=true):p.lt n=true:=by
 have hS:∀ p:PV,(!p.ref)=true→p.vW n=true:=fun p h=>by cases p <;> first | rfl | (simp [PV.ref] at h)
 cases p <;> simp only [PV.pure,Bool.and_eq_true,List.all_eq_true] at h <;> simp only [PV.lt,Bool.and_eq_true,List.all_eq_true] <;> first
  | rfl
  | exact ⟨fun q hq=>hS q (h.1 q hq),fun q hq=>hS q (h.2 q hq)⟩
  | exact fun q hq=>hS q (h q hq)
  | cases h
def pairs (tm:List PV) (vs:Array Value):List (PV×Value):=tm.zip vs.toList
theorem lX {tm:List PV}{vs:Array Value}{x:PV×Value}(h:x ∈ pairs tm vs):∃ t:Nat,tm[t]?=some x.1∧vs.getD t undef=x.2:=by
 obtain ⟨i,hi⟩:=List.mem_iff_getElem?.1 h
 rw [pairs,List.getElem?_zip_eq_some] at hi
 refine ⟨i,hi.1,?_⟩
 rw [Array.getD_eq_getD_getElem?,← Array.getElem?_toList,hi.2]
 rfl
theorem nQ {tm:List PV}{vs:Array Value}(hl:vs.size=tm.length){t:Nat}{p:PV}(h:tm[t]?=some p):(p,vs.getD t undef) ∈ pairs tm vs:=by
 refine List.mem_iff_getElem?.2 ⟨t,?_⟩
 rw [pairs,List.getElem?_zip_eq_some]
 have hlt:t<vs.size:=by rw [hl];exact (List.getElem?_eq_some_iff.1 h).1
 refine ⟨h,?_⟩
 rw [Array.getD_eq_getD_getElem?,Array.getElem?_toList,Array.getElem?_eq_getElem hlt]
 rfl
theorem GK {R:PV→Value→Prop}(adL:∀ v,R .dead v):∀ (ps:List Nat) (args:List PV) (vs:List Value) (tm:List PV) (xs:Array Value),args.length=vs.length→xs.size=tm.length→
  (∀ (t:Nat) (p:PV),tm[t]?=some p→R p (xs.getD t undef))→(∀ (i:Nat) (p:PV) (v:Value),args[i]?=some p→vs[i]?=some v→R p v)→
  ((ps.zip vs).foldl (fun t (p,v)=>t.setIfInBounds p v) xs).size=(qx ps args tm).length∧∀ (t:Nat) (p:PV),(qx ps args tm)[t]?=some p→R p (((ps.zip vs).foldl (fun t (p,v)=>t.setIfInBounds p v) xs).getD t undef)
 | [],args,vs,tm,xs,_,hs,h,_=>by cases args <;> exact ⟨hs,h⟩
 | p::ps,[],vs,tm,xs,hl,hs,h,_=>by
  have:vs=[]:=by cases vs <;> simp_all
  subst this
  exact ⟨hs,h⟩
 | p::ps,q::args,[],tm,xs,hl,hs,h,_=>by simp at hl
 | p::ps,q::args,v::vs,tm,xs,hl,hs,h,ha=>by
  simp only [qx,List.zip_cons_cons,List.foldl_cons]
  refine GK adL ps args vs (tm.set p q) (xs.setIfInBounds p v) (by simpa using hl) (by simpa using hs) (fun t r hr=>?_) (fun i r u h1 h2=>ha (i+1) r u (by simpa using h1) (by simpa using h2))
  rw [qd]
  rw [List.getElem?_set] at hr
  by_cases hpt:p=t
  · subst hpt
    rw [if_pos rfl] at hr
    split at hr
    · cases hr
      rename_i hlt
      rw [if_pos ⟨rfl,by omega⟩]
      exact ha 0 q v rfl rfl
    · cases hr
  · rw [if_neg hpt] at hr
    rw [if_neg (fun e=>hpt e.1)]
    exact h t r hr
theorem jH {w:World}{k:Nat}{o o':Go.Obj}(ho:w.heap[k]?=some o) (hn:¬ jh o):∀ (j:Nat) x,w.heap[j]?=some x→jh x→(w.putObj k o').heap[j]?=some x:=by
 intro j x hx hc
 rw [World.putObj_heap_other (fun e=>hn (by subst e;rw [ho] at hx;cases hx;exact hc))]
 exact hx
def E0 (n:Nat):Env:=fun _ _ V=>∀ w0,V w0→w0.nx≤n
theorem Yp {f:Operand}{ps:List Nat}{x y:Code}{fz:Option (Nat×Nat)}{g:FuncId}{cap:List PV}{ys:List (List PV)}{I:Nat→List Obj→Prop}
  (hg:Gives P g cap ys) (hys:∀ y ∈ ys,y.length=ps.length) (hI0:I 0 S.objs) (I5:∀ i objs,I i objs→S.objs.length≤objs.length∧jU objs) (R:Rel base ak w0 S blk a w) (hx:w0.xs=[]) (hf:S.ev f=.fn g [] cap) (hcap:cap.all PV.pure=true) (hfz:IZ S.objs.length fz)
  (rT:∀ i args objs,I i objs→ys[i]?=some args→∀ l0,PW P (some l0) (E0 S.objs.length) x (thenS (fun S1=>PW P (some l0) (E0 S.objs.length) y (Rx fz (I (i+1))) S1) (fun _ _=>False)) ⟨qx ps args S.tmps,objs⟩) :
  (Code.rangeFunc f ps.toArray x y).wpIn (EO none) 0 P (fun e a' w'=>∃ objs' au,e=.normal∧I ys.length objs'∧Rel base ak w0 ⟨S.tmps,objs'⟩ au a' w') a w:=by
 refine wpIn_rangeFunc fun fn _=>?_
 have hff:=R.ev f
 rw [hf] at hff
 obtain ⟨va,vc,hv,r1,r2⟩:=hff
 have hva:va=[]:=List.eq_nil_of_length_eq_zero r1.1.symm
 subst hva
 obtain ⟨rec,hrec⟩:∃ rec:LoopState→Loop,rec=fun st=>{ state:=st,pending:=none,fn,tmps:=a.tmps,params:=ps.toArray,assign:=x,body:=y,defers:=w.heap.size }:=⟨_,rfl⟩
 obtain ⟨W1,hW1⟩:∃ W1,(w.alloc (.deferred (some []))).alloc (.loop (rec .ready))=W1:=⟨_,rfl⟩
 have hL1:W1.heap[w.heap.size+1]?=some (.loop (rec .ready)):=by
  rw [← hW1];have:=World.alloc_heap_new (w.alloc (.deferred (some []))) (.loop (rec .ready));rwa [World.size_alloc] at this
 have hK1:W1.heap[w.heap.size]?=some (.deferred (some [])):=by
  rw [← hW1];exact (kN.push (w:=w.alloc (.deferred (some []))) (w':=(w.alloc (.deferred (some []))).alloc (.loop (rec .ready))) rfl).2.1 _ _ (World.alloc_heap_new w _)
 have hs1:W1.heap.size=w.heap.size+2:=by rw [← hW1,World.size_alloc,World.size_alloc]
 have wP:kN w W1:=by
  rw [← hW1]
  exact (kN.push (w':=w.alloc (.deferred (some []))) rfl).trans (kN.push rfl)
 have hnl:∀ k,w.heap.size≤k→aY S.objs blk k:=fun k hk j o h1 h2 h3=>by
  have:=Fq R.objs h1 h2 h3;omega
 obtain ⟨⟨fng,hfn,hname,hbody⟩,hgive⟩:=hg
 refine ⟨w.heap.size+1,[{ target:=.collected w.heap.size,args:=#[] }],W1,{ target:=.fn (.func g) ⟨vc⟩,args:=#[.func (.yield (w.heap.size+1)) #[] #[]] },W1,g,
  ⟨.func (.yield (w.heap.size+1)) #[] #[]::vc⟩,W1,?_,?_,fun _ _=>trivial,?_,(fun h=>by cases h),?_⟩
 · rw [← hW1,hrec];exact run_enterLoop_outer _ _ _ _ _
 · simp only [resolve,hv]
   simp [go_sem]
 · have e1:(#[.func (.yield (w.heap.size+1)) #[] #[]]:Array Value)++Array.mk vc=Array.mk (.func (.yield (w.heap.size+1)) #[] #[]::vc):=by apply Array.ext';simp
   simp only [invoke,callFunc,run_program,Sem.run_bind,Result.andThen_ok,hfn,hname,hbody,Bool.false_eq_true,if_false,Sem.run_pure]
   rw [e1]
 · rw [show (0-1:Nat)=0 from rfl]
   refine callsIn_wide.2 ?_
   obtain ⟨l0,hl0⟩:∃ l0,l0=w.heap.size+1:=⟨_,rfl⟩
   rw [← hl0] at hL1 ⊢
   obtain ⟨jN,hprot2⟩:∃ jN:Nat→Prop,jN=fun b=>b<W1.heap.size∧aY S.objs blk b:=⟨_,rfl⟩
   obtain ⟨V2,hV2⟩:∃ V2:Wz→Prop,V2=fun z=>z=⟨W1.heap,pairs S.tmps a.tmps,S.objs.length,w⟩:=⟨_,rfl⟩
   have Ov:jN l0:=by rw [hprot2];exact ⟨by omega,hnl _ (by omega)⟩
   have hpD:jN w.heap.size:=by rw [hprot2];exact ⟨by omega,hnl _ (Nat.le_refl _)⟩
   have hR1:=R.grew wP
   have acC:∀ b,¬ jN b→base b:=by
    intro b hb
    rw [hprot2] at hb
    by_cases h:ak b
    · exact absurd ⟨lt_of_lt_of_le (R.pr b h) (le_trans R.gr (by omega)),fun k o h1 h2 h3=>R.objs.np k o b h1 h2 h3 h⟩ hb
    · exact R.pb b h
   have acD:∀ k o g,S.objs[k]?=some o→o.live=true→blk k=some g→¬ jN g:=by
    intro k o g h1 h2 h3 h4
    rw [hprot2] at h4
    exact h4.2 k o h1 h2 h3
   have hext:∀ x ∈ pairs S.tmps a.tmps,aX W1 (bR base S.objs blk) S.objs blk x.1 x.2:=by
    intro x hx
    obtain ⟨t,h1,h2⟩:=lX hx
    rw [← h2]
    exact hR1.tm t x.1 h1
   have VP:∀ b ∈ rO.blocks,b<w.heap.size:=fun b hb=>lt_of_lt_of_le (R.pr b (R.gl.2 b hb)) R.gr
   have Ow:∀ b ∈ rO.blocks,jN b:=fun b hb=>by
    rw [hprot2];exact ⟨by have:=VP b hb;omega,fun k o h1 h2 h3=>R.objs.np k o b h1 h2 h3 (R.gl.2 b hb)⟩
   have acE:Rel base jN ⟨W1.heap,pairs S.tmps a.tmps,S.objs.length,w⟩ ⟨[],S.objs⟩ blk Yo W1:=by
    refine ⟨.nil _ _,rfl,fun t p hp=>by simp at hp,⟨hR1.objs.ob,R.objs.IK,acD⟩,fun b hb=>by rw [hprot2] at hb;exact hb.1,fun _ _=>rfl,Nat.le_refl _,acC,hext,fun x hx=>Fy (hext x hx),wP.2.2,⟨hR1.nJ,Ow⟩⟩
   have hcapR:cZ (dz W1 (bR base S.objs blk)) cap vc:=by
    refine ⟨r2.1,fun i p v hp hv=>?_⟩
    have hpp:=List.all_eq_true.1 hcap p (List.mem_of_getElem? hp)
    have h1:aX w (bR base S.objs blk) S.objs blk p v:=.kM (r2.2 i p v hp hv)
    exact (h1.Ay hpp).mono wP.1 (fun _ _ h=>h) (fun b x _ h=>wP.2.1 b x h)
   have acF:Ym P none base jN V2 (Ou l0 (Yn ys I fun _ _=>False)):=by
    rintro S2 iX a2 w2 args vs K ⟨z,hz,R2⟩ hpt hargs ⟨i,hIi,hyi,hK,_⟩
    rw [hV2] at hz
    subst hz
    have hL2:w2.heap[l0]?=some (.loop (rec .ready)):=(R2.fr l0 Ov).trans hL1
    have hlen:args.length=ps.length:=hys args (List.mem_of_getElem? hyi)
    refine ⟨rec .ready,hL2,by rw [hrec];simp [← hargs.1,hlen],?_⟩
    rw [show (Ou l0 (Yn ys I fun _ _=>False)).y=l0 from rfl]
    refine roundIn_of_wpIn trivial ?_
    have hlt2:l0<w2.heap.size:=(Array.getElem?_eq_some_iff.1 hL2).1
    obtain ⟨fU,hprot3⟩:∃ fU:Nat→Prop,fU=fun b=>b<w2.heap.size∧aY S2.objs iX b:=⟨_,rfl⟩
    obtain ⟨GL,hxs3⟩:∃ GL,GL=pairs S.tmps a.tmps++pairs S2.tmps a2.tmps:=⟨_,rfl⟩
    have h23:∀ b,jN b→fU b:=by
     intro b hb
     rw [hprot3]
     exact ⟨lt_of_lt_of_le (R2.pr b hb) R2.gr,fun k o h1 h2 h3=>R2.objs.np k o b h1 h2 h3 hb⟩
    have Yq:∀ b,¬ fU b→base b:=fun b hb=>R2.pb b fun h=>hb (h23 b h)
    have acG:∀ k o g,S2.objs[k]?=some o→o.live=true→iX k=some g→¬ fU g:=by
     intro k o g h1 h2 h3 h4
     rw [hprot3] at h4
     exact h4.2 k o h1 h2 h3
    have Yr:∀ x ∈ GL,aX w2 (bR base S2.objs iX) S2.objs iX x.1 x.2:=by
     intro x hx
     rw [hxs3] at hx
     rcases List.mem_append.1 hx with hx | hx
     · exact R2.ext x hx
     · obtain ⟨t,h1,h2⟩:=lX hx
       rw [← h2]
       exact R2.tm t x.1 h1
    have Yt:∀ x ∈ GL,x.1.lt S.objs.length=true:=by
     intro x hx
     rw [hxs3] at hx
     rcases List.mem_append.1 hx with hx | hx
     · exact R2.J8 x hx
     · obtain ⟨t,h1,_⟩:=lX hx
       exact UD (List.all_eq_true.1 hpt x.1 (List.mem_of_getElem? h1))
    obtain ⟨tm0,htm0⟩:∃ tm0,tm0=(((rec .ready).params.zip (⟨vs⟩:Array Value)).foldl (fun t (p,v)=>t.setIfInBounds p v) (rec .ready).tmps):=⟨_,rfl⟩
    rw [← htm0]
    have Ox:tm0=(ps.zip vs).foldl (fun t (p,v)=>t.setIfInBounds p v) a.tmps:=by
     rw [htm0,hrec]
     simp only []
     rw [← Array.foldl_toList]
     simp
    have hset:=GK (R:=aX w2 (bR base S2.objs iX) S2.objs iX) (fun v=>.dead v) ps args vs S.tmps a.tmps hargs.1 R.CY
     (fun t p hp=>R2.ext (p,a.tmps.getD t undef) (nQ R.CY hp)) (fun i p v h1 h2=>.aJ (hargs.2 i p v h1 h2))
    have Rr:Rel base fU ⟨w2.heap,GL,S.objs.length,w⟩ ⟨qx ps args S.tmps,S2.objs⟩ iX { tmps:=tm0,defers:=[] } w2:=by
     refine ⟨.nil _ _,by rw [Ox];exact hset.1,fun t p hp=>by rw [Ox];exact hset.2 t p hp,⟨R2.objs.ob,R2.objs.IK,acG⟩,fun b hb=>by rw [hprot3] at hb;exact hb.1,fun _ _=>rfl,Nat.le_refl _,Yq,Yr,Yt,R2.sm,⟨R2.nJ,fun b hb=>h23 b (Ow b hb)⟩⟩
    have Ls:=rT i args S2.objs hIi hyi l0 base fU (fun z=>z=⟨w2.heap,GL,S.objs.length,w⟩) (by rintro z rfl;exact Nat.le_refl _) iX _ w2 ⟨_,rfl,Rr⟩
    rw [show (rec .ready).assign=x by rw [hrec],show (rec .ready).body=y by rw [hrec]]
    change x.wpIn (EO (some l0)) 0 P _ _ _
    refine wpIn_mono Ls ?_
    rintro e a3 w3 ⟨S3,Yu,he,z,rfl,R3⟩
    cases e with
    | normal=>
     have hp3:fU l0:=h23 l0 Ov
     have hL3:w3.heap[l0]?=some (.loop (rec .ready)):=(R3.fr l0 hp3).trans hL2
     refine ⟨_,run_beginRound hL3 (by rw [hrec]),?_⟩
     have Yv:({ rec .ready with state:=.busy }:Loop)=rec .busy:=by rw [hrec]
     rw [Yv]
     obtain ⟨w4,hw4⟩:∃ w4,w4=w3.putObj l0 (.loop (rec .busy)):=⟨_,rfl⟩
     rw [← hw4]
     have hnc:∀ st,¬ jh (.loop (rec st)):=by rintro st (⟨c,t,y,h⟩ | ⟨es,n,h⟩ | ⟨_,_,_,_,h⟩) <;> cases h
     have RA:∀ (k:Nat) x,w3.heap[k]?=some x→jh x→w4.heap[k]?=some x:=by rw [hw4];exact jH hL3 (hnc _)
     have hs4:w4.heap.size=w3.heap.size:=by rw [hw4];exact World.putObj_size
     have ho4:∀ k:Nat,k≠l0→w4.heap[k]?=w3.heap[k]?:=fun k hk=>by rw [hw4];exact World.putObj_heap_other hk
     have acH:l0<w3.heap.size:=(Array.getElem?_eq_some_iff.1 hL3).1
     have hL4:w4.heap[l0]?=some (.loop (rec .busy)):=by rw [hw4];exact World.putObj_heap_same acH
     have acI:∀ b,fU b→b<w2.heap.size:=fun b hb=>by rw [hprot3] at hb;exact hb.1
     have ae3:w2.heap.size≤w3.heap.size:=R3.gr
     have R4:Rel base fU ⟨w4.heap,GL,S.objs.length,w⟩ S3 Yu a3 w4:=by
      refine ⟨?_,R3.CY,fun t p hp=>gI (R3.tm t p hp) (le_of_eq hs4.symm) RA,R3.objs.cells (le_of_eq hs4.symm) RA R3.objs.np,fun b hb=>?_,fun _ _=>rfl,Nat.le_refl _,Yq,fun x hx=>gI (R3.ext x hx) (le_of_eq hs4.symm) RA,R3.J8,R3.sm.trans (by rw [hw4];exact ⟨rfl,rfl⟩),⟨rO.keep (fun b hb=>ho4 b (by have:=VP b hb;omega)) R3.nJ,fun b hb=>h23 b (Ow b hb)⟩⟩
      · obtain ⟨Ds,h1,h2,h3⟩:=R3.oD
        refine ⟨Ds,h1,h2,fun b hb=>?_⟩
        rw [ho4 b (fun e=>(h3 b hb).2.2 (e ▸ hp3))]
        exact h3 b hb
      · have:=acI b hb;show b<w4.heap.size;omega
     have hbody:=he base fU (fun z=>z=⟨w4.heap,GL,S.objs.length,w⟩) (by rintro z rfl;exact Nat.le_refl _) Yu a3 w4 ⟨_,rfl,R4⟩
     refine wpIn_mono hbody ?_
     rintro e a5 w5 ⟨S5,blk5,he5,z,rfl,R5⟩
     cases e with
     | normal=>
      have hL5:w5.heap[l0]?=some (.loop (rec .busy)):=(R5.fr l0 hp3).trans hL4
      refine ⟨_,_,run_endRound none hL5,?_⟩
      have RB:({ rec .busy with state:=if (none:Option Code).isNone then .ready else .done,pending:=none }:Loop)=rec .ready:=by rw [hrec];rfl
      rw [RB]
      obtain ⟨w6,hw6⟩:∃ w6,w6=w5.putObj l0 (.loop (rec .ready)):=⟨_,rfl⟩
      rw [← hw6]
      obtain ⟨GN,R6⟩:=Weak.norm (m:=S.objs.length) [] fz hfz S5 base fU _ blk5 a5 w5 (Nat.le_refl _) R5
      have GQ:∀ (k:Nat) x,w5.heap[k]?=some x→jh x→w6.heap[k]?=some x:=by rw [hw6];exact jH hL5 (hnc _)
      have hs6:w6.heap.size=w5.heap.size:=by rw [hw6];exact World.putObj_size
      have ho6:∀ k:Nat,k≠l0→w6.heap[k]?=w5.heap[k]?:=fun k hk=>by rw [hw6];exact World.putObj_heap_other hk
      have hl5:l0<w5.heap.size:=(Array.getElem?_eq_some_iff.1 hL5).1
      have adM:w4.heap.size≤w5.heap.size:=R5.gr
      have hall:∀ b,fU b→w6.heap[b]?=w2.heap[b]?:=by
       intro b hb
       by_cases hbl:b=l0
       · subst hbl
         rw [hL2,hw6,World.putObj_heap_same hl5]
       · rw [ho6 b hbl,R5.fr b hb]
         show w4.heap[b]?=_
         rw [ho4 b hbl]
         exact R3.fr b hb
      have Yw:∀ b,fU b→aY (S5.norm [] fz).objs GN b:=fun b hb k o h1 h2 h3=>R6.objs.np k o b h1 h2 h3 hb
      refine ⟨true,(S5.norm [] fz).objs,GN,rfl,hK _ he5,⟨W1.heap,pairs S.tmps a.tmps,S.objs.length,w⟩,by rw [hV2],?_⟩
      have Yx:∀ x ∈ pairs S.tmps a.tmps,x ∈ GL:=fun x hx=>by rw [hxs3];exact List.mem_append_left _ hx
      have Yy:∀ x ∈ pairs S2.tmps a2.tmps,x ∈ GL:=fun x hx=>by rw [hxs3];exact List.mem_append_right _ hx
      refine ⟨?_,R2.CY,fun t p hp=>?_,R6.objs.cells (le_of_eq hs6.symm) GQ (fun k o g h1 h2 h3 h4=>R6.objs.np k o g h1 h2 h3 (h23 g h4)),R2.pr,fun b hb=>?_,?_,R2.pb,fun x hx=>gI (R6.ext x (Yx x hx)) (le_of_eq hs6.symm) GQ,R2.J8,R6.sm.trans (by rw [hw6];exact ⟨rfl,rfl⟩),R2.gl⟩
      · obtain ⟨Ds,h1,h2,h3⟩:=R2.oD
        refine ⟨Ds,h1,h2,fun b hb=>?_⟩
        obtain ⟨q1,q2,q3⟩:=h3 b hb
        have hb3:fU b:=by rw [hprot3];exact ⟨(Array.getElem?_eq_some_iff.1 q1).1,q2.2⟩
        exact ⟨by rw [hall b hb3];exact q1,⟨q2.1,Yw b hb3⟩,q3⟩
      · exact gI (R6.ext (p,a2.tmps.getD t undef) (Yy _ (nQ R2.CY hp))) (le_of_eq hs6.symm) GQ
      · rw [hall b (h23 b hb)];exact R2.fr b hb
      · have:=R2.gr;show W1.heap.size≤w6.heap.size;simp only at this;omega
     | _=>exact he5.elim
    | _=>exact he.elim
   refine Calls.mono (hgive I (fun _ _=>False) base jN V2 l0 S.objs blk W1 vc acF (fun z hz=>by rw [hV2] at hz;rw [hz];exact Nat.le_refl _) ⟨_,by rw [hV2],acE⟩ hI0 I5 (fun _ _ h=>h.elim) hcapR) ?_
   rintro e w3 ⟨objs',au,rfl,hIJ,z,hz,R3⟩
   have hI:I ys.length objs':=hIJ.resolve_right fun ⟨_,_,h⟩=>h
   rw [hV2] at hz
   subst hz
   have hL3:w3.heap[l0]?=some (.loop (rec .ready)):=(R3.fr l0 Ov).trans hL1
   have hD3:w3.heap[w.heap.size]?=some (.deferred (some [])):=(R3.fr _ hpD).trans hK1
   have hnc:¬ jh (.loop (rec .ready)):=by rintro (⟨c,t,y,h⟩ | ⟨es,n,h⟩ | ⟨_,_,_,_,h⟩) <;> cases h
   have hend:=run_endLoop (P:=P) hL3 (by rw [hrec];simp)
   refine ⟨none,w3.putObj l0 (.loop { rec .ready with state:=.exhausted }),by rw [hend,hrec],?_⟩
   simp only []
   have hcl:=jH (o':=.loop { rec .ready with state:=.exhausted }) hL3 hnc
   have hsz:(w3.putObj l0 (.loop { rec .ready with state:=.exhausted })).heap.size=w3.heap.size:=World.putObj_size
   have hle:w.heap.size≤w3.heap.size:=by have:=R3.gr;simp only at this;omega
   have hother:∀ k:Nat,k≠l0→(w3.putObj l0 (.loop { rec .ready with state:=.exhausted })).heap[k]?=w3.heap[k]?:=fun k hk=>World.putObj_heap_other hk
   have hkeep:∀ b,b<w.heap.size→aY S.objs blk b→aY objs' au b:=by
    intro b hb hnb k o h1 h2 h3
    refine R3.objs.np k o b h1 h2 h3 ?_
    rw [hprot2];exact ⟨by omega,hnb⟩
   have hsame:∀ b,b<w.heap.size→aY S.objs blk b→(w3.putObj l0 (.loop { rec .ready with state:=.exhausted })).heap[b]?=w.heap[b]?:=by
    intro b hb hnb
    rw [hother b (by omega),R3.fr b (by rw [hprot2];exact ⟨by omega,hnb⟩)]
    have hbx:w.heap[b]?=some (w.heap[b]):=Array.getElem?_eq_getElem hb
    rw [wP.2.1 b _ hbx,hbx]
   have hpn:∀ b,ak b→b<w.heap.size∧aY S.objs blk b:=fun b hb=>⟨lt_of_lt_of_le (R.pr b hb) R.gr,fun k o h1 h2 h3=>R.objs.np k o b h1 h2 h3 hb⟩
   have acJ:∀ k o g,objs'[k]?=some o→o.live=true→au k=some g→¬ ak g:=fun k o g h1 h2 h3 h4=>hkeep g (hpn g h4).1 (hpn g h4).2 k o h1 h2 h3
   refine ⟨objs',au,trivial,hI,?_,R.CY,fun t p hp=>?_,R3.objs.cells (le_of_eq hsz.symm) hcl acJ,R.pr,fun b hb=>?_,le_trans R.gr (by rw [hsz];exact hle),R.pb,(by rw [hx];intro x h;simp at h),R.J8,(R.sm.trans R3.sm).trans ⟨rfl,rfl⟩,R.gl⟩
   · obtain ⟨Ds,h1,h2,h3⟩:=R.oD
     refine ⟨w.heap.size::Ds,by simp [h1],List.nodup_cons.2 ⟨fun hm=>?_,h2⟩,fun b hb=>?_⟩
     · have:=(Array.getElem?_eq_some_iff.1 (h3 _ hm).1).1;omega
     · rcases List.mem_cons.1 hb with rfl | hb
       · refine ⟨by rw [hother _ (by omega)];exact hD3,⟨R.bs _ R.gr,fun k o h1 h2 h3=>R3.objs.np k o _ h1 h2 h3 hpD⟩,fun hp=>by have:=(hpn _ hp).1;omega⟩
       · obtain ⟨q1,q2,q3⟩:=h3 b hb
         have hbs:=(Array.getElem?_eq_some_iff.1 q1).1
         exact ⟨by rw [hsame b hbs q2.2];exact q1,⟨q2.1,hkeep b hbs q2.2⟩,q3⟩
   · exact gI (R3.ext (p,a.tmps.getD t undef) (nQ R.CY hp)) (le_of_eq hsz.symm) hcl
   · rw [hsame b (hpn b hb).1 (hpn b hb).2];exact R.fr b hb
theorem Kr (k:Nat) (O:List Obj):(iQ k O).length=O.length:=by simp [iQ]
theorem p9 {k j:Nat}{O:List Obj}(h1:j≠k) (h2:j≠k+1):(iQ k O)[j]?=O[j]?:=by
 unfold iQ
 rw [List.getElem?_set,if_neg (fun e=>h2 e.symm),List.getElem?_set,if_neg (fun e=>h1 e.symm)]
theorem Fz {k:Nat}{O:List Obj}(h:k+1<O.length):(iQ k O)[k]?=some hole:=by
 unfold iQ
 rw [List.getElem?_set,if_neg (by omega),List.getElem?_set];simp;omega
theorem Lu {k:Nat}{O:List Obj}(h:k+1<O.length):(iQ k O)[k+1]?=some wz:=by
 unfold iQ
 rw [List.getElem?_set];simp;omega
def lm (k:Nat) (blk:Nat→Option Nat):Nat→Option Nat:=fun j=>if j=k+1 then none else blk j
theorem uR {k b:Nat}{O:List Obj}{bl:Nat→Option Nat}(hk:k+1<O.length) (h:aY O bl b):aY (iQ k O) (lm k bl) b:=by
 intro j o h1 h2 h3
 by_cases e2:j=k+1
 · subst e2;simp [lm] at h3
 · by_cases e1:j=k
   · subst e1;rw [Fz hk] at h1;cases h1;cases h2
   · rw [p9 e1 e2] at h1
     refine h j o h1 h2 ?_
     simpa [lm,e2] using h3
theorem sQ {k:Nat}{O:List Obj}{bl:Nat→Option Nat}{p:PV}{v:Value}{ok ok':Nat→Prop}(hp:p.vW k=true) (hok:∀ b,ok b→ok' b) (h:bD w ok O bl p v):bD w ok' (iQ k O) (lm k bl) p v:=by
 have hm:∀ q:PV,dz w ok q v→dz w ok' q v:=fun q hq=>hq.mono (Nat.le_refl _) (fun b _ h=>hok b h) (fun _ _ _ h=>h)
 cases p with
 | bG j ver=>
  have hj:j<k:=by simpa [PV.vW] using hp
  obtain ⟨h0,o,h1,h2,h3⟩:=h
  refine ⟨h0,o,by rw [p9 (by omega) (by omega)];exact h1,h2,fun e1 e2=>?_⟩
  obtain ⟨hM,hh⟩:=h3 e1 e2
  refine ⟨hM,?_⟩
  unfold yJ at hh ⊢
  rw [show lm k bl j=bl j by simp [lm];omega]
  exact hh
 | bI j ver i f=>
  have hj:j<k:=by simpa [PV.vW] using hp
  obtain ⟨h0,o,h1,h2,h3⟩:=h
  refine ⟨h0,o,by rw [p9 (by omega) (by omega)];exact h1,h2,fun e1 e2=>?_⟩
  rw [show lm k bl j=bl j by simp [lm];omega]
  exact h3 e1 e2
 | lD j ver=>
  have hj:j<k:=by simpa [PV.vW] using hp
  obtain ⟨h0,o,h1,h2,h3⟩:=h
  refine ⟨h0,o,by rw [p9 (by omega) (by omega)];exact h1,h2,fun e1 e2=>?_⟩
  rw [show lm k bl j=bl j by simp [lm];omega]
  exact h3 e1 e2
 | _=>exact hm _ h
theorem VQ {k:Nat}{O:List Obj}{bl:Nat→Option Nat}{p:PV}{v:Value}{ok ok':Nat→Prop}(hp:p.lt k=true) (hok:∀ b,ok b→ok' b) (h:aX w ok O bl p v):aX w ok' (iQ k O) (lm k bl) p v:=by
 have hl:∀ (cs:List PV) (vs:List Value),cs.all (PV.vW k)=true→cZ (bD w ok O bl) cs vs→cZ (bD w ok' (iQ k O) (lm k bl)) cs vs:=
  fun cs vs hc h=>⟨h.1,fun i p u h1 h2=>sQ (List.all_eq_true.1 hc p (List.mem_of_getElem? h1)) hok (h.2 i p u h1 h2)⟩
 cases p with
 | fn f a c=>
  simp only [PV.lt,Bool.and_eq_true] at hp
  obtain ⟨va,vc,rfl,h1,h2⟩:=h
  exact ⟨va,vc,rfl,hl _ _ hp.1 h1,hl _ _ hp.2 h2⟩
 | b_ cs=>obtain ⟨us,rfl,h1⟩:=h;exact ⟨us,rfl,hl _ _ hp h1⟩
 | agg cs=>obtain ⟨us,rfl,h1⟩:=h;exact ⟨us,rfl,hl _ _ hp h1⟩
 | bG j ver=>exact sQ (p:=.bG j ver) hp hok h
 | bI j ver i f=>exact sQ (w:=w) (p:=.bI j ver i f) hp hok h
 | lD j ver=>exact sQ (w:=w) (p:=.lD j ver) hp hok h
 | _=>exact .kM (sQ rfl hok (by exact h))
theorem VR {k:Nat}{O:List Obj}{bl:Nat→Option Nat}{zb:Nat→Prop}(R:dG base zb O bl w) (hk:k+1<O.length) (hn:eX O) (hA:O[k]?=some wz) :
  dG base zb (iQ k O) (lm k bl) w:=by
 have hok:∀ b,bR base O bl b→bR base (iQ k O) (lm k bl) b:=fun b h=>⟨h.1,uR hk h.2⟩
 have get:∀ (j:Nat) (o:Obj),(iQ k O)[j]?=some o→o.live=true→(j=k+1∧o=wz)∨(j≠k∧j≠k+1∧O[j]?=some o∧lm k bl j=bl j):=by
  intro j o h1 h2
  by_cases e2:j=k+1
  · subst e2;rw [Lu hk] at h1;cases h1;exact .inl ⟨rfl,rfl⟩
  · by_cases e1:j=k
    · subst e1;rw [Fz hk] at h1;cases h1;cases h2
    · rw [p9 e1 e2] at h1;exact .inr ⟨e1,e2,h1,by simp [lm,e2]⟩
 have hB:lm k bl (k+1)=none:=by simp [lm]
 refine ⟨fun j o h1 h2=>?_,fun j j' o o' g hne h1 h2 h3 h4 h5 h6=>?_,fun j o g h1 h2 h3=>?_⟩
 · rcases get j o h1 h2 with ⟨rfl,rfl⟩ | ⟨e1,e2,h1',hb⟩
   · unfold cK;rw [hB];rfl
   · have hh:=R.ob j o h1' h2
     unfold cK at hh ⊢
     rw [hb]
     cases hbj:bl j with
     | none=>rw [hbj] at hh;exact hh
     | some g=>
      rw [hbj] at hh
      obtain ⟨c,x1,x2,x3⟩:=hh
      refine ⟨c,x1,x2,fun i x hx=>⟨(x3 i x hx).1,fun q p hp=>?_⟩⟩
      obtain ⟨u,y1,y2⟩:=(x3 i x hx).2 q p hp
      exact ⟨u,y1,.aJ ((y2.Ay (hn o (List.mem_of_getElem? h1') x (List.mem_of_getElem? hx) p (List.mem_of_getElem? hp))).o8 fun b _ hb=>hok b hb)⟩
 · rcases get j o h1 h2 with ⟨rfl,rfl⟩ | ⟨_,_,h1',hb⟩
   · rw [hB] at h5;cases h5
   · rcases get j' o' h3 h4 with ⟨rfl,rfl⟩ | ⟨_,_,h3',hb'⟩
     · rw [hB] at h6;cases h6
     · rw [hb] at h5;rw [hb'] at h6
       exact R.IK j j' o o' g hne h1' h2 h3' h4 h5 h6
 · rcases get j o h1 h2 with ⟨rfl,rfl⟩ | ⟨_,_,h1',hb⟩
   · rw [hB] at h3;cases h3
   · rw [hb] at h3;exact R.np j o g h1' h2 h3
theorem VS {f:Operand}{ps:List Nat}{x y:Code}{fz:Option (Nat×Nat)}{g:FuncId}{cap:List PV}{ys:List (List PV)}{I J:Nat→List Obj→Prop}{lv:Exit}{lc:Code}
  (hg:Gives P g cap ys) (hys:∀ y ∈ ys,y.length=ps.length) (hlv:GH lv=some lc) (hI0:I 0 (S.objs++[wz,hole])) (I5:∀ i objs,I i objs→Gh S.objs.length objs) (Yz:∀ i objs,J i objs→Gh S.objs.length objs∧eX objs) (R:Rel base ak w0 S blk a w) (hx:w0.xs=[]) (hf:S.ev f=.fn g [] cap) (hcap:cap.all PV.pure=true) (hfz:IZ (S.objs.length+2) fz)
  (rT:∀ i args objs,I i objs→ys[i]?=some args→∀ l0,PW P (some l0) (E0 (S.objs.length+2)) x (thenS (fun S1=>PW P (some l0) (E0 (S.objs.length+2)) y (Lr fz (I (i+1)) lv (J i)) S1) (fun _ _=>False)) ⟨qx ps args S.tmps,objs⟩) :
  (Code.rangeFunc f ps.toArray x y).wpIn (EO none) 0 P (fun e a' w'=>∃ objs' au,((e=.normal∧I ys.length objs')∨(e=lv∧∃ i O,i<ys.length∧J i O∧objs'=iQ S.objs.length O))∧Rel base ak w0 ⟨S.tmps,objs'⟩ au a' w') a w:=by
 refine wpIn_rangeFunc fun fn _=>?_
 have acK:∀ t:Nat,∀ p,S.tmps[t]?=some p→p.lt S.objs.length=true:=fun t p hp=>Fy (R.tm t p hp)
 obtain ⟨k,hk⟩:∃ k,k=S.objs.length:=⟨_,rfl⟩
 have hff:=R.ev f
 rw [hf] at hff
 obtain ⟨va,vc,hv,r1,r2⟩:=hff
 have hva:va=[]:=List.eq_nil_of_length_eq_zero r1.1.symm
 subst hva
 obtain ⟨vY,RG,adN⟩:∃ vY,Rel base ak w0 ⟨S.tmps,S.objs++[wz,hole]⟩ vY a w∧∀ b,aY S.objs blk b→aY (S.objs++[wz,hole]) vY b:=by
  have g1:=R.C9 (o1:=wz) (gb:=none) (kN.refl w) (fun g hg=>by cases hg) fun _=>by
   unfold cK aF;rw [if_pos rfl];rfl
  have g2:=g1.C9 (o1:=hole) (gb:=none) (kN.refl w) (fun g hg=>by cases hg) fun _=>by
   unfold cK aF;rw [if_pos rfl];rfl
  have e1:(S.objs++[wz]).length=S.objs.length+1:=by simp
  have e2:S.objs++[wz]++[hole]=S.objs++[wz,hole]:=by simp
  simp only [e1,e2] at g2
  refine ⟨_,g2,fun b hn j o h1 h2 h3=>?_⟩
  have hj:j<S.objs.length+2:=by have:=(List.getElem?_eq_some_iff.1 h1).1;simpa using this
  unfold aF at h3
  split at h3
  · cases h3
  · split at h3
    · cases h3
    · rw [List.getElem?_append_left (by omega)] at h1
      exact hn j o h1 h2 h3
 have hAg:(S.objs++[wz,hole])[S.objs.length]?=some wz:=by simp
 have hBg:(S.objs++[wz,hole])[S.objs.length+1]?=some hole:=by simp
 have hGl:(S.objs++[wz,hole]).length=S.objs.length+2:=by simp
 obtain ⟨S',hS'⟩:∃ S':St,S'=⟨S.tmps,S.objs++[wz,hole]⟩:=⟨_,rfl⟩
 have hSt:S'.tmps=S.tmps:=by rw [hS']
 have hSo:S'.objs=S.objs++[wz,hole]:=by rw [hS']
 rw [← hS'] at RG
 rw [← hSo] at hAg hBg hGl hI0 adN
 rw [← hk] at hAg hBg hGl hfz rT I5 Yz acK ⊢
 obtain ⟨rec,hrec⟩:∃ rec:LoopState→Option Code→Loop,rec=fun st pe=>{ state:=st,pending:=pe,fn,tmps:=a.tmps,params:=ps.toArray,assign:=x,body:=y,defers:=w.heap.size }:=⟨_,rfl⟩
 obtain ⟨W1,hW1⟩:∃ W1,(w.alloc (.deferred (some []))).alloc (.loop (rec .ready none))=W1:=⟨_,rfl⟩
 have hL1:W1.heap[w.heap.size+1]?=some (.loop (rec .ready none)):=by
  rw [← hW1];have:=World.alloc_heap_new (w.alloc (.deferred (some []))) (.loop (rec .ready none));rwa [World.size_alloc] at this
 have hK1:W1.heap[w.heap.size]?=some (.deferred (some [])):=by
  rw [← hW1];exact (kN.push (w:=w.alloc (.deferred (some []))) (w':=(w.alloc (.deferred (some []))).alloc (.loop (rec .ready none))) rfl).2.1 _ _ (World.alloc_heap_new w _)
 have hs1:W1.heap.size=w.heap.size+2:=by rw [← hW1,World.size_alloc,World.size_alloc]
 have wP:kN w W1:=by
  rw [← hW1]
  exact (kN.push (w':=w.alloc (.deferred (some []))) rfl).trans (kN.push rfl)
 have hnl:∀ k,w.heap.size≤k→aY S'.objs vY k:=fun k hk j o h1 h2 h3=>by
  have:=Fq RG.objs h1 h2 h3;omega
 obtain ⟨⟨fng,hfn,hname,hbody⟩,hgive⟩:=hg
 refine ⟨w.heap.size+1,[{ target:=.collected w.heap.size,args:=#[] }],W1,{ target:=.fn (.func g) ⟨vc⟩,args:=#[.func (.yield (w.heap.size+1)) #[] #[]] },W1,g,
  ⟨.func (.yield (w.heap.size+1)) #[] #[]::vc⟩,W1,?_,?_,fun _ _=>trivial,?_,(fun h=>by cases h),?_⟩
 · rw [← hW1,hrec];exact run_enterLoop_outer _ _ _ _ _
 · simp only [resolve,hv]
   simp [go_sem]
 · have e1:(#[.func (.yield (w.heap.size+1)) #[] #[]]:Array Value)++Array.mk vc=Array.mk (.func (.yield (w.heap.size+1)) #[] #[]::vc):=by apply Array.ext';simp
   simp only [invoke,callFunc,run_program,Sem.run_bind,Result.andThen_ok,hfn,hname,hbody,Bool.false_eq_true,if_false,Sem.run_pure]
   rw [e1]
 · rw [show (0-1:Nat)=0 from rfl]
   refine callsIn_wide.2 ?_
   obtain ⟨l0,hl0⟩:∃ l0,l0=w.heap.size+1:=⟨_,rfl⟩
   rw [← hl0] at hL1 ⊢
   obtain ⟨jN,hprot2⟩:∃ jN:Nat→Prop,jN=fun b=>b<W1.heap.size∧aY S'.objs vY b:=⟨_,rfl⟩
   obtain ⟨z0,hz0⟩:∃ z0:Wz,z0=⟨W1.heap,(.bG (k+1) 0,.bool false)::pairs S'.tmps a.tmps,S'.objs.length,w⟩:=⟨_,rfl⟩
   obtain ⟨z1,hz1⟩:∃ z1:Wz,z1=⟨(W1.putObj l0 (.loop (rec .done (some lc)))).heap,(.bG k 0,.bool false)::pairs S'.tmps a.tmps,S'.objs.length,w⟩:=⟨_,rfl⟩
   obtain ⟨V2,hV2⟩:∃ V2:Wz→Prop,V2=fun z=>z=z0∨z=z1:=⟨_,rfl⟩
   have ghost:∀ {ww:World}{ok:Nat→Prop}{O:List Obj}{bl:Nat→Option Nat}{j:Nat},aX ww ok O bl (.bG j 0) (.bool false)→O[j]?=some wz→False:=by
    intro ww ok O bl j h h1
    have:=h.bG h1 rfl rfl
    unfold yJ at this
    split at this
    · cases this.1
    · obtain ⟨_,_,h,_⟩:=this;cases h
   have abz:∀ {ww:World}{ok:Nat→Prop}{O:List Obj}{bl:Nat→Option Nat}{j:Nat},O[j]?=some hole→aX ww ok O bl (.bG j 0) (.bool false):=
    fun h=>⟨rfl,_,h,Nat.le_refl _,fun hl=>by cases hl⟩
   have Ov:jN l0:=by rw [hprot2];exact ⟨by omega,hnl _ (by omega)⟩
   have hpD:jN w.heap.size:=by rw [hprot2];exact ⟨by omega,hnl _ (Nat.le_refl _)⟩
   have hR1:=RG.grew wP
   have acC:∀ b,¬ jN b→base b:=by
    intro b hb
    rw [hprot2] at hb
    by_cases h:ak b
    · exact absurd ⟨lt_of_lt_of_le (RG.pr b h) (le_trans RG.gr (by omega)),fun k o h1 h2 h3=>RG.objs.np k o b h1 h2 h3 h⟩ hb
    · exact RG.pb b h
   have acD:∀ k o g,S'.objs[k]?=some o→o.live=true→vY k=some g→¬ jN g:=by
    intro k o g h1 h2 h3 h4
    rw [hprot2] at h4
    exact h4.2 k o h1 h2 h3
   have hext:∀ x ∈ pairs S'.tmps a.tmps,aX W1 (bR base S'.objs vY) S'.objs vY x.1 x.2:=by
    intro x hx
    obtain ⟨t,h1,h2⟩:=lX hx
    rw [← h2]
    exact hR1.tm t x.1 h1
   have abA:∀ x ∈ z0.xs,aX W1 (bR base S'.objs vY) S'.objs vY x.1 x.2:=by
    intro x hx
    rw [hz0] at hx
    rcases List.mem_cons.1 hx with rfl | hx
    · exact abz hBg
    · exact hext x hx
   have VP:∀ b ∈ rO.blocks,b<w.heap.size:=fun b hb=>lt_of_lt_of_le (R.pr b (R.gl.2 b hb)) R.gr
   have Ow:∀ b ∈ rO.blocks,jN b:=fun b hb=>by
    rw [hprot2];exact ⟨by have:=VP b hb;omega,fun k o h1 h2 h3=>RG.objs.np k o b h1 h2 h3 (R.gl.2 b hb)⟩
   have acE:Rel base jN z0 ⟨[],S'.objs⟩ vY Yo W1:=by
    refine ⟨.nil _ _,rfl,fun t p hp=>by simp at hp,⟨hR1.objs.ob,RG.objs.IK,acD⟩,fun b hb=>by rw [hprot2] at hb;rw [hz0];exact hb.1,fun _ _=>by rw [hz0],by rw [hz0];exact Nat.le_refl _,acC,abA,fun x hx=>?_,by rw [hz0];exact wP.2.2,by rw [hz0];exact ⟨hR1.nJ,Ow⟩⟩
    have:=Fy (abA x hx)
    rw [hz0];exact this
   have ae4:∀ b,b<w.heap.size→bR base S.objs blk b→bR base S'.objs vY b:=by
    intro b _ h
    refine ⟨h.1,fun j o h1 h2 h3=>?_⟩
    exact adN b h.2 j o h1 h2 h3
   have hcapR:cZ (dz W1 (bR base S'.objs vY)) cap vc:=by
    refine ⟨r2.1,fun i p v hp hv=>?_⟩
    have hpp:=List.all_eq_true.1 hcap p (List.mem_of_getElem? hp)
    have h1:aX w (bR base S.objs blk) S.objs blk p v:=.kM (r2.2 i p v hp hv)
    have h2:dz w (bR base S'.objs vY) p v:=(h1.Ay hpp).o8 ae4
    exact h2.mono wP.1 (fun _ _ h=>h) (fun b x _ h=>wP.2.1 b x h)
   have acF:Ym P none base jN V2 (Ou l0 (Yn ys I fun i O=>∃ O',J i O'∧O=iQ k O')):=by
    rintro S2 iX a2 w2 args vs K ⟨z,hz,R2⟩ hpt hargs ⟨i,hIi,hyi,hK,hKf⟩
    rw [hV2] at hz
    have hz:z=z0:=by
     rcases hz with hz | hz
     · exact hz
     · exfalso
       refine ghost (R2.ext (.bG k 0,.bool false) ?_) (I5 i _ hIi).2.2.1
       rw [hz,hz1];exact List.mem_cons_self
    subst hz
    have hzh:z.heap=W1.heap:=by rw [hz0]
    have hzx:z.xs=(.bG (k+1) 0,.bool false)::pairs S'.tmps a.tmps:=by rw [hz0]
    have hzn:z.nx=S'.objs.length:=by rw [hz0]
    have hzo:z.out=w:=by rw [hz0]
    have hL2:w2.heap[l0]?=some (.loop (rec .ready none)):=(R2.fr l0 Ov).trans (by rw [hzh];exact hL1)
    have hlen:args.length=ps.length:=hys args (List.mem_of_getElem? hyi)
    refine ⟨rec .ready none,hL2,by rw [hrec];simp [← hargs.1,hlen],?_⟩
    rw [show (Ou l0 (Yn ys I fun i O=>∃ O',J i O'∧O=iQ k O')).y=l0 from rfl]
    refine roundIn_of_wpIn trivial ?_
    have hlt2:l0<w2.heap.size:=(Array.getElem?_eq_some_iff.1 hL2).1
    obtain ⟨fU,hprot3⟩:∃ fU:Nat→Prop,fU=fun b=>b<w2.heap.size∧aY S2.objs iX b:=⟨_,rfl⟩
    obtain ⟨GL,hxs3⟩:∃ GL,GL=z.xs++pairs S2.tmps a2.tmps:=⟨_,rfl⟩
    have h23:∀ b,jN b→fU b:=by
     intro b hb
     rw [hprot3]
     exact ⟨lt_of_lt_of_le (R2.pr b hb) R2.gr,fun k o h1 h2 h3=>R2.objs.np k o b h1 h2 h3 hb⟩
    have Yq:∀ b,¬ fU b→base b:=fun b hb=>R2.pb b fun h=>hb (h23 b h)
    have acG:∀ k o g,S2.objs[k]?=some o→o.live=true→iX k=some g→¬ fU g:=by
     intro k o g h1 h2 h3 h4
     rw [hprot3] at h4
     exact h4.2 k o h1 h2 h3
    have Yr:∀ x ∈ GL,aX w2 (bR base S2.objs iX) S2.objs iX x.1 x.2:=by
     intro x hx
     rw [hxs3] at hx
     rcases List.mem_append.1 hx with hx | hx
     · exact R2.ext x hx
     · obtain ⟨t,h1,h2⟩:=lX hx
       rw [← h2]
       exact R2.tm t x.1 h1
    have Yt:∀ x ∈ GL,x.1.lt S'.objs.length=true:=by
     intro x hx
     rw [hxs3] at hx
     rcases List.mem_append.1 hx with hx | hx
     · rw [← hzn];exact R2.J8 x hx
     · obtain ⟨t,h1,_⟩:=lX hx
       exact UD (List.all_eq_true.1 hpt x.1 (List.mem_of_getElem? h1))
    obtain ⟨tm0,htm0⟩:∃ tm0,tm0=(((rec .ready none).params.zip (⟨vs⟩:Array Value)).foldl (fun t (p,v)=>t.setIfInBounds p v) (rec .ready none).tmps):=⟨_,rfl⟩
    rw [← htm0]
    have Ox:tm0=(ps.zip vs).foldl (fun t (p,v)=>t.setIfInBounds p v) a.tmps:=by
     rw [htm0,hrec]
     simp only []
     rw [← Array.foldl_toList]
     simp
    have hset:=GK (R:=aX w2 (bR base S2.objs iX) S2.objs iX) (fun v=>.dead v) ps args vs S'.tmps a.tmps hargs.1 RG.CY
     (fun t p hp=>R2.ext (p,a.tmps.getD t undef) (by rw [hzx];exact List.mem_cons_of_mem _ (nQ RG.CY hp))) (fun i p v h1 h2=>.aJ (hargs.2 i p v h1 h2))
    have Rr:Rel base fU ⟨w2.heap,GL,S'.objs.length,w⟩ ⟨qx ps args S.tmps,S2.objs⟩ iX { tmps:=tm0,defers:=[] } w2:=by
     refine ⟨.nil _ _,by rw [Ox,← hSt];exact hset.1,fun t p hp=>by rw [← hSt] at hp;rw [Ox];exact hset.2 t p hp,⟨R2.objs.ob,R2.objs.IK,acG⟩,fun b hb=>by rw [hprot3] at hb;exact hb.1,fun _ _=>rfl,Nat.le_refl _,Yq,Yr,Yt,by rw [← hzo];exact R2.sm,⟨R2.nJ,fun b hb=>h23 b (Ow b hb)⟩⟩
    have Ls:=rT i args S2.objs hIi hyi l0 base fU (fun z=>z=⟨w2.heap,GL,S'.objs.length,w⟩) (by rintro z rfl;rw [← hGl];exact Nat.le_refl _) iX _ w2 ⟨_,rfl,Rr⟩
    rw [show (rec .ready none).assign=x by rw [hrec],show (rec .ready none).body=y by rw [hrec]]
    change x.wpIn (EO (some l0)) 0 P _ _ _
    refine wpIn_mono Ls ?_
    rintro e a3 w3 ⟨S3,Yu,he,zz,rfl,R3⟩
    cases e with
    | normal=>
     have hp3:fU l0:=h23 l0 Ov
     have hL3:w3.heap[l0]?=some (.loop (rec .ready none)):=(R3.fr l0 hp3).trans hL2
     refine ⟨_,run_beginRound hL3 (by rw [hrec]),?_⟩
     have Yv:({ rec .ready none with state:=.busy }:Loop)=rec .busy none:=by rw [hrec]
     rw [Yv]
     obtain ⟨w4,hw4⟩:∃ w4,w4=w3.putObj l0 (.loop (rec .busy none)):=⟨_,rfl⟩
     rw [← hw4]
     have hnc:∀ st pe,¬ jh (.loop (rec st pe)):=by rintro st pe (⟨c,t,y,h⟩ | ⟨es,n,h⟩ | ⟨_,_,_,_,h⟩) <;> cases h
     have RA:∀ (k:Nat) x,w3.heap[k]?=some x→jh x→w4.heap[k]?=some x:=by rw [hw4];exact jH hL3 (hnc _ _)
     have hs4:w4.heap.size=w3.heap.size:=by rw [hw4];exact World.putObj_size
     have ho4:∀ k:Nat,k≠l0→w4.heap[k]?=w3.heap[k]?:=fun k hk=>by rw [hw4];exact World.putObj_heap_other hk
     have acH:l0<w3.heap.size:=(Array.getElem?_eq_some_iff.1 hL3).1
     have hL4:w4.heap[l0]?=some (.loop (rec .busy none)):=by rw [hw4];exact World.putObj_heap_same acH
     have acI:∀ b,fU b→b<w2.heap.size:=fun b hb=>by rw [hprot3] at hb;exact hb.1
     have ae3:w2.heap.size≤w3.heap.size:=R3.gr
     have R4:Rel base fU ⟨w4.heap,GL,S'.objs.length,w⟩ S3 Yu a3 w4:=by
      refine ⟨?_,R3.CY,fun t p hp=>gI (R3.tm t p hp) (le_of_eq hs4.symm) RA,R3.objs.cells (le_of_eq hs4.symm) RA R3.objs.np,fun b hb=>?_,fun _ _=>rfl,Nat.le_refl _,Yq,fun x hx=>gI (R3.ext x hx) (le_of_eq hs4.symm) RA,R3.J8,R3.sm.trans (by rw [hw4];exact ⟨rfl,rfl⟩),⟨rO.keep (fun b hb=>ho4 b (by have:=VP b hb;omega)) R3.nJ,fun b hb=>h23 b (Ow b hb)⟩⟩
      · obtain ⟨Ds,h1,h2,h3⟩:=R3.oD
        refine ⟨Ds,h1,h2,fun b hb=>?_⟩
        rw [ho4 b (fun e=>(h3 b hb).2.2 (e ▸ hp3))]
        exact h3 b hb
      · have:=acI b hb;show b<w4.heap.size;omega
     have hbody:=he base fU (fun z=>z=⟨w4.heap,GL,S'.objs.length,w⟩) (by rintro z rfl;rw [← hGl];exact Nat.le_refl _) Yu a3 w4 ⟨_,rfl,R4⟩
     refine wpIn_mono hbody ?_
     rintro e a5 w5 ⟨S5,blk5,he5,zz,rfl,R5⟩
     have leave:GH e=some lc→J i (S5.norm [] fz).objs→∃ v w',(Instr.endRound l0 (some lc)).run P w5=.ok v w'∧(∃ b objs' au,Ending.returned v=.returned (.bool b)∧K b objs'∧qP base jN V2 ⟨S2.tmps,objs'⟩ au a2 w'):=by
      intro _ hJ
      have hL5:w5.heap[l0]?=some (.loop (rec .busy none)):=(R5.fr l0 hp3).trans hL4
      refine ⟨_,_,run_endRound (some lc) hL5,?_⟩
      have hdone:({ rec .busy none with state:=if (some lc:Option Code).isNone then .ready else .done,pending:=some lc }:Loop)=rec .done (some lc):=by rw [hrec];rfl
      rw [hdone]
      obtain ⟨w6,hw6⟩:∃ w6,w6=w5.putObj l0 (.loop (rec .done (some lc))):=⟨_,rfl⟩
      rw [← hw6]
      obtain ⟨GN,R6⟩:=Weak.norm (m:=S'.objs.length) [] fz (by rw [hGl];exact hfz) S5 base fU _ blk5 a5 w5 (Nat.le_refl _) R5
      have GQ:∀ (k:Nat) x,w5.heap[k]?=some x→jh x→w6.heap[k]?=some x:=by rw [hw6];exact jH hL5 (hnc _ _)
      have hs6:w6.heap.size=w5.heap.size:=by rw [hw6];exact World.putObj_size
      have ho6:∀ k:Nat,k≠l0→w6.heap[k]?=w5.heap[k]?:=fun k hk=>by rw [hw6];exact World.putObj_heap_other hk
      have hl5:l0<w5.heap.size:=(Array.getElem?_eq_some_iff.1 hL5).1
      have adM:w4.heap.size≤w5.heap.size:=R5.gr
      have hl1:l0<W1.heap.size:=(Array.getElem?_eq_some_iff.1 hL1).1
      have hall:∀ b,fU b→b≠l0→w6.heap[b]?=w2.heap[b]?:=by
       intro b hb hbl
       rw [ho6 b hbl,R5.fr b hb]
       show w4.heap[b]?=_
       rw [ho4 b hbl]
       exact R3.fr b hb
      obtain ⟨⟨gl,_,gA,gB⟩,gN⟩:=Yz i _ hJ
      have hk1:k+1<(S5.norm [] fz).objs.length:=by omega
      have adO:∀ b,bR base (S5.norm [] fz).objs GN b→bR base (iQ k (S5.norm [] fz).objs) (lm k GN) b:=fun b h=>⟨h.1,uR hk1 h.2⟩
      have Yw:∀ b,fU b→aY (iQ k (S5.norm [] fz).objs) (lm k GN) b:=fun b hb=>uR hk1 fun k o h1 h2 h3=>R6.objs.np k o b h1 h2 h3 hb
      have Yx:∀ x ∈ pairs S'.tmps a.tmps,x ∈ GL:=fun x hx=>by rw [hxs3,hzx];exact List.mem_append_left _ (List.mem_cons_of_mem _ hx)
      have Yy:∀ x ∈ pairs S2.tmps a2.tmps,x ∈ GL:=fun x hx=>by rw [hxs3];exact List.mem_append_right _ hx
      have Fp:dG base jN (S5.norm [] fz).objs GN w6:=R6.objs.cells (le_of_eq hs6.symm) GQ (fun k o g h1 h2 h3 h4=>R6.objs.np k o g h1 h2 h3 (h23 g h4))
      refine ⟨false,iQ k (S5.norm [] fz).objs,lm k GN,rfl,hKf _ ⟨_,hJ,rfl⟩,z1,by rw [hV2];exact .inr rfl,?_⟩
      refine ⟨?_,R2.CY,fun t p hp=>?_,VR Fp hk1 gN gA,fun b hb=>?_,fun b hb=>?_,?_,R2.pb,fun x hx=>?_,fun x hx=>?_,?_,by rw [hz1];exact ⟨rO.keep (fun b hb=>World.putObj_heap_other (by have:=VP b hb;omega)) hR1.nJ,Ow⟩⟩
      · obtain ⟨Ds,h1,h2,h3⟩:=R2.oD
        refine ⟨Ds,h1,h2,fun b hb=>?_⟩
        obtain ⟨q1,q2,q3⟩:=h3 b hb
        have hb3:fU b:=by rw [hprot3];exact ⟨(Array.getElem?_eq_some_iff.1 q1).1,q2.2⟩
        exact ⟨by rw [hall b hb3 (fun e=>q3 (e ▸ Ov))];exact q1,⟨q2.1,Yw b hb3⟩,q3⟩
      · have hpp:p.pure=true:=List.all_eq_true.1 hpt p (List.mem_of_getElem? hp)
        have h1:=gI (R6.ext (p,a2.tmps.getD t undef) (Yy _ (nQ R2.CY hp))) (le_of_eq hs6.symm) GQ
        exact .aJ ((h1.Ay hpp).o8 fun b _ hb=>adO b hb)
      · rw [hprot2] at hb;rw [hz1];show b<(W1.putObj l0 _).heap.size;rw [World.putObj_size];exact hb.1
      · rw [hz1]
        show w6.heap[b]?=(W1.putObj l0 (.loop (rec .done (some lc)))).heap[b]?
        by_cases hbl:b=l0
        · subst hbl
          rw [hw6,World.putObj_heap_same hl5,World.putObj_heap_same hl1]
        · rw [hall b (h23 b hb) hbl,World.putObj_heap_other hbl,R2.fr b hb,hzh]
      · rw [hz1]
        show (W1.putObj l0 _).heap.size≤w6.heap.size
        rw [World.putObj_size]
        have:=R2.gr
        rw [hzh] at this
        omega
      · rw [hz1] at hx
        rcases List.mem_cons.1 hx with rfl | hx
        · exact abz (Fz hk1)
        · have h1:=gI (R6.ext x (Yx x hx)) (le_of_eq hs6.symm) GQ
          obtain ⟨t,ht,_⟩:=lX hx
          exact VQ (acK t x.1 (by rw [← hSt];exact ht)) adO h1
      · rw [hz1] at hx ⊢
        show x.1.lt S'.objs.length=true
        rcases List.mem_cons.1 hx with rfl | hx
        · simp [PV.lt,PV.vW,hGl]
        · obtain ⟨t,ht,_⟩:=lX hx
          exact UA (by rw [hGl];omega) (acK t x.1 (by rw [← hSt];exact ht))
      · rw [hz1];exact R6.sm.trans (by rw [hw6];exact ⟨rfl,rfl⟩)
     cases e with
     | normal=>
      have hL5:w5.heap[l0]?=some (.loop (rec .busy none)):=(R5.fr l0 hp3).trans hL4
      refine ⟨_,_,run_endRound none hL5,?_⟩
      have RB:({ rec .busy none with state:=if (none:Option Code).isNone then .ready else .done,pending:=none }:Loop)=rec .ready none:=by rw [hrec];rfl
      rw [RB]
      obtain ⟨w6,hw6⟩:∃ w6,w6=w5.putObj l0 (.loop (rec .ready none)):=⟨_,rfl⟩
      rw [← hw6]
      obtain ⟨GN,R6⟩:=Weak.norm (m:=S'.objs.length) [] fz (by rw [hGl];exact hfz) S5 base fU _ blk5 a5 w5 (Nat.le_refl _) R5
      have GQ:∀ (k:Nat) x,w5.heap[k]?=some x→jh x→w6.heap[k]?=some x:=by rw [hw6];exact jH hL5 (hnc _ _)
      have hs6:w6.heap.size=w5.heap.size:=by rw [hw6];exact World.putObj_size
      have ho6:∀ k:Nat,k≠l0→w6.heap[k]?=w5.heap[k]?:=fun k hk=>by rw [hw6];exact World.putObj_heap_other hk
      have hl5:l0<w5.heap.size:=(Array.getElem?_eq_some_iff.1 hL5).1
      have adM:w4.heap.size≤w5.heap.size:=R5.gr
      have hall:∀ b,fU b→w6.heap[b]?=w2.heap[b]?:=by
       intro b hb
       by_cases hbl:b=l0
       · subst hbl
         rw [hL2,hw6,World.putObj_heap_same hl5]
       · rw [ho6 b hbl,R5.fr b hb]
         show w4.heap[b]?=_
         rw [ho4 b hbl]
         exact R3.fr b hb
      have Yw:∀ b,fU b→aY (S5.norm [] fz).objs GN b:=fun b hb k o h1 h2 h3=>R6.objs.np k o b h1 h2 h3 hb
      refine ⟨true,(S5.norm [] fz).objs,GN,rfl,hK _ he5,z,by rw [hV2];exact .inl rfl,?_⟩
      have Yx:∀ x ∈ z.xs,x ∈ GL:=fun x hx=>by rw [hxs3];exact List.mem_append_left _ hx
      have Yy:∀ x ∈ pairs S2.tmps a2.tmps,x ∈ GL:=fun x hx=>by rw [hxs3];exact List.mem_append_right _ hx
      refine ⟨?_,R2.CY,fun t p hp=>?_,R6.objs.cells (le_of_eq hs6.symm) GQ (fun k o g h1 h2 h3 h4=>R6.objs.np k o g h1 h2 h3 (h23 g h4)),R2.pr,fun b hb=>?_,?_,R2.pb,fun x hx=>gI (R6.ext x (Yx x hx)) (le_of_eq hs6.symm) GQ,R2.J8,by rw [hzo];exact R6.sm.trans (by rw [hw6];exact ⟨rfl,rfl⟩),R2.gl⟩
      · obtain ⟨Ds,h1,h2,h3⟩:=R2.oD
        refine ⟨Ds,h1,h2,fun b hb=>?_⟩
        obtain ⟨q1,q2,q3⟩:=h3 b hb
        have hb3:fU b:=by rw [hprot3];exact ⟨(Array.getElem?_eq_some_iff.1 q1).1,q2.2⟩
        exact ⟨by rw [hall b hb3];exact q1,⟨q2.1,Yw b hb3⟩,q3⟩
      · exact gI (R6.ext (p,a2.tmps.getD t undef) (Yy _ (nQ R2.CY hp))) (le_of_eq hs6.symm) GQ
      · rw [hall b (h23 b hb)];exact R2.fr b hb
      · have:=R2.gr;rw [hzh] at this ⊢;omega
     | ret=>
      obtain ⟨rfl,hJ⟩:=he5
      cases hlv
      exact leave rfl hJ
     | exit id=>
      obtain ⟨rfl,hJ⟩:=he5
      cases hlv
      exact leave rfl hJ
     | _=>
      obtain ⟨rfl,hJ⟩:=he5
      cases hlv
    | _=>exact he.elim
   refine Calls.mono (hgive I (fun i O=>∃ O',J i O'∧O=iQ k O') base jN V2 l0 S'.objs vY W1 vc acF (fun z hz=>by
    rw [hV2] at hz
    rcases hz with rfl | rfl
    · rw [hz0];exact Nat.le_refl _
    · rw [hz1];exact Nat.le_refl _) ⟨_,by rw [hV2];exact .inl rfl,acE⟩ hI0 (fun i O h=>⟨by rw [hGl];exact (I5 i O h).1,(I5 i O h).2.1⟩) (fun i O h=>by
    obtain ⟨O',h,rfl⟩:=h
    obtain ⟨⟨q1,q2,_,_⟩,q5⟩:=Yz i O' h
    refine ⟨by rw [Kr,hGl];exact q1,fun o ho x hx c hc=>?_⟩
    obtain ⟨j,hj⟩:=List.mem_iff_getElem?.1 ho
    rw [Kr]
    have hno:o.xs=[]∨o ∈ O':=by
     by_cases e2:j=k+1
     · subst e2;rw [Lu (by omega)] at hj;cases hj;exact .inl rfl
     · by_cases e1:j=k
       · subst e1;rw [Fz (by omega)] at hj;cases hj;exact .inl rfl
       · rw [p9 e1 e2] at hj;exact .inr (List.mem_of_getElem? hj)
    rcases hno with h0 | h0
    · rw [h0] at hx;cases hx
    · exact q2 o h0 x hx c hc) hcapR) ?_
   rintro e w3 ⟨objs',au,rfl,hIJ,z,hz,R3⟩
   rw [hV2] at hz
   have fin:∀ (hp:Array Go.Obj) (st:LoopState) (pe:Option Code) (e':Exit),z.heap=hp→(∀ b,b≠l0→hp[b]?=W1.heap[b]?)→hp[l0]?=some (.loop (rec st pe))→st≠.busy→hp.size=W1.heap.size→z.out=w→(∀ x ∈ pairs S'.tmps a.tmps,x ∈ z.xs)→
       (∀ Q':Exit→Act→World→Prop,∀ aa ww,Q' e' aa ww→(match pe with | none=>Q' .normal aa ww | some c=>c.wpIn (EO none) 0 P Q' aa ww))→
       ((e'=.normal∧I ys.length objs')∨(e'=lv∧∃ i O,i<ys.length∧J i O∧objs'=iQ k O))→
       ∃ jump w4,(Instr.endLoop l0).run P w3=.ok jump w4∧(match jump with
        | none=>(fun e a' w'=>∃ objs' au,((e=.normal∧I ys.length objs')∨(e=lv∧∃ i O,i<ys.length∧J i O∧objs'=iQ k O))∧Rel base ak w0 ⟨S.tmps,objs'⟩ au a' w') .normal { a with defers:=[{ target:=.collected w.heap.size,args:=#[] }]++a.defers } w4
        | some c=>c.wpIn (EO none) 0 P (fun e a' w'=>∃ objs' au,((e=.normal∧I ys.length objs')∨(e=lv∧∃ i O,i<ys.length∧J i O∧objs'=iQ k O))∧Rel base ak w0 ⟨S.tmps,objs'⟩ au a' w') { a with defers:=[{ target:=.collected w.heap.size,args:=#[] }]++a.defers } w4):=by
    intro hp st pe e' hzh hoth adP hst hsize hzo hzx hcode hend
    have hL3:w3.heap[l0]?=some (.loop (rec st pe)):=(R3.fr l0 Ov).trans (by rw [hzh];exact adP)
    have hD3:w3.heap[w.heap.size]?=some (.deferred (some [])):=(R3.fr _ hpD).trans (by rw [hzh,hoth _ (by omega)];exact hK1)
    have hnc:¬ jh (.loop (rec st pe)):=by rintro (⟨c,t,y,h⟩ | ⟨es,n,h⟩ | ⟨_,_,_,_,h⟩) <;> cases h
    have adQ:=run_endLoop (P:=P) hL3 (by rw [hrec];exact hst)
    refine ⟨pe,w3.putObj l0 (.loop { rec st pe with state:=.exhausted }),by rw [adQ,hrec],?_⟩
    have hcl:=jH (o':=.loop { rec st pe with state:=.exhausted }) hL3 hnc
    have hsz:(w3.putObj l0 (.loop { rec st pe with state:=.exhausted })).heap.size=w3.heap.size:=World.putObj_size
    have hle:w.heap.size≤w3.heap.size:=by have:=R3.gr;rw [hzh,hsize] at this;omega
    have hother:∀ k:Nat,k≠l0→(w3.putObj l0 (.loop { rec st pe with state:=.exhausted })).heap[k]?=w3.heap[k]?:=fun k hk=>World.putObj_heap_other hk
    have hkeep:∀ b,b<w.heap.size→aY S'.objs vY b→aY objs' au b:=by
     intro b hb hnb k o h1 h2 h3
     refine R3.objs.np k o b h1 h2 h3 ?_
     rw [hprot2];exact ⟨by omega,hnb⟩
    have hsame:∀ b,b<w.heap.size→aY S'.objs vY b→(w3.putObj l0 (.loop { rec st pe with state:=.exhausted })).heap[b]?=w.heap[b]?:=by
     intro b hb hnb
     rw [hother b (by omega),R3.fr b (by rw [hprot2];exact ⟨by omega,hnb⟩),hzh,hoth b (by omega)]
     have hbx:w.heap[b]?=some (w.heap[b]):=Array.getElem?_eq_getElem hb
     rw [wP.2.1 b _ hbx,hbx]
    have hpn:∀ b,ak b→b<w.heap.size∧aY S'.objs vY b:=fun b hb=>⟨lt_of_lt_of_le (RG.pr b hb) RG.gr,fun k o h1 h2 h3=>RG.objs.np k o b h1 h2 h3 hb⟩
    have acJ:∀ k o g,objs'[k]?=some o→o.live=true→au k=some g→¬ ak g:=fun k o g h1 h2 h3 h4=>hkeep g (hpn g h4).1 (hpn g h4).2 k o h1 h2 h3
    refine hcode (fun e a' w'=>∃ objs' au,((e=.normal∧I ys.length objs')∨(e=lv∧∃ i O,i<ys.length∧J i O∧objs'=iQ k O))∧Rel base ak w0 ⟨S.tmps,objs'⟩ au a' w') _ _ ⟨objs',au,hend,?_,R.CY,fun t p hp=>?_,R3.objs.cells (le_of_eq hsz.symm) hcl acJ,R.pr,fun b hb=>?_,le_trans R.gr (by rw [hsz];exact hle),R.pb,(by rw [hx];intro x h;simp at h),R.J8,(R.sm.trans (by rw [← hzo];exact R3.sm)).trans ⟨rfl,rfl⟩,R.gl⟩
    · obtain ⟨Ds,h1,h2,h3⟩:=RG.oD
      refine ⟨w.heap.size::Ds,by simp [h1],List.nodup_cons.2 ⟨fun hm=>?_,h2⟩,fun b hb=>?_⟩
      · have:=(Array.getElem?_eq_some_iff.1 (h3 _ hm).1).1;omega
      · rcases List.mem_cons.1 hb with rfl | hb
        · refine ⟨by rw [hother _ (by omega)];exact hD3,⟨RG.bs _ RG.gr,fun k o h1 h2 h3=>R3.objs.np k o _ h1 h2 h3 hpD⟩,fun hp=>by have:=(hpn _ hp).1;omega⟩
        · obtain ⟨q1,q2,q3⟩:=h3 b hb
          have hbs:=(Array.getElem?_eq_some_iff.1 q1).1
          exact ⟨by rw [hsame b hbs q2.2];exact q1,⟨q2.1,hkeep b hbs q2.2⟩,q3⟩
    · exact gI (R3.ext (p,a.tmps.getD t undef) (hzx _ (nQ RG.CY (by rw [hSt];exact hp)))) (le_of_eq hsz.symm) hcl
    · rw [hsame b (hpn b hb).1 (hpn b hb).2];exact R.fr b hb
   rcases hz with rfl | rfl
   · have hI:I ys.length objs':=by
      refine hIJ.resolve_right fun ⟨i,_,O,hJ,e⟩=>?_
      refine ghost (R3.ext (.bG (k+1) 0,.bool false) (by rw [hz0];exact List.mem_cons_self)) ?_
      rw [e];exact Lu (by have:=(Yz i O hJ).1.1;omega)
     exact fin W1.heap .ready none .normal (by rw [hz0]) (fun _ _=>rfl) hL1 (by simp) rfl (by rw [hz0]) (fun x hx=>by rw [hz0];exact List.mem_cons_of_mem _ hx) (fun Q' aa ww h=>h) (.inl ⟨rfl,hI⟩)
   · have hJ:∃ i O,i<ys.length∧J i O∧objs'=iQ k O:=by
      rcases hIJ with h | ⟨i,hi,O,hJ,e⟩
      · exact (ghost (R3.ext (.bG k 0,.bool false) (by rw [hz1];exact List.mem_cons_self)) (I5 _ _ h).2.2.1).elim
      · exact ⟨i,O,hi,hJ,e⟩
     have hl1:l0<W1.heap.size:=(Array.getElem?_eq_some_iff.1 hL1).1
     refine fin (W1.putObj l0 (.loop (rec .done (some lc)))).heap .done (some lc) lv (by rw [hz1]) (fun b hb=>World.putObj_heap_other hb) (World.putObj_heap_same hl1) (by simp) World.putObj_size (by rw [hz1]) (fun x hx=>by rw [hz1];exact List.mem_cons_of_mem _ hx) (fun Q' aa ww h=>?_) (.inr ⟨rfl,hJ⟩)
     cases lv <;> simp only [GH,Option.some.injEq,reduceCtorEq] at hlv
     · subst hlv;exact wpIn_exit h
     · subst hlv;exact wpIn_ret h
end
structure FB (P:Program) (l:Option Nat) (E:Env) (T:Know):Prop where
 fn:vO P T.fn
 y:∀ base ak V,E base ak V→Ym P l base ak V T
 nx:∀ base ak V,E base ak V→∀ w0,V w0→w0.nx≤T.nx
 top:T.top=true→l=none∧∀ base ak V,E base ak V→∀ w0,V w0→w0.xs=[]
 gives:∀ g cap ys,T.gives g cap ys→Gives P g cap ys
theorem FB.inner {E:Env}(h:FB P l E T) (n l0:Nat):FB P (some l0) (E0 n) (T.inner n):=
 ⟨h.fn,fun _ _ _ _=>Ym.inner,fun _ _ _ hE w0 hw=>hE w0 hw,(fun h=>by cases h),h.gives⟩
theorem p_ (hD:∀ t,iN P t (D t)) (hm:P.follows .mixedOrders=true):∀ (C:LC) (T:Know) (l:Option Nat) (E:Env) (c:Code) (Q:Exit→St→Prop) (S:St),FB P l E T→strip C=comp c→kW P D T C Q S→PW P l E c Q S:=by
 intro C
 induction C with
 | skip=>
  intro T l E c Q S hk he h
  cases c <;> simp only [comp,strip] at he <;> first | (cases he;done) | skip
  · exact .skip h
  · rename_i d;cases d <;> simp only [comp] at he <;> first | (cases he;done) | (cases hs:fT _ _ <;> rw [hs] at he <;> cases he)
 | ret=>
  intro T l E c Q S hk he h
  cases c <;> simp only [comp,strip] at he <;> first | (cases he;done) | skip
  · rename_i d;cases d <;> simp only [comp] at he <;> first | (cases he;done) | (cases hs:fT _ _ <;> rw [hs] at he <;> cases he)
  · exact .ret h
 | bad=>intro T l E c Q S hk he h;exact h.elim
 | exit id=>
  intro T l E c Q S hk he h
  cases c <;> simp only [comp,strip] at he <;> first | (cases he;done) | skip
  · rename_i d;cases d <;> simp only [comp] at he <;> first | (cases he;done) | (cases hs:fT _ _ <;> rw [hs] at he <;> cases he)
  · cases he;exact .exit h
 | weak x ihx=>
  intro T l E c Q S hk he h
  obtain ⟨S',hw,h⟩:=h
  exact .weak hk.nx hw (ihx _ _ _ _ _ _ hk he h)
 | reg ss=>
  intro T l E c Q S hk he h
  cases c <;> simp only [comp,strip] at he <;> first | (cases he;done) | skip
  rename_i id ops d
  cases d <;> simp only [comp] at he
  · simp only [LC.reg.injEq] at he
    have ht:ops=ops.toList.toArray:=by simp
    intro base ak V hE blk a w R
    refine wpIn_region ?_
    have:=GJ (Qm:=fun e a' w'=>∃ S' au,Q e S'∧qP base ak V S' au a' w') hD hk.fn (hk.y base ak V hE) ops.toList ss 0 S [] _ blk a w he (fun j=>by simp) h R (fun S' ts' au a' w' hK R'=>⟨S',au,hK,R'⟩)
    rw [List.range_eq_range']
    simpa using this
  · cases hs:fT _ _ <;> rw [hs] at he <;> cases he
 | draw ss un=>
  intro T l E c Q S hk he h
  cases c <;> simp only [comp,strip] at he <;> first | (cases he;done) | skip
  rename_i id ops d
  cases d <;> simp only [comp] at he
  · cases he
  · cases hs:fT ops.toList (masks ops.toList []) <;> rw [hs] at he
    · cases he
    · simp only [cond_true,LC.draw.injEq] at he
      obtain ⟨he,rfl⟩:=he
      have:ops=ops.toList.toArray:=by simp
      rw [this]
      refine PW.adJ (fun i=>((ss[i]?).map (·.own)).getD false) hD hm (zN (fun S' ts hh=>?_) _ _ _ _ (wN hk.fn ops.toList ss 0 S [] _ he (fun j s hs=>by simp [hs]) h))
      exact ⟨VO hs hh.1,hh.2⟩
 | seq x y ihx ihy=>
  intro T l E c Q S hk he h
  cases c <;> simp only [comp,strip] at he <;> first | (cases he;done) | skip
  · rename_i d;cases d <;> simp only [comp] at he <;> first | (cases he;done) | (cases hs:fT _ _ <;> rw [hs] at he <;> cases he)
  · simp only [LC.seq.injEq] at he
    exact .seq ((ihx _ _ _ _ _ _ hk he.1 h).mono (uQ fun S' h'=>ihy _ _ _ _ _ _ hk he.2 h'))
 | cond o x y ihx ihy=>
  intro T l E c Q S hk he h
  cases c <;> simp only [comp,strip] at he <;> first | (cases he;done) | skip
  · rename_i d;cases d <;> simp only [comp] at he <;> first | (cases he;done) | (cases hs:fT _ _ <;> rw [hs] at he <;> cases he)
  · simp only [LC.cond.injEq] at he
    obtain ⟨rfl,h1,h2⟩:=he
    refine .cond ?_
    unfold kW zh at h
    unfold zh
    split at h
    · exact ⟨fun hb=>ihx _ _ _ _ _ _ hk h1 (h.1 hb),fun hb=>ihy _ _ _ _ _ _ hk h2 (h.2 hb)⟩
    · exact h.elim
 | block id x ihx=>
  intro T l E c Q S hk he h
  cases c <;> simp only [comp,strip] at he <;> first | (cases he;done) | skip
  · rename_i d;cases d <;> simp only [comp] at he <;> first | (cases he;done) | (cases hs:fT _ _ <;> rw [hs] at he <;> cases he)
  · simp only [LC.block.injEq] at he
    obtain ⟨rfl,h1⟩:=he
    exact .block (ihx _ _ _ _ _ _ hk h1 h)
 | loop ks fz x ihx=>
  intro T l E c Q S hk he h
  cases c <;> simp only [comp,strip] at he <;> first | (cases he;done) | skip
  · rename_i d;cases d <;> simp only [comp] at he <;> first | (cases he;done) | (cases hs:fT _ _ <;> rw [hs] at he <;> cases he)
  · simp only [LC.loop.injEq,true_and] at he
    obtain ⟨hfz,I,⟨S0,m,hw,hI⟩,hr⟩:=h
    refine .weak hk.nx hw ?_
    exact PW.adK hk.nx I hI fun m S hS=>(ihx _ _ _ _ _ _ hk he (hr m S hS)).mono (uQ fun S' ⟨m',h1,h2⟩=>⟨S'.norm ks fz,m',Weak.norm ks fz hfz S',h2,h1⟩)
 | rf f ps fz x y ihx ihy=>
  intro T l E c Q S hk he h
  cases c <;> simp only [comp,strip] at he <;> first | (cases he;done) | skip
  · rename_i d;cases d <;> simp only [comp] at he <;> first | (cases he;done) | (cases hs:fT _ _ <;> rw [hs] at he <;> cases he)
  · rename_i f' ps' x' y'
    simp only [LC.rf.injEq,true_and] at he
    obtain ⟨rfl,rfl,h1,h2⟩:=he
    obtain ⟨htop,g,cap,ys,hf,hcap,hg,hys,h⟩:=h
    obtain ⟨rfl,hxs⟩:=hk.top htop
    intro base ak V hE blk a w ⟨w0,hV,R⟩
    have hps:ps'.toList.toArray=ps':=by simp
    rcases h with ⟨I,hfz,hI0,I5,rT,hend⟩ | ⟨I,J,lv,lc,hlv,hfz,hI0,I5,Yz,rT,hend,hleave⟩
    · have:=Yp (x:=x') (y:=y') (hk.gives g cap ys hg) hys hI0 I5 R (hxs base ak V hE w0 hV) hf hcap hfz fun i args objs hi hy l0=>
       (ihx _ _ _ _ _ _ (hk.inner S.objs.length l0) h1 (rT i args objs hi hy)).mono (uQ fun S1 h'=>ihy _ _ _ _ _ _ (hk.inner S.objs.length l0) h2 h')
      rw [hps] at this
      refine wpIn_mono this ?_
      rintro e a' w' ⟨objs',au,rfl,hI,R'⟩
      exact ⟨_,au,hend objs' hI,w0,hV,R'⟩
    · have:=VS (x:=x') (y:=y') (hk.gives g cap ys hg) hys hlv hI0 I5 Yz R (hxs base ak V hE w0 hV) hf hcap hfz fun i args objs hi hy l0=>
       (ihx _ _ _ _ _ _ (hk.inner (S.objs.length+2) l0) h1 (rT i args objs hi hy)).mono (uQ fun S1 h'=>ihy _ _ _ _ _ _ (hk.inner (S.objs.length+2) l0) h2 h')
      rw [hps] at this
      refine wpIn_mono this ?_
      rintro e a' w' ⟨objs',au,h,R'⟩
      rcases h with ⟨rfl,hI⟩ | ⟨rfl,i,O,hi,hJ,rfl⟩
      · exact ⟨_,au,hend objs' hI,w0,hV,R'⟩
      · exact ⟨_,au,hleave i O hi hJ,w0,hV,R'⟩
end Lp
namespace Lp
open Go
variable {P:Program}{D:TypeId→aD}{T:Know}
def jI (D:TypeId→aD) (S:St):List ResultVar→(List PV→Prop)→Prop
 | [],K=>K []
 | .tmp t::rs,K=>jI D S rs fun ps=>K (S.tmps.getD t .dead::ps)
 | .cell a t::rs,K=>fq (D t) (S.tmps.getD a .dead) S.objs fun p _ _=>jI D S rs fun ps=>K (p::ps)
def fw:List PV→PV
 | [p]=>p
 | ps=>.b_ ps
def VT (D:TypeId→aD) (d:Nat) (rs:List ResultVar) (r:PV) (e:Exit) (S:St):Prop:=
 (e=.normal∨e=.ret)∧jI D S rs fun ps=>r=fw (ps.map (gQ d 0 S.objs))
def RD (d:Nat) (t:Nat) (o':Obj) (e:Exit) (S:St):Prop:=
 (e=.normal∨e=.ret)∧∃ S' k ver o,Weak 0 S S'∧S'.tmps.getD t .dead=.bG k ver∧S'.objs[k]?=some o∧o.live=true∧o.ver=ver∧{ fE d (k+1) S'.objs o with ver:=0 }=o'∧eX [o']
section
variable {base ak:Nat→Prop}{w0:Wz}{S:St}{blk:Nat→Option Nat}{a:Act}{w:World}
theorem wQ {ok:Nat→Prop}{p:PV}{v:Value}(h:aX w ok [] blk p v):dz w ok p v:=by
 have hS:∀ (p:PV) (v:Value),bD w ok [] blk p v→dz w ok p v:=by
  intro p v h
  cases p <;> first | exact h | (obtain ⟨_,o,ho,_⟩:=h;simp at ho)
 cases p
 case fn f x c=>obtain ⟨va,vc,rfl,h1,h2⟩:=h;exact .fn _ _ _ va vc h1.1 h2.1 (fun i p v a b=>hS _ _ (h1.2 i p v a b)) (fun i p v a b=>hS _ _ (h2.2 i p v a b))
 case b_ cs=>obtain ⟨vs,rfl,h1⟩:=h;exact .b_ _ vs h1.1 (fun i p v a b=>hS _ _ (h1.2 i p v a b))
 case agg cs=>obtain ⟨vs,rfl,h1⟩:=h;exact .agg _ vs h1.1 (fun i p v a b=>hS _ _ (h1.2 i p v a b))
 all_goals exact hS _ _ h
theorem aaF (S:St) (d:Nat):(S.freeze d 0).objs=[]:=by simp [St.freeze]
theorem ae5 (R:Rel base ak w0 S blk a w) (d:Nat) (p:PV) (v:Value) (h:aX w (bR base S.objs blk) S.objs blk p v):dz w base (gQ d 0 S.objs p) v:=by
 have:=GA R d 0 p v h
 rw [aaF] at this
 exact (wQ this).o8 fun b _ h=>h.1
theorem VU (hD:∀ t,iN P t (D t)) (R:Rel base ak w0 S blk a w){t x:Nat}{K:KT}(h:fq (D t) (S.tmps.getD x .dead) S.objs K) :
  ∃ p ad v τ,a.tmps.getD x undef=.pointer (some ad)∧(loadVar t ad).run P w=.ok v w∧K p S.objs τ∧aX w (bR base S.objs blk) S.objs blk p v:=by
 have hx:=R.ev (.tmp x)
 change aX w (bR base S.objs blk) S.objs blk (S.tmps.getD x .dead) (a.tmps.getD x undef) at hx
 unfold fq at h
 split at h
 · rename_i p e
   rw [e] at hx
   obtain ⟨hk,h1,h2,h3⟩:=h
   have hx':=hx.addr
   generalize hv:a.tmps.getD x undef=v at hx'
   cases hx' with
   | addr _ b off vs hok hcell hrep=>
    obtain ⟨u,g1,g2⟩:=mE (hD t) hk (At.Ay vs hcell hrep) h1 h2
    exact ⟨_,_,_,_,rfl,g1,h3,AL g2⟩
 · rename_i k ver i f e
   rw [e] at hx
   obtain ⟨ob,el,h1,h2,h3,h4,hk,h5,h6,h7,h8⟩:=h
   obtain ⟨g,hb,hv,hty⟩:=hx.bI h1 h2 h3
   obtain ⟨y1,y2⟩:=Rh R.objs h1 h2 h4 hb hty
   have hat:At (bD w (bR base S.objs blk) S.objs blk) w g (i*ob.sz) (.agg el.cells):=y2
   have hs:=At.sub hat f (D t).size (D t).agg h5 h6 (pX h7)
   obtain ⟨c1,c2⟩:=Ka el.cells f _ _ h5 h6 h7
   obtain ⟨u,g1,g2⟩:=mE (hD t) hk hs c1 c2
   exact ⟨_,_,_,_,hv,g1,h8,y8 g2⟩
 · exact h.elim
def aaG (tmps:Array Value):ResultVar→Sem Value
 | .tmp t=>pure (tmps.getD t undef)
 | .cell a t=>do loadVar t (← asAddr (tmps.getD a undef))
def Lv (tmps:Array Value):List ResultVar→Sem (List Value)
 | []=>pure []
 | r::rs=>do
  let v ← aaG tmps r
  let vs ← Lv tmps rs
  pure (v::vs)
theorem A9 (hD:∀ t,iN P t (D t)) (R:Rel base ak w0 S blk a w):∀ (rs:List ResultVar) (K:List PV→Prop),jI D S rs K→
  ∃ vs ps,(Lv a.tmps rs).run P w=.ok vs w∧K ps∧cZ (aX w (bR base S.objs blk) S.objs blk) ps vs
 | [],K,h=>⟨[],[],rfl,h,rfl,fun _ _ _ h=>by simp at h⟩
 | .tmp t::rs,K,h=>by
  obtain ⟨vs,ps,h1,h2,h3,h4⟩:=A9 hD R rs _ h
  refine ⟨a.tmps.getD t undef::vs,S.tmps.getD t .dead::ps,by simp [Lv,aaG,h1],h2,by simpa using h3,fun i p v hp hv=>?_⟩
  cases i with
  | zero=>
   simp only [List.getElem?_cons_zero,Option.some.injEq] at hp hv
   subst hp;subst hv;exact R.ev (.tmp t)
  | succ i=>exact h4 i p v (by simpa using hp) (by simpa using hv)
 | .cell x t::rs,K,h=>by
  obtain ⟨p0,ad,v0,_,e1,e2,h,e3⟩:=VU hD R h
  obtain ⟨vs,ps,h1,h2,h3,h4⟩:=A9 hD R rs _ h
  refine ⟨v0::vs,p0::ps,by simp [Lv,aaG,e1,e2,h1,asAddr],h2,by simpa using h3,fun i p v hp hv=>?_⟩
  cases i with
  | zero=>
   simp only [List.getElem?_cons_zero,Option.some.injEq] at hp hv
   subst hp;subst hv;exact e3
  | succ i=>exact h4 i p v (by simpa using hp) (by simpa using hv)
def I6:List Value→Value
 | [v]=>v
 | vs=>.tuple ⟨vs⟩
end
theorem run_bind_ok {α β:Type}{x:Sem α}{f:α→Sem β}{P:Program}{w w':World}{b:β}(h:(x >>=f).run P w=.ok b w'):∃ c w1,x.run P w=.ok c w1∧(f c).run P w1=.ok b w':=by
 rw [Sem.run_bind] at h
 cases hx:x.run P w with
 | ok c w1=>rw [hx] at h;exact ⟨c,w1,rfl,h⟩
 | halt o w1=>rw [hx] at h;cases h
theorem Ej {fn:Func}{rs:List ResultVar}(h:fn.results=rs.toArray) (hl:rs.length≤3){tmps:Array Value}{vs:List Value}{P:Program}{w:World}
  (hr:(Lv tmps rs).run P w=.ok vs w):(results fn tmps).run P w=.ok (I6 vs) w:=by
 have hf:results fn tmps=(fn.results.mapM (aaG tmps) >>=fun vs=>pure (if h:vs.size=1 then vs[0] else .tuple vs)):=by
  unfold results
  refine congrArg (fun f:ResultVar→Sem Value=>(Array.mapM f fn.results >>=fun vs=>pure (if h:vs.size=1 then vs[0] else Value.tuple vs):Sem Value)) ?_
  funext r
  cases r <;> rfl
 match rs,hl,h,hr with
 | [],_,h,hr=>
  simp only [Lv,Sem.run_pure] at hr
  cases hr
  simp [results,h,I6]
 | [r1],_,h,hr=>
  simp only [Lv] at hr
  obtain ⟨v1,w1,h1,hr⟩:=run_bind_ok hr
  obtain ⟨v2,w2,h2,hr⟩:=run_bind_ok hr
  simp only [Sem.run_pure] at hr h2
  cases h2;cases hr
  rw [hf,h]
  simp [h1,I6]
 | [r1,r2],_,h,hr=>
  simp only [Lv] at hr
  obtain ⟨v1,w1,h1,hr⟩:=run_bind_ok hr
  obtain ⟨v2,w2,h2,hr⟩:=run_bind_ok hr
  obtain ⟨v3,w3,h3,h2⟩:=run_bind_ok h2
  obtain ⟨v4,w4,h4,h2⟩:=run_bind_ok h2
  simp only [Sem.run_pure] at hr h2 h4
  cases h4;cases h2;cases hr
  rw [hf,h]
  simp [h1,h3,I6]
 | [r1,r2,r3],_,h,hr=>
  simp only [Lv] at hr
  obtain ⟨v1,w1,h1,hr⟩:=run_bind_ok hr
  obtain ⟨v2,w2,h2,hr⟩:=run_bind_ok hr
  obtain ⟨v3,w3,h3,h2⟩:=run_bind_ok h2
  obtain ⟨v4,w4,h4,h2⟩:=run_bind_ok h2
  obtain ⟨v5,w5,h5,h4⟩:=run_bind_ok h4
  obtain ⟨v6,w6,h6,h4⟩:=run_bind_ok h4
  simp only [Sem.run_pure] at hr h2 h4 h6
  cases h6;cases h4;cases h2;cases hr
  rw [hf,h]
  simp [h1,h3,h5,I6]
 | _::_::_::_::_,hl,_,_=>simp at hl
theorem wR {base ak:Nat→Prop}{blk:Nat→Option Nat}{w:World}:dG base ak [] blk w:=
 ⟨fun _ _ h=>by simp at h,fun _ _ _ _ _ _ h=>by simp at h,fun _ _ _ h=>by simp at h⟩
theorem Oy (w:World) (b:Nat) (o:Go.Obj) (k:Nat):(w.putObj b o).heap[k]?=if b=k∧b<w.heap.size then some o else w.heap[k]?:=by
 simp only [World.putObj,Array.getElem?_setIfInBounds]
 by_cases h:b=k
 · subst h
   by_cases h':b<w.heap.size
   · simp [h']
   · simp [h']
 · simp [h]
theorem Rel.takeD {base ak:Nat→Prop}{w0:Wz}{S:St}{blk:Nat→Option Nat}{a:Act}{w:World}(R:Rel base ak w0 S blk a w){b:Nat}{ds:List Deferred}(hd:a.defers={ target:=.collected b,args:=#[] }::ds) :
  w.heap[b]?=some (.deferred (some []))∧Rel base ak w0 S blk { a with defers:=ds } (w.putObj b (.deferred none)):=by
 obtain ⟨Ds,h1,h2,h3⟩:=R.oD
 rw [hd] at h1
 cases Ds with
 | nil=>simp at h1
 | cons b' Ds=>
  simp only [List.map_cons,List.cons.injEq,Deferred.mk.injEq,Target.collected.injEq,and_true] at h1
  obtain ⟨rfl,rfl⟩:=h1
  obtain ⟨hb,afN,hbp⟩:=h3 b List.mem_cons_self
  have hsz:(w.putObj b (.deferred none)).heap.size=w.heap.size:=by simp [World.putObj]
  have hne:∀ k:Nat,k≠b→(w.putObj b (.deferred none)).heap[k]?=w.heap[k]?:=fun k hk=>by rw [Oy,if_neg (fun e=>hk e.1.symm)]
  have hc:∀ (k:Nat) (x:Go.Obj),w.heap[k]?=some x→jh x→(w.putObj b (.deferred none)).heap[k]?=some x:=by
   rintro k x hk (⟨c,t,y,rfl⟩ | ⟨es,n,rfl⟩ | ⟨_,_,_,_,rfl⟩)
   · rw [hne k (fun e=>by subst e;rw [hb] at hk;cases hk),hk]
   · rw [hne k (fun e=>by subst e;rw [hb] at hk;cases hk),hk]
   · rw [hne k (fun e=>by subst e;rw [hb] at hk;cases hk),hk]
  have ho:nK w (w.putObj b (.deferred none)) S.objs S.objs blk blk:=fun k o ho=>⟨o,ho,Nat.le_refl _,fun hl _=>⟨hl,rfl,rfl,rfl,fun _=>rfl,fun g c _ hg=>⟨c,hc g _ hg (.inl ⟨c,_,_,rfl⟩),rfl⟩⟩⟩
  refine ⟨hb,⟨⟨Ds,rfl,(List.nodup_cons.1 h2).2,fun k hk=>?_⟩,R.CY,fun t p hp=>(R.tm t p hp).sJ (Nat.le_of_eq hsz.symm) (fun _ _ h=>h) (fun k x _ hx hcx=>hc k x hx (.inl hcx)) ho,⟨fun k o h1 h4=>?_,R.objs.IK,R.objs.np⟩,R.pr,fun k hk=>?_,by rw [hsz];exact R.gr,R.pb,fun x hx=>(R.ext x hx).sJ (Nat.le_of_eq hsz.symm) (fun _ _ h=>h) (fun k x _ hx hcx=>hc k x hx (.inl hcx)) ho,R.J8,R.sm.trans ⟨rfl,rfl⟩,R.gl⟩⟩
  · have hkb:k≠b:=fun e=>(List.nodup_cons.1 h2).1 (e ▸ hk)
    rw [hne k hkb]
    exact h3 k (List.mem_cons_of_mem _ hk)
  · have hh:=R.objs.ob k o h1 h4
    unfold cK at hh ⊢
    cases hg:blk k with
    | none=>rw [hg] at hh;exact hh
    | some g=>
     rw [hg] at hh
     obtain ⟨c,x1,x2,x3⟩:=hh
     refine ⟨c,hc g _ x1 (A8 _ _ _),x2,fun i x hx=>⟨(x3 i x hx).1,fun j p hp=>?_⟩⟩
     obtain ⟨v,y1,y2⟩:=(x3 i x hx).2 j p hp
     exact ⟨v,y1,y2.sJ (Nat.le_of_eq hsz.symm) (fun _ _ h=>h) (fun k x _ hx hcx=>hc k x hx (.inl hcx)) ho⟩
  · rw [hne k (fun e=>hbp (e ▸ hk))];exact R.fr k hk
theorem nR {base ak:Nat→Prop}{w0:Wz}{S:St}{blk:Nat→Option Nat}{P:Program}{fn:Func}{Q:Ending→World→Prop}{tm:Array Value}:∀ (ds:List Deferred) (w:World),Rel base ak w0 S blk { tmps:=tm,defers:=ds } w→
  (∀ w',Rel base ak w0 S blk { tmps:=tm,defers:=[] } w'→∃ v,(results fn tm).run P w'=.ok v w'∧Q (.returned v) w')→LeavesInM (EO none) 0 P fn tm Q ds .returning w
 | [],w,R,h=>h w R
 | d::ds,w,R,h=>by
  obtain ⟨Ds,h1,_,_⟩:=R.oD
  cases Ds with
  | nil=>simp at h1
  | cons b Ds=>
   simp only [List.map_cons,List.cons.injEq] at h1
   obtain ⟨rfl,rfl⟩:=h1
   obtain ⟨hb,R'⟩:=R.takeD (b:=b) rfl
   exact ⟨by simp,.inl ⟨b,_,rfl,run_takeDeferred hb,nR _ _ R' h⟩⟩
def rV:Env:=fun _ _ V=>∀ w0,V w0→w0.xs=[]∧w0.nx=0
theorem FB.ae6 (h:vO P T.fn) (hy:T.Y=fun _ _ _=>False) (hg:∀ g cap ys,T.gives g cap ys→Gives P g cap ys):FB P none rV T:=
 ⟨h,fun _ _ _ _ _ _ _ _ _ _ _ _ _ _ h=>by rw [hy] at h;exact h.elim,fun _ _ _ hE w0 hw=>by rw [(hE w0 hw).2];exact Nat.zero_le _,fun _=>⟨rfl,fun _ _ _ hE w0 hw=>(hE w0 hw).1⟩,hg⟩
def bV (args:List PV) (n:Nat):St:=⟨args++List.replicate (n-args.length) .dead,[]⟩
theorem xW {base:Nat→Prop}{w:World}{blk:Nat→Option Nat}{args:List PV}{vs:List Value}(hb:rO.holds w.heap∧∀ b,w.heap.size≤b→base b) (h:cZ (aX w (bR base [] blk) [] blk) args vs) (n:Nat) :
  Rel base (fun b=>b<w.heap.size∧aY [] blk b) ⟨w.heap,[],0,w⟩ (bV args n) blk { tmps:=(⟨vs⟩:Array Value)++Array.replicate (n-(⟨vs⟩:Array Value).size) undef,defers:=[] } w:=by
 have hl:=h.1
 refine ⟨.nil _ _,?_,fun t p hp=>?_,wR,fun b hb=>hb.1,fun _ _=>rfl,Nat.le_refl _,fun b hn=>hb.2 b ?_,fun x hx=>by simp at hx,fun x hx=>by simp at hx,.refl w,⟨hb.1,fun b hg=>⟨rO.lt hb.1 b hg,dQ _ _⟩⟩⟩
 · simp [bV,hl]
 · simp only [bV] at hp
   rw [List.getElem?_append] at hp
   split at hp
   · rename_i ht
     obtain ⟨v,hv⟩:∃ v,vs[t]?=some v:=⟨vs[t]'(by omega),List.getElem?_eq_getElem (by omega)⟩
     have hg:((⟨vs⟩:Array Value)++Array.replicate (n-(⟨vs⟩:Array Value).size) undef).getD t undef=v:=by
      rw [Array.getD_eq_getD_getElem?,Array.getElem?_append,if_pos (by simpa using (by omega:t<vs.length))]
      simp [hv]
     rw [hg]
     exact h.2 t p v hp hv
   · rw [List.getElem?_replicate] at hp
     split at hp
     · cases hp;exact .dead _
     · cases hp
 · rcases Nat.lt_or_ge b w.heap.size with h1 | h1
   · exact absurd ⟨h1,dQ blk b⟩ hn
   · exact h1
theorem aaH {w:World}{ok:Nat→Prop}{f:PV→PV}{ps:List PV}{vs:List Value}{R:PV→Value→Prop}(h:cZ R ps vs) (hf:∀ p v,R p v→dz w ok (f p) v):dz w ok (fw (ps.map f)) (I6 vs):=by
 obtain ⟨hl,h⟩:=h
 match ps,vs,hl,h with
 | [p],[v],_,h=>exact hf p v (h 0 p v rfl rfl)
 | [],[],_,_=>exact .b_ [] [] rfl (fun _ _ _ h=>by simp at h)
 | p::p'::ps,v::v'::vs,hl,h=>
  refine .b_ _ _ (by simpa using hl) fun i q u hq hu=>?_
  rw [← List.map_cons,List.getElem?_map] at hq
  cases hc:(p::p'::ps)[i]? with
  | none=>rw [hc] at hq;simp at hq
  | some q0=>
   rw [hc] at hq
   simp only [Option.map_some,Option.some.injEq] at hq
   subst hq
   exact hf q0 u (h i q0 u hc hu)
theorem ai.FC {f:FuncId}{fn:Func}{c:Code}{C:LC}{args:List PV}{r:PV}(d:Nat){rs:List ResultVar}{n:Nat}(hD:∀ t,iN P t (D t)) (hT:FB P none rV T) (hm:P.follows .mixedOrders=true)
  (hf:P.funcs[f]?=some fn) (hname:(fn.name== "runtime.NumGoroutine")=false) (hb:fn.body=some c) (hn:fn.ntmps=n) (hr:fn.results=rs.toArray) (hl:rs.length≤3) (hC:strip C=comp c)
  (h:kW P D T C (VT D d rs r) (bV args n)):ai P f args [] r []:=by
 refine ⟨⟨fn,hf,hname,by rw [hb];rfl⟩,fun w blk vs base hbase _ hargs=>?_⟩
 have hpw:PW P none rV c (VT D d rs r) (bV args n):=p_ hD hm C _ _ _ c _ _ hT hC h
 have R:=xW hbase hargs n
 have hw:=hpw _ _ (fun x=>(⟨w.heap,[],0,w⟩:Wz)=x) (by rintro z rfl;exact ⟨rfl,rfl⟩) _ _ _ ⟨_,rfl,R⟩
 rw [← callsIn_wide (n:=0)]
 refine callsIn_of_wp_marks hf hb trivial ?_
 rw [hn]
 refine wpIn_mono hw ?_
 rintro e a' w' ⟨S',au,⟨he,ho⟩,_,rfl,R'⟩
 have key:∀ w',Rel base (fun b=>b<w.heap.size∧aY [] blk b) ⟨w.heap,[],0,w⟩ S' au { a' with defers:=[] } w'→∃ v,(results fn a'.tmps).run P w'=.ok v w'∧(∃ v' au,Ending.returned v=.returned v'∧dG base (fun b=>b<w.heap.size∧aY [] blk b) [] au w'∧
     aX w' (bR base [] au) [] au r v'∧(∀ b,b<w.heap.size→aY [] blk b→w'.heap[b]?=w.heap[b]?)∧w.heap.size≤w'.heap.size∧Sm w w'):=by
  intro w' R'
  obtain ⟨vs',ps,h1,h2,h3⟩:=A9 hD R' rs _ ho
  refine ⟨I6 vs',Ej hr hl h1,I6 vs',au,rfl,wR,?_,fun b hb1 hb2=>R'.fr b ⟨hb1,hb2⟩,R'.gr,R'.sm⟩
  rw [h2]
  exact .aJ ((aaH h3 (fun p v h=>ae5 R' d p v h)).o8 fun b _ h=>⟨h,dQ _ _⟩)
 rcases he with rfl | rfl <;> exact nR _ _ R' key
def lY (d k:Nat) (S:St) (o:Obj):Obj:={ fE d (k+1) S.objs o with ver:=0 }
theorem Di {base ak:Nat→Prop}{w0:Wz}{S':St}{au:Nat→Option Nat}{a:Act}{w':World}{d k:Nat}{o:Obj}(R':Rel base ak w0 S' au a w') (ho:S'.objs[k]?=some o) (hlv:o.live=true) (hnr:eX [lY d k S' o]) :
  dG base ak [lY d k S' o] (fun j=>if j=0 then au k else none) w'∧
  ∀ v,bD w' (bR base S'.objs au) S'.objs au (.bG k o.ver) v→bD w' (bR base [lY d k S' o] (fun j=>if j=0 then au k else none)) [lY d k S' o] (fun j=>if j=0 then au k else none) (.bG 0 0) v:=by
 unfold lY at hnr ⊢
 refine ⟨⟨?_,?_,?_⟩,fun v hx=>?_⟩
 · intro j o1 hj hl1
   cases j with
   | succ j=>simp at hj
   | zero=>
    simp only [List.getElem?_cons_zero,Option.some.injEq] at hj
    subst hj
    have hb:=R'.objs.ob k o ho hlv
    unfold cK at hb ⊢
    simp only [if_true]
    cases hg:au k with
    | none=>rw [hg] at hb;simp [fE,hb]
    | some g=>
     rw [hg] at hb
     obtain ⟨c',hc,h7,h8⟩:=hb
     refine ⟨c',hc,by simpa [fE,fits] using h7,fun i x hx=>?_⟩
     simp only [fE,List.getElem?_map] at hx
     cases hx0:o.xs[i]? with
     | none=>rw [hx0] at hx;simp at hx
     | some x0=>
      rw [hx0] at hx
      simp only [Option.map_some,Option.some.injEq] at hx
      subst hx
      have e:=mK (Uz d (k+1) S'.objs) x0
      refine ⟨by rw [e,List.length_map];exact (h8 i x0 hx0).1,fun j p hp=>?_⟩
      rw [e,List.getElem?_map] at hp
      cases hp0:x0.cells[j]? with
      | none=>rw [hp0] at hp;simp at hp
      | some p0=>
       rw [hp0] at hp
       simp only [Option.map_some,Option.some.injEq] at hp
       subst hp
       obtain ⟨u,hu,hrr⟩:=(h8 i x0 hx0).2 j p0 hp0
       refine ⟨u,hu,?_⟩
       have h9:=qp R' d (k+1) p0 u hrr
       have h10:(eY d (k+1) S'.objs p0).ref=false:=by
        refine hnr _ List.mem_cons_self (x0.bJ (eY d (k+1) S'.objs)) ?_ _ ?_
        · simp only [fE,List.mem_map];exact ⟨x0,List.mem_of_getElem? hx0,rfl⟩
        · rw [e];exact List.mem_map.2 ⟨p0,List.mem_of_getElem? hp0,rfl⟩
       refine .aJ ((h9.Ay h10).o8 fun b _ hb=>⟨hb.1,fun k' o' hk' _=>?_⟩)
       cases k' with
       | succ k'=>simp at hk'
       | zero=>
        simp only [if_true]
        rw [← hg]
        refine hb.2 k (fE d (k+1) S'.objs o) ?_ hlv
        simp [St.freeze,ho]
 · intro j j' o1 o2 g hne h1 h2 h3 h4
   cases j <;> cases j' <;> simp at h1 h3
   exact absurd rfl hne
 · intro j o1 g h1 h2 h3
   cases j with
   | succ j=>simp at h1
   | zero=>simp only [if_true] at h3;exact R'.objs.np k o g ho hlv h3
 · obtain ⟨h0,o1,h1,h2,h3⟩:=hx
   rw [ho] at h1
   cases h1
   obtain ⟨hM,hh⟩:=h3 hlv rfl
   refine ⟨h0,_,rfl,Nat.le_refl _,fun _ _=>⟨hM,?_⟩⟩
   unfold yJ at hh ⊢
   simp only [if_true]
   cases hg:au k with
   | none=>rw [hg] at hh;exact ⟨hh.1,by simp [fE,hh.2]⟩
   | some g=>rw [hg] at hh;simpa [fE] using hh
theorem ai.VW {f:FuncId}{fn:Func}{c:Code}{C:LC}{args:List PV}{o':Obj}(d:Nat){t n:Nat}(hD:∀ t,iN P t (D t)) (hT:FB P none rV T) (hm:P.follows .mixedOrders=true)
  (hf:P.funcs[f]?=some fn) (hname:(fn.name== "runtime.NumGoroutine")=false) (hb:fn.body=some c) (hn:fn.ntmps=n) (hr:fn.results=#[.tmp t]) (hC:strip C=comp c)
  (h:kW P D T C (RD d t o') (bV args n)):ai P f args [] (.bG 0 0) [o']:=by
 refine ⟨⟨fn,hf,hname,by rw [hb];rfl⟩,fun w blk vs base hbase _ hargs=>?_⟩
 have hpw:PW P none rV c (RD d t o') (bV args n):=p_ hD hm C _ _ _ c _ _ hT hC h
 have R:=xW hbase hargs n
 have hw:=hpw _ _ (fun x=>(⟨w.heap,[],0,w⟩:Wz)=x) (by rintro z rfl;exact ⟨rfl,rfl⟩) _ _ _ ⟨_,rfl,R⟩
 rw [← callsIn_wide (n:=0)]
 refine callsIn_of_wp_marks hf hb trivial ?_
 rw [hn]
 refine wpIn_mono hw ?_
 rintro e a' w' ⟨S0,Yl,⟨he,S',k,ver,o,hwk,ht,ho,hlv,hv,rfl,hnr⟩,_,rfl,R0⟩
 obtain ⟨au,R'⟩:=hwk _ _ _ _ _ _ (Nat.le_refl _) R0
 have key:∀ w',Rel base (fun b=>b<w.heap.size∧aY [] blk b) ⟨w.heap,[],0,w⟩ S' au { a' with defers:=[] } w'→∃ v,(results fn a'.tmps).run P w'=.ok v w'∧(∃ v' mJ,Ending.returned v=.returned v'∧
     dG base (fun b=>b<w.heap.size∧aY [] blk b) [lY d k S' o] mJ w'∧
     aX w' (bR base [lY d k S' o] mJ) [lY d k S' o] mJ (.bG 0 0) v'∧(∀ b,b<w.heap.size→aY [] blk b→w'.heap[b]?=w.heap[b]?)∧w.heap.size≤w'.heap.size∧Sm w w'):=by
  intro w' R'
  have hx:=R'.ev (.tmp t)
  change aX w' _ _ au (S'.tmps.getD t .dead) (a'.tmps.getD t undef) at hx
  rw [ht,← hv] at hx
  obtain ⟨c1,c2⟩:=Di (d:=d) R' ho hlv hnr
  exact ⟨_,results_tmp hr _ _ _,a'.tmps.getD t undef,_,rfl,c1,c2 _ hx,fun b hb1 hb2=>R'.fr b ⟨hb1,hb2⟩,R'.gr,R'.sm⟩
 rcases he with rfl | rfl <;> exact nR _ _ R' key
def aaI (D:TypeId→aD) (d:Nat) (rs:List ResultVar) (qs:List PV) (o':Obj) (e:Exit) (S:St):Prop:=
 (e=.normal∨e=.ret)∧∃ S' k o,Weak 0 S S'∧jI D S' rs (fun ps=>ps=.bG k o.ver::qs)∧S'.objs[k]?=some o∧o.live=true∧lY d k S' o=o'∧eX [o']∧qs.all PV.atom=true
theorem ai.RF {f:FuncId}{fn:Func}{c:Code}{C:LC}{args:List PV}{o':Obj}(d:Nat){rs:List ResultVar}{n:Nat}{qs:List PV}(hD:∀ t,iN P t (D t)) (hT:FB P none rV T) (hm:P.follows .mixedOrders=true)
  (hf:P.funcs[f]?=some fn) (hname:(fn.name== "runtime.NumGoroutine")=false) (hb:fn.body=some c) (hn:fn.ntmps=n) (hr:fn.results=rs.toArray) (hl:rs.length≤3) (hC:strip C=comp c)
  (h:kW P D T C (aaI D d rs qs o') (bV args n)):ai P f args [] (fw (.bG 0 0::qs)) [o']:=by
 refine ⟨⟨fn,hf,hname,by rw [hb];rfl⟩,fun w blk vs base hbase _ hargs=>?_⟩
 have hpw:PW P none rV c (aaI D d rs qs o') (bV args n):=p_ hD hm C _ _ _ c _ _ hT hC h
 have R:=xW hbase hargs n
 have hw:=hpw _ _ (fun x=>(⟨w.heap,[],0,w⟩:Wz)=x) (by rintro z rfl;exact ⟨rfl,rfl⟩) _ _ _ ⟨_,rfl,R⟩
 rw [← callsIn_wide (n:=0)]
 refine callsIn_of_wp_marks hf hb trivial ?_
 rw [hn]
 refine wpIn_mono hw ?_
 rintro e a' w' ⟨S0,Yl,⟨he,S',k,o,hwk,hout,ho,hlv,rfl,hnr,hq⟩,_,rfl,R0⟩
 obtain ⟨au,R'⟩:=hwk _ _ _ _ _ _ (Nat.le_refl _) R0
 have key:∀ w',Rel base (fun b=>b<w.heap.size∧aY [] blk b) ⟨w.heap,[],0,w⟩ S' au { a' with defers:=[] } w'→∃ v,(results fn a'.tmps).run P w'=.ok v w'∧(∃ v' mJ,Ending.returned v=.returned v'∧
     dG base (fun b=>b<w.heap.size∧aY [] blk b) [lY d k S' o] mJ w'∧
     aX w' (bR base [lY d k S' o] mJ) [lY d k S' o] mJ (fw (.bG 0 0::qs)) v'∧(∀ b,b<w.heap.size→aY [] blk b→w'.heap[b]?=w.heap[b]?)∧w.heap.size≤w'.heap.size∧Sm w w'):=by
  intro w' R'
  obtain ⟨vs',ps,h1,h2,h3⟩:=A9 hD R' rs _ hout
  subst h2
  obtain ⟨c1,c2⟩:=Di (d:=d) R' ho hlv hnr
  refine ⟨I6 vs',Ej hr hl h1,I6 vs',_,rfl,c1,?_,fun b hb1 hb2=>R'.fr b ⟨hb1,hb2⟩,R'.gr,R'.sm⟩
  obtain ⟨hl3,h3⟩:=h3
  match vs',qs,hl3,h3,hq with
  | [v],[],_,h3,_=>exact c2 v (h3 0 _ v rfl rfl)
  | v::v'::vs,q::qs,hl3,h3,hq=>
   refine ⟨v::v'::vs,rfl,by simpa using hl3,fun i p u hp hu=>?_⟩
   cases i with
   | zero=>cases hp;cases hu;exact c2 _ (h3 0 _ _ rfl rfl)
   | succ i=>
    have hp':(q::qs)[i]?=some p:=hp
    have ha:=List.all_eq_true.1 hq p (List.mem_of_getElem? hp')
    have h5:=h3 (i+1) p u hp hu
    refine Gp ha (w:=w') (ok:=bR base S'.objs au) (objs:=S'.objs) (blk:=au) ?_
    cases p <;> first | exact h5 | (simp [PV.atom] at ha)
 rcases he with rfl | rfl <;> exact nR _ _ R' key
def YA (n:Nat) (I J:Nat→List Obj→Prop) (e:Exit) (S:St):Prop:=(e=.normal∨e=.ret)∧(I n S.objs∨∃ i,i<n∧J i S.objs)
def A_ (fn:Tab) (y:Nat) (Y:YT) (nx:Nat):Know:=⟨fn,y,Y,false,fun _ _ _=>False,nx,true⟩
theorem Gives.FC {f:FuncId}{fn:Func}{c:Code}{C:LC}{cap:List PV}{ys:List (List PV)}{n:Nat}{fnT:Tab}(hD:∀ t,iN P t (D t)) (hT:vO P fnT) (hm:P.follows .mixedOrders=true)
  (hf:P.funcs[f]?=some fn) (hname:(fn.name== "runtime.NumGoroutine")=false) (hb:fn.body=some c) (hn:fn.ntmps=n) (hr:fn.results=#[]) (hC:strip C=comp c)
  (h:∀ (I J:Nat→List Obj→Prop) (objs:List Obj) (y:Nat),I 0 objs→(∀ i O,I i O→objs.length≤O.length∧jU O)→(∀ i O,J i O→objs.length≤O.length∧jU O)→
   kW P D (A_ fnT y (Yn ys I J) objs.length) C (YA ys.length I J) ⟨(bV (.Fj y::cap) n).tmps,objs⟩):Gives P f cap ys:=by
 refine ⟨⟨fn,hf,hname,by rw [hb];rfl⟩,fun I J base ak V y objs blk w I4 hY hnx hR hI0 I5 Yz hcap=>?_⟩
 obtain ⟨w0,hV,R⟩:=hR
 let E:Env:=fun base' zb V'=>base'=base∧zb=ak∧V'=V
 have hk:FB P none E (A_ fnT y (Yn ys I J) objs.length):=
  ⟨hT,by rintro b p v ⟨rfl,rfl,rfl⟩;exact hY,by rintro b p v ⟨rfl,rfl,rfl⟩;exact hnx,(fun h=>by cases h),fun _ _ _ h=>h.elim⟩
 have hpw:PW P none E c (YA ys.length I J) ⟨(bV (.Fj y::cap) n).tmps,objs⟩:=p_ hD hm C _ _ _ c _ _ hk hC (h I J objs y hI0 I5 Yz)
 have hargs:cZ (aX w (bR base objs blk) objs blk) (.Fj y::cap) (.func (.yield y) #[] #[]::I4):=by
  refine ⟨by simpa using hcap.1,fun i p v hp hv=>?_⟩
  cases i with
  | zero=>
   simp only [List.getElem?_cons_zero,Option.some.injEq] at hp hv
   subst hp;subst hv
   exact .aJ (.Fj y)
  | succ i=>exact .aJ (hcap.2 i p v (by simpa using hp) (by simpa using hv))
 have R1:Rel base ak w0 ⟨(bV (.Fj y::cap) n).tmps,objs⟩ blk { tmps:=(⟨.func (.yield y) #[] #[]::I4⟩:Array Value)++Array.replicate (n-(⟨.func (.yield y) #[] #[]::I4⟩:Array Value).size) undef,defers:=[] } w:=by
  have hl:=hargs.1
  refine ⟨.nil _ _,?_,fun t p hp=>?_,R.objs,R.pr,R.fr,R.gr,R.pb,R.ext,R.J8,R.sm,R.gl⟩
  · simp only [bV,Array.size_append,Array.size_replicate,List.length_append,List.length_replicate,hl]
    simp
  · simp only [bV] at hp
    rw [List.getElem?_append] at hp
    split at hp
    · rename_i ht
      obtain ⟨v,hv⟩:∃ v,(Value.func (.yield y) #[] #[]::I4)[t]?=some v:=⟨_,List.getElem?_eq_getElem (by omega)⟩
      have hg:((⟨.func (.yield y) #[] #[]::I4⟩:Array Value)++Array.replicate (n-(⟨.func (.yield y) #[] #[]::I4⟩:Array Value).size) undef).getD t undef=v:=by
       rw [Array.getD_eq_getD_getElem?,Array.getElem?_append,if_pos (by simpa using (by rw [← hl];exact ht:t<(Value.func (.yield y) #[] #[]::I4).length))]
       simp [hv]
      rw [hg]
      exact hargs.2 t p v hp hv
    · rw [List.getElem?_replicate] at hp
      split at hp
      · cases hp;exact .dead _
      · cases hp
 have hw:=hpw base ak V ⟨rfl,rfl,rfl⟩ blk _ w ⟨w0,hV,R1⟩
 rw [← callsIn_wide (n:=0)]
 refine callsIn_of_wp_marks hf hb trivial ?_
 rw [hn]
 refine wpIn_mono hw ?_
 rintro e a' w' ⟨S',au,⟨he,hI⟩,w0',hV',R'⟩
 have key:∀ w'',Rel base ak w0' S' au { a' with defers:=[] } w''→∃ v,(results fn a'.tmps).run P w''=.ok v w''∧(∃ objs' mJ,Ending.returned v=.returned (.tuple #[])∧(I ys.length objs'∨∃ i,i<ys.length∧J i objs')∧qP base ak V ⟨[],objs'⟩ mJ Yo w''):=by
  intro w'' R''
  refine ⟨_,results_none hr _ _ _,S'.objs,au,rfl,hI,w0',hV',.nil _ _,rfl,fun t p hp=>by simp at hp,R''.objs,R''.pr,R''.fr,R''.gr,R''.pb,R''.ext,R''.J8,R''.sm,R''.gl⟩
 rcases he with rfl | rfl <;> exact nR _ _ R' key
theorem VX {w:World}{ok:Nat→Prop}{sz:Nat}{xs:List PV}{v:Value}(h:dz w ok (.sl sz xs none) v):(xs=[]∧dz w ok (.sl sz xs (some true)) v)∨dz w ok (.sl sz xs (some false)) v:=by
 cases h with
 | slnil _ _ _=>exact .inl ⟨rfl,.slnil _ _ (by simp)⟩
 | J6 _ _ _ a cap hc=>exact .inr (.J6 _ _ (by simp) a cap hc)
 | sl _ _ _ _ b off cap vs h1 h2 h3 h4 h5 h6=>exact .inr (.sl _ _ _ (by simp) b off cap vs h1 h2 h3 h4 h5 h6)
theorem ai.split {f:FuncId}{pre post:List PV}{sz:Nat}{xs:List PV}{r:PV}{os:List Obj}(h1:xs=[]→ai P f (pre++.sl sz [] (some true)::post) [] r os) (h2:ai P f (pre++.sl sz xs (some false)::post) [] r os) :
  ai P f (pre++.sl sz xs none::post) [] r os:=by
 refine ⟨h2.1,fun w blk vs base hb ho hargs=>?_⟩
 have key:∀ p:PV,(∀ v,aX w (bR base [] blk) [] blk (.sl sz xs none) v→vs[pre.length]?=some v→aX w (bR base [] blk) [] blk p v)→cZ (aX w (bR base [] blk) [] blk) (pre++p::post) vs:=by
  intro p hp
  refine ⟨by have:=hargs.1;simpa using this,fun i q u hq hu=>?_⟩
  rw [List.getElem?_append] at hq
  by_cases hi:i<pre.length
  · rw [if_pos hi] at hq
    exact hargs.2 i q u (by rw [List.getElem?_append,if_pos hi];exact hq) hu
  · rw [if_neg hi] at hq
    by_cases he:i=pre.length
    · subst he
      simp only [Nat.sub_self,List.getElem?_cons_zero,Option.some.injEq] at hq
      subst hq
      exact hp u (hargs.2 pre.length _ u (by rw [List.getElem?_append,if_neg (by omega)];simp) hu) hu
    · refine hargs.2 i q u ?_ hu
      rw [List.getElem?_append,if_neg hi]
      obtain ⟨j,hj⟩:∃ j,i-pre.length=j+1:=⟨i-pre.length-1,by omega⟩
      rw [hj] at hq ⊢
      simpa using hq
 have hlt:pre.length<vs.length:=by have:=hargs.1;simp at this;omega
 have hr:dz w (bR base [] blk) (.sl sz xs none) (vs[pre.length]):=hargs.2 pre.length (.sl sz xs none) _ (by simp) (List.getElem?_eq_getElem hlt)
 rcases VX hr with ⟨rfl,hr⟩ | hr
 · exact (h1 rfl).2 w blk vs base hb ho (key _ fun v _ hv=>by rw [List.getElem?_eq_getElem hlt] at hv;cases hv;exact hr)
 · exact h2.2 w blk vs base hb ho (key _ fun v _ hv=>by rw [List.getElem?_eq_getElem hlt] at hv;cases hv;exact hr)
theorem ai.YB {f:FuncId}{args:List PV}{r r':PV}(h:ai P f args [] r []) (hr:∀ w ok v,dz w ok r v→dz w ok r' v):ai P f args [] r' []:=by
 refine ⟨h.1,fun w blk vs base hb ho hargs=>Calls.mono (h.2 w blk vs base hb ho hargs) ?_⟩
 rintro e w' ⟨v,au,h1,h2,h3,h4,h5⟩
 exact ⟨v,au,h1,h2,.aJ (hr _ _ _ (wQ h3)),h4,h5⟩
theorem Lx {w:World}{ok:Nat→Prop}{s s':Nat}{q:Option Bool}{v:Value}(h:dz w ok (.sl s [] (some true)) v) (hq:q≠some false):dz w ok (.sl s' [] q) v:=by
 cases h with
 | slnil _ _ _=>exact .slnil _ _ hq
 | J6 _ _ hq'=>exact absurd rfl hq'
 | sl _ _ _ hq'=>exact absurd rfl hq'
end Lp
namespace Lp
open Go
def aP (P:Program) (f:FuncId) (n:Nat) (rs:List ResultVar) (C:LC):Prop:=
 ∃ fn c,P.funcs[f]?=some fn∧(fn.name== "runtime.NumGoroutine")=false∧fn.body=some c∧fn.ntmps=n∧fn.results=rs.toArray∧strip C=comp c
abbrev dF:=List PV→List Obj→KT→Prop
def aB (P:Program) (f:FuncId) (c:dF):Prop:=∀ args objs K,c args objs K→∃ r objs' t,mH P f args objs r objs' t∧K r objs' t
def sS:List (FuncId×dF)→Tab
 | [],_,_,_,_=>False
 | (g,c)::l,f,args,objs,K=>bif f==g then c args objs K else sS l f args objs K
def aR (P:Program) (l:List (FuncId×dF)):Know:=⟨sS l,0,fun _ _ _=>False,true,Gives P,0,true⟩
theorem ah {P:Program}:vO P (sS []):=fun _ _ _ _ h=>h.elim
theorem af {P:Program}{g:FuncId}{c:dF}{l:List (FuncId×dF)}(h:aB P g c) (hl:vO P (sS l)):vO P (sS ((g,c)::l)):=by
 intro f args objs K hh
 unfold sS at hh
 cases he:f==g with
 | true=>
  rw [he] at hh
  have:f=g:=by simpa using he
  subst this
  exact h args objs K hh
 | false=>rw [he] at hh;exact hl f args objs K hh
theorem aj {P:Program}{l:List (FuncId×dF)}(h:vO P (sS l)):FB P none rV (aR P l):=.ae6 h rfl fun _ _ _ h=>h
variable {P:Program}{D:TypeId→aD}{T:Know}
theorem aP.pure {f:FuncId}{n:Nat}{rs:List ResultVar}{C:LC}{args:List PV}{r:PV}(h:aP P f n rs C) (d:Nat) (hD:∀ t,iN P t (D t)) (hT:FB P none rV T) (hm:P.follows .mixedOrders=true) (hl:rs.length≤3)
  (hw:kW P D T C (VT D d rs r) (bV args n)):ai P f args [] r []:=by
 obtain ⟨fn,c,h1,h2,h3,h4,h5,h6⟩:=h
 exact ai.FC d hD hT hm h1 h2 h3 h4 h5 hl h6 hw
theorem aP.made {f:FuncId}{n t:Nat}{C:LC}{args:List PV}{o':Obj}(h:aP P f n [.tmp t] C) (d:Nat) (hD:∀ t,iN P t (D t)) (hT:FB P none rV T) (hm:P.follows .mixedOrders=true)
  (hw:kW P D T C (RD d t o') (bV args n)):ai P f args [] (.bG 0 0) [o']:=by
 obtain ⟨fn,c,h1,h2,h3,h4,h5,h6⟩:=h
 exact ai.VW d hD hT hm h1 h2 h3 h4 h5 h6 hw
theorem aP.Kt {f:FuncId}{n:Nat}{rs:List ResultVar}{C:LC}{args:List PV}{qs:List PV}{o':Obj}(h:aP P f n rs C) (d:Nat) (hD:∀ t,iN P t (D t)) (hT:FB P none rV T) (hm:P.follows .mixedOrders=true) (hl:rs.length≤3)
  (hw:kW P D T C (aaI D d rs qs o') (bV args n)):ai P f args [] (fw (.bG 0 0::qs)) [o']:=by
 obtain ⟨fn,c,h1,h2,h3,h4,h5,h6⟩:=h
 exact ai.RF d hD hT hm h1 h2 h3 h4 h5 hl h6 hw
theorem aP.gives {f:FuncId}{n:Nat}{C:LC}{cap:List PV}{ys:List (List PV)}{fnT:Tab}(h:aP P f n [] C) (hD:∀ t,iN P t (D t)) (hT:vO P fnT) (hm:P.follows .mixedOrders=true)
  (hw:∀ (I J:Nat→List Obj→Prop) (objs:List Obj) (y:Nat),I 0 objs→(∀ i O,I i O→objs.length≤O.length∧jU O)→(∀ i O,J i O→objs.length≤O.length∧jU O)→
   kW P D (A_ fnT y (Yn ys I J) objs.length) C (YA ys.length I J) ⟨(bV (.Fj y::cap) n).tmps,objs⟩):Gives P f cap ys:=by
 obtain ⟨fn,c,h1,h2,h3,h4,h5,h6⟩:=h
 exact Gives.FC hD hT hm h1 h2 h3 h4 h5 h6 hw
def mkT (n:Nat) (l:List (Nat×PV)):List PV:=l.foldl (fun tm x=>tm.set x.1 x.2) (List.replicate n .dead)
def lM (v:PV) (d:Nat) (want:Bool) (S:St) (X Y:St→Prop):Prop:=
 match v with
 | .bool b=>(b=want→X { S with tmps:=S.tmps.set d (.bool want) })∧(b=!want→Y { S with tmps:=S.tmps.set d (.bool !want) })
 | .b_ []=>Y S
 | _=>False
def noTwo:List Nat→Bool
 | []=>true
 | t::ts=>co t !=2 && noTwo ts
theorem Dj:∀ (ts:List Nat) (i:Nat),noTwo ts=true→co (ts.getD i 0)≠2
 | [],i,_=>by simp [co]
 | t::ts,i,h=>by
  simp only [noTwo,Bool.and_eq_true,bne_iff_ne,ne_eq] at h
  cases i with
  | zero=>simpa using h.1
  | succ i=>simpa using Dj ts i h.2
theorem LA (un ts:List Nat):(nP un ts=true)=((noTwo ts || nP un ts)=true):=by
 cases h:noTwo ts with
 | false=>rfl
 | true=>
  have:qw un ts=true:=by
   unfold qw
   rw [List.all_eq_true]
   intro i _
   simp only [Bool.or_eq_true,List.all_eq_true]
   right
   intro j _
   have h1:=Dj ts i h
   have h2:=Dj ts j h
   simp only [beq_eq_false_iff_ne.2 h1,beq_eq_false_iff_ne.2 h2,Bool.false_and,Bool.or_false,Bool.not_false,or_true]
  simp [nP,this]
theorem zO :
  (∀ (Q:Exit→St→Prop) S,kW P D T .skip Q S=Q .normal S)∧
  (∀ (Q:Exit→St→Prop) S,kW P D T .ret Q S=Q .ret S)∧
  (∀ id (Q:Exit→St→Prop) S,kW P D T (.exit id) Q S=Q (.exit id) S)∧
  (∀ ss (Q:Exit→St→Prop) S,kW P D T (.reg ss) Q S=LR P D T ss S [] fun S' _=>Q .normal S')∧
  (∀ ss un (Q:Exit→St→Prop) S,kW P D T (.draw ss un) Q S=LR P D T.noY ss S [] fun S' ts=>(noTwo ts || nP un ts)=true∧Q .normal S')∧
  (∀ a b (Q:Exit→St→Prop) S,kW P D T (.seq a b) Q S=kW P D T a (thenS (fun S'=>kW P D T b Q S') Q) S)∧
  (∀ c a b (Q:Exit→St→Prop) S,kW P D T (.cond c a b) Q S=zh (S.ev c) (kW P D T a Q S) (kW P D T b Q S))∧
  (∀ id c (Q:Exit→St→Prop) S,kW P D T (.block id c) Q S=kW P D T c (rQ id Q) S):=by
 refine ⟨fun _ _=>rfl,fun _ _=>rfl,fun _ _ _=>rfl,fun _ _ _=>rfl,fun ss un Q S=>?_,fun _ _ _ _=>rfl,fun _ _ _ _ _=>rfl,fun _ _ _ _=>rfl⟩
 simp only [← LA]
 rfl
theorem yN :
  (∀ (n:St→Prop) (Q:Exit→St→Prop) S,thenS n Q .normal S=n S)∧
  (∀ (n:St→Prop) (Q:Exit→St→Prop) S,thenS n Q .ret S=Q .ret S)∧
  (∀ (n:St→Prop) (Q:Exit→St→Prop) S id,thenS n Q (.exit id) S=Q (.exit id) S)∧
  (∀ (Q:Exit→St→Prop) S id,rQ id Q .normal S=Q .normal S)∧
  (∀ (Q:Exit→St→Prop) S id,rQ id Q .ret S=Q .ret S)∧
  (∀ (Q:Exit→St→Prop) S id id',rQ id Q (.exit id') S=if id'=id then Q .normal S else Q (.exit id') S)∧
  (∀ b X Y,zh (.bool b) X Y=((b=true→X)∧(b=false→Y))):=
 ⟨fun _ _ _=>rfl,fun _ _ _=>rfl,fun _ _ _ _=>rfl,fun _ _ _=>rfl,fun _ _ _=>rfl,fun _ _ _ _=>rfl,fun _ _ _=>rfl⟩
theorem Ba :
  (∀ S ts (K:St→List Nat→Prop),LR P D T [] S ts K=K S ts)∧
  (∀ d o g w rest S ts (K:St→List Nat→Prop),LR P D T (⟨d,o,g,w⟩::rest) S ts K=wM g S
   (fun S=>lg P D T w (S.tmps.all PV.pure) S.ev S.objs o fun r objs' t=>LR P D T rest (St.put ⟨S.tmps,objs'⟩ d r) (ts++[t]) K)
   (fun S=>LR P D T rest (S.put d (.b_ [])) (ts++[0]) K)):=⟨fun _ _ _=>rfl,fun _ _ _ _ _ _ _ _=>rfl⟩
theorem Bb :
  (∀ (S:St) (X Y:St→Prop),wM none S X Y=X S)∧
  (∀ d w (S:St) (X Y:St→Prop),wM (some (some d,w)) S X Y=lM (S.tmps.getD d .dead) d w S X Y)∧
  (∀ b d w (S:St) (X Y:St→Prop),lM (.bool b) d w S X Y=((b=w→X { S with tmps:=S.tmps.set d (.bool w) })∧(b=!w→Y { S with tmps:=S.tmps.set d (.bool !w) })))∧
  (∀ d w (S:St) (X Y:St→Prop),lM (.b_ []) d w S X Y=Y S):=⟨fun _ _ _=>rfl,fun _ _ _ _ _=>rfl,fun _ _ _ _ _ _=>rfl,fun _ _ _ _ _=>rfl⟩
theorem yO :
  (∀ tm ob d p,St.put ⟨tm,ob⟩ (some d) p=⟨tm.set d p,ob⟩)∧
  (∀ tm ob p,St.put ⟨tm,ob⟩ none p=⟨tm,ob⟩)∧
  (∀ tm ob t,St.ev ⟨tm,ob⟩ (.tmp t)=tm.getD t .dead)∧
  (∀ (S:St) v,S.ev (.const v)=.vX v)∧
  (∀ (S:St) f,S.ev (.func f)=.fn f [] [])∧
  (∀ k n,PV.vX (.int k n)=.int k n)∧(∀ b,PV.vX (.bool b)=.bool b)∧(∀ l,PV.vX (.string ⟨⟨l⟩⟩)=.str l)∧
  (PV.vX (.slice none 0 0)=.sl 0 [] (some true))∧(PV.vX (.pointer none)=.AA)∧(PV.vX .nilFunc=.CX)∧
  (∀ args n,bV args n=⟨args++List.replicate (n-args.length) .dead,[]⟩):=
 ⟨fun _ _ _ _=>rfl,fun _ _ _=>rfl,fun _ _ _=>rfl,fun _ _=>rfl,fun _ _=>rfl,
  fun _ _=>rfl,fun _=>rfl,fun _=>rfl,rfl,rfl,rfl,fun _ _=>rfl⟩
theorem mM (w pt:Bool) (ev:Operand→PV) (objs:List Obj) (K:KT) :
  (∀ x,lg P D T w pt ev objs (.move x) K=K (ev x) objs 0)∧(∀ x,lg P D T w pt ev objs (.assign x) K=K (ev x) objs 0)∧
  (∀ c x y,lg P D T w pt ev objs (.pick c x y) K=qZ (ev c) (ev x) (ev y) objs K)∧
  (∀ t,lg P D T w pt ev objs (.alloc t) K=rP t (D t) objs K)∧
  (∀ t x,lg P D T w pt ev objs (.box t x) K=IL t (D t) (ev x) objs K)∧
  (∀ t ps,lg P D T w pt ev objs (.build t ps) K=bF D t (ps.toList.map fun x=>(x.1,ev x.2)) objs K)∧
  (∀ t n ps,lg P D T w pt ev objs (.buildSlice t n ps) K=bL D w t n (ps.toList.map fun x=>(x.1,ev x.2)) objs K)∧
  (∀ t x,lg P D T w pt ev objs (.load t x) K=fq (D t) (ev x) objs K)∧
  (∀ t x y,lg P D T w pt ev objs (.store t x y) K=jT (D t) (ev x) (ev y) objs K)∧
  (∀ x,lg P D T w pt ev objs (.nilCheck x) K=dK (ev x) objs K)∧
  (∀ b t x y t',lg P D T w pt ev objs (.binOp b t x y t') K=oH P (D t) t b (ev x) (ev y) fun r=>K r objs 0)∧
  (∀ u t x,lg P D T w pt ev objs (.unOp u t x) K=NG u (ev x) fun r=>K r objs 0)∧
  (∀ s t x,lg P D T w pt ev objs (.convert s t x) K=kD D s t (ev x) objs K)∧
  (∀ f first cap,lg P D T w pt ev objs (.makeFunc (.func f) first cap) K=jQ f (first.toList.map ev) (cap.toList.map ev) objs K)∧
  (∀ t l c,lg P D T w pt ev objs (.makeSlice t l c) K=fD D t (ev l) (ev c) objs K)∧
  (∀ t x lo hi,lg P D T w pt ev objs (.slice t x lo hi none) K=jo D t (ev x) (lo.map ev) (hi.map ev) objs K)∧
  (∀ t x f,lg P D T w pt ev objs (.fieldAddr t x f) K=aK D t (ev x) f objs K)∧
  (∀ t x f,lg P D T w pt ev objs (.field t x f) K=oV D t (ev x) f objs K)∧
  (∀ t x i,lg P D T w pt ev objs (.indexAddr t x i) K=aZ D t (ev x) (ev i) objs K)∧
  (∀ t x i,lg P D T w pt ev objs (.index t x i) K=lI D t (ev x) (ev i) objs K)∧
  (∀ x i,lg P D T w pt ev objs (.extract x i) K=bA (ev x) i objs K)∧
  (∀ t x at',lg P D T w pt ev objs (.call { callee:=.builtin .len,args:=⟨[x]⟩,argTypes:=⟨t::at'⟩ }) K=fu D .len (t::at') [x] ev objs K)∧
  (∀ b args ats,lg P D T w pt ev objs (.call { callee:=.builtin b,args:=args,argTypes:=ats }) K=fu D b ats.toList args.toList ev objs K)∧
  (∀ f args ats,lg P D T w pt ev objs (.call { callee:=.value f,args:=args,argTypes:=ats }) K=nD T pt (ev f) (args.toList.map ev) objs K):=
 ⟨fun _=>rfl,fun _=>rfl,fun _ _ _=>rfl,fun _=>rfl,fun _ _=>rfl,fun _ _=>rfl,fun _ _ _=>rfl,fun _ _=>rfl,fun _ _ _=>rfl,fun _=>rfl,fun _ _ _ _ _=>rfl,fun _ _ _=>rfl,fun _ _ _=>rfl,
  fun _ _ _=>rfl,fun _ _ _=>rfl,fun _ _ _ _=>rfl,fun _ _ _=>rfl,fun _ _ _=>rfl,fun _ _ _=>rfl,fun _ _ _=>rfl,fun _ _=>rfl,fun _ _ _=>rfl,fun _ _ _=>rfl,fun _ _ _=>rfl⟩
theorem caR :
  (∀ pt g first cap args objs (K:KT),nD T pt (.fn g first cap) args objs K=T.fn g (first++args++cap) objs K)∧
  (∀ pt l args objs (K:KT),nD T pt (.Fj l) args objs K=(l=T.y∧pt=true∧args.all PV.pure=true∧T.Y args objs fun b o=>K (.bool b) o 2)):=
 ⟨fun _ _ _ _ _ _ _=>rfl,fun _ _ _ _ _=>rfl⟩
theorem El (l:List (FuncId×dF)):((aR P l).noY.fn=sS l)∧((aR P l).rg=true)∧((aR P l).fn=sS l)∧((aR P l).nx=0)∧((aR P l).top=true)∧((aR P l).gives=Gives P):=⟨rfl,rfl,rfl,rfl,rfl,rfl⟩
theorem kiR (fn:Tab) (y:Nat) (Y:YT) (nx:Nat):((A_ fn y Y nx).fn=fn)∧((A_ fn y Y nx).noY.fn=fn)∧((A_ fn y Y nx).rg=true)∧((A_ fn y Y nx).y=y)∧((A_ fn y Y nx).Y=Y)∧((A_ fn y Y nx).nx=nx):=⟨rfl,rfl,rfl,rfl,rfl,rfl⟩
theorem taR (g f:FuncId) (c:dF) (l:List (FuncId×dF)) (args:List PV) (objs:List Obj) (K:KT):sS ((g,c)::l) f args objs K=bif f==g then c args objs K else sS l f args objs K:=rfl
def kindOf:TypeDesc→TK
 | .string=>.str
 | .bool=>.bool
 | .int k=>.int k
 | .slice e=>.slice e
 | .array n e=>.array n e
 | .struct fl=>.struct (fl.toList.map fun f=>(f.offset,f.type))
 | .map k e=>.map k e
 | _=>.other
theorem acL {P:Program}{t:TypeId}{k:TK}{sz by':Nat}{z:Value}(h1:(P.info? t).map (fun i=>(i.size,i.bytes,i.zero))=some (sz,by',some z)) (h2:(P.underlying t).map kindOf=some k) (h3:Nat.beq t MT=false):iN P t ⟨k,sz,by',z⟩:=by
 cases hi:P.info? t with
 | none=>rw [hi] at h1;simp at h1
 | some i=>
  rw [hi] at h1
  simp only [Option.map_some,Option.some.injEq,Prod.mk.injEq] at h1
  cases hu:P.underlying t with
  | none=>rw [hu] at h2;simp at h2
  | some d=>
   rw [hu] at h2
   simp only [Option.map_some,Option.some.injEq] at h2
   subst h2
   refine .inr ⟨⟨i,hi,h1.1,h1.2.1,h1.2.2,fun e=>by rw [e] at h3;exact absurd h3 (by decide)⟩,?_⟩
   cases d <;> simp only [kindOf] <;> first
    | exact hu
    | exact ⟨_,hu,rfl⟩
theorem LB {P:Program}{t:TypeId}:iN P t aD.off:=.inl rfl
end Lp
namespace Lp
open Go
variable {P:Program}{D:TypeId→aD}{T:Know}{objs objs':List Obj}{K:KT}
@[congr] theorem adR {ss:List Step}{S S':St}{ts ts':List Nat}{K:St→List Nat→Prop}(h:S=S') (h':ts=ts'):LR P D T ss S ts K=LR P D T ss S' ts' K:=by rw [h,h']
@[congr] theorem aaJ {v v':PV}{d:Nat}{w:Bool}{S:St}{X Y:St→Prop}(h:v=v'):lM v d w S X Y=lM v' d w S X Y:=by rw [h]
@[congr] theorem abB {v v':PV}{X Y:Prop}(h:v=v'):zh v X Y=zh v' X Y:=by rw [h]
@[congr] theorem abC {c c' x x' y y':PV}(h1:c=c') (h2:x=x') (h3:y=y') (ho:objs=objs'):qZ c x y objs K=qZ c' x' y' objs' K:=by rw [h1,h2,h3,ho]
@[congr] theorem aaK {t:TypeId}{ti UE:aD}(h:ti=UE) (ho:objs=objs'):rP t ti objs K=rP t UE objs' K:=by rw [h,ho]
@[congr] theorem acM {t:TypeId}{ti UE:aD}{v v':PV}(h:ti=UE) (h1:v=v') (ho:objs=objs'):IL t ti v objs K=IL t UE v' objs' K:=by rw [h,h1,ho]
@[congr] theorem aaL {t:TypeId}{ps ps':List (Nat×PV)}(h:ps=ps') (ho:objs=objs'):bF D t ps objs K=bF D t ps' objs' K:=by rw [h,ho]
@[congr] theorem UF {own:Bool}{t:TypeId}{n:Nat}{ps ps':List (Nat×PV)}(h:ps=ps') (ho:objs=objs'):bL D own t n ps objs K=bL D own t n ps' objs' K:=by rw [h,ho]
@[congr] theorem abD {ti UE:aD}{p p':PV}(h:ti=UE) (h1:p=p') (ho:objs=objs'):fq ti p objs K=fq UE p' objs' K:=by rw [h,h1,ho]
@[congr] theorem aaM {ti UE:aD}{p p' v v':PV}(h:ti=UE) (h1:p=p') (h2:v=v') (ho:objs=objs'):jT ti p v objs K=jT UE p' v' objs' K:=by rw [h,h1,h2,ho]
@[congr] theorem XI {x x':PV}(h:x=x') (ho:objs=objs'):dK x objs K=dK x' objs' K:=by rw [h,ho]
@[congr] theorem acN {ti UE:aD}{t:TypeId}{b:BinOp}{x x' y y':PV}{K:PV→Prop}(h:ti=UE) (h1:x=x') (h2:y=y'):oH P ti t b x y K=oH P UE t b x' y' K:=by rw [h,h1,h2]
@[congr] theorem adx {u:UnOp}{x x':PV}{K:PV→Prop}(h:x=x'):NG u x K=NG u x' K:=by rw [h]
@[congr] theorem abE {s s' d d':aD}{x x':PV}{K:PV→Prop}(h:s=s') (h1:d=d') (h2:x=x'):nC s d x K=nC s' d' x' K:=by rw [h,h1,h2]
@[congr] theorem XJ {f:FuncId}{a a' c c':List PV}(h:a=a') (h1:c=c') (ho:objs=objs'):jQ f a c objs K=jQ f a' c' objs' K:=by rw [h,h1,ho]
@[congr] theorem VY {t:TypeId}{l l' c c':PV}(h:l=l') (h1:c=c') (ho:objs=objs'):fD D t l c objs K=fD D t l' c' objs' K:=by rw [h,h1,ho]
@[congr] theorem aaN {t:TypeId}{x x':PV}{lo lo' hi hi':Option PV}(h:x=x') (h1:lo=lo') (h2:hi=hi') (ho:objs=objs'):jo D t x lo hi objs K=jo D t x' lo' hi' objs' K:=by rw [h,h1,h2,ho]
@[congr] theorem VZ {t:TypeId}{x x':PV}{f:Nat}(h:x=x') (ho:objs=objs'):aK D t x f objs K=aK D t x' f objs' K:=by rw [h,ho]
@[congr] theorem aaO {t:TypeId}{x x':PV}{f:Nat}(h:x=x') (ho:objs=objs'):oV D t x f objs K=oV D t x' f objs' K:=by rw [h,ho]
@[congr] theorem V3 {t:TypeId}{x x' i i':PV}(h:x=x') (h1:i=i') (ho:objs=objs'):aZ D t x i objs K=aZ D t x' i' objs' K:=by rw [h,h1,ho]
@[congr] theorem aaP {t:TypeId}{x x' i i':PV}(h:x=x') (h1:i=i') (ho:objs=objs'):lI D t x i objs K=lI D t x' i' objs' K:=by rw [h,h1,ho]
@[congr] theorem YC {x x':PV}{i:Nat}(h:x=x') (ho:objs=objs'):bA x i objs K=bA x' i objs' K:=by rw [h,ho]
@[congr] theorem acO {t:TypeId}{x x':PV}(h:x=x') (ho:objs=objs'):qg D t x objs K=qg D t x' objs' K:=by rw [h,ho]
@[congr] theorem aag {t u:TypeId}{s s' x x':PV}(h:s=s') (h1:x=x') (ho:objs=objs'):dP D t u s x objs K=dP D t u s' x' objs' K:=by rw [h,h1,ho]
@[congr] theorem aah {b:Bool}{xs xs':List PV}{K:PV→Prop}(h:xs=xs'):iO b xs K=iO b xs' K:=by rw [h]
@[congr] theorem abF {pt pt':Bool}{f f':PV}{args args':List PV}(hp:pt=pt') (h:f=f') (h1:args=args') (ho:objs=objs'):nD T pt f args objs K=nD T pt' f' args' objs' K:=by rw [hp,h,h1,ho]
@[congr] theorem abG {pl:Nat→Option (Nat×Nat)}{cs cs':List PV}{ps:List (Nat×PV)}{K:List PV→Prop}(h:cs=cs'):mr pl cs ps K=mr pl cs' ps K:=by rw [h]
@[congr] theorem aaQ {x x':Option PV}{d d':Int}{K:Int→Prop}(h:x=x') (h1:d=d'):dx x d K=dx x' d' K:=by rw [h,h1]
@[congr] theorem ady {C:LC}{Q:Exit→St→Prop}{S S':St}(h:S=S'):kW P D T C Q S=kW P D T C Q S':=by rw [h]
theorem aH {ks:List Bool}{fz:Option (Nat×Nat)}{c:LC}{Q:Exit→St→Prop}{S:St}(I:Nat→St→Prop) (m:Nat) (h0:I m (S.norm ks fz))
  (hr:∀ m S,I m S→kW P D T c (thenS (fun S'=>∃ m',m'<m∧I m' (S'.norm ks fz)) Q) S) (hz:IZ T.nx fz:=by exact trivial):kW P D T (.loop ks fz c) Q S:=⟨hz,I,⟨_,m,Weak.norm ks fz hz S,h0⟩,hr⟩
theorem Ku {ks:List Bool}{fz:Option (Nat×Nat)}{c:LC}{Q:Exit→St→Prop}{S:St}(S0:St) (I:Nat→St→Prop) (m:Nat) (hw:Weak T.nx (S.norm ks fz) S0) (h0:I m S0)
  (hr:∀ m S,I m S→kW P D T c (thenS (fun S'=>∃ m',m'<m∧I m' (S'.norm ks fz)) Q) S) (hz:IZ T.nx fz:=by exact trivial):kW P D T (.loop ks fz c) Q S:=⟨hz,I,⟨S0,m,(Weak.norm ks fz hz S).trans hw,h0⟩,hr⟩
theorem aN {c:LC}{Q:Exit→St→Prop}{S:St}(S':St) (hw:Weak T.nx S S') (h:kW P D T c Q S'):kW P D T (.weak c) Q S:=⟨S',hw,h⟩
theorem RH {f:Operand}{ps:List Nat}{fz:Option (Nat×Nat)}{x y:LC}{Q:Exit→St→Prop}{S:St}(g:FuncId) (cap:List PV) (ys:List (List PV)) (I:Nat→List Obj→Prop) (ht:T.top=true)
  (hf:S.ev f=.fn g [] cap) (hc:cap.all PV.pure=true) (hz:IZ S.objs.length fz) (hg:T.gives g cap ys) (hy:∀ y ∈ ys,y.length=ps.length) (h0:I 0 S.objs) (hl:∀ i objs,I i objs→S.objs.length≤objs.length∧jU objs)
  (hr:∀ i args objs,I i objs→ys[i]?=some args→kW P D (T.inner S.objs.length) x (thenS (fun S1=>kW P D (T.inner S.objs.length) y (Rx fz (I (i+1))) S1) (fun _ _=>False)) ⟨qx ps args S.tmps,objs⟩)
  (he:∀ objs,I ys.length objs→Q .normal ⟨S.tmps,objs⟩):kW P D T (.rf f ps fz x y) Q S:=⟨ht,g,cap,ys,hf,hc,hg,hy,.inl ⟨I,hz,h0,hl,hr,he⟩⟩
theorem UG {f:Operand}{ps:List Nat}{fz:Option (Nat×Nat)}{x y:LC}{Q:Exit→St→Prop}{S:St}(g:FuncId) (cap:List PV) (ys:List (List PV)) (I J:Nat→List Obj→Prop) (lv:Exit){lc:Code}(hlv:GH lv=some lc) (ht:T.top=true)
  (hf:S.ev f=.fn g [] cap) (hc:cap.all PV.pure=true) (hz:IZ (S.objs.length+2) fz) (hg:T.gives g cap ys) (hy:∀ y ∈ ys,y.length=ps.length) (h0:I 0 (S.objs++[wz,hole])) (hl:∀ i objs,I i objs→Gh S.objs.length objs)
  (hj:∀ i objs,J i objs→Gh S.objs.length objs∧eX objs)
  (hr:∀ i args objs,I i objs→ys[i]?=some args→kW P D (T.inner (S.objs.length+2)) x (thenS (fun S1=>kW P D (T.inner (S.objs.length+2)) y (Lr fz (I (i+1)) lv (J i)) S1) (fun _ _=>False)) ⟨qx ps args S.tmps,objs⟩)
  (he:∀ objs,I ys.length objs→Q .normal ⟨S.tmps,objs⟩) (hv:∀ i objs,i<ys.length→J i objs→Q lv ⟨S.tmps,iQ S.objs.length objs⟩):kW P D T (.rf f ps fz x y) Q S:=
 ⟨ht,g,cap,ys,hf,hc,hg,hy,.inr ⟨I,J,lv,lc,hlv,hz,h0,hl,hj,hr,he,hv⟩⟩
theorem Dk (d n:Nat) (objs:List Obj) :
  (∀ k m,gQ d n objs (.int k m)=.int k m)∧(∀ b,gQ d n objs (.bool b)=.bool b)∧(∀ s,gQ d n objs (.str s)=.str s)∧(∀ sz xs q,gQ d n objs (.sl sz xs q)=.sl sz xs q)∧(∀ x,gQ d n objs (.addr x)=.addr x)∧
  (gQ d n objs .dead=.dead)∧
  (∀ cs,gQ d n objs (.agg cs)=.agg (cs.map (eY d n objs)))∧(∀ cs,gQ d n objs (.b_ cs)=.b_ (cs.map (eY d n objs)))∧
  (∀ k m,eY d n objs (.int k m)=.int k m)∧(∀ b,eY d n objs (.bool b)=.bool b)∧(∀ s,eY d n objs (.str s)=.str s)∧(∀ sz xs q,eY d n objs (.sl sz xs q)=.sl sz xs q)∧(∀ x,eY d n objs (.addr x)=.addr x)∧(eY d n objs .dead=.dead):=
 ⟨fun _ _=>rfl,fun _=>rfl,fun _=>rfl,fun _ _ _=>rfl,fun _=>rfl,rfl,fun _=>rfl,fun _=>rfl,fun _ _=>rfl,fun _=>rfl,fun _=>rfl,fun _ _ _=>rfl,fun _=>rfl,rfl⟩
theorem nk (d:Nat) (rs:List ResultVar) (r:PV) (S:St) :
  (VT D d rs r .ret S=jI D S rs fun ps=>r=fw (ps.map (gQ d 0 S.objs)))∧(VT D d rs r .normal S=jI D S rs fun ps=>r=fw (ps.map (gQ d 0 S.objs))):=by
 constructor <;> simp [VT]
theorem Em (d t:Nat) (o:Obj) (S:St) :
  (RD d t o .ret S=∃ S' k ver o0,Weak 0 S S'∧S'.tmps.getD t .dead=.bG k ver∧S'.objs[k]?=some o0∧o0.live=true∧o0.ver=ver∧{ fE d (k+1) S'.objs o0 with ver:=0 }=o∧eX [o])∧
  (RD d t o .normal S=∃ S' k ver o0,Weak 0 S S'∧S'.tmps.getD t .dead=.bG k ver∧S'.objs[k]?=some o0∧o0.live=true∧o0.ver=ver∧{ fE d (k+1) S'.objs o0 with ver:=0 }=o∧eX [o]):=by
 constructor <;> simp [RD]
theorem rq:(∀ (x p:PV) l n,(x::l).set (n+1) p=x::l.set n p)∧(∀ (x p:PV) l,(x::l).set 0 p=p::l)∧(∀ (x:PV) l n d,(x::l).getD (n+1) d=l.getD n d)∧(∀ (x:PV) l d,(x::l).getD 0 d=x)∧
  (∀ (x:PV) l m,(x::l)++m=x::(l++m))∧(∀ m:List PV,[]++m=m)∧(∀ n (x:PV),List.replicate (n+1) x=x::List.replicate n x)∧(∀ (x:PV),List.replicate 0 x=[])∧(∀ (x:PV) l,(x::l).length=l.length+1)∧(([]:List PV).length=0)∧
  (∀ (f:Operand→PV) x l,(x::l).map f=f x::l.map f)∧(∀ (f:Operand→PV),[].map f=[])∧
  (∀ (f:Nat×Operand→Nat×PV) x l,(x::l).map f=f x::l.map f)∧(∀ (f:Nat×Operand→Nat×PV),[].map f=[])∧
  (∀ (f:PV→PV) x l,(x::l).map f=f x::l.map f)∧(∀ (f:PV→PV),[].map f=[])∧
  (∀ (f:Operand→PV) x,(some x).map f=some (f x))∧(∀ (f:Operand→PV),none.map f=none)∧
  (∀ (x:Nat) l m,(x::l)++m=x::(l++m))∧(∀ m:List Nat,[]++m=m)∧
  (∀ n l,mkT n l=l.foldl (fun tm x=>tm.set x.1 x.2) (List.replicate n .dead))∧
  (∀ (f:List PV→Nat×PV→List PV) x l i,(x::l).foldl f i=l.foldl f (f i x))∧(∀ (f:List PV→Nat×PV→List PV) i,[].foldl f i=i):=
 ⟨fun _ _ _ _=>rfl,fun _ _ _=>rfl,fun _ _ _ _=>rfl,fun _ _ _=>rfl,fun _ _ _=>rfl,fun _=>rfl,fun _ _=>rfl,fun _=>rfl,fun _ _=>rfl,rfl,fun _ _ _=>rfl,fun _=>rfl,
  fun _ _ _=>rfl,fun _=>rfl,fun _ _ _=>rfl,fun _=>rfl,fun _ _=>rfl,fun _=>rfl,fun _ _ _=>rfl,fun _=>rfl,fun _ _=>rfl,fun _ _ _ _=>rfl,fun _ _=>rfl⟩
theorem Q9:(∀ ks x (l:List PV),yM (true::ks) (x::l)=x::yM ks l)∧(∀ ks x (l:List PV),yM (false::ks) (x::l)=.dead::yM ks l)∧(∀ ks,yM ks []=[])∧(∀ ks (S:St),S.norm ks none=S.forget ks)∧(∀ ks tm ob,St.forget ks ⟨tm,ob⟩=⟨yM ks tm,ob⟩):=
 ⟨fun _ _ _=>rfl,fun _ _ _=>rfl,fun ks=>by cases ks <;> rfl,fun _ _=>rfl,fun _ _ _=>rfl⟩
theorem FD (ti:aD) (t:TypeId) (K:PV→Prop) :
  (∀ b k x y,oH P ti t b (.int k x) (.int k y) K=nL b k k x y K)∧
  (∀ b x y,oH P ti t b (.str x) (.str y) K=jm b x y K)∧
  (∀ x y,oH P ti t .eql (.bool x) (.bool y) K=(ti.kind=.bool∧K (.bool (x==y))))∧
  (∀ x y,oH P ti t .neq (.bool x) (.bool y) K=(ti.kind=.bool∧K (.bool (!(x==y)))))∧
  (∀ x y,oH P ti t .eql (.agg x) (.agg y) K=(AB P t x y∧∃ r,yK x y=some r∧K (.bool r)))∧
  (∀ x y,oH P ti t .neq (.agg x) (.agg y) K=(AB P t x y∧∃ r,yK x y=some r∧K (.bool (!r))))∧
  (∀ s x q s' x',oH P ti t .eql (.sl s x (some q)) (.sl s' x' (some true)) K=((∃ e,ti.kind=.slice e)∧K (.bool q)))∧
  (∀ s x q s' x',oH P ti t .neq (.sl s x (some q)) (.sl s' x' (some true)) K=((∃ e,ti.kind=.slice e)∧K (.bool (!q)))):=
 ⟨fun _ _ _ _=>rfl,fun _ _ _=>rfl,fun _ _=>rfl,fun _ _=>rfl,fun _ _=>rfl,fun _ _=>rfl,fun _ _ _ _ _=>rfl,fun _ _ _ _ _=>rfl⟩
theorem FE (k:IntKind) (a b:Int) (K:PV→Prop) :
  (nL .add k k a b K=(Ga k (a+b)∧K (.int k (a+b))))∧(nL .sub k k a b K=(Ga k (a-b)∧K (.int k (a-b))))∧(nL .mul k k a b K=(Ga k (a*b)∧K (.int k (a*b))))∧
  (nL .quo k k a b K=(b≠0∧Ga k (a.tdiv b)∧K (.int k (a.tdiv b))))∧(nL .rem k k a b K=(b≠0∧K (.int k (a.tmod b))))∧
  (nL .eql k k a b K=K (.bool (decide (a=b))))∧(nL .neq k k a b K=K (.bool (!decide (a=b))))∧(nL .lss k k a b K=K (.bool (decide (a<b))))∧(nL .leq k k a b K=K (.bool (decide (a≤b))))∧
  (nL .gtr k k a b K=K (.bool (decide (b<a))))∧(nL .geq k k a b K=K (.bool (decide (b≤a)))):=by
 refine ⟨?_,?_,?_,?_,?_,?_,?_,?_,?_,?_,?_⟩ <;> simp [nL]
theorem wS (a:Int):(Ga .i64 a=(-9223372036854775808≤a∧a≤9223372036854775807))∧(Ga .u8 a=(0≤a∧a≤255)):=⟨rfl,rfl⟩
theorem dU (ev:Operand→PV):(∀ t x,fu D .len [t] [x] ev objs K=qg D t (ev x) objs K)∧(∀ t u s x,fu D .append [t,u] [s,x] ev objs K=dP D t u (ev s) (ev x) objs K)∧
  (∀ ts xs,fu D .max ts xs ev objs K=iO true (xs.map ev) fun r=>K r objs 0)∧(∀ ts xs,fu D .min ts xs ev objs K=iO false (xs.map ev) fun r=>K r objs 0):=
 ⟨fun _ _=>rfl,fun _ _ _ _=>rfl,fun _ _=>rfl,fun _ _=>rfl⟩
theorem zq {α:Type}(l:List α) (f:α→PV) (n:Nat) (q:PV→Prop):(∃ y,(l.map f)[n]?=some y∧q y)=∃ x,l[n]?=some x∧q (f x):=by
 apply propext
 constructor
 · rintro ⟨y,h,hq⟩
   rw [List.getElem?_map] at h
   cases hx:l[n]? with
   | none=>rw [hx] at h;simp at h
   | some x=>rw [hx] at h;simp only [Option.map_some,Option.some.injEq] at h;exact ⟨x,rfl,h ▸ hq⟩
 · rintro ⟨x,h,hq⟩
   exact ⟨f x,by rw [List.getElem?_map,h];rfl,hq⟩
theorem LD {α:Type}(a:α) (l:List α) (q:α→Prop):((∃ x,(a::l)[0]?=some x∧q x)=q a)∧(∀ n,(∃ x,(a::l)[n+1]?=some x∧q x)=∃ x,l[n]?=some x∧q x):=by
 refine ⟨propext ⟨?_,fun h=>⟨a,rfl,h⟩⟩,fun n=>rfl⟩
 rintro ⟨x,h,hq⟩
 simp only [List.getElem?_cons_zero,Option.some.injEq] at h
 exact h ▸ hq
theorem I7:(∀ s b z,aD.agg ⟨.str,s,b,z⟩=false)∧(∀ k s b z,aD.agg ⟨.int k,s,b,z⟩=false)∧(∀ s b z,aD.agg ⟨.bool,s,b,z⟩=false)∧(∀ e s b z,aD.agg ⟨.slice e,s,b,z⟩=false)∧(∀ s b z,aD.agg ⟨.other,s,b,z⟩=false)∧
  (∀ fs s b z,aD.agg ⟨.struct fs,s,b,z⟩=true)∧(∀ n e s b z,aD.agg ⟨.array n e,s,b,z⟩=true):=⟨fun _ _ _=>rfl,fun _ _ _ _=>rfl,fun _ _ _=>rfl,fun _ _ _ _=>rfl,fun _ _ _=>rfl,fun _ _ _ _=>rfl,fun _ _ _ _ _=>rfl⟩
theorem uS (cs:List PV) (o n:Nat):(sub cs o n false=cs.getD o .dead)∧(sub cs o n true=.agg ((cs.drop o).take n)):=⟨rfl,rfl⟩
theorem FH:(∀ k n,PV.isAgg (.int k n)=false)∧(∀ b,PV.isAgg (.bool b)=false)∧(∀ s,PV.isAgg (.str s)=false)∧(∀ s x q,PV.isAgg (.sl s x q)=false)∧(∀ cs,PV.isAgg (.agg cs)=true)∧(∀ k v,PV.isAgg (.bG k v)=false)∧(∀ k v i f,PV.isAgg (.bI k v i f)=false)∧(∀ x,PV.isAgg (.addr x)=false)∧(PV.isAgg .AA=false)∧
  (∀ k n,PV.cells (.int k n)=[.int k n])∧(∀ b,PV.cells (.bool b)=[.bool b])∧(∀ s,PV.cells (.str s)=[.str s])∧(∀ s x q,PV.cells (.sl s x q)=[.sl s x q])∧(∀ cs,PV.cells (.agg cs)=cs)∧(∀ k v,PV.cells (.bG k v)=[.bG k v])∧(∀ k v i f,PV.cells (.bI k v i f)=[.bI k v i f])∧(∀ x,PV.cells (.addr x)=[.addr x]):=
 ⟨fun _ _=>rfl,fun _=>rfl,fun _=>rfl,fun _ _ _=>rfl,fun _=>rfl,fun _ _=>rfl,fun _ _ _ _=>rfl,fun _=>rfl,rfl,fun _ _=>rfl,fun _=>rfl,fun _=>rfl,fun _ _ _=>rfl,fun _=>rfl,fun _ _=>rfl,fun _ _ _ _=>rfl,fun _=>rfl⟩
theorem II:(∀ (f:PV→Bool) x l,(x::l).all f=(f x && l.all f))∧(∀ f:PV→Bool,[].all f=true)∧(∀ (x:PV) l n,(x::l).take (n+1)=x::l.take n)∧(∀ l:List PV,l.take 0=[])∧(∀ (x:PV) l n,(x::l).drop (n+1)=l.drop n)∧(∀ l:List PV,l.drop 0=l)∧(∀ n,([]:List PV).take n=[])∧(∀ n,([]:List PV).drop n=[]):=
 ⟨fun _ _ _=>rfl,fun _=>rfl,fun _ _ _=>rfl,fun _=>by simp,fun _ _ _=>rfl,fun _=>rfl,fun _=>by simp,fun _=>by simp⟩
theorem fzR (d n:Nat) (objs:List Obj):(∀ k v,gQ d n objs (.bG k v)=eY d n objs (.bG k v))∧(∀ k v i f,gQ d n objs (.bI k v i f)=eY d n objs (.bI k v i f))∧(∀ l,gQ d n objs (.Fj l)=.Fj l)∧
  (∀ f a c,gQ d n objs (.fn f a c)=.fn f (a.map (eY d n objs)) (c.map (eY d n objs))):=⟨fun _ _=>rfl,fun _ _ _ _=>rfl,fun _=>rfl,fun _ _ _=>rfl⟩
theorem puR:(∀ k n,PV.pure (.int k n)=true)∧(∀ b,PV.pure (.bool b)=true)∧(∀ s,PV.pure (.str s)=true)∧(∀ s x q,PV.pure (.sl s x q)=true)∧(∀ x,PV.pure (.addr x)=true)∧(PV.pure .dead=true)∧(∀ l,PV.pure (.Fj l)=true):=
 ⟨fun _ _=>rfl,fun _=>rfl,fun _=>rfl,fun _ _ _=>rfl,fun _=>rfl,rfl,fun _=>rfl⟩
theorem zu {d n:Nat}{objs:List Obj}{k v i f:Nat}(h:n≤k):(eY d n objs (.bI k v i f)).pure=true:=by
 simp only [eY,if_neg (Nat.not_lt.2 h)]
 cases d <;> simp only [iY]
 · rfl
 · split
   · split
     · split <;> rfl
     · rfl
   · rfl
theorem GR {α β:Type}(a:α) (l:List α) (q:α→β→Prop):((∃ x y,(a::l)[0]?=some x∧q x y)=∃ y,q a y)∧(∀ n,(∃ x y,(a::l)[n+1]?=some x∧q x y)=∃ x y,l[n]?=some x∧q x y):=by
 refine ⟨propext ⟨?_,fun ⟨y,h⟩=>⟨a,y,rfl,h⟩⟩,fun n=>rfl⟩
 rintro ⟨x,y,h,hq⟩
 simp only [List.getElem?_cons_zero,Option.some.injEq] at h
 exact ⟨y,h ▸ hq⟩
theorem YD:(∀ (x p:Obj) l n,(x::l).set (n+1) p=x::l.set n p)∧(∀ (x p:Obj) l,(x::l).set 0 p=p::l)∧(∀ (x:Obj) l m,(x::l)++m=x::(l++m))∧(∀ m:List Obj,[]++m=m)∧(∀ (x:Obj) l,(x::l).length=l.length+1)∧(([]:List Obj).length=0):=
 ⟨fun _ _ _ _=>rfl,fun _ _ _=>rfl,fun _ _ _=>rfl,fun _=>rfl,fun _ _=>rfl,rfl⟩
end Lp
namespace Lp
open Go
def ae7 (ops:List Oper) (j:Nat):Option Nat:=(ops[j]?).bind (·.dst)
def acP (l:List Nat) (x:Nat):Bool:=l.any (Nat.beq x)
def ae8 (own:List Nat):Option Nat→Bool
 | some d=>acP own d
 | none=>false
def stepG (own:List Nat) (ops:List Oper) (o:Oper):Step:=⟨o.dst,o.op,match o.guard with
 | none=>none
 | some (j,b)=>some (ae7 ops j,b),ae8 own o.dst⟩
abbrev LpH:=Nat×Option (Nat×Nat)
def ae9 (nt m:Nat):List Bool:=(List.range nt).map (Nat.testBit m)
def wT (nt:Nat) (own wk:List Nat):Code→List LpH→LC×List LpH
 | .skip,k=>(.skip,k)
 | .ret,k=>(.ret,k)
 | .exit id,k=>(.exit id,k)
 | .region id ops false,k=>(bif acP wk id then .weak (.reg (ops.toList.map (stepG own ops.toList))) else .reg (ops.toList.map (stepG own ops.toList)),k)
 | .region id ops true,k=>(bif acP wk id then .weak (.draw (ops.toList.map (stepG own ops.toList)) (o9 ops.toList (masks ops.toList []))) else .draw (ops.toList.map (stepG own ops.toList)) (o9 ops.toList (masks ops.toList [])),k)
 | .seq a b,k=>
  match wT nt own wk a k with
  | (x,k')=>match wT nt own wk b k' with
   | (y,k'')=>(.seq x y,k'')
 | .cond c a b,k=>
  match wT nt own wk a k with
  | (x,k')=>match wT nt own wk b k' with
   | (y,k'')=>(.cond c x y,k'')
 | .block id b,k=>
  match wT nt own wk b k with
  | (x,k')=>(.block id x,k')
 | .loop b,k=>
  match wT nt own wk b k.tail with
  | (x,k')=>(.loop (ae9 nt (k.headD (0,none)).1) (k.headD (0,none)).2 x,k')
 | .rangeFunc f ps a b,k=>
  match wT nt own wk a k.tail with
  | (x,k')=>match wT nt own wk b k' with
   | (y,k'')=>(.rf f ps.toList (k.headD (0,none)).2 x y,k'')
 | _,k=>(.bad,k)
def gen (own:List Nat) (lps:List LpH) (wk:List Nat) (f:Func):LC:=
 match f.body with
 | some c=>(wT f.ntmps own wk c lps).1
 | none=>.bad
def ji:Code→Bool
 | .region _ ops true=>fT ops.toList (masks ops.toList [])
 | .seq a b=>ji a && ji b
 | .cond _ a b=>ji a && ji b
 | .block _ c=>ji c
 | .loop c=>ji c
 | .rangeFunc _ _ a b=>ji a && ji b
 | _=>true
theorem En (own:List Nat) (ops l:List Oper):(l.map (stepG own ops)).map zM=l.map (stepOf ops):=by
 rw [List.map_map]
 exact List.map_congr_left fun o _=>rfl
theorem Bc (b:Bool) (c:LC):strip (bif b then .weak c else c)=strip c:=by cases b <;> rfl
theorem jJ (nt:Nat) (own wk:List Nat):∀ (c:Code),ji c=true→∀ (k:List LpH),strip (wT nt own wk c k).1=comp c
 | .skip,_,_=>rfl
 | .ret,_,_=>rfl
 | .exit _,_,_=>rfl
 | .region id ops false,_,_=>by
  simp only [wT,Bc,strip,En,comp]
 | .region id ops true,h,_=>by
  simp only [ji] at h
  simp only [wT,Bc,strip,En,comp,h,cond_true]
 | .seq a b,h,k=>by
  simp only [ji,Bool.and_eq_true] at h
  simp only [wT,strip,comp,jJ nt own wk a h.1,jJ nt own wk b h.2]
 | .cond c a b,h,k=>by
  simp only [ji,Bool.and_eq_true] at h
  simp only [wT,strip,comp,jJ nt own wk a h.1,jJ nt own wk b h.2]
 | .block id c,h,k=>by
  simp only [ji] at h
  simp only [wT,strip,comp,jJ nt own wk c h]
 | .loop c,h,k=>by
  simp only [ji] at h
  simp only [wT,strip,comp,jJ nt own wk c h]
 | .rangeFunc f ps a b,h,k=>by
  simp only [ji,Bool.and_eq_true] at h
  simp only [wT,strip,comp,jJ nt own wk a h.1,jJ nt own wk b h.2]
 | .scope _,_,_=>rfl
 | .label _,_,_=>rfl
 | .goto _,_,_=>rfl
 | .refuse _,_,_=>rfl
def okF (f:Func) (n:Nat):Bool:=!(f.name== "runtime.NumGoroutine") && Nat.beq f.ntmps n && match f.body with | some c=>ji c | none=>false
theorem bB {P:Program}{f:FuncId}{fn:Func}{n:Nat}{rs:List ResultVar}{own wk:List Nat}{lps:List LpH}(h:P.funcs[f]?=some fn) (hr:fn.results=rs.toArray) (hk:okF fn n=true):aP P f n rs (gen own lps wk fn):=by
 unfold okF at hk
 rw [Bool.and_eq_true,Bool.and_eq_true] at hk
 obtain ⟨⟨h1,h2⟩,h3⟩:=hk
 cases hb:fn.body with
 | none=>rw [hb] at h3;cases h3
 | some c=>
  rw [hb] at h3
  refine ⟨fn,c,h,by simpa using h1,hb,Nat.eq_of_beq_eq_true h2,hr,?_⟩
  unfold gen
  rw [hb]
  exact jJ _ _ _ _ h3 _
def YE (P:Program) (t:TypeId):aD:=
 match P.info? t,P.underlying t with
 | some i,some d=>match i.zero with
  | some z=>bif Nat.beq t MT then aD.off else ⟨kindOf d,i.size,i.bytes,z⟩
  | none=>aD.off
 | _,_=>aD.off
theorem YF {P:Program}(t:TypeId):iN P t (YE P t):=by
 unfold YE
 split
 · rename_i i d hi hu
   split
   · rename_i z hz
     cases hm:Nat.beq t MT with
     | true=>exact LB
     | false=>exact acL (by rw [hi,Option.map_some,hz]) (by rw [hu];rfl) hm
   · exact LB
 · exact LB
end Lp
namespace Lp
open Go Go.Proofs
noncomputable def D:TypeId→aD:=YE Tryz.prog
theorem hD (t:TypeId):iN Tryz.prog t (D t):=YF t
theorem a_:Tryz.prog.follows .mixedOrders=true:=by kernel_rfl
theorem bM:D 3=⟨(.int .i64),1,8,.int .i64 0⟩∧D 4=⟨.bool,1,1,.bool false⟩∧D 5=⟨(.int .u8),1,1,.int .u8 0⟩∧D 9=⟨.str,1,16,.string ⟨⟨[]⟩⟩⟩∧D 21=⟨(.int .i32),1,4,.int .i32 0⟩∧D 22=⟨(.slice 51),1,24,.slice none 0 0⟩∧D 23=⟨(.slice 51),1,24,.slice none 0 0⟩∧D 25=⟨(.slice 61),1,24,.slice none 0 0⟩∧D 27=⟨(.struct [(0,3),(1,3),(2,9),(3,9),(4,4),(5,3)]),6,64,.agg ⟨[.int .i64 0,.int .i64 0,.string ⟨⟨[]⟩⟩,.string ⟨⟨[]⟩⟩,.bool false,.int .i64 0]⟩⟩∧D 29=⟨(.struct [(0,3),(1,27)]),7,72,.agg ⟨[.int .i64 0,.int .i64 0,.int .i64 0,.string ⟨⟨[]⟩⟩,.string ⟨⟨[]⟩⟩,.bool false,.int .i64 0]⟩⟩∧D 34=⟨(.int .i64),1,8,.int .i64 0⟩∧D 40=⟨(.slice 27),1,24,.slice none 0 0⟩∧D 41=⟨(.slice 27),1,24,.slice none 0 0⟩∧D 43=⟨(.struct [(0,23),(1,25),(2,29),(9,41)]),10,144,.agg ⟨[.slice none 0 0,.slice none 0 0,.int .i64 0,.int .i64 0,.int .i64 0,.string ⟨⟨[]⟩⟩,.string ⟨⟨[]⟩⟩,.bool false,.int .i64 0,.slice none 0 0]⟩⟩∧D 51=⟨(.struct [(0,3),(1,3),(2,9),(3,9),(4,3),(5,27)]),11,120,.agg ⟨[.int .i64 0,.int .i64 0,.string ⟨⟨[]⟩⟩,.string ⟨⟨[]⟩⟩,.int .i64 0,.int .i64 0,.int .i64 0,.string ⟨⟨[]⟩⟩,.string ⟨⟨[]⟩⟩,.bool false,.int .i64 0]⟩⟩∧D 52=⟨(.slice 3),1,24,.slice none 0 0⟩∧D 54=⟨(.slice 23),1,24,.slice none 0 0⟩∧D 55=⟨(.array 2 3),2,16,.agg ⟨[.int .i64 0,.int .i64 0]⟩⟩∧D 56=⟨(.slice 29),1,24,.slice none 0 0⟩∧D 61=⟨(.struct [(0,4),(1,9),(2,3)]),3,32,.agg ⟨[.bool false,.string ⟨⟨[]⟩⟩,.int .i64 0]⟩⟩∧D 80=⟨(.slice 41),1,24,.slice none 0 0⟩∧D 91=⟨(.slice 9),1,24,.slice none 0 0⟩∧D 117=⟨(.map 9 23),1,8,.map none⟩∧D 131=⟨(.map 3 3),1,8,.map none⟩∧D 140=⟨(.slice 4),1,24,.slice none 0 0⟩∧D 146=⟨(.slice 5),1,24,.slice none 0 0⟩∧D 167=⟨(.struct [(0,3),(1,3),(2,4),(3,9)]),4,40,.agg ⟨[.int .i64 0,.int .i64 0,.bool false,.string ⟨⟨[]⟩⟩]⟩⟩∧D 168=⟨(.slice 167),1,24,.slice none 0 0⟩:=by (repeat' constructor) <;> kernel_rfl
end Lp
namespace Lp
open Go Go.Proofs
theorem Oz:aP Tryz.prog 128 60 [.tmp 4] (gen [] [] [] Tryz.f128):=bB Tryz.func128 rfl (by kernel_rfl)
theorem Dl:aP Tryz.prog 51 82 [.tmp 4] (gen [] [] [] Tryz.f51):=bB Tryz.func51 rfl (by kernel_rfl)
theorem Dm:aP Tryz.prog 25 17 [.tmp 2] (gen [] [(9,none)] [] Tryz.f25):=bB Tryz.func25 rfl (by kernel_rfl)
theorem zP:aP Tryz.prog 36 39 [.tmp 2] (gen [] [(9,none)] [] Tryz.f36):=bB Tryz.func36 rfl (by kernel_rfl)
theorem zQ:aP Tryz.prog 145 20 [.tmp 4] (gen [] [] [] Tryz.f145):=bB Tryz.func145 rfl (by kernel_rfl)
theorem V4:aP Tryz.prog 146 30 [.tmp 4] (gen [] [] [1] Tryz.f146):=bB Tryz.func146 rfl (by kernel_rfl)
theorem vZ:aP Tryz.prog 147 20 [.tmp 4] (gen [] [] [] Tryz.f147):=bB Tryz.func147 rfl (by kernel_rfl)
theorem l8:aP Tryz.prog 148 36 [.tmp 4] (gen [] [(3587,none)] [] Tryz.f148):=bB Tryz.func148 rfl (by kernel_rfl)
theorem OA:aP Tryz.prog 149 19 [.tmp 2] (gen [] [(0,none)] [] Tryz.f149):=bB Tryz.func149 rfl (by kernel_rfl)
theorem fP:aP Tryz.prog 150 39 [.tmp 6] (gen [] [(14343,none)] [] Tryz.f150):=bB Tryz.func150 rfl (by kernel_rfl)
theorem OB:aP Tryz.prog 151 15 [.tmp 2] (gen [] [(0,none)] [] Tryz.f151):=bB Tryz.func151 rfl (by kernel_rfl)
theorem Bd:aP Tryz.prog 78 7 [.tmp 4] (gen [] [] [] Tryz.f78):=bB Tryz.func78 rfl (by kernel_rfl)
theorem Dn:aP Tryz.prog 79 56 [.tmp 4] (gen [] [(172,none)] [1] Tryz.f79):=bB Tryz.func79 rfl (by kernel_rfl)
theorem Be:aP Tryz.prog 80 42 [.tmp 4] (gen [] [(35,none)] [] Tryz.f80):=bB Tryz.func80 rfl (by kernel_rfl)
theorem zR:aP Tryz.prog 42 28 [.tmp 2] (gen [7] [(57,none)] [] Tryz.f42):=bB Tryz.func42 rfl (by kernel_rfl)
theorem zS:aP Tryz.prog 81 48 [.tmp 4] (gen [] [(35,none)] [] Tryz.f81):=bB Tryz.func81 rfl (by kernel_rfl)
theorem zT:aP Tryz.prog 82 34 [.tmp 2] (gen [6] [(57,none)] [] Tryz.f82):=bB Tryz.func82 rfl (by kernel_rfl)
noncomputable def rz:LC:=(gen [] [] [] Tryz.f62)
theorem Bf:aP Tryz.prog 62 109 [.tmp 4] rz:=bB Tryz.func62 rfl (by kernel_rfl)
theorem Bg:aP Tryz.prog 68 41 [.tmp 4] (gen [] [(35,none)] [] Tryz.f68):=bB Tryz.func68 rfl (by kernel_rfl)
theorem zU:aP Tryz.prog 69 48 [.tmp 2] (gen [] [] [] Tryz.f69):=bB Tryz.func69 rfl (by kernel_rfl)
theorem yP:aP Tryz.prog 70 75 [.tmp 4] (gen [] [(99,none)] [] Tryz.f70):=bB Tryz.func70 rfl (by kernel_rfl)
theorem Dp:aP Tryz.prog 171 6 [.tmp 2] (gen [] [] [] Tryz.f171):=bB Tryz.func171 rfl (by kernel_rfl)
theorem RI:aP Tryz.prog 172 42 [.tmp 4] (gen [] [] [1] Tryz.f172):=bB Tryz.func172 rfl (by kernel_rfl)
theorem yQ:aP Tryz.prog 173 6 [.tmp 2] (gen [] [] [] Tryz.f173):=bB Tryz.func173 rfl (by kernel_rfl)
theorem RJ:aP Tryz.prog 174 4 [.tmp 2] (gen [] [] [] Tryz.f174):=bB Tryz.func174 rfl (by kernel_rfl)
theorem ES:aP Tryz.prog 100 30 [.tmp 4] (gen [] [] [1] Tryz.f100):=bB Tryz.func100 rfl (by kernel_rfl)
theorem Dq:aP Tryz.prog 74 23 [.tmp 6] (gen [9] [] [] Tryz.f74):=bB Tryz.func74 rfl (by kernel_rfl)
theorem Bh:aP Tryz.prog 92 21 [.tmp 4] (gen [] [] [] Tryz.f92):=bB Tryz.func92 rfl (by kernel_rfl)
theorem zV:aP Tryz.prog 97 72 [.tmp 2] (gen [] [] [1] Tryz.f97):=bB Tryz.func97 rfl (by kernel_rfl)
theorem LF:aP Tryz.prog 186 34 [] (gen [] [(1547,none)] [6] Tryz.f186):=bB Tryz.func186 rfl (by kernel_rfl)
theorem LG:aP Tryz.prog 187 19 [.tmp 4] (gen [] [(35,none)] [] Tryz.f187):=bB Tryz.func187 rfl (by kernel_rfl)
theorem iR:aP Tryz.prog 188 8 [.tmp 2] (gen [5] [] [] Tryz.f188):=bB Tryz.func188 rfl (by kernel_rfl)
theorem wU:aP Tryz.prog 108 20 [.tmp 2] (gen [] [(9,none)] [] Tryz.f108):=bB Tryz.func108 rfl (by kernel_rfl)
end Lp
namespace Lp
open Go Go.Proofs
end Lp
namespace Lp
open Go Go.Proofs
end Lp
namespace Lp
open Go Go.Proofs
theorem I8:aP Tryz.prog 141 48 [.tmp 2] (gen [] [] [2] Tryz.f141):=bB Tryz.func141 rfl (by kernel_rfl)
theorem OC:aP Tryz.prog 168 54 [.tmp 2] (gen [] [] [1] Tryz.f168):=bB Tryz.func168 rfl (by kernel_rfl)
theorem I9:aP Tryz.prog 134 17 [.tmp 4] (gen [] [] [] Tryz.f134):=bB Tryz.func134 rfl (by kernel_rfl)
theorem ET:aP Tryz.prog 131 6 [.tmp 2] (gen [] [] [] Tryz.f131):=bB Tryz.func131 rfl (by kernel_rfl)
theorem OD:aP Tryz.prog 127 123 [.tmp 2] (gen [9] [(7177,some (1,1)),(7209,none)] [19] Tryz.f127):=bB Tryz.func127 rfl (by kernel_rfl)
theorem I_:aP Tryz.prog 144 6 [.tmp 2] (gen [] [] [] Tryz.f144):=bB Tryz.func144 rfl (by kernel_rfl)
theorem jK:aP Tryz.prog 143 9 [.tmp 4] (gen [] [] [] Tryz.f143):=bB Tryz.func143 rfl (by kernel_rfl)
theorem j5:aP Tryz.prog 170 19 [.tmp 4] (gen [] [(387,none)] [] Tryz.f170):=bB Tryz.func170 rfl (by kernel_rfl)
end Lp
namespace Lp
open Go Go.Proofs
theorem fI:aP Tryz.prog 104 19 [.tmp 4] (gen [] [(387,none)] [] Tryz.f104):=bB Tryz.func104 rfl (by kernel_rfl)
theorem eZ:aP Tryz.prog 86 9 [.tmp 4] (gen [] [] [] Tryz.f86):=bB Tryz.func86 rfl (by kernel_rfl)
theorem GU:aP Tryz.prog 115 11 [.tmp 2] (gen [] [] [1] Tryz.f115):=bB Tryz.func115 rfl (by kernel_rfl)
theorem LH:aP Tryz.prog 117 36 [.tmp 4] (gen [] [] [1] Tryz.f117):=bB Tryz.func117 rfl (by kernel_rfl)
theorem Ja:aP Tryz.prog 103 22 [.tmp 6] (gen [] [] [1] Tryz.f103):=bB Tryz.func103 rfl (by kernel_rfl)
theorem EU:aP Tryz.prog 116 8 [.tmp 3] (gen [] [] [1] Tryz.f116):=bB Tryz.func116 rfl (by kernel_rfl)
theorem OE:aP Tryz.prog 89 9 [.tmp 2] (gen [] [] [] Tryz.f89):=bB Tryz.func89 rfl (by kernel_rfl)
theorem V5:aP Tryz.prog 124 31 [.tmp 2] (gen [] [] [] Tryz.f124):=bB Tryz.func124 rfl (by kernel_rfl)
theorem OG:aP Tryz.prog 125 25 [.tmp 2] (gen [] [] [] Tryz.f125):=bB Tryz.func125 rfl (by kernel_rfl)
theorem Jb:aP Tryz.prog 114 63 [.cell 4 27,.tmp 5] (gen [] [] [] Tryz.f114):=bB Tryz.func114 rfl (by kernel_rfl)
theorem Bj:aP Tryz.prog 102 4 [.tmp 2] (gen [] [] [1] Tryz.f102):=bB Tryz.func102 rfl (by kernel_rfl)
theorem yR:aP Tryz.prog 113 90 [] (gen [18] [(3670027,none),(120262754347,none),(2017612633061982217,none),(4231240368651202111471617,none)] [6,12,13,20,21,24] Tryz.f113):=bB Tryz.func113 rfl (by kernel_rfl)
theorem LJ:aP Tryz.prog 85 16 [.cell 4 27,.cell 5 4] (gen [] [(0,some (1,6))] [] Tryz.f85):=bB Tryz.func85 rfl (by kernel_rfl)
theorem RL:aP Tryz.prog 123 50 [.cell 6 27,.tmp 7] (gen [] [] [] Tryz.f123):=bB Tryz.func123 rfl (by kernel_rfl)
theorem Bl:aP Tryz.prog 50 28 [.tmp 4] (gen [] [] [] Tryz.f50):=bB Tryz.func50 rfl (by kernel_rfl)
theorem zW:aP Tryz.prog 26 11 [.tmp 2] (gen [] [] [1] Tryz.f26):=bB Tryz.func26 rfl (by kernel_rfl)
theorem zX:aP Tryz.prog 9 16 [.tmp 2] (gen [] [] [1] Tryz.f9):=bB Tryz.func9 rfl (by kernel_rfl)
theorem Dr:aP Tryz.prog 22 33 [.tmp 4] (gen [] [(35,none)] [] Tryz.f22):=bB Tryz.func22 rfl (by kernel_rfl)
theorem zY:aP Tryz.prog 19 14 [.tmp 4] (gen [] [] [1] Tryz.f19):=bB Tryz.func19 rfl (by kernel_rfl)
theorem Bn:aP Tryz.prog 73 16 [.tmp 4] (gen [] [(35,none)] [] Tryz.f73):=bB Tryz.func73 rfl (by kernel_rfl)
theorem yS:aP Tryz.prog 40 31 [.tmp 6] (gen [] [(162,none)] [1] Tryz.f40):=bB Tryz.func40 rfl (by kernel_rfl)
end Lp
namespace Lp
open Go
def zZ (b:Bool) (X Y:Prop):Prop:=(b=true→X)∧(b=false→Y)
@[congr] theorem adz {b b':Bool}{X Y:Prop}(h:b=b'):zZ b X Y=zZ b' X Y:=by rw [h]
theorem ifR :
  (∀ X Y,zZ true X Y=X)∧(∀ X Y,zZ false X Y=Y)∧
  (∀ (p:Prop) [Decidable p] X Y,zZ (decide p) X Y=((p→X)∧(¬ p→Y)))∧
  (∀ b X Y,zZ (!b) X Y=zZ b Y X)∧
  (∀ a b X Y,zZ (a && b) X Y=zZ a (zZ b X Y) Y)∧
  (∀ a b X Y,zZ (a || b) X Y=zZ a X (zZ b X Y))∧
  (∀ (x y:List UInt8) X Y,zZ (x==y) X Y=((x=y→X)∧(x≠y→Y)))∧
  (∀ (x y:Bool) X Y,zZ (x==y) X Y=((x=y→X)∧(x≠y→Y))):=by
 refine ⟨fun X Y=>?_,fun X Y=>?_,fun p _ X Y=>?_,fun b X Y=>?_,fun a b X Y=>?_,fun a b X Y=>?_,fun x y X Y=>?_,fun x y X Y=>?_⟩
 · simp [zZ]
 · simp [zZ]
 · simp [zZ]
 · cases b <;> simp [zZ]
 · cases a <;> simp [zZ]
 · cases a <;> simp [zZ]
 · simp [zZ]
 · simp [zZ]
theorem adS :
  (∀ (n:St→Prop) (Q:Exit→St→Prop) S,thenS n Q .normal S=n S)∧
  (∀ (n:St→Prop) (Q:Exit→St→Prop) S,thenS n Q .ret S=Q .ret S)∧
  (∀ (n:St→Prop) (Q:Exit→St→Prop) S id,thenS n Q (.exit id) S=Q (.exit id) S)∧
  (∀ (Q:Exit→St→Prop) S id,rQ id Q .normal S=Q .normal S)∧
  (∀ (Q:Exit→St→Prop) S id,rQ id Q .ret S=Q .ret S)∧
  (∀ (Q:Exit→St→Prop) S id id',rQ id Q (.exit id') S=if id'=id then Q .normal S else Q (.exit id') S)∧
  (∀ b X Y,zh (.bool b) X Y=zZ b X Y):=
 ⟨fun _ _ _=>rfl,fun _ _ _=>rfl,fun _ _ _ _=>rfl,fun _ _ _=>rfl,fun _ _ _=>rfl,fun _ _ _ _=>rfl,fun _ _ _=>rfl⟩
theorem adT :
  (∀ (S:St) (X Y:St→Prop),wM none S X Y=X S)∧
  (∀ d w (S:St) (X Y:St→Prop),wM (some (some d,w)) S X Y=lM (S.tmps.getD d .dead) d w S X Y)∧
  (∀ b d (S:St) (X Y:St→Prop),lM (.bool b) d true S X Y=zZ b (X { S with tmps:=S.tmps.set d (.bool true) }) (Y { S with tmps:=S.tmps.set d (.bool false) }))∧
  (∀ b d (S:St) (X Y:St→Prop),lM (.bool b) d false S X Y=zZ b (Y { S with tmps:=S.tmps.set d (.bool true) }) (X { S with tmps:=S.tmps.set d (.bool false) }))∧
  (∀ d w (S:St) (X Y:St→Prop),lM (.b_ []) d w S X Y=Y S):=
 ⟨fun _ _ _=>rfl,fun _ _ _ _ _=>rfl,fun _ _ _ _ _=>rfl,fun b _ _ _ _=>by cases b <;> simp [lM,zZ],fun _ _ _ _ _=>rfl⟩
structure HQ (C:LC) (Q:Exit→St→Prop):Type where
def acQ (P:Program) (D:TypeId→aD) (T:Know){C:LC}{Q:Exit→St→Prop}(_h:HQ C Q) (S:St):Prop:=kW P D T C Q S
theorem hoR (P:Program) (D:TypeId→aD) (T:Know) :
  (∀ ks fz c (Q:Exit→St→Prop) S,kW P D T (.loop ks fz c) Q S=acQ P D T (HQ.mk:HQ (.loop ks fz c) Q) S)∧
  (∀ c (Q:Exit→St→Prop) S,kW P D T (.weak c) Q S=acQ P D T (HQ.mk:HQ (.weak c) Q) S)∧
  (∀ f ps fz x y (Q:Exit→St→Prop) S,kW P D T (.rf f ps fz x y) Q S=acQ P D T (HQ.mk:HQ (.rf f ps fz x y) Q) S):=
 ⟨fun _ _ _ _ _=>rfl,fun _ _ _=>rfl,fun _ _ _ _ _ _ _=>rfl⟩
def l_:List (Nat×PV)→Nat→PV
 | [],_=>.dead
 | (j,p)::l,i=>if i=j then p else l_ l i
def dI (n:Nat) (l:List (Nat×PV)):List PV:=(List.range n).map (l_ l)
theorem nS (n:Nat) (l:List (Nat×PV)):(dI n l).length=n:=by simp [dI]
theorem uU (n:Nat) (l:List (Nat×PV)) (i:Nat):(dI n l)[i]?=if i<n then some (l_ l i) else none:=by
 simp only [dI,List.getElem?_map]
 split
 · rename_i h;rw [List.getElem?_range h];rfl
 · rename_i h;rw [List.getElem?_eq_none (by simpa using h)];rfl
theorem xX {n:Nat}{l:List (Nat×PV)}{m:List PV}(hm:m.length=n) (h:∀ i,i<n→m[i]?=some (l_ l i)):m=dI n l:=by
 refine List.ext_getElem? fun i=>?_
 rw [uU]
 split
 · rename_i hi;exact h i hi
 · rename_i hi;exact List.getElem?_eq_none (by omega)
def OH (d n:Nat) (objs:List Obj):List (Nat×PV)→List (Nat×PV)
 | []=>[]
 | (j,p)::l=>(j,gQ d n objs p)::OH d n objs l
def fgA (ks:List Bool):List (Nat×PV)→List (Nat×PV)
 | []=>[]
 | (j,p)::l=>if ks[j]?=some true then (j,p)::fgA ks l else fgA ks l
theorem UH (d n:Nat) (objs:List Obj):∀ (l:List (Nat×PV)) i,l_ (OH d n objs l) i=gQ d n objs (l_ l i)
 | [],i=>by simp [l_,OH,gQ,eY]
 | (j,p)::l,i=>by
  simp only [l_,OH]
  split
  · rfl
  · exact UH d n objs l i
theorem YG (ks:List Bool):∀ (l:List (Nat×PV)) i,l_ (fgA ks l) i=if ks[i]?=some true then l_ l i else .dead
 | [],i=>by simp [l_,fgA]
 | (j,p)::l,i=>by
  have ih:=YG ks l i
  simp only [fgA]
  split
  · rename_i h
    simp only [l_]
    by_cases hij:i=j
    · subst hij;simp [h]
    · simp only [hij,if_false,ih]
  · rename_i h
    rw [ih]
    by_cases hij:i=j
    · subst hij;simp [h]
    · simp [l_,hij]
theorem wV:∀ (ks:List Bool) (l:List PV) (i:Nat),(yM ks l)[i]?=l[i]?.map fun p=>if ks[i]?=some true then p else .dead
 | ks,[],i=>by cases ks <;> simp [yM]
 | [],p::ps,0=>by simp [yM]
 | [],p::ps,i+1=>by simpa [yM] using wV [] ps i
 | true::ks,p::ps,0=>by simp [yM]
 | false::ks,p::ps,0=>by simp [yM]
 | true::ks,p::ps,i+1=>by simpa [yM] using wV ks ps i
 | false::ks,p::ps,i+1=>by simpa [yM] using wV ks ps i
theorem nu :
  (∀ i p l,l_ ((i,p)::l) i=p)∧(∀ i j p l,(i==j)=false→l_ ((j,p)::l) i=l_ l i)∧(∀ i,l_ [] i=.dead):=by
 refine ⟨fun i p l=>by simp [l_],fun i j p l h=>?_,fun _=>rfl⟩
 simp only [l_]
 rw [if_neg (by simpa using h)]
theorem rW :
  (∀ n l i p,(dI n l).set i p=dI n ((i,p)::l))∧
  (∀ n l i,i<n→(dI n l).getD i .dead=l_ l i)∧
  (∀ n l d k objs,(dI n l).map (gQ d k objs)=dI n (OH d k objs l))∧
  (∀ ks n l,yM ks (dI n l)=dI n (fgA ks l))∧
  (∀ d n objs,OH d n objs []=[])∧(∀ d n objs j p l,OH d n objs ((j,p)::l)=(j,gQ d n objs p)::OH d n objs l):=by
 refine ⟨fun n l i p=>?_,fun n l i h=>?_,fun n l d k objs=>?_,fun ks n l=>?_,fun _ _ _=>rfl,fun _ _ _ _ _ _=>rfl⟩
 · refine xX (by simp [nS]) fun k hk=>?_
   rw [List.getElem?_set]
   simp only [l_]
   split
   · rename_i h;subst h;simp [nS,hk]
   · rename_i h;rw [uU,if_pos hk,if_neg (fun h'=>h h'.symm)]
 · rw [List.getD_eq_getElem?_getD,uU,if_pos h];rfl
 · refine xX (by simp [nS]) fun i hi=>?_
   rw [List.getElem?_map,uU,if_pos hi,UH];rfl
 · refine xX (by simp [nO,nS]) fun i hi=>?_
   rw [wV,uU,if_pos hi,YG];rfl
theorem YH :
  (∀ n,bV [] n=⟨dI n [],[]⟩)∧
  (∀ a n,1≤n→bV [a] n=⟨dI n [(0,a)],[]⟩)∧
  (∀ a b n,2≤n→bV [a,b] n=⟨dI n [(0,a),(1,b)],[]⟩)∧
  (∀ a b c n,3≤n→bV [a,b,c] n=⟨dI n [(0,a),(1,b),(2,c)],[]⟩)∧
  (∀ a b c d n,4≤n→bV [a,b,c,d] n=⟨dI n [(0,a),(1,b),(2,c),(3,d)],[]⟩)∧
  (∀ a b c d e n,5≤n→bV [a,b,c,d,e] n=⟨dI n [(0,a),(1,b),(2,c),(3,d),(4,e)],[]⟩):=by
 have key:∀ (args:List PV) (n:Nat) (l:List (Nat×PV)),args.length≤n→(∀ i,i<n→args.getD i .dead=l_ l i)→bV args n=⟨dI n l,[]⟩:=by
  intro args n l h1 h2
  have:args++List.replicate (n-args.length) PV.dead=dI n l:=by
   refine xX (by simp;omega) fun i hi=>?_
   rw [← h2 i hi,List.getElem?_append,List.getD_eq_getElem?_getD]
   split
   · rename_i h;rw [List.getElem?_eq_getElem h];rfl
   · rename_i h;rw [List.getElem?_replicate,if_pos (by omega),List.getElem?_eq_none (by omega)];rfl
  rw [bV,this]
 refine ⟨fun n=>key _ _ _ (by simp) ?_,fun a n h=>key _ _ _ h ?_,fun a b n h=>key _ _ _ h ?_,fun a b c n h=>key _ _ _ h ?_,fun a b c d n h=>key _ _ _ h ?_,fun a b c d e n h=>key _ _ _ h ?_⟩
 all_goals
  intro i _
  match i with
  | 0=>rfl
  | 1=>rfl
  | 2=>rfl
  | 3=>rfl
  | 4=>rfl
  | i+5=>simp [l_]
theorem acR :
  (∀ tm ob d p,St.put ⟨tm,ob⟩ (some d) p=⟨tm.set d p,ob⟩)∧
  (∀ tm ob p,St.put ⟨tm,ob⟩ none p=⟨tm,ob⟩)∧
  (∀ tm ob t,St.ev ⟨tm,ob⟩ (.tmp t)=tm.getD t .dead)∧
  (∀ (S:St) v,S.ev (.const v)=.vX v)∧
  (∀ (S:St) f,S.ev (.func f)=.fn f [] [])∧
  (∀ k n,PV.vX (.int k n)=.int k n)∧(∀ b,PV.vX (.bool b)=.bool b)∧(∀ l,PV.vX (.string ⟨⟨l⟩⟩)=.str l)∧
  (PV.vX (.slice none 0 0)=.sl 0 [] (some true))∧(PV.vX (.pointer none)=.AA)∧(PV.vX .nilFunc=.CX):=
 ⟨fun _ _ _ _=>rfl,fun _ _ _=>rfl,fun _ _ _=>rfl,fun _ _=>rfl,fun _ _=>rfl,
  fun _ _=>rfl,fun _=>rfl,fun _=>rfl,rfl,rfl,rfl⟩
end Lp
namespace Lp
open Go
def ay (n:Nd):PV:=.agg [.int .i64 n.kind,.int .i64 n.many,.str n.name,.str n.s,.bool n.neg,.int .i64 n.e]
def aS (v:Vl):PV:=.sl 6 (v.map ay) none
end Lp
namespace Lp
open Go
structure HK {α:Type}(K:α→Prop):Type where
def atO {α:Type}{K:α→Prop}(o:Option α) (_h:HK K):Prop:=∃ x,o=some x∧K x
theorem atR {α:Type}(K:α→Prop):(∀ x,atO (some x) (HK.mk:HK K)=K x)∧(∀ (a:α) l,(a::l)[0]?=some a)∧(∀ (a:α) l (n:Nat),(a::l)[n+1]?=l[n]?):=
 ⟨fun x=>by simp [atO],fun _ _=>rfl,fun _ _ _=>by simp⟩
def Kv (k:TK) (K:TypeId→Prop):Prop:=match k with
 | .slice e=>K e
 | _=>False
def arK (k:TK) (K:Nat→TypeId→Prop):Prop:=match k with
 | .array n e=>K n e
 | _=>False
def LK (k:TK) (X:Prop):Prop:=match k with
 | .str=>X
 | _=>False
@[congr] theorem adA {k k':TK}{K:TypeId→Prop}(h:k=k'):Kv k K=Kv k' K:=by rw [h]
@[congr] theorem adB {k k':TK}{K:Nat→TypeId→Prop}(h:k=k'):arK k K=arK k' K:=by rw [h]
@[congr] theorem acS {k k':TK}{X:Prop}(h:k=k'):LK k X=LK k' X:=by rw [h]
theorem skR:(∀ e K,Kv (.slice e) K=K e)∧(∀ n e K,arK (.array n e) K=K n e)∧(∀ X,LK .str X=X):=⟨fun _ _=>rfl,fun _ _ _=>rfl,fun _=>rfl⟩
theorem YI (D:TypeId→aD) (objs:List Obj) (K:KT) :
  (∀ t sz xs q k n,aZ D t (.sl sz xs q) (.int k n) objs K=Kv (D t).kind fun e=>(D e).kind≠.none∧0≤n∧(D e).size=sz∧atO xs[n.toNat]? (HK.mk:HK fun y=>K (.addr y) objs 0))∧
  (∀ t k ver k' n,aZ D t (.bG k ver) (.int k' n) objs K=Kv (D t).kind fun e=>(D e).kind≠.none∧0≤n∧∃ o,objs[k]?=some o∧o.live=true∧o.ver=ver∧n<o.xs.length∧(D e).size=o.sz∧K (.bI k ver n.toNat 0) objs (4+2*k))∧
  (∀ t cs k n,aZ D t (.addr (.agg cs)) (.int k n) objs K=arK (D t).kind fun m e=>(D e).kind≠.none∧0≤n∧n<m∧(n.toNat+1)*(D e).size≤cs.length∧((D e).agg=false→(D e).size=1)∧cs.all (fun c=>!c.isAgg)=true∧
   K (.addr (sub cs (n.toNat*(D e).size) (D e).size (D e).agg)) objs 0)∧
  (∀ t k ver i f k' n,aZ D t (.bI k ver i f) (.int k' n) objs K=arK (D t).kind fun m e=>(D e).kind≠.none∧0≤n∧n<m∧∃ o,objs[k]?=some o∧o.live=true∧o.ver=ver∧K (.bI k ver i (f+n.toNat*(D e).size)) objs (4+2*k))∧
  (∀ t s k n,lI D t (.str s) (.int k n) objs K=LK (D t).kind (0≤n∧atO s[n.toNat]? (HK.mk:HK fun b=>K (.int .u8 b.toNat) objs 0)))∧
  (∀ t cs k n,lI D t (.agg cs) (.int k n) objs K=arK (D t).kind fun m e=>(D e).kind≠.none∧0≤n∧n<m∧(n.toNat+1)*(D e).size≤cs.length∧(D e).size≠0∧K (sub cs (n.toNat*(D e).size) (D e).size (D e).agg) objs 0)∧
  (∀ t cs f,aK D t (.addr (.agg cs)) f objs K=d9 D t f fun off ti=>off+ti.size≤cs.length∧(ti.agg=false→ti.size=1)∧cs.all (fun c=>!c.isAgg)=true∧K (.addr (sub cs off ti.size ti.agg)) objs 0)∧
  (∀ t k ver i f' f,aK D t (.bI k ver i f') f objs K=∃ o,objs[k]?=some o∧o.live=true∧o.ver=ver∧d9 D t f fun off _=>K (.bI k ver i (f'+off)) objs (4+2*k))∧
  (∀ t cs f,oV D t (.agg cs) f objs K=d9 D t f fun off ti=>off+ti.size≤cs.length∧K (sub cs off ti.size ti.agg) objs 0)∧
  (∀ t s,qg D t (.str s) objs K=LK (D t).kind (K (.int .i64 s.length) objs 0))∧
  (∀ t sz xs q,qg D t (.sl sz xs q) objs K=Kv (D t).kind fun _=>K (.int .i64 xs.length) objs 0)∧
  (∀ t k ver,qg D t (.bG k ver) objs K=Kv (D t).kind fun _=>∃ o,objs[k]?=some o∧o.live=true∧o.ver=ver∧K (.int .i64 o.xs.length) objs (4+2*k))∧
  (∀ t s lo hi,jo D t (.str s) lo hi objs K=LK (D t).kind (dx lo 0 fun l=>dx hi s.length fun h=>0≤l∧l≤h∧h≤s.length∧K (.str ((s.take h.toNat).drop l.toNat)) objs 0))∧
  (∀ t sz xs q lo hi,jo D t (.sl sz xs q) lo hi objs K=Kv (D t).kind fun e=>(D e).kind≠.none∧(xs=[]∨(D e).size=sz)∧dx lo 0 fun l=>dx hi xs.length fun h=>0≤l∧l≤h∧h≤xs.length∧
   K (.sl sz ((xs.take h.toNat).drop l.toNat) q) objs 0)∧
  (∀ t k ver lo hi,jo D t (.bG k ver) lo hi objs K=Kv (D t).kind fun e=>(D e).kind≠.none∧∃ o,objs[k]?=some o∧o.live=true∧o.ver=ver∧(D e).size=o.sz∧lo=none∧dx hi o.xs.length fun h=>0≤h∧h≤o.xs.length∧
   K (.bG k (ver+1)) (objs.set k { o with xs:=o.xs.take h.toNat,ver:=ver+1 }) (5+2*k)):=by
 refine ⟨fun t sz xs q k n=>?_,fun t k ver k' n=>?_,fun t cs k n=>?_,fun t k ver i f k' n=>?_,fun t s k n=>?_,fun t cs k n=>?_,fun _ _ _=>rfl,fun _ _ _ _ _ _=>rfl,fun _ _ _=>rfl,fun t s=>?_,fun t sz xs q=>?_,fun t k ver=>?_,fun t s lo hi=>?_,fun t sz xs q lo hi=>?_,fun t k ver lo hi=>?_⟩
 all_goals try simp only [aZ,lI,qg,jo]
 all_goals cases (D t).kind <;> simp only [Kv,arK,LK,atO]
 apply propext
 constructor
 · rintro ⟨h1,h2,y,h3,h4,h5⟩;exact ⟨h1,h2,h4,y,h3,h5⟩
 · rintro ⟨h1,h2,h4,y,h3,h5⟩;exact ⟨h1,h2,y,h3,h4,h5⟩
theorem ldR (objs:List Obj) (K:KT) :
  (∀ ti x,fq ti (.addr x) objs K=(ti.kind≠.none∧x.cells.length=ti.size∧x.isAgg=ti.agg∧K x objs 0))∧
  (∀ ti k ver i f,fq ti (.bI k ver i f) objs K=∃ o e,objs[k]?=some o∧o.live=true∧o.ver=ver∧o.xs[i]?=some e∧ti.kind≠.none∧f+ti.size≤e.cells.length∧
   (ti.agg=false→ti.size=1)∧e.cells.all (fun c=>!c.isAgg)=true∧K (sub e.cells f ti.size ti.agg) objs (4+2*k)):=⟨fun _ _=>rfl,fun _ _ _ _ _=>rfl⟩
theorem YJ (D:TypeId→aD) (objs:List Obj) (K:List PV→Bool→Prop) :
  (∀ t sz xs q,mD D t (.sl sz xs q) objs K=Kv (D t).kind fun _=>K xs false)∧
  (∀ t k ver,mD D t (.bG k ver) objs K=Kv (D t).kind fun _=>∃ o,objs[k]?=some o∧o.live=true∧o.ver=ver∧K o.xs true)∧
  (∀ t s,mD D t (.str s) objs K=LK (D t).kind (K (s.map fun b=>.int .u8 b.toNat) false)):=by
 refine ⟨fun t sz xs q=>?_,fun t k ver=>?_,fun t s=>?_⟩
 all_goals simp only [mD]
 all_goals cases (D t).kind <;> simp only [Kv,LK]
@[congr] theorem acT {D:TypeId→aD}{t:TypeId}{x x':PV}{objs objs':List Obj}{K:List PV→Bool→Prop}(h:x=x') (ho:objs=objs'):mD D t x objs K=mD D t x' objs' K:=by rw [h,ho]
theorem ntR:noTwo []=true∧(∀ l,noTwo (0::l)=noTwo l)∧(∀ l,noTwo (1::l)=noTwo l)∧(∀ l,noTwo (4::l)=noTwo l)∧(∀ l,noTwo (6::l)=noTwo l)∧(∀ l,noTwo (8::l)=noTwo l)∧(∀ l,noTwo (10::l)=noTwo l):=
 ⟨rfl,fun _=>rfl,fun _=>rfl,fun _=>rfl,fun _=>rfl,fun _=>rfl,fun _=>rfl⟩
theorem sV {α:Type}{E:List α→PV}{sz:Nat}{enc:α→PV}(hE:∀ l,E l=.sl sz (l.map enc) none) (D:TypeId→aD) (objs:List Obj) (K:KT) :
  (∀ t l k n,aZ D t (E l) (.int k n) objs K=Kv (D t).kind fun e=>(D e).kind≠.none∧0≤n∧(D e).size=sz∧atO l[n.toNat]? (HK.mk:HK fun y=>K (.addr (enc y)) objs 0))∧
  (∀ t l,qg D t (E l) objs K=Kv (D t).kind fun _=>K (.int .i64 l.length) objs 0)∧
  (∀ t l lo hi,jo D t (E l) lo hi objs K=Kv (D t).kind fun e=>(D e).kind≠.none∧(l=[]∨(D e).size=sz)∧dx lo 0 fun a=>dx hi l.length fun h=>0≤a∧a≤h∧h≤l.length∧
   K (E ((l.take h.toNat).drop a.toNat)) objs 0):=by
 refine ⟨fun t l k n=>?_,fun t l=>?_,fun t l lo hi=>?_⟩
 all_goals simp only [hE,(YI D objs K).1,(YI D objs K).2.2.2.2.2.2.2.2.2.2.1,(YI D objs K).2.2.2.2.2.2.2.2.2.2.2.2.2.1]
 all_goals cases (D t).kind <;> simp only [Kv,atO,List.length_map,List.map_eq_nil_iff,List.map_drop,List.map_take]
 apply propext
 constructor
 · rintro ⟨h1,h2,h4,y,h3,h5⟩
   rw [List.getElem?_map] at h3
   cases hx:l[n.toNat]? with
   | none=>rw [hx] at h3;simp at h3
   | some x=>rw [hx] at h3;simp only [Option.map_some,Option.some.injEq] at h3;exact ⟨h1,h2,h4,x,rfl,h3 ▸ h5⟩
 · rintro ⟨h1,h2,h4,y,h3,h5⟩
   exact ⟨h1,h2,h4,enc y,by rw [List.getElem?_map,h3];rfl,h5⟩
theorem jO {α:Type}{E:List α→PV}{sz:Nat}{enc:α→PV}(hE:∀ l,E l=.sl sz (l.map enc) none) (D:TypeId→aD) (objs:List Obj) (K:List PV→Bool→Prop) :
  (∀ t l,mD D t (E l) objs K=Kv (D t).kind fun _=>K (l.map enc) false):=by
 intro t l
 rw [hE]
 exact (YJ D objs K).1 ..
theorem sW {α:Type}{E:List α→PV}{sz:Nat}{enc:α→PV}(hE:∀ l,E l=.sl sz (l.map enc) none) :
  (∀ l,(E l).cells=[E l])∧(∀ l,(E l).isAgg=false)∧(∀ l,(E l).pure=true)∧(∀ l,(E l).ref=false)∧(∀ l,(E l).lV=true)∧(∀ l,(E l).storable=true)∧
  (∀ d n O l,eY d n O (E l)=E l)∧(∀ d n O l,gQ d n O (E l)=E l):=by
 refine ⟨fun l=>?_,fun l=>?_,fun l=>?_,fun l=>?_,fun l=>?_,fun l=>?_,fun _ _ _ l=>?_,fun _ _ _ l=>?_⟩
 all_goals rw [hE];rfl
def fB {α:Type}(E:α→PV){K:α→Prop}(x:PV) (_h:HK K):Prop:=∃ v,x=E v∧K v
theorem aQ {α:Type}{E:α→PV}(hE:∀ a b,E a=E b→a=b) (K:α→Prop) (v:α):fB E (E v) (HK.mk:HK K)=K v:=
 propext ⟨fun ⟨w,h,hk⟩=>hE v w h ▸ hk,fun hk=>⟨v,rfl,hk⟩⟩
theorem nX {α:Type}{E:List α→PV}{sz:Nat}{enc:α→PV}(hE:∀ l,E l=.sl sz (l.map enc) none) (he:∀ a b,enc a=enc b→a=b):∀ a b,E a=E b→a=b:=by
 intro a b h
 rw [hE,hE] at h
 injection h with _ h _
 induction a generalizing b with
 | nil=>cases b with
  | nil=>rfl
  | cons y ys=>simp at h
 | cons x xs ih=>cases b with
  | nil=>simp at h
  | cons y ys=>
   simp only [List.map_cons,List.cons.injEq] at h
   rw [he x y h.1,ih ys h.2]
theorem exS {α:Type}(a:α) (q:α→Prop):(∃ o,some a=some o∧q o)=q a:=by simp
theorem adU:(∀ k n,PV.storable (.int k n)=true)∧(∀ b,PV.storable (.bool b)=true)∧(∀ s,PV.storable (.str s)=true)∧(∀ z xs q,PV.storable (.sl z xs q)=true)∧
  (∀ k v,PV.storable (.bG k v)=true)∧(∀ k v i f,PV.storable (.bI k v i f)=true)∧(∀ x,PV.storable (.addr x)=true):=
 ⟨fun _ _=>rfl,fun _=>rfl,fun _=>rfl,fun _ _ _=>rfl,fun _ _=>rfl,fun _ _ _ _=>rfl,fun _=>rfl⟩
theorem YK {α β:Type}(f:α→β) (l m:List α):l.map f++m.map f=(l++m).map f:=by simp
def vP {α:Type}(enc:α→PV):Prop:=∀ d n objs x,PV.bJ (iY d n objs) (enc x)=enc x
theorem iZ {α:Type}{E:List α→PV}{sz:Nat}{enc:α→PV}(hE:∀ l,E l=.sl sz (l.map enc) none) (h:vP enc) :
  (∀ d ty l v rest,eY (d+1) 0 (⟨ty,sz,l.map enc,true,v⟩::rest) (.bG 0 v)=E l)∧
  (∀ d ty l v o rest,eY (d+1) 0 (o::⟨ty,sz,l.map enc,true,v⟩::rest) (.bG 1 v)=E l)∧
  (∀ d ty l v o o' rest,eY (d+1) 0 (o::o'::⟨ty,sz,l.map enc,true,v⟩::rest) (.bG 2 v)=E l):=by
 have key:∀ d ty l v objs k,objs[k]?=some ⟨ty,sz,l.map enc,true,v⟩→eY (d+1) 0 objs (.bG k v)=E l:=by
  intro d ty l v objs k hk
  simp only [eY,Nat.not_lt_zero,if_false,iY,hk,Nat.zero_le,decide_true,Bool.and_self,BEq.rfl,if_true]
  rw [hE]
  congr 1
  rw [List.map_map]
  exact List.map_congr_left fun x _=>h d 0 objs x
 exact ⟨fun d ty l v rest=>key d ty l v _ 0 rfl,fun d ty l v o rest=>key d ty l v _ 1 rfl,fun d ty l v o o' rest=>key d ty l v _ 2 rfl⟩
theorem rX {α:Type}{enc:α→PV}{sz:Nat}(h1:∀ x,(enc x).cells.length=sz) (h2:∀ x,(enc x).cells.all PV.storable=true) (l:List α) :
  (∀ y,y ∈ l.map enc→y.cells.length=sz∧y.cells.all PV.storable=true)=True:=by
 refine eq_true fun y hy=>?_
 obtain ⟨x,_,rfl⟩:=List.mem_map.1 hy
 exact ⟨h1 x,h2 x⟩
theorem abH (y0:PV) (sz:Nat):(∀ y,y ∈ [y0]→y.cells.length=sz∧y.cells.all PV.storable=true)=(y0.cells.length=sz∧y0.cells.all PV.storable=true):=by simp
theorem Kw (E:PV) (h:E.ref=false) (k:Nat):(∀ k' v':Nat,E=.bG k' v'→¬ k'=k)=True:=by
 refine eq_true fun k' v' he=>?_
 rw [he] at h;cases h
def rC:List Bool→Nat→List (Nat×PV)→List (Nat×PV)
 | [],_,_=>[]
 | true::ks,i,l=>(i,l_ l i)::rC ks (i+1) l
 | false::ks,i,l=>rC ks (i+1) l
theorem GV:∀ (ks:List Bool) (j:Nat) (l:List (Nat×PV)) (i:Nat),l_ (rC ks j l) i=if j≤i∧ks[i-j]?=some true then l_ l i else .dead
 | [],j,l,i=>by simp [rC,l_]
 | true::ks,j,l,i=>by
  simp only [rC,l_]
  by_cases h:i=j
  · subst h;simp
  · rw [if_neg h,GV ks (j+1) l i]
    by_cases hj:j+1≤i
    · have e:i-j=(i-(j+1))+1:=by omega
      simp only [e,List.getElem?_cons_succ,hj,true_and,show j≤i by omega]
    · rw [if_neg (by omega),if_neg (by omega)]
 | false::ks,j,l,i=>by
  simp only [rC]
  rw [GV ks (j+1) l i]
  by_cases h:i=j
  · subst h;rw [if_neg (by omega),if_neg (by simp)]
  · by_cases hj:j+1≤i
    · have e:i-j=(i-(j+1))+1:=by omega
      simp only [e,List.getElem?_cons_succ,hj,true_and,show j≤i by omega]
    · rw [if_neg (by omega),if_neg (by omega)]
theorem OI (ks:List Bool) (n:Nat) (l:List (Nat×PV)):yM ks (dI n l)=dI n (rC ks 0 l):=by
 refine xX (by simp [nO,nS]) fun i hi=>?_
 rw [wV,uU,if_pos hi,GV]
 simp
theorem bW :
  (∀ ks n l ob,St.norm ks none ⟨dI n l,ob⟩=⟨dI n (rC ks 0 l),ob⟩)∧
  (∀ ks d k n l ob,St.norm ks (some (d,k)) ⟨dI n l,ob⟩=St.freeze d k ⟨dI n (rC ks 0 l),ob⟩):=by
 refine ⟨fun ks n l ob=>?_,fun ks d k n l ob=>?_⟩
 · simp only [St.norm,St.forget,OI]
 · simp only [St.norm,St.forget,OI]
theorem keepR:(∀ i l,rC [] i l=[])∧(∀ ks i l,rC (true::ks) i l=(i,l_ l i)::rC ks (i+1) l)∧(∀ ks i l,rC (false::ks) i l=rC ks (i+1) l):=
 ⟨fun _ _=>rfl,fun _ _ _=>rfl,fun _ _ _=>rfl⟩
theorem adV (T:Know) (K:KT) (objs:List Obj) (pt:Bool) :
  (∀ g args,nD T pt (.fn g [] []) args objs K=T.fn g args objs K)∧
  (∀ g c,nD T pt (.fn g [] [c]) [] objs K=T.fn g [c] objs K)∧
  (∀ g c a,nD T pt (.fn g [] [c]) [a] objs K=T.fn g [a,c] objs K)∧
  (∀ g c a b,nD T pt (.fn g [] [c]) [a,b] objs K=T.fn g [a,b,c] objs K)∧
  (∀ g c d a,nD T pt (.fn g [] [c,d]) [a] objs K=T.fn g [a,c,d] objs K)∧
  (∀ g c d a b,nD T pt (.fn g [] [c,d]) [a,b] objs K=T.fn g [a,b,c,d] objs K)∧
  (∀ l args,nD T pt (.Fj l) args objs K=(l=T.y∧pt=true∧args.all PV.pure=true∧T.Y args objs fun b o=>K (.bool b) o 2)):=by
 refine ⟨fun g args=>?_,fun _ _=>rfl,fun _ _ _=>rfl,fun _ _ _ _=>rfl,fun _ _ _ _=>rfl,fun _ _ _ _ _=>rfl,fun _ _=>rfl⟩
 simp [nD]
theorem aaR (K:KT) (objs:List Obj) (args:List PV) (c:dF) (l:List (FuncId×dF)) (f:FuncId) :
  (sS ((f,c)::l) f args objs K=c args objs K)∧(∀ g,(f==g)=false→sS ((g,c)::l) f args objs K=sS l f args objs K):=by
 refine ⟨by simp [sS],fun g h=>?_⟩
 rw [taR,h];rfl
@[congr] theorem YL {D:TypeId→aD}{b:Builtin}{ats adW:List TypeId}{args args':List Operand}{ev:Operand→PV}{objs:List Obj}{K:KT}(h:ats=adW) (h1:args=args'):fu D b ats args ev objs K=fu D b adW args' ev objs K:=by rw [h,h1]
theorem abI (P:Program) (D:TypeId→aD) (T:Know) (w pt:Bool) (ev:Operand→PV) (objs:List Obj) (K:KT) :
  (∀ x,lg P D T w pt ev objs (.move x) K=K (ev x) objs 0)∧(∀ x,lg P D T w pt ev objs (.assign x) K=K (ev x) objs 0)∧
  (∀ c x y,lg P D T w pt ev objs (.pick c x y) K=qZ (ev c) (ev x) (ev y) objs K)∧
  (∀ t,lg P D T w pt ev objs (.alloc t) K=rP t (D t) objs K)∧
  (∀ t x,lg P D T w pt ev objs (.box t x) K=IL t (D t) (ev x) objs K)∧
  (∀ t ps,lg P D T w pt ev objs (.build t ps) K=bF D t (ps.toList.map fun x=>(x.1,ev x.2)) objs K)∧
  (∀ t n ps,lg P D T w pt ev objs (.buildSlice t n ps) K=bL D w t n (ps.toList.map fun x=>(x.1,ev x.2)) objs K)∧
  (∀ t x,lg P D T w pt ev objs (.load t x) K=fq (D t) (ev x) objs K)∧
  (∀ t x y,lg P D T w pt ev objs (.store t x y) K=jT (D t) (ev x) (ev y) objs K)∧
  (∀ x,lg P D T w pt ev objs (.nilCheck x) K=dK (ev x) objs K)∧
  (∀ b t x y t',lg P D T w pt ev objs (.binOp b t x y t') K=oH P (D t) t b (ev x) (ev y) fun r=>K r objs 0)∧
  (∀ u t x,lg P D T w pt ev objs (.unOp u t x) K=NG u (ev x) fun r=>K r objs 0)∧
  (∀ s t x,lg P D T w pt ev objs (.convert s t x) K=kD D s t (ev x) objs K)∧
  (∀ f first cap,lg P D T w pt ev objs (.makeFunc (.func f) first cap) K=jQ f (first.toList.map ev) (cap.toList.map ev) objs K)∧
  (∀ t l c,lg P D T w pt ev objs (.makeSlice t l c) K=fD D t (ev l) (ev c) objs K)∧
  (∀ t x lo hi,lg P D T w pt ev objs (.slice t x lo hi none) K=jo D t (ev x) (lo.map ev) (hi.map ev) objs K)∧
  (∀ t x f,lg P D T w pt ev objs (.fieldAddr t x f) K=aK D t (ev x) f objs K)∧
  (∀ t x f,lg P D T w pt ev objs (.field t x f) K=oV D t (ev x) f objs K)∧
  (∀ t x i,lg P D T w pt ev objs (.indexAddr t x i) K=aZ D t (ev x) (ev i) objs K)∧
  (∀ t x i,lg P D T w pt ev objs (.index t x i) K=lI D t (ev x) (ev i) objs K)∧
  (∀ x i,lg P D T w pt ev objs (.extract x i) K=bA (ev x) i objs K)∧
  (∀ t x,lg P D T w pt ev objs (.call { callee:=.builtin .len,args:=⟨[x]⟩,argTypes:=⟨[t]⟩ }) K=qg D t (ev x) objs K)∧
  (∀ t u s x,lg P D T w pt ev objs (.call { callee:=.builtin .append,args:=⟨[s,x]⟩,argTypes:=⟨[t,u]⟩ }) K=dP D t u (ev s) (ev x) objs K)∧
  (∀ x y ats,lg P D T w pt ev objs (.call { callee:=.builtin .max,args:=⟨[x,y]⟩,argTypes:=ats }) K=iO true [ev x,ev y] fun r=>K r objs 0)∧
  (∀ x y ats,lg P D T w pt ev objs (.call { callee:=.builtin .min,args:=⟨[x,y]⟩,argTypes:=ats }) K=iO false [ev x,ev y] fun r=>K r objs 0)∧
  (∀ f args ats,lg P D T w pt ev objs (.call { callee:=.value f,args:=args,argTypes:=ats }) K=nD T pt (ev f) (args.toList.map ev) objs K):=
 ⟨fun _=>rfl,fun _=>rfl,fun _ _ _=>rfl,fun _=>rfl,fun _ _=>rfl,fun _ _=>rfl,fun _ _ _=>rfl,fun _ _=>rfl,fun _ _ _=>rfl,fun _=>rfl,fun _ _ _ _ _=>rfl,fun _ _ _=>rfl,fun _ _ _=>rfl,
  fun _ _ _=>rfl,fun _ _ _=>rfl,fun _ _ _ _=>rfl,fun _ _ _=>rfl,fun _ _ _=>rfl,fun _ _ _=>rfl,fun _ _ _=>rfl,fun _ _=>rfl,fun _ _=>rfl,fun _ _ _ _=>rfl,fun _ _ _=>rfl,fun _ _ _=>rfl,fun _ _ _=>rfl⟩
theorem adX {α β:Type}(a:α) (q:α→β→Prop):(∃ o e,some a=some o∧q o e)=∃ e,q a e:=by simp
theorem setRow {α:Type}{enc:α→PV}(h:∀ x y:α,(enc x).putCells 0 (enc y).cells=enc y) (l:List α) (i:Nat) (x y:α):(l.map enc).set i ((enc x).putCells 0 (enc y).cells)=(l.set i y).map enc:=by
 rw [h,List.map_set]
theorem adY (P:Program) (D:TypeId→aD) (T:Know) :
  (∀ S ts (K:St→List Nat→Prop),LR P D T [] S ts K=K S ts)∧
  (∀ d o w rest n l ob ts (K:St→List Nat→Prop),LR P D T (⟨some d,o,none,w⟩::rest) ⟨dI n l,ob⟩ ts K=
   lg P D T w ((dI n l).all PV.pure) (St.ev ⟨dI n l,ob⟩) ob o fun r objs' t=>LR P D T rest ⟨dI n ((d,r)::l),objs'⟩ (ts++[t]) K)∧
  (∀ o w rest n l ob ts (K:St→List Nat→Prop),LR P D T (⟨none,o,none,w⟩::rest) ⟨dI n l,ob⟩ ts K=
   lg P D T w ((dI n l).all PV.pure) (St.ev ⟨dI n l,ob⟩) ob o fun r objs' t=>LR P D T rest ⟨dI n l,objs'⟩ (ts++[t]) K)∧
  (∀ d o g v w rest n l ob ts (K:St→List Nat→Prop),LR P D T (⟨some d,o,some (some g,v),w⟩::rest) ⟨dI n l,ob⟩ ts K=
   lM ((dI n l).getD g .dead) g v ⟨dI n l,ob⟩ (fun S=>LR P D T (⟨some d,o,none,w⟩::rest) S ts K) (fun S=>LR P D T rest (S.put (some d) (.b_ [])) (ts++[0]) K))∧
  (∀ o g v w rest n l ob ts (K:St→List Nat→Prop),LR P D T (⟨none,o,some (some g,v),w⟩::rest) ⟨dI n l,ob⟩ ts K=
   lM ((dI n l).getD g .dead) g v ⟨dI n l,ob⟩ (fun S=>LR P D T (⟨none,o,none,w⟩::rest) S ts K) (fun S=>LR P D T rest S (ts++[0]) K)):=by
 refine ⟨fun _ _ _=>rfl,fun d o w rest n l ob ts K=>?_,fun o w rest n l ob ts K=>rfl,fun d o g v w rest n l ob ts K=>rfl,fun o g v w rest n l ob ts K=>rfl⟩
 simp only [← rW.1]
 rfl
theorem aaS :
  (∀ b d n l ob (X Y:St→Prop),lM (.bool b) d true ⟨dI n l,ob⟩ X Y=zZ b (X ⟨dI n ((d,.bool true)::l),ob⟩) (Y ⟨dI n ((d,.bool false)::l),ob⟩))∧
  (∀ b d n l ob (X Y:St→Prop),lM (.bool b) d false ⟨dI n l,ob⟩ X Y=zZ b (Y ⟨dI n ((d,.bool true)::l),ob⟩) (X ⟨dI n ((d,.bool false)::l),ob⟩))∧
  (∀ d w (S:St) (X Y:St→Prop),lM (.b_ []) d w S X Y=Y S):=by
 refine ⟨fun b d n l ob X Y=>?_,fun b d n l ob X Y=>?_,fun _ _ _ _ _=>rfl⟩
 · simp only [adT,rW.1]
 · simp only [adT,rW.1]
theorem abJ:(∀ n l ob d p,St.put ⟨dI n l,ob⟩ (some d) p=⟨dI n ((d,p)::l),ob⟩):=fun n l ob d p=>by
 rw [← rW.1];rfl
theorem aP.bg {P:Program}{D:TypeId→aD}{T:Know}{f:FuncId}{n t:Nat}{C:LC}{args:List PV}{r:PV}(h:aP P f n [.tmp t] C) (d:Nat) (hD:∀ t,iN P t (D t)) (hT:FB P none rV T) (hm:P.follows .mixedOrders=true) (ht:t<n)
  (hw:∀ Q:Exit→St→Prop,(∀ l ob,Q .ret ⟨dI n l,ob⟩=(r=gQ d 0 ob (l_ l t)))→kW P D T C Q (bV args n)):ai P f args [] r []:=by
 refine h.pure d hD hT hm (by simp) (hw _ fun l ob=>?_)
 simp only [nk,jI,rW.2.1 n l t ht,List.map_cons,List.map_nil,fw]
theorem aP.Dt {P:Program}{D:TypeId→aD}{T:Know}{f:FuncId}{n t u:Nat}{C:LC}{args:List PV}{r:PV}(h:aP P f n [.tmp t,.tmp u] C) (d:Nat) (hD:∀ t,iN P t (D t)) (hT:FB P none rV T) (hm:P.follows .mixedOrders=true) (ht:t<n) (hu:u<n)
  (hw:∀ Q:Exit→St→Prop,(∀ l ob,Q .ret ⟨dI n l,ob⟩=(r=.b_ [gQ d 0 ob (l_ l t),gQ d 0 ob (l_ l u)]))→kW P D T C Q (bV args n)):ai P f args [] r []:=by
 refine h.pure d hD hT hm (by simp) (hw _ fun l ob=>?_)
 simp only [nk,jI,rW.2.1 n l t ht,rW.2.1 n l u hu,List.map_cons,List.map_nil,fw]
theorem pkR (x y:PV) (objs:List Obj) (K:KT):(qZ (.bool true) x y objs K=K x objs 0)∧(qZ (.bool false) x y objs K=K y objs 0):=⟨rfl,rfl⟩
theorem YM (P:Program) (D:TypeId→aD) (T:Know) (w pt:Bool) (ev:Operand→PV) (objs:List Obj) (K:KT) :
  (∀ x,lg P D T w pt ev objs (.next x false) K=(T.rg=true∧nextR (ev x) objs K))∧(∀ t x,lg P D T w pt ev objs (.range t x) K=uM D t (ev x) objs K)∧(∀ x,lg P D T w pt ev objs (.entry x) K=uN (ev x) objs K):=
 ⟨fun _=>rfl,fun _ _=>rfl,fun _=>rfl⟩
theorem adZ :
  type_of% @zO∧
  type_of% @El∧
  type_of% @kiR∧
  type_of% @adY∧
  type_of% @adS∧
  type_of% @aaS∧
  type_of% @abJ∧
  type_of% @hoR∧
  type_of% @ifR∧
  type_of% @abI∧
  type_of% @aaR∧
  type_of% @dU∧
  type_of% @FE∧
  type_of% @zq∧
  type_of% @LD∧
  type_of% @GR∧
  type_of% @YJ∧
  type_of% @skR∧
  type_of% @atR∧
  type_of% @exS∧
  type_of% @adX:=
 ⟨@zO,@El,@kiR,@adY,@adS,@aaS,@abJ,@hoR,@ifR,@abI,@aaR,@dU,@FE,@zq,@LD,@GR,@YJ,@skR,@atR,@exS,@adX⟩
theorem abK :
  type_of% @El∧
  type_of% @kiR∧
  type_of% @nu∧
  type_of% @rW∧
  type_of% @YH∧
  type_of% @aaS∧
  type_of% @ifR∧
  type_of% @acR∧
  type_of% @nk∧
  type_of% @Em∧
  type_of% @Dk∧
  type_of% @fzR∧
  type_of% @rq∧
  type_of% @bW∧
  type_of% @keepR∧
  type_of% @adV∧
  type_of% @aaR∧
  type_of% @dU∧
  type_of% @pkR∧
  type_of% @FD∧
  type_of% @FE∧
  type_of% @wS∧
  type_of% @YD∧
  type_of% @I7∧
  type_of% @uS∧
  type_of% @FH∧
  type_of% @II∧
  type_of% @YI∧
  type_of% @ldR∧
  type_of% @YJ∧
  type_of% @skR∧
  type_of% @ntR∧
  type_of% @atR∧
  type_of% @adU∧
  type_of% @puR∧
  type_of% @YK∧
  type_of% @abH:=
 ⟨@El,@kiR,@nu,@rW,@YH,@aaS,@ifR,@acR,@nk,@Em,@Dk,@fzR,@rq,@bW,@keepR,@adV,@aaR,@dU,@pkR,@FD,@FE,@wS,@YD,@I7,@uS,@FH,@II,@YI,@ldR,@YJ,@skR,@ntR,@atR,@adU,@puR,@YK,@abH⟩
theorem abL :
  type_of% @decide_true∧
  type_of% @decide_false∧
  type_of% @not_true_eq_false∧
  type_of% @not_false_eq_true∧
  type_of% @false_and∧
  type_of% @and_false∧
  type_of% @cond_true.{1}∧
  type_of% @cond_false.{1}∧
  type_of% @List.take_zero.{0}∧
  type_of% @ne_eq.{1}∧
  type_of% @true_and∧
  type_of% @PV.bool.injEq∧
  type_of% @Int.toNat_natCast∧
  type_of% @Int.toNat_zero∧
  type_of% @Bool.not_false∧
  type_of% @Bool.not_true∧
  type_of% @Bool.and_self∧
  type_of% @Bool.false_eq_true∧
  type_of% @Bool.true_eq_false∧
  type_of% @forall_const.{1}∧
  type_of% @false_implies∧
  type_of% @true_implies∧
  type_of% @and_true∧
  type_of% @implies_true.{1}∧
  type_of% @implies_true.{0}∧
  type_of% @forall_const.{0}∧
  type_of% @Nat.zero_add∧
  type_of% @List.length_map.{0,0}∧
  type_of% @List.length_cons.{0}∧
  type_of% @List.length_nil.{0}∧
  type_of% @List.nil_append.{0}∧
  type_of% @List.map_cons.{0,0}∧
  type_of% @List.map_nil.{0,0}∧
  type_of% @Bool.true_or∧
  type_of% @List.getElem?_cons_zero.{0}∧
  type_of% @List.getElem?_cons_succ.{0}∧
  type_of% @Option.map_some.{0,0}∧
  type_of% @or_true∧
  type_of% @List.getElem?_map.{0,0}∧
  type_of% @List.length_replicate.{0}∧
  type_of% @List.all_cons.{0}∧
  type_of% @List.all_nil.{0}∧
  type_of% @Bool.and_true∧
  type_of% @Bool.true_and∧
  type_of% @Bool.false_or∧
  type_of% @Bool.or_false∧
  type_of% @Nat.le_refl∧
  type_of% @Nat.lt_add_one∧
  type_of% @List.length_append.{0}:=
 ⟨@decide_true,@decide_false,@not_true_eq_false,@not_false_eq_true,@false_and,@and_false,@cond_true.{1},@cond_false.{1},@List.take_zero.{0},@ne_eq.{1},@true_and,@PV.bool.injEq,@Int.toNat_natCast,@Int.toNat_zero,@Bool.not_false,@Bool.not_true,@Bool.and_self,@Bool.false_eq_true,@Bool.true_eq_false,@forall_const.{1},@false_implies,@true_implies,@and_true,@implies_true.{1},@implies_true.{0},@forall_const.{0},@Nat.zero_add,@List.length_map.{0,0},@List.length_cons.{0},@List.length_nil.{0},@List.nil_append.{0},@List.map_cons.{0,0},@List.map_nil.{0,0},@Bool.true_or,@List.getElem?_cons_zero.{0},@List.getElem?_cons_succ.{0},@Option.map_some.{0,0},@or_true,@List.getElem?_map.{0,0},@List.length_replicate.{0},@List.all_cons.{0},@List.all_nil.{0},@Bool.and_true,@Bool.true_and,@Bool.false_or,@Bool.or_false,@Nat.le_refl,@Nat.lt_add_one,@List.length_append.{0}⟩
theorem abM {D:TypeId→aD}{t:TypeId}{k k':IntKind}{n m:Int}{objs:List Obj}{K:KT}:fD D t (.int k n) (.int k' m) objs K=
  Kv (D t).kind fun e=>(D e).kind≠.none∧(aI (D e)).cells.length=(D e).size∧(D e).size≠0∧(aI (D e)).cells.all PV.storable=true∧0≤n∧n≤m∧m≤9223372036854775807∧(D e).bytes*m≤281474976710656∧
   K (.bG objs.length 1) (newObj objs e (D e).size (List.replicate n.toNat (aI (D e)))) (5+2*objs.length):=by
 unfold fD Kv
 cases (D t).kind <;> rfl
theorem ad1:type_of% @jm.eq_1∧type_of% @jm.eq_2∧type_of% @jm.eq_3∧type_of% @jm.eq_4∧type_of% @jm.eq_5∧type_of% @jm.eq_6∧type_of% @jm.eq_7∧type_of% @jm.eq_8∧type_of% @dx.eq_1∧type_of% @dx.eq_2∧type_of% @dx.eq_3∧type_of% @d9.eq_1:=⟨@jm.eq_1,@jm.eq_2,@jm.eq_3,@jm.eq_4,@jm.eq_5,@jm.eq_6,@jm.eq_7,@jm.eq_8,@dx.eq_1,@dx.eq_2,@dx.eq_3,@d9.eq_1⟩
theorem ad2:type_of% @NG.eq_1∧type_of% @NG.eq_2∧type_of% @NG.eq_3∧type_of% @jI.eq_1∧type_of% @jI.eq_2∧type_of% @jI.eq_3∧type_of% @fw.eq_1∧type_of% @fw.eq_2∧type_of% @jm.eq_1∧type_of% @jm.eq_2∧type_of% @jm.eq_3∧type_of% @jm.eq_4∧type_of% @jm.eq_5∧type_of% @jm.eq_6∧type_of% @jm.eq_7∧type_of% @jm.eq_8∧type_of% @dx.eq_1∧type_of% @dx.eq_2∧type_of% @dx.eq_3∧type_of% @d9.eq_1∧type_of% @IL.eq_1∧type_of% @rP.eq_1∧type_of% @newObj.eq_1∧type_of% @aI.eq_1∧type_of% @bL.eq_1∧type_of% @dP.eq_1∧type_of% @iW.eq_1∧type_of% @iW.eq_2∧type_of% @jT.eq_1∧type_of% @jT.eq_2∧type_of% @St.freeze.eq_1∧type_of% @abM∧type_of% @iO.eq_1∧type_of% @iO.eq_2∧type_of% @jQ.eq_1:=⟨@NG.eq_1,@NG.eq_2,@NG.eq_3,@jI.eq_1,@jI.eq_2,@jI.eq_3,@fw.eq_1,@fw.eq_2,@jm.eq_1,@jm.eq_2,@jm.eq_3,@jm.eq_4,@jm.eq_5,@jm.eq_6,@jm.eq_7,@jm.eq_8,@dx.eq_1,@dx.eq_2,@dx.eq_3,@d9.eq_1,@IL.eq_1,@rP.eq_1,@newObj.eq_1,@aI.eq_1,@bL.eq_1,@dP.eq_1,@iW.eq_1,@iW.eq_2,@jT.eq_1,@jT.eq_2,@St.freeze.eq_1,@abM,@iO.eq_1,@iO.eq_2,@jQ.eq_1⟩
end Lp
namespace Lp
open Go
variable {P:Program}
def V6:Option TypeDesc→PV→PV→Bool
 | some (.int k),.int k1 _,.int k2 _=>decide (k1=k2)
 | some .bool,.bool _,.bool _=>true
 | some .string,.str _,.str _=>true
 | _,_,_=>false
def wW (P:Program):Nat→List Field→List PV→List PV→Bool
 | _,[],[],[]=>true
 | k,f::fs,p::aa,q::bs=>(f.name != "_") && f.offset==k && V6 (P.underlying f.type) p q && wW P (k+1) fs aa bs
 | _,_,_,_=>false
theorem wX {w:World}{t:TypeId}{xs:Array Value}{o:Nat}{v:Value}{d:TypeDesc}(hu:P.underlying t=some d) (hd:(∃ k,d=.int k)∨d=.bool∨d=.string) (hv:xs[o]?=some v):(part t xs o).run P w=.ok v w:=by
 rcases hd with ⟨k,rfl⟩ | rfl | rfl
 all_goals simp [part,isAgg,run_underlying hu,hv]
theorem YN {w:World}{d:Nat}{t:TypeId}{p q:PV}{v u:Value}{ok:Nat→Prop}(hf:V6 (P.underlying t) p q=true) (hv:dz w ok p v) (hu:dz w ok q u) :
  ∃ b,eqS p q=some b∧(Op.equalIn (d+1) t v u).run P w=.ok b w∧∃ e,P.underlying t=some e∧((∃ k,e=.int k)∨e=.bool∨e=.string):=by
 unfold V6 at hf
 split at hf
 · rename_i k k1 a k2 b hk
   have:k1=k2:=by simpa using hf
   subst this
   cases hv;cases hu
   exact ⟨decide (a=b),by simp [eqS],by rw [run_equalIn_int w d t k1 k a b hk];rfl,_,hk,.inl ⟨_,rfl⟩⟩
 · rename_i a b hk
   cases hv;cases hu
   exact ⟨a==b,rfl,run_equalIn_bool' w d t a b hk,_,hk,.inr (.inl rfl)⟩
 · rename_i a b hk
   cases hv;cases hu
   refine ⟨decide (a=b),rfl,?_,_,hk,.inr (.inr rfl)⟩
   rw [run_equalIn_string w d t _ _ hk]
   congr 1
   simp only [ByteArray.toList_eq]
   by_cases h:a=b
   · simp [h]
   · simp [h]
 · cases hf
theorem LM {w:World}{d:Nat}{ok:Nat→Prop}{xs ys:Array Value}:∀ (fs:List Field) (k:Nat) (aa bs:List PV) (r:Bool),wW P k fs aa bs=true→yK aa bs=some r→
  (∀ i p,aa[i]?=some p→∃ v,xs[k+i]?=some v∧dz w ok p v)→(∀ i p,bs[i]?=some p→∃ v,ys[k+i]?=some v∧dz w ok p v)→
  (Op.eqFields (d+1) xs ys fs).run P w=.ok r w
 | [],k,aa,bs,r,hf,he,_,_=>by
  cases aa <;> cases bs <;> simp [wW] at hf
  simp only [yK,Option.some.injEq] at he
  subst he
  rfl
 | f::fs,k,aa,bs,r,hf,he,ha,hb=>by
  cases aa with
  | nil=>cases bs <;> simp [wW] at hf
  | cons p aa=>
   cases bs with
   | nil=>simp [wW] at hf
   | cons q bs=>
    simp only [wW,Bool.and_eq_true,beq_iff_eq,bne_iff_ne] at hf
    obtain ⟨⟨⟨hn,ho⟩,ht⟩,hr⟩:=hf
    obtain ⟨v,hv,rv⟩:=ha 0 p rfl
    obtain ⟨u,hu,ru⟩:=hb 0 q rfl
    obtain ⟨b,hb1,hb2,e,he1,he2⟩:=YN (d:=d) ht rv ru
    simp only [yK,hb1] at he
    cases hq:yK aa bs with
    | none=>rw [hq] at he;simp at he
    | some r'=>
     rw [hq] at he
     simp only [Option.some.injEq] at he
     subst he
     have ih:=LM (w:=w) (d:=d) (ok:=ok) (xs:=xs) (ys:=ys) fs (k+1) aa bs r' hr hq (fun i p h=>by have:=ha (i+1) p (by simpa using h);rwa [show k+(i+1)=k+1+i by omega] at this) (fun i p h=>by have:=hb (i+1) p (by simpa using h);rwa [show k+(i+1)=k+1+i by omega] at this)
     have p1:=wX (w:=w) (xs:=xs) (o:=f.offset) he1 he2 (by rw [ho];simpa using hv)
     have p2:=wX (w:=w) (xs:=ys) (o:=f.offset) he1 he2 (by rw [ho];simpa using hu)
     simp only [Op.eqFields,ne_eq,hn,not_false_eq_true,if_true,Sem.run_bind,p1,Result.andThen_ok,p2,hb2]
     cases b
     · simp
     · simpa using ih
theorem aaT {t:TypeId}{aa bs:List PV}(hg:P.eqGuardType P.depth t=false) (ht:P.underlying t=some (.struct (P.fieldsOf t))) (hp:P.stoodInHeld t=false) (hf:wW P 0 (P.fieldsOf t).toList aa bs=true):AB P t aa bs:=by
 refine ⟨hg,fun w ok vs us r hr h1 h2=>?_⟩
 have e:Op.equal t (.agg ⟨vs⟩) (.agg ⟨us⟩)=Op.equalIn (9999+1) t (.agg ⟨vs⟩) (.agg ⟨us⟩):=rfl
 rw [e,run_equalIn_struct w 9999 t _ _ ht hp]
 refine LM (d:=9998) (ok:=ok) _ 0 aa bs r hf hr ?_ ?_
 · intro i p hi
   have hlt:=(List.getElem?_eq_some_iff.1 hi).1
   have hv:vs[i]?=some (vs[i]'(by rw [← h1.1];exact hlt)):=List.getElem?_eq_getElem _
   exact ⟨_,by simpa using hv,h1.2 i p _ hi hv⟩
 · intro i p hi
   have hlt:=(List.getElem?_eq_some_iff.1 hi).1
   have hv:us[i]?=some (us[i]'(by rw [← h2.1];exact hlt)):=List.getElem?_eq_getElem _
   exact ⟨_,by simpa using hv,h2.2 i p _ hi hv⟩
end Lp
