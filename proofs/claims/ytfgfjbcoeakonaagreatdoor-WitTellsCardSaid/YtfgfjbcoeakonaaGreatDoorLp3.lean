/-
  Part 3 of what the statement rests on: LpN, LpNb, LpO, LpP, LpT, LpQ, LpR, LpS, LpGen, LpI1, LpC1, LpC2, LpC4, LpC5, LpC6, LpY, LpU, LpZ, LpEq, LpU2. No condition.
-/
import Derived.Test.YtfgfjbcoeakonaaGreatDoorLp2
import Derived.RangeFuncRecord
import Derived.RangeFuncLeaves
import Derived.KernelRfl
import Derived.Test.YtfgfjbcoeakonaaGreatDoorProg
import Derived.Laws.StructEq

set_option linter.all false
namespace Lp
open Go
open Option (bind_some getD_some map_some)
variable {P:Program}{D:TypeId→aG}{l:Option Nat}
structure Hg where
 r:PV
 objs:List Obj
 t:Nat
 deriving Inhabited
def iJ (ops:List Oper) (g:Option (Nat×Bool)) (tmps:List PV):Option Bool:=
 match g with
 | none=>some true
 | some (j,want)=>
  match (ops[j]?).bind (·.dst) with
  | none=>none
  | some d=>
   match tmps.getD d .dead with
   | .bool b=>some (b==want)
   | .bV []=>some false
   | _=>none
theorem Cm {ops:List Oper}{g:Option (Nat×Bool)}{S:St}{X Y:St→Prop}(h:nV ops g S X Y) :
  (iJ ops g S.tmps=some true∧X S)∨(iJ ops g S.tmps=some false∧Y S):=by
 unfold nV at h
 unfold iJ
 split at h
 · exact .inl ⟨rfl,h⟩
 · rename_i j want
   simp only []
   split at h
   · exact h.elim
   · rename_i d hd
     rw [hd]
     simp only []
     split at h
     · rename_i b hb
       rw [hb]
       by_cases hbw:b=want
       · left
         have:=h.1 hbw
         rw [zX (by rw [hb,hbw]) (by simp)] at this
         exact ⟨by simp [hbw],this⟩
       · right
         have hbn:b=!want:=by cases b <;> cases want <;> simp_all
         have:=h.2 hbn
         rw [zX (by rw [hb,hbn]) (by simp)] at this
         exact ⟨by simp [hbn],this⟩
     · rename_i hb
       rw [hb]
       exact .inr ⟨rfl,h⟩
     · exact h.elim
theorem Cn {ops:List Oper}{g:Option (Nat×Bool)}{S:St}{b:Bool}(h:iJ ops g S.tmps=some b) :
  nV ops g S (fun _=>b=true) (fun _=>b=false):=by
 unfold iJ at h
 unfold nV
 split at h
 · simpa using h.symm
 · rename_i j want
   simp only []
   split at h
   · cases h
   · rename_i d hd
     rw [hd]
     simp only []
     split at h
     · rename_i b0 hb
       rw [hb]
       simp only [Option.some.injEq] at h
       subst h
       exact ⟨fun e=>by simp [e],fun e=>by simp [e]⟩
     · rename_i hb
       rw [hb]
       simpa using h.symm
     · cases h
theorem om {ops:List Oper}{base ak:Nat→Prop}{w0:Wz}{S:St}{blk:Nat→Option Nat}{a:Act}{w:World}{b:Bool}{o:Oper}
  (R:Rel base ak w0 S blk a w) (h:iJ ops o.guard S.tmps=some b):Region.wanted o (yielded ops.toArray a.tmps)=b:=by
 rcases u7 R (Cn h) o rfl with ⟨h1,h2⟩ | ⟨h1,h2⟩ <;> rw [h1,h2]
def qI (P:Program) (D:TypeId→aG) (own:Bool) (ops:List Oper) (o:Oper) (S:St) (e:Hg):Prop:=
 (iJ ops o.guard S.tmps=some true∧(co e.t≠2→e.objs=S.objs)∧(∀ K:KT,K e.r e.objs e.t→Hf P D own S.ev S.objs o.op K)∧
  (e.t=0→∀ (dQ:List Obj) (K:KT),K e.r dQ 0→Hf P D own S.ev dQ o.op K)∧YB (fun ob K=>Hf P D own S.ev ob o.op K) S.objs e.r e.objs e.t)∨
 (iJ ops o.guard S.tmps=some false∧e.r=.bV []∧e.objs=S.objs∧e.t=0)
def Trace (P:Program) (D:TypeId→aG) (own:Nat→Bool) (ops:List Oper):List Oper→Nat→St→List Hg→St→Prop
 | [],_,S,tr,S'=>tr=[]∧S'=S
 | o::rest,i,S,tr,S'=>∃ e tr',tr=e::tr'∧qI P D (own i) ops o S e∧Trace P D own ops rest (i+1) (St.put ⟨S.tmps,e.objs⟩ o.dst e.r) tr' S'
theorem lN {own:Nat→Bool}{ops:List Oper}:∀ (p_:List Oper) (i:Nat) (S:St) (ts:List Nat) (K:St→List Nat→Prop),pE P D own ops p_ i S ts K→
  ∃ tr S',Trace P D own ops p_ i S tr S'∧K S' (ts++tr.map (·.t))
 | [],i,S,ts,K,h=>⟨[],S,⟨rfl,rfl⟩,by simpa [pE] using h⟩
 | o::rest,i,S,ts,K,h=>by
  unfold pE at h
  rcases Cm h with ⟨hw,hx⟩ | ⟨hw,hy⟩
  · obtain ⟨r,ob,t,h1,h2,h3,h4,h4b⟩:=SK hx
    obtain ⟨tr,S',h5,h6⟩:=lN rest _ _ _ K h1
    refine ⟨⟨r,ob,t⟩::tr,S',⟨_,_,rfl,.inl ⟨hw,h2,h3,h4,h4b⟩,h5⟩,by simpa using h6⟩
  · obtain ⟨tr,S',h5,h6⟩:=lN rest _ _ _ K hy
    refine ⟨⟨.bV [],S.objs,0⟩::tr,S',⟨_,_,rfl,.inr ⟨hw,rfl,rfl,rfl⟩,?_⟩,by simpa using h6⟩
    exact h5
def oo (dst:Option Nat) (r:PV) (tm:List PV):List PV:=
 match dst with
 | some d=>tm.set d r
 | none=>tm
section
variable (dst:Nat→Option Nat) (en:Nat→Hg)
def FB (X:Nat→Bool):Nat→List PV→List PV
 | 0,tm=>tm
 | n+1,tm=>if X n then oo (dst n) (en n).r (FB X n tm) else FB X n tm
def oQ (X:Nat→Bool):Nat→List Obj→List Obj
 | 0,ob=>ob
 | n+1,ob=>if X n && co (en n).t==2 then (en n).objs else oQ X n ob
def upd (X:Nat→Bool) (i:Nat) (j:Nat):Bool:=X j || j==i
variable {dst en}
theorem mK {X Y:Nat→Bool}:∀ (n:Nat) (tm:List PV),(∀ j,j<n→X j=Y j)→FB dst en X n tm=FB dst en Y n tm
 | 0,_,_=>rfl
 | n+1,tm,h=>by simp only [FB];rw [h n (by omega),mK n tm (fun j hj=>h j (by omega))]
theorem oU {X Y:Nat→Bool}:∀ (n:Nat) (ob:List Obj),(∀ j,j<n→co (en j).t=2→X j=Y j)→oQ en X n ob=oQ en Y n ob
 | 0,_,_=>rfl
 | n+1,ob,h=>by
  simp only [oQ]
  rw [oU n ob (fun j hj=>h j (by omega))]
  by_cases ht:co (en n).t=2
  · rw [h n (by omega) ht]
  · simp [ht]
theorem Ng (d:Option Nat) (r:PV) (tm:List PV):(oo d r tm).length=tm.length:=by cases d <;> simp [oo]
theorem yu (X:Nat→Bool):∀ (n:Nat) (tm:List PV),(FB dst en X n tm).length=tm.length
 | 0,_=>rfl
 | n+1,tm=>by simp only [FB];split <;> simp [Ng,yu X n tm]
theorem zY {d:Option Nat}{x:Nat}(h:d≠some x) (r:PV) (tm:List PV):(oo d r tm).getD x .dead=tm.getD x .dead:=by
 cases d with
 | none=>rfl
 | some d=>
  have:d≠x:=fun e=>h (by rw [e])
  simp [oo,List.getD_eq_getElem?_getD,List.getElem?_set_ne this]
theorem Eb {d:Option Nat}{x:Nat}{r:PV}{tm tm':List PV}(hl:tm.length=tm'.length) (h:tm.getD x .dead=tm'.getD x .dead):(oo d r tm).getD x .dead=(oo d r tm').getD x .dead:=by
 cases d with
 | none=>exact h
 | some d=>
  by_cases hd:d=x
  · subst hd
    simp [oo,List.getD_eq_getElem?_getD,List.getElem?_set,hl]
  · simpa [oo,List.getD_eq_getElem?_getD,List.getElem?_set_ne hd] using h
theorem FC {X Y:Nat→Bool}{x:Nat}:∀ (n:Nat) (tm:List PV),(∀ j,j<n→dst j=some x→X j=Y j)→(FB dst en X n tm).getD x .dead=(FB dst en Y n tm).getD x .dead
 | 0,_,_=>rfl
 | n+1,tm,h=>by
  have ih:=FC (X:=X) (Y:=Y) (x:=x) n tm (fun j hj=>h j (by omega))
  simp only [FB]
  by_cases hd:dst n=some x
  · rw [h n (by omega) hd]
    split
    · exact Eb (by rw [yu,yu]) ih
    · exact ih
  · split <;> split <;> (try rw [zY hd]) <;> (try rw [zY hd]) <;> exact ih
theorem Ut {d d':Option Nat}{r r':PV}{tm:List PV}(h:∀ x,d=some x→d'≠some x):oo d r (oo d' r' tm)=oo d' r' (oo d r tm):=by
 cases d with
 | none=>rfl
 | some x=>
  cases d' with
  | none=>rfl
  | some y=>
   have hxy:y≠x:=fun e=>h x rfl (by rw [e])
   simp only [oo]
   exact List.set_comm _ _ hxy
theorem Kr {X:Nat→Bool}{i:Nat}:∀ (n:Nat) (tm:List PV),i<n→X i=false→(∀ j,i<j→j<n→X j=true→∀ x,dst i=some x→dst j≠some x)→
  oo (dst i) (en i).r (FB dst en X n tm)=FB dst en (upd X i) n tm
 | 0,_,h,_,_=>by omega
 | n+1,tm,hi,hx,hd=>by
  simp only [FB]
  by_cases hin:i=n
  · subst hin
    simp only [hx,upd,beq_self_eq_true,Bool.or_true,if_true,Bool.false_eq_true,if_false]
    rw [mK (Y:=upd X i) i tm (fun j hj=>by simp [upd];omega)]
  · have ih:=Kr (X:=X) n tm (by omega) hx (fun j h1 h2=>hd j h1 (by omega))
    have hu:upd X i n=X n:=by simp [upd];omega
    rw [hu]
    split
    · rename_i hn
      rw [← ih,Ut (fun x hx'=>hd n (by omega) (by omega) hn x hx')]
    · exact ih
theorem Kt {X:Nat→Bool}{i:Nat}:∀ (n:Nat) (ob:List Obj),i<n→co (en i).t=2→(∀ j,i<j→j<n→X j=true→co (en j).t≠2)→oQ en (upd X i) n ob=(en i).objs
 | 0,_,h,_,_=>by omega
 | n+1,ob,hi,ht,hd=>by
  simp only [oQ]
  by_cases hin:i=n
  · subst hin
    simp [upd,ht]
  · have hu:upd X i n=X n:=by simp [upd];omega
    rw [hu]
    cases hn:X n with
    | false=>simpa using Kt n ob (by omega) ht (fun j h1 h2=>hd j h1 (by omega))
    | true=>
     have:=hd n (by omega) (by omega) hn
     simpa [this] using Kt n ob (by omega) ht (fun j h1 h2=>hd j h1 (by omega))
def cnt (X:Nat→Bool):Nat→Nat
 | 0=>0
 | n+1=>cnt X n+if X n then 0 else 1
theorem Jz {X Y:Nat→Bool}:∀ (n:Nat),(∀ j,j<n→X j=Y j)→cnt X n=cnt Y n
 | 0,_=>rfl
 | n+1,h=>by simp only [cnt];rw [h n (by omega),Jz n (fun j hj=>h j (by omega))]
theorem Ku {X:Nat→Bool}{i:Nat}:∀ (n:Nat),i<n→X i=false→cnt (upd X i) n+1=cnt X n
 | 0,h,_=>by omega
 | n+1,hi,hx=>by
  simp only [cnt]
  by_cases hin:i=n
  · subst hin
    rw [Jz (Y:=upd X i) (X:=X) i (fun j hj=>by simp [upd];omega)]
    simp [upd,hx]
  · have:=Ku (X:=X) n (by omega) hx
    have hu:upd X i n=X n:=by simp [upd];omega
    rw [hu];omega
theorem FD {X:Nat→Bool}:∀ (n:Nat),cnt X n=0→∀ j,j<n→X j=true
 | 0,_,j,h=>by omega
 | n+1,h,j,hj=>by
  simp only [cnt] at h
  by_cases hjn:j=n
  · subst hjn
    cases hx:X j with
    | true=>rfl
    | false=>simp [hx] at h
  · exact FD n (by omega) j (by omega)
end
def iX (ops:List Oper) (o:Oper):List Nat:=
 (o.op.operands.toList.filterMap fun | .tmp t=>some t | _=>none)++
 (match o.guard with
  | some (g,_)=>((ops[g]?).bind (·.dst)).toList
  | none=>[])
def Co (acc:List Nat) (o:Oper):Nat:=
 o.after.toList.foldl (fun m e=>if Region.binds .any e then (m ||| (1 <<<e.on)) ||| acc.getD e.on 0 else m) 0
def masks:List Oper→List Nat→List Nat
 | [],acc=>acc
 | o::rest,acc=>masks rest (acc++[Co acc o])
def clash (dj di:Option Nat) (lj li:List Nat) (tj ti:Nat):Bool:=
 (match dj with
  | some d=>li.contains d || di==some d
  | none=>false) ||
 (match di with
  | some d=>lj.contains d
  | none=>false) ||
 (tj==2 && ti !=0) || (ti==2 && tj !=0)
def sP (ops:List Oper) (ts:List Nat):Bool:=
 let ms:=masks ops []
 let ls:=ops.map (iX ops)
 (List.range ops.length).all fun i=>
  match ops[i]? with
  | none=>true
  | some o=>
   (o.after.toList.all fun e=>!Region.binds .any e || decide (e.on<i)) &&
   (ms.getD i 0 &&& Co ms o==ms.getD i 0) &&
   (List.range i).all fun j=>
    !clash ((ops[j]?).bind (·.dst)) o.dst (ls.getD j []) (ls.getD i []) (co (ts.getD j 0)) (co (ts.getD i 0)) || (ms.getD i 0).testBit j
theorem FE {acc:List Nat}{o:Oper}{j:Nat}(h:(Co acc o).testBit j=true) :
  ∃ e ∈ o.after.toList,Region.binds .any e=true∧(j=e.on∨(acc.getD e.on 0).testBit j=true):=by
 unfold Co at h
 have key:∀ (es:List Edge) (m:Nat),(es.foldl (fun m e=>if Region.binds .any e then (m ||| (1 <<<e.on)) ||| acc.getD e.on 0 else m) m).testBit j=true→
     m.testBit j=true∨∃ e ∈ es,Region.binds .any e=true∧(j=e.on∨(acc.getD e.on 0).testBit j=true):=by
  intro es
  induction es with
  | nil=>intro m h;exact .inl h
  | cons e es ih=>
   intro m h
   rw [List.foldl_cons] at h
   rcases ih _ h with h | ⟨e',h1,h2⟩
   · split at h
     · rename_i hb
       rw [Nat.testBit_or,Nat.testBit_or] at h
       simp only [Bool.or_eq_true] at h
       rcases h with (h | h) | h
       · exact .inl h
       · rw [Nat.one_shiftLeft,Nat.testBit_two_pow] at h
         exact .inr ⟨e,List.mem_cons_self,hb,.inl (of_decide_eq_true h).symm⟩
       · exact .inr ⟨e,List.mem_cons_self,hb,.inr h⟩
     · exact .inl h
   · exact .inr ⟨e',List.mem_cons_of_mem _ h1,h2⟩
 rcases key _ _ h with h | h
 · simp at h
 · exact h
structure Ql (ops:List Oper) (ts:List Nat) (ms:List Nat):Prop where
 back:∀ (i:Nat) (o:Oper),ops[i]?=some o→∀ e ∈ o.after.toList,Region.binds .any e=true→e.on<i
 mask:∀ (i:Nat) (o:Oper),ops[i]?=some o→∀ j,(ms.getD i 0).testBit j=true→∃ e ∈ o.after.toList,Region.binds .any e=true∧(j=e.on∨(ms.getD e.on 0).testBit j=true)
 ord:∀ (i:Nat) (o:Oper) (j:Nat) (p:Oper),ops[i]?=some o→ops[j]?=some p→j<i→clash p.dst o.dst (iX ops p) (iX ops o) (co (ts.getD j 0)) (co (ts.getD i 0))=true→(ms.getD i 0).testBit j=true
theorem Dq {ops:List Oper}{ts:List Nat}(h:sP ops ts=true):Ql ops ts (masks ops []):=by
 unfold sP at h
 simp only [List.all_eq_true,List.mem_range] at h
 have hh:∀ i o,ops[i]?=some o→_:=fun i o ho=>by
  have:=h i (List.getElem?_eq_some_iff.1 ho).1
  rw [ho] at this
  simp only [Bool.and_eq_true,List.all_eq_true,List.mem_range,beq_iff_eq] at this
  exact this
 refine ⟨fun i o ho e he hb=>by simpa [hb] using (hh i o ho).1.1 e he,fun i o ho j hj=>?_,fun i o j p ho hp hji hc=>?_⟩
 · refine FE ?_
   have h2:=(hh i o ho).1.2
   rw [← h2,Nat.testBit_and] at hj
   simp only [Bool.and_eq_true] at hj
   exact hj.2
 · have h3:=(hh i o ho).2 j hji
   have hlt:=(List.getElem?_eq_some_iff.1 hp).1
   have e1:(ops.map (iX ops)).getD j []=iX ops p:=by rw [List.getD_eq_getElem?_getD,List.getElem?_map,hp];rfl
   have e2:(ops.map (iX ops)).getD i []=iX ops o:=by rw [List.getD_eq_getElem?_getD,List.getElem?_map,ho];rfl
   rw [e1,e2,hp] at h3
   simp only [bind_some,hc,Bool.not_true,Bool.false_or] at h3
   exact h3
def pF (ops:List Oper) (i:Nat):Option Nat:=(ops[i]?).bind (·.dst)
def aP (tr:List Hg) (i:Nat):Hg:=tr.getD i default
def lq (ops:List Oper) (tr:List Hg) (S:St) (X:Nat→Bool) (n:Nat):St:=⟨FB (pF ops) (aP tr) X n S.tmps,oQ (aP tr) X n S.objs⟩
theorem ve {own:Nat→Bool}{ops:List Oper}{S0:St}{tr0:List Hg}:∀ (p_:List Oper) (k:Nat) (S:St) (tr:List Hg) (S':St),Trace P D own ops p_ k S tr S'→
  (∀ j,p_[j]?=ops[k+j]?)→(∀ j,tr[j]?=tr0[k+j]?)→S=lq ops tr0 S0 (fun _=>true) k→
  (∀ i o,k≤i→ops[i]?=some o→qI P D (own i) ops o (lq ops tr0 S0 (fun _=>true) i) (aP tr0 i))∧S'=lq ops tr0 S0 (fun _=>true) (k+p_.length)
 | [],k,S,tr,S',h,hl,ht,hs=>by
  refine ⟨fun i o hi ho=>?_,by rw [h.2,hs];rfl⟩
  have:=hl (i-k)
  rw [show k+(i-k)=i by omega,ho] at this
  simp at this
 | o::rest,k,S,tr,S',h,hl,ht,hs=>by
  obtain ⟨e,tr',rfl,h1,h2⟩:=h
  have ho:ops[k]?=some o:=by simpa using (hl 0).symm
  have he:aP tr0 k=e:=by
   have:=ht 0
   simp only [List.getElem?_cons_zero,Nat.add_zero] at this
   simp [aP,List.getD_eq_getElem?_getD,← this]
  have hst:St.put ⟨S.tmps,e.objs⟩ o.dst e.r=lq ops tr0 S0 (fun _=>true) (k+1):=by
   have e1:(lq ops tr0 S0 (fun _=>true) (k+1)).tmps=oo o.dst e.r S.tmps:=by
    simp only [lq,FB,if_true,he,pF,ho,bind_some]
    rw [hs];rfl
   have e2:(lq ops tr0 S0 (fun _=>true) (k+1)).objs=e.objs:=by
    simp only [lq,oQ,he,Bool.true_and]
    have hso:S.objs=oQ (aP tr0) (fun _=>true) k S0.objs:=by rw [hs];rfl
    split
    · rfl
    · rename_i hne
      have hne:co e.t≠2:=by simpa using hne
      rcases h1 with ⟨_,h1,_⟩ | ⟨_,_,h1,_⟩
      · rw [h1 hne,hso]
      · rw [h1,hso]
   cases hd:o.dst with
   | none=>rw [hd] at e1;simp only [St.put,oo] at e1 ⊢;rw [← e1,← e2]
   | some d=>rw [hd] at e1;simp only [St.put,oo] at e1 ⊢;rw [← e1,← e2]
  obtain ⟨h3,h4⟩:=ve rest (k+1) _ tr' S' h2 (fun j=>by have:=hl (j+1);simpa [Nat.add_assoc,Nat.add_comm 1 j] using this)
   (fun j=>by have:=ht (j+1);simpa [Nat.add_assoc,Nat.add_comm 1 j] using this) hst
  refine ⟨fun i o' hi ho'=>?_,by rw [h4,List.length_cons];congr 1;omega⟩
  by_cases hik:i=k
  · subst hik
    rw [ho] at ho'
    cases ho'
    rw [he,← hs];exact h1
  · exact h3 i o' (by omega) ho'
theorem Cq {dst:Nat→Option Nat}{en:Nat→Hg}{i:Nat}:∀ (n:Nat) (tm:List PV),i≤n→FB dst en (fun j=>decide (j<i)) n tm=FB dst en (fun _=>true) i tm
 | 0,_,h=>by have:i=0:=by omega
             subst this;rfl
 | n+1,tm,h=>by
  by_cases hi:i=n+1
  · subst hi
    exact mK (n+1) tm fun j hj=>by simp [hj]
  · simp only [FB]
    rw [if_neg (by simp;omega)]
    exact Cq n tm (by omega)
theorem JA {en:Nat→Hg}{i:Nat}:∀ (n:Nat) (ob:List Obj),i≤n→oQ en (fun j=>decide (j<i)) n ob=oQ en (fun _=>true) i ob
 | 0,_,h=>by have:i=0:=by omega
             subst this;rfl
 | n+1,tm,h=>by
  by_cases hi:i=n+1
  · subst hi
    exact oU (n+1) tm fun j hj _=>by simp [hj]
  · simp only [oQ]
    rw [if_neg (by simp;omega)]
    exact JA n tm (by omega)
theorem FH {dj di:Option Nat}{lj li:List Nat}{tj ti x:Nat}(h:dj=some x) (hx:x ∈ li):clash dj di lj li tj ti=true:=by simp [clash,h,hx]
theorem Dr {dj di:Option Nat}{lj li:List Nat}{tj ti x:Nat}(h:di=some x) (hx:x ∈ lj):clash dj di lj li tj ti=true:=by simp [clash,h,hx]
theorem JB {dj di:Option Nat}{lj li:List Nat}{tj ti x:Nat}(h:dj=some x) (hx:di=some x):clash dj di lj li tj ti=true:=by simp [clash,h,hx]
theorem SL {dj di:Option Nat}{lj li:List Nat}{tj ti:Nat}(h:tj=2) (hx:ti≠0):clash dj di lj li tj ti=true:=by simp [clash,h,hx]
theorem Wq {dj di:Option Nat}{lj li:List Nat}{tj ti:Nat}(h:ti=2) (hx:tj≠0):clash dj di lj li tj ti=true:=by simp [clash,h,hx]
theorem Kv {own:Bool}{ops:List Oper}{o:Oper}{S S':St}{e:Hg}(h:qI P D own ops o S e) (hx:∀ x ∈ iX ops o,S.tmps.getD x .dead=S'.tmps.getD x .dead) (ho:e.t≠0→S.objs=S'.objs) :
  (iJ ops o.guard S'.tmps=some true∧(co e.t≠2→e.t≠0→e.objs=S'.objs)∧Hf P D own S'.ev S'.objs o.op (fun r objs' t=>r=e.r∧t=e.t∧(e.t=0→objs'=S'.objs)∧(e.t≠0→objs'=e.objs)))∨
  (iJ ops o.guard S'.tmps=some false∧e.r=.bV []∧e.t=0):=by
 have hev:∀ x ∈ o.op.operands,S.ev x=S'.ev x:=by
  intro x hm
  cases x with
  | tmp t=>exact hx t (List.mem_append_left _ (List.mem_filterMap.2 ⟨.tmp t,by simpa using hm,rfl⟩))
  | _=>rfl
 have hg:iJ ops o.guard S.tmps=iJ ops o.guard S'.tmps:=by
  cases hgd:o.guard with
  | none=>rfl
  | some g=>
   obtain ⟨j,want⟩:=g
   simp only [iJ]
   cases hd:(ops[j]?).bind (·.dst) with
   | none=>rfl
   | some d=>
    simp only []
    rw [hx d (List.mem_append_right _ (by rw [hgd];simp [hd]))]
 rcases h with ⟨h1,h2,h3,h4,_⟩ | ⟨h1,h2,h3,h4⟩
 · left
   refine ⟨hg ▸ h1,fun a b=>by rw [h2 a,ho b],?_⟩
   by_cases ht:e.t=0
   · exact wE hev (h4 ht S'.objs _ ⟨rfl,ht.symm,fun _=>rfl,fun c=>absurd ht c⟩)
   · have:=wE hev (h3 (fun r objs' t=>r=e.r∧t=e.t∧(e.t=0→objs'=S'.objs)∧(e.t≠0→objs'=e.objs)) ⟨rfl,rfl,fun c=>absurd c ht,fun _=>rfl⟩)
     rw [ho ht] at this
     exact this
 · exact .inr ⟨hg ▸ h1,h2,h4⟩
theorem Uu {own:Nat→Bool}{ops:List Oper}{ts:List Nat}{ms:List Nat}{tr:List Hg}{S0:St}(hD:∀ t,iH P t (D t)) (hok:Ql ops ts ms)
  (hts:∀ i,i<ops.length→ts.getD i 0=(aP tr i).t)
  (hst:∀ i o,ops[i]?=some o→qI P D (own i) ops o (lq ops tr S0 (fun _=>true) i) (aP tr i))
  {X:Nat→Bool}{i:Nat}{o:Oper}(ho:ops[i]?=some o) (hX:X i=false) (hcl:∀ j,j<ops.length→X j=true→∀ x,(ms.getD j 0).testBit x=true→X x=true)
  (hrd:∀ x,(ms.getD i 0).testBit x=true→X x=true)
  {base ak:Nat→Prop}{w0:Wz}{blk:Nat→Option Nat}{a:Act}{w:World}(R:Rel base ak w0 (lq ops tr S0 X ops.length) blk a w)
  {Q:Exit→Act→World→Prop}{K:Act→World→Prop}(hK:∀ av a' w',Rel base ak w0 (lq ops tr S0 (upd X i) ops.length) av a' w'→K a' w') :
  wpOpIn (EB l) 0 P ops.toArray Q i K a w:=by
 have hi:i<ops.length:=(List.getElem?_eq_some_iff.1 ho).1
 have hdst:pF ops i=o.dst:=by simp [pF,ho]
 have Kw:∀ j,j<ops.length→∃ p,ops[j]?=some p∧pF ops j=p.dst:=fun j hj=>⟨ops[j],List.getElem?_eq_getElem hj,by simp [pF,List.getElem?_eq_getElem hj]⟩
 have before:∀ j p,ops[j]?=some p→j<i→clash p.dst o.dst (iX ops p) (iX ops o) (co (ts.getD j 0)) (co (ts.getD i 0))=true→X j=true:=
  fun j p hp hj hc=>hrd j (hok.ord i o j p ho hp hj hc)
 have behind:∀ j p,ops[j]?=some p→i<j→clash o.dst p.dst (iX ops o) (iX ops p) (co (ts.getD i 0)) (co (ts.getD j 0))=true→X j=false:=fun j p hp hj hc=>by
  cases hx:X j with
  | false=>rfl
  | true=>
   have:=hcl j (List.getElem?_eq_some_iff.1 hp).1 hx i (hok.ord j p i o hp ho hj hc)
   rw [hX] at this;cases this
 have SN:∀ x ∈ iX ops o,(lq ops tr S0 (fun _=>true) i).tmps.getD x .dead=(lq ops tr S0 X ops.length).tmps.getD x .dead:=by
  intro x hx
  simp only [lq]
  rw [← Cq (dst:=pF ops) ops.length S0.tmps (Nat.le_of_lt hi)]
  refine FC _ _ fun j hj hd=>?_
  obtain ⟨p,hp,Ws⟩:=Kw j hj
  rw [Ws] at hd
  rcases Nat.lt_trichotomy j i with hji | hji | hji
  · rw [before j p hp hji (FH hd hx)];simp [hji]
  · subst hji;rw [hX];simp
  · rw [behind j p hp hji (Dr hd hx)];simp;omega
 have oh:(aP tr i).t≠0→(lq ops tr S0 (fun _=>true) i).objs=(lq ops tr S0 X ops.length).objs:=by
  intro ht
  simp only [lq]
  rw [← JA ops.length S0.objs (Nat.le_of_lt hi)]
  refine oU _ _ fun j hj h2=>?_
  obtain ⟨p,hp,Ws⟩:=Kw j hj
  rcases Nat.lt_trichotomy j i with hji | hji | hji
  · rw [before j p hp hji (SL (by rw [hts j hj];exact h2) (by rw [hts i hi];exact SI ht))];simp [hji]
  · subst hji;rw [hX];simp
  · rw [behind j p hp hji (Wq (by rw [hts j hj];exact h2) (by rw [hts i hi];exact SI ht))];simp;omega
 have hadd:oo o.dst (aP tr i).r (lq ops tr S0 X ops.length).tmps=(lq ops tr S0 (upd X i) ops.length).tmps:=by
  simp only [lq]
  rw [← hdst]
  refine Kr _ _ hi hX fun j hj hjn hxj x hx hd=>?_
  obtain ⟨p,hp,Ws⟩:=Kw j hjn
  rw [Ws] at hd
  rw [hdst] at hx
  have:=behind j p hp hj (JB hx hd)
  rw [this] at hxj;cases hxj
 have ZC:(lq ops tr S0 (upd X i) ops.length).objs=if co (aP tr i).t=2 then (aP tr i).objs else (lq ops tr S0 X ops.length).objs:=by
  simp only [lq]
  split
  · rename_i ht
    refine Kt _ _ hi ht fun j hj hjn hxj hj2=>?_
    obtain ⟨p,hp,Ws⟩:=Kw j hjn
    have:=behind j p hp hj (SL (by rw [hts i hi];exact ht) (by rw [hts j hjn,hj2];decide))
    rw [this] at hxj;cases hxj
  · rename_i ht
    refine oU _ _ fun j hj h2=>?_
    have hne:j≠i:=fun e=>ht (e ▸ h2)
    simp [upd,hne]
 have hput:∀ objs',(objs'=(lq ops tr S0 (upd X i) ops.length).objs)→St.put ⟨(lq ops tr S0 X ops.length).tmps,objs'⟩ o.dst (aP tr i).r=lq ops tr S0 (upd X i) ops.length:=by
  rintro objs' rfl
  cases hd:o.dst with
  | none=>rw [hd] at hadd;simp only [oo] at hadd;simp only [St.put];rw [hadd]
  | some d=>rw [hd] at hadd;simp only [oo] at hadd;simp only [St.put];rw [hadd]
 unfold wpOpIn
 have h0:ops.toArray[i]?=some o:=by simpa using ho
 rw [h0]
 simp only []
 rcases Kv (hst i o ho) SN oh with ⟨h1,h2,h3⟩ | ⟨h1,h2,h3⟩
 · rw [if_pos (om R h1)]
   refine zW l hD R h3 fun r objs' t v w' av hr R' hv=>?_
   obtain ⟨rfl,rfl,e0,e1⟩:=hr
   have:=R'.put hv o.dst
   rw [hput objs' (by
    rw [ZC]
    split
    · rename_i ht;exact e1 (fun hz=>by rw [hz] at ht;exact absurd ht (by decide))
    · rename_i ht
      by_cases hz:(aP tr i).t=0
      · exact e0 hz
      · rw [e1 hz];exact h2 ht hz)] at this
   exact hK _ _ _ this
 · rw [if_neg (by rw [om R h1];simp)]
   refine ⟨fun _ _=>trivial,?_⟩
   have:=R.put (wF w _ _ blk) o.dst
   rw [← h2] at this
   have hs:=hput (lq ops tr S0 X ops.length).objs (by rw [ZC,if_neg (by rw [h3];decide)])
   rw [show (lq ops tr S0 X ops.length).put o.dst (aP tr i).r=St.put ⟨(lq ops tr S0 X ops.length).tmps,(lq ops tr S0 X ops.length).objs⟩ o.dst (aP tr i).r from rfl,hs] at this
   exact hK _ _ _ this
theorem FI {own:Nat→Bool}{ops:List Oper}{ts:List Nat}{ms:List Nat}{tr:List Hg}{S0:St}(hD:∀ t,iH P t (D t)) (hok:Ql ops ts ms)
  (hts:∀ i,i<ops.length→ts.getD i 0=(aP tr i).t)
  (hst:∀ i o,ops[i]?=some o→qI P D (own i) ops o (lq ops tr S0 (fun _=>true) i) (aP tr i))
  {base ak:Nat→Prop}{w0:Wz}{Q:Exit→Act→World→Prop}
  (hQ:∀ av a' w',Rel base ak w0 (lq ops tr S0 (fun _=>true) ops.length) av a' w'→Q .normal a' w') :
  ∀ (fuel:Nat) (L:Array Bool) (blk:Nat→Option Nat) (a:Act) (w:World),L.size=ops.length→
   (∀ j,j<ops.length→L.getD j false=true→∀ x,(ms.getD j 0).testBit x=true→L.getD x false=true)→cnt (fun j=>L.getD j false) ops.length≤fuel→
   Rel base ak w0 (lq ops tr S0 (fun j=>L.getD j false) ops.length) blk a w→wpAnyIn (EB l) 0 P .any ops.toArray Q fuel L a w:=by
 have full:∀ (L:Array Bool),L.size=ops.length→Region.ready .any ops.toArray L=[]→∀ i,i<ops.length→L.getD i false=true:=by
  intro L hsz hr i
  induction i using Nat.strongRecOn with
  | _ i ih=>
   intro hi
   cases hx:L.getD i false with
   | true=>rfl
   | false=>
    have hmem:i ∈ Region.ready .any ops.toArray L:=by
     simp only [Region.ready,List.mem_filter,List.mem_range,Bool.and_eq_true]
     refine ⟨by simpa using hi,?_,?_⟩
     · have hil:i<L.size:=by omega
       rw [Array.getD_eq_getD_getElem?,Array.getElem?_eq_getElem hil,getD_some] at hx ⊢
       rw [hx];rfl
     · have ho:ops.toArray[i]?=some ops[i]:=by simp [hi]
       rw [ho]
       simp only [map_some,getD_some]
       rw [Array.all_eq_true']
       intro e he
       cases hbd:Region.binds .any e with
       | false=>simp
       | true=>
        have hb:=hok.back i ops[i] (List.getElem?_eq_getElem hi) e (by simpa using he) hbd
        rw [ih e.on hb (by omega)];simp
    rw [hr] at hmem
    simp at hmem
 have step:∀ (L:Array Bool) (i:Nat),L.size=ops.length→i ∈ Region.ready .any ops.toArray L→∃ o,ops[i]?=some o∧L.getD i false=false∧∀ e ∈ o.after.toList,Region.binds .any e=true→L.getD e.on false=true:=by
  intro L i hsz hm
  simp only [Region.ready,List.mem_filter,List.mem_range,Bool.and_eq_true] at hm
  obtain ⟨hi,h1,h2⟩:=hm
  have hi:i<ops.length:=by simpa using hi
  have ho:ops.toArray[i]?=some ops[i]:=by simp [hi]
  rw [ho] at h2
  simp only [map_some,getD_some] at h2
  rw [Array.all_eq_true'] at h2
  refine ⟨ops[i],List.getElem?_eq_getElem hi,?_,fun e he hb=>?_⟩
  · have hil:i<L.size:=by omega
    rw [Array.getD_eq_getD_getElem?,Array.getElem?_eq_getElem hil,getD_some] at h1 ⊢
    simpa using h1
  · have:=h2 e (by simpa using he)
    rw [hb] at this
    simpa using this
 intro fuel
 induction fuel with
 | zero=>
  intro L blk a w hsz hcl hc R
  have hall:=FD (X:=fun j=>L.getD j false) ops.length (by omega)
  have hst':lq ops tr S0 (fun j=>L.getD j false) ops.length=lq ops tr S0 (fun _=>true) ops.length:=by
   simp only [lq];rw [mK ops.length _ hall,oU ops.length _ fun j hj _=>hall j hj]
  refine ⟨?_,hQ blk a w (hst' ▸ R)⟩
  cases hr:Region.ready .any ops.toArray L with
  | nil=>rfl
  | cons i is=>
   obtain ⟨o,ho,hx,_⟩:=step L i hsz (by rw [hr];exact List.mem_cons_self)
   rw [hall i (List.getElem?_eq_some_iff.1 ho).1] at hx
   cases hx
 | succ fuel ih=>
  intro L blk a w hsz hcl hc R
  refine ⟨fun hr=>?_,fun i hm=>?_⟩
  · have hall:=full L hsz hr
    have hst':lq ops tr S0 (fun j=>L.getD j false) ops.length=lq ops tr S0 (fun _=>true) ops.length:=by
     simp only [lq];rw [mK ops.length _ hall,oU ops.length _ fun j hj _=>hall j hj]
    exact hQ blk a w (hst' ▸ R)
  · obtain ⟨o,ho,hx,hrd⟩:=step L i hsz hm
    have hi:i<ops.length:=(List.getElem?_eq_some_iff.1 ho).1
    have Wt:∀ x,(ms.getD i 0).testBit x=true→L.getD x false=true:=by
     intro x hb
     obtain ⟨e,h1,h2,h3⟩:=hok.mask i o ho x hb
     have he:=hrd e h1 h2
     rcases h3 with rfl | h3
     · exact he
     · exact hcl e.on (by have:=hok.back i o ho e h1 h2;omega) he x h3
    have Wu:∀ j,(L.setIfInBounds i true).getD j false=upd (fun j=>L.getD j false) i j:=by
     intro j
     rw [Array.getD_eq_getD_getElem?,Array.getElem?_setIfInBounds]
     simp only [upd]
     by_cases hij:i=j
     · subst hij
       rw [if_pos rfl,if_pos (by omega)];simp
     · rw [if_neg hij,Array.getD_eq_getD_getElem?]
       have:(j==i)=false:=by simp;omega
       rw [this,Bool.or_false]
    have hfun:(fun j=>(L.setIfInBounds i true).getD j false)=upd (fun j=>L.getD j false) i:=funext Wu
    refine Uu (X:=fun j=>L.getD j false) hD hok hts hst ho hx hcl Wt R fun av a' w' R'=>?_
    refine ih _ av a' w' (by simpa using hsz) ?_ ?_ (by rw [hfun];exact R')
    · intro j hj hb x hbx
      rw [Wu] at hb ⊢
      simp only [upd,Bool.or_eq_true,beq_iff_eq] at hb ⊢
      rcases hb with hb | rfl
      · exact .inl (hcl j hj hb x hbx)
      · exact .inl (Wt x hbx)
    · rw [hfun]
      have:=Ku (X:=fun j=>L.getD j false) ops.length hi hx
      omega
theorem PW.draw {E:Env}{id:Nat}{ops:List Oper}{Q:Exit→St→Prop}{S:St}(own:Nat→Bool) (hD:∀ t,iH P t (D t)) (hm:P.follows .mixedOrders=true)
  (h:pE P D own ops ops 0 S [] fun S' ts=>sP ops ts=true∧Q .normal S'):PW P l E (.region id ops.toArray true) Q S:=by
 intro base ak V hE blk a w ⟨w0,hV,R⟩
 obtain ⟨tr,S',h1,h2,h3⟩:=lN _ _ _ _ _ h
 obtain ⟨h4,h5⟩:=ve (S0:=S) (tr0:=tr) ops 0 S tr S' h1 (fun j=>by simp) (fun j=>by simp) rfl
 refine wpIn_region_any hm ?_
 have R':Rel base ak w0 S blk a { w with drawn:=w.drawn+1 }:=R.grew (.same rfl)
 have hR:∀ (L:Array Bool),(∀ j,L.getD j false=false)→lq ops tr S (fun j=>L.getD j false) ops.length=S:=by
  intro L hL
  have e1:∀ n tm,FB (pF ops) (aP tr) (fun j=>L.getD j false) n tm=tm:=by
   intro n tm
   induction n with
   | zero=>rfl
   | succ n ih=>simp only [FB];rw [if_neg (by rw [hL n];simp)];exact ih
  have e2:∀ n ob,oQ (aP tr) (fun j=>L.getD j false) n ob=ob:=by
   intro n ob
   induction n with
   | zero=>rfl
   | succ n ih=>simp only [oQ];rw [if_neg (by rw [hL n];simp)];exact ih
  simp only [lq,e1,e2]
 have hcn:∀ (X:Nat→Bool) n,cnt X n≤n:=by
  intro X n
  induction n with
  | zero=>exact Nat.le_refl _
  | succ n ih=>simp only [cnt];split <;> omega
 have hrep:∀ j,(Array.replicate ops.toArray.size false).getD j false=false:=by
  intro j
  rw [Array.getD_eq_getD_getElem?,Array.getElem?_replicate]
  split <;> rfl
 have hts:∀ i,i<ops.length→(tr.map (·.t)).getD i 0=(aP tr i).t:=by
  intro i hi
  have hl:tr.length=ops.length:=by
   clear h2 h3 h4 h5 h
   have:∀ (p_:List Oper) (k:Nat) (S:St) (tr:List Hg) (S':St),Trace P D own ops p_ k S tr S'→tr.length=p_.length:=by
    intro p_
    induction p_ with
    | nil=>rintro k S tr S' ⟨rfl,_⟩;rfl
    | cons o p_ ih=>
     rintro k S tr S' ⟨e,tr',rfl,_,h⟩
     simp [ih _ _ _ _ h]
   exact this _ _ _ _ _ h1
  have hil:i<tr.length:=by omega
  simp [aP,List.getD_eq_getElem?_getD,List.getElem?_map,List.getElem?_eq_getElem hil]
 rw [Nat.zero_add] at h5
 subst h5
 have hc:=hcn (fun j=>(Array.replicate ops.toArray.size false).getD j false) ops.length
 have hsz:ops.toArray.size=ops.length:=by simp
 have hrs:(Array.replicate ops.toArray.size false).size=ops.length:=by simp
 have hQ:∀ av a' w',Rel base ak w0 (lq ops tr S (fun _=>true) ops.length) av a' w'→∃ S' pG,Q .normal S'∧qd base ak V S' pG a' w':=
  fun av a' w' R''=>⟨_,av,h3,w0,hV,R''⟩
 have R1:Rel base ak w0 (lq ops tr S (fun j=>(Array.replicate ops.toArray.size false).getD j false) ops.length) blk a { w with drawn:=w.drawn+1 }:=by rw [hR _ hrep];exact R'
 have hcl:∀ j,j<ops.length→(Array.replicate ops.toArray.size false).getD j false=true→∀ x,((masks ops []).getD j 0).testBit x=true→(Array.replicate ops.toArray.size false).getD x false=true:=by
  intro j _ hb
  rw [hrep] at hb;cases hb
 have h2':sP ops (tr.map (·.t))=true:=h2
 generalize Array.replicate ops.toArray.size false=L at *
 exact FI (Q:=fun e a' w'=>∃ S' av,Q e S'∧qd base ak V S' av a' w') hD (Dq h2') hts (fun i o ho=>h4 i o (Nat.zero_le _) ho) hQ ops.toArray.size L blk a _ hrs hcl (by rw [hsz];exact hc) R1
end Lp
namespace Lp
open Go
open Bool (and_eq_true or_eq_true)
open Option (getD_some map_some)
variable {P:Program}{D:TypeId→aG}{l:Option Nat}
def hole:Obj:=⟨0,0,[],false,0⟩
section
variable {base ak:Nat→Prop}{w0:Wz}{blk:Nat→Option Nat}{a:Act}{w:World}
theorem zZ {ok:Nat→Prop}{objs:List Obj}{cs:List PV}{vs:List Value}(h:b_ (bK w ok objs blk) cs vs):cs.all (PV.uS objs.length)=true:=by
 rw [List.all_eq_true]
 intro p hp
 obtain ⟨i,hi,rfl⟩:=List.getElem_of_mem hp
 exact nL (h.2 i _ _ (List.getElem?_eq_getElem hi) (List.getElem?_eq_getElem (by rw [← h.1];exact hi)))
theorem Nh {ok:Nat→Prop}{objs:List Obj}{p:PV}{v:Value}(h:aU w ok objs blk p v):p.lt objs.length=true:=by
 cases p with
 | fn f a c=>obtain ⟨_,_,_,h1,h2⟩:=h;simp only [PV.lt,zZ h1,zZ h2,Bool.and_self]
 | bV cs=>obtain ⟨_,_,h1⟩:=h;simp only [PV.lt,zZ h1]
 | agg cs=>obtain ⟨_,_,h1⟩:=h;simp only [PV.lt,zZ h1]
 | aX k ver=>exact nL (w:=w) (ok:=ok) (p:=.aX k ver) (v:=v) h
 | bL k ver i f=>exact nL (w:=w) (ok:=ok) (p:=.bL k ver i f) (v:=v) h
 | su k ver=>exact nL (w:=w) (ok:=ok) (p:=.su k ver) (v:=v) h
 | _=>rfl
theorem Rel.holes {S:St}(R:Rel base ak w0 S blk a w):∀ n:Nat,∃ av,Rel base ak w0 ⟨S.tmps,S.objs++List.replicate n hole⟩ av a w
 | 0=>⟨blk,by simpa using R⟩
 | n+1=>by
  obtain ⟨av,R'⟩:=R.holes n
  have h:=R'.Ch (o1:=hole) (gb:=none) (j4.refl w) (fun g hg=>by cases hg) fun _=>by
   unfold bY aI
   rw [if_pos rfl]
   rfl
  rw [List.replicate_succ',← List.append_assoc]
  exact ⟨_,h⟩
theorem Rel.fill {tm:List PV}{O:List Obj}{o1:Obj}{k:Nat}{w':World}{av:Nat→Option Nat}(R:Rel base ak w0 ⟨tm,O⟩ blk a w) (hk:O[k]?=some hole) (hl:o1.live=true) (hv:o1.ver=1)
  (R':Rel base ak w0 ⟨tm,O++[o1]⟩ av a w') (hn:Di O (O++[o1])){mk:Nat→PV}(hm:Mk mk){v:Value}(hr:aU w' (bZ base (O++[o1]) av) (O++[o1]) av (mk O.length) v) :
  ∃ iB,Rel base ak w0 ⟨tm,O.set k o1⟩ iB a w'∧aU w' (bZ base (O.set k o1) iB) (O.set k o1) iB (mk k) v:=by
 have hkl:=(List.getElem?_eq_some_iff.1 hk).1
 obtain ⟨iB,hb2⟩:∃ iB:Nat→Option Nat,iB=fun j=>if j=k then av O.length else av j:=⟨_,rfl⟩
 have bk:iB k=av O.length:=by rw [hb2];simp
 have bo:∀ j,j≠k→iB j=av j:=fun j hj=>by rw [hb2];simp [hj]
 have YD:(O++[o1])[O.length]?=some o1:=by simp
 have acH:∀ j o,O[j]?=some o→(O++[o1])[j]?=some o:=fun j o h=>by
  rw [List.getElem?_append_left (List.getElem?_eq_some_iff.1 h).1];exact h
 have gk:(O.set k o1)[k]?=some o1:=by rw [List.getElem?_set];simp [hkl]
 have go:∀ j,j≠k→(O.set k o1)[j]?=O[j]?:=fun j hj=>by rw [List.getElem?_set,if_neg (fun e=>hj e.symm)]
 have hlive:∀ (j:Nat) (o:Obj),(O.set k o1)[j]?=some o→o.live=true→∃ j',(O++[o1])[j']?=some o∧av j'=iB j∧((j=k∧j'=O.length)∨(j≠k∧j'=j∧j<O.length)):=by
  intro j o h1 h2
  by_cases hj:j=k
  · subst hj
    rw [gk] at h1;cases h1
    exact ⟨O.length,YD,bk.symm,.inl ⟨rfl,rfl⟩⟩
  · rw [go j hj] at h1
    exact ⟨j,acH j o h1,(bo j hj).symm,.inr ⟨hj,rfl,(List.getElem?_eq_some_iff.1 h1).1⟩⟩
 have hnl:∀ b,aV (O++[o1]) av b→aV (O.set k o1) iB b:=by
  intro b h j o h1 h2 h3
  obtain ⟨j',g1,g2,_⟩:=hlive j o h1 h2
  exact h j' o g1 h2 (by rw [g2];exact h3)
 have hok:∀ b,bZ base (O++[o1]) av b→bZ base (O.set k o1) iB b:=fun b h=>⟨h.1,hnl b h.2⟩
 have hS:∀ (p:PV) (u:Value),p.uS O.length=true→bK w' (bZ base (O++[o1]) av) (O++[o1]) av p u→bK w' (bZ base (O.set k o1) iB) (O.set k o1) iB p u:=by
  intro p u hp h
  have hm':∀ q:PV,dA w' (bZ base (O++[o1]) av) q u→dA w' (bZ base (O.set k o1) iB) q u:=fun q hq=>hq.mono (Nat.le_refl _) (fun b _ hb=>hok b hb) (fun _ _ _ h=>h)
  cases p with
  | aX j ver=>
   have hj:j<O.length:=by simpa [PV.uS] using hp
   obtain ⟨h0,o,g1,g2,g3⟩:=h
   rw [List.getElem?_append_left hj] at g1
   by_cases hjk:j=k
   · subst hjk
     rw [hk] at g1;cases g1
     refine ⟨h0,o1,gk,by rw [hv];exact Nat.le_trans g2 (by decide),fun _ e=>?_⟩
     have:ver≤0:=g2
     omega
   · refine ⟨h0,o,by rw [go j hjk];exact g1,g2,fun e1 e2=>?_⟩
     obtain ⟨hM,this⟩:=g3 e1 e2
     refine ⟨hM,?_⟩
     unfold zQ at this ⊢
     rw [bo j hjk];exact this
  | bL j ver i f=>
   have hj:j<O.length:=by simpa [PV.uS] using hp
   obtain ⟨h0,o,g1,g2,g3⟩:=h
   rw [List.getElem?_append_left hj] at g1
   by_cases hjk:j=k
   · subst hjk
     rw [hk] at g1;cases g1
     refine ⟨h0,o1,gk,by rw [hv];exact Nat.le_trans g2 (by decide),fun _ e=>?_⟩
     have:ver≤0:=g2
     omega
   · refine ⟨h0,o,by rw [go j hjk];exact g1,g2,fun e1 e2=>?_⟩
     rw [bo j hjk];exact g3 e1 e2
  | su j ver=>
   have hj:j<O.length:=by simpa [PV.uS] using hp
   obtain ⟨h0,o,g1,g2,g3⟩:=h
   rw [List.getElem?_append_left hj] at g1
   by_cases hjk:j=k
   · subst hjk
     rw [hk] at g1;cases g1
     refine ⟨h0,o1,gk,by rw [hv];exact Nat.le_trans g2 (by decide),fun _ e=>?_⟩
     have:ver≤0:=g2
     omega
   · refine ⟨h0,o,by rw [go j hjk];exact g1,g2,fun e1 e2=>?_⟩
     rw [bo j hjk];exact g3 e1 e2
  | _=>exact hm' _ h
 have hLs:∀ (cs:List PV) (us:List Value),cs.all (PV.uS O.length)=true→b_ (bK w' (bZ base (O++[o1]) av) (O++[o1]) av) cs us→b_ (bK w' (bZ base (O.set k o1) iB) (O.set k o1) iB) cs us:=
  fun cs us hc h=>⟨h.1,fun i p u h1 h2=>hS p u (List.all_eq_true.1 hc p (List.mem_of_getElem? h1)) (h.2 i p u h1 h2)⟩
 have hT:∀ (p:PV) (u:Value),p.lt O.length=true→aU w' (bZ base (O++[o1]) av) (O++[o1]) av p u→aU w' (bZ base (O.set k o1) iB) (O.set k o1) iB p u:=by
  intro p u hp h
  cases p with
  | fn f a c=>
   simp only [PV.lt,and_eq_true] at hp
   obtain ⟨va,vc,rfl,h1,h2⟩:=h
   exact ⟨va,vc,rfl,hLs _ _ hp.1 h1,hLs _ _ hp.2 h2⟩
  | bV cs=>obtain ⟨us,rfl,h1⟩:=h;exact ⟨us,rfl,hLs _ _ hp h1⟩
  | agg cs=>obtain ⟨us,rfl,h1⟩:=h;exact ⟨us,rfl,hLs _ _ hp h1⟩
  | aX j ver=>exact hS (.aX j ver) u hp h
  | bL j ver i f=>exact hS (.bL j ver i f) u hp h
  | su j ver=>exact hS (.su j ver) u hp h
  | _=>exact .jT (hS _ u rfl (by exact h))
 have HZ:∀ (j j':Nat) (o:Obj),bY w' (bZ base (O++[o1]) av) (O++[o1]) av j' o→av j'=iB j→(∀ x ∈ o.xs,∀ p ∈ x.cells,∀ u,bK w' (bZ base (O++[o1]) av) (O++[o1]) av p u→bK w' (bZ base (O.set k o1) iB) (O.set k o1) iB p u)→
     bY w' (bZ base (O.set k o1) iB) (O.set k o1) iB j o:=by
  intro j j' o h e ht
  unfold bY at h ⊢
  rw [← e]
  cases hb:av j' with
  | none=>rw [hb] at h;exact h
  | some g=>
   rw [hb] at h
   obtain ⟨c,x1,x2,x3⟩:=h
   refine ⟨c,x1,x2,fun i x hx=>⟨(x3 i x hx).1,fun q p hp=>?_⟩⟩
   obtain ⟨u,y1,y2⟩:=(x3 i x hx).2 q p hp
   exact ⟨u,y1,ht x (List.mem_of_getElem? hx) p (List.mem_of_getElem? hp) u y2⟩
 refine ⟨iB,⟨R'.nJ.mono (fun b _ h=>⟨hok b h.1,h.2⟩) (fun _ _ _ h=>h),R'.Ce,fun t p hp=>hT p _ (Nh (R.tm t p hp)) (R'.tm t p hp),⟨?_,?_,?_⟩,R'.pr,R'.fr,R'.gr,R'.pb,fun x hx=>hT _ _ (Nh (R.ext x hx)) (R'.ext x hx),R'.Jr,R'.sm,R'.gl⟩,?_⟩
 · intro j o h1 h2
   obtain ⟨j',g1,g2,hc⟩:=hlive j o h1 h2
   have h3:=R'.objs.ob j' o g1 h2
   refine HZ j j' o h3 g2 fun x hx p hp u hu=>?_
   rcases hc with ⟨rfl,rfl⟩ | ⟨hj,_,hjl⟩
   · rw [gk] at h1;cases h1
     exact hS p u (hn o1 rfl x hx p hp) hu
   ·
    rw [go j hj] at h1
    have h4:=R.objs.ob j o h1 h2
    have hlt:p.uS O.length=true:=by
     obtain ⟨i,hi,rfl⟩:=List.getElem_of_mem hx
     obtain ⟨q,hq,rfl⟩:=List.getElem_of_mem hp
     unfold bY at h4
     cases hb:blk j with
     | none=>rw [hb] at h4;simp [h4] at hi
     | some g=>
      rw [hb] at h4
      obtain ⟨c,_,_,x3⟩:=h4
      obtain ⟨u',_,y2⟩:=(x3 i _ (List.getElem?_eq_getElem hi)).2 q _ (List.getElem?_eq_getElem hq)
      exact nL y2
    exact hS p u hlt hu
 · intro j1 j2 q1 q2 g hne h1 h2 h3 h4 h5
   obtain ⟨i1,a1,a2,a3⟩:=hlive j1 q1 h1 h2
   obtain ⟨i2,b1,b2,b3⟩:=hlive j2 q2 h3 h4
   rw [← a2] at h5
   rw [← b2]
   refine R'.objs.Jp i1 i2 q1 q2 g ?_ a1 h2 b1 h4 h5
   rcases a3 with ⟨rfl,rfl⟩ | ⟨_,rfl,_⟩ <;> rcases b3 with ⟨rfl,rfl⟩ | ⟨_,rfl,_⟩ <;> first | exact absurd rfl hne | omega
 · intro j o g h1 h2 h3
   obtain ⟨j',g1,g2,_⟩:=hlive j o h1 h2
   rw [← g2] at h3
   exact R'.objs.np j' o g g1 h2 h3
 · rcases hm with rfl | rfl | rfl
   · obtain ⟨h0,o,g1,g2,g3⟩:=hr
     rw [YD] at g1;cases g1
     refine ⟨h0,o1,gk,g2,fun e1 e2=>?_⟩
     obtain ⟨hM,this⟩:=g3 e1 e2
     refine ⟨hM,?_⟩
     unfold zQ at this ⊢
     rw [bk];exact this
   · obtain ⟨h0,o,g1,g2,g3⟩:=hr
     rw [YD] at g1;cases g1
     refine ⟨h0,o1,gk,g2,fun e1 e2=>?_⟩
     rw [bk];exact g3 e1 e2
   · obtain ⟨h0,o,g1,g2,g3⟩:=hr
     rw [YD] at g1;cases g1
     refine ⟨h0,o1,gk,g2,fun e1 e2=>?_⟩
     rw [bk];exact g3 e1 e2
end
def Ky (t:Nat):Option Nat:=if 5≤t∧t % 2=1 then some ((t-5) / 2) else none
theorem Qn (k:Nat):Ky (5+2*k)=some k:=by
 unfold Ky;rw [if_pos (by omega)];congr 1;omega
theorem Wv (k:Nat):Ky (4+2*k)=none:=by unfold Ky;rw [if_neg (by omega)]
theorem Ni:Ky 0=none:=rfl
def yw (tj ti:Nat):Bool:=decide (4≤tj) && decide (4≤ti) && (tj-4) / 2==(ti-4) / 2 && (tj % 2==1 || ti % 2==1)
theorem Cr {tj ti k:Nat}(h:(Ky tj=some k∧(ti=4+2*k∨ti=5+2*k))∨(Ky ti=some k∧(tj=4+2*k∨tj=5+2*k))):yw tj ti=true:=by
 have key:∀ t,Ky t=some k→t=5+2*k:=by
  intro t ht
  unfold Ky at ht
  split at ht
  · simp only [Option.some.injEq] at ht;omega
  · cases ht
 unfold yw
 simp only [and_eq_true,decide_eq_true_eq,or_eq_true,beq_iff_eq]
 rcases h with ⟨h1,h2 | h2⟩ | ⟨h1,h2 | h2⟩ <;> have:=key _ h1 <;> omega
def z8 (t:Nat):Bool:=t==0 || decide (4≤t)
theorem Dt {t:Nat}(h:z8 t=true):t=0∨(∃ k,t=4+2*k)∨∃ k,t=5+2*k:=by
 simp only [z8,or_eq_true,beq_iff_eq,decide_eq_true_eq] at h
 rcases h with h | h
 · exact .inl h
 · rcases Nat.mod_two_eq_zero_or_one t with e | e
   · exact .inr (.inl ⟨(t-4) / 2,by omega⟩)
   · exact .inr (.inr ⟨(t-5) / 2,by omega⟩)
structure Kz (ops:List Oper) (ts:List Nat) (ms:List Nat):Prop where
 fine:∀ i,i<ops.length→z8 (ts.getD i 0)=true
 back:∀ (i:Nat) (o:Oper),ops[i]?=some o→∀ e ∈ o.after.toList,Region.binds .any e=true→e.on<i
 mask:∀ (i:Nat) (o:Oper),ops[i]?=some o→∀ j,(ms.getD i 0).testBit j=true→∃ e ∈ o.after.toList,Region.binds .any e=true∧(j=e.on∨(ms.getD e.on 0).testBit j=true)
 ord:∀ (i:Nat) (o:Oper) (j:Nat) (p:Oper),ops[i]?=some o→ops[j]?=some p→j<i→(clash p.dst o.dst (iX ops p) (iX ops o) 0 0 || yw (ts.getD j 0) (ts.getD i 0))=true→(ms.getD i 0).testBit j=true
section
variable {en:Nat→Hg}
def z_ (en:Nat→Hg) (X:Nat→Bool):Nat→List Obj→List Obj
 | 0,ob=>ob
 | n+1,ob=>if X n then (match Ky (en n).t with
  | some k=>(z_ en X n ob).set k ((en n).objs.getD k hole)
  | none=>z_ en X n ob) else z_ en X n ob
theorem pI (X:Nat→Bool):∀ (n:Nat) (ob:List Obj),(z_ en X n ob).length=ob.length
 | 0,_=>rfl
 | n+1,ob=>by
  simp only [z_]
  split
  · split
    · rw [List.length_set,pI X n ob]
    · exact pI X n ob
  · exact pI X n ob
theorem rq {X Y:Nat→Bool}:∀ (n:Nat) (ob:List Obj),(∀ j,j<n→X j=Y j)→z_ en X n ob=z_ en Y n ob
 | 0,_,_=>rfl
 | n+1,ob,h=>by simp only [z_];rw [h n (by omega),rq n ob (fun j hj=>h j (by omega))]
theorem SQ {X Y:Nat→Bool}{k:Nat}:∀ (n:Nat) (ob:List Obj),(∀ j,j<n→Ky (en j).t=some k→X j=Y j)→(z_ en X n ob)[k]?=(z_ en Y n ob)[k]?
 | 0,_,_=>rfl
 | n+1,ob,h=>by
  have ih:=SQ (X:=X) (Y:=Y) (k:=k) n ob (fun j hj=>h j (by omega))
  have hl:(z_ en X n ob).length=(z_ en Y n ob).length:=by rw [pI,pI]
  simp only [z_]
  cases hw:Ky (en n).t with
  | none=>simp only [];split <;> split <;> exact ih
  | some k'=>
   simp only []
   by_cases hk:k'=k
   · subst hk
     rw [h n (by omega) hw]
     split
     · rw [List.getElem?_set,List.getElem?_set];simp [hl]
     · exact ih
   · split <;> split <;> (try rw [List.getElem?_set,if_neg hk]) <;> (try rw [List.getElem?_set,if_neg hk]) <;> exact ih
theorem JC {i:Nat}:∀ (n:Nat) (ob:List Obj),i≤n→z_ en (fun j=>decide (j<i)) n ob=z_ en (fun _=>true) i ob
 | 0,_,h=>by have:i=0:=by omega
             subst this;rfl
 | n+1,ob,h=>by
  by_cases hi:i=n+1
  · subst hi
    exact rq (n+1) ob fun j hj=>by simp [hj]
  · simp only [z_]
    rw [if_neg (by simp;omega)]
    exact JC n ob (by omega)
theorem SS {X:Nat→Bool}{i k:Nat}:∀ (n:Nat) (ob:List Obj),i<n→X i=false→Ky (en i).t=some k→(∀ j,i<j→j<n→X j=true→Ky (en j).t≠some k)→
  z_ en (upd X i) n ob=(z_ en X n ob).set k ((en i).objs.getD k hole)
 | 0,_,h,_,_,_=>by omega
 | n+1,ob,hi,hx,hw,hd=>by
  simp only [z_]
  by_cases hin:i=n
  · subst hin
    simp only [hx,upd,beq_self_eq_true,Bool.or_true,if_true,Bool.false_eq_true,if_false,hw]
    rw [rq (en:=en) (X:=upd X i) (Y:=X) i ob (fun j hj=>by simp [upd];omega)]
  · have hu:upd X i n=X n:=by simp [upd];omega
    rw [hu]
    have ih:=SS (X:=X) n ob (by omega) hx hw (fun j h1 h2=>hd j h1 (by omega))
    split
    · rename_i hn
      have:=hd n (by omega) (by omega) hn
      split
      · rename_i k' hk'
        rw [hk'] at this
        have hne:k≠k':=fun e=>this (by rw [e])
        rw [ih,List.set_comm _ _ hne]
      · exact ih
    · exact ih
theorem Nj {X:Nat→Bool}{i:Nat}:∀ (n:Nat) (ob:List Obj),Ky (en i).t=none→z_ en (upd X i) n ob=z_ en X n ob
 | 0,_,_=>rfl
 | n+1,ob,hw=>by
  have ih:=Nj (X:=X) n ob hw
  simp only [z_]
  by_cases hin:n=i
  · subst hin
    rw [hw,ih]
    simp
  · have hu:upd X i n=X n:=by simp [upd,hin]
    rw [hu,ih]
end
def uO (ops:List Oper) (tr:List Hg) (S:St) (A:Nat) (X:Nat→Bool) (n:Nat):St:=⟨FB (pF ops) (aP tr) X n S.tmps,z_ (aP tr) X n (S.objs++List.replicate A hole)⟩
theorem SV {own:Nat→Bool}{ops:List Oper}{tr:List Hg}{S0:St}(hst:∀ i o,ops[i]?=some o→qI P D (own i) ops o (lq ops tr S0 (fun _=>true) i) (aP tr i))
  (hf:∀ i,i<ops.length→z8 (aP tr i).t=true):∀ i,i<ops.length→(oQ (aP tr) (fun _=>true) i S0.objs).length≤(oQ (aP tr) (fun _=>true) (i+1) S0.objs).length∧
   ((Ky (aP tr i).t=none∧oQ (aP tr) (fun _=>true) (i+1) S0.objs=oQ (aP tr) (fun _=>true) i S0.objs)∨
    ∃ k o1,Ky (aP tr i).t=some k∧(aP tr i).objs.getD k hole=o1∧
     ((k<(oQ (aP tr) (fun _=>true) i S0.objs).length∧oQ (aP tr) (fun _=>true) (i+1) S0.objs=(oQ (aP tr) (fun _=>true) i S0.objs).set k o1)∨
      (k=(oQ (aP tr) (fun _=>true) i S0.objs).length∧oQ (aP tr) (fun _=>true) (i+1) S0.objs=oQ (aP tr) (fun _=>true) i S0.objs++[o1]))):=by
 intro i hi
 have h:=hst i ops[i] (List.getElem?_eq_getElem hi)
 have hfi:=hf i hi
 have oh:(lq ops tr S0 (fun _=>true) i).objs=oQ (aP tr) (fun _=>true) i S0.objs:=rfl
 have hX:oQ (aP tr) (fun _=>true) (i+1) S0.objs=if co (aP tr i).t=2 then (aP tr i).objs else oQ (aP tr) (fun _=>true) i S0.objs:=by
  simp only [oQ,Bool.true_and,beq_iff_eq]
 rcases h with ⟨_,_,_,_,Du⟩ | ⟨_,_,_,h4⟩
 · rw [oh] at Du
   rcases Dt hfi with h0 | ⟨k,hk⟩ | ⟨k,hk⟩
   · rw [hX,h0,if_neg (by decide)]
     exact ⟨Nat.le_refl _,.inl ⟨Ni,rfl⟩⟩
   · rw [hX,hk,abw,if_neg (by decide)]
     exact ⟨Nat.le_refl _,.inl ⟨Wv k,rfl⟩⟩
   · rw [hX,if_pos (by rw [hk];exact SH k)]
     rcases Du.wr k hk with ⟨o1,g1,g2,_⟩ | ⟨g1,o1,mk,_,_,g2,_⟩
     · rw [g2]
       refine ⟨by simp,.inr ⟨k,o1,by rw [hk];exact Qn k,?_,.inl ⟨g1,rfl⟩⟩⟩
       rw [List.getD_eq_getElem?_getD,List.getElem?_set];simp [g1]
     · rw [g2]
       refine ⟨by simp,.inr ⟨k,o1,by rw [hk];exact Qn k,?_,.inr ⟨g1,rfl⟩⟩⟩
       rw [List.getD_eq_getElem?_getD,g1];simp
 · rw [hX,h4,if_neg (by decide)]
   exact ⟨Nat.le_refl _,.inl ⟨Ni,rfl⟩⟩
theorem Ww {own:Nat→Bool}{ops:List Oper}{tr:List Hg}{S0:St}{A:Nat}(hst:∀ i o,ops[i]?=some o→qI P D (own i) ops o (lq ops tr S0 (fun _=>true) i) (aP tr i))
  (hf:∀ i,i<ops.length→z8 (aP tr i).t=true) (hA:(oQ (aP tr) (fun _=>true) ops.length S0.objs).length=S0.objs.length+A) :
  ∀ i,i≤ops.length→(oQ (aP tr) (fun _=>true) i S0.objs).length≤S0.objs.length+A∧
   z_ (aP tr) (fun _=>true) i (S0.objs++List.replicate A hole)=oQ (aP tr) (fun _=>true) i S0.objs++List.replicate (S0.objs.length+A-(oQ (aP tr) (fun _=>true) i S0.objs).length) hole:=by
 have one:=SV hst hf
 have mono:∀ d i,i+d=ops.length→(oQ (aP tr) (fun _=>true) i S0.objs).length≤S0.objs.length+A:=by
  intro d
  induction d with
  | zero=>intro i hi;rw [Nat.add_zero] at hi;rw [hi,hA];exact Nat.le_refl _
  | succ d ih=>intro i hi;exact Nat.le_trans (one i (by omega)).1 (ih (i+1) (by omega))
 intro i
 induction i with
 | zero=>intro _;exact ⟨by simp [oQ],by simp [z_,oQ]⟩
 | succ i ih=>
  intro hi
  obtain ⟨h1,h2⟩:=ih (by omega)
  have hle:=mono (ops.length-(i+1)) (i+1) (by omega)
  refine ⟨hle,?_⟩
  simp only [z_,if_true]
  rcases (one i (by omega)).2 with ⟨g1,g2⟩ | ⟨k,o1,g1,g0,⟨g2,g3⟩ | ⟨g2,g3⟩⟩
  · rw [g1,g2];exact h2
  · rw [g1]
    simp only []
    rw [g0,h2,g3,List.set_append_left _ _ g2,List.length_set]
  · rw [g1]
    simp only []
    rw [g3,List.length_append,List.length_singleton] at hle
    rw [g0,h2,g3,List.set_append_right _ _ (by omega),List.length_append,List.length_singleton]
    have:S0.objs.length+A-(oQ (aP tr) (fun _=>true) i S0.objs).length=(S0.objs.length+A-((oQ (aP tr) (fun _=>true) i S0.objs).length+1))+1:=by omega
    rw [this,List.replicate_succ,g2,Nat.sub_self,List.set_cons_zero,List.append_assoc]
    rfl
theorem Qo {own:Nat→Bool}{ops:List Oper}{ts:List Nat}{ms:List Nat}{tr:List Hg}{S0:St}{A:Nat}(hD:∀ t,iH P t (D t)) (hok:Kz ops ts ms)
  (hts:∀ i,i<ops.length→ts.getD i 0=(aP tr i).t)
  (hst:∀ i o,ops[i]?=some o→qI P D (own i) ops o (lq ops tr S0 (fun _=>true) i) (aP tr i))
  (hA:(oQ (aP tr) (fun _=>true) ops.length S0.objs).length=S0.objs.length+A)
  {X:Nat→Bool}{i:Nat}{o:Oper}(ho:ops[i]?=some o) (hX:X i=false) (hcl:∀ j,j<ops.length→X j=true→∀ x,(ms.getD j 0).testBit x=true→X x=true)
  (hrd:∀ x,(ms.getD i 0).testBit x=true→X x=true)
  {base ak:Nat→Prop}{w0:Wz}{blk:Nat→Option Nat}{a:Act}{w:World}(R:Rel base ak w0 (uO ops tr S0 A X ops.length) blk a w)
  {Q:Exit→Act→World→Prop}{K:Act→World→Prop}(hK:∀ av a' w',Rel base ak w0 (uO ops tr S0 A (upd X i) ops.length) av a' w'→K a' w') :
  wpOpIn (EB l) 0 P ops.toArray Q i K a w:=by
 have hi:i<ops.length:=(List.getElem?_eq_some_iff.1 ho).1
 have hdst:pF ops i=o.dst:=by simp [pF,ho]
 have Kw:∀ j,j<ops.length→∃ p,ops[j]?=some p∧pF ops j=p.dst:=fun j hj=>⟨ops[j],List.getElem?_eq_getElem hj,by simp [pF,List.getElem?_eq_getElem hj]⟩
 have hf:∀ j,j<ops.length→z8 (aP tr j).t=true:=fun j hj=>by rw [← hts j hj];exact hok.fine j hj
 have before:∀ j p,ops[j]?=some p→j<i→(clash p.dst o.dst (iX ops p) (iX ops o) 0 0 || yw (aP tr j).t (aP tr i).t)=true→X j=true:=
  fun j p hp hj hc=>hrd j (hok.ord i o j p ho hp hj (by rw [hts j (List.getElem?_eq_some_iff.1 hp).1,hts i hi];exact hc))
 have behind:∀ j p,ops[j]?=some p→i<j→(clash o.dst p.dst (iX ops o) (iX ops p) 0 0 || yw (aP tr i).t (aP tr j).t)=true→X j=false:=fun j p hp hj hc=>by
  cases hx:X j with
  | false=>rfl
  | true=>
   have hjl:=(List.getElem?_eq_some_iff.1 hp).1
   have:=hcl j hjl hx i (hok.ord j p i o hp ho hj (by rw [hts j hjl,hts i hi];exact hc))
   rw [hX] at this;cases this
 have SN:∀ x ∈ iX ops o,(lq ops tr S0 (fun _=>true) i).tmps.getD x .dead=(uO ops tr S0 A X ops.length).tmps.getD x .dead:=by
  intro x hx
  simp only [lq,uO]
  rw [← Cq (dst:=pF ops) ops.length S0.tmps (Nat.le_of_lt hi)]
  refine FC _ _ fun j hj hd=>?_
  obtain ⟨p,hp,Ws⟩:=Kw j hj
  rw [Ws] at hd
  rcases Nat.lt_trichotomy j i with hji | hji | hji
  · rw [before j p hp hji (by rw [FH hd hx];rfl)];simp [hji]
  · subst hji;rw [hX];simp
  · rw [behind j p hp hji (by rw [Dr hd hx];rfl)];simp;omega
 have hadd:oo o.dst (aP tr i).r (uO ops tr S0 A X ops.length).tmps=(uO ops tr S0 A (upd X i) ops.length).tmps:=by
  simp only [uO]
  rw [← hdst]
  refine Kr _ _ hi hX fun j hj hjn hxj x hx hd=>?_
  obtain ⟨p,hp,Ws⟩:=Kw j hjn
  rw [Ws] at hd
  rw [hdst] at hx
  have:=behind j p hp hj (by rw [JB hx hd];rfl)
  rw [this] at hxj;cases hxj
 obtain ⟨hle,abx⟩:=Ww hst hf hA i (Nat.le_of_lt hi)
 obtain ⟨T,hT⟩:∃ T,T=oQ (aP tr) (fun _=>true) i S0.objs:=⟨_,rfl⟩
 rw [← hT] at hle abx
 obtain ⟨B,hB⟩:∃ B,B=z_ (aP tr) X ops.length (S0.objs++List.replicate A hole):=⟨_,rfl⟩
 have slot:∀ k,((aP tr i).t=4+2*k∨(aP tr i).t=5+2*k)→B[k]?=(T++List.replicate (S0.objs.length+A-T.length) hole)[k]?:=by
  intro k hk
  rw [hB,← abx,← JC ops.length _ (Nat.le_of_lt hi)]
  refine SQ _ _ fun j hj hw=>?_
  obtain ⟨p,hp,Ws⟩:=Kw j hj
  rcases Nat.lt_trichotomy j i with hji | hji | hji
  · rw [before j p hp hji (by rw [Cr (.inl ⟨hw,hk⟩),Bool.or_true])];simp [hji]
  · subst hji;rw [hX];simp
  · rw [behind j p hp hji (by rw [Cr (.inr ⟨hw,hk⟩),Bool.or_true])];simp;omega
 have hwr:∀ k,Ky (aP tr i).t=some k→((aP tr i).t=4+2*k∨(aP tr i).t=5+2*k)→(uO ops tr S0 A (upd X i) ops.length).objs=B.set k ((aP tr i).objs.getD k hole):=by
  intro k hw hk
  simp only [uO]
  rw [hB]
  refine SS _ _ hi hX hw fun j hj hjn hxj hwj=>?_
  obtain ⟨p,hp,Ws⟩:=Kw j hjn
  have:=behind j p hp hj (by rw [Cr (.inr ⟨hwj,hk⟩),Bool.or_true])
  rw [this] at hxj;cases hxj
 have Wx:Ky (aP tr i).t=none→(uO ops tr S0 A (upd X i) ops.length).objs=B:=fun hw=>by
  simp only [uO];rw [hB];exact Nj _ _ hw
 have hput:∀ objs',(objs'=(uO ops tr S0 A (upd X i) ops.length).objs)→St.put ⟨(uO ops tr S0 A X ops.length).tmps,objs'⟩ o.dst (aP tr i).r=uO ops tr S0 A (upd X i) ops.length:=by
  rintro objs' rfl
  cases hd:o.dst with
  | none=>rw [hd] at hadd;simp only [oo] at hadd;simp only [St.put];rw [hadd]
  | some d=>rw [hd] at hadd;simp only [oo] at hadd;simp only [St.put];rw [hadd]
 have Nk:(uO ops tr S0 A X ops.length).objs=B:=hB.symm
 have hTo:(lq ops tr S0 (fun _=>true) i).objs=T:=hT.symm
 have hev:∀ x ∈ o.op.operands,(lq ops tr S0 (fun _=>true) i).ev x=(uO ops tr S0 A X ops.length).ev x:=by
  intro x hm
  cases x with
  | tmp t=>exact SN t (List.mem_append_left _ (List.mem_filterMap.2 ⟨.tmp t,by simpa using hm,rfl⟩))
  | _=>rfl
 have hg:iJ ops o.guard (lq ops tr S0 (fun _=>true) i).tmps=iJ ops o.guard (uO ops tr S0 A X ops.length).tmps:=by
  cases hgd:o.guard with
  | none=>rfl
  | some g=>
   obtain ⟨j,want⟩:=g
   simp only [iJ]
   cases hd:(ops[j]?).bind (·.dst) with
   | none=>rfl
   | some d=>
    simp only []
    rw [SN d (List.mem_append_right _ (by rw [hgd];simp [hd]))]
 unfold wpOpIn
 have h0:ops.toArray[i]?=some o:=by simpa using ho
 rw [h0]
 simp only []
 rcases hst i o ho with ⟨h1,_,_,h4,Du⟩ | ⟨h1,h2,_,h3⟩
 · rw [hg] at h1
   rw [if_pos (om R h1)]
   rw [hTo] at Du
   have run:∀ (O2:List Obj) (r2:PV),(∀ K:KT,(∀ t,K r2 O2 t)→Hf P D (own i) (lq ops tr S0 (fun _=>true) i).ev B o.op K)→r2=(aP tr i).r→O2=(uO ops tr S0 A (upd X i) ops.length).objs→
       o.wpIn (EB l) 0 P a w K Q:=by
    intro O2 r2 hop hr2 hO2
    have h5:=wE hev (hop (fun r objs' _=>r=r2∧objs'=O2) (fun _=>⟨rfl,rfl⟩))
    rw [← Nk] at h5
    refine zW l hD R h5 fun r objs' t v w' av hr R' hv=>?_
    obtain ⟨rfl,rfl⟩:=hr
    have:=R'.put hv o.dst
    rw [hr2,hput objs' hO2] at this
    exact hK _ _ _ this
   rcases Dt (hf i hi) with ht | ⟨k,hk⟩ | ⟨k,hk⟩
   · exact run B _ (fun K hk=>h4 ht B K (hk 0)) rfl (Wx (by rw [ht];rfl)).symm
   · obtain ⟨_,g1,g2⟩:=Du.rd k hk
     have hs:=slot k (.inl hk)
     rw [List.getElem?_append_left g1] at hs
     exact run B _ (fun K hk'=>g2 B K hs (hk' _)) rfl (Wx (by rw [hk];exact Wv k)).symm
   · have hs:=slot k (.inr hk)
     have hw:=hwr k (by rw [hk];exact Qn k) (.inr hk)
     rcases Du.wr k hk with ⟨o1,g1,g2,g3⟩ | ⟨g1,o1,mk,hm,gr,g2,hl1,hv1,g3⟩
     · rw [List.getElem?_append_left g1] at hs
       have hc:(aP tr i).objs.getD k hole=o1:=by
        rw [g2,List.getD_eq_getElem?_getD,List.getElem?_set];simp [g1]
       exact run (B.set k o1) _ (fun K hk'=>g3 B K hs (hk' _)) rfl (by rw [hw,hc])
     · have hc:(aP tr i).objs.getD k hole=o1:=by
        rw [g2,List.getD_eq_getElem?_getD,g1];simp
       have hlen:(oQ (aP tr) (fun _=>true) (i+1) S0.objs).length≤S0.objs.length+A:=(Ww hst hf hA (i+1) hi).1
       have hX1:oQ (aP tr) (fun _=>true) (i+1) S0.objs=T++[o1]:=by
        simp only [oQ,Bool.true_and,beq_iff_eq]
        rw [if_pos (by rw [hk];exact SH k),g2]
       rw [hX1,List.length_append,List.length_singleton] at hlen
       have aby:B[k]?=some hole:=by
        rw [hs,g1,List.getElem?_append_right (Nat.le_refl _),Nat.sub_self,List.getElem?_replicate,if_pos (by omega)]
       have h5:=wE hev (g3 B (fun r objs' _=>r=mk B.length∧objs'=B++[o1]) ⟨rfl,rfl⟩)
       rw [← Nk] at h5
       refine Jy l hD R h5 fun r objs' t v w' av hr R' hv hn=>?_
       obtain ⟨rfl,rfl⟩:=hr
       rw [Nk] at R' hv hn
       have R0:Rel base ak w0 ⟨(uO ops tr S0 A X ops.length).tmps,B⟩ blk a w:=by rw [← Nk];exact R
       obtain ⟨iB,R2,hv2⟩:=R0.fill aby hl1 hv1 R' hn hm hv
       have:=R2.put hv2 o.dst
       rw [← gr,hput _ (by rw [hw,hc])] at this
       exact hK _ _ _ this
 · rw [hg] at h1
   rw [if_neg (by rw [om R h1];simp)]
   refine ⟨fun _ _=>trivial,?_⟩
   have:=R.put (wF w _ _ blk) o.dst
   rw [← h2] at this
   have hs:=hput (uO ops tr S0 A X ops.length).objs (by rw [Nk,Wx (by rw [h3];rfl)])
   rw [show (uO ops tr S0 A X ops.length).put o.dst (aP tr i).r=St.put ⟨(uO ops tr S0 A X ops.length).tmps,(uO ops tr S0 A X ops.length).objs⟩ o.dst (aP tr i).r from rfl,hs] at this
   exact hK _ _ _ this
theorem Nl {own:Nat→Bool}{ops:List Oper}{ts:List Nat}{ms:List Nat}{tr:List Hg}{S0:St}{A:Nat}(hD:∀ t,iH P t (D t)) (hok:Kz ops ts ms)
  (hts:∀ i,i<ops.length→ts.getD i 0=(aP tr i).t)
  (hst:∀ i o,ops[i]?=some o→qI P D (own i) ops o (lq ops tr S0 (fun _=>true) i) (aP tr i))
  (hA:(oQ (aP tr) (fun _=>true) ops.length S0.objs).length=S0.objs.length+A)
  {base ak:Nat→Prop}{w0:Wz}{Q:Exit→Act→World→Prop}
  (hQ:∀ av a' w',Rel base ak w0 (uO ops tr S0 A (fun _=>true) ops.length) av a' w'→Q .normal a' w') :
  ∀ (fuel:Nat) (L:Array Bool) (blk:Nat→Option Nat) (a:Act) (w:World),L.size=ops.length→
   (∀ j,j<ops.length→L.getD j false=true→∀ x,(ms.getD j 0).testBit x=true→L.getD x false=true)→cnt (fun j=>L.getD j false) ops.length≤fuel→
   Rel base ak w0 (uO ops tr S0 A (fun j=>L.getD j false) ops.length) blk a w→wpAnyIn (EB l) 0 P .any ops.toArray Q fuel L a w:=by
 have full:∀ (L:Array Bool),L.size=ops.length→Region.ready .any ops.toArray L=[]→∀ i,i<ops.length→L.getD i false=true:=by
  intro L hsz hr i
  induction i using Nat.strongRecOn with
  | _ i ih=>
   intro hi
   cases hx:L.getD i false with
   | true=>rfl
   | false=>
    have hmem:i ∈ Region.ready .any ops.toArray L:=by
     simp only [Region.ready,List.mem_filter,List.mem_range,and_eq_true]
     refine ⟨by simpa using hi,?_,?_⟩
     · have hil:i<L.size:=by omega
       rw [Array.getD_eq_getD_getElem?,Array.getElem?_eq_getElem hil,getD_some] at hx ⊢
       rw [hx];rfl
     · have ho:ops.toArray[i]?=some ops[i]:=by simp [hi]
       rw [ho]
       simp only [map_some,getD_some]
       rw [Array.all_eq_true']
       intro e he
       cases hbd:Region.binds .any e with
       | false=>simp
       | true=>
        have hb:=hok.back i ops[i] (List.getElem?_eq_getElem hi) e (by simpa using he) hbd
        rw [ih e.on hb (by omega)];simp
    rw [hr] at hmem
    simp at hmem
 have step:∀ (L:Array Bool) (i:Nat),L.size=ops.length→i ∈ Region.ready .any ops.toArray L→∃ o,ops[i]?=some o∧L.getD i false=false∧∀ e ∈ o.after.toList,Region.binds .any e=true→L.getD e.on false=true:=by
  intro L i hsz hm
  simp only [Region.ready,List.mem_filter,List.mem_range,and_eq_true] at hm
  obtain ⟨hi,h1,h2⟩:=hm
  have hi:i<ops.length:=by simpa using hi
  have ho:ops.toArray[i]?=some ops[i]:=by simp [hi]
  rw [ho] at h2
  simp only [map_some,getD_some] at h2
  rw [Array.all_eq_true'] at h2
  refine ⟨ops[i],List.getElem?_eq_getElem hi,?_,fun e he hb=>?_⟩
  · have hil:i<L.size:=by omega
    rw [Array.getD_eq_getD_getElem?,Array.getElem?_eq_getElem hil,getD_some] at h1 ⊢
    simpa using h1
  · have:=h2 e (by simpa using he)
    rw [hb] at this
    simpa using this
 intro fuel
 induction fuel with
 | zero=>
  intro L blk a w hsz hcl hc R
  have hall:=FD (X:=fun j=>L.getD j false) ops.length (by omega)
  have hst':uO ops tr S0 A (fun j=>L.getD j false) ops.length=uO ops tr S0 A (fun _=>true) ops.length:=by
   simp only [uO];rw [mK ops.length _ hall,rq ops.length _ fun j hj=>hall j hj]
  refine ⟨?_,hQ blk a w (hst' ▸ R)⟩
  cases hr:Region.ready .any ops.toArray L with
  | nil=>rfl
  | cons i is=>
   obtain ⟨o,ho,hx,_⟩:=step L i hsz (by rw [hr];exact List.mem_cons_self)
   rw [hall i (List.getElem?_eq_some_iff.1 ho).1] at hx
   cases hx
 | succ fuel ih=>
  intro L blk a w hsz hcl hc R
  refine ⟨fun hr=>?_,fun i hm=>?_⟩
  · have hall:=full L hsz hr
    have hst':uO ops tr S0 A (fun j=>L.getD j false) ops.length=uO ops tr S0 A (fun _=>true) ops.length:=by
     simp only [uO];rw [mK ops.length _ hall,rq ops.length _ fun j hj=>hall j hj]
    exact hQ blk a w (hst' ▸ R)
  · obtain ⟨o,ho,hx,hrd⟩:=step L i hsz hm
    have hi:i<ops.length:=(List.getElem?_eq_some_iff.1 ho).1
    have Wt:∀ x,(ms.getD i 0).testBit x=true→L.getD x false=true:=by
     intro x hb
     obtain ⟨e,h1,h2,h3⟩:=hok.mask i o ho x hb
     have he:=hrd e h1 h2
     rcases h3 with rfl | h3
     · exact he
     · exact hcl e.on (by have:=hok.back i o ho e h1 h2;omega) he x h3
    have Wu:∀ j,(L.setIfInBounds i true).getD j false=upd (fun j=>L.getD j false) i j:=by
     intro j
     rw [Array.getD_eq_getD_getElem?,Array.getElem?_setIfInBounds]
     simp only [upd]
     by_cases hij:i=j
     · subst hij
       rw [if_pos rfl,if_pos (by omega)];simp
     · rw [if_neg hij,Array.getD_eq_getD_getElem?]
       have:(j==i)=false:=by simp;omega
       rw [this,Bool.or_false]
    have hfun:(fun j=>(L.setIfInBounds i true).getD j false)=upd (fun j=>L.getD j false) i:=funext Wu
    refine Qo (X:=fun j=>L.getD j false) hD hok hts hst hA ho hx hcl Wt R fun av a' w' R'=>?_
    refine ih _ av a' w' (by simpa using hsz) ?_ ?_ (by rw [hfun];exact R')
    · intro j hj hb x hbx
      rw [Wu] at hb ⊢
      simp only [upd,or_eq_true,beq_iff_eq] at hb ⊢
      rcases hb with hb | rfl
      · exact .inl (hcl j hj hb x hbx)
      · exact .inl (Wt x hbx)
    · rw [hfun]
      have:=Ku (X:=fun j=>L.getD j false) ops.length hi hx
      omega
def wG (ops:List Oper) (ts:List Nat):Bool:=
 let ms:=masks ops []
 let ls:=ops.map (iX ops)
 ((List.range ops.length).all fun i=>z8 (ts.getD i 0)) &&
 (List.range ops.length).all fun i=>
  match ops[i]? with
  | none=>true
  | some o=>
   (o.after.toList.all fun e=>!Region.binds .any e || decide (e.on<i)) &&
   (ms.getD i 0 &&& Co ms o==ms.getD i 0) &&
   (List.range i).all fun j=>
    !(clash ((ops[j]?).bind (·.dst)) o.dst (ls.getD j []) (ls.getD i []) 0 0 || yw (ts.getD j 0) (ts.getD i 0)) || (ms.getD i 0).testBit j
theorem KA {ops:List Oper}{ts:List Nat}(h:wG ops ts=true):Kz ops ts (masks ops []):=by
 unfold wG at h
 simp only [and_eq_true,List.all_eq_true,List.mem_range] at h
 obtain ⟨Du,h⟩:=h
 have hh:∀ i o,ops[i]?=some o→_:=fun i o ho=>by
  have:=h i (List.getElem?_eq_some_iff.1 ho).1
  rw [ho] at this
  simp only [and_eq_true,List.all_eq_true,List.mem_range,beq_iff_eq] at this
  exact this
 refine ⟨Du,fun i o ho e he hb=>by simpa [hb] using (hh i o ho).1.1 e he,fun i o ho j hj=>?_,fun i o j p ho hp hji hc=>?_⟩
 · refine FE ?_
   have h2:=(hh i o ho).1.2
   rw [← h2,Nat.testBit_and] at hj
   simp only [and_eq_true] at hj
   exact hj.2
 · have h3:=(hh i o ho).2 j hji
   have hlt:=(List.getElem?_eq_some_iff.1 hp).1
   have e1:(ops.map (iX ops)).getD j []=iX ops p:=by rw [List.getD_eq_getElem?_getD,List.getElem?_map,hp];rfl
   have e2:(ops.map (iX ops)).getD i []=iX ops o:=by rw [List.getD_eq_getElem?_getD,List.getElem?_map,ho];rfl
   rw [e1,e2,hp] at h3
   simp only [Option.bind_some,hc,Bool.not_true,Bool.false_or] at h3
   exact h3
theorem PW.abz {E:Env}{id:Nat}{ops:List Oper}{Q:Exit→St→Prop}{S:St}(own:Nat→Bool) (hD:∀ t,iH P t (D t)) (hm:P.follows .mixedOrders=true)
  (h:pE P D own ops ops 0 S [] fun S' ts=>(sP ops ts || wG ops ts)=true∧Q .normal S'):PW P l E (.region id ops.toArray true) Q S:=by
 intro base ak V hE blk a w ⟨w0,hV,R⟩
 obtain ⟨tr,S',h1,h2,h3⟩:=lN _ _ _ _ _ h
 obtain ⟨h4,h5⟩:=ve (S0:=S) (tr0:=tr) ops 0 S tr S' h1 (fun j=>by simp) (fun j=>by simp) rfl
 refine wpIn_region_any hm ?_
 have R':Rel base ak w0 S blk a { w with drawn:=w.drawn+1 }:=R.grew (.same rfl)
 have hcn:∀ (X:Nat→Bool) n,cnt X n≤n:=by
  intro X n
  induction n with
  | zero=>exact Nat.le_refl _
  | succ n ih=>simp only [cnt];split <;> omega
 have hrep:∀ j,(Array.replicate ops.toArray.size false).getD j false=false:=by
  intro j
  rw [Array.getD_eq_getD_getElem?,Array.getElem?_replicate]
  split <;> rfl
 have htr:tr.length=ops.length:=by
  clear h2 h3 h4 h5 h
  have:∀ (p_:List Oper) (k:Nat) (S:St) (tr:List Hg) (S':St),Trace P D own ops p_ k S tr S'→tr.length=p_.length:=by
   intro p_
   induction p_ with
   | nil=>rintro k S tr S' ⟨rfl,_⟩;rfl
   | cons o p_ ih=>
    rintro k S tr S' ⟨e,tr',rfl,_,h⟩
    simp [ih _ _ _ _ h]
  exact this _ _ _ _ _ h1
 have hts:∀ i,i<ops.length→(tr.map (·.t)).getD i 0=(aP tr i).t:=by
  intro i hi
  have hil:i<tr.length:=by omega
  simp [aP,List.getD_eq_getElem?_getD,List.getElem?_map,List.getElem?_eq_getElem hil]
 rw [Nat.zero_add] at h5
 subst h5
 have hst:∀ i o,ops[i]?=some o→qI P D (own i) ops o (lq ops tr S (fun _=>true) i) (aP tr i):=fun i o ho=>h4 i o (Nat.zero_le _) ho
 have hc:=hcn (fun j=>(Array.replicate ops.toArray.size false).getD j false) ops.length
 have hsz:ops.toArray.size=ops.length:=by simp
 have hrs:(Array.replicate ops.toArray.size false).size=ops.length:=by simp
 have hQ:∀ av a' w',Rel base ak w0 (lq ops tr S (fun _=>true) ops.length) av a' w'→∃ S' pG,Q .normal S'∧qd base ak V S' pG a' w':=
  fun av a' w' R''=>⟨_,av,h3,w0,hV,R''⟩
 have hcl:∀ j,j<ops.length→(Array.replicate ops.toArray.size false).getD j false=true→∀ x,((masks ops []).getD j 0).testBit x=true→(Array.replicate ops.toArray.size false).getD x false=true:=by
  intro j _ hb
  rw [hrep] at hb;cases hb
 have e1:∀ (L:Array Bool),(∀ j,L.getD j false=false)→∀ n tm,FB (pF ops) (aP tr) (fun j=>L.getD j false) n tm=tm:=by
  intro L hL n tm
  induction n with
  | zero=>rfl
  | succ n ih=>simp only [FB];rw [if_neg (by rw [hL n];simp)];exact ih
 rcases or_eq_true _ _ ▸ h2 with h2 | h2
 · have hR:∀ (L:Array Bool),(∀ j,L.getD j false=false)→lq ops tr S (fun j=>L.getD j false) ops.length=S:=by
    intro L hL
    have e2:∀ n ob,oQ (aP tr) (fun j=>L.getD j false) n ob=ob:=by
     intro n ob
     induction n with
     | zero=>rfl
     | succ n ih=>simp only [oQ];rw [if_neg (by rw [hL n];simp)];exact ih
    simp only [lq,e1 L hL,e2]
   have R1:Rel base ak w0 (lq ops tr S (fun j=>(Array.replicate ops.toArray.size false).getD j false) ops.length) blk a { w with drawn:=w.drawn+1 }:=by rw [hR _ hrep];exact R'
   have h2':sP ops (tr.map (·.t))=true:=h2
   generalize Array.replicate ops.toArray.size false=L at *
   exact FI (Q:=fun e a' w'=>∃ S' av,Q e S'∧qd base ak V S' av a' w') hD (Dq h2') hts hst hQ ops.toArray.size L blk a _ hrs hcl (by rw [hsz];exact hc) R1
 · have h2':=KA h2
   have hf:∀ i,i<ops.length→z8 (aP tr i).t=true:=fun i hi=>by rw [← hts i hi];exact h2'.fine i hi
   have mono:∀ i,i≤ops.length→S.objs.length≤(oQ (aP tr) (fun _=>true) i S.objs).length:=by
    intro i
    induction i with
    | zero=>intro _;exact Nat.le_refl _
    | succ i ih=>intro hi;exact Nat.le_trans (ih (by omega)) (SV hst hf i (by omega)).1
   obtain ⟨A,hA⟩:∃ A,(oQ (aP tr) (fun _=>true) ops.length S.objs).length=S.objs.length+A:=⟨(oQ (aP tr) (fun _=>true) ops.length S.objs).length-S.objs.length,by have:=mono ops.length (Nat.le_refl _);omega⟩
   obtain ⟨YE,R0⟩:=R'.holes A
   have hR:∀ (L:Array Bool),(∀ j,L.getD j false=false)→uO ops tr S A (fun j=>L.getD j false) ops.length=⟨S.tmps,S.objs++List.replicate A hole⟩:=by
    intro L hL
    have e2:∀ n ob,z_ (aP tr) (fun j=>L.getD j false) n ob=ob:=by
     intro n ob
     induction n with
     | zero=>rfl
     | succ n ih=>simp only [z_];rw [if_neg (by rw [hL n];simp)];exact ih
    simp only [uO,e1 L hL,e2]
   have R1:Rel base ak w0 (uO ops tr S A (fun j=>(Array.replicate ops.toArray.size false).getD j false) ops.length) YE a { w with drawn:=w.drawn+1 }:=by rw [hR _ hrep];exact R0
   have hend:uO ops tr S A (fun _=>true) ops.length=lq ops tr S (fun _=>true) ops.length:=by
    have:=(Ww hst hf hA ops.length (Nat.le_refl _)).2
    simp only [uO,lq]
    rw [this,hA,Nat.sub_self,List.replicate_zero,List.append_nil]
   have hQ2:∀ av a' w',Rel base ak w0 (uO ops tr S A (fun _=>true) ops.length) av a' w'→∃ S' pG,Q .normal S'∧qd base ak V S' pG a' w':=
    fun av a' w' R''=>hQ av a' w' (hend ▸ R'')
   generalize Array.replicate ops.toArray.size false=L at *
   exact Nl (Q:=fun e a' w'=>∃ S' av,Q e S'∧qd base ak V S' av a' w') hD h2' hts hst hA hQ2 ops.toArray.size L YE a _ hrs hcl (by rw [hsz];exact hc) R1
end Lp
namespace Lp
open Go
open List (map_congr_left map_id)
open Option (map_some)
def PV.bF (f:PV→PV):PV→PV
 | .agg cs=>.agg (cs.map f)
 | p=>f p
theorem Aa {p:PV}(h:p.isAgg=false):p.cells=[p]:=by cases p <;> first | rfl | (simp [PV.isAgg] at h)
theorem lQ {f:PV→PV}(hf:∀ p,p.isAgg=false→(f p).isAgg=false) (x:PV):(x.bF f).cells=x.cells.map f:=by
 cases hx:x.isAgg with
 | true=>
  cases x <;> simp [PV.isAgg] at hx
  rfl
 | false=>
  have:x.bF f=f x:=by cases x <;> first | rfl | (simp [PV.isAgg] at hx)
  rw [this,Aa hx,Aa (hf x hx)]
  rfl
def fM:Nat→Nat→List Obj→PV→PV
 | 0,_,_,.aX ..=>.dead
 | 0,_,_,.bL ..=>.dead
 | _,_,_,.su ..=>.dead
 | d+1,n,objs,.aX k ver=>
  match objs[k]? with
  | some o=>if decide (n≤k) && o.live && o.ver==ver then .sl o.sz (o.xs.map (PV.bF (fM d n objs))) none else .dead
  | none=>.dead
 | d+1,n,objs,.bL k ver i f=>
  match objs[k]? with
  | some o=>if decide (n≤k) && o.live && o.ver==ver && f==0 then (match o.xs[i]? with | some x=>.addr (x.bF (fM d n objs)) | none=>.dead) else .dead
  | none=>.dead
 | _,_,_,p=>p
def eY (d n:Nat) (objs:List Obj):PV→PV
 | .aX k ver=>if k<n then .aX k ver else fM d n objs (.aX k ver)
 | .bL k ver i f=>if k<n then .bL k ver i f else fM d n objs (.bL k ver i f)
 | .su k ver=>if k<n then .su k ver else .dead
 | p=>p
def gH (d n:Nat) (objs:List Obj):PV→PV
 | .fn f a c=>.fn f (a.map (eY d n objs)) (c.map (eY d n objs))
 | .bV cs=>.bV (cs.map (eY d n objs))
 | .agg cs=>.agg (cs.map (eY d n objs))
 | p=>eY d n objs p
def fO (d n:Nat) (objs:List Obj) (o:Obj):Obj:={ o with xs:=o.xs.map (PV.bF (eY d n objs)) }
def St.freeze (d n:Nat) (S:St):St:=⟨S.tmps.map (gH d n S.objs),(S.objs.take n).map (fO d n S.objs)⟩
theorem FJ (d n:Nat) (objs:List Obj) (p:PV) (h:p.isAgg=false):(fM d n objs p).isAgg=false:=by
 cases d <;> cases p <;> simp only [fM] <;> first | rfl | exact h | (split <;> first | rfl | (split <;> first | rfl | (split <;> rfl)))
theorem SX (d n:Nat) (objs:List Obj) (p:PV) (h:p.isAgg=false):(eY d n objs p).isAgg=false:=by
 cases p <;> simp only [eY] <;> first | rfl | exact h | (split <;> first | rfl | (exact FJ _ _ _ _ rfl))
section
variable {base ak:Nat→Prop}{w0:Wz}{S:St}{blk:Nat→Option Nat}{a:Act}{w:World}
theorem mM {d n k:Nat}{o':Obj}(h:(S.freeze d n).objs[k]?=some o'):k<n∧∃ o,S.objs[k]?=some o∧o'=fO d n S.objs o:=by
 simp only [St.freeze,List.getElem?_map,List.getElem?_take] at h
 split at h
 · rename_i hk
   cases ho:S.objs[k]? with
   | none=>rw [ho] at h;simp at h
   | some o=>rw [ho] at h;exact ⟨hk,o,rfl,by simpa using h.symm⟩
 · simp at h
theorem FK {d n b:Nat}(h:aV S.objs blk b):aV (S.freeze d n).objs blk b:=by
 intro k o' ho' hl
 obtain ⟨_,o,ho,rfl⟩:=mM ho'
 exact h k o ho hl
theorem wH {d n b:Nat}(h:bZ base S.objs blk b):bZ base (S.freeze d n).objs blk b:=⟨h.1,FK h.2⟩
theorem Ab (R:Rel base ak w0 S blk a w){d n k g:Nat}{o:Obj}(hk:n≤k) (ho:S.objs[k]?=some o) (hl:o.live=true) (hg:blk k=some g):bZ base (S.freeze d n).objs blk g:=by
 refine ⟨R.pb g (R.objs.np k o g ho hl hg),fun k' o' ho' hl'=>?_⟩
 obtain ⟨hk',o1,ho1,rfl⟩:=mM ho'
 exact R.objs.Jp k k' o o1 g (by omega) ho hl ho1 hl' hg
theorem Nn (R:Rel base ak w0 S blk a w) (d' n:Nat):∀ (d:Nat) (p:PV) (v:Value),bK w (bZ base S.objs blk) S.objs blk p v→dA w (bZ base (S.freeze d' n).objs blk) (fM d n S.objs p) v:=by
 intro d
 induction d with
 | zero=>
  intro p v h
  have hm:∀ q:PV,dA w (bZ base S.objs blk) q v→dA w (bZ base (S.freeze d' n).objs blk) q v:=fun q hq=>hq.mono (Nat.le_refl _) (fun b _ h=>wH h) (fun _ _ _ h=>h)
  cases p <;> simp only [fM] <;> first | exact .dead v | exact hm _ h
 | succ d ih=>
  intro p v h
  have hm:∀ q:PV,dA w (bZ base S.objs blk) q v→dA w (bZ base (S.freeze d' n).objs blk) q v:=fun q hq=>hq.mono (Nat.le_refl _) (fun b _ h=>wH h) (fun _ _ _ h=>h)
  cases p
  case aX k ver=>
   obtain ⟨_,o,ho,_,h3⟩:=h
   simp only [fM,ho]
   split
   · rename_i hc
     simp only [Bool.and_eq_true,decide_eq_true_eq,beq_iff_eq] at hc
     obtain ⟨⟨hn,hl⟩,hv⟩:=hc
     obtain ⟨hM,hh⟩:=h3 hl hv
     have hb:=R.objs.ob k o ho hl
     unfold zQ at hh
     unfold bY at hb
     cases hg:blk k with
     | none=>
      rw [hg] at hh
      obtain ⟨rfl,hx⟩:=hh
      rw [hx]
      exact .slnil _ _ (by simp)
     | some g=>
      rw [hg] at hh hb
      obtain ⟨cap,c,rfl,hc,h4,h5,h6⟩:=hh
      obtain ⟨c',hc',h7,h8⟩:=hb
      rw [jS hM,hc] at hc'
      cases hc'
      have hlen:(o.xs.map (PV.bF (fM d n S.objs))).length=o.xs.length:=by simp
      rw [← hlen]
      have hel:∀ (i:Nat) (x:PV),(o.xs.map (PV.bF (fM d n S.objs)))[i]?=some x→∃ x0,o.xs[i]?=some x0∧x.cells=x0.cells.map (fM d n S.objs):=by
       intro i x hx
       rw [List.getElem?_map] at hx
       cases h0:o.xs[i]? with
       | none=>rw [h0] at hx;simp at hx
       | some x0=>
        rw [h0] at hx
        simp only [map_some,Option.some.injEq] at hx
        subst hx
        exact ⟨x0,rfl,lQ (FJ _ _ _) x0⟩
      have hgl:g<w.heap.size:=(Array.getElem?_eq_some_iff.1 hc).1
      refine .sl _ _ _ (by simp) g 0 cap (fun i j=>c.getD (i*o.sz+j) undef) (fun _=>⟨Ab R hn ho hl hg,hgl⟩) (by rw [hlen];exact h4) h5 ?_ ?_ ?_
      · intro i x hx
        obtain ⟨x0,hx0,e⟩:=hel i x hx
        rw [e,List.length_map];exact (h8 i x0 hx0).1
      · intro i x j p hx hp
        obtain ⟨x0,hx0,e⟩:=hel i x hx
        rw [e,List.getElem?_map] at hp
        cases hp0:x0.cells[j]? with
        | none=>rw [hp0] at hp;simp at hp
        | some p0=>
         obtain ⟨u,hu,_⟩:=(h8 i x0 hx0).2 j p0 hp0
         have:0+i*o.sz+j=i*o.sz+j:=by omega
         unfold World.cell?
         simp only [hc,this]
         rw [Array.getD_eq_getD_getElem?,hu]
         rfl
      · intro i x j p hx hp
        obtain ⟨x0,hx0,e⟩:=hel i x hx
        rw [e,List.getElem?_map] at hp
        cases hp0:x0.cells[j]? with
        | none=>rw [hp0] at hp;simp at hp
        | some p0=>
         rw [hp0] at hp
         simp only [map_some,Option.some.injEq] at hp
         subst hp
         obtain ⟨u,hu,hr⟩:=(h8 i x0 hx0).2 j p0 hp0
         rw [Array.getD_eq_getD_getElem?,hu]
         exact ih p0 u hr
   · exact .dead v
  case bL k ver i f=>
   obtain ⟨_,o,ho,_,h3⟩:=h
   simp only [fM,ho]
   split
   · rename_i hc
     simp only [Bool.and_eq_true,decide_eq_true_eq,beq_iff_eq] at hc
     obtain ⟨⟨⟨hn,hl⟩,hv⟩,rfl⟩:=hc
     obtain ⟨hM,g,hg,rfl⟩:=h3 hl hv
     have hb:=R.objs.ob k o ho hl
     unfold bY at hb
     rw [hg] at hb
     obtain ⟨c,hc,h7,h8⟩:=hb
     rw [jS hM] at hc
     have hgl:g<w.heap.size:=(Array.getElem?_eq_some_iff.1 hc).1
     cases hx:o.xs[i]? with
     | none=>exact .dead _
     | some x0=>
      have e:=lQ (FJ d n S.objs) x0
      refine .addr _ g (i*o.sz+0) (fun j=>c.getD (i*o.sz+j) undef) ⟨Ab R hn ho hl hg,hgl⟩ ?_ ?_
      · intro j p hp
        rw [e,List.getElem?_map] at hp
        cases hp0:x0.cells[j]? with
        | none=>rw [hp0] at hp;simp at hp
        | some p0=>
         obtain ⟨u,hu,_⟩:=(h8 i x0 hx).2 j p0 hp0
         unfold World.cell?
         simp only [hc,Nat.add_zero]
         rw [Array.getD_eq_getD_getElem?,hu]
         rfl
      · intro j p hp
        rw [e,List.getElem?_map] at hp
        cases hp0:x0.cells[j]? with
        | none=>rw [hp0] at hp;simp at hp
        | some p0=>
         rw [hp0] at hp
         simp only [map_some,Option.some.injEq] at hp
         subst hp
         obtain ⟨u,hu,hr⟩:=(h8 i x0 hx).2 j p0 hp0
         rw [Array.getD_eq_getD_getElem?,hu]
         exact ih p0 u hr
   · exact .dead _
  case su k ver=>simp only [fM];exact .dead v
  all_goals (simp only [fM];exact hm _ h)
theorem pJ (R:Rel base ak w0 S blk a w) (d n:Nat) (p:PV) (v:Value) (h:bK w (bZ base S.objs blk) S.objs blk p v) :
  bK w (bZ base (S.freeze d n).objs blk) (S.freeze d n).objs blk (eY d n S.objs p) v:=by
 have hm:∀ q:PV,dA w (bZ base S.objs blk) q v→dA w (bZ base (S.freeze d n).objs blk) q v:=fun q hq=>hq.mono (Nat.le_refl _) (fun b _ h=>wH h) (fun _ _ _ h=>h)
 have hget:∀ k o,k<n→S.objs[k]?=some o→(S.freeze d n).objs[k]?=some (fO d n S.objs o):=by
  intro k o hk ho
  simp only [St.freeze,List.getElem?_map,List.getElem?_take,if_pos hk,ho,map_some]
 cases p
 case aX k ver=>
  simp only [eY]
  split
  · rename_i hk
    obtain ⟨h0,o,ho,h2,h3⟩:=h
    refine ⟨h0,_,hget k o hk ho,h2,fun hl hv=>?_⟩
    obtain ⟨hM,hh⟩:=h3 hl hv
    refine ⟨hM,?_⟩
    unfold zQ at hh ⊢
    cases hg:blk k with
    | none=>rw [hg] at hh;exact ⟨hh.1,by simp [fO,hh.2]⟩
    | some g=>rw [hg] at hh;simpa [fO] using hh
  · exact .aJ (Nn R d n d _ v h)
 case bL k ver i f=>
  simp only [eY]
  split
  · rename_i hk
    obtain ⟨h0,o,ho,h2,h3⟩:=h
    exact ⟨h0,_,hget k o hk ho,h2,h3⟩
  · exact .aJ (Nn R d n d _ v h)
 case su k ver=>
  simp only [eY]
  split
  · rename_i hk
    obtain ⟨h0,o,ho,h2,h3⟩:=h
    exact ⟨h0,_,hget k o hk ho,h2,h3⟩
  · exact .aJ (.dead v)
 all_goals (simp only [eY];exact .aJ (hm _ h))
theorem wI {R R':PV→Value→Prop}{f:PV→PV}{cs:List PV}{vs:List Value}(h:b_ R cs vs) (hf:∀ p v,R p v→R' (f p) v):b_ R' (cs.map f) vs:=by
 refine ⟨by simpa using h.1,fun i p v hp hv=>?_⟩
 rw [List.getElem?_map] at hp
 cases hc:cs[i]? with
 | none=>rw [hc] at hp;simp at hp
 | some p0=>
  rw [hc] at hp
  simp only [map_some,Option.some.injEq] at hp
  subst hp
  exact hf p0 v (h.2 i p0 v hc hv)
theorem FL (R:Rel base ak w0 S blk a w) (d n:Nat) (p:PV) (v:Value) (h:aU w (bZ base S.objs blk) S.objs blk p v) :
  aU w (bZ base (S.freeze d n).objs blk) (S.freeze d n).objs blk (gH d n S.objs p) v:=by
 have hS:bK w (bZ base S.objs blk) S.objs blk p v→aU w (bZ base (S.freeze d n).objs blk) (S.freeze d n).objs blk (eY d n S.objs p) v:=fun h=>.jT (pJ R d n p v h)
 cases p
 case fn f a c=>
  obtain ⟨va,vc,rfl,h1,h2⟩:=h
  exact ⟨va,vc,rfl,wI h1 (pJ R d n),wI h2 (pJ R d n)⟩
 case bV cs=>obtain ⟨vs,rfl,h1⟩:=h;exact ⟨vs,rfl,wI h1 (pJ R d n)⟩
 case agg cs=>obtain ⟨vs,rfl,h1⟩:=h;exact ⟨vs,rfl,wI h1 (pJ R d n)⟩
 all_goals exact hS h
theorem KC {d n:Nat}{objs:List Obj}{p:PV}(h:p.uS n=true):eY d n objs p=p:=by
 cases p <;> simp only [eY] <;> (try rfl) <;> (simp only [PV.uS,decide_eq_true_eq] at h;rw [if_pos h])
theorem ED {d n:Nat}{objs:List Obj}{cs:List PV}(h:cs.all (PV.uS n)=true):cs.map (eY d n objs)=cs:=by
 conv=>rhs;rw [← map_id cs]
 exact map_congr_left fun p hp=>KC (List.all_eq_true.1 h p hp)
theorem YF {d n:Nat}{objs:List Obj}{p:PV}(h:p.lt n=true):gH d n objs p=p:=by
 cases p <;> simp only [gH] <;> simp only [PV.lt,Bool.and_eq_true] at h
 case fn f a c=>rw [ED h.1,ED h.2]
 case bV cs=>rw [ED h]
 case agg cs=>rw [ED h]
 all_goals exact KC h
theorem FM {n m:Nat}(h:n≤m){p:PV}(hp:p.uS n=true):p.uS m=true:=by
 cases p <;> simp only [PV.uS,decide_eq_true_eq] at hp ⊢ <;> omega
theorem ou {n m:Nat}(h:n≤m){cs:List PV}(hp:cs.all (PV.uS n)=true):cs.all (PV.uS m)=true:=by
 rw [List.all_eq_true] at hp ⊢
 exact fun p hm=>FM h (hp p hm)
theorem SY {n m:Nat}(h:n≤m){p:PV}(hp:p.lt n=true):p.lt m=true:=by
 cases p <;> simp only [PV.lt,Bool.and_eq_true] at hp ⊢
 case fn f a c=>exact ⟨ou h hp.1,ou h hp.2⟩
 case bV cs=>exact ou h hp
 case agg cs=>exact ou h hp
 all_goals exact FM h hp
theorem Rel.freeze (R:Rel base ak w0 S blk a w) (d n:Nat) (hn:w0.nx≤n):Rel base ak w0 (S.freeze d n) blk a w:=by
 refine ⟨R.nJ.mono (fun b _ h=>⟨wH h.1,h.2⟩) (fun _ _ _ h=>h),by simpa [St.freeze] using R.Ce,fun t p hp=>?_,⟨fun k o' ho' hl=>?_,?_,?_⟩,R.pr,R.fr,R.gr,R.pb,fun x hx=>(YF (d:=d) (objs:=S.objs) (SY hn (R.Jr x hx))) ▸ FL R d n x.1 x.2 (R.ext x hx),R.Jr,R.sm,R.gl⟩
 · simp only [St.freeze,List.getElem?_map] at hp
   cases ht:S.tmps[t]? with
   | none=>rw [ht] at hp;simp at hp
   | some p0=>
    rw [ht] at hp
    simp only [map_some,Option.some.injEq] at hp
    subst hp
    exact FL R d n p0 _ (R.tm t p0 ht)
 · obtain ⟨hk,o,ho,rfl⟩:=mM ho'
   have hb:=R.objs.ob k o ho hl
   unfold bY at hb ⊢
   cases hg:blk k with
   | none=>rw [hg] at hb;simp [fO,hb]
   | some g=>
    rw [hg] at hb
    obtain ⟨c,hc,h7,h8⟩:=hb
    refine ⟨c,hc,by simpa [fO,fits] using h7,fun i x hx=>?_⟩
    simp only [fO,List.getElem?_map] at hx
    cases hx0:o.xs[i]? with
    | none=>rw [hx0] at hx;simp at hx
    | some x0=>
     rw [hx0] at hx
     simp only [map_some,Option.some.injEq] at hx
     subst hx
     have e:=lQ (SX d n S.objs) x0
     refine ⟨by rw [e,List.length_map];exact (h8 i x0 hx0).1,fun j p hp=>?_⟩
     rw [e,List.getElem?_map] at hp
     cases hp0:x0.cells[j]? with
     | none=>rw [hp0] at hp;simp at hp
     | some p0=>
      rw [hp0] at hp
      simp only [map_some,Option.some.injEq] at hp
      subst hp
      obtain ⟨u,hu,hr⟩:=(h8 i x0 hx0).2 j p0 hp0
      exact ⟨u,hu,pJ R d n p0 u hr⟩
 · intro k k' o o' g hne h1 h2 h3 h4 h5
   obtain ⟨_,o1,ho1,rfl⟩:=mM h1
   obtain ⟨_,o2,ho2,rfl⟩:=mM h3
   exact R.objs.Jp k k' o1 o2 g hne ho1 h2 ho2 h4 h5
 · intro k o g h1 h2 h3
   obtain ⟨_,o1,ho1,rfl⟩:=mM h1
   exact R.objs.np k o1 g ho1 h2 h3
def xE:List Bool→List PV→List PV
 | _,[]=>[]
 | [],p::ps=>.dead::xE [] ps
 | true::ks,p::ps=>p::xE ks ps
 | false::ks,_::ps=>.dead::xE ks ps
theorem mO:∀ (ks:List Bool) (ps:List PV),(xE ks ps).length=ps.length
 | ks,[]=>by cases ks <;> simp [xE]
 | [],_::ps=>by simp [xE,mO [] ps]
 | true::ks,p::ps=>by simp [xE,mO ks ps]
 | false::ks,p::ps=>by simp [xE,mO ks ps]
theorem EF:∀ (ks:List Bool) (ps:List PV) (t:Nat) (p:PV),(xE ks ps)[t]?=some p→p=.dead∨ps[t]?=some p
 | ks,[],_,_,h=>by cases ks <;> simp [xE] at h
 | [],q::ps,0,p,h=>by simp only [xE,List.getElem?_cons_zero,Option.some.injEq] at h;exact .inl h.symm
 | [],q::ps,t+1,p,h=>by simp only [xE,List.getElem?_cons_succ] at h ⊢;exact EF [] ps t p h
 | true::ks,q::ps,0,p,h=>by simp only [xE,List.getElem?_cons_zero,Option.some.injEq] at h;exact .inr (by simpa using h)
 | true::ks,q::ps,t+1,p,h=>by simp only [xE,List.getElem?_cons_succ] at h ⊢;exact EF ks ps t p h
 | false::ks,q::ps,0,p,h=>by simp only [xE,List.getElem?_cons_zero,Option.some.injEq] at h;exact .inl h.symm
 | false::ks,q::ps,t+1,p,h=>by simp only [xE,List.getElem?_cons_succ] at h ⊢;exact EF ks ps t p h
def St.forget (ks:List Bool) (S:St):St:=⟨xE ks S.tmps,S.objs⟩
theorem aU.dead {ok:Nat→Prop}{objs:List Obj}(v:Value):aU w ok objs blk .dead v:=.aJ (.dead v)
theorem Rel.forget (R:Rel base ak w0 S blk a w) (ks:List Bool):Rel base ak w0 (S.forget ks) blk a w:=by
 refine ⟨R.nJ,by simpa [St.forget,mO] using R.Ce,fun t p hp=>?_,R.objs,R.pr,R.fr,R.gr,R.pb,R.ext,R.Jr,R.sm,R.gl⟩
 rcases EF ks S.tmps t p hp with rfl | h
 · exact .dead _
 · exact R.tm t p h
def St.vg (t ty sz:Nat) (S:St):St:=
 match S.tmps[t]? with
 | some (.sl _ [] _)=>⟨S.tmps.set t (.aX S.objs.length 0),S.objs++[⟨ty,sz,[],true,0⟩]⟩
 | _=>S
end
theorem Weak.refl (m:Nat) (S:St):Weak m S S:=fun _ _ _ blk _ _ _ R=>⟨blk,R⟩
theorem Weak.trans {m:Nat}{S S' S'':St}(h:Weak m S S') (h':Weak m S' S''):Weak m S S'':=fun base ak w0 blk a w hm R=>let ⟨av,R'⟩:=h base ak w0 blk a w hm R;h' base ak w0 av a w hm R'
theorem Weak.freeze {m:Nat}(d n:Nat) (hn:m≤n) (S:St):Weak m S (S.freeze d n):=fun _ _ _ blk _ _ hm R=>⟨blk,R.freeze d n (Nat.le_trans hm hn)⟩
theorem Weak.forget (m:Nat) (ks:List Bool) (S:St):Weak m S (S.forget ks):=fun _ _ _ blk _ _ _ R=>⟨blk,R.forget ks⟩
def St.norm (ks:List Bool) (fz:Option (Nat×Nat)) (S:St):St:=
 match fz with
 | none=>S.forget ks
 | some (d,n)=>(S.forget ks).freeze d n
def H_ (m:Nat):Option (Nat×Nat)→Prop
 | none=>True
 | some (_,n)=>m≤n
theorem Weak.norm {m:Nat}(ks:List Bool) (fz:Option (Nat×Nat)) (h:H_ m fz) (S:St):Weak m S (S.norm ks fz):=by
 cases fz with
 | none=>exact .forget m ks S
 | some x=>exact (Weak.forget m ks S).trans (Weak.freeze _ _ h _)
theorem Rel.vg {base ak:Nat→Prop}{w0:Wz}{S:St}{blk:Nat→Option Nat}{a:Act}{w:World}(R:Rel base ak w0 S blk a w){t sz ty:Nat}{sz':Nat}(h:S.tmps[t]?=some (.sl sz' [] (some true))) (hM:ty≠MT) :
  Rel base ak w0 ⟨S.tmps.set t (.aX S.objs.length 0),S.objs++[⟨ty,sz,[],true,0⟩]⟩ (aI blk S.objs.length none) a w:=by
 have h1:=R.Ch (o1:=⟨ty,sz,[],true,0⟩) (gb:=none) (j4.refl w) (fun g hg=>by cases hg) fun _=>by
  unfold bY aI
  rw [if_pos rfl]
 refine ⟨h1.nJ,by simpa using h1.Ce,fun t' p hp=>?_,h1.objs,h1.pr,h1.fr,h1.gr,h1.pb,h1.ext,h1.Jr,h1.sm,h1.gl⟩
 simp only [List.getElem?_set] at hp
 split at hp
 · rename_i ht
   subst ht
   split at hp
   · cases hp
     have hx:=R.tm t _ h
     have hx':dA w (bZ base S.objs blk) (.sl sz' [] (some true)) (a.tmps.getD t undef):=hx
     generalize hv:a.tmps.getD t undef=v at hx'
     cases hx' with
     | slnil _ _ _=>
      refine ⟨rfl,⟨ty,sz,[],true,0⟩,YA _ _,Nat.le_refl _,fun _ _=>⟨hM,?_⟩⟩
      unfold zQ aI
      rw [if_pos rfl]
      exact ⟨rfl,rfl⟩
     | Hw _ _ hq=>exact absurd rfl hq
     | sl _ _ _ hq=>exact absurd rfl hq
   · cases hp
 · exact h1.tm t' p hp
theorem Weak.vg {m:Nat}{tm:List PV}{objs:List Obj}(t ty sz:Nat){sz':Nat}(h:tm[t]?=some (.sl sz' [] (some true))) (hM:ty≠MT:=by decide) :
  Weak m ⟨tm,objs⟩ ⟨tm.set t (.aX objs.length 0),objs++[⟨ty,sz,[],true,0⟩]⟩:=
 fun _ _ _ _ _ _ _ R=>⟨_,Rel.vg (S:=⟨tm,objs⟩) R h hM⟩
def jq (objs:List Obj):Prop:=∀ o ∈ objs,∀ x ∈ o.xs,∀ c ∈ x.cells,c.uS objs.length=true
theorem Np {f:PV→PV}{x:PV}(h:∀ c ∈ x.cells,f c=c):x.bF f=x:=by
 cases x <;> simp only [PV.bF] <;> simp only [PV.cells] at h
 case agg cs=>congr 1;conv=>rhs;rw [← map_id cs]
              exact map_congr_left fun c hc=>h c hc
 all_goals exact h _ List.mem_cons_self
theorem EG {d:Nat}{objs objs':List Obj}(h:jq objs):objs.map (fO d objs.length objs')=objs:=by
 conv=>rhs;rw [← map_id objs]
 refine map_congr_left fun o ho=>?_
 have hx:o.xs.map (PV.bF (eY d objs.length objs'))=o.xs:=by
  conv=>rhs;rw [← map_id o.xs]
  exact map_congr_left fun x hx=>Np fun c hc=>KC (h o ho x hx c hc)
 simp only [fO,hx,id]
end Lp
namespace Lp
open Go
open List (all_eq_true mem_range)
structure Step where
 dst:Option Nat
 op:Op
 g:Option (Option Nat×Bool)
 own:Bool
inductive LC where
 | skip
 | ret
 | bad
 | reg (ss:List Step)
 | draw (ss:List Step) (un:List Nat)
 | seq (a b:LC)
 | cond (c:Operand) (a b:LC)
 | block (id:Nat) (c:LC)
 | loop (ks:List Bool) (fz:Option (Nat×Nat)) (c:LC)
 | exit (id:Nat)
 | weak (c:LC)
 | rf (f:Operand) (ps:List Nat) (fz:Option (Nat×Nat)) (a b:LC)
def qp (ops:List Oper) (ms:List Nat):List Nat:=
 (List.range ops.length).map fun i=>(List.range i).foldl (fun u j=>if (ms.getD i 0).testBit j then u else u ||| (1 <<<j)) 0
def fD (ops:List Oper) (ms:List Nat):Bool:=
 let ls:=ops.map (iX ops)
 let zs:=ops.map fun _=>0
 (List.range ops.length).all fun i=>
  match ops[i]? with
  | none=>true
  | some o=>
   (o.after.toList.all fun e=>!Region.binds .any e || decide (e.on<i)) &&
   (ms.getD i 0 &&& Co ms o==ms.getD i 0) &&
   (List.range i).all fun j=>
    (ms.getD i 0).testBit j || !clash ((ops[j]?).bind (·.dst)) o.dst (ls.getD j []) (ls.getD i []) (zs.getD j 0) (zs.getD i 0)
def pK (un ts:List Nat):Bool:=
 (List.range un.length).all fun i=>co (ts.getD i 0)==0 || (List.range i).all fun j=>!(un.getD i 0).testBit j || !((co (ts.getD j 0)==2 && co (ts.getD i 0) !=0) || (co (ts.getD i 0)==2 && co (ts.getD j 0) !=0))
def yx (un ts:List Nat):Bool:=
 ((List.range un.length).all fun i=>z8 (ts.getD i 0)) && (List.range un.length).all fun i=>(List.range i).all fun j=>!(un.getD i 0).testBit j || !yw (ts.getD j 0) (ts.getD i 0)
def mP (un ts:List Nat):Bool:=pK un ts || yx un ts
def stepOf (ops:List Oper) (o:Oper):Step:=⟨o.dst,o.op,match o.guard with
 | none=>none
 | some (j,b)=>some ((ops[j]?).bind (·.dst),b),false⟩
def comp:Code→LC
 | .skip=>.skip
 | .ret=>.ret
 | .exit id=>.exit id
 | .region _ ops false=>.reg (ops.toList.map (stepOf ops.toList))
 | .region _ ops true=>bif fD ops.toList (masks ops.toList []) then .draw (ops.toList.map (stepOf ops.toList)) (qp ops.toList (masks ops.toList [])) else .bad
 | .seq a b=>.seq (comp a) (comp b)
 | .cond c a b=>.cond c (comp a) (comp b)
 | .block id c=>.block id (comp c)
 | .loop c=>.loop [] none (comp c)
 | .rangeFunc f ps a b=>.rf f ps.toList none (comp a) (comp b)
 | _=>.bad
def yA (s:Step):Step:={ s with own:=false }
def strip:LC→LC
 | .reg ss=>.reg (ss.map yA)
 | .draw ss un=>.draw (ss.map yA) un
 | .seq a b=>.seq (strip a) (strip b)
 | .cond c a b=>.cond c (strip a) (strip b)
 | .block id c=>.block id (strip c)
 | .loop _ _ c=>.loop [] none (strip c)
 | .weak c=>strip c
 | .rf f ps _ a b=>.rf f ps none (strip a) (strip b)
 | c=>c
abbrev Tab:=FuncId→List PV→List Obj→KT→Prop
abbrev YT:=List PV→List Obj→(Bool→List Obj→Prop)→Prop
structure Know where
 fn:Tab
 y:Nat
 Y:YT
 top:Bool
 gives:FuncId→List PV→List (List PV)→Prop
 nx:Nat
def nM (T:Know) (pt:Bool) (f:PV) (args:List PV) (objs:List Obj) (K:KT):Prop:=
 match f with
 | .fn g first cap=>T.fn g (first++args++cap) objs K
 | .D8 l=>l=T.y∧pt=true∧args.all PV.pure=true∧T.Y args objs fun b o=>K (.bool b) o 2
 | _=>False
def Know.ZE (T:Know):Know:={ T with Y:=fun _ _ _=>False }
def Know.inner (T:Know) (n:Nat):Know:={ T with top:=false,Y:=fun _ _ _=>False,nx:=n }
def lu (P:Program) (D:TypeId→aG) (T:Know) (own pt:Bool) (ev:Operand→PV) (objs:List Obj) (op:Op) (K:KT):Prop:=
 match op with
 | .call { callee:=.value f,args,.. }=>nM T pt (ev f) (args.toList.map ev) objs K
 | op=>Hf P D own ev objs op K
def vk (g:Option (Option Nat×Bool)) (S:St) (X Y:St→Prop):Prop:=
 match g with
 | none=>X S
 | some (none,_)=>False
 | some (some d,want)=>
  match S.tmps.getD d .dead with
  | .bool b=>(b=want→X { S with tmps:=S.tmps.set d (.bool want) })∧(b=!want→Y { S with tmps:=S.tmps.set d (.bool !want) })
  | .bV []=>Y S
  | _=>False
def LR (P:Program) (D:TypeId→aG) (T:Know):List Step→St→List Nat→(St→List Nat→Prop)→Prop
 | [],S,ts,K=>K S ts
 | s::rest,S,ts,K=>
  vk s.g S
   (fun S=>lu P D T s.own (S.tmps.all PV.pure) S.ev S.objs s.op fun r objs' t=>LR P D T rest (St.put ⟨S.tmps,objs'⟩ s.dst r) (ts++[t]) K)
   (fun S=>LR P D T rest (S.put s.dst (.bV [])) (ts++[0]) K)
def Qp (fz:Option (Nat×Nat)) (I:List Obj→Prop):Exit→St→Prop
 | .normal,S=>I (S.norm [] fz).objs
 | _,_=>False
def qf:List Nat→List PV→List PV→List PV
 | p::ps,y::ys,tm=>qf ps ys (tm.set p y)
 | _,_,tm=>tm
def BP:Obj:=⟨0,0,[],true,0⟩
def ig (k:Nat) (O:List Obj):List Obj:=(O.set k hole).set (k+1) BP
def Gh (k:Nat) (O:List Obj):Prop:=k+2≤O.length∧jq O∧O[k]?=some BP∧O[k+1]?=some hole
def FN:Exit→Option Code
 | .ret=>some .ret
 | .exit id=>some (.exit id)
 | _=>none
def KD (fz:Option (Nat×Nat)) (I:List Obj→Prop) (lv:Exit) (J:List Obj→Prop):Exit→St→Prop
 | .normal,S=>I (S.norm [] fz).objs
 | e,S=>e=lv∧J (S.norm [] fz).objs
def kr (P:Program) (D:TypeId→aG):Know→LC→(Exit→St→Prop)→St→Prop
 | _,.skip,Q,S=>Q .normal S
 | _,.ret,Q,S=>Q .ret S
 | _,.bad,_,_=>False
 | T,.reg ss,Q,S=>LR P D T ss S [] fun S' _=>Q .normal S'
 | T,.draw ss un,Q,S=>LR P D T.ZE ss S [] fun S' ts=>mP un ts=true∧Q .normal S'
 | T,.seq a b,Q,S=>kr P D T a (thenS (fun S'=>kr P D T b Q S') Q) S
 | T,.cond c a b,Q,S=>xW (S.ev c) (kr P D T a Q S) (kr P D T b Q S)
 | T,.block id c,Q,S=>kr P D T c (qH id Q) S
 | T,.loop ks fz c,Q,S=>H_ T.nx fz∧∃ I:Nat→St→Prop,(∃ S0 m,Weak T.nx S S0∧I m S0)∧
   ∀ m S,I m S→kr P D T c (thenS (fun S'=>∃ m',m'<m∧I m' (S'.norm ks fz)) Q) S
 | _,.exit id,Q,S=>Q (.exit id) S
 | T,.weak c,Q,S=>∃ S',Weak T.nx S S'∧kr P D T c Q S'
 | T,.rf f ps fz x y,Q,S=>T.top=true∧∃ (g:FuncId) (cap:List PV) (ys:List (List PV)),
   S.ev f=.fn g [] cap∧cap.all PV.pure=true∧T.gives g cap ys∧(∀ y ∈ ys,y.length=ps.length)∧
   ((∃ I:Nat→List Obj→Prop,H_ S.objs.length fz∧I 0 S.objs∧(∀ i objs,I i objs→S.objs.length≤objs.length∧jq objs)∧
    (∀ i args objs,I i objs→ys[i]?=some args→kr P D (T.inner S.objs.length) x (thenS (fun S1=>kr P D (T.inner S.objs.length) y (Qp fz (I (i+1))) S1) (fun _ _=>False)) ⟨qf ps args S.tmps,objs⟩)∧
    ∀ objs,I ys.length objs→Q .normal ⟨S.tmps,objs⟩)∨
   (∃ (I J:Nat→List Obj→Prop) (lv:Exit) (lc:Code),FN lv=some lc∧H_ (S.objs.length+2) fz∧I 0 (S.objs++[BP,hole])∧(∀ i objs,I i objs→Gh S.objs.length objs)∧(∀ i objs,J i objs→Gh S.objs.length objs∧eP objs)∧
    (∀ i args objs,I i objs→ys[i]?=some args→kr P D (T.inner (S.objs.length+2)) x (thenS (fun S1=>kr P D (T.inner (S.objs.length+2)) y (KD fz (I (i+1)) lv (J i)) S1) (fun _ _=>False)) ⟨qf ps args S.tmps,objs⟩)∧
    (∀ objs,I ys.length objs→Q .normal ⟨S.tmps,objs⟩)∧∀ i objs,i<ys.length→J i objs→Q lv ⟨S.tmps,ig S.objs.length objs⟩))
def uH (P:Program) (T:Tab):Prop:=∀ f args objs K,T f args objs K→∃ r objs' t,lM P f args objs r objs' t∧K r objs' t
def Wy (P:Program) (l:Option Nat) (base ak:Nat→Prop) (V:Wz→Prop) (T:Know):Prop:=
 ∀ (S:St) (blk:Nat→Option Nat) (a:Act) (w:World) (args:List PV) (vs:List Value) (K:Bool→List Obj→Prop),qd base ak V S blk a w→S.tmps.all PV.pure=true→
  b_ (dA w (bZ base S.objs blk)) args vs→T.Y args S.objs K→
  ∃ r:Loop,w.heap[T.y]?=some (.loop r)∧vs.length=r.params.size∧
   RoundIn (EB l) 0 P T.y r.fn ((r.params.zip (⟨vs⟩:Array Value)).foldl (fun t (p,v)=>t.setIfInBounds p v) r.tmps) r.assign r.body w
    (fun e w'=>∃ b objs' av,e=.returned (.bool b)∧K b objs'∧qd base ak V ⟨S.tmps,objs'⟩ av a w')
variable {P:Program}{D:TypeId→aG}{T:Know}{l:Option Nat}
theorem Uv (hT:uH P T.fn){own pt:Bool}{ev:Operand→PV}{objs:List Obj}{op:Op}{K:KT}(h:lu P D T.ZE own pt ev objs op K):Hf P D own ev objs op K:=by
 unfold lu at h
 split at h
 · unfold nM at h
   split at h
   · rename_i e
     simp only [Hf,Fw,e]
     exact hT _ _ _ _ h
   · exact h.2.2.2.elim
   · exact h.elim
 · exact h
theorem YG {base ak:Nat→Prop}{V:Wz→Prop}{S:St}{blk:Nat→Option Nat}{a:Act}{w:World}{own:Bool}{o:Oper}{K:KT}{next:Act→World→Prop}{Q:Exit→Act→World→Prop}
  (hD:∀ t,iH P t (D t)) (hT:uH P T.fn) (hY:Wy P l base ak V T) (R:qd base ak V S blk a w) (h:lu P D T own (S.tmps.all PV.pure) S.ev S.objs o.op K)
  (hn:∀ r objs' t v w' av,K r objs' t→qd base ak V ⟨S.tmps,objs'⟩ av a w'→aU w' (bZ base objs' av) objs' av r v→next (a.put o.dst v) w') :
  o.wpIn (EB l) 0 P a w next Q:=by
 obtain ⟨w0,hV,R0⟩:=R
 have JD:Hf P D own S.ev S.objs o.op K→o.wpIn (EB l) 0 P a w next Q:=fun h=>
  zW l hD R0 h fun r objs' t v w' av h1 h2 h3=>hn r objs' t v w' av h1 ⟨w0,hV,h2⟩ h3
 unfold lu at h
 split at h
 · rename_i f args argTypes ho
   unfold nM at h
   split at h
   · rename_i e
     refine JD ?_
     simp only [ho,Hf,Fw,e]
     exact hT _ _ _ _ h
   · rename_i y e
     obtain ⟨rfl,hpt,hpure,hy⟩:=h
     have hf:=R0.ev f
     rw [e] at hf
     have hf':dA w (bZ base S.objs blk) (.D8 T.y) (a.eval f):=hf
     have hv:a.eval f=.func (.yield T.y) #[] #[]:=by
      generalize a.eval f=v at hf'
      cases hf'
      rfl
     have hargs:b_ (dA w (bZ base S.objs blk)) (args.toList.map S.ev) (args.toList.map a.eval):=by
      have h0:b_ (aU w (bZ base S.objs blk) S.objs blk) (args.toList.map S.ev) (args.toList.map a.eval):=zV _ fun x _=>R0.ev x
      exact ⟨h0.1,fun i p v hp hv=>(h0.2 i p v hp hv).yt (all_eq_true.1 hpure p (List.mem_of_getElem? hp))⟩
     obtain ⟨r,hr,hsz,qJ⟩:=hY S blk a w _ _ _ ⟨w0,hV,R0⟩ hpt hargs hy
     refine ⟨fun _ _=>trivial,?_⟩
     rw [Oper.semAt_eq _ _ _ (by rw [ho];simp)]
     have e1:args.map a.eval=Array.mk (args.toList.map a.eval):=by apply Array.ext';simp
     have hrun:(execOp a.eval o).run P w=.ok (.round T.y r.fn ((r.params.zip (⟨args.toList.map a.eval⟩:Array Value)).foldl (fun t (p,v)=>t.setIfInBounds p v) r.tmps) r.assign r.body) w:=by
      simp only [execOp,ho,resolve,hv,Deferred.ofValue,Sem.run_bind,Sem.run_pure,Result.andThen_ok,invoke]
      rw [e1]
      rw [Array.empty_append]
      exact run_yield (args:=Array.mk (args.toList.map a.eval)) hr (by simpa using hsz)
     rw [hrun]
     refine ⟨(fun h=>by cases h),?_⟩
     refine RoundIn.mono qJ fun e w' ⟨b,objs',av,h1,h2,h3⟩=>?_
     subst h1
     exact hn _ _ _ _ _ _ h2 h3 (.aJ (.bool b))
   · exact h.elim
 · exact JD h
theorem Nq {own:Bool}{ev:Operand→PV}{objs:List Obj}{op:Op}{K K':KT}(h:Hf P D own ev objs op K) (hk:∀ r o t,K r o t→K' r o t):Hf P D own ev objs op K':=by
 obtain ⟨r,o,t,h1,_,h2,_,_⟩:=SK h
 exact h2 _ (hk _ _ _ h1)
theorem FO {ops:List Oper}{g:Option (Nat×Bool)}{S:St}{X Y:St→Prop}
  (h:vk (match g with | none=>none | some (j,b)=>some ((ops[j]?).bind (·.dst),b)) S X Y):nV ops g S X Y:=by
 unfold vk at h
 unfold nV
 cases g with
 | none=>exact h
 | some g=>
  obtain ⟨j,want⟩:=g
  simp only [] at h ⊢
  cases hd:(ops[j]?).bind (·.dst) with
  | none=>rw [hd] at h;exact h
  | some d=>rw [hd] at h;exact h
theorem Dv {ops:List Oper}{g:Option (Nat×Bool)}{S:St}{X X' Y Y':St→Prop}(h:nV ops g S X Y) (hx:∀ S',S'.tmps.length=S.tmps.length→X S'→X' S')
  (hy:∀ S',S'.tmps.length=S.tmps.length→Y S'→Y' S'):nV ops g S X' Y':=by
 cases g with
 | none=>exact hx _ rfl h
 | some g=>
  obtain ⟨j,want⟩:=g
  simp only [nV] at h ⊢
  cases hd:(ops[j]?).bind (·.dst) with
  | none=>rw [hd] at h;exact h
  | some d=>
   rw [hd] at h
   simp only [] at h ⊢
   generalize hv:S.tmps.getD d .dead=v at h ⊢
   cases v
   case bool b=>exact ⟨fun hb=>hx _ (by simp) (h.1 hb),fun hb=>hy _ (by simp) (h.2 hb)⟩
   case bV cs=>
    cases cs with
    | nil=>exact hy _ rfl h
    | cons c cs=>exact h
   all_goals exact h
theorem vo (hT:uH P T.fn){ops:List Oper}{own:Nat→Bool}:∀ (p_:List Oper) (ss:List Step) (i:Nat) (S:St) (ts:List Nat) (K:St→List Nat→Prop),
  ss.map yA=p_.map (stepOf ops)→(∀ j s,ss[j]?=some s→own (i+j)=s.own)→LR P D T.ZE ss S ts K→pE P D own ops p_ i S ts K
 | [],ss,i,S,ts,K,he,ho,h=>by
  have:ss=[]:=by simpa using he
  subst this
  exact h
 | o::p_,ss,i,S,ts,K,he,ho,h=>by
  cases ss with
  | nil=>simp at he
  | cons s ss=>
   simp only [List.map_cons,List.cons.injEq] at he
   obtain ⟨he1,he2⟩:=he
   have hd:s.dst=o.dst:=congrArg (fun x:Step=>x.dst) he1
   have hop:s.op=o.op:=congrArg (fun x:Step=>x.op) he1
   have hg:s.g=(stepOf ops o).g:=(congrArg (fun x:Step=>x.g) he1:(yA s).g=(stepOf ops o).g)
   have hown:own i=s.own:=ho 0 s rfl
   unfold LR at h
   unfold pE
   rw [hg] at h
   refine Dv (FO h) ?_ ?_
   · intro S' hS' hx
     rw [hown,← hop]
     refine Nq (Uv hT hx) ?_
     intro r objs' t hk
     rw [← hd]
     exact vo hT p_ ss (i+1) _ _ K he2 (fun j s' hs'=>by rw [show i+1+j=i+(j+1) by omega];exact ho (j+1) s' hs') hk
   · intro S' hS' hy
     rw [← hd]
     exact vo hT p_ ss (i+1) _ _ K he2 (fun j s' hs'=>by rw [show i+1+j=i+(j+1) by omega];exact ho (j+1) s' hs') hy
theorem yB {ops:List Oper}{own:Nat→Bool}{K K':St→List Nat→Prop}(hk:∀ S ts,K S ts→K' S ts):∀ (p_:List Oper) (i:Nat) (S:St) (ts:List Nat),pE P D own ops p_ i S ts K→pE P D own ops p_ i S ts K'
 | [],_,_,_,h=>hk _ _ h
 | o::p_,i,S,ts,h=>by
  unfold pE at h ⊢
  exact Dv h (fun S' _ hx=>Nq hx fun r o' t hh=>yB hk p_ _ _ _ hh) (fun S' _ hy=>yB hk p_ _ _ _ hy)
theorem PW.abA {E:Env}{c:Code}{Q:Exit→St→Prop}{S:St}{m nx:Nat}(hE:∀ base ak V,E base ak V→∀ w0,V w0→w0.nx≤nx) (I:Nat→St→Prop) (h0:I m S)
  (round:∀ m S,I m S→PW P l E c (thenS (fun S'=>∃ S'' m',Weak nx S' S''∧I m' S''∧m'<m) Q) S):PW P l E (.loop c) Q S:=by
 intro base ak V S9 blk a w R b k cs hro hb hroom
 have hE':=hE base ak V S9
 have key:∀ n S blk a w,I n S→qd base ak V S blk a w→
     ∃ e a' w',(∃ S' av,Q e S'∧qd base ak V S' av a' w')∧ArrivesIn (Machine.fenced P (EB l)) P (lone (b.atR a (.code c::.inLoop c::k)) cs w) b k cs e a' w':=by
  intro n
  induction n using Nat.strongRecOn with
  | _ n ih=>
   intro S blk a w hI R
   obtain ⟨e,a₁,w₁,⟨S₁,blk₁,h1,R₁⟩,harr⟩:=round n S hI base ak V S9 blk a w R b (.inLoop c::k) cs hro hb hroom
   cases e with
   | normal=>
    obtain ⟨S₂,m',hw,hI₂,hlt⟩:=h1
    obtain ⟨w0,hV,R₁⟩:=R₁
    obtain ⟨acI,R₂⟩:=hw base ak w0 blk₁ a₁ w₁ (hE' w0 hV) R₁
    obtain ⟨e₂,a₂,w₂,hq₂,harr₂⟩:=ih m' hlt S₂ acI a₁ w₁ hI₂ ⟨w0,hV,R₂⟩
    exact ⟨e₂,a₂,w₂,hq₂,.of_steps (StepsIn.trans harr (.one (fenced_calm hb hroom rfl) stepR_inLoop)) harr₂⟩
   | exit id=>exact ⟨_,a₁,w₁,⟨S₁,blk₁,h1,R₁⟩,.pass (x:=.inLoop c) rfl (fun _ _=>.inl (by simp)) harr⟩
   | goto t=>exact ⟨_,a₁,w₁,⟨S₁,blk₁,h1,R₁⟩,.pass (x:=.inLoop c) rfl (fun _ _=>.inl (by simp)) harr⟩
   | ret=>exact ⟨_,a₁,w₁,⟨S₁,blk₁,h1,R₁⟩,.pass (x:=.inLoop c) rfl (fun _ _=>.inl (by simp)) harr⟩
   | panic ch=>exact ⟨_,a₁,w₁,⟨S₁,blk₁,h1,R₁⟩,.pass (x:=.inLoop c) rfl (fun _ _=>.inl (by simp)) harr⟩
   | outgrown=>exact ⟨_,a₁,w₁,⟨S₁,blk₁,h1,R₁⟩,.pass (x:=.inLoop c) rfl (fun _ _=>.inl (by simp)) harr⟩
 obtain ⟨e,a',w',hq,harr⟩:=key m S blk a w h0 R
 exact ⟨e,a',w',hq,.of_steps (.one (fenced_calm hb hroom rfl) stepR_loop) harr⟩
theorem sQ {next next':St→Prop}{Q:Exit→St→Prop}(h:∀ S,next S→next' S):∀ e S,thenS next Q e S→thenS next' Q e S:=by
 intro e S hh
 cases e <;> first | exact h _ hh | exact hh
theorem vw {n:Nat}{f:Nat→Bool}(h:(List.range n).all f=true){i:Nat}(hi:i<n):f i=true:=by
 rw [all_eq_true] at h
 exact h i (mem_range.2 hi)
theorem JE {m:Nat}{i:Nat}:∀ (n:Nat),i<n→((List.range n).foldl (fun u j=>if m.testBit j then u else u ||| (1 <<<j)) 0).testBit i=!m.testBit i:=by
 have key:∀ (n:Nat) (j:Nat),((List.range n).foldl (fun u j=>if m.testBit j then u else u ||| (1 <<<j)) 0).testBit j=(decide (j<n) && !m.testBit j):=by
  intro n
  induction n with
  | zero=>intro j;simp
  | succ n ih=>
   intro j
   rw [List.range_succ,List.foldl_append,List.foldl_cons,List.foldl_nil]
   split
   · rename_i hm
     rw [ih j]
     by_cases hj:j=n
     · subst hj;simp [hm]
     · have:decide (j<n+1)=decide (j<n):=by congr 1;apply propext;omega
       rw [this]
   · rename_i hm
     rw [Nat.testBit_or,ih j,Nat.one_shiftLeft,Nat.testBit_two_pow]
     by_cases hj:n=j
     · subst hj;simp [hm]
     · have:decide (j<n+1)=decide (j<n):=by congr 1;apply propext;omega
       rw [this];simp [hj]
 intro n hi
 rw [key n i];simp [hi]
theorem Qq {ops:List Oper}{ts:List Nat}(h1:fD ops (masks ops [])=true) (h2:pK (qp ops (masks ops [])) ts=true):sP ops ts=true:=by
 unfold sP
 unfold fD at h1
 unfold pK at h2
 generalize masks ops []=ms at *
 simp only [all_eq_true,mem_range] at h1 ⊢
 intro i hi
 have h1:=h1 i hi
 rw [List.getElem?_eq_getElem hi] at h1 ⊢
 simp only [Bool.and_eq_true,all_eq_true,mem_range] at h1 ⊢
 refine ⟨⟨h1.1.1,h1.1.2⟩,fun j hj=>?_⟩
 have hz:=h1.2 j hj
 cases hb:(ms.getD i 0).testBit j with
 | true=>simp
 | false=>
  rw [hb] at hz
  have hzz:∀ k,(ops.map fun _=>0).getD k 0=0:=by
   intro k
   rw [List.getD_eq_getElem?_getD,List.getElem?_map]
   cases ops[k]? <;> rfl
  rw [hzz,hzz] at hz
  simp only [Bool.false_or,Bool.not_eq_true',Bool.or_false] at hz ⊢
  have hlen:(qp ops ms).length=ops.length:=by simp [qp]
  have h2:=vw h2 (i:=i) (by omega)
  have hun:(qp ops ms).getD i 0=(List.range i).foldl (fun u j=>if (ms.getD i 0).testBit j then u else u ||| (1 <<<j)) 0:=by
   rw [List.getD_eq_getElem?_getD,qp,List.getElem?_map,List.getElem?_range hi]
   rfl
  have ht:((co (ts.getD j 0)==2 && co (ts.getD i 0) !=0) || (co (ts.getD i 0)==2 && co (ts.getD j 0) !=0))=false:=by
   simp only [Bool.or_eq_true] at h2
   rcases h2 with h2 | h2
   · have:co (ts.getD i 0)=0:=by simpa using h2
     rw [this];simp
   · have:=vw h2 hj
     rw [hun,JE i hj,hb] at this
     simp only [Bool.not_false,Bool.not_true,Bool.false_or,Bool.not_eq_true'] at this
     exact this
  unfold clash at hz ⊢
  simp only [Bool.or_eq_false_iff] at hz ht ⊢
  exact ⟨⟨⟨hz.1.1.1,hz.1.1.2⟩,ht.1⟩,ht.2⟩
theorem Qr {ops:List Oper}{ts:List Nat}(h1:fD ops (masks ops [])=true) (h2:yx (qp ops (masks ops [])) ts=true):wG ops ts=true:=by
 unfold wG
 unfold fD at h1
 unfold yx at h2
 generalize masks ops []=ms at *
 have hlen:(qp ops ms).length=ops.length:=by simp [qp]
 simp only [Bool.and_eq_true,all_eq_true,mem_range,hlen] at h1 h2 ⊢
 refine ⟨h2.1,fun i hi=>?_⟩
 have h1:=h1 i hi
 rw [List.getElem?_eq_getElem hi] at h1 ⊢
 simp only [Bool.and_eq_true,all_eq_true,mem_range] at h1 ⊢
 refine ⟨⟨h1.1.1,h1.1.2⟩,fun j hj=>?_⟩
 have hz:=h1.2 j hj
 cases hb:(ms.getD i 0).testBit j with
 | true=>simp
 | false=>
  rw [hb] at hz
  have hzz:∀ k,(ops.map fun _=>0).getD k 0=0:=by
   intro k
   rw [List.getD_eq_getElem?_getD,List.getElem?_map]
   cases ops[k]? <;> rfl
  rw [hzz,hzz] at hz
  simp only [Bool.false_or,Bool.not_eq_true',Bool.or_false] at hz ⊢
  have hun:(qp ops ms).getD i 0=(List.range i).foldl (fun u j=>if (ms.getD i 0).testBit j then u else u ||| (1 <<<j)) 0:=by
   rw [List.getD_eq_getElem?_getD,qp,List.getElem?_map,List.getElem?_range hi]
   rfl
  have:=h2.2 i hi j hj
  rw [hun,JE i hj,hb] at this
  simp only [Bool.not_false,Bool.not_true,Bool.false_or,Bool.not_eq_true'] at this
  rw [this,Bool.or_false]
  exact hz
theorem Uw {ops:List Oper}{ts:List Nat}(h1:fD ops (masks ops [])=true) (h2:mP (qp ops (masks ops [])) ts=true):(sP ops ts || wG ops ts)=true:=by
 unfold mP at h2
 rcases Bool.or_eq_true _ _ ▸ h2 with h2 | h2
 · rw [Qq h1 h2];rfl
 · rw [Qr h1 h2,Bool.or_true]
theorem FP {base ak:Nat→Prop}{V:Wz→Prop}{ops:List Oper}{Qm:Exit→Act→World→Prop}(hD:∀ t,iH P t (D t)) (hT:uH P T.fn) (hY:Wy P l base ak V T) :
  ∀ (p_:List Oper) (ss:List Step) (k:Nat) (S:St) (ts:List Nat) (K:St→List Nat→Prop) (blk:Nat→Option Nat) (a:Act) (w:World),ss.map yA=p_.map (stepOf ops)→(∀ j,p_[j]?=ops[k+j]?)→
   LR P D T ss S ts K→qd base ak V S blk a w→(∀ S' ts' av a' w',K S' ts'→qd base ak V S' av a' w'→Qm .normal a' w')→wpOpsIn (EB l) 0 P ops.toArray Qm (List.range' k p_.length) a w
 | [],ss,k,S,ts,K,blk,a,w,he,_,h,R,hq=>by
  have:ss=[]:=by simpa using he
  subst this
  exact hq S ts blk a w h R
 | o::p_,ss,k,S,ts,K,blk,a,w,he,hl,h,R,hq=>by
  cases ss with
  | nil=>simp at he
  | cons s ss=>
   simp only [List.map_cons,List.cons.injEq] at he
   obtain ⟨he1,he2⟩:=he
   have hd:s.dst=o.dst:=congrArg (fun x:Step=>x.dst) he1
   have hop:s.op=o.op:=congrArg (fun x:Step=>x.op) he1
   have hg:s.g=(stepOf ops o).g:=(congrArg (fun x:Step=>x.g) he1:(yA s).g=(stepOf ops o).g)
   have h0:ops.toArray[k]?=some o:=by simpa using (hl 0).symm
   have hl':∀ j,p_[j]?=ops[k+1+j]?:=fun j=>by have:=hl (j+1);simpa [Nat.add_assoc,Nat.add_comm 1 j] using this
   simp only [List.length_cons,List.range'_succ,wpOpsIn,h0]
   unfold LR at h
   rw [hg] at h
   rcases u7 R.choose_spec.2 (FO h) o rfl with ⟨hw,hx⟩ | ⟨hw,hy⟩
   · rw [if_pos hw]
     rw [hop] at hx
     refine YG hD hT hY R hx fun r objs' t v w' av hK R' hr=>?_
     rw [hd] at hK
     obtain ⟨w0,hV,R0⟩:=R'
     exact FP hD hT hY p_ ss (k+1) _ _ K av _ w' he2 hl' hK ⟨w0,hV,R0.put hr o.dst⟩ hq
   · rw [if_neg (by rw [hw];simp)]
     rw [hd] at hy
     obtain ⟨w0,hV,R0⟩:=R
     exact ⟨fun _ _=>trivial,FP hD hT hY p_ ss (k+1) _ _ K blk _ w he2 hl' hy ⟨w0,hV,R0.put (wF _ _ _ _) o.dst⟩ hq⟩
theorem Wy.ZE {base ak:Nat→Prop}{V:Wz→Prop}:Wy P l base ak V T.ZE:=fun _ _ _ _ _ _ _ _ _ _ h=>h.elim
theorem Wy.inner {base ak:Nat→Prop}{V:Wz→Prop}{n:Nat}:Wy P l base ak V (T.inner n):=fun _ _ _ _ _ _ _ _ _ _ h=>h.elim
end Lp
namespace Lp
open Go
open Nat (le_of_eq le_trans lt_of_lt_of_le)
variable {P:Program}{D:TypeId→aG}{T:Know}{l:Option Nat}
def VP (ys:List (List PV)) (I J:Nat→List Obj→Prop):YT:=fun args objs K=>∃ i,I i objs∧ys[i]?=some args∧(∀ objs',I (i+1) objs'→K true objs')∧∀ objs',J i objs'→K false objs'
def WA:Act:={ tmps:=#[],defers:=[] }
def Nr (y:Nat) (Y:YT):Know:=⟨fun _ _ _ _=>False,y,Y,false,fun _ _ _=>False,0⟩
def Gives (P:Program) (g:FuncId) (cap:List PV) (ys:List (List PV)):Prop:=
 Enters P g∧
 ∀ (I J:Nat→List Obj→Prop) (base ak:Nat→Prop) (V:Wz→Prop) (y:Nat) (objs:List Obj) (blk:Nat→Option Nat) (w:World) (Ia:List Value),
  Wy P none base ak V (Nr y (VP ys I J))→(∀ w0,V w0→w0.nx≤objs.length)→qd base ak V ⟨[],objs⟩ blk WA w→I 0 objs→(∀ i O,I i O→objs.length≤O.length∧jq O)→(∀ i O,J i O→objs.length≤O.length∧jq O)→b_ (dA w (bZ base objs blk)) cap Ia→
  Calls P g ⟨.func (.yield y) #[] #[]::Ia⟩ w fun e w'=>∃ objs' av,e=.returned (.tuple #[])∧(I ys.length objs'∨∃ i,i<ys.length∧J i objs')∧qd base ak V ⟨[],objs'⟩ av WA w'
def iK (x:Go.Obj):Prop:=(∃ c t y,x=.cells c t y)∨∃ es n,x=.map es n
theorem Ac (ty:TypeId) (c:Array Value):iK (oh ty c):=by
 unfold oh
 split
 · exact .inr ⟨_,_,rfl⟩
 · exact .inl ⟨_,_,_,rfl⟩
section
variable {base ak:Nat→Prop}{w0:Wz}{S:St}{blk:Nat→Option Nat}{a:Act}{w:World}
theorem mI.cells {w w':World}(h:∀ (k:Nat) x,w.heap[k]?=some x→iK x→w'.heap[k]?=some x) (objs:List Obj) (blk:Nat→Option Nat):mI w w' objs objs blk blk:=
 fun _ o ho=>⟨o,ho,Nat.le_refl _,fun hl _=>⟨hl,rfl,rfl,rfl,fun _=>rfl,fun g c _ hc=>⟨c,h g _ hc (.inl ⟨c,_,_,rfl⟩),rfl⟩⟩⟩
theorem dO.cells {objs:List Obj}{w w':World}{xU:Nat→Prop}(R:dO base ak objs blk w) (hs:w.heap.size≤w'.heap.size) (h:∀ (k:Nat) x,w.heap[k]?=some x→iK x→w'.heap[k]?=some x)
  (hnp:∀ k o g,objs[k]?=some o→o.live=true→blk k=some g→¬ xU g):dO base xU objs blk w':=by
 refine ⟨fun k o h1 h4=>?_,R.Jp,hnp⟩
 have hh:=R.ob k o h1 h4
 unfold bY at hh ⊢
 cases hg:blk k with
 | none=>rw [hg] at hh;exact hh
 | some g=>
  rw [hg] at hh
  obtain ⟨c,x1,x2,x3⟩:=hh
  refine ⟨c,h g _ x1 (Ac _ _),x2,fun i x hx=>⟨(x3 i x hx).1,fun j p hp=>?_⟩⟩
  obtain ⟨v,y1,y2⟩:=(x3 i x hx).2 j p hp
  exact ⟨v,y1,y2.qW hs (fun _ _ h=>h) (fun k x _ hx hcx=>h k x hx (.inl hcx)) (.cells h _ _)⟩
theorem fP {ok:Nat→Prop}{objs:List Obj}{w w':World}{p:PV}{v:Value}(R:aU w ok objs blk p v) (hs:w.heap.size≤w'.heap.size) (h:∀ (k:Nat) x,w.heap[k]?=some x→iK x→w'.heap[k]?=some x) :
  aU w' ok objs blk p v:=R.qW hs (fun _ _ h=>h) (fun k x _ hx hcx=>h k x hx (.inl hcx)) (.cells h _ _)
theorem S_ {ok:Nat→Prop}{objs:List Obj}{p:PV}{v:Value}(h:bK w ok objs blk p v):p.uS objs.length=true:=by
 cases p <;> simp only [PV.uS,decide_eq_true_eq] <;> (obtain ⟨_,o,ho,_⟩:=h;exact (List.getElem?_eq_some_iff.1 ho).1)
theorem EH {ok:Nat→Prop}{objs:List Obj}{cs:List PV}{vs:List Value}(h:b_ (bK w ok objs blk) cs vs):cs.all (PV.uS objs.length)=true:=by
 rw [List.all_eq_true]
 intro p hp
 obtain ⟨i,hi,rfl⟩:=List.mem_iff_getElem.1 hp
 exact S_ (h.2 i cs[i] (vs[i]'(by rw [← h.1];exact hi)) (List.getElem?_eq_getElem hi) (List.getElem?_eq_getElem _))
theorem EI {ok:Nat→Prop}{objs:List Obj}{p:PV}{v:Value}(h:aU w ok objs blk p v):p.lt objs.length=true:=by
 have hS:bK w ok objs blk p v→p.uS objs.length=true:=S_
 cases p
 case fn f a c=>obtain ⟨va,vc,rfl,h1,h2⟩:=h;simp only [PV.lt,EH h1,EH h2,Bool.and_self]
 case bV cs=>obtain ⟨vs,rfl,h1⟩:=h;exact EH h1
 case agg cs=>obtain ⟨vs,rfl,h1⟩:=h;exact EH h1
 all_goals exact hS h
theorem Ta {p:PV}{n:Nat}(h:p.pure=true):p.lt n=true:=by
 have hS:∀ p:PV,(!p.ref)=true→p.uS n=true:=fun p h=>by cases p <;> first | rfl | (simp [PV.ref] at h)
 cases p <;> simp only [PV.pure,Bool.and_eq_true,List.all_eq_true] at h <;> simp only [PV.lt,Bool.and_eq_true,List.all_eq_true] <;> first
  | rfl
  | exact ⟨fun q hq=>hS q (h.1 q hq),fun q hq=>hS q (h.2 q hq)⟩
  | exact fun q hq=>hS q (h q hq)
  | cases h
def pairs (tm:List PV) (vs:Array Value):List (PV×Value):=tm.zip vs.toList
theorem kZ {tm:List PV}{vs:Array Value}{x:PV×Value}(h:x ∈ pairs tm vs):∃ t:Nat,tm[t]?=some x.1∧vs.getD t undef=x.2:=by
 obtain ⟨i,hi⟩:=List.mem_iff_getElem?.1 h
 rw [pairs,List.getElem?_zip_eq_some] at hi
 refine ⟨i,hi.1,?_⟩
 rw [Array.getD_eq_getD_getElem?,← Array.getElem?_toList,hi.2]
 rfl
theorem mQ {tm:List PV}{vs:Array Value}(hl:vs.size=tm.length){t:Nat}{p:PV}(h:tm[t]?=some p):(p,vs.getD t undef) ∈ pairs tm vs:=by
 refine List.mem_iff_getElem?.2 ⟨t,?_⟩
 rw [pairs,List.getElem?_zip_eq_some]
 have hlt:t<vs.size:=by rw [hl];exact (List.getElem?_eq_some_iff.1 h).1
 refine ⟨h,?_⟩
 rw [Array.getD_eq_getD_getElem?,Array.getElem?_toList,Array.getElem?_eq_getElem hlt]
 rfl
theorem FQ {R:PV→Value→Prop}(abB:∀ v,R .dead v):∀ (ps:List Nat) (args:List PV) (vs:List Value) (tm:List PV) (xs:Array Value),args.length=vs.length→xs.size=tm.length→
  (∀ (t:Nat) (p:PV),tm[t]?=some p→R p (xs.getD t undef))→(∀ (i:Nat) (p:PV) (v:Value),args[i]?=some p→vs[i]?=some v→R p v)→
  ((ps.zip vs).foldl (fun t (p,v)=>t.setIfInBounds p v) xs).size=(qf ps args tm).length∧∀ (t:Nat) (p:PV),(qf ps args tm)[t]?=some p→R p (((ps.zip vs).foldl (fun t (p,v)=>t.setIfInBounds p v) xs).getD t undef)
 | [],args,vs,tm,xs,_,hs,h,_=>by cases args <;> exact ⟨hs,h⟩
 | p::ps,[],vs,tm,xs,hl,hs,h,_=>by
  have:vs=[]:=by cases vs <;> simp_all
  subst this
  exact ⟨hs,h⟩
 | p::ps,q::args,[],tm,xs,hl,hs,h,_=>by simp at hl
 | p::ps,q::args,v::vs,tm,xs,hl,hs,h,ha=>by
  simp only [qf,List.zip_cons_cons,List.foldl_cons]
  refine FQ abB ps args vs (tm.set p q) (xs.setIfInBounds p v) (by simpa using hl) (by simpa using hs) (fun t r hr=>?_) (fun i r u h1 h2=>ha (i+1) r u (by simpa using h1) (by simpa using h2))
  rw [o8]
  rw [List.getElem?_set] at hr
  by_cases hpt:p=t
  · subst hpt
    rw [if_pos rfl] at hr
    split at hr
    · cases hr
      rename_i hlt
      rw [if_pos ⟨rfl,by omega⟩]
      exact ha 0 q v rfl rfl
    · cases hr
  · rw [if_neg hpt] at hr
    rw [if_neg (fun e=>hpt e.1)]
    exact h t r hr
theorem ja {w:World}{k:Nat}{o o':Go.Obj}(ho:w.heap[k]?=some o) (hn:¬ iK o):∀ (j:Nat) x,w.heap[j]?=some x→iK x→(w.putObj k o').heap[j]?=some x:=by
 intro j x hx hc
 rw [World.putObj_heap_other (fun e=>hn (by subst e;rw [ho] at hx;cases hx;exact hc))]
 exact hx
def E0 (n:Nat):Env:=fun _ _ V=>∀ w0,V w0→w0.nx≤n
theorem WB {f:Operand}{ps:List Nat}{x y:Code}{fz:Option (Nat×Nat)}{g:FuncId}{cap:List PV}{ys:List (List PV)}{I:Nat→List Obj→Prop}
  (hg:Gives P g cap ys) (hys:∀ y ∈ ys,y.length=ps.length) (hI0:I 0 S.objs) (Hl:∀ i objs,I i objs→S.objs.length≤objs.length∧jq objs) (R:Rel base ak w0 S blk a w) (hx:w0.xs=[]) (hf:S.ev f=.fn g [] cap) (hcap:cap.all PV.pure=true) (hfz:H_ S.objs.length fz)
  (qJ:∀ i args objs,I i objs→ys[i]?=some args→∀ l0,PW P (some l0) (E0 S.objs.length) x (thenS (fun S1=>PW P (some l0) (E0 S.objs.length) y (Qp fz (I (i+1))) S1) (fun _ _=>False)) ⟨qf ps args S.tmps,objs⟩) :
  (Code.rangeFunc f ps.toArray x y).wpIn (EB none) 0 P (fun e a' w'=>∃ objs' av,e=.normal∧I ys.length objs'∧Rel base ak w0 ⟨S.tmps,objs'⟩ av a' w') a w:=by
 refine wpIn_rangeFunc fun fn _=>?_
 have hff:=R.ev f
 rw [hf] at hff
 obtain ⟨va,vc,hv,r1,r2⟩:=hff
 have hva:va=[]:=List.eq_nil_of_length_eq_zero r1.1.symm
 subst hva
 obtain ⟨rec,hrec⟩:∃ rec:LoopState→Loop,rec=fun st=>{ state:=st,pending:=none,fn,tmps:=a.tmps,params:=ps.toArray,assign:=x,body:=y,defers:=w.heap.size }:=⟨_,rfl⟩
 obtain ⟨W1,hW1⟩:∃ W1,(w.alloc (.deferred (some []))).alloc (.loop (rec .ready))=W1:=⟨_,rfl⟩
 have hL1:W1.heap[w.heap.size+1]?=some (.loop (rec .ready)):=by
  rw [← hW1];have:=World.alloc_heap_new (w.alloc (.deferred (some []))) (.loop (rec .ready));rwa [World.size_alloc] at this
 have hK1:W1.heap[w.heap.size]?=some (.deferred (some [])):=by
  rw [← hW1];exact (j4.push (w:=w.alloc (.deferred (some []))) (w':=(w.alloc (.deferred (some []))).alloc (.loop (rec .ready))) rfl).2.1 _ _ (World.alloc_heap_new w _)
 have hs1:W1.heap.size=w.heap.size+2:=by rw [← hW1,World.size_alloc,World.size_alloc]
 have vz:j4 w W1:=by
  rw [← hW1]
  exact (j4.push (w':=w.alloc (.deferred (some []))) rfl).trans (j4.push rfl)
 have hnl:∀ k,w.heap.size≤k→aV S.objs blk k:=fun k hk j o h1 h2 h3=>by
  have:=EC R.objs h1 h2 h3;omega
 obtain ⟨⟨fng,hfn,hname,hbody⟩,hgive⟩:=hg
 refine ⟨w.heap.size+1,[{ target:=.collected w.heap.size,args:=#[] }],W1,{ target:=.fn (.func g) ⟨vc⟩,args:=#[.func (.yield (w.heap.size+1)) #[] #[]] },W1,g,
  ⟨.func (.yield (w.heap.size+1)) #[] #[]::vc⟩,W1,?_,?_,fun _ _=>trivial,?_,(fun h=>by cases h),?_⟩
 · rw [← hW1,hrec];exact run_enterLoop_outer _ _ _ _ _
 · simp only [resolve,hv]
   simp [go_sem]
 · have e1:(#[.func (.yield (w.heap.size+1)) #[] #[]]:Array Value)++Array.mk vc=Array.mk (.func (.yield (w.heap.size+1)) #[] #[]::vc):=by apply Array.ext';simp
   simp only [invoke,callFunc,run_program,Sem.run_bind,Result.andThen_ok,hfn,hname,hbody,Bool.false_eq_true,if_false,Sem.run_pure]
   rw [e1]
 · rw [show (0-1:Nat)=0 from rfl]
   refine callsIn_wide.2 ?_
   obtain ⟨l0,hl0⟩:∃ l0,l0=w.heap.size+1:=⟨_,rfl⟩
   rw [← hl0] at hL1 ⊢
   obtain ⟨ji,hprot2⟩:∃ ji:Nat→Prop,ji=fun b=>b<W1.heap.size∧aV S.objs blk b:=⟨_,rfl⟩
   obtain ⟨V2,hV2⟩:∃ V2:Wz→Prop,V2=fun z=>z=⟨W1.heap,pairs S.tmps a.tmps,S.objs.length,w⟩:=⟨_,rfl⟩
   have Ns:ji l0:=by rw [hprot2];exact ⟨by omega,hnl _ (by omega)⟩
   have hpD:ji w.heap.size:=by rw [hprot2];exact ⟨by omega,hnl _ (Nat.le_refl _)⟩
   have ZF:=R.grew vz
   have aaF:∀ b,¬ ji b→base b:=by
    intro b hb
    rw [hprot2] at hb
    by_cases h:ak b
    · exact absurd ⟨lt_of_lt_of_le (R.pr b h) (le_trans R.gr (by omega)),fun k o h1 h2 h3=>R.objs.np k o b h1 h2 h3 h⟩ hb
    · exact R.pb b h
   have aaG:∀ k o g,S.objs[k]?=some o→o.live=true→blk k=some g→¬ ji g:=by
    intro k o g h1 h2 h3 h4
    rw [hprot2] at h4
    exact h4.2 k o h1 h2 h3
   have hext:∀ x ∈ pairs S.tmps a.tmps,aU W1 (bZ base S.objs blk) S.objs blk x.1 x.2:=by
    intro x hx
    obtain ⟨t,h1,h2⟩:=kZ hx
    rw [← h2]
    exact ZF.tm t x.1 h1
   have Ux:∀ b ∈ qE.blocks,b<w.heap.size:=fun b hb=>lt_of_lt_of_le (R.pr b (R.gl.2 b hb)) R.gr
   have Nt:∀ b ∈ qE.blocks,ji b:=fun b hb=>by
    rw [hprot2];exact ⟨by have:=Ux b hb;omega,fun k o h1 h2 h3=>R.objs.np k o b h1 h2 h3 (R.gl.2 b hb)⟩
   have aaH:Rel base ji ⟨W1.heap,pairs S.tmps a.tmps,S.objs.length,w⟩ ⟨[],S.objs⟩ blk WA W1:=by
    refine ⟨.nil _ _,rfl,fun t p hp=>by simp at hp,⟨ZF.objs.ob,R.objs.Jp,aaG⟩,fun b hb=>by rw [hprot2] at hb;exact hb.1,fun _ _=>rfl,Nat.le_refl _,aaF,hext,fun x hx=>EI (hext x hx),vz.2.2,⟨ZF.mH,Nt⟩⟩
   have hcapR:b_ (dA W1 (bZ base S.objs blk)) cap vc:=by
    refine ⟨r2.1,fun i p v hp hv=>?_⟩
    have hpp:=List.all_eq_true.1 hcap p (List.mem_of_getElem? hp)
    have h1:aU w (bZ base S.objs blk) S.objs blk p v:=.jT (r2.2 i p v hp hv)
    exact (h1.yt hpp).mono vz.1 (fun _ _ h=>h) (fun b x _ h=>vz.2.1 b x h)
   have aaI:Wy P none base ji V2 (Nr l0 (VP ys I fun _ _=>False)):=by
    rintro S2 iB a2 w2 args vs K ⟨z,hz,R2⟩ hpt hargs ⟨i,hIi,hyi,hK,_⟩
    rw [hV2] at hz
    subst hz
    have hL2:w2.heap[l0]?=some (.loop (rec .ready)):=(R2.fr l0 Ns).trans hL1
    have hlen:args.length=ps.length:=hys args (List.mem_of_getElem? hyi)
    refine ⟨rec .ready,hL2,by rw [hrec];simp [← hargs.1,hlen],?_⟩
    rw [show (Nr l0 (VP ys I fun _ _=>False)).y=l0 from rfl]
    refine roundIn_of_wpIn trivial ?_
    have hlt2:l0<w2.heap.size:=(Array.getElem?_eq_some_iff.1 hL2).1
    obtain ⟨fE,hprot3⟩:∃ fE:Nat→Prop,fE=fun b=>b<w2.heap.size∧aV S2.objs iB b:=⟨_,rfl⟩
    obtain ⟨FR,hxs3⟩:∃ FR,FR=pairs S.tmps a.tmps++pairs S2.tmps a2.tmps:=⟨_,rfl⟩
    have h23:∀ b,ji b→fE b:=by
     intro b hb
     rw [hprot3]
     exact ⟨lt_of_lt_of_le (R2.pr b hb) R2.gr,fun k o h1 h2 h3=>R2.objs.np k o b h1 h2 h3 hb⟩
    have WC:∀ b,¬ fE b→base b:=fun b hb=>R2.pb b fun h=>hb (h23 b h)
    have aaJ:∀ k o g,S2.objs[k]?=some o→o.live=true→iB k=some g→¬ fE g:=by
     intro k o g h1 h2 h3 h4
     rw [hprot3] at h4
     exact h4.2 k o h1 h2 h3
    have WE:∀ x ∈ FR,aU w2 (bZ base S2.objs iB) S2.objs iB x.1 x.2:=by
     intro x hx
     rw [hxs3] at hx
     rcases List.mem_append.1 hx with hx | hx
     · exact R2.ext x hx
     · obtain ⟨t,h1,h2⟩:=kZ hx
       rw [← h2]
       exact R2.tm t x.1 h1
    have WG:∀ x ∈ FR,x.1.lt S.objs.length=true:=by
     intro x hx
     rw [hxs3] at hx
     rcases List.mem_append.1 hx with hx | hx
     · exact R2.Jr x hx
     · obtain ⟨t,h1,_⟩:=kZ hx
       exact Ta (List.all_eq_true.1 hpt x.1 (List.mem_of_getElem? h1))
    obtain ⟨YH,htm0⟩:∃ YH,YH=(((rec .ready).params.zip (⟨vs⟩:Array Value)).foldl (fun t (p,v)=>t.setIfInBounds p v) (rec .ready).tmps):=⟨_,rfl⟩
    rw [← htm0]
    have Nu:YH=(ps.zip vs).foldl (fun t (p,v)=>t.setIfInBounds p v) a.tmps:=by
     rw [htm0,hrec]
     simp only []
     rw [← Array.foldl_toList]
     simp
    have hset:=FQ (R:=aU w2 (bZ base S2.objs iB) S2.objs iB) (fun v=>.dead v) ps args vs S.tmps a.tmps hargs.1 R.Ce
     (fun t p hp=>R2.ext (p,a.tmps.getD t undef) (mQ R.Ce hp)) (fun i p v h1 h2=>.aJ (hargs.2 i p v h1 h2))
    have Rr:Rel base fE ⟨w2.heap,FR,S.objs.length,w⟩ ⟨qf ps args S.tmps,S2.objs⟩ iB { tmps:=YH,defers:=[] } w2:=by
     refine ⟨.nil _ _,by rw [Nu];exact hset.1,fun t p hp=>by rw [Nu];exact hset.2 t p hp,⟨R2.objs.ob,R2.objs.Jp,aaJ⟩,fun b hb=>by rw [hprot3] at hb;exact hb.1,fun _ _=>rfl,Nat.le_refl _,WC,WE,WG,R2.sm,⟨R2.mH,fun b hb=>h23 b (Nt b hb)⟩⟩
    have KE:=qJ i args S2.objs hIi hyi l0 base fE (fun z=>z=⟨w2.heap,FR,S.objs.length,w⟩) (by rintro z rfl;exact Nat.le_refl _) iB _ w2 ⟨_,rfl,Rr⟩
    rw [show (rec .ready).assign=x by rw [hrec],show (rec .ready).body=y by rw [hrec]]
    change x.wpIn (EB (some l0)) 0 P _ _ _
    refine wpIn_mono KE ?_
    rintro e a3 w3 ⟨S3,WH,he,z,rfl,R3⟩
    cases e with
    | normal=>
     have hp3:fE l0:=h23 l0 Ns
     have hL3:w3.heap[l0]?=some (.loop (rec .ready)):=(R3.fr l0 hp3).trans hL2
     refine ⟨_,run_beginRound hL3 (by rw [hrec]),?_⟩
     have WI:({ rec .ready with state:=.busy }:Loop)=rec .busy:=by rw [hrec]
     rw [WI]
     obtain ⟨w4,hw4⟩:∃ w4,w4=w3.putObj l0 (.loop (rec .busy)):=⟨_,rfl⟩
     rw [← hw4]
     have hnc:∀ st,¬ iK (.loop (rec st)):=by rintro st (⟨c,t,y,h⟩ | ⟨es,n,h⟩) <;> cases h
     have Qs:∀ (k:Nat) x,w3.heap[k]?=some x→iK x→w4.heap[k]?=some x:=by rw [hw4];exact ja hL3 (hnc _)
     have hs4:w4.heap.size=w3.heap.size:=by rw [hw4];exact World.putObj_size
     have ZG:∀ k:Nat,k≠l0→w4.heap[k]?=w3.heap[k]?:=fun k hk=>by rw [hw4];exact World.putObj_heap_other hk
     have aaK:l0<w3.heap.size:=(Array.getElem?_eq_some_iff.1 hL3).1
     have hL4:w4.heap[l0]?=some (.loop (rec .busy)):=by rw [hw4];exact World.putObj_heap_same aaK
     have aaL:∀ b,fE b→b<w2.heap.size:=fun b hb=>by rw [hprot3] at hb;exact hb.1
     have acJ:w2.heap.size≤w3.heap.size:=R3.gr
     have R4:Rel base fE ⟨w4.heap,FR,S.objs.length,w⟩ S3 WH a3 w4:=by
      refine ⟨?_,R3.Ce,fun t p hp=>fP (R3.tm t p hp) (le_of_eq hs4.symm) Qs,R3.objs.cells (le_of_eq hs4.symm) Qs R3.objs.np,fun b hb=>?_,fun _ _=>rfl,Nat.le_refl _,WC,fun x hx=>fP (R3.ext x hx) (le_of_eq hs4.symm) Qs,R3.Jr,R3.sm.trans (by rw [hw4];exact ⟨rfl,rfl⟩),⟨qE.keep (fun b hb=>ZG b (by have:=Ux b hb;omega)) R3.mH,fun b hb=>h23 b (Nt b hb)⟩⟩
      · obtain ⟨Ds,h1,h2,h3⟩:=R3.nJ
        refine ⟨Ds,h1,h2,fun b hb=>?_⟩
        rw [ZG b (fun e=>(h3 b hb).2.2 (e ▸ hp3))]
        exact h3 b hb
      · have:=aaL b hb;show b<w4.heap.size;omega
     have hbody:=he base fE (fun z=>z=⟨w4.heap,FR,S.objs.length,w⟩) (by rintro z rfl;exact Nat.le_refl _) WH a3 w4 ⟨_,rfl,R4⟩
     refine wpIn_mono hbody ?_
     rintro e a5 w5 ⟨S5,blk5,he5,z,rfl,R5⟩
     cases e with
     | normal=>
      have hL5:w5.heap[l0]?=some (.loop (rec .busy)):=(R5.fr l0 hp3).trans hL4
      refine ⟨_,_,run_endRound none hL5,?_⟩
      have Qt:({ rec .busy with state:=if (none:Option Code).isNone then .ready else .done,pending:=none }:Loop)=rec .ready:=by rw [hrec];rfl
      rw [Qt]
      obtain ⟨w6,hw6⟩:∃ w6,w6=w5.putObj l0 (.loop (rec .ready)):=⟨_,rfl⟩
      rw [← hw6]
      obtain ⟨FT,R6⟩:=Weak.norm (m:=S.objs.length) [] fz hfz S5 base fE _ blk5 a5 w5 (Nat.le_refl _) R5
      have FU:∀ (k:Nat) x,w5.heap[k]?=some x→iK x→w6.heap[k]?=some x:=by rw [hw6];exact ja hL5 (hnc _)
      have hs6:w6.heap.size=w5.heap.size:=by rw [hw6];exact World.putObj_size
      have ho6:∀ k:Nat,k≠l0→w6.heap[k]?=w5.heap[k]?:=fun k hk=>by rw [hw6];exact World.putObj_heap_other hk
      have hl5:l0<w5.heap.size:=(Array.getElem?_eq_some_iff.1 hL5).1
      have abC:w4.heap.size≤w5.heap.size:=R5.gr
      have hall:∀ b,fE b→w6.heap[b]?=w2.heap[b]?:=by
       intro b hb
       by_cases hbl:b=l0
       · subst hbl
         rw [hL2,hw6,World.putObj_heap_same hl5]
       · rw [ho6 b hbl,R5.fr b hb]
         show w4.heap[b]?=_
         rw [ZG b hbl]
         exact R3.fr b hb
      have WJ:∀ b,fE b→aV (S5.norm [] fz).objs FT b:=fun b hb k o h1 h2 h3=>R6.objs.np k o b h1 h2 h3 hb
      refine ⟨true,(S5.norm [] fz).objs,FT,rfl,hK _ he5,⟨W1.heap,pairs S.tmps a.tmps,S.objs.length,w⟩,by rw [hV2],?_⟩
      have WK:∀ x ∈ pairs S.tmps a.tmps,x ∈ FR:=fun x hx=>by rw [hxs3];exact List.mem_append_left _ hx
      have WL:∀ x ∈ pairs S2.tmps a2.tmps,x ∈ FR:=fun x hx=>by rw [hxs3];exact List.mem_append_right _ hx
      refine ⟨?_,R2.Ce,fun t p hp=>?_,R6.objs.cells (le_of_eq hs6.symm) FU (fun k o g h1 h2 h3 h4=>R6.objs.np k o g h1 h2 h3 (h23 g h4)),R2.pr,fun b hb=>?_,?_,R2.pb,fun x hx=>fP (R6.ext x (WK x hx)) (le_of_eq hs6.symm) FU,R2.Jr,R6.sm.trans (by rw [hw6];exact ⟨rfl,rfl⟩),R2.gl⟩
      · obtain ⟨Ds,h1,h2,h3⟩:=R2.nJ
        refine ⟨Ds,h1,h2,fun b hb=>?_⟩
        obtain ⟨q1,q2,q3⟩:=h3 b hb
        have hb3:fE b:=by rw [hprot3];exact ⟨(Array.getElem?_eq_some_iff.1 q1).1,q2.2⟩
        exact ⟨by rw [hall b hb3];exact q1,⟨q2.1,WJ b hb3⟩,q3⟩
      · exact fP (R6.ext (p,a2.tmps.getD t undef) (WL _ (mQ R2.Ce hp))) (le_of_eq hs6.symm) FU
      · rw [hall b (h23 b hb)];exact R2.fr b hb
      · have:=R2.gr;show W1.heap.size≤w6.heap.size;simp only at this;omega
     | _=>exact he5.elim
    | _=>exact he.elim
   refine Calls.mono (hgive I (fun _ _=>False) base ji V2 l0 S.objs blk W1 vc aaI (fun z hz=>by rw [hV2] at hz;rw [hz];exact Nat.le_refl _) ⟨_,by rw [hV2],aaH⟩ hI0 Hl (fun _ _ h=>h.elim) hcapR) ?_
   rintro e w3 ⟨objs',av,rfl,hIJ,z,hz,R3⟩
   have hI:I ys.length objs':=hIJ.resolve_right fun ⟨_,_,h⟩=>h
   rw [hV2] at hz
   subst hz
   have hL3:w3.heap[l0]?=some (.loop (rec .ready)):=(R3.fr l0 Ns).trans hL1
   have hD3:w3.heap[w.heap.size]?=some (.deferred (some [])):=(R3.fr _ hpD).trans hK1
   have hnc:¬ iK (.loop (rec .ready)):=by rintro (⟨c,t,y,h⟩ | ⟨es,n,h⟩) <;> cases h
   have hend:=run_endLoop (P:=P) hL3 (by rw [hrec];simp)
   refine ⟨none,w3.putObj l0 (.loop { rec .ready with state:=.exhausted }),by rw [hend,hrec],?_⟩
   simp only []
   have hcl:=ja (o':=.loop { rec .ready with state:=.exhausted }) hL3 hnc
   have hsz:(w3.putObj l0 (.loop { rec .ready with state:=.exhausted })).heap.size=w3.heap.size:=World.putObj_size
   have hle:w.heap.size≤w3.heap.size:=by have:=R3.gr;simp only at this;omega
   have hother:∀ k:Nat,k≠l0→(w3.putObj l0 (.loop { rec .ready with state:=.exhausted })).heap[k]?=w3.heap[k]?:=fun k hk=>World.putObj_heap_other hk
   have hkeep:∀ b,b<w.heap.size→aV S.objs blk b→aV objs' av b:=by
    intro b hb hnb k o h1 h2 h3
    refine R3.objs.np k o b h1 h2 h3 ?_
    rw [hprot2];exact ⟨by omega,hnb⟩
   have hsame:∀ b,b<w.heap.size→aV S.objs blk b→(w3.putObj l0 (.loop { rec .ready with state:=.exhausted })).heap[b]?=w.heap[b]?:=by
    intro b hb hnb
    rw [hother b (by omega),R3.fr b (by rw [hprot2];exact ⟨by omega,hnb⟩)]
    have hbx:w.heap[b]?=some (w.heap[b]):=Array.getElem?_eq_getElem hb
    rw [vz.2.1 b _ hbx,hbx]
   have hpn:∀ b,ak b→b<w.heap.size∧aV S.objs blk b:=fun b hb=>⟨lt_of_lt_of_le (R.pr b hb) R.gr,fun k o h1 h2 h3=>R.objs.np k o b h1 h2 h3 hb⟩
   have aaM:∀ k o g,objs'[k]?=some o→o.live=true→av k=some g→¬ ak g:=fun k o g h1 h2 h3 h4=>hkeep g (hpn g h4).1 (hpn g h4).2 k o h1 h2 h3
   refine ⟨objs',av,trivial,hI,?_,R.Ce,fun t p hp=>?_,R3.objs.cells (le_of_eq hsz.symm) hcl aaM,R.pr,fun b hb=>?_,le_trans R.gr (by rw [hsz];exact hle),R.pb,(by rw [hx];intro x h;simp at h),R.Jr,(R.sm.trans R3.sm).trans ⟨rfl,rfl⟩,R.gl⟩
   · obtain ⟨Ds,h1,h2,h3⟩:=R.nJ
     refine ⟨w.heap.size::Ds,by simp [h1],List.nodup_cons.2 ⟨fun hm=>?_,h2⟩,fun b hb=>?_⟩
     · have:=(Array.getElem?_eq_some_iff.1 (h3 _ hm).1).1;omega
     · rcases List.mem_cons.1 hb with rfl | hb
       · refine ⟨by rw [hother _ (by omega)];exact hD3,⟨R.bs _ R.gr,fun k o h1 h2 h3=>R3.objs.np k o _ h1 h2 h3 hpD⟩,fun hp=>by have:=(hpn _ hp).1;omega⟩
       · obtain ⟨q1,q2,q3⟩:=h3 b hb
         have hbs:=(Array.getElem?_eq_some_iff.1 q1).1
         exact ⟨by rw [hsame b hbs q2.2];exact q1,⟨q2.1,hkeep b hbs q2.2⟩,q3⟩
   · exact fP (R3.ext (p,a.tmps.getD t undef) (mQ R.Ce hp)) (le_of_eq hsz.symm) hcl
   · rw [hsame b (hpn b hb).1 (hpn b hb).2];exact R.fr b hb
theorem JF (k:Nat) (O:List Obj):(ig k O).length=O.length:=by simp [ig]
theorem oV {k j:Nat}{O:List Obj}(h1:j≠k) (h2:j≠k+1):(ig k O)[j]?=O[j]?:=by
 unfold ig
 rw [List.getElem?_set,if_neg (fun e=>h2 e.symm),List.getElem?_set,if_neg (fun e=>h1 e.symm)]
theorem EJ {k:Nat}{O:List Obj}(h:k+1<O.length):(ig k O)[k]?=some hole:=by
 unfold ig
 rw [List.getElem?_set,if_neg (by omega),List.getElem?_set];simp;omega
theorem KF {k:Nat}{O:List Obj}(h:k+1<O.length):(ig k O)[k+1]?=some BP:=by
 unfold ig
 rw [List.getElem?_set];simp;omega
def kH (k:Nat) (blk:Nat→Option Nat):Nat→Option Nat:=fun j=>if j=k+1 then none else blk j
theorem sS {k b:Nat}{O:List Obj}{bl:Nat→Option Nat}(hk:k+1<O.length) (h:aV O bl b):aV (ig k O) (kH k bl) b:=by
 intro j o h1 h2 h3
 by_cases e2:j=k+1
 · subst e2;simp [kH] at h3
 · by_cases e1:j=k
   · subst e1;rw [EJ hk] at h1;cases h1;cases h2
   · rw [oV e1 e2] at h1
     refine h j o h1 h2 ?_
     simpa [kH,e2] using h3
theorem rz {k:Nat}{O:List Obj}{bl:Nat→Option Nat}{p:PV}{v:Value}{ok ok':Nat→Prop}(hp:p.uS k=true) (hok:∀ b,ok b→ok' b) (h:bK w ok O bl p v):bK w ok' (ig k O) (kH k bl) p v:=by
 have hm:∀ q:PV,dA w ok q v→dA w ok' q v:=fun q hq=>hq.mono (Nat.le_refl _) (fun b _ h=>hok b h) (fun _ _ _ h=>h)
 cases p with
 | aX j ver=>
  have hj:j<k:=by simpa [PV.uS] using hp
  obtain ⟨h0,o,h1,h2,h3⟩:=h
  refine ⟨h0,o,by rw [oV (by omega) (by omega)];exact h1,h2,fun e1 e2=>?_⟩
  obtain ⟨hM,hh⟩:=h3 e1 e2
  refine ⟨hM,?_⟩
  unfold zQ at hh ⊢
  rw [show kH k bl j=bl j by simp [kH];omega]
  exact hh
 | bL j ver i f=>
  have hj:j<k:=by simpa [PV.uS] using hp
  obtain ⟨h0,o,h1,h2,h3⟩:=h
  refine ⟨h0,o,by rw [oV (by omega) (by omega)];exact h1,h2,fun e1 e2=>?_⟩
  rw [show kH k bl j=bl j by simp [kH];omega]
  exact h3 e1 e2
 | su j ver=>
  have hj:j<k:=by simpa [PV.uS] using hp
  obtain ⟨h0,o,h1,h2,h3⟩:=h
  refine ⟨h0,o,by rw [oV (by omega) (by omega)];exact h1,h2,fun e1 e2=>?_⟩
  rw [show kH k bl j=bl j by simp [kH];omega]
  exact h3 e1 e2
 | _=>exact hm _ h
theorem Uy {k:Nat}{O:List Obj}{bl:Nat→Option Nat}{p:PV}{v:Value}{ok ok':Nat→Prop}(hp:p.lt k=true) (hok:∀ b,ok b→ok' b) (h:aU w ok O bl p v):aU w ok' (ig k O) (kH k bl) p v:=by
 have hl:∀ (cs:List PV) (vs:List Value),cs.all (PV.uS k)=true→b_ (bK w ok O bl) cs vs→b_ (bK w ok' (ig k O) (kH k bl)) cs vs:=
  fun cs vs hc h=>⟨h.1,fun i p u h1 h2=>rz (List.all_eq_true.1 hc p (List.mem_of_getElem? h1)) hok (h.2 i p u h1 h2)⟩
 cases p with
 | fn f a c=>
  simp only [PV.lt,Bool.and_eq_true] at hp
  obtain ⟨va,vc,rfl,h1,h2⟩:=h
  exact ⟨va,vc,rfl,hl _ _ hp.1 h1,hl _ _ hp.2 h2⟩
 | bV cs=>obtain ⟨us,rfl,h1⟩:=h;exact ⟨us,rfl,hl _ _ hp h1⟩
 | agg cs=>obtain ⟨us,rfl,h1⟩:=h;exact ⟨us,rfl,hl _ _ hp h1⟩
 | aX j ver=>exact rz (p:=.aX j ver) hp hok h
 | bL j ver i f=>exact rz (w:=w) (p:=.bL j ver i f) hp hok h
 | su j ver=>exact rz (w:=w) (p:=.su j ver) hp hok h
 | _=>exact .jT (rz rfl hok (by exact h))
theorem Uz {k:Nat}{O:List Obj}{bl:Nat→Option Nat}{xU:Nat→Prop}(R:dO base xU O bl w) (hk:k+1<O.length) (hn:eP O) (hA:O[k]?=some BP) :
  dO base xU (ig k O) (kH k bl) w:=by
 have hok:∀ b,bZ base O bl b→bZ base (ig k O) (kH k bl) b:=fun b h=>⟨h.1,sS hk h.2⟩
 have get:∀ (j:Nat) (o:Obj),(ig k O)[j]?=some o→o.live=true→(j=k+1∧o=BP)∨(j≠k∧j≠k+1∧O[j]?=some o∧kH k bl j=bl j):=by
  intro j o h1 h2
  by_cases e2:j=k+1
  · subst e2;rw [KF hk] at h1;cases h1;exact .inl ⟨rfl,rfl⟩
  · by_cases e1:j=k
    · subst e1;rw [EJ hk] at h1;cases h1;cases h2
    · rw [oV e1 e2] at h1;exact .inr ⟨e1,e2,h1,by simp [kH,e2]⟩
 have hB:kH k bl (k+1)=none:=by simp [kH]
 refine ⟨fun j o h1 h2=>?_,fun j j' o o' g hne h1 h2 h3 h4 h5 h6=>?_,fun j o g h1 h2 h3=>?_⟩
 · rcases get j o h1 h2 with ⟨rfl,rfl⟩ | ⟨e1,e2,h1',hb⟩
   · unfold bY;rw [hB];rfl
   · have hh:=R.ob j o h1' h2
     unfold bY at hh ⊢
     rw [hb]
     cases hbj:bl j with
     | none=>rw [hbj] at hh;exact hh
     | some g=>
      rw [hbj] at hh
      obtain ⟨c,x1,x2,x3⟩:=hh
      refine ⟨c,x1,x2,fun i x hx=>⟨(x3 i x hx).1,fun q p hp=>?_⟩⟩
      obtain ⟨u,y1,y2⟩:=(x3 i x hx).2 q p hp
      exact ⟨u,y1,.aJ ((y2.yt (hn o (List.mem_of_getElem? h1') x (List.mem_of_getElem? hx) p (List.mem_of_getElem? hp))).nY fun b _ hb=>hok b hb)⟩
 · rcases get j o h1 h2 with ⟨rfl,rfl⟩ | ⟨_,_,h1',hb⟩
   · rw [hB] at h5;cases h5
   · rcases get j' o' h3 h4 with ⟨rfl,rfl⟩ | ⟨_,_,h3',hb'⟩
     · rw [hB] at h6;cases h6
     · rw [hb] at h5;rw [hb'] at h6
       exact R.Jp j j' o o' g hne h1' h2 h3' h4 h5 h6
 · rcases get j o h1 h2 with ⟨rfl,rfl⟩ | ⟨_,_,h1',hb⟩
   · rw [hB] at h3;cases h3
   · rw [hb] at h3;exact R.np j o g h1' h2 h3
theorem UA {f:Operand}{ps:List Nat}{x y:Code}{fz:Option (Nat×Nat)}{g:FuncId}{cap:List PV}{ys:List (List PV)}{I J:Nat→List Obj→Prop}{lv:Exit}{lc:Code}
  (hg:Gives P g cap ys) (hys:∀ y ∈ ys,y.length=ps.length) (hlv:FN lv=some lc) (hI0:I 0 (S.objs++[BP,hole])) (Hl:∀ i objs,I i objs→Gh S.objs.length objs) (VQ:∀ i objs,J i objs→Gh S.objs.length objs∧eP objs) (R:Rel base ak w0 S blk a w) (hx:w0.xs=[]) (hf:S.ev f=.fn g [] cap) (hcap:cap.all PV.pure=true) (hfz:H_ (S.objs.length+2) fz)
  (qJ:∀ i args objs,I i objs→ys[i]?=some args→∀ l0,PW P (some l0) (E0 (S.objs.length+2)) x (thenS (fun S1=>PW P (some l0) (E0 (S.objs.length+2)) y (KD fz (I (i+1)) lv (J i)) S1) (fun _ _=>False)) ⟨qf ps args S.tmps,objs⟩) :
  (Code.rangeFunc f ps.toArray x y).wpIn (EB none) 0 P (fun e a' w'=>∃ objs' av,((e=.normal∧I ys.length objs')∨(e=lv∧∃ i O,i<ys.length∧J i O∧objs'=ig S.objs.length O))∧Rel base ak w0 ⟨S.tmps,objs'⟩ av a' w') a w:=by
 refine wpIn_rangeFunc fun fn _=>?_
 have aaN:∀ t:Nat,∀ p,S.tmps[t]?=some p→p.lt S.objs.length=true:=fun t p hp=>EI (R.tm t p hp)
 obtain ⟨k,hk⟩:∃ k,k=S.objs.length:=⟨_,rfl⟩
 have hff:=R.ev f
 rw [hf] at hff
 obtain ⟨va,vc,hv,r1,r2⟩:=hff
 have hva:va=[]:=List.eq_nil_of_length_eq_zero r1.1.symm
 subst hva
 obtain ⟨uP,RG,abD⟩:∃ uP,Rel base ak w0 ⟨S.tmps,S.objs++[BP,hole]⟩ uP a w∧∀ b,aV S.objs blk b→aV (S.objs++[BP,hole]) uP b:=by
  have g1:=R.Ch (o1:=BP) (gb:=none) (j4.refl w) (fun g hg=>by cases hg) fun _=>by
   unfold bY aI;rw [if_pos rfl];rfl
  have g2:=g1.Ch (o1:=hole) (gb:=none) (j4.refl w) (fun g hg=>by cases hg) fun _=>by
   unfold bY aI;rw [if_pos rfl];rfl
  have e1:(S.objs++[BP]).length=S.objs.length+1:=by simp
  have e2:S.objs++[BP]++[hole]=S.objs++[BP,hole]:=by simp
  simp only [e1,e2] at g2
  refine ⟨_,g2,fun b hn j o h1 h2 h3=>?_⟩
  have hj:j<S.objs.length+2:=by have:=(List.getElem?_eq_some_iff.1 h1).1;simpa using this
  unfold aI at h3
  split at h3
  · cases h3
  · split at h3
    · cases h3
    · rw [List.getElem?_append_left (by omega)] at h1
      exact hn j o h1 h2 h3
 have hAg:(S.objs++[BP,hole])[S.objs.length]?=some BP:=by simp
 have hBg:(S.objs++[BP,hole])[S.objs.length+1]?=some hole:=by simp
 have Yd:(S.objs++[BP,hole]).length=S.objs.length+2:=by simp
 obtain ⟨S',hS'⟩:∃ S':St,S'=⟨S.tmps,S.objs++[BP,hole]⟩:=⟨_,rfl⟩
 have hSt:S'.tmps=S.tmps:=by rw [hS']
 have hSo:S'.objs=S.objs++[BP,hole]:=by rw [hS']
 rw [← hS'] at RG
 rw [← hSo] at hAg hBg Yd hI0 abD
 rw [← hk] at hAg hBg Yd hfz qJ Hl VQ aaN ⊢
 obtain ⟨rec,hrec⟩:∃ rec:LoopState→Option Code→Loop,rec=fun st pe=>{ state:=st,pending:=pe,fn,tmps:=a.tmps,params:=ps.toArray,assign:=x,body:=y,defers:=w.heap.size }:=⟨_,rfl⟩
 obtain ⟨W1,hW1⟩:∃ W1,(w.alloc (.deferred (some []))).alloc (.loop (rec .ready none))=W1:=⟨_,rfl⟩
 have hL1:W1.heap[w.heap.size+1]?=some (.loop (rec .ready none)):=by
  rw [← hW1];have:=World.alloc_heap_new (w.alloc (.deferred (some []))) (.loop (rec .ready none));rwa [World.size_alloc] at this
 have hK1:W1.heap[w.heap.size]?=some (.deferred (some [])):=by
  rw [← hW1];exact (j4.push (w:=w.alloc (.deferred (some []))) (w':=(w.alloc (.deferred (some []))).alloc (.loop (rec .ready none))) rfl).2.1 _ _ (World.alloc_heap_new w _)
 have hs1:W1.heap.size=w.heap.size+2:=by rw [← hW1,World.size_alloc,World.size_alloc]
 have vz:j4 w W1:=by
  rw [← hW1]
  exact (j4.push (w':=w.alloc (.deferred (some []))) rfl).trans (j4.push rfl)
 have hnl:∀ k,w.heap.size≤k→aV S'.objs uP k:=fun k hk j o h1 h2 h3=>by
  have:=EC RG.objs h1 h2 h3;omega
 obtain ⟨⟨fng,hfn,hname,hbody⟩,hgive⟩:=hg
 refine ⟨w.heap.size+1,[{ target:=.collected w.heap.size,args:=#[] }],W1,{ target:=.fn (.func g) ⟨vc⟩,args:=#[.func (.yield (w.heap.size+1)) #[] #[]] },W1,g,
  ⟨.func (.yield (w.heap.size+1)) #[] #[]::vc⟩,W1,?_,?_,fun _ _=>trivial,?_,(fun h=>by cases h),?_⟩
 · rw [← hW1,hrec];exact run_enterLoop_outer _ _ _ _ _
 · simp only [resolve,hv]
   simp [go_sem]
 · have e1:(#[.func (.yield (w.heap.size+1)) #[] #[]]:Array Value)++Array.mk vc=Array.mk (.func (.yield (w.heap.size+1)) #[] #[]::vc):=by apply Array.ext';simp
   simp only [invoke,callFunc,run_program,Sem.run_bind,Result.andThen_ok,hfn,hname,hbody,Bool.false_eq_true,if_false,Sem.run_pure]
   rw [e1]
 · rw [show (0-1:Nat)=0 from rfl]
   refine callsIn_wide.2 ?_
   obtain ⟨l0,hl0⟩:∃ l0,l0=w.heap.size+1:=⟨_,rfl⟩
   rw [← hl0] at hL1 ⊢
   obtain ⟨ji,hprot2⟩:∃ ji:Nat→Prop,ji=fun b=>b<W1.heap.size∧aV S'.objs uP b:=⟨_,rfl⟩
   obtain ⟨z0,hz0⟩:∃ z0:Wz,z0=⟨W1.heap,(.aX (k+1) 0,.bool false)::pairs S'.tmps a.tmps,S'.objs.length,w⟩:=⟨_,rfl⟩
   obtain ⟨z1,hz1⟩:∃ z1:Wz,z1=⟨(W1.putObj l0 (.loop (rec .done (some lc)))).heap,(.aX k 0,.bool false)::pairs S'.tmps a.tmps,S'.objs.length,w⟩:=⟨_,rfl⟩
   obtain ⟨V2,hV2⟩:∃ V2:Wz→Prop,V2=fun z=>z=z0∨z=z1:=⟨_,rfl⟩
   have ghost:∀ {ww:World}{ok:Nat→Prop}{O:List Obj}{bl:Nat→Option Nat}{j:Nat},aU ww ok O bl (.aX j 0) (.bool false)→O[j]?=some BP→False:=by
    intro ww ok O bl j h h1
    have:=h.aX h1 rfl rfl
    unfold zQ at this
    split at this
    · cases this.1
    · obtain ⟨_,_,h,_⟩:=this;cases h
   have ZH:∀ {ww:World}{ok:Nat→Prop}{O:List Obj}{bl:Nat→Option Nat}{j:Nat},O[j]?=some hole→aU ww ok O bl (.aX j 0) (.bool false):=
    fun h=>⟨rfl,_,h,Nat.le_refl _,fun hl=>by cases hl⟩
   have Ns:ji l0:=by rw [hprot2];exact ⟨by omega,hnl _ (by omega)⟩
   have hpD:ji w.heap.size:=by rw [hprot2];exact ⟨by omega,hnl _ (Nat.le_refl _)⟩
   have ZF:=RG.grew vz
   have aaF:∀ b,¬ ji b→base b:=by
    intro b hb
    rw [hprot2] at hb
    by_cases h:ak b
    · exact absurd ⟨lt_of_lt_of_le (RG.pr b h) (le_trans RG.gr (by omega)),fun k o h1 h2 h3=>RG.objs.np k o b h1 h2 h3 h⟩ hb
    · exact RG.pb b h
   have aaG:∀ k o g,S'.objs[k]?=some o→o.live=true→uP k=some g→¬ ji g:=by
    intro k o g h1 h2 h3 h4
    rw [hprot2] at h4
    exact h4.2 k o h1 h2 h3
   have hext:∀ x ∈ pairs S'.tmps a.tmps,aU W1 (bZ base S'.objs uP) S'.objs uP x.1 x.2:=by
    intro x hx
    obtain ⟨t,h1,h2⟩:=kZ hx
    rw [← h2]
    exact ZF.tm t x.1 h1
   have ZI:∀ x ∈ z0.xs,aU W1 (bZ base S'.objs uP) S'.objs uP x.1 x.2:=by
    intro x hx
    rw [hz0] at hx
    rcases List.mem_cons.1 hx with rfl | hx
    · exact ZH hBg
    · exact hext x hx
   have Ux:∀ b ∈ qE.blocks,b<w.heap.size:=fun b hb=>lt_of_lt_of_le (R.pr b (R.gl.2 b hb)) R.gr
   have Nt:∀ b ∈ qE.blocks,ji b:=fun b hb=>by
    rw [hprot2];exact ⟨by have:=Ux b hb;omega,fun k o h1 h2 h3=>RG.objs.np k o b h1 h2 h3 (R.gl.2 b hb)⟩
   have aaH:Rel base ji z0 ⟨[],S'.objs⟩ uP WA W1:=by
    refine ⟨.nil _ _,rfl,fun t p hp=>by simp at hp,⟨ZF.objs.ob,RG.objs.Jp,aaG⟩,fun b hb=>by rw [hprot2] at hb;rw [hz0];exact hb.1,fun _ _=>by rw [hz0],by rw [hz0];exact Nat.le_refl _,aaF,ZI,fun x hx=>?_,by rw [hz0];exact vz.2.2,by rw [hz0];exact ⟨ZF.mH,Nt⟩⟩
    have:=EI (ZI x hx)
    rw [hz0];exact this
   have acK:∀ b,b<w.heap.size→bZ base S.objs blk b→bZ base S'.objs uP b:=by
    intro b _ h
    refine ⟨h.1,fun j o h1 h2 h3=>?_⟩
    exact abD b h.2 j o h1 h2 h3
   have hcapR:b_ (dA W1 (bZ base S'.objs uP)) cap vc:=by
    refine ⟨r2.1,fun i p v hp hv=>?_⟩
    have hpp:=List.all_eq_true.1 hcap p (List.mem_of_getElem? hp)
    have h1:aU w (bZ base S.objs blk) S.objs blk p v:=.jT (r2.2 i p v hp hv)
    have h2:dA w (bZ base S'.objs uP) p v:=(h1.yt hpp).nY acK
    exact h2.mono vz.1 (fun _ _ h=>h) (fun b x _ h=>vz.2.1 b x h)
   have aaI:Wy P none base ji V2 (Nr l0 (VP ys I fun i O=>∃ O',J i O'∧O=ig k O')):=by
    rintro S2 iB a2 w2 args vs K ⟨z,hz,R2⟩ hpt hargs ⟨i,hIi,hyi,hK,hKf⟩
    rw [hV2] at hz
    have hz:z=z0:=by
     rcases hz with hz | hz
     · exact hz
     · exfalso
       refine ghost (R2.ext (.aX k 0,.bool false) ?_) (Hl i _ hIi).2.2.1
       rw [hz,hz1];exact List.mem_cons_self
    subst hz
    have YI:z.heap=W1.heap:=by rw [hz0]
    have hzx:z.xs=(.aX (k+1) 0,.bool false)::pairs S'.tmps a.tmps:=by rw [hz0]
    have hzn:z.nx=S'.objs.length:=by rw [hz0]
    have hzo:z.out=w:=by rw [hz0]
    have hL2:w2.heap[l0]?=some (.loop (rec .ready none)):=(R2.fr l0 Ns).trans (by rw [YI];exact hL1)
    have hlen:args.length=ps.length:=hys args (List.mem_of_getElem? hyi)
    refine ⟨rec .ready none,hL2,by rw [hrec];simp [← hargs.1,hlen],?_⟩
    rw [show (Nr l0 (VP ys I fun i O=>∃ O',J i O'∧O=ig k O')).y=l0 from rfl]
    refine roundIn_of_wpIn trivial ?_
    have hlt2:l0<w2.heap.size:=(Array.getElem?_eq_some_iff.1 hL2).1
    obtain ⟨fE,hprot3⟩:∃ fE:Nat→Prop,fE=fun b=>b<w2.heap.size∧aV S2.objs iB b:=⟨_,rfl⟩
    obtain ⟨FR,hxs3⟩:∃ FR,FR=z.xs++pairs S2.tmps a2.tmps:=⟨_,rfl⟩
    have h23:∀ b,ji b→fE b:=by
     intro b hb
     rw [hprot3]
     exact ⟨lt_of_lt_of_le (R2.pr b hb) R2.gr,fun k o h1 h2 h3=>R2.objs.np k o b h1 h2 h3 hb⟩
    have WC:∀ b,¬ fE b→base b:=fun b hb=>R2.pb b fun h=>hb (h23 b h)
    have aaJ:∀ k o g,S2.objs[k]?=some o→o.live=true→iB k=some g→¬ fE g:=by
     intro k o g h1 h2 h3 h4
     rw [hprot3] at h4
     exact h4.2 k o h1 h2 h3
    have WE:∀ x ∈ FR,aU w2 (bZ base S2.objs iB) S2.objs iB x.1 x.2:=by
     intro x hx
     rw [hxs3] at hx
     rcases List.mem_append.1 hx with hx | hx
     · exact R2.ext x hx
     · obtain ⟨t,h1,h2⟩:=kZ hx
       rw [← h2]
       exact R2.tm t x.1 h1
    have WG:∀ x ∈ FR,x.1.lt S'.objs.length=true:=by
     intro x hx
     rw [hxs3] at hx
     rcases List.mem_append.1 hx with hx | hx
     · rw [← hzn];exact R2.Jr x hx
     · obtain ⟨t,h1,_⟩:=kZ hx
       exact Ta (List.all_eq_true.1 hpt x.1 (List.mem_of_getElem? h1))
    obtain ⟨YH,htm0⟩:∃ YH,YH=(((rec .ready none).params.zip (⟨vs⟩:Array Value)).foldl (fun t (p,v)=>t.setIfInBounds p v) (rec .ready none).tmps):=⟨_,rfl⟩
    rw [← htm0]
    have Nu:YH=(ps.zip vs).foldl (fun t (p,v)=>t.setIfInBounds p v) a.tmps:=by
     rw [htm0,hrec]
     simp only []
     rw [← Array.foldl_toList]
     simp
    have hset:=FQ (R:=aU w2 (bZ base S2.objs iB) S2.objs iB) (fun v=>.dead v) ps args vs S'.tmps a.tmps hargs.1 RG.Ce
     (fun t p hp=>R2.ext (p,a.tmps.getD t undef) (by rw [hzx];exact List.mem_cons_of_mem _ (mQ RG.Ce hp))) (fun i p v h1 h2=>.aJ (hargs.2 i p v h1 h2))
    have Rr:Rel base fE ⟨w2.heap,FR,S'.objs.length,w⟩ ⟨qf ps args S.tmps,S2.objs⟩ iB { tmps:=YH,defers:=[] } w2:=by
     refine ⟨.nil _ _,by rw [Nu,← hSt];exact hset.1,fun t p hp=>by rw [← hSt] at hp;rw [Nu];exact hset.2 t p hp,⟨R2.objs.ob,R2.objs.Jp,aaJ⟩,fun b hb=>by rw [hprot3] at hb;exact hb.1,fun _ _=>rfl,Nat.le_refl _,WC,WE,WG,by rw [← hzo];exact R2.sm,⟨R2.mH,fun b hb=>h23 b (Nt b hb)⟩⟩
    have KE:=qJ i args S2.objs hIi hyi l0 base fE (fun z=>z=⟨w2.heap,FR,S'.objs.length,w⟩) (by rintro z rfl;rw [← Yd];exact Nat.le_refl _) iB _ w2 ⟨_,rfl,Rr⟩
    rw [show (rec .ready none).assign=x by rw [hrec],show (rec .ready none).body=y by rw [hrec]]
    change x.wpIn (EB (some l0)) 0 P _ _ _
    refine wpIn_mono KE ?_
    rintro e a3 w3 ⟨S3,WH,he,zz,rfl,R3⟩
    cases e with
    | normal=>
     have hp3:fE l0:=h23 l0 Ns
     have hL3:w3.heap[l0]?=some (.loop (rec .ready none)):=(R3.fr l0 hp3).trans hL2
     refine ⟨_,run_beginRound hL3 (by rw [hrec]),?_⟩
     have WI:({ rec .ready none with state:=.busy }:Loop)=rec .busy none:=by rw [hrec]
     rw [WI]
     obtain ⟨w4,hw4⟩:∃ w4,w4=w3.putObj l0 (.loop (rec .busy none)):=⟨_,rfl⟩
     rw [← hw4]
     have hnc:∀ st pe,¬ iK (.loop (rec st pe)):=by rintro st pe (⟨c,t,y,h⟩ | ⟨es,n,h⟩) <;> cases h
     have Qs:∀ (k:Nat) x,w3.heap[k]?=some x→iK x→w4.heap[k]?=some x:=by rw [hw4];exact ja hL3 (hnc _ _)
     have hs4:w4.heap.size=w3.heap.size:=by rw [hw4];exact World.putObj_size
     have ZG:∀ k:Nat,k≠l0→w4.heap[k]?=w3.heap[k]?:=fun k hk=>by rw [hw4];exact World.putObj_heap_other hk
     have aaK:l0<w3.heap.size:=(Array.getElem?_eq_some_iff.1 hL3).1
     have hL4:w4.heap[l0]?=some (.loop (rec .busy none)):=by rw [hw4];exact World.putObj_heap_same aaK
     have aaL:∀ b,fE b→b<w2.heap.size:=fun b hb=>by rw [hprot3] at hb;exact hb.1
     have acJ:w2.heap.size≤w3.heap.size:=R3.gr
     have R4:Rel base fE ⟨w4.heap,FR,S'.objs.length,w⟩ S3 WH a3 w4:=by
      refine ⟨?_,R3.Ce,fun t p hp=>fP (R3.tm t p hp) (le_of_eq hs4.symm) Qs,R3.objs.cells (le_of_eq hs4.symm) Qs R3.objs.np,fun b hb=>?_,fun _ _=>rfl,Nat.le_refl _,WC,fun x hx=>fP (R3.ext x hx) (le_of_eq hs4.symm) Qs,R3.Jr,R3.sm.trans (by rw [hw4];exact ⟨rfl,rfl⟩),⟨qE.keep (fun b hb=>ZG b (by have:=Ux b hb;omega)) R3.mH,fun b hb=>h23 b (Nt b hb)⟩⟩
      · obtain ⟨Ds,h1,h2,h3⟩:=R3.nJ
        refine ⟨Ds,h1,h2,fun b hb=>?_⟩
        rw [ZG b (fun e=>(h3 b hb).2.2 (e ▸ hp3))]
        exact h3 b hb
      · have:=aaL b hb;show b<w4.heap.size;omega
     have hbody:=he base fE (fun z=>z=⟨w4.heap,FR,S'.objs.length,w⟩) (by rintro z rfl;rw [← Yd];exact Nat.le_refl _) WH a3 w4 ⟨_,rfl,R4⟩
     refine wpIn_mono hbody ?_
     rintro e a5 w5 ⟨S5,blk5,he5,zz,rfl,R5⟩
     have leave:FN e=some lc→J i (S5.norm [] fz).objs→∃ v w',(Instr.endRound l0 (some lc)).run P w5=.ok v w'∧(∃ b objs' av,Ending.returned v=.returned (.bool b)∧K b objs'∧qd base ji V2 ⟨S2.tmps,objs'⟩ av a2 w'):=by
      intro _ hJ
      have hL5:w5.heap[l0]?=some (.loop (rec .busy none)):=(R5.fr l0 hp3).trans hL4
      refine ⟨_,_,run_endRound (some lc) hL5,?_⟩
      have hdone:({ rec .busy none with state:=if (some lc:Option Code).isNone then .ready else .done,pending:=some lc }:Loop)=rec .done (some lc):=by rw [hrec];rfl
      rw [hdone]
      obtain ⟨w6,hw6⟩:∃ w6,w6=w5.putObj l0 (.loop (rec .done (some lc))):=⟨_,rfl⟩
      rw [← hw6]
      obtain ⟨FT,R6⟩:=Weak.norm (m:=S'.objs.length) [] fz (by rw [Yd];exact hfz) S5 base fE _ blk5 a5 w5 (Nat.le_refl _) R5
      have FU:∀ (k:Nat) x,w5.heap[k]?=some x→iK x→w6.heap[k]?=some x:=by rw [hw6];exact ja hL5 (hnc _ _)
      have hs6:w6.heap.size=w5.heap.size:=by rw [hw6];exact World.putObj_size
      have ho6:∀ k:Nat,k≠l0→w6.heap[k]?=w5.heap[k]?:=fun k hk=>by rw [hw6];exact World.putObj_heap_other hk
      have hl5:l0<w5.heap.size:=(Array.getElem?_eq_some_iff.1 hL5).1
      have abC:w4.heap.size≤w5.heap.size:=R5.gr
      have hl1:l0<W1.heap.size:=(Array.getElem?_eq_some_iff.1 hL1).1
      have hall:∀ b,fE b→b≠l0→w6.heap[b]?=w2.heap[b]?:=by
       intro b hb hbl
       rw [ho6 b hbl,R5.fr b hb]
       show w4.heap[b]?=_
       rw [ZG b hbl]
       exact R3.fr b hb
      obtain ⟨⟨gl,_,gA,gB⟩,gN⟩:=VQ i _ hJ
      have hk1:k+1<(S5.norm [] fz).objs.length:=by omega
      have abE:∀ b,bZ base (S5.norm [] fz).objs FT b→bZ base (ig k (S5.norm [] fz).objs) (kH k FT) b:=fun b h=>⟨h.1,sS hk1 h.2⟩
      have WJ:∀ b,fE b→aV (ig k (S5.norm [] fz).objs) (kH k FT) b:=fun b hb=>sS hk1 fun k o h1 h2 h3=>R6.objs.np k o b h1 h2 h3 hb
      have WK:∀ x ∈ pairs S'.tmps a.tmps,x ∈ FR:=fun x hx=>by rw [hxs3,hzx];exact List.mem_append_left _ (List.mem_cons_of_mem _ hx)
      have WL:∀ x ∈ pairs S2.tmps a2.tmps,x ∈ FR:=fun x hx=>by rw [hxs3];exact List.mem_append_right _ hx
      have HZ:dO base ji (S5.norm [] fz).objs FT w6:=R6.objs.cells (le_of_eq hs6.symm) FU (fun k o g h1 h2 h3 h4=>R6.objs.np k o g h1 h2 h3 (h23 g h4))
      refine ⟨false,ig k (S5.norm [] fz).objs,kH k FT,rfl,hKf _ ⟨_,hJ,rfl⟩,z1,by rw [hV2];exact .inr rfl,?_⟩
      refine ⟨?_,R2.Ce,fun t p hp=>?_,Uz HZ hk1 gN gA,fun b hb=>?_,fun b hb=>?_,?_,R2.pb,fun x hx=>?_,fun x hx=>?_,?_,by rw [hz1];exact ⟨qE.keep (fun b hb=>World.putObj_heap_other (by have:=Ux b hb;omega)) ZF.mH,Nt⟩⟩
      · obtain ⟨Ds,h1,h2,h3⟩:=R2.nJ
        refine ⟨Ds,h1,h2,fun b hb=>?_⟩
        obtain ⟨q1,q2,q3⟩:=h3 b hb
        have hb3:fE b:=by rw [hprot3];exact ⟨(Array.getElem?_eq_some_iff.1 q1).1,q2.2⟩
        exact ⟨by rw [hall b hb3 (fun e=>q3 (e ▸ Ns))];exact q1,⟨q2.1,WJ b hb3⟩,q3⟩
      · have hpp:p.pure=true:=List.all_eq_true.1 hpt p (List.mem_of_getElem? hp)
        have h1:=fP (R6.ext (p,a2.tmps.getD t undef) (WL _ (mQ R2.Ce hp))) (le_of_eq hs6.symm) FU
        exact .aJ ((h1.yt hpp).nY fun b _ hb=>abE b hb)
      · rw [hprot2] at hb;rw [hz1];show b<(W1.putObj l0 _).heap.size;rw [World.putObj_size];exact hb.1
      · rw [hz1]
        show w6.heap[b]?=(W1.putObj l0 (.loop (rec .done (some lc)))).heap[b]?
        by_cases hbl:b=l0
        · subst hbl
          rw [hw6,World.putObj_heap_same hl5,World.putObj_heap_same hl1]
        · rw [hall b (h23 b hb) hbl,World.putObj_heap_other hbl,R2.fr b hb,YI]
      · rw [hz1]
        show (W1.putObj l0 _).heap.size≤w6.heap.size
        rw [World.putObj_size]
        have:=R2.gr
        rw [YI] at this
        omega
      · rw [hz1] at hx
        rcases List.mem_cons.1 hx with rfl | hx
        · exact ZH (EJ hk1)
        · have h1:=fP (R6.ext x (WK x hx)) (le_of_eq hs6.symm) FU
          obtain ⟨t,ht,_⟩:=kZ hx
          exact Uy (aaN t x.1 (by rw [← hSt];exact ht)) abE h1
      · rw [hz1] at hx ⊢
        show x.1.lt S'.objs.length=true
        rcases List.mem_cons.1 hx with rfl | hx
        · simp [PV.lt,PV.uS,Yd]
        · obtain ⟨t,ht,_⟩:=kZ hx
          exact SY (by rw [Yd];omega) (aaN t x.1 (by rw [← hSt];exact ht))
      · rw [hz1];exact R6.sm.trans (by rw [hw6];exact ⟨rfl,rfl⟩)
     cases e with
     | normal=>
      have hL5:w5.heap[l0]?=some (.loop (rec .busy none)):=(R5.fr l0 hp3).trans hL4
      refine ⟨_,_,run_endRound none hL5,?_⟩
      have Qt:({ rec .busy none with state:=if (none:Option Code).isNone then .ready else .done,pending:=none }:Loop)=rec .ready none:=by rw [hrec];rfl
      rw [Qt]
      obtain ⟨w6,hw6⟩:∃ w6,w6=w5.putObj l0 (.loop (rec .ready none)):=⟨_,rfl⟩
      rw [← hw6]
      obtain ⟨FT,R6⟩:=Weak.norm (m:=S'.objs.length) [] fz (by rw [Yd];exact hfz) S5 base fE _ blk5 a5 w5 (Nat.le_refl _) R5
      have FU:∀ (k:Nat) x,w5.heap[k]?=some x→iK x→w6.heap[k]?=some x:=by rw [hw6];exact ja hL5 (hnc _ _)
      have hs6:w6.heap.size=w5.heap.size:=by rw [hw6];exact World.putObj_size
      have ho6:∀ k:Nat,k≠l0→w6.heap[k]?=w5.heap[k]?:=fun k hk=>by rw [hw6];exact World.putObj_heap_other hk
      have hl5:l0<w5.heap.size:=(Array.getElem?_eq_some_iff.1 hL5).1
      have abC:w4.heap.size≤w5.heap.size:=R5.gr
      have hall:∀ b,fE b→w6.heap[b]?=w2.heap[b]?:=by
       intro b hb
       by_cases hbl:b=l0
       · subst hbl
         rw [hL2,hw6,World.putObj_heap_same hl5]
       · rw [ho6 b hbl,R5.fr b hb]
         show w4.heap[b]?=_
         rw [ZG b hbl]
         exact R3.fr b hb
      have WJ:∀ b,fE b→aV (S5.norm [] fz).objs FT b:=fun b hb k o h1 h2 h3=>R6.objs.np k o b h1 h2 h3 hb
      refine ⟨true,(S5.norm [] fz).objs,FT,rfl,hK _ he5,z,by rw [hV2];exact .inl rfl,?_⟩
      have WK:∀ x ∈ z.xs,x ∈ FR:=fun x hx=>by rw [hxs3];exact List.mem_append_left _ hx
      have WL:∀ x ∈ pairs S2.tmps a2.tmps,x ∈ FR:=fun x hx=>by rw [hxs3];exact List.mem_append_right _ hx
      refine ⟨?_,R2.Ce,fun t p hp=>?_,R6.objs.cells (le_of_eq hs6.symm) FU (fun k o g h1 h2 h3 h4=>R6.objs.np k o g h1 h2 h3 (h23 g h4)),R2.pr,fun b hb=>?_,?_,R2.pb,fun x hx=>fP (R6.ext x (WK x hx)) (le_of_eq hs6.symm) FU,R2.Jr,by rw [hzo];exact R6.sm.trans (by rw [hw6];exact ⟨rfl,rfl⟩),R2.gl⟩
      · obtain ⟨Ds,h1,h2,h3⟩:=R2.nJ
        refine ⟨Ds,h1,h2,fun b hb=>?_⟩
        obtain ⟨q1,q2,q3⟩:=h3 b hb
        have hb3:fE b:=by rw [hprot3];exact ⟨(Array.getElem?_eq_some_iff.1 q1).1,q2.2⟩
        exact ⟨by rw [hall b hb3];exact q1,⟨q2.1,WJ b hb3⟩,q3⟩
      · exact fP (R6.ext (p,a2.tmps.getD t undef) (WL _ (mQ R2.Ce hp))) (le_of_eq hs6.symm) FU
      · rw [hall b (h23 b hb)];exact R2.fr b hb
      · have:=R2.gr;rw [YI] at this ⊢;omega
     | ret=>
      obtain ⟨rfl,hJ⟩:=he5
      cases hlv
      exact leave rfl hJ
     | exit id=>
      obtain ⟨rfl,hJ⟩:=he5
      cases hlv
      exact leave rfl hJ
     | _=>
      obtain ⟨rfl,hJ⟩:=he5
      cases hlv
    | _=>exact he.elim
   refine Calls.mono (hgive I (fun i O=>∃ O',J i O'∧O=ig k O') base ji V2 l0 S'.objs uP W1 vc aaI (fun z hz=>by
    rw [hV2] at hz
    rcases hz with rfl | rfl
    · rw [hz0];exact Nat.le_refl _
    · rw [hz1];exact Nat.le_refl _) ⟨_,by rw [hV2];exact .inl rfl,aaH⟩ hI0 (fun i O h=>⟨by rw [Yd];exact (Hl i O h).1,(Hl i O h).2.1⟩) (fun i O h=>by
    obtain ⟨O',h,rfl⟩:=h
    obtain ⟨⟨q1,q2,_,_⟩,q5⟩:=VQ i O' h
    refine ⟨by rw [JF,Yd];exact q1,fun o ho x hx c hc=>?_⟩
    obtain ⟨j,hj⟩:=List.mem_iff_getElem?.1 ho
    rw [JF]
    have hno:o.xs=[]∨o ∈ O':=by
     by_cases e2:j=k+1
     · subst e2;rw [KF (by omega)] at hj;cases hj;exact .inl rfl
     · by_cases e1:j=k
       · subst e1;rw [EJ (by omega)] at hj;cases hj;exact .inl rfl
       · rw [oV e1 e2] at hj;exact .inr (List.mem_of_getElem? hj)
    rcases hno with h0 | h0
    · rw [h0] at hx;cases hx
    · exact q2 o h0 x hx c hc) hcapR) ?_
   rintro e w3 ⟨objs',av,rfl,hIJ,z,hz,R3⟩
   rw [hV2] at hz
   have fin:∀ (hp:Array Go.Obj) (st:LoopState) (pe:Option Code) (e':Exit),z.heap=hp→(∀ b,b≠l0→hp[b]?=W1.heap[b]?)→hp[l0]?=some (.loop (rec st pe))→st≠.busy→hp.size=W1.heap.size→z.out=w→(∀ x ∈ pairs S'.tmps a.tmps,x ∈ z.xs)→
       (∀ Q':Exit→Act→World→Prop,∀ aa ww,Q' e' aa ww→(match pe with | none=>Q' .normal aa ww | some c=>c.wpIn (EB none) 0 P Q' aa ww))→
       ((e'=.normal∧I ys.length objs')∨(e'=lv∧∃ i O,i<ys.length∧J i O∧objs'=ig k O))→
       ∃ jump w4,(Instr.endLoop l0).run P w3=.ok jump w4∧(match jump with
        | none=>(fun e a' w'=>∃ objs' av,((e=.normal∧I ys.length objs')∨(e=lv∧∃ i O,i<ys.length∧J i O∧objs'=ig k O))∧Rel base ak w0 ⟨S.tmps,objs'⟩ av a' w') .normal { a with defers:=[{ target:=.collected w.heap.size,args:=#[] }]++a.defers } w4
        | some c=>c.wpIn (EB none) 0 P (fun e a' w'=>∃ objs' av,((e=.normal∧I ys.length objs')∨(e=lv∧∃ i O,i<ys.length∧J i O∧objs'=ig k O))∧Rel base ak w0 ⟨S.tmps,objs'⟩ av a' w') { a with defers:=[{ target:=.collected w.heap.size,args:=#[] }]++a.defers } w4):=by
    intro hp st pe e' YI hoth abF hst hsize hzo hzx hcode hend
    have hL3:w3.heap[l0]?=some (.loop (rec st pe)):=(R3.fr l0 Ns).trans (by rw [YI];exact abF)
    have hD3:w3.heap[w.heap.size]?=some (.deferred (some [])):=(R3.fr _ hpD).trans (by rw [YI,hoth _ (by omega)];exact hK1)
    have hnc:¬ iK (.loop (rec st pe)):=by rintro (⟨c,t,y,h⟩ | ⟨es,n,h⟩) <;> cases h
    have abG:=run_endLoop (P:=P) hL3 (by rw [hrec];exact hst)
    refine ⟨pe,w3.putObj l0 (.loop { rec st pe with state:=.exhausted }),by rw [abG,hrec],?_⟩
    have hcl:=ja (o':=.loop { rec st pe with state:=.exhausted }) hL3 hnc
    have hsz:(w3.putObj l0 (.loop { rec st pe with state:=.exhausted })).heap.size=w3.heap.size:=World.putObj_size
    have hle:w.heap.size≤w3.heap.size:=by have:=R3.gr;rw [YI,hsize] at this;omega
    have hother:∀ k:Nat,k≠l0→(w3.putObj l0 (.loop { rec st pe with state:=.exhausted })).heap[k]?=w3.heap[k]?:=fun k hk=>World.putObj_heap_other hk
    have hkeep:∀ b,b<w.heap.size→aV S'.objs uP b→aV objs' av b:=by
     intro b hb hnb k o h1 h2 h3
     refine R3.objs.np k o b h1 h2 h3 ?_
     rw [hprot2];exact ⟨by omega,hnb⟩
    have hsame:∀ b,b<w.heap.size→aV S'.objs uP b→(w3.putObj l0 (.loop { rec st pe with state:=.exhausted })).heap[b]?=w.heap[b]?:=by
     intro b hb hnb
     rw [hother b (by omega),R3.fr b (by rw [hprot2];exact ⟨by omega,hnb⟩),YI,hoth b (by omega)]
     have hbx:w.heap[b]?=some (w.heap[b]):=Array.getElem?_eq_getElem hb
     rw [vz.2.1 b _ hbx,hbx]
    have hpn:∀ b,ak b→b<w.heap.size∧aV S'.objs uP b:=fun b hb=>⟨lt_of_lt_of_le (RG.pr b hb) RG.gr,fun k o h1 h2 h3=>RG.objs.np k o b h1 h2 h3 hb⟩
    have aaM:∀ k o g,objs'[k]?=some o→o.live=true→av k=some g→¬ ak g:=fun k o g h1 h2 h3 h4=>hkeep g (hpn g h4).1 (hpn g h4).2 k o h1 h2 h3
    refine hcode (fun e a' w'=>∃ objs' av,((e=.normal∧I ys.length objs')∨(e=lv∧∃ i O,i<ys.length∧J i O∧objs'=ig k O))∧Rel base ak w0 ⟨S.tmps,objs'⟩ av a' w') _ _ ⟨objs',av,hend,?_,R.Ce,fun t p hp=>?_,R3.objs.cells (le_of_eq hsz.symm) hcl aaM,R.pr,fun b hb=>?_,le_trans R.gr (by rw [hsz];exact hle),R.pb,(by rw [hx];intro x h;simp at h),R.Jr,(R.sm.trans (by rw [← hzo];exact R3.sm)).trans ⟨rfl,rfl⟩,R.gl⟩
    · obtain ⟨Ds,h1,h2,h3⟩:=RG.nJ
      refine ⟨w.heap.size::Ds,by simp [h1],List.nodup_cons.2 ⟨fun hm=>?_,h2⟩,fun b hb=>?_⟩
      · have:=(Array.getElem?_eq_some_iff.1 (h3 _ hm).1).1;omega
      · rcases List.mem_cons.1 hb with rfl | hb
        · refine ⟨by rw [hother _ (by omega)];exact hD3,⟨RG.bs _ RG.gr,fun k o h1 h2 h3=>R3.objs.np k o _ h1 h2 h3 hpD⟩,fun hp=>by have:=(hpn _ hp).1;omega⟩
        · obtain ⟨q1,q2,q3⟩:=h3 b hb
          have hbs:=(Array.getElem?_eq_some_iff.1 q1).1
          exact ⟨by rw [hsame b hbs q2.2];exact q1,⟨q2.1,hkeep b hbs q2.2⟩,q3⟩
    · exact fP (R3.ext (p,a.tmps.getD t undef) (hzx _ (mQ RG.Ce (by rw [hSt];exact hp)))) (le_of_eq hsz.symm) hcl
    · rw [hsame b (hpn b hb).1 (hpn b hb).2];exact R.fr b hb
   rcases hz with rfl | rfl
   · have hI:I ys.length objs':=by
      refine hIJ.resolve_right fun ⟨i,_,O,hJ,e⟩=>?_
      refine ghost (R3.ext (.aX (k+1) 0,.bool false) (by rw [hz0];exact List.mem_cons_self)) ?_
      rw [e];exact KF (by have:=(VQ i O hJ).1.1;omega)
     exact fin W1.heap .ready none .normal (by rw [hz0]) (fun _ _=>rfl) hL1 (by simp) rfl (by rw [hz0]) (fun x hx=>by rw [hz0];exact List.mem_cons_of_mem _ hx) (fun Q' aa ww h=>h) (.inl ⟨rfl,hI⟩)
   · have hJ:∃ i O,i<ys.length∧J i O∧objs'=ig k O:=by
      rcases hIJ with h | ⟨i,hi,O,hJ,e⟩
      · exact (ghost (R3.ext (.aX k 0,.bool false) (by rw [hz1];exact List.mem_cons_self)) (Hl _ _ h).2.2.1).elim
      · exact ⟨i,O,hi,hJ,e⟩
     have hl1:l0<W1.heap.size:=(Array.getElem?_eq_some_iff.1 hL1).1
     refine fin (W1.putObj l0 (.loop (rec .done (some lc)))).heap .done (some lc) lv (by rw [hz1]) (fun b hb=>World.putObj_heap_other hb) (World.putObj_heap_same hl1) (by simp) World.putObj_size (by rw [hz1]) (fun x hx=>by rw [hz1];exact List.mem_cons_of_mem _ hx) (fun Q' aa ww h=>?_) (.inr ⟨rfl,hJ⟩)
     cases lv <;> simp only [FN,Option.some.injEq,reduceCtorEq] at hlv
     · subst hlv;exact wpIn_exit h
     · subst hlv;exact wpIn_ret h
end
structure FV (P:Program) (l:Option Nat) (E:Env) (T:Know):Prop where
 fn:uH P T.fn
 y:∀ base ak V,E base ak V→Wy P l base ak V T
 nx:∀ base ak V,E base ak V→∀ w0,V w0→w0.nx≤T.nx
 top:T.top=true→l=none∧∀ base ak V,E base ak V→∀ w0,V w0→w0.xs=[]
 gives:∀ g cap ys,T.gives g cap ys→Gives P g cap ys
theorem FV.inner {E:Env}(h:FV P l E T) (n l0:Nat):FV P (some l0) (E0 n) (T.inner n):=
 ⟨h.fn,fun _ _ _ _=>Wy.inner,fun _ _ _ hE w0 hw=>hE w0 hw,(fun h=>by cases h),h.gives⟩
theorem rA (hD:∀ t,iH P t (D t)) (hm:P.follows .mixedOrders=true):∀ (C:LC) (T:Know) (l:Option Nat) (E:Env) (c:Code) (Q:Exit→St→Prop) (S:St),FV P l E T→strip C=comp c→kr P D T C Q S→PW P l E c Q S:=by
 intro C
 induction C with
 | skip=>
  intro T l E c Q S hk he h
  cases c <;> simp only [comp,strip] at he <;> first | (cases he;done) | skip
  · exact .skip h
  · rename_i d;cases d <;> simp only [comp] at he <;> first | (cases he;done) | (cases hs:fD _ _ <;> rw [hs] at he <;> cases he)
 | ret=>
  intro T l E c Q S hk he h
  cases c <;> simp only [comp,strip] at he <;> first | (cases he;done) | skip
  · rename_i d;cases d <;> simp only [comp] at he <;> first | (cases he;done) | (cases hs:fD _ _ <;> rw [hs] at he <;> cases he)
  · exact .ret h
 | bad=>intro T l E c Q S hk he h;exact h.elim
 | exit id=>
  intro T l E c Q S hk he h
  cases c <;> simp only [comp,strip] at he <;> first | (cases he;done) | skip
  · rename_i d;cases d <;> simp only [comp] at he <;> first | (cases he;done) | (cases hs:fD _ _ <;> rw [hs] at he <;> cases he)
  · cases he;exact .exit h
 | weak x ihx=>
  intro T l E c Q S hk he h
  obtain ⟨S',hw,h⟩:=h
  exact .weak hk.nx hw (ihx _ _ _ _ _ _ hk he h)
 | reg ss=>
  intro T l E c Q S hk he h
  cases c <;> simp only [comp,strip] at he <;> first | (cases he;done) | skip
  rename_i id ops d
  cases d <;> simp only [comp] at he
  · simp only [LC.reg.injEq] at he
    have ht:ops=ops.toList.toArray:=by simp
    intro base ak V hE blk a w R
    refine wpIn_region ?_
    have:=FP (Qm:=fun e a' w'=>∃ S' av,Q e S'∧qd base ak V S' av a' w') hD hk.fn (hk.y base ak V hE) ops.toList ss 0 S [] _ blk a w he (fun j=>by simp) h R (fun S' ts' av a' w' hK R'=>⟨S',av,hK,R'⟩)
    rw [List.range_eq_range']
    simpa using this
  · cases hs:fD _ _ <;> rw [hs] at he <;> cases he
 | draw ss un=>
  intro T l E c Q S hk he h
  cases c <;> simp only [comp,strip] at he <;> first | (cases he;done) | skip
  rename_i id ops d
  cases d <;> simp only [comp] at he
  · cases he
  · cases hs:fD ops.toList (masks ops.toList []) <;> rw [hs] at he
    · cases he
    · simp only [cond_true,LC.draw.injEq] at he
      obtain ⟨he,rfl⟩:=he
      have:ops=ops.toList.toArray:=by simp
      rw [this]
      refine PW.abz (fun i=>((ss[i]?).map (·.own)).getD false) hD hm (yB (fun S' ts hh=>?_) _ _ _ _ (vo hk.fn ops.toList ss 0 S [] _ he (fun j s hs=>by simp [hs]) h))
      exact ⟨Uw hs hh.1,hh.2⟩
 | seq x y ihx ihy=>
  intro T l E c Q S hk he h
  cases c <;> simp only [comp,strip] at he <;> first | (cases he;done) | skip
  · rename_i d;cases d <;> simp only [comp] at he <;> first | (cases he;done) | (cases hs:fD _ _ <;> rw [hs] at he <;> cases he)
  · simp only [LC.seq.injEq] at he
    exact .seq ((ihx _ _ _ _ _ _ hk he.1 h).mono (sQ fun S' h'=>ihy _ _ _ _ _ _ hk he.2 h'))
 | cond o x y ihx ihy=>
  intro T l E c Q S hk he h
  cases c <;> simp only [comp,strip] at he <;> first | (cases he;done) | skip
  · rename_i d;cases d <;> simp only [comp] at he <;> first | (cases he;done) | (cases hs:fD _ _ <;> rw [hs] at he <;> cases he)
  · simp only [LC.cond.injEq] at he
    obtain ⟨rfl,h1,h2⟩:=he
    refine .cond ?_
    unfold kr xW at h
    unfold xW
    split at h
    · exact ⟨fun hb=>ihx _ _ _ _ _ _ hk h1 (h.1 hb),fun hb=>ihy _ _ _ _ _ _ hk h2 (h.2 hb)⟩
    · exact h.elim
 | block id x ihx=>
  intro T l E c Q S hk he h
  cases c <;> simp only [comp,strip] at he <;> first | (cases he;done) | skip
  · rename_i d;cases d <;> simp only [comp] at he <;> first | (cases he;done) | (cases hs:fD _ _ <;> rw [hs] at he <;> cases he)
  · simp only [LC.block.injEq] at he
    obtain ⟨rfl,h1⟩:=he
    exact .block (ihx _ _ _ _ _ _ hk h1 h)
 | loop ks fz x ihx=>
  intro T l E c Q S hk he h
  cases c <;> simp only [comp,strip] at he <;> first | (cases he;done) | skip
  · rename_i d;cases d <;> simp only [comp] at he <;> first | (cases he;done) | (cases hs:fD _ _ <;> rw [hs] at he <;> cases he)
  · simp only [LC.loop.injEq,true_and] at he
    obtain ⟨hfz,I,⟨S0,m,hw,hI⟩,hr⟩:=h
    refine .weak hk.nx hw ?_
    exact PW.abA hk.nx I hI fun m S hS=>(ihx _ _ _ _ _ _ hk he (hr m S hS)).mono (sQ fun S' ⟨m',h1,h2⟩=>⟨S'.norm ks fz,m',Weak.norm ks fz hfz S',h2,h1⟩)
 | rf f ps fz x y ihx ihy=>
  intro T l E c Q S hk he h
  cases c <;> simp only [comp,strip] at he <;> first | (cases he;done) | skip
  · rename_i d;cases d <;> simp only [comp] at he <;> first | (cases he;done) | (cases hs:fD _ _ <;> rw [hs] at he <;> cases he)
  · rename_i f' ps' x' y'
    simp only [LC.rf.injEq,true_and] at he
    obtain ⟨rfl,rfl,h1,h2⟩:=he
    obtain ⟨htop,g,cap,ys,hf,hcap,hg,hys,h⟩:=h
    obtain ⟨rfl,hxs⟩:=hk.top htop
    intro base ak V hE blk a w ⟨w0,hV,R⟩
    have hps:ps'.toList.toArray=ps':=by simp
    rcases h with ⟨I,hfz,hI0,Hl,qJ,hend⟩ | ⟨I,J,lv,lc,hlv,hfz,hI0,Hl,VQ,qJ,hend,hleave⟩
    · have:=WB (x:=x') (y:=y') (hk.gives g cap ys hg) hys hI0 Hl R (hxs base ak V hE w0 hV) hf hcap hfz fun i args objs hi hy l0=>
       (ihx _ _ _ _ _ _ (hk.inner S.objs.length l0) h1 (qJ i args objs hi hy)).mono (sQ fun S1 h'=>ihy _ _ _ _ _ _ (hk.inner S.objs.length l0) h2 h')
      rw [hps] at this
      refine wpIn_mono this ?_
      rintro e a' w' ⟨objs',av,rfl,hI,R'⟩
      exact ⟨_,av,hend objs' hI,w0,hV,R'⟩
    · have:=UA (x:=x') (y:=y') (hk.gives g cap ys hg) hys hlv hI0 Hl VQ R (hxs base ak V hE w0 hV) hf hcap hfz fun i args objs hi hy l0=>
       (ihx _ _ _ _ _ _ (hk.inner (S.objs.length+2) l0) h1 (qJ i args objs hi hy)).mono (sQ fun S1 h'=>ihy _ _ _ _ _ _ (hk.inner (S.objs.length+2) l0) h2 h')
      rw [hps] at this
      refine wpIn_mono this ?_
      rintro e a' w' ⟨objs',av,h,R'⟩
      rcases h with ⟨rfl,hI⟩ | ⟨rfl,i,O,hi,hJ,rfl⟩
      · exact ⟨_,av,hend objs' hI,w0,hV,R'⟩
      · exact ⟨_,av,hleave i O hi hJ,w0,hV,R'⟩
end Lp
namespace Lp
open Go
variable {P:Program}{D:TypeId→aG}{T:Know}
def iT (D:TypeId→aG) (S:St):List ResultVar→(List PV→Prop)→Prop
 | [],K=>K []
 | .tmp t::rs,K=>iT D S rs fun ps=>K (S.tmps.getD t .dead::ps)
 | .cell a t::rs,K=>eU (D t) (S.tmps.getD a .dead) S.objs fun p _ _=>iT D S rs fun ps=>K (p::ps)
def eO:List PV→PV
 | [p]=>p
 | ps=>.bV ps
def UB (D:TypeId→aG) (d:Nat) (rs:List ResultVar) (r:PV) (e:Exit) (S:St):Prop:=
 (e=.normal∨e=.ret)∧iT D S rs fun ps=>r=eO (ps.map (gH d 0 S.objs))
def Qu (d:Nat) (t:Nat) (o':Obj) (e:Exit) (S:St):Prop:=
 (e=.normal∨e=.ret)∧∃ S' k ver o,Weak 0 S S'∧S'.tmps.getD t .dead=.aX k ver∧S'.objs[k]?=some o∧o.live=true∧o.ver=ver∧{ fO d (k+1) S'.objs o with ver:=0 }=o'∧eP [o']
section
variable {base ak:Nat→Prop}{w0:Wz}{S:St}{blk:Nat→Option Nat}{a:Act}{w:World}
theorem vB {ok:Nat→Prop}{p:PV}{v:Value}(h:aU w ok [] blk p v):dA w ok p v:=by
 have hS:∀ (p:PV) (v:Value),bK w ok [] blk p v→dA w ok p v:=by
  intro p v h
  cases p <;> first | exact h | (obtain ⟨_,o,ho,_⟩:=h;simp at ho)
 cases p
 case fn f x c=>obtain ⟨va,vc,rfl,h1,h2⟩:=h;exact .fn _ _ _ va vc h1.1 h2.1 (fun i p v a b=>hS _ _ (h1.2 i p v a b)) (fun i p v a b=>hS _ _ (h2.2 i p v a b))
 case bV cs=>obtain ⟨vs,rfl,h1⟩:=h;exact .bV _ vs h1.1 (fun i p v a b=>hS _ _ (h1.2 i p v a b))
 case agg cs=>obtain ⟨vs,rfl,h1⟩:=h;exact .agg _ vs h1.1 (fun i p v a b=>hS _ _ (h1.2 i p v a b))
 all_goals exact hS _ _ h
theorem YJ (S:St) (d:Nat):(S.freeze d 0).objs=[]:=by simp [St.freeze]
theorem acL (R:Rel base ak w0 S blk a w) (d:Nat) (p:PV) (v:Value) (h:aU w (bZ base S.objs blk) S.objs blk p v):dA w base (gH d 0 S.objs p) v:=by
 have:=FL R d 0 p v h
 rw [YJ] at this
 exact (vB this).nY fun b _ h=>h.1
theorem UC (hD:∀ t,iH P t (D t)) (R:Rel base ak w0 S blk a w){t x:Nat}{K:KT}(h:eU (D t) (S.tmps.getD x .dead) S.objs K) :
  ∃ p ad v τ,a.tmps.getD x undef=.pointer (some ad)∧(loadVar t ad).run P w=.ok v w∧K p S.objs τ∧aU w (bZ base S.objs blk) S.objs blk p v:=by
 have hx:=R.ev (.tmp x)
 change aU w (bZ base S.objs blk) S.objs blk (S.tmps.getD x .dead) (a.tmps.getD x undef) at hx
 unfold eU at h
 split at h
 · rename_i p e
   rw [e] at hx
   obtain ⟨hk,h1,h2,h3⟩:=h
   have hx':=hx.addr
   generalize hv:a.tmps.getD x undef=v at hx'
   cases hx' with
   | addr _ b off vs hok hcell hrep=>
    obtain ⟨u,g1,g2⟩:=lJ (hD t) hk (At.yt vs hcell hrep) h1 h2
    exact ⟨_,_,_,_,rfl,g1,h3,zS g2⟩
 · rename_i k ver i f e
   rw [e] at hx
   obtain ⟨ob,el,h1,h2,h3,h4,hk,h5,h6,h7,h8⟩:=h
   obtain ⟨g,hb,hv,hty⟩:=hx.bL h1 h2 h3
   obtain ⟨y1,y2⟩:=Qa R.objs h1 h2 h4 hb hty
   have hat:At (bK w (bZ base S.objs blk) S.objs blk) w g (i*ob.sz) (.agg el.cells):=y2
   have hs:=At.sub hat f (D t).size (D t).agg h5 h6 (oO h7)
   obtain ⟨c1,c2⟩:=Ju el.cells f _ _ h5 h6 h7
   obtain ⟨u,g1,g2⟩:=lJ (hD t) hk hs c1 c2
   exact ⟨_,_,_,_,hv,g1,h8,xQ g2⟩
 · exact h.elim
def YK (tmps:Array Value):ResultVar→Sem Value
 | .tmp t=>pure (tmps.getD t undef)
 | .cell a t=>do loadVar t (← asAddr (tmps.getD a undef))
def KG (tmps:Array Value):List ResultVar→Sem (List Value)
 | []=>pure []
 | r::rs=>do
  let v ← YK tmps r
  let vs ← KG tmps rs
  pure (v::vs)
theorem Ad (hD:∀ t,iH P t (D t)) (R:Rel base ak w0 S blk a w):∀ (rs:List ResultVar) (K:List PV→Prop),iT D S rs K→
  ∃ vs ps,(KG a.tmps rs).run P w=.ok vs w∧K ps∧b_ (aU w (bZ base S.objs blk) S.objs blk) ps vs
 | [],K,h=>⟨[],[],rfl,h,rfl,fun _ _ _ h=>by simp at h⟩
 | .tmp t::rs,K,h=>by
  obtain ⟨vs,ps,h1,h2,h3,h4⟩:=Ad hD R rs _ h
  refine ⟨a.tmps.getD t undef::vs,S.tmps.getD t .dead::ps,by simp [KG,YK,h1],h2,by simpa using h3,fun i p v hp hv=>?_⟩
  cases i with
  | zero=>
   simp only [List.getElem?_cons_zero,Option.some.injEq] at hp hv
   subst hp;subst hv;exact R.ev (.tmp t)
  | succ i=>exact h4 i p v (by simpa using hp) (by simpa using hv)
 | .cell x t::rs,K,h=>by
  obtain ⟨p0,ad,v0,_,e1,e2,h,e3⟩:=UC hD R h
  obtain ⟨vs,ps,h1,h2,h3,h4⟩:=Ad hD R rs _ h
  refine ⟨v0::vs,p0::ps,by simp [KG,YK,e1,e2,h1,asAddr],h2,by simpa using h3,fun i p v hp hv=>?_⟩
  cases i with
  | zero=>
   simp only [List.getElem?_cons_zero,Option.some.injEq] at hp hv
   subst hp;subst hv;exact e3
  | succ i=>exact h4 i p v (by simpa using hp) (by simpa using hv)
def Ib:List Value→Value
 | [v]=>v
 | vs=>.tuple ⟨vs⟩
end
theorem run_bind_ok {α β:Type}{x:Sem α}{f:α→Sem β}{P:Program}{w w':World}{b:β}(h:(x >>=f).run P w=.ok b w'):∃ c w1,x.run P w=.ok c w1∧(f c).run P w1=.ok b w':=by
 rw [Sem.run_bind] at h
 cases hx:x.run P w with
 | ok c w1=>rw [hx] at h;exact ⟨c,w1,rfl,h⟩
 | halt o w1=>rw [hx] at h;cases h
theorem Dw {fn:Func}{rs:List ResultVar}(h:fn.results=rs.toArray) (hl:rs.length≤3){tmps:Array Value}{vs:List Value}{P:Program}{w:World}
  (hr:(KG tmps rs).run P w=.ok vs w):(results fn tmps).run P w=.ok (Ib vs) w:=by
 have hf:results fn tmps=(fn.results.mapM (YK tmps) >>=fun vs=>pure (if h:vs.size=1 then vs[0] else .tuple vs)):=by
  unfold results
  refine congrArg (fun f:ResultVar→Sem Value=>(Array.mapM f fn.results >>=fun vs=>pure (if h:vs.size=1 then vs[0] else Value.tuple vs):Sem Value)) ?_
  funext r
  cases r <;> rfl
 match rs,hl,h,hr with
 | [],_,h,hr=>
  simp only [KG,Sem.run_pure] at hr
  cases hr
  simp [results,h,Ib]
 | [r1],_,h,hr=>
  simp only [KG] at hr
  obtain ⟨v1,w1,h1,hr⟩:=run_bind_ok hr
  obtain ⟨v2,w2,h2,hr⟩:=run_bind_ok hr
  simp only [Sem.run_pure] at hr h2
  cases h2;cases hr
  rw [hf,h]
  simp [h1,Ib]
 | [r1,r2],_,h,hr=>
  simp only [KG] at hr
  obtain ⟨v1,w1,h1,hr⟩:=run_bind_ok hr
  obtain ⟨v2,w2,h2,hr⟩:=run_bind_ok hr
  obtain ⟨v3,w3,h3,h2⟩:=run_bind_ok h2
  obtain ⟨v4,w4,h4,h2⟩:=run_bind_ok h2
  simp only [Sem.run_pure] at hr h2 h4
  cases h4;cases h2;cases hr
  rw [hf,h]
  simp [h1,h3,Ib]
 | [r1,r2,r3],_,h,hr=>
  simp only [KG] at hr
  obtain ⟨v1,w1,h1,hr⟩:=run_bind_ok hr
  obtain ⟨v2,w2,h2,hr⟩:=run_bind_ok hr
  obtain ⟨v3,w3,h3,h2⟩:=run_bind_ok h2
  obtain ⟨v4,w4,h4,h2⟩:=run_bind_ok h2
  obtain ⟨v5,w5,h5,h4⟩:=run_bind_ok h4
  obtain ⟨v6,w6,h6,h4⟩:=run_bind_ok h4
  simp only [Sem.run_pure] at hr h2 h4 h6
  cases h6;cases h4;cases h2;cases hr
  rw [hf,h]
  simp [h1,h3,h5,Ib]
 | _::_::_::_::_,hl,_,_=>simp at hl
theorem vC {base ak:Nat→Prop}{blk:Nat→Option Nat}{w:World}:dO base ak [] blk w:=
 ⟨fun _ _ h=>by simp at h,fun _ _ _ _ _ _ h=>by simp at h,fun _ _ _ h=>by simp at h⟩
theorem Nv (w:World) (b:Nat) (o:Go.Obj) (k:Nat):(w.putObj b o).heap[k]?=if b=k∧b<w.heap.size then some o else w.heap[k]?:=by
 simp only [World.putObj,Array.getElem?_setIfInBounds]
 by_cases h:b=k
 · subst h
   by_cases h':b<w.heap.size
   · simp [h']
   · simp [h']
 · simp [h]
theorem Rel.takeD {base ak:Nat→Prop}{w0:Wz}{S:St}{blk:Nat→Option Nat}{a:Act}{w:World}(R:Rel base ak w0 S blk a w){b:Nat}{ds:List Deferred}(hd:a.defers={ target:=.collected b,args:=#[] }::ds) :
  w.heap[b]?=some (.deferred (some []))∧Rel base ak w0 S blk { a with defers:=ds } (w.putObj b (.deferred none)):=by
 obtain ⟨Ds,h1,h2,h3⟩:=R.nJ
 rw [hd] at h1
 cases Ds with
 | nil=>simp at h1
 | cons b' Ds=>
  simp only [List.map_cons,List.cons.injEq,Deferred.mk.injEq,Target.collected.injEq,and_true] at h1
  obtain ⟨rfl,rfl⟩:=h1
  obtain ⟨hb,adl,hbp⟩:=h3 b List.mem_cons_self
  have hsz:(w.putObj b (.deferred none)).heap.size=w.heap.size:=by simp [World.putObj]
  have hne:∀ k:Nat,k≠b→(w.putObj b (.deferred none)).heap[k]?=w.heap[k]?:=fun k hk=>by rw [Nv,if_neg (fun e=>hk e.1.symm)]
  have hc:∀ (k:Nat) (x:Go.Obj),w.heap[k]?=some x→iK x→(w.putObj b (.deferred none)).heap[k]?=some x:=by
   rintro k x hk (⟨c,t,y,rfl⟩ | ⟨es,n,rfl⟩)
   · rw [hne k (fun e=>by subst e;rw [hb] at hk;cases hk),hk]
   · rw [hne k (fun e=>by subst e;rw [hb] at hk;cases hk),hk]
  have ho:mI w (w.putObj b (.deferred none)) S.objs S.objs blk blk:=fun k o ho=>⟨o,ho,Nat.le_refl _,fun hl _=>⟨hl,rfl,rfl,rfl,fun _=>rfl,fun g c _ hg=>⟨c,hc g _ hg (.inl ⟨c,_,_,rfl⟩),rfl⟩⟩⟩
  refine ⟨hb,⟨⟨Ds,rfl,(List.nodup_cons.1 h2).2,fun k hk=>?_⟩,R.Ce,fun t p hp=>(R.tm t p hp).qW (Nat.le_of_eq hsz.symm) (fun _ _ h=>h) (fun k x _ hx hcx=>hc k x hx (.inl hcx)) ho,⟨fun k o h1 h4=>?_,R.objs.Jp,R.objs.np⟩,R.pr,fun k hk=>?_,by rw [hsz];exact R.gr,R.pb,fun x hx=>(R.ext x hx).qW (Nat.le_of_eq hsz.symm) (fun _ _ h=>h) (fun k x _ hx hcx=>hc k x hx (.inl hcx)) ho,R.Jr,R.sm.trans ⟨rfl,rfl⟩,R.gl⟩⟩
  · have hkb:k≠b:=fun e=>(List.nodup_cons.1 h2).1 (e ▸ hk)
    rw [hne k hkb]
    exact h3 k (List.mem_cons_of_mem _ hk)
  · have hh:=R.objs.ob k o h1 h4
    unfold bY at hh ⊢
    cases hg:blk k with
    | none=>rw [hg] at hh;exact hh
    | some g=>
     rw [hg] at hh
     obtain ⟨c,x1,x2,x3⟩:=hh
     refine ⟨c,hc g _ x1 (Ac _ _),x2,fun i x hx=>⟨(x3 i x hx).1,fun j p hp=>?_⟩⟩
     obtain ⟨v,y1,y2⟩:=(x3 i x hx).2 j p hp
     exact ⟨v,y1,y2.qW (Nat.le_of_eq hsz.symm) (fun _ _ h=>h) (fun k x _ hx hcx=>hc k x hx (.inl hcx)) ho⟩
  · rw [hne k (fun e=>hbp (e ▸ hk))];exact R.fr k hk
theorem oW {base ak:Nat→Prop}{w0:Wz}{S:St}{blk:Nat→Option Nat}{P:Program}{fn:Func}{Q:Ending→World→Prop}{tm:Array Value}:∀ (ds:List Deferred) (w:World),Rel base ak w0 S blk { tmps:=tm,defers:=ds } w→
  (∀ w',Rel base ak w0 S blk { tmps:=tm,defers:=[] } w'→∃ v,(results fn tm).run P w'=.ok v w'∧Q (.returned v) w')→LeavesInM (EB none) 0 P fn tm Q ds .returning w
 | [],w,R,h=>h w R
 | d::ds,w,R,h=>by
  obtain ⟨Ds,h1,_,_⟩:=R.nJ
  cases Ds with
  | nil=>simp at h1
  | cons b Ds=>
   simp only [List.map_cons,List.cons.injEq] at h1
   obtain ⟨rfl,rfl⟩:=h1
   obtain ⟨hb,R'⟩:=R.takeD (b:=b) rfl
   exact ⟨by simp,.inl ⟨b,_,rfl,run_takeDeferred hb,oW _ _ R' h⟩⟩
def sU:Env:=fun _ _ V=>∀ w0,V w0→w0.xs=[]∧w0.nx=0
theorem FV.acM (h:uH P T.fn) (hy:T.Y=fun _ _ _=>False) (hg:∀ g cap ys,T.gives g cap ys→Gives P g cap ys):FV P none sU T:=
 ⟨h,fun _ _ _ _ _ _ _ _ _ _ _ _ _ _ h=>by rw [hy] at h;exact h.elim,fun _ _ _ hE w0 hw=>by rw [(hE w0 hw).2];exact Nat.zero_le _,fun _=>⟨rfl,fun _ _ _ hE w0 hw=>(hE w0 hw).1⟩,hg⟩
def bT (args:List PV) (n:Nat):St:=⟨args++List.replicate (n-args.length) .dead,[]⟩
theorem Cs {base:Nat→Prop}{w:World}{blk:Nat→Option Nat}{args:List PV}{vs:List Value}(hb:qE.holds w.heap∧∀ b,w.heap.size≤b→base b) (h:b_ (aU w (bZ base [] blk) [] blk) args vs) (n:Nat) :
  Rel base (fun b=>b<w.heap.size∧aV [] blk b) ⟨w.heap,[],0,w⟩ (bT args n) blk { tmps:=(⟨vs⟩:Array Value)++Array.replicate (n-(⟨vs⟩:Array Value).size) undef,defers:=[] } w:=by
 have hl:=h.1
 refine ⟨.nil _ _,?_,fun t p hp=>?_,vC,fun b hb=>hb.1,fun _ _=>rfl,Nat.le_refl _,fun b hn=>hb.2 b ?_,fun x hx=>by simp at hx,fun x hx=>by simp at hx,.refl w,⟨hb.1,fun b hg=>⟨qE.lt hb.1 b hg,dP _ _⟩⟩⟩
 · simp [bT,hl]
 · simp only [bT] at hp
   rw [List.getElem?_append] at hp
   split at hp
   · rename_i ht
     obtain ⟨v,hv⟩:∃ v,vs[t]?=some v:=⟨vs[t]'(by omega),List.getElem?_eq_getElem (by omega)⟩
     have hg:((⟨vs⟩:Array Value)++Array.replicate (n-(⟨vs⟩:Array Value).size) undef).getD t undef=v:=by
      rw [Array.getD_eq_getD_getElem?,Array.getElem?_append,if_pos (by simpa using (by omega:t<vs.length))]
      simp [hv]
     rw [hg]
     exact h.2 t p v hp hv
   · rw [List.getElem?_replicate] at hp
     split at hp
     · cases hp;exact .dead _
     · cases hp
 · rcases Nat.lt_or_ge b w.heap.size with h1 | h1
   · exact absurd ⟨h1,dP blk b⟩ hn
   · exact h1
theorem YL {w:World}{ok:Nat→Prop}{f:PV→PV}{ps:List PV}{vs:List Value}{R:PV→Value→Prop}(h:b_ R ps vs) (hf:∀ p v,R p v→dA w ok (f p) v):dA w ok (eO (ps.map f)) (Ib vs):=by
 obtain ⟨hl,h⟩:=h
 match ps,vs,hl,h with
 | [p],[v],_,h=>exact hf p v (h 0 p v rfl rfl)
 | [],[],_,_=>exact .bV [] [] rfl (fun _ _ _ h=>by simp at h)
 | p::p'::ps,v::v'::vs,hl,h=>
  refine .bV _ _ (by simpa using hl) fun i q u hq hu=>?_
  rw [← List.map_cons,List.getElem?_map] at hq
  cases hc:(p::p'::ps)[i]? with
  | none=>rw [hc] at hq;simp at hq
  | some q0=>
   rw [hc] at hq
   simp only [Option.map_some,Option.some.injEq] at hq
   subst hq
   exact hf q0 u (h i q0 u hc hu)
theorem ah.EK {f:FuncId}{fn:Func}{c:Code}{C:LC}{args:List PV}{r:PV}(d:Nat){rs:List ResultVar}{n:Nat}(hD:∀ t,iH P t (D t)) (hT:FV P none sU T) (hm:P.follows .mixedOrders=true)
  (hf:P.funcs[f]?=some fn) (hname:(fn.name== "runtime.NumGoroutine")=false) (hb:fn.body=some c) (hn:fn.ntmps=n) (hr:fn.results=rs.toArray) (hl:rs.length≤3) (hC:strip C=comp c)
  (h:kr P D T C (UB D d rs r) (bT args n)):ah P f args [] r []:=by
 refine ⟨⟨fn,hf,hname,by rw [hb];rfl⟩,fun w blk vs base hbase _ hargs=>?_⟩
 have hpw:PW P none sU c (UB D d rs r) (bT args n):=rA hD hm C _ _ _ c _ _ hT hC h
 have R:=Cs hbase hargs n
 have hw:=hpw _ _ (fun x=>(⟨w.heap,[],0,w⟩:Wz)=x) (by rintro z rfl;exact ⟨rfl,rfl⟩) _ _ _ ⟨_,rfl,R⟩
 rw [← callsIn_wide (n:=0)]
 refine callsIn_of_wp_marks hf hb trivial ?_
 rw [hn]
 refine wpIn_mono hw ?_
 rintro e a' w' ⟨S',av,⟨he,ho⟩,_,rfl,R'⟩
 have key:∀ w',Rel base (fun b=>b<w.heap.size∧aV [] blk b) ⟨w.heap,[],0,w⟩ S' av { a' with defers:=[] } w'→∃ v,(results fn a'.tmps).run P w'=.ok v w'∧(∃ v' av,Ending.returned v=.returned v'∧dO base (fun b=>b<w.heap.size∧aV [] blk b) [] av w'∧
     aU w' (bZ base [] av) [] av r v'∧(∀ b,b<w.heap.size→aV [] blk b→w'.heap[b]?=w.heap[b]?)∧w.heap.size≤w'.heap.size∧Sm w w'):=by
  intro w' R'
  obtain ⟨vs',ps,h1,h2,h3⟩:=Ad hD R' rs _ ho
  refine ⟨Ib vs',Dw hr hl h1,Ib vs',av,rfl,vC,?_,fun b hb1 hb2=>R'.fr b ⟨hb1,hb2⟩,R'.gr,R'.sm⟩
  rw [h2]
  exact .aJ ((YL h3 (fun p v h=>acL R' d p v h)).nY fun b _ h=>⟨h,dP _ _⟩)
 rcases he with rfl | rfl <;> exact oW _ _ R' key
def nN (d k:Nat) (S:St) (o:Obj):Obj:={ fO d (k+1) S.objs o with ver:=0 }
theorem JG {base ak:Nat→Prop}{w0:Wz}{S':St}{av:Nat→Option Nat}{a:Act}{w':World}{d k:Nat}{o:Obj}(R':Rel base ak w0 S' av a w') (ho:S'.objs[k]?=some o) (hlv:o.live=true) (hnr:eP [nN d k S' o]) :
  dO base ak [nN d k S' o] (fun j=>if j=0 then av k else none) w'∧
  ∀ v,bK w' (bZ base S'.objs av) S'.objs av (.aX k o.ver) v→bK w' (bZ base [nN d k S' o] (fun j=>if j=0 then av k else none)) [nN d k S' o] (fun j=>if j=0 then av k else none) (.aX 0 0) v:=by
 unfold nN at hnr ⊢
 refine ⟨⟨?_,?_,?_⟩,fun v hx=>?_⟩
 · intro j o1 hj hl1
   cases j with
   | succ j=>simp at hj
   | zero=>
    simp only [List.getElem?_cons_zero,Option.some.injEq] at hj
    subst hj
    have hb:=R'.objs.ob k o ho hlv
    unfold bY at hb ⊢
    simp only [if_true]
    cases hg:av k with
    | none=>rw [hg] at hb;simp [fO,hb]
    | some g=>
     rw [hg] at hb
     obtain ⟨c',hc,h7,h8⟩:=hb
     refine ⟨c',hc,by simpa [fO,fits] using h7,fun i x hx=>?_⟩
     simp only [fO,List.getElem?_map] at hx
     cases hx0:o.xs[i]? with
     | none=>rw [hx0] at hx;simp at hx
     | some x0=>
      rw [hx0] at hx
      simp only [Option.map_some,Option.some.injEq] at hx
      subst hx
      have e:=lQ (SX d (k+1) S'.objs) x0
      refine ⟨by rw [e,List.length_map];exact (h8 i x0 hx0).1,fun j p hp=>?_⟩
      rw [e,List.getElem?_map] at hp
      cases hp0:x0.cells[j]? with
      | none=>rw [hp0] at hp;simp at hp
      | some p0=>
       rw [hp0] at hp
       simp only [Option.map_some,Option.some.injEq] at hp
       subst hp
       obtain ⟨u,hu,hrr⟩:=(h8 i x0 hx0).2 j p0 hp0
       refine ⟨u,hu,?_⟩
       have h9:=pJ R' d (k+1) p0 u hrr
       have h10:(eY d (k+1) S'.objs p0).ref=false:=by
        refine hnr _ List.mem_cons_self (x0.bF (eY d (k+1) S'.objs)) ?_ _ ?_
        · simp only [fO,List.mem_map];exact ⟨x0,List.mem_of_getElem? hx0,rfl⟩
        · rw [e];exact List.mem_map.2 ⟨p0,List.mem_of_getElem? hp0,rfl⟩
       refine .aJ ((h9.yt h10).nY fun b _ hb=>⟨hb.1,fun k' o' hk' _=>?_⟩)
       cases k' with
       | succ k'=>simp at hk'
       | zero=>
        simp only [if_true]
        rw [← hg]
        refine hb.2 k (fO d (k+1) S'.objs o) ?_ hlv
        simp [St.freeze,ho]
 · intro j j' o1 o2 g hne h1 h2 h3 h4
   cases j <;> cases j' <;> simp at h1 h3
   exact absurd rfl hne
 · intro j o1 g h1 h2 h3
   cases j with
   | succ j=>simp at h1
   | zero=>simp only [if_true] at h3;exact R'.objs.np k o g ho hlv h3
 · obtain ⟨h0,o1,h1,h2,h3⟩:=hx
   rw [ho] at h1
   cases h1
   obtain ⟨hM,hh⟩:=h3 hlv rfl
   refine ⟨h0,_,rfl,Nat.le_refl _,fun _ _=>⟨hM,?_⟩⟩
   unfold zQ at hh ⊢
   simp only [if_true]
   cases hg:av k with
   | none=>rw [hg] at hh;exact ⟨hh.1,by simp [fO,hh.2]⟩
   | some g=>rw [hg] at hh;simpa [fO] using hh
theorem ah.UD {f:FuncId}{fn:Func}{c:Code}{C:LC}{args:List PV}{o':Obj}(d:Nat){t n:Nat}(hD:∀ t,iH P t (D t)) (hT:FV P none sU T) (hm:P.follows .mixedOrders=true)
  (hf:P.funcs[f]?=some fn) (hname:(fn.name== "runtime.NumGoroutine")=false) (hb:fn.body=some c) (hn:fn.ntmps=n) (hr:fn.results=#[.tmp t]) (hC:strip C=comp c)
  (h:kr P D T C (Qu d t o') (bT args n)):ah P f args [] (.aX 0 0) [o']:=by
 refine ⟨⟨fn,hf,hname,by rw [hb];rfl⟩,fun w blk vs base hbase _ hargs=>?_⟩
 have hpw:PW P none sU c (Qu d t o') (bT args n):=rA hD hm C _ _ _ c _ _ hT hC h
 have R:=Cs hbase hargs n
 have hw:=hpw _ _ (fun x=>(⟨w.heap,[],0,w⟩:Wz)=x) (by rintro z rfl;exact ⟨rfl,rfl⟩) _ _ _ ⟨_,rfl,R⟩
 rw [← callsIn_wide (n:=0)]
 refine callsIn_of_wp_marks hf hb trivial ?_
 rw [hn]
 refine wpIn_mono hw ?_
 rintro e a' w' ⟨S0,YE,⟨he,S',k,ver,o,hwk,ht,ho,hlv,hv,rfl,hnr⟩,_,rfl,R0⟩
 obtain ⟨av,R'⟩:=hwk _ _ _ _ _ _ (Nat.le_refl _) R0
 have key:∀ w',Rel base (fun b=>b<w.heap.size∧aV [] blk b) ⟨w.heap,[],0,w⟩ S' av { a' with defers:=[] } w'→∃ v,(results fn a'.tmps).run P w'=.ok v w'∧(∃ v' pG,Ending.returned v=.returned v'∧
     dO base (fun b=>b<w.heap.size∧aV [] blk b) [nN d k S' o] pG w'∧
     aU w' (bZ base [nN d k S' o] pG) [nN d k S' o] pG (.aX 0 0) v'∧(∀ b,b<w.heap.size→aV [] blk b→w'.heap[b]?=w.heap[b]?)∧w.heap.size≤w'.heap.size∧Sm w w'):=by
  intro w' R'
  have hx:=R'.ev (.tmp t)
  change aU w' _ _ av (S'.tmps.getD t .dead) (a'.tmps.getD t undef) at hx
  rw [ht,← hv] at hx
  obtain ⟨c1,c2⟩:=JG (d:=d) R' ho hlv hnr
  exact ⟨_,results_tmp hr _ _ _,a'.tmps.getD t undef,_,rfl,c1,c2 _ hx,fun b hb1 hb2=>R'.fr b ⟨hb1,hb2⟩,R'.gr,R'.sm⟩
 rcases he with rfl | rfl <;> exact oW _ _ R' key
def YM (D:TypeId→aG) (d:Nat) (rs:List ResultVar) (qs:List PV) (o':Obj) (e:Exit) (S:St):Prop:=
 (e=.normal∨e=.ret)∧∃ S' k o,Weak 0 S S'∧iT D S' rs (fun ps=>ps=.aX k o.ver::qs)∧S'.objs[k]?=some o∧o.live=true∧nN d k S' o=o'∧eP [o']∧qs.all PV.atom=true
theorem ah.Qv {f:FuncId}{fn:Func}{c:Code}{C:LC}{args:List PV}{o':Obj}(d:Nat){rs:List ResultVar}{n:Nat}{qs:List PV}(hD:∀ t,iH P t (D t)) (hT:FV P none sU T) (hm:P.follows .mixedOrders=true)
  (hf:P.funcs[f]?=some fn) (hname:(fn.name== "runtime.NumGoroutine")=false) (hb:fn.body=some c) (hn:fn.ntmps=n) (hr:fn.results=rs.toArray) (hl:rs.length≤3) (hC:strip C=comp c)
  (h:kr P D T C (YM D d rs qs o') (bT args n)):ah P f args [] (eO (.aX 0 0::qs)) [o']:=by
 refine ⟨⟨fn,hf,hname,by rw [hb];rfl⟩,fun w blk vs base hbase _ hargs=>?_⟩
 have hpw:PW P none sU c (YM D d rs qs o') (bT args n):=rA hD hm C _ _ _ c _ _ hT hC h
 have R:=Cs hbase hargs n
 have hw:=hpw _ _ (fun x=>(⟨w.heap,[],0,w⟩:Wz)=x) (by rintro z rfl;exact ⟨rfl,rfl⟩) _ _ _ ⟨_,rfl,R⟩
 rw [← callsIn_wide (n:=0)]
 refine callsIn_of_wp_marks hf hb trivial ?_
 rw [hn]
 refine wpIn_mono hw ?_
 rintro e a' w' ⟨S0,YE,⟨he,S',k,o,hwk,hout,ho,hlv,rfl,hnr,hq⟩,_,rfl,R0⟩
 obtain ⟨av,R'⟩:=hwk _ _ _ _ _ _ (Nat.le_refl _) R0
 have key:∀ w',Rel base (fun b=>b<w.heap.size∧aV [] blk b) ⟨w.heap,[],0,w⟩ S' av { a' with defers:=[] } w'→∃ v,(results fn a'.tmps).run P w'=.ok v w'∧(∃ v' pG,Ending.returned v=.returned v'∧
     dO base (fun b=>b<w.heap.size∧aV [] blk b) [nN d k S' o] pG w'∧
     aU w' (bZ base [nN d k S' o] pG) [nN d k S' o] pG (eO (.aX 0 0::qs)) v'∧(∀ b,b<w.heap.size→aV [] blk b→w'.heap[b]?=w.heap[b]?)∧w.heap.size≤w'.heap.size∧Sm w w'):=by
  intro w' R'
  obtain ⟨vs',ps,h1,h2,h3⟩:=Ad hD R' rs _ hout
  subst h2
  obtain ⟨c1,c2⟩:=JG (d:=d) R' ho hlv hnr
  refine ⟨Ib vs',Dw hr hl h1,Ib vs',_,rfl,c1,?_,fun b hb1 hb2=>R'.fr b ⟨hb1,hb2⟩,R'.gr,R'.sm⟩
  obtain ⟨hl3,h3⟩:=h3
  match vs',qs,hl3,h3,hq with
  | [v],[],_,h3,_=>exact c2 v (h3 0 _ v rfl rfl)
  | v::v'::vs,q::qs,hl3,h3,hq=>
   refine ⟨v::v'::vs,rfl,by simpa using hl3,fun i p u hp hu=>?_⟩
   cases i with
   | zero=>cases hp;cases hu;exact c2 _ (h3 0 _ _ rfl rfl)
   | succ i=>
    have hp':(q::qs)[i]?=some p:=hp
    have ha:=List.all_eq_true.1 hq p (List.mem_of_getElem? hp')
    have h5:=h3 (i+1) p u hp hu
    refine Fx ha (w:=w') (ok:=bZ base S'.objs av) (objs:=S'.objs) (blk:=av) ?_
    cases p <;> first | exact h5 | (simp [PV.atom] at ha)
 rcases he with rfl | rfl <;> exact oW _ _ R' key
def WM (n:Nat) (I J:Nat→List Obj→Prop) (e:Exit) (S:St):Prop:=(e=.normal∨e=.ret)∧(I n S.objs∨∃ i,i<n∧J i S.objs)
def FW (fn:Tab) (y:Nat) (Y:YT) (nx:Nat):Know:=⟨fn,y,Y,false,fun _ _ _=>False,nx⟩
theorem Gives.EK {f:FuncId}{fn:Func}{c:Code}{C:LC}{cap:List PV}{ys:List (List PV)}{n:Nat}{fnT:Tab}(hD:∀ t,iH P t (D t)) (hT:uH P fnT) (hm:P.follows .mixedOrders=true)
  (hf:P.funcs[f]?=some fn) (hname:(fn.name== "runtime.NumGoroutine")=false) (hb:fn.body=some c) (hn:fn.ntmps=n) (hr:fn.results=#[]) (hC:strip C=comp c)
  (h:∀ (I J:Nat→List Obj→Prop) (objs:List Obj) (y:Nat),I 0 objs→(∀ i O,I i O→objs.length≤O.length∧jq O)→(∀ i O,J i O→objs.length≤O.length∧jq O)→
   kr P D (FW fnT y (VP ys I J) objs.length) C (WM ys.length I J) ⟨(bT (.D8 y::cap) n).tmps,objs⟩):Gives P f cap ys:=by
 refine ⟨⟨fn,hf,hname,by rw [hb];rfl⟩,fun I J base ak V y objs blk w Ia hY hnx hR hI0 Hl VQ hcap=>?_⟩
 obtain ⟨w0,hV,R⟩:=hR
 let E:Env:=fun base' xU V'=>base'=base∧xU=ak∧V'=V
 have hk:FV P none E (FW fnT y (VP ys I J) objs.length):=
  ⟨hT,by rintro b p v ⟨rfl,rfl,rfl⟩;exact hY,by rintro b p v ⟨rfl,rfl,rfl⟩;exact hnx,(fun h=>by cases h),fun _ _ _ h=>h.elim⟩
 have hpw:PW P none E c (WM ys.length I J) ⟨(bT (.D8 y::cap) n).tmps,objs⟩:=rA hD hm C _ _ _ c _ _ hk hC (h I J objs y hI0 Hl VQ)
 have hargs:b_ (aU w (bZ base objs blk) objs blk) (.D8 y::cap) (.func (.yield y) #[] #[]::Ia):=by
  refine ⟨by simpa using hcap.1,fun i p v hp hv=>?_⟩
  cases i with
  | zero=>
   simp only [List.getElem?_cons_zero,Option.some.injEq] at hp hv
   subst hp;subst hv
   exact .aJ (.D8 y)
  | succ i=>exact .aJ (hcap.2 i p v (by simpa using hp) (by simpa using hv))
 have R1:Rel base ak w0 ⟨(bT (.D8 y::cap) n).tmps,objs⟩ blk { tmps:=(⟨.func (.yield y) #[] #[]::Ia⟩:Array Value)++Array.replicate (n-(⟨.func (.yield y) #[] #[]::Ia⟩:Array Value).size) undef,defers:=[] } w:=by
  have hl:=hargs.1
  refine ⟨.nil _ _,?_,fun t p hp=>?_,R.objs,R.pr,R.fr,R.gr,R.pb,R.ext,R.Jr,R.sm,R.gl⟩
  · simp only [bT,Array.size_append,Array.size_replicate,List.length_append,List.length_replicate,hl]
    simp
  · simp only [bT] at hp
    rw [List.getElem?_append] at hp
    split at hp
    · rename_i ht
      obtain ⟨v,hv⟩:∃ v,(Value.func (.yield y) #[] #[]::Ia)[t]?=some v:=⟨_,List.getElem?_eq_getElem (by omega)⟩
      have hg:((⟨.func (.yield y) #[] #[]::Ia⟩:Array Value)++Array.replicate (n-(⟨.func (.yield y) #[] #[]::Ia⟩:Array Value).size) undef).getD t undef=v:=by
       rw [Array.getD_eq_getD_getElem?,Array.getElem?_append,if_pos (by simpa using (by rw [← hl];exact ht:t<(Value.func (.yield y) #[] #[]::Ia).length))]
       simp [hv]
      rw [hg]
      exact hargs.2 t p v hp hv
    · rw [List.getElem?_replicate] at hp
      split at hp
      · cases hp;exact .dead _
      · cases hp
 have hw:=hpw base ak V ⟨rfl,rfl,rfl⟩ blk _ w ⟨w0,hV,R1⟩
 rw [← callsIn_wide (n:=0)]
 refine callsIn_of_wp_marks hf hb trivial ?_
 rw [hn]
 refine wpIn_mono hw ?_
 rintro e a' w' ⟨S',av,⟨he,hI⟩,w0',hV',R'⟩
 have key:∀ w'',Rel base ak w0' S' av { a' with defers:=[] } w''→∃ v,(results fn a'.tmps).run P w''=.ok v w''∧(∃ objs' pG,Ending.returned v=.returned (.tuple #[])∧(I ys.length objs'∨∃ i,i<ys.length∧J i objs')∧qd base ak V ⟨[],objs'⟩ pG WA w''):=by
  intro w'' R''
  refine ⟨_,results_none hr _ _ _,S'.objs,av,rfl,hI,w0',hV',.nil _ _,rfl,fun t p hp=>by simp at hp,R''.objs,R''.pr,R''.fr,R''.gr,R''.pb,R''.ext,R''.Jr,R''.sm,R''.gl⟩
 rcases he with rfl | rfl <;> exact oW _ _ R' key
theorem UE {w:World}{ok:Nat→Prop}{sz:Nat}{xs:List PV}{v:Value}(h:dA w ok (.sl sz xs none) v):(xs=[]∧dA w ok (.sl sz xs (some true)) v)∨dA w ok (.sl sz xs (some false)) v:=by
 cases h with
 | slnil _ _ _=>exact .inl ⟨rfl,.slnil _ _ (by simp)⟩
 | Hw _ _ _ a cap hc=>exact .inr (.Hw _ _ (by simp) a cap hc)
 | sl _ _ _ _ b off cap vs h1 h2 h3 h4 h5 h6=>exact .inr (.sl _ _ _ (by simp) b off cap vs h1 h2 h3 h4 h5 h6)
theorem ah.split {f:FuncId}{pre post:List PV}{sz:Nat}{xs:List PV}{r:PV}{os:List Obj}(h1:xs=[]→ah P f (pre++.sl sz [] (some true)::post) [] r os) (h2:ah P f (pre++.sl sz xs (some false)::post) [] r os) :
  ah P f (pre++.sl sz xs none::post) [] r os:=by
 refine ⟨h2.1,fun w blk vs base hb ho hargs=>?_⟩
 have key:∀ p:PV,(∀ v,aU w (bZ base [] blk) [] blk (.sl sz xs none) v→vs[pre.length]?=some v→aU w (bZ base [] blk) [] blk p v)→b_ (aU w (bZ base [] blk) [] blk) (pre++p::post) vs:=by
  intro p hp
  refine ⟨by have:=hargs.1;simpa using this,fun i q u hq hu=>?_⟩
  rw [List.getElem?_append] at hq
  by_cases hi:i<pre.length
  · rw [if_pos hi] at hq
    exact hargs.2 i q u (by rw [List.getElem?_append,if_pos hi];exact hq) hu
  · rw [if_neg hi] at hq
    by_cases he:i=pre.length
    · subst he
      simp only [Nat.sub_self,List.getElem?_cons_zero,Option.some.injEq] at hq
      subst hq
      exact hp u (hargs.2 pre.length _ u (by rw [List.getElem?_append,if_neg (by omega)];simp) hu) hu
    · refine hargs.2 i q u ?_ hu
      rw [List.getElem?_append,if_neg hi]
      obtain ⟨j,hj⟩:∃ j,i-pre.length=j+1:=⟨i-pre.length-1,by omega⟩
      rw [hj] at hq ⊢
      simpa using hq
 have hlt:pre.length<vs.length:=by have:=hargs.1;simp at this;omega
 have hr:dA w (bZ base [] blk) (.sl sz xs none) (vs[pre.length]):=hargs.2 pre.length (.sl sz xs none) _ (by simp) (List.getElem?_eq_getElem hlt)
 rcases UE hr with ⟨rfl,hr⟩ | hr
 · exact (h1 rfl).2 w blk vs base hb ho (key _ fun v _ hv=>by rw [List.getElem?_eq_getElem hlt] at hv;cases hv;exact hr)
 · exact h2.2 w blk vs base hb ho (key _ fun v _ hv=>by rw [List.getElem?_eq_getElem hlt] at hv;cases hv;exact hr)
theorem ah.WN {f:FuncId}{args:List PV}{r r':PV}(h:ah P f args [] r []) (hr:∀ w ok v,dA w ok r v→dA w ok r' v):ah P f args [] r' []:=by
 refine ⟨h.1,fun w blk vs base hb ho hargs=>Calls.mono (h.2 w blk vs base hb ho hargs) ?_⟩
 rintro e w' ⟨v,av,h1,h2,h3,h4,h5⟩
 exact ⟨v,av,h1,h2,.aJ (hr _ _ _ (vB h3)),h4,h5⟩
theorem KH {w:World}{ok:Nat→Prop}{s s':Nat}{q:Option Bool}{v:Value}(h:dA w ok (.sl s [] (some true)) v) (hq:q≠some false):dA w ok (.sl s' [] q) v:=by
 cases h with
 | slnil _ _ _=>exact .slnil _ _ hq
 | Hw _ _ hq'=>exact absurd rfl hq'
 | sl _ _ _ hq'=>exact absurd rfl hq'
end Lp
namespace Lp
open Go
def aN (P:Program) (f:FuncId) (n:Nat) (rs:List ResultVar) (C:LC):Prop:=
 ∃ fn c,P.funcs[f]?=some fn∧(fn.name== "runtime.NumGoroutine")=false∧fn.body=some c∧fn.ntmps=n∧fn.results=rs.toArray∧strip C=comp c
abbrev dF:=List PV→List Obj→KT→Prop
def aD (P:Program) (f:FuncId) (c:dF):Prop:=∀ args objs K,c args objs K→∃ r objs' t,lM P f args objs r objs' t∧K r objs' t
def sV:List (FuncId×dF)→Tab
 | [],_,_,_,_=>False
 | (g,c)::l,f,args,objs,K=>bif f==g then c args objs K else sV l f args objs K
def aO (P:Program) (l:List (FuncId×dF)):Know:=⟨sV l,0,fun _ _ _=>False,true,Gives P,0⟩
theorem ai {P:Program}:uH P (sV []):=fun _ _ _ _ h=>h.elim
theorem af {P:Program}{g:FuncId}{c:dF}{l:List (FuncId×dF)}(h:aD P g c) (hl:uH P (sV l)):uH P (sV ((g,c)::l)):=by
 intro f args objs K hh
 unfold sV at hh
 cases he:f==g with
 | true=>
  rw [he] at hh
  have:f=g:=by simpa using he
  subst this
  exact h args objs K hh
 | false=>rw [he] at hh;exact hl f args objs K hh
theorem aj {P:Program}{l:List (FuncId×dF)}(h:uH P (sV l)):FV P none sU (aO P l):=.acM h rfl fun _ _ _ h=>h
variable {P:Program}{D:TypeId→aG}{T:Know}
theorem aN.pure {f:FuncId}{n:Nat}{rs:List ResultVar}{C:LC}{args:List PV}{r:PV}(h:aN P f n rs C) (d:Nat) (hD:∀ t,iH P t (D t)) (hT:FV P none sU T) (hm:P.follows .mixedOrders=true) (hl:rs.length≤3)
  (hw:kr P D T C (UB D d rs r) (bT args n)):ah P f args [] r []:=by
 obtain ⟨fn,c,h1,h2,h3,h4,h5,h6⟩:=h
 exact ah.EK d hD hT hm h1 h2 h3 h4 h5 hl h6 hw
theorem aN.made {f:FuncId}{n t:Nat}{C:LC}{args:List PV}{o':Obj}(h:aN P f n [.tmp t] C) (d:Nat) (hD:∀ t,iH P t (D t)) (hT:FV P none sU T) (hm:P.follows .mixedOrders=true)
  (hw:kr P D T C (Qu d t o') (bT args n)):ah P f args [] (.aX 0 0) [o']:=by
 obtain ⟨fn,c,h1,h2,h3,h4,h5,h6⟩:=h
 exact ah.UD d hD hT hm h1 h2 h3 h4 h5 h6 hw
theorem aN.abH {f:FuncId}{n:Nat}{rs:List ResultVar}{C:LC}{args:List PV}{qs:List PV}{o':Obj}(h:aN P f n rs C) (d:Nat) (hD:∀ t,iH P t (D t)) (hT:FV P none sU T) (hm:P.follows .mixedOrders=true) (hl:rs.length≤3)
  (hw:kr P D T C (YM D d rs qs o') (bT args n)):ah P f args [] (eO (.aX 0 0::qs)) [o']:=by
 obtain ⟨fn,c,h1,h2,h3,h4,h5,h6⟩:=h
 exact ah.Qv d hD hT hm h1 h2 h3 h4 h5 hl h6 hw
theorem aN.gives {f:FuncId}{n:Nat}{C:LC}{cap:List PV}{ys:List (List PV)}{fnT:Tab}(h:aN P f n [] C) (hD:∀ t,iH P t (D t)) (hT:uH P fnT) (hm:P.follows .mixedOrders=true)
  (hw:∀ (I J:Nat→List Obj→Prop) (objs:List Obj) (y:Nat),I 0 objs→(∀ i O,I i O→objs.length≤O.length∧jq O)→(∀ i O,J i O→objs.length≤O.length∧jq O)→
   kr P D (FW fnT y (VP ys I J) objs.length) C (WM ys.length I J) ⟨(bT (.D8 y::cap) n).tmps,objs⟩):Gives P f cap ys:=by
 obtain ⟨fn,c,h1,h2,h3,h4,h5,h6⟩:=h
 exact Gives.EK hD hT hm h1 h2 h3 h4 h5 h6 hw
def mkT (n:Nat) (l:List (Nat×PV)):List PV:=l.foldl (fun tm x=>tm.set x.1 x.2) (List.replicate n .dead)
def kR (v:PV) (d:Nat) (want:Bool) (S:St) (X Y:St→Prop):Prop:=
 match v with
 | .bool b=>(b=want→X { S with tmps:=S.tmps.set d (.bool want) })∧(b=!want→Y { S with tmps:=S.tmps.set d (.bool !want) })
 | .bV []=>Y S
 | _=>False
def noTwo:List Nat→Bool
 | []=>true
 | t::ts=>co t !=2 && noTwo ts
theorem Ct:∀ (ts:List Nat) (i:Nat),noTwo ts=true→co (ts.getD i 0)≠2
 | [],i,_=>by simp [co]
 | t::ts,i,h=>by
  simp only [noTwo,Bool.and_eq_true,bne_iff_ne,ne_eq] at h
  cases i with
  | zero=>simpa using h.1
  | succ i=>simpa using Ct ts i h.2
theorem KI (un ts:List Nat):(mP un ts=true)=((noTwo ts || mP un ts)=true):=by
 cases h:noTwo ts with
 | false=>rfl
 | true=>
  have:pK un ts=true:=by
   unfold pK
   rw [List.all_eq_true]
   intro i _
   simp only [Bool.or_eq_true,List.all_eq_true]
   right
   intro j _
   have h1:=Ct ts i h
   have h2:=Ct ts j h
   simp only [beq_eq_false_iff_ne.2 h1,beq_eq_false_iff_ne.2 h2,Bool.false_and,Bool.or_false,Bool.not_false,or_true]
  simp [mP,this]
theorem Ae :
  (∀ (Q:Exit→St→Prop) S,kr P D T .skip Q S=Q .normal S)∧
  (∀ (Q:Exit→St→Prop) S,kr P D T .ret Q S=Q .ret S)∧
  (∀ id (Q:Exit→St→Prop) S,kr P D T (.exit id) Q S=Q (.exit id) S)∧
  (∀ ss (Q:Exit→St→Prop) S,kr P D T (.reg ss) Q S=LR P D T ss S [] fun S' _=>Q .normal S')∧
  (∀ ss un (Q:Exit→St→Prop) S,kr P D T (.draw ss un) Q S=LR P D T.ZE ss S [] fun S' ts=>(noTwo ts || mP un ts)=true∧Q .normal S')∧
  (∀ a b (Q:Exit→St→Prop) S,kr P D T (.seq a b) Q S=kr P D T a (thenS (fun S'=>kr P D T b Q S') Q) S)∧
  (∀ c a b (Q:Exit→St→Prop) S,kr P D T (.cond c a b) Q S=xW (S.ev c) (kr P D T a Q S) (kr P D T b Q S))∧
  (∀ id c (Q:Exit→St→Prop) S,kr P D T (.block id c) Q S=kr P D T c (qH id Q) S):=by
 refine ⟨fun _ _=>rfl,fun _ _=>rfl,fun _ _ _=>rfl,fun _ _ _=>rfl,fun ss un Q S=>?_,fun _ _ _ _=>rfl,fun _ _ _ _ _=>rfl,fun _ _ _ _=>rfl⟩
 simp only [← KI]
 rfl
theorem yC :
  (∀ (n:St→Prop) (Q:Exit→St→Prop) S,thenS n Q .normal S=n S)∧
  (∀ (n:St→Prop) (Q:Exit→St→Prop) S,thenS n Q .ret S=Q .ret S)∧
  (∀ (n:St→Prop) (Q:Exit→St→Prop) S id,thenS n Q (.exit id) S=Q (.exit id) S)∧
  (∀ (Q:Exit→St→Prop) S id,qH id Q .normal S=Q .normal S)∧
  (∀ (Q:Exit→St→Prop) S id,qH id Q .ret S=Q .ret S)∧
  (∀ (Q:Exit→St→Prop) S id id',qH id Q (.exit id') S=if id'=id then Q .normal S else Q (.exit id') S)∧
  (∀ b X Y,xW (.bool b) X Y=((b=true→X)∧(b=false→Y))):=
 ⟨fun _ _ _=>rfl,fun _ _ _=>rfl,fun _ _ _ _=>rfl,fun _ _ _=>rfl,fun _ _ _=>rfl,fun _ _ _ _=>rfl,fun _ _ _=>rfl⟩
theorem Cu :
  (∀ S ts (K:St→List Nat→Prop),LR P D T [] S ts K=K S ts)∧
  (∀ d o g w rest S ts (K:St→List Nat→Prop),LR P D T (⟨d,o,g,w⟩::rest) S ts K=vk g S
   (fun S=>lu P D T w (S.tmps.all PV.pure) S.ev S.objs o fun r objs' t=>LR P D T rest (St.put ⟨S.tmps,objs'⟩ d r) (ts++[t]) K)
   (fun S=>LR P D T rest (S.put d (.bV [])) (ts++[0]) K)):=⟨fun _ _ _=>rfl,fun _ _ _ _ _ _ _ _=>rfl⟩
theorem Cv :
  (∀ (S:St) (X Y:St→Prop),vk none S X Y=X S)∧
  (∀ d w (S:St) (X Y:St→Prop),vk (some (some d,w)) S X Y=kR (S.tmps.getD d .dead) d w S X Y)∧
  (∀ b d w (S:St) (X Y:St→Prop),kR (.bool b) d w S X Y=((b=w→X { S with tmps:=S.tmps.set d (.bool w) })∧(b=!w→Y { S with tmps:=S.tmps.set d (.bool !w) })))∧
  (∀ d w (S:St) (X Y:St→Prop),kR (.bV []) d w S X Y=Y S):=⟨fun _ _ _=>rfl,fun _ _ _ _ _=>rfl,fun _ _ _ _ _ _=>rfl,fun _ _ _ _ _=>rfl⟩
theorem yD :
  (∀ tm ob d p,St.put ⟨tm,ob⟩ (some d) p=⟨tm.set d p,ob⟩)∧
  (∀ tm ob p,St.put ⟨tm,ob⟩ none p=⟨tm,ob⟩)∧
  (∀ tm ob t,St.ev ⟨tm,ob⟩ (.tmp t)=tm.getD t .dead)∧
  (∀ (S:St) v,S.ev (.const v)=.uW v)∧
  (∀ (S:St) f,S.ev (.func f)=.fn f [] [])∧
  (∀ k n,PV.uW (.int k n)=.int k n)∧(∀ b,PV.uW (.bool b)=.bool b)∧(∀ l,PV.uW (.string ⟨⟨l⟩⟩)=.str l)∧
  (PV.uW (.slice none 0 0)=.sl 0 [] (some true))∧(PV.uW (.pointer none)=.zP)∧(PV.uW .nilFunc=.Cc)∧
  (∀ args n,bT args n=⟨args++List.replicate (n-args.length) .dead,[]⟩):=
 ⟨fun _ _ _ _=>rfl,fun _ _ _=>rfl,fun _ _ _=>rfl,fun _ _=>rfl,fun _ _=>rfl,
  fun _ _=>rfl,fun _=>rfl,fun _=>rfl,rfl,rfl,rfl,fun _ _=>rfl⟩
theorem mR (w pt:Bool) (ev:Operand→PV) (objs:List Obj) (K:KT) :
  (∀ x,lu P D T w pt ev objs (.move x) K=K (ev x) objs 0)∧(∀ x,lu P D T w pt ev objs (.assign x) K=K (ev x) objs 0)∧
  (∀ c x y,lu P D T w pt ev objs (.pick c x y) K=qm (ev c) (ev x) (ev y) objs K)∧
  (∀ t,lu P D T w pt ev objs (.alloc t) K=qG t (D t) objs K)∧
  (∀ t x,lu P D T w pt ev objs (.box t x) K=Hz t (D t) (ev x) objs K)∧
  (∀ t ps,lu P D T w pt ev objs (.build t ps) K=bE D t (ps.toList.map fun x=>(x.1,ev x.2)) objs K)∧
  (∀ t n ps,lu P D T w pt ev objs (.buildSlice t n ps) K=bJ D w t n (ps.toList.map fun x=>(x.1,ev x.2)) objs K)∧
  (∀ t x,lu P D T w pt ev objs (.load t x) K=eU (D t) (ev x) objs K)∧
  (∀ t x y,lu P D T w pt ev objs (.store t x y) K=jo (D t) (ev x) (ev y) objs K)∧
  (∀ x,lu P D T w pt ev objs (.nilCheck x) K=dJ (ev x) objs K)∧
  (∀ b t x y t',lu P D T w pt ev objs (.binOp b t x y t') K=o_ P (D t) t b (ev x) (ev y) fun r=>K r objs 0)∧
  (∀ u t x,lu P D T w pt ev objs (.unOp u t x) K=MG u (ev x) fun r=>K r objs 0)∧
  (∀ s t x,lu P D T w pt ev objs (.convert s t x) K=jJ D s t (ev x) objs K)∧
  (∀ f first cap,lu P D T w pt ev objs (.makeFunc (.func f) first cap) K=jm f (first.toList.map ev) (cap.toList.map ev) objs K)∧
  (∀ t l c,lu P D T w pt ev objs (.makeSlice t l c) K=fe D t (ev l) (ev c) objs K)∧
  (∀ t x lo hi,lu P D T w pt ev objs (.slice t x lo hi none) K=iQ D t (ev x) (lo.map ev) (hi.map ev) objs K)∧
  (∀ t x f,lu P D T w pt ev objs (.fieldAddr t x f) K=aL D t (ev x) f objs K)∧
  (∀ t x f,lu P D T w pt ev objs (.field t x f) K=nU D t (ev x) f objs K)∧
  (∀ t x i,lu P D T w pt ev objs (.indexAddr t x i) K=a_ D t (ev x) (ev i) objs K)∧
  (∀ t x i,lu P D T w pt ev objs (.index t x i) K=kP D t (ev x) (ev i) objs K)∧
  (∀ x i,lu P D T w pt ev objs (.extract x i) K=bN (ev x) i objs K)∧
  (∀ t x at',lu P D T w pt ev objs (.call { callee:=.builtin .len,args:=⟨[x]⟩,argTypes:=⟨t::at'⟩ }) K=eX D .len (t::at') [x] ev objs K)∧
  (∀ b args ats,lu P D T w pt ev objs (.call { callee:=.builtin b,args:=args,argTypes:=ats }) K=eX D b ats.toList args.toList ev objs K)∧
  (∀ f args ats,lu P D T w pt ev objs (.call { callee:=.value f,args:=args,argTypes:=ats }) K=nM T pt (ev f) (args.toList.map ev) objs K):=
 ⟨fun _=>rfl,fun _=>rfl,fun _ _ _=>rfl,fun _=>rfl,fun _ _=>rfl,fun _ _=>rfl,fun _ _ _=>rfl,fun _ _=>rfl,fun _ _ _=>rfl,fun _=>rfl,fun _ _ _ _ _=>rfl,fun _ _ _=>rfl,fun _ _ _=>rfl,
  fun _ _ _=>rfl,fun _ _ _=>rfl,fun _ _ _ _=>rfl,fun _ _ _=>rfl,fun _ _ _=>rfl,fun _ _ _=>rfl,fun _ _ _=>rfl,fun _ _=>rfl,fun _ _ _=>rfl,fun _ _ _=>rfl,fun _ _ _=>rfl⟩
theorem ZJ :
  (∀ pt g first cap args objs (K:KT),nM T pt (.fn g first cap) args objs K=T.fn g (first++args++cap) objs K)∧
  (∀ pt l args objs (K:KT),nM T pt (.D8 l) args objs K=(l=T.y∧pt=true∧args.all PV.pure=true∧T.Y args objs fun b o=>K (.bool b) o 2)):=
 ⟨fun _ _ _ _ _ _ _=>rfl,fun _ _ _ _ _=>rfl⟩
theorem EL (l:List (FuncId×dF)):((aO P l).ZE=aO P l)∧((aO P l).fn=sV l)∧((aO P l).nx=0)∧((aO P l).top=true)∧((aO P l).gives=Gives P):=⟨rfl,rfl,rfl,rfl,rfl⟩
theorem kiR (fn:Tab) (y:Nat) (Y:YT) (nx:Nat):((FW fn y Y nx).fn=fn)∧((FW fn y Y nx).y=y)∧((FW fn y Y nx).Y=Y)∧((FW fn y Y nx).nx=nx):=⟨rfl,rfl,rfl,rfl⟩
theorem ZK (g f:FuncId) (c:dF) (l:List (FuncId×dF)) (args:List PV) (objs:List Obj) (K:KT):sV ((g,c)::l) f args objs K=bif f==g then c args objs K else sV l f args objs K:=rfl
def kindOf:TypeDesc→TK
 | .string=>.str
 | .bool=>.bool
 | .int k=>.int k
 | .slice e=>.slice e
 | .array n e=>.array n e
 | .struct fl=>.struct (fl.toList.map fun f=>(f.offset,f.type))
 | .map k e=>.map k e
 | _=>.other
theorem aaO {P:Program}{t:TypeId}{k:TK}{sz by':Nat}{z:Value}(h1:(P.info? t).map (fun i=>(i.size,i.bytes,i.zero))=some (sz,by',some z)) (h2:(P.underlying t).map kindOf=some k) (h3:Nat.beq t MT=false):iH P t ⟨k,sz,by',z⟩:=by
 cases hi:P.info? t with
 | none=>rw [hi] at h1;simp at h1
 | some i=>
  rw [hi] at h1
  simp only [Option.map_some,Option.some.injEq,Prod.mk.injEq] at h1
  cases hu:P.underlying t with
  | none=>rw [hu] at h2;simp at h2
  | some d=>
   rw [hu] at h2
   simp only [Option.map_some,Option.some.injEq] at h2
   subst h2
   refine .inr ⟨⟨i,hi,h1.1,h1.2.1,h1.2.2,fun e=>by rw [e] at h3;exact absurd h3 (by decide)⟩,?_⟩
   cases d <;> simp only [kindOf] <;> first
    | exact hu
    | exact ⟨_,hu,rfl⟩
theorem KJ {P:Program}{t:TypeId}:iH P t aG.off:=.inl rfl
end Lp
namespace Lp
open Go
variable {P:Program}{D:TypeId→aG}{T:Know}{objs objs':List Obj}{K:KT}
@[congr] theorem abI {ss:List Step}{S S':St}{ts ts':List Nat}{K:St→List Nat→Prop}(h:S=S') (h':ts=ts'):LR P D T ss S ts K=LR P D T ss S' ts' K:=by rw [h,h']
@[congr] theorem YN {v v':PV}{d:Nat}{w:Bool}{S:St}{X Y:St→Prop}(h:v=v'):kR v d w S X Y=kR v' d w S X Y:=by rw [h]
@[congr] theorem ZL {v v':PV}{X Y:Prop}(h:v=v'):xW v X Y=xW v' X Y:=by rw [h]
@[congr] theorem ZM {c c' x x' y y':PV}(h1:c=c') (h2:x=x') (h3:y=y') (ho:objs=objs'):qm c x y objs K=qm c' x' y' objs' K:=by rw [h1,h2,h3,ho]
@[congr] theorem YO {t:TypeId}{ti Tc:aG}(h:ti=Tc) (ho:objs=objs'):qG t ti objs K=qG t Tc objs' K:=by rw [h,ho]
@[congr] theorem aaP {t:TypeId}{ti Tc:aG}{v v':PV}(h:ti=Tc) (h1:v=v') (ho:objs=objs'):Hz t ti v objs K=Hz t Tc v' objs' K:=by rw [h,h1,ho]
@[congr] theorem YP {t:TypeId}{ps ps':List (Nat×PV)}(h:ps=ps') (ho:objs=objs'):bE D t ps objs K=bE D t ps' objs' K:=by rw [h,ho]
@[congr] theorem Td {own:Bool}{t:TypeId}{n:Nat}{ps ps':List (Nat×PV)}(h:ps=ps') (ho:objs=objs'):bJ D own t n ps objs K=bJ D own t n ps' objs' K:=by rw [h,ho]
@[congr] theorem ZN {ti Tc:aG}{p p':PV}(h:ti=Tc) (h1:p=p') (ho:objs=objs'):eU ti p objs K=eU Tc p' objs' K:=by rw [h,h1,ho]
@[congr] theorem YQ {ti Tc:aG}{p p' v v':PV}(h:ti=Tc) (h1:p=p') (h2:v=v') (ho:objs=objs'):jo ti p v objs K=jo Tc p' v' objs' K:=by rw [h,h1,h2,ho]
@[congr] theorem VR {x x':PV}(h:x=x') (ho:objs=objs'):dJ x objs K=dJ x' objs' K:=by rw [h,ho]
@[congr] theorem aaQ {ti Tc:aG}{t:TypeId}{b:BinOp}{x x' y y':PV}{K:PV→Prop}(h:ti=Tc) (h1:x=x') (h2:y=y'):o_ P ti t b x y K=o_ P Tc t b x' y' K:=by rw [h,h1,h2]
@[congr] theorem abl {u:UnOp}{x x':PV}{K:PV→Prop}(h:x=x'):MG u x K=MG u x' K:=by rw [h]
@[congr] theorem ZO {s s' d d':aG}{x x':PV}{K:PV→Prop}(h:s=s') (h1:d=d') (h2:x=x'):mD s d x K=mD s' d' x' K:=by rw [h,h1,h2]
@[congr] theorem VS {f:FuncId}{a a' c c':List PV}(h:a=a') (h1:c=c') (ho:objs=objs'):jm f a c objs K=jm f a' c' objs' K:=by rw [h,h1,ho]
@[congr] theorem UF {t:TypeId}{l l' c c':PV}(h:l=l') (h1:c=c') (ho:objs=objs'):fe D t l c objs K=fe D t l' c' objs' K:=by rw [h,h1,ho]
@[congr] theorem YR {t:TypeId}{x x':PV}{lo lo' hi hi':Option PV}(h:x=x') (h1:lo=lo') (h2:hi=hi') (ho:objs=objs'):iQ D t x lo hi objs K=iQ D t x' lo' hi' objs' K:=by rw [h,h1,h2,ho]
@[congr] theorem UG {t:TypeId}{x x':PV}{f:Nat}(h:x=x') (ho:objs=objs'):aL D t x f objs K=aL D t x' f objs' K:=by rw [h,ho]
@[congr] theorem YS {t:TypeId}{x x':PV}{f:Nat}(h:x=x') (ho:objs=objs'):nU D t x f objs K=nU D t x' f objs' K:=by rw [h,ho]
@[congr] theorem UH {t:TypeId}{x x' i i':PV}(h:x=x') (h1:i=i') (ho:objs=objs'):a_ D t x i objs K=a_ D t x' i' objs' K:=by rw [h,h1,ho]
@[congr] theorem YU {t:TypeId}{x x' i i':PV}(h:x=x') (h1:i=i') (ho:objs=objs'):kP D t x i objs K=kP D t x' i' objs' K:=by rw [h,h1,ho]
@[congr] theorem WO {x x':PV}{i:Nat}(h:x=x') (ho:objs=objs'):bN x i objs K=bN x' i objs' K:=by rw [h,ho]
@[congr] theorem aaR {t:TypeId}{x x':PV}(h:x=x') (ho:objs=objs'):pq D t x objs K=pq D t x' objs' K:=by rw [h,ho]
@[congr] theorem Ye {t u:TypeId}{s s' x x':PV}(h:s=s') (h1:x=x') (ho:objs=objs'):dX D t u s x objs K=dX D t u s' x' objs' K:=by rw [h,h1,ho]
@[congr] theorem Yf {b:Bool}{xs xs':List PV}{K:PV→Prop}(h:xs=xs'):h_ b xs K=h_ b xs' K:=by rw [h]
@[congr] theorem ZP {pt pt':Bool}{f f':PV}{args args':List PV}(hp:pt=pt') (h:f=f') (h1:args=args') (ho:objs=objs'):nM T pt f args objs K=nM T pt' f' args' objs' K:=by rw [hp,h,h1,ho]
@[congr] theorem ZQ {pl:Nat→Option (Nat×Nat)}{cs cs':List PV}{ps:List (Nat×PV)}{K:List PV→Prop}(h:cs=cs'):nK pl cs ps K=nK pl cs' ps K:=by rw [h]
@[congr] theorem YV {x x':Option PV}{d d':Int}{K:Int→Prop}(h:x=x') (h1:d=d'):dm x d K=dm x' d' K:=by rw [h,h1]
@[congr] theorem abm {C:LC}{Q:Exit→St→Prop}{S S':St}(h:S=S'):kr P D T C Q S=kr P D T C Q S':=by rw [h]
theorem aF {ks:List Bool}{fz:Option (Nat×Nat)}{c:LC}{Q:Exit→St→Prop}{S:St}(I:Nat→St→Prop) (m:Nat) (h0:I m (S.norm ks fz))
  (hr:∀ m S,I m S→kr P D T c (thenS (fun S'=>∃ m',m'<m∧I m' (S'.norm ks fz)) Q) S) (hz:H_ T.nx fz:=by exact trivial):kr P D T (.loop ks fz c) Q S:=⟨hz,I,⟨_,m,Weak.norm ks fz hz S,h0⟩,hr⟩
theorem wJ {ks:List Bool}{fz:Option (Nat×Nat)}{c:LC}{Q:Exit→St→Prop}{S:St}(S0:St) (I:Nat→St→Prop) (m:Nat) (hw:Weak T.nx (S.norm ks fz) S0) (h0:I m S0)
  (hr:∀ m S,I m S→kr P D T c (thenS (fun S'=>∃ m',m'<m∧I m' (S'.norm ks fz)) Q) S) (hz:H_ T.nx fz:=by exact trivial):kr P D T (.loop ks fz c) Q S:=⟨hz,I,⟨S0,m,(Weak.norm ks fz hz S).trans hw,h0⟩,hr⟩
theorem aQ {c:LC}{Q:Exit→St→Prop}{S:St}(S':St) (hw:Weak T.nx S S') (h:kr P D T c Q S'):kr P D T (.weak c) Q S:=⟨S',hw,h⟩
theorem FX {f:Operand}{ps:List Nat}{fz:Option (Nat×Nat)}{x y:LC}{Q:Exit→St→Prop}{S:St}(g:FuncId) (cap:List PV) (ys:List (List PV)) (I:Nat→List Obj→Prop) (ht:T.top=true)
  (hf:S.ev f=.fn g [] cap) (hc:cap.all PV.pure=true) (hz:H_ S.objs.length fz) (hg:T.gives g cap ys) (hy:∀ y ∈ ys,y.length=ps.length) (h0:I 0 S.objs) (hl:∀ i objs,I i objs→S.objs.length≤objs.length∧jq objs)
  (hr:∀ i args objs,I i objs→ys[i]?=some args→kr P D (T.inner S.objs.length) x (thenS (fun S1=>kr P D (T.inner S.objs.length) y (Qp fz (I (i+1))) S1) (fun _ _=>False)) ⟨qf ps args S.tmps,objs⟩)
  (he:∀ objs,I ys.length objs→Q .normal ⟨S.tmps,objs⟩):kr P D T (.rf f ps fz x y) Q S:=⟨ht,g,cap,ys,hf,hc,hg,hy,.inl ⟨I,hz,h0,hl,hr,he⟩⟩
theorem YW {f:Operand}{ps:List Nat}{fz:Option (Nat×Nat)}{x y:LC}{Q:Exit→St→Prop}{S:St}(g:FuncId) (cap:List PV) (ys:List (List PV)) (I J:Nat→List Obj→Prop) (lv:Exit){lc:Code}(hlv:FN lv=some lc) (ht:T.top=true)
  (hf:S.ev f=.fn g [] cap) (hc:cap.all PV.pure=true) (hz:H_ (S.objs.length+2) fz) (hg:T.gives g cap ys) (hy:∀ y ∈ ys,y.length=ps.length) (h0:I 0 (S.objs++[BP,hole])) (hl:∀ i objs,I i objs→Gh S.objs.length objs)
  (hj:∀ i objs,J i objs→Gh S.objs.length objs∧eP objs)
  (hr:∀ i args objs,I i objs→ys[i]?=some args→kr P D (T.inner (S.objs.length+2)) x (thenS (fun S1=>kr P D (T.inner (S.objs.length+2)) y (KD fz (I (i+1)) lv (J i)) S1) (fun _ _=>False)) ⟨qf ps args S.tmps,objs⟩)
  (he:∀ objs,I ys.length objs→Q .normal ⟨S.tmps,objs⟩) (hv:∀ i objs,i<ys.length→J i objs→Q lv ⟨S.tmps,ig S.objs.length objs⟩):kr P D T (.rf f ps fz x y) Q S:=
 ⟨ht,g,cap,ys,hf,hc,hg,hy,.inr ⟨I,J,lv,lc,hlv,hz,h0,hl,hj,hr,he,hv⟩⟩
theorem Ec (d n:Nat) (objs:List Obj) :
  (∀ k m,gH d n objs (.int k m)=.int k m)∧(∀ b,gH d n objs (.bool b)=.bool b)∧(∀ s,gH d n objs (.str s)=.str s)∧(∀ sz xs q,gH d n objs (.sl sz xs q)=.sl sz xs q)∧(∀ x,gH d n objs (.addr x)=.addr x)∧
  (gH d n objs .dead=.dead)∧
  (∀ cs,gH d n objs (.agg cs)=.agg (cs.map (eY d n objs)))∧(∀ cs,gH d n objs (.bV cs)=.bV (cs.map (eY d n objs)))∧
  (∀ k m,eY d n objs (.int k m)=.int k m)∧(∀ b,eY d n objs (.bool b)=.bool b)∧(∀ s,eY d n objs (.str s)=.str s)∧(∀ sz xs q,eY d n objs (.sl sz xs q)=.sl sz xs q)∧(∀ x,eY d n objs (.addr x)=.addr x)∧(eY d n objs .dead=.dead):=
 ⟨fun _ _=>rfl,fun _=>rfl,fun _=>rfl,fun _ _ _=>rfl,fun _=>rfl,rfl,fun _=>rfl,fun _=>rfl,fun _ _=>rfl,fun _=>rfl,fun _=>rfl,fun _ _ _=>rfl,fun _=>rfl,rfl⟩
theorem mh (d:Nat) (rs:List ResultVar) (r:PV) (S:St) :
  (UB D d rs r .ret S=iT D S rs fun ps=>r=eO (ps.map (gH d 0 S.objs)))∧(UB D d rs r .normal S=iT D S rs fun ps=>r=eO (ps.map (gH d 0 S.objs))):=by
 constructor <;> simp [UB]
theorem JH (d t:Nat) (o:Obj) (S:St) :
  (Qu d t o .ret S=∃ S' k ver o0,Weak 0 S S'∧S'.tmps.getD t .dead=.aX k ver∧S'.objs[k]?=some o0∧o0.live=true∧o0.ver=ver∧{ fO d (k+1) S'.objs o0 with ver:=0 }=o∧eP [o])∧
  (Qu d t o .normal S=∃ S' k ver o0,Weak 0 S S'∧S'.tmps.getD t .dead=.aX k ver∧S'.objs[k]?=some o0∧o0.live=true∧o0.ver=ver∧{ fO d (k+1) S'.objs o0 with ver:=0 }=o∧eP [o]):=by
 constructor <;> simp [Qu]
theorem qN:(∀ (x p:PV) l n,(x::l).set (n+1) p=x::l.set n p)∧(∀ (x p:PV) l,(x::l).set 0 p=p::l)∧(∀ (x:PV) l n d,(x::l).getD (n+1) d=l.getD n d)∧(∀ (x:PV) l d,(x::l).getD 0 d=x)∧
  (∀ (x:PV) l m,(x::l)++m=x::(l++m))∧(∀ m:List PV,[]++m=m)∧(∀ n (x:PV),List.replicate (n+1) x=x::List.replicate n x)∧(∀ (x:PV),List.replicate 0 x=[])∧(∀ (x:PV) l,(x::l).length=l.length+1)∧(([]:List PV).length=0)∧
  (∀ (f:Operand→PV) x l,(x::l).map f=f x::l.map f)∧(∀ (f:Operand→PV),[].map f=[])∧
  (∀ (f:Nat×Operand→Nat×PV) x l,(x::l).map f=f x::l.map f)∧(∀ (f:Nat×Operand→Nat×PV),[].map f=[])∧
  (∀ (f:PV→PV) x l,(x::l).map f=f x::l.map f)∧(∀ (f:PV→PV),[].map f=[])∧
  (∀ (f:Operand→PV) x,(some x).map f=some (f x))∧(∀ (f:Operand→PV),none.map f=none)∧
  (∀ (x:Nat) l m,(x::l)++m=x::(l++m))∧(∀ m:List Nat,[]++m=m)∧
  (∀ n l,mkT n l=l.foldl (fun tm x=>tm.set x.1 x.2) (List.replicate n .dead))∧
  (∀ (f:List PV→Nat×PV→List PV) x l i,(x::l).foldl f i=l.foldl f (f i x))∧(∀ (f:List PV→Nat×PV→List PV) i,[].foldl f i=i):=
 ⟨fun _ _ _ _=>rfl,fun _ _ _=>rfl,fun _ _ _ _=>rfl,fun _ _ _=>rfl,fun _ _ _=>rfl,fun _=>rfl,fun _ _=>rfl,fun _=>rfl,fun _ _=>rfl,rfl,fun _ _ _=>rfl,fun _=>rfl,
  fun _ _ _=>rfl,fun _=>rfl,fun _ _ _=>rfl,fun _=>rfl,fun _ _=>rfl,fun _=>rfl,fun _ _ _=>rfl,fun _=>rfl,fun _ _=>rfl,fun _ _ _ _=>rfl,fun _ _=>rfl⟩
theorem Te:(∀ ks x (l:List PV),xE (true::ks) (x::l)=x::xE ks l)∧(∀ ks x (l:List PV),xE (false::ks) (x::l)=.dead::xE ks l)∧(∀ ks,xE ks []=[])∧(∀ ks (S:St),S.norm ks none=S.forget ks)∧(∀ ks tm ob,St.forget ks ⟨tm,ob⟩=⟨xE ks tm,ob⟩):=
 ⟨fun _ _ _=>rfl,fun _ _ _=>rfl,fun ks=>by cases ks <;> rfl,fun _ _=>rfl,fun _ _ _=>rfl⟩
theorem Ho (ti:aG) (t:TypeId) (K:PV→Prop) :
  (∀ b k x y,o_ P ti t b (.int k x) (.int k y) K=qF b k k x y K)∧
  (∀ b x y,o_ P ti t b (.str x) (.str y) K=iP b x y K)∧
  (∀ x y,o_ P ti t .eql (.bool x) (.bool y) K=(ti.kind=.bool∧K (.bool (x==y))))∧
  (∀ x y,o_ P ti t .neq (.bool x) (.bool y) K=(ti.kind=.bool∧K (.bool (!(x==y)))))∧
  (∀ x y,o_ P ti t .eql (.agg x) (.agg y) K=(Hy P t x y∧∃ r,BO x y=some r∧K (.bool r)))∧
  (∀ x y,o_ P ti t .neq (.agg x) (.agg y) K=(Hy P t x y∧∃ r,BO x y=some r∧K (.bool (!r))))∧
  (∀ s x q s' x',o_ P ti t .eql (.sl s x (some q)) (.sl s' x' (some true)) K=((∃ e,ti.kind=.slice e)∧K (.bool q)))∧
  (∀ s x q s' x',o_ P ti t .neq (.sl s x (some q)) (.sl s' x' (some true)) K=((∃ e,ti.kind=.slice e)∧K (.bool (!q)))):=
 ⟨fun _ _ _ _=>rfl,fun _ _ _=>rfl,fun _ _=>rfl,fun _ _=>rfl,fun _ _=>rfl,fun _ _=>rfl,fun _ _ _ _ _=>rfl,fun _ _ _ _ _=>rfl⟩
theorem Hq (k:IntKind) (a b:Int) (K:PV→Prop) :
  (qF .add k k a b K=(He k (a+b)∧K (.int k (a+b))))∧(qF .sub k k a b K=(He k (a-b)∧K (.int k (a-b))))∧(qF .mul k k a b K=(He k (a*b)∧K (.int k (a*b))))∧
  (qF .quo k k a b K=(b≠0∧He k (a.tdiv b)∧K (.int k (a.tdiv b))))∧(qF .rem k k a b K=(b≠0∧K (.int k (a.tmod b))))∧
  (qF .eql k k a b K=K (.bool (decide (a=b))))∧(qF .neq k k a b K=K (.bool (!decide (a=b))))∧(qF .lss k k a b K=K (.bool (decide (a<b))))∧(qF .leq k k a b K=K (.bool (decide (a≤b))))∧
  (qF .gtr k k a b K=K (.bool (decide (b<a))))∧(qF .geq k k a b K=K (.bool (decide (b≤a)))):=by
 refine ⟨?_,?_,?_,?_,?_,?_,?_,?_,?_,?_,?_⟩ <;> simp [qF]
theorem yE (a:Int):(He .i64 a=(-9223372036854775808≤a∧a≤9223372036854775807))∧(He .u8 a=(0≤a∧a≤255)):=⟨rfl,rfl⟩
theorem eG (ev:Operand→PV):(∀ t x,eX D .len [t] [x] ev objs K=pq D t (ev x) objs K)∧(∀ t u s x,eX D .append [t,u] [s,x] ev objs K=dX D t u (ev s) (ev x) objs K)∧
  (∀ ts xs,eX D .max ts xs ev objs K=h_ true (xs.map ev) fun r=>K r objs 0)∧(∀ ts xs,eX D .min ts xs ev objs K=h_ false (xs.map ev) fun r=>K r objs 0):=
 ⟨fun _ _=>rfl,fun _ _ _ _=>rfl,fun _ _=>rfl,fun _ _=>rfl⟩
theorem xX {α:Type}(l:List α) (f:α→PV) (n:Nat) (q:PV→Prop):(∃ y,(l.map f)[n]?=some y∧q y)=∃ x,l[n]?=some x∧q (f x):=by
 apply propext
 constructor
 · rintro ⟨y,h,hq⟩
   rw [List.getElem?_map] at h
   cases hx:l[n]? with
   | none=>rw [hx] at h;simp at h
   | some x=>rw [hx] at h;simp only [Option.map_some,Option.some.injEq] at h;exact ⟨x,rfl,h ▸ hq⟩
 · rintro ⟨x,h,hq⟩
   exact ⟨f x,by rw [List.getElem?_map,h];rfl,hq⟩
theorem KL {α:Type}(a:α) (l:List α) (q:α→Prop):((∃ x,(a::l)[0]?=some x∧q x)=q a)∧(∀ n,(∃ x,(a::l)[n+1]?=some x∧q x)=∃ x,l[n]?=some x∧q x):=by
 refine ⟨propext ⟨?_,fun h=>⟨a,rfl,h⟩⟩,fun n=>rfl⟩
 rintro ⟨x,h,hq⟩
 simp only [List.getElem?_cons_zero,Option.some.injEq] at h
 exact h ▸ hq
theorem Ic:(∀ s b z,aG.agg ⟨.str,s,b,z⟩=false)∧(∀ k s b z,aG.agg ⟨.int k,s,b,z⟩=false)∧(∀ s b z,aG.agg ⟨.bool,s,b,z⟩=false)∧(∀ e s b z,aG.agg ⟨.slice e,s,b,z⟩=false)∧(∀ s b z,aG.agg ⟨.other,s,b,z⟩=false)∧
  (∀ fs s b z,aG.agg ⟨.struct fs,s,b,z⟩=true)∧(∀ n e s b z,aG.agg ⟨.array n e,s,b,z⟩=true):=⟨fun _ _ _=>rfl,fun _ _ _ _=>rfl,fun _ _ _=>rfl,fun _ _ _ _=>rfl,fun _ _ _=>rfl,fun _ _ _ _=>rfl,fun _ _ _ _ _=>rfl⟩
theorem sW (cs:List PV) (o n:Nat):(sub cs o n false=cs.getD o .dead)∧(sub cs o n true=.agg ((cs.drop o).take n)):=⟨rfl,rfl⟩
theorem EM:(∀ k n,PV.isAgg (.int k n)=false)∧(∀ b,PV.isAgg (.bool b)=false)∧(∀ s,PV.isAgg (.str s)=false)∧(∀ s x q,PV.isAgg (.sl s x q)=false)∧(∀ cs,PV.isAgg (.agg cs)=true)∧(∀ k v,PV.isAgg (.aX k v)=false)∧(∀ k v i f,PV.isAgg (.bL k v i f)=false)∧(∀ x,PV.isAgg (.addr x)=false)∧(PV.isAgg .zP=false)∧
  (∀ k n,PV.cells (.int k n)=[.int k n])∧(∀ b,PV.cells (.bool b)=[.bool b])∧(∀ s,PV.cells (.str s)=[.str s])∧(∀ s x q,PV.cells (.sl s x q)=[.sl s x q])∧(∀ cs,PV.cells (.agg cs)=cs)∧(∀ k v,PV.cells (.aX k v)=[.aX k v])∧(∀ k v i f,PV.cells (.bL k v i f)=[.bL k v i f])∧(∀ x,PV.cells (.addr x)=[.addr x]):=
 ⟨fun _ _=>rfl,fun _=>rfl,fun _=>rfl,fun _ _ _=>rfl,fun _=>rfl,fun _ _=>rfl,fun _ _ _ _=>rfl,fun _=>rfl,rfl,fun _ _=>rfl,fun _=>rfl,fun _=>rfl,fun _ _ _=>rfl,fun _=>rfl,fun _ _=>rfl,fun _ _ _ _=>rfl,fun _=>rfl⟩
theorem Hr:(∀ (f:PV→Bool) x l,(x::l).all f=(f x && l.all f))∧(∀ f:PV→Bool,[].all f=true)∧(∀ (x:PV) l n,(x::l).take (n+1)=x::l.take n)∧(∀ l:List PV,l.take 0=[])∧(∀ (x:PV) l n,(x::l).drop (n+1)=l.drop n)∧(∀ l:List PV,l.drop 0=l)∧(∀ n,([]:List PV).take n=[])∧(∀ n,([]:List PV).drop n=[]):=
 ⟨fun _ _ _=>rfl,fun _=>rfl,fun _ _ _=>rfl,fun _=>by simp,fun _ _ _=>rfl,fun _=>rfl,fun _=>by simp,fun _=>by simp⟩
theorem fzR (d n:Nat) (objs:List Obj):(∀ k v,gH d n objs (.aX k v)=eY d n objs (.aX k v))∧(∀ k v i f,gH d n objs (.bL k v i f)=eY d n objs (.bL k v i f))∧(∀ l,gH d n objs (.D8 l)=.D8 l)∧
  (∀ f a c,gH d n objs (.fn f a c)=.fn f (a.map (eY d n objs)) (c.map (eY d n objs))):=⟨fun _ _=>rfl,fun _ _ _ _=>rfl,fun _=>rfl,fun _ _ _=>rfl⟩
theorem puR:(∀ k n,PV.pure (.int k n)=true)∧(∀ b,PV.pure (.bool b)=true)∧(∀ s,PV.pure (.str s)=true)∧(∀ s x q,PV.pure (.sl s x q)=true)∧(∀ x,PV.pure (.addr x)=true)∧(PV.pure .dead=true)∧(∀ l,PV.pure (.D8 l)=true):=
 ⟨fun _ _=>rfl,fun _=>rfl,fun _=>rfl,fun _ _ _=>rfl,fun _=>rfl,rfl,fun _=>rfl⟩
theorem xY {d n:Nat}{objs:List Obj}{k v i f:Nat}(h:n≤k):(eY d n objs (.bL k v i f)).pure=true:=by
 simp only [eY,if_neg (Nat.not_lt.2 h)]
 cases d <;> simp only [fM]
 · rfl
 · split
   · split
     · split <;> rfl
     · rfl
   · rfl
theorem FY {α β:Type}(a:α) (l:List α) (q:α→β→Prop):((∃ x y,(a::l)[0]?=some x∧q x y)=∃ y,q a y)∧(∀ n,(∃ x y,(a::l)[n+1]?=some x∧q x y)=∃ x y,l[n]?=some x∧q x y):=by
 refine ⟨propext ⟨?_,fun ⟨y,h⟩=>⟨a,y,rfl,h⟩⟩,fun n=>rfl⟩
 rintro ⟨x,y,h,hq⟩
 simp only [List.getElem?_cons_zero,Option.some.injEq] at h
 exact ⟨y,h ▸ hq⟩
theorem WQ:(∀ (x p:Obj) l n,(x::l).set (n+1) p=x::l.set n p)∧(∀ (x p:Obj) l,(x::l).set 0 p=p::l)∧(∀ (x:Obj) l m,(x::l)++m=x::(l++m))∧(∀ m:List Obj,[]++m=m)∧(∀ (x:Obj) l,(x::l).length=l.length+1)∧(([]:List Obj).length=0):=
 ⟨fun _ _ _ _=>rfl,fun _ _ _=>rfl,fun _ _ _=>rfl,fun _=>rfl,fun _ _=>rfl,rfl⟩
end Lp
set_option maxRecDepth 100000
namespace Lp
open Go
def acN (ops:List Oper) (j:Nat):Option Nat:=(ops[j]?).bind (·.dst)
def aaS (l:List Nat) (x:Nat):Bool:=l.any (Nat.beq x)
def acO (own:List Nat):Option Nat→Bool
 | some d=>aaS own d
 | none=>false
def stepG (own:List Nat) (ops:List Oper) (o:Oper):Step:=⟨o.dst,o.op,match o.guard with
 | none=>none
 | some (j,b)=>some (acN ops j,b),acO own o.dst⟩
abbrev LpH:=Nat×Option (Nat×Nat)
def acP (nt m:Nat):List Bool:=(List.range nt).map (Nat.testBit m)
def vD (nt:Nat) (own wk:List Nat):Code→List LpH→LC×List LpH
 | .skip,k=>(.skip,k)
 | .ret,k=>(.ret,k)
 | .exit id,k=>(.exit id,k)
 | .region id ops false,k=>(bif aaS wk id then .weak (.reg (ops.toList.map (stepG own ops.toList))) else .reg (ops.toList.map (stepG own ops.toList)),k)
 | .region id ops true,k=>(bif aaS wk id then .weak (.draw (ops.toList.map (stepG own ops.toList)) (qp ops.toList (masks ops.toList []))) else .draw (ops.toList.map (stepG own ops.toList)) (qp ops.toList (masks ops.toList [])),k)
 | .seq a b,k=>
  match vD nt own wk a k with
  | (x,k')=>match vD nt own wk b k' with
   | (y,k'')=>(.seq x y,k'')
 | .cond c a b,k=>
  match vD nt own wk a k with
  | (x,k')=>match vD nt own wk b k' with
   | (y,k'')=>(.cond c x y,k'')
 | .block id b,k=>
  match vD nt own wk b k with
  | (x,k')=>(.block id x,k')
 | .loop b,k=>
  match vD nt own wk b k.tail with
  | (x,k')=>(.loop (acP nt (k.headD (0,none)).1) (k.headD (0,none)).2 x,k')
 | .rangeFunc f ps a b,k=>
  match vD nt own wk a k.tail with
  | (x,k')=>match vD nt own wk b k' with
   | (y,k'')=>(.rf f ps.toList (k.headD (0,none)).2 x y,k'')
 | _,k=>(.bad,k)
def gen (own:List Nat) (lps:List LpH) (wk:List Nat) (f:Func):LC:=
 match f.body with
 | some c=>(vD f.ntmps own wk c lps).1
 | none=>.bad
def iL:Code→Bool
 | .region _ ops true=>fD ops.toList (masks ops.toList [])
 | .seq a b=>iL a && iL b
 | .cond _ a b=>iL a && iL b
 | .block _ c=>iL c
 | .loop c=>iL c
 | .rangeFunc _ _ a b=>iL a && iL b
 | _=>true
theorem Dx (own:List Nat) (ops l:List Oper):(l.map (stepG own ops)).map yA=l.map (stepOf ops):=by
 rw [List.map_map]
 exact List.map_congr_left fun o _=>rfl
theorem Af (b:Bool) (c:LC):strip (bif b then .weak c else c)=strip c:=by cases b <;> rfl
theorem jb (nt:Nat) (own wk:List Nat):∀ (c:Code),iL c=true→∀ (k:List LpH),strip (vD nt own wk c k).1=comp c
 | .skip,_,_=>rfl
 | .ret,_,_=>rfl
 | .exit _,_,_=>rfl
 | .region id ops false,_,_=>by
  simp only [vD,Af,strip,Dx,comp]
 | .region id ops true,h,_=>by
  simp only [iL] at h
  simp only [vD,Af,strip,Dx,comp,h,cond_true]
 | .seq a b,h,k=>by
  simp only [iL,Bool.and_eq_true] at h
  simp only [vD,strip,comp,jb nt own wk a h.1,jb nt own wk b h.2]
 | .cond c a b,h,k=>by
  simp only [iL,Bool.and_eq_true] at h
  simp only [vD,strip,comp,jb nt own wk a h.1,jb nt own wk b h.2]
 | .block id c,h,k=>by
  simp only [iL] at h
  simp only [vD,strip,comp,jb nt own wk c h]
 | .loop c,h,k=>by
  simp only [iL] at h
  simp only [vD,strip,comp,jb nt own wk c h]
 | .rangeFunc f ps a b,h,k=>by
  simp only [iL,Bool.and_eq_true] at h
  simp only [vD,strip,comp,jb nt own wk a h.1,jb nt own wk b h.2]
 | .scope _,_,_=>rfl
 | .label _,_,_=>rfl
 | .goto _,_,_=>rfl
 | .refuse _,_,_=>rfl
def okF (f:Func) (n:Nat):Bool:=!(f.name== "runtime.NumGoroutine") && Nat.beq f.ntmps n && match f.body with | some c=>iL c | none=>false
theorem aY {P:Program}{f:FuncId}{fn:Func}{n:Nat}{rs:List ResultVar}{own wk:List Nat}{lps:List LpH}(h:P.funcs[f]?=some fn) (hr:fn.results=rs.toArray) (hk:okF fn n=true):aN P f n rs (gen own lps wk fn):=by
 unfold okF at hk
 rw [Bool.and_eq_true,Bool.and_eq_true] at hk
 obtain ⟨⟨h1,h2⟩,h3⟩:=hk
 cases hb:fn.body with
 | none=>rw [hb] at h3;cases h3
 | some c=>
  rw [hb] at h3
  refine ⟨fn,c,h,by simpa using h1,hb,Nat.eq_of_beq_eq_true h2,hr,?_⟩
  unfold gen
  rw [hb]
  exact jb _ _ _ _ h3 _
def WR (P:Program) (t:TypeId):aG:=
 match P.info? t,P.underlying t with
 | some i,some d=>match i.zero with
  | some z=>bif Nat.beq t MT then aG.off else ⟨kindOf d,i.size,i.bytes,z⟩
  | none=>aG.off
 | _,_=>aG.off
theorem WS {P:Program}(t:TypeId):iH P t (WR P t):=by
 unfold WR
 split
 · rename_i i d hi hu
   split
   · rename_i z hz
     cases hm:Nat.beq t MT with
     | true=>exact KJ
     | false=>exact aaO (by rw [hi,Option.map_some,hz]) (by rw [hu];rfl) hm
   · exact KJ
 · exact KJ
end Lp
set_option maxRecDepth 100000
namespace Lp
open Go Go.Proofs
noncomputable def D:TypeId→aG:=WR Tryz.prog
theorem hD (t:TypeId):iH Tryz.prog t (D t):=WS t
theorem aT:Tryz.prog.follows .mixedOrders=true:=by kernel_rfl
theorem bS:D 3=⟨(.int .i64),1,8,.int .i64 0⟩∧D 4=⟨.bool,1,1,.bool false⟩∧D 5=⟨(.int .u8),1,1,.int .u8 0⟩∧D 9=⟨.str,1,16,.string ⟨⟨[]⟩⟩⟩∧D 21=⟨(.int .i32),1,4,.int .i32 0⟩∧D 23=⟨(.slice 44),1,24,.slice none 0 0⟩∧D 27=⟨(.slice 42),1,24,.slice none 0 0⟩∧D 28=⟨(.slice 42),1,24,.slice none 0 0⟩∧D 31=⟨(.slice 28),1,24,.slice none 0 0⟩∧D 38=⟨(.slice 23),1,24,.slice none 0 0⟩∧D 42=⟨(.struct [(0,3),(1,3),(2,9),(3,9),(4,4),(5,3)]),6,64,.agg ⟨[.int .i64 0,.int .i64 0,.string ⟨⟨[]⟩⟩,.string ⟨⟨[]⟩⟩,.bool false,.int .i64 0]⟩⟩∧D 44=⟨(.struct [(0,3),(1,3),(2,9),(3,9),(4,3),(5,42)]),11,120,.agg ⟨[.int .i64 0,.int .i64 0,.string ⟨⟨[]⟩⟩,.string ⟨⟨[]⟩⟩,.int .i64 0,.int .i64 0,.int .i64 0,.string ⟨⟨[]⟩⟩,.string ⟨⟨[]⟩⟩,.bool false,.int .i64 0]⟩⟩∧D 46=⟨(.int .i64),1,8,.int .i64 0⟩∧D 49=⟨(.slice 9),1,24,.slice none 0 0⟩∧D 54=⟨(.slice 87),1,24,.slice none 0 0⟩∧D 65=⟨(.slice 4),1,24,.slice none 0 0⟩∧D 77=⟨(.map 9 28),1,8,.map none⟩∧D 87=⟨(.struct [(0,3),(1,42)]),7,72,.agg ⟨[.int .i64 0,.int .i64 0,.int .i64 0,.string ⟨⟨[]⟩⟩,.string ⟨⟨[]⟩⟩,.bool false,.int .i64 0]⟩⟩∧D 95=⟨(.slice 122),1,24,.slice none 0 0⟩∧D 122=⟨(.struct [(0,4),(1,9),(2,3)]),3,32,.agg ⟨[.bool false,.string ⟨⟨[]⟩⟩,.int .i64 0]⟩⟩∧D 142=⟨(.slice 5),1,24,.slice none 0 0⟩∧D 153=⟨(.struct [(0,3),(1,3),(2,4),(3,9)]),4,40,.agg ⟨[.int .i64 0,.int .i64 0,.bool false,.string ⟨⟨[]⟩⟩]⟩⟩∧D 154=⟨(.slice 153),1,24,.slice none 0 0⟩:=by (repeat' constructor) <;> kernel_rfl
end Lp
set_option maxRecDepth 100000
namespace Lp
open Go Go.Proofs
theorem Nw:aN Tryz.prog 107 60 [.tmp 4] (gen [] [] [] Tryz.f107):=aY Tryz.func107 rfl (by kernel_rfl)
theorem Cw:aN Tryz.prog 67 82 [.tmp 4] (gen [] [] [] Tryz.f67):=aY Tryz.func67 rfl (by kernel_rfl)
theorem Ag:aN Tryz.prog 10 26 [.tmp 4] (gen [] [(35,none)] [] Tryz.f10):=aY Tryz.func10 rfl (by kernel_rfl)
theorem Cx:aN Tryz.prog 46 17 [.tmp 2] (gen [] [(9,none)] [] Tryz.f46):=aY Tryz.func46 rfl (by kernel_rfl)
theorem yF:aN Tryz.prog 16 39 [.tmp 2] (gen [] [(9,none)] [] Tryz.f16):=aY Tryz.func16 rfl (by kernel_rfl)
theorem yG:aN Tryz.prog 131 20 [.tmp 4] (gen [] [] [] Tryz.f131):=aY Tryz.func131 rfl (by kernel_rfl)
theorem UI:aN Tryz.prog 132 30 [.tmp 4] (gen [] [] [1] Tryz.f132):=aY Tryz.func132 rfl (by kernel_rfl)
theorem uQ:aN Tryz.prog 133 20 [.tmp 4] (gen [] [] [] Tryz.f133):=aY Tryz.func133 rfl (by kernel_rfl)
theorem lC:aN Tryz.prog 134 36 [.tmp 4] (gen [] [(3587,none)] [] Tryz.f134):=aY Tryz.func134 rfl (by kernel_rfl)
theorem Ny:aN Tryz.prog 135 19 [.tmp 2] (gen [] [(0,none)] [] Tryz.f135):=aY Tryz.func135 rfl (by kernel_rfl)
theorem fB:aN Tryz.prog 136 39 [.tmp 6] (gen [] [(14343,none)] [] Tryz.f136):=aY Tryz.func136 rfl (by kernel_rfl)
theorem Nz:aN Tryz.prog 137 15 [.tmp 2] (gen [] [(0,none)] [] Tryz.f137):=aY Tryz.func137 rfl (by kernel_rfl)
theorem Ah:aN Tryz.prog 91 7 [.tmp 4] (gen [] [] [] Tryz.f91):=aY Tryz.func91 rfl (by kernel_rfl)
theorem Cy:aN Tryz.prog 92 56 [.tmp 4] (gen [] [(172,none)] [1] Tryz.f92):=aY Tryz.func92 rfl (by kernel_rfl)
theorem Ai:aN Tryz.prog 93 42 [.tmp 4] (gen [] [(35,none)] [] Tryz.f93):=aY Tryz.func93 rfl (by kernel_rfl)
theorem yH:aN Tryz.prog 38 28 [.tmp 2] (gen [7] [(57,none)] [] Tryz.f38):=aY Tryz.func38 rfl (by kernel_rfl)
theorem yI:aN Tryz.prog 94 48 [.tmp 4] (gen [] [(35,none)] [] Tryz.f94):=aY Tryz.func94 rfl (by kernel_rfl)
theorem yJ:aN Tryz.prog 90 34 [.tmp 2] (gen [6] [(57,none)] [] Tryz.f90):=aY Tryz.func90 rfl (by kernel_rfl)
noncomputable def qw:LC:=(gen [] [] [] Tryz.f69)
theorem Aj:aN Tryz.prog 69 109 [.tmp 4] qw:=aY Tryz.func69 rfl (by kernel_rfl)
theorem Ak:aN Tryz.prog 34 41 [.tmp 4] (gen [] [(35,none)] [] Tryz.f34):=aY Tryz.func34 rfl (by kernel_rfl)
theorem yK:aN Tryz.prog 35 48 [.tmp 2] (gen [] [] [] Tryz.f35):=aY Tryz.func35 rfl (by kernel_rfl)
theorem xG:aN Tryz.prog 36 75 [.tmp 4] (gen [] [(99,none)] [] Tryz.f36):=aY Tryz.func36 rfl (by kernel_rfl)
theorem Cz:aN Tryz.prog 166 6 [.tmp 2] (gen [] [] [] Tryz.f166):=aY Tryz.func166 rfl (by kernel_rfl)
theorem Qw:aN Tryz.prog 167 42 [.tmp 4] (gen [] [] [1] Tryz.f167):=aY Tryz.func167 rfl (by kernel_rfl)
theorem xH:aN Tryz.prog 168 6 [.tmp 2] (gen [] [] [] Tryz.f168):=aY Tryz.func168 rfl (by kernel_rfl)
theorem Qx:aN Tryz.prog 169 4 [.tmp 2] (gen [] [] [] Tryz.f169):=aY Tryz.func169 rfl (by kernel_rfl)
theorem Ed:aN Tryz.prog 115 30 [.tmp 4] (gen [] [] [1] Tryz.f115):=aY Tryz.func115 rfl (by kernel_rfl)
theorem CB:aN Tryz.prog 65 23 [.tmp 6] (gen [9] [] [] Tryz.f65):=aY Tryz.func65 rfl (by kernel_rfl)
theorem Al:aN Tryz.prog 97 21 [.tmp 4] (gen [] [] [] Tryz.f97):=aY Tryz.func97 rfl (by kernel_rfl)
theorem yL:aN Tryz.prog 61 72 [.tmp 2] (gen [] [] [1] Tryz.f61):=aY Tryz.func61 rfl (by kernel_rfl)
theorem KM:aN Tryz.prog 188 34 [] (gen [] [(1547,none)] [6] Tryz.f188):=aY Tryz.func188 rfl (by kernel_rfl)
theorem KN:aN Tryz.prog 189 19 [.tmp 4] (gen [] [(35,none)] [] Tryz.f189):=aY Tryz.func189 rfl (by kernel_rfl)
theorem iq:aN Tryz.prog 190 8 [.tmp 2] (gen [5] [] [] Tryz.f190):=aY Tryz.func190 rfl (by kernel_rfl)
theorem vE:aN Tryz.prog 88 20 [.tmp 2] (gen [] [(9,none)] [] Tryz.f88):=aY Tryz.func88 rfl (by kernel_rfl)
end Lp
set_option maxRecDepth 100000
namespace Lp
open Go Go.Proofs
end Lp
set_option maxRecDepth 100000
namespace Lp
open Go Go.Proofs
noncomputable def nZ:LC:=(gen [16,17] [(451,none),(1987,none)] [18] Tryz.f23)
theorem n_:aN Tryz.prog 23 97 [.tmp 4,.tmp 5] nZ:=aY Tryz.func23 rfl (by kernel_rfl)
theorem Am:aN Tryz.prog 22 22 [.tmp 2] (gen [8] [(25,none)] [] Tryz.f22):=aY Tryz.func22 rfl (by kernel_rfl)
theorem yM:aN Tryz.prog 47 41 [.tmp 4] (gen [12] [(99,some (1,1))] [] Tryz.f47):=aY Tryz.func47 rfl (by kernel_rfl)
end Lp
set_option maxRecDepth 100000
namespace Lp
open Go Go.Proofs
theorem yN:aN Tryz.prog 13 27 [.tmp 4] (gen [] [(35,none)] [] Tryz.f13):=aY Tryz.func13 rfl (by kernel_rfl)
theorem Ie:aN Tryz.prog 128 48 [.tmp 2] (gen [] [] [2] Tryz.f128):=aY Tryz.func128 rfl (by kernel_rfl)
theorem NA:aN Tryz.prog 164 54 [.tmp 2] (gen [] [] [1] Tryz.f164):=aY Tryz.func164 rfl (by kernel_rfl)
theorem Ig:aN Tryz.prog 121 17 [.tmp 4] (gen [] [] [] Tryz.f121):=aY Tryz.func121 rfl (by kernel_rfl)
theorem Ee:aN Tryz.prog 118 6 [.tmp 2] (gen [] [] [] Tryz.f118):=aY Tryz.func118 rfl (by kernel_rfl)
theorem NC:aN Tryz.prog 105 123 [.tmp 2] (gen [9] [(7177,some (1,1)),(7209,none)] [19] Tryz.f105):=aY Tryz.func105 rfl (by kernel_rfl)
theorem Ih:aN Tryz.prog 130 6 [.tmp 2] (gen [] [] [] Tryz.f130):=aY Tryz.func130 rfl (by kernel_rfl)
theorem jc:aN Tryz.prog 129 9 [.tmp 4] (gen [] [] [] Tryz.f129):=aY Tryz.func129 rfl (by kernel_rfl)
theorem jE:aN Tryz.prog 165 19 [.tmp 4] (gen [] [(387,none)] [] Tryz.f165):=aY Tryz.func165 rfl (by kernel_rfl)
theorem Qy:aN Tryz.prog 29 10 [.tmp 2] (gen [6] [] [] Tryz.f29):=aY Tryz.func29 rfl (by kernel_rfl)
theorem lD:aN Tryz.prog 53 36 [.tmp 2] (gen [] [(3593,none),(234881088,none)] [] Tryz.f53):=aY Tryz.func53 rfl (by kernel_rfl)
theorem Qz:aN Tryz.prog 59 35 [.tmp 4] (gen [12] [(57377,none)] [] Tryz.f59):=aY Tryz.func59 rfl (by kernel_rfl)
theorem sZ:aN Tryz.prog 31 66 [.tmp 4,.tmp 5] (gen [] [(14680131,none),(7881299347904576,none)] [19] Tryz.f31):=aY Tryz.func31 rfl (by kernel_rfl)
theorem lg:aN Tryz.prog 57 9 [.tmp 2] (gen [] [] [] Tryz.f57):=aY Tryz.func57 rfl (by kernel_rfl)
theorem lS:aN Tryz.prog 58 4 [.tmp 2] (gen [] [] [] Tryz.f58):=aY Tryz.func58 rfl (by kernel_rfl)
theorem kS:aN Tryz.prog 86 16 [] (gen [] [(225,none)] [] Tryz.f86):=aY Tryz.func86 rfl (by kernel_rfl)
theorem kI:aN Tryz.prog 84 5 [.tmp 2] (gen [] [] [] Tryz.f84):=aY Tryz.func84 rfl (by kernel_rfl)
theorem fZ:aN Tryz.prog 108 13 [.tmp 4] (gen [] [(0,none)] [] Tryz.f108):=aY Tryz.func108 rfl (by kernel_rfl)
end Lp
set_option maxRecDepth 100000
namespace Lp
open Go Go.Proofs
theorem jF:aN Tryz.prog 106 19 [.tmp 4] (gen [] [(387,none)] [] Tryz.f106):=aY Tryz.func106 rfl (by kernel_rfl)
theorem jd:aN Tryz.prog 77 9 [.tmp 4] (gen [] [] [] Tryz.f77):=aY Tryz.func77 rfl (by kernel_rfl)
theorem FZ:aN Tryz.prog 76 11 [.tmp 2] (gen [] [] [1] Tryz.f76):=aY Tryz.func76 rfl (by kernel_rfl)
theorem KO:aN Tryz.prog 79 36 [.tmp 4] (gen [] [] [1] Tryz.f79):=aY Tryz.func79 rfl (by kernel_rfl)
theorem Ii:aN Tryz.prog 51 22 [.tmp 6] (gen [] [] [1] Tryz.f51):=aY Tryz.func51 rfl (by kernel_rfl)
theorem Ef:aN Tryz.prog 78 8 [.tmp 3] (gen [] [] [1] Tryz.f78):=aY Tryz.func78 rfl (by kernel_rfl)
theorem UJ:aN Tryz.prog 102 31 [.tmp 2] (gen [] [] [] Tryz.f102):=aY Tryz.func102 rfl (by kernel_rfl)
theorem ND:aN Tryz.prog 103 25 [.tmp 2] (gen [] [] [] Tryz.f103):=aY Tryz.func103 rfl (by kernel_rfl)
theorem Ij:aN Tryz.prog 75 63 [.cell 4 42,.tmp 5] (gen [] [] [] Tryz.f75):=aY Tryz.func75 rfl (by kernel_rfl)
theorem Ao:aN Tryz.prog 50 4 [.tmp 2] (gen [] [] [1] Tryz.f50):=aY Tryz.func50 rfl (by kernel_rfl)
theorem xI:aN Tryz.prog 74 90 [] (gen [18] [(3670027,none),(120262754347,none),(2017612633061982217,none),(4231240368651202111471617,none)] [6,12,13,20,21,24] Tryz.f74):=aY Tryz.func74 rfl (by kernel_rfl)
theorem KP:aN Tryz.prog 27 16 [.cell 4 42,.cell 5 4] (gen [] [(0,some (1,6))] [] Tryz.f27):=aY Tryz.func27 rfl (by kernel_rfl)
theorem QA:aN Tryz.prog 101 50 [.cell 6 42,.tmp 7] (gen [] [] [] Tryz.f101):=aY Tryz.func101 rfl (by kernel_rfl)
theorem Ap:aN Tryz.prog 89 28 [.tmp 4] (gen [] [] [] Tryz.f89):=aY Tryz.func89 rfl (by kernel_rfl)
theorem yO:aN Tryz.prog 62 11 [.tmp 2] (gen [] [] [1] Tryz.f62):=aY Tryz.func62 rfl (by kernel_rfl)
theorem yP:aN Tryz.prog 98 16 [.tmp 2] (gen [] [] [1] Tryz.f98):=aY Tryz.func98 rfl (by kernel_rfl)
theorem yQ:aN Tryz.prog 64 14 [.tmp 4] (gen [] [] [1] Tryz.f64):=aY Tryz.func64 rfl (by kernel_rfl)
theorem Aq:aN Tryz.prog 63 16 [.tmp 4] (gen [] [(35,none)] [] Tryz.f63):=aY Tryz.func63 rfl (by kernel_rfl)
theorem xJ:aN Tryz.prog 37 31 [.tmp 6] (gen [] [(162,none)] [1] Tryz.f37):=aY Tryz.func37 rfl (by kernel_rfl)
end Lp
namespace Lp
open Go
def yR (b:Bool) (X Y:Prop):Prop:=(b=true→X)∧(b=false→Y)
@[congr] theorem abn {b b':Bool}{X Y:Prop}(h:b=b'):yR b X Y=yR b' X Y:=by rw [h]
theorem ZR :
  (∀ X Y,yR true X Y=X)∧(∀ X Y,yR false X Y=Y)∧
  (∀ (p:Prop) [Decidable p] X Y,yR (decide p) X Y=((p→X)∧(¬ p→Y)))∧
  (∀ b X Y,yR (!b) X Y=yR b Y X)∧
  (∀ a b X Y,yR (a && b) X Y=yR a (yR b X Y) Y)∧
  (∀ a b X Y,yR (a || b) X Y=yR a X (yR b X Y))∧
  (∀ (x y:List UInt8) X Y,yR (x==y) X Y=((x=y→X)∧(x≠y→Y)))∧
  (∀ (x y:Bool) X Y,yR (x==y) X Y=((x=y→X)∧(x≠y→Y))):=by
 refine ⟨fun X Y=>?_,fun X Y=>?_,fun p _ X Y=>?_,fun b X Y=>?_,fun a b X Y=>?_,fun a b X Y=>?_,fun x y X Y=>?_,fun x y X Y=>?_⟩
 · simp [yR]
 · simp [yR]
 · simp [yR]
 · cases b <;> simp [yR]
 · cases a <;> simp [yR]
 · cases a <;> simp [yR]
 · simp [yR]
 · simp [yR]
theorem abJ :
  (∀ (n:St→Prop) (Q:Exit→St→Prop) S,thenS n Q .normal S=n S)∧
  (∀ (n:St→Prop) (Q:Exit→St→Prop) S,thenS n Q .ret S=Q .ret S)∧
  (∀ (n:St→Prop) (Q:Exit→St→Prop) S id,thenS n Q (.exit id) S=Q (.exit id) S)∧
  (∀ (Q:Exit→St→Prop) S id,qH id Q .normal S=Q .normal S)∧
  (∀ (Q:Exit→St→Prop) S id,qH id Q .ret S=Q .ret S)∧
  (∀ (Q:Exit→St→Prop) S id id',qH id Q (.exit id') S=if id'=id then Q .normal S else Q (.exit id') S)∧
  (∀ b X Y,xW (.bool b) X Y=yR b X Y):=
 ⟨fun _ _ _=>rfl,fun _ _ _=>rfl,fun _ _ _ _=>rfl,fun _ _ _=>rfl,fun _ _ _=>rfl,fun _ _ _ _=>rfl,fun _ _ _=>rfl⟩
theorem abK :
  (∀ (S:St) (X Y:St→Prop),vk none S X Y=X S)∧
  (∀ d w (S:St) (X Y:St→Prop),vk (some (some d,w)) S X Y=kR (S.tmps.getD d .dead) d w S X Y)∧
  (∀ b d (S:St) (X Y:St→Prop),kR (.bool b) d true S X Y=yR b (X { S with tmps:=S.tmps.set d (.bool true) }) (Y { S with tmps:=S.tmps.set d (.bool false) }))∧
  (∀ b d (S:St) (X Y:St→Prop),kR (.bool b) d false S X Y=yR b (Y { S with tmps:=S.tmps.set d (.bool true) }) (X { S with tmps:=S.tmps.set d (.bool false) }))∧
  (∀ d w (S:St) (X Y:St→Prop),kR (.bV []) d w S X Y=Y S):=
 ⟨fun _ _ _=>rfl,fun _ _ _ _ _=>rfl,fun _ _ _ _ _=>rfl,fun b _ _ _ _=>by cases b <;> simp [kR,yR],fun _ _ _ _ _=>rfl⟩
structure HQ (C:LC) (Q:Exit→St→Prop):Type where
def aaT (P:Program) (D:TypeId→aG) (T:Know){C:LC}{Q:Exit→St→Prop}(_h:HQ C Q) (S:St):Prop:=kr P D T C Q S
theorem hoR (P:Program) (D:TypeId→aG) (T:Know) :
  (∀ ks fz c (Q:Exit→St→Prop) S,kr P D T (.loop ks fz c) Q S=aaT P D T (HQ.mk:HQ (.loop ks fz c) Q) S)∧
  (∀ c (Q:Exit→St→Prop) S,kr P D T (.weak c) Q S=aaT P D T (HQ.mk:HQ (.weak c) Q) S)∧
  (∀ f ps fz x y (Q:Exit→St→Prop) S,kr P D T (.rf f ps fz x y) Q S=aaT P D T (HQ.mk:HQ (.rf f ps fz x y) Q) S):=
 ⟨fun _ _ _ _ _=>rfl,fun _ _ _=>rfl,fun _ _ _ _ _ _ _=>rfl⟩
def jX:List (Nat×PV)→Nat→PV
 | [],_=>.dead
 | (j,p)::l,i=>if i=j then p else jX l i
def cO (n:Nat) (l:List (Nat×PV)):List PV:=(List.range n).map (jX l)
theorem mU (n:Nat) (l:List (Nat×PV)):(cO n l).length=n:=by simp [cO]
theorem tq (n:Nat) (l:List (Nat×PV)) (i:Nat):(cO n l)[i]?=if i<n then some (jX l i) else none:=by
 simp only [cO,List.getElem?_map]
 split
 · rename_i h;rw [List.getElem?_range h];rfl
 · rename_i h;rw [List.getElem?_eq_none (by simpa using h)];rfl
theorem wK {n:Nat}{l:List (Nat×PV)}{m:List PV}(hm:m.length=n) (h:∀ i,i<n→m[i]?=some (jX l i)):m=cO n l:=by
 refine List.ext_getElem? fun i=>?_
 rw [tq]
 split
 · rename_i hi;exact h i hi
 · rename_i hi;exact List.getElem?_eq_none (by omega)
def NE (d n:Nat) (objs:List Obj):List (Nat×PV)→List (Nat×PV)
 | []=>[]
 | (j,p)::l=>(j,gH d n objs p)::NE d n objs l
def fgA (ks:List Bool):List (Nat×PV)→List (Nat×PV)
 | []=>[]
 | (j,p)::l=>if ks[j]?=some true then (j,p)::fgA ks l else fgA ks l
theorem Tf (d n:Nat) (objs:List Obj):∀ (l:List (Nat×PV)) i,jX (NE d n objs l) i=gH d n objs (jX l i)
 | [],i=>by simp [jX,NE,gH,eY]
 | (j,p)::l,i=>by
  simp only [jX,NE]
  split
  · rfl
  · exact Tf d n objs l i
theorem WT (ks:List Bool):∀ (l:List (Nat×PV)) i,jX (fgA ks l) i=if ks[i]?=some true then jX l i else .dead
 | [],i=>by simp [jX,fgA]
 | (j,p)::l,i=>by
  have ih:=WT ks l i
  simp only [fgA]
  split
  · rename_i h
    simp only [jX]
    by_cases hij:i=j
    · subst hij;simp [h]
    · simp only [hij,if_false,ih]
  · rename_i h
    rw [ih]
    by_cases hij:i=j
    · subst hij;simp [h]
    · simp [jX,hij]
theorem vF:∀ (ks:List Bool) (l:List PV) (i:Nat),(xE ks l)[i]?=l[i]?.map fun p=>if ks[i]?=some true then p else .dead
 | ks,[],i=>by cases ks <;> simp [xE]
 | [],p::ps,0=>by simp [xE]
 | [],p::ps,i+1=>by simpa [xE] using vF [] ps i
 | true::ks,p::ps,0=>by simp [xE]
 | false::ks,p::ps,0=>by simp [xE]
 | true::ks,p::ps,i+1=>by simpa [xE] using vF ks ps i
 | false::ks,p::ps,i+1=>by simpa [xE] using vF ks ps i
theorem kT :
  (∀ i p l,jX ((i,p)::l) i=p)∧(∀ i j p l,(i==j)=false→jX ((j,p)::l) i=jX l i)∧(∀ i,jX [] i=.dead):=by
 refine ⟨fun i p l=>by simp [jX],fun i j p l h=>?_,fun _=>rfl⟩
 simp only [jX]
 rw [if_neg (by simpa using h)]
theorem mV :
  (∀ n l i p,(cO n l).set i p=cO n ((i,p)::l))∧
  (∀ n l i,i<n→(cO n l).getD i .dead=jX l i)∧
  (∀ n l d k objs,(cO n l).map (gH d k objs)=cO n (NE d k objs l))∧
  (∀ ks n l,xE ks (cO n l)=cO n (fgA ks l))∧
  (∀ d n objs,NE d n objs []=[])∧(∀ d n objs j p l,NE d n objs ((j,p)::l)=(j,gH d n objs p)::NE d n objs l):=by
 refine ⟨fun n l i p=>?_,fun n l i h=>?_,fun n l d k objs=>?_,fun ks n l=>?_,fun _ _ _=>rfl,fun _ _ _ _ _ _=>rfl⟩
 · refine wK (by simp [mU]) fun k hk=>?_
   rw [List.getElem?_set]
   simp only [jX]
   split
   · rename_i h;subst h;simp [mU,hk]
   · rename_i h;rw [tq,if_pos hk,if_neg (fun h'=>h h'.symm)]
 · rw [List.getD_eq_getElem?_getD,tq,if_pos h];rfl
 · refine wK (by simp [mU]) fun i hi=>?_
   rw [List.getElem?_map,tq,if_pos hi,Tf];rfl
 · refine wK (by simp [mO,mU]) fun i hi=>?_
   rw [vF,tq,if_pos hi,WT];rfl
theorem WU :
  (∀ n,bT [] n=⟨cO n [],[]⟩)∧
  (∀ a n,1≤n→bT [a] n=⟨cO n [(0,a)],[]⟩)∧
  (∀ a b n,2≤n→bT [a,b] n=⟨cO n [(0,a),(1,b)],[]⟩)∧
  (∀ a b c n,3≤n→bT [a,b,c] n=⟨cO n [(0,a),(1,b),(2,c)],[]⟩)∧
  (∀ a b c d n,4≤n→bT [a,b,c,d] n=⟨cO n [(0,a),(1,b),(2,c),(3,d)],[]⟩)∧
  (∀ a b c d e n,5≤n→bT [a,b,c,d,e] n=⟨cO n [(0,a),(1,b),(2,c),(3,d),(4,e)],[]⟩):=by
 have key:∀ (args:List PV) (n:Nat) (l:List (Nat×PV)),args.length≤n→(∀ i,i<n→args.getD i .dead=jX l i)→bT args n=⟨cO n l,[]⟩:=by
  intro args n l h1 h2
  have:args++List.replicate (n-args.length) PV.dead=cO n l:=by
   refine wK (by simp;omega) fun i hi=>?_
   rw [← h2 i hi,List.getElem?_append,List.getD_eq_getElem?_getD]
   split
   · rename_i h;rw [List.getElem?_eq_getElem h];rfl
   · rename_i h;rw [List.getElem?_replicate,if_pos (by omega),List.getElem?_eq_none (by omega)];rfl
  rw [bT,this]
 refine ⟨fun n=>key _ _ _ (by simp) ?_,fun a n h=>key _ _ _ h ?_,fun a b n h=>key _ _ _ h ?_,fun a b c n h=>key _ _ _ h ?_,fun a b c d n h=>key _ _ _ h ?_,fun a b c d e n h=>key _ _ _ h ?_⟩
 all_goals
  intro i _
  match i with
  | 0=>rfl
  | 1=>rfl
  | 2=>rfl
  | 3=>rfl
  | 4=>rfl
  | i+5=>simp [jX]
theorem aaU :
  (∀ tm ob d p,St.put ⟨tm,ob⟩ (some d) p=⟨tm.set d p,ob⟩)∧
  (∀ tm ob p,St.put ⟨tm,ob⟩ none p=⟨tm,ob⟩)∧
  (∀ tm ob t,St.ev ⟨tm,ob⟩ (.tmp t)=tm.getD t .dead)∧
  (∀ (S:St) v,S.ev (.const v)=.uW v)∧
  (∀ (S:St) f,S.ev (.func f)=.fn f [] [])∧
  (∀ k n,PV.uW (.int k n)=.int k n)∧(∀ b,PV.uW (.bool b)=.bool b)∧(∀ l,PV.uW (.string ⟨⟨l⟩⟩)=.str l)∧
  (PV.uW (.slice none 0 0)=.sl 0 [] (some true))∧(PV.uW (.pointer none)=.zP)∧(PV.uW .nilFunc=.Cc):=
 ⟨fun _ _ _ _=>rfl,fun _ _ _=>rfl,fun _ _ _=>rfl,fun _ _=>rfl,fun _ _=>rfl,
  fun _ _=>rfl,fun _=>rfl,fun _=>rfl,rfl,rfl,rfl⟩
end Lp
namespace Lp
open Go
def au (n:Nd):PV:=.agg [.int .i64 n.kind,.int .i64 n.many,.str n.name,.str n.s,.bool n.neg,.int .i64 n.e]
def aC (v:Vl):PV:=.sl 6 (v.map au) none
end Lp
set_option maxRecDepth 100000
namespace Lp
open Go
structure HK {α:Type}(K:α→Prop):Type where
def atO {α:Type}{K:α→Prop}(o:Option α) (_h:HK K):Prop:=∃ x,o=some x∧K x
theorem atR {α:Type}(K:α→Prop):(∀ x,atO (some x) (HK.mk:HK K)=K x)∧(∀ (a:α) l,(a::l)[0]?=some a)∧(∀ (a:α) l (n:Nat),(a::l)[n+1]?=l[n]?):=
 ⟨fun x=>by simp [atO],fun _ _=>rfl,fun _ _ _=>by simp⟩
def JI (k:TK) (K:TypeId→Prop):Prop:=match k with
 | .slice e=>K e
 | _=>False
def arK (k:TK) (K:Nat→TypeId→Prop):Prop:=match k with
 | .array n e=>K n e
 | _=>False
def KQ (k:TK) (X:Prop):Prop:=match k with
 | .str=>X
 | _=>False
@[congr] theorem abo {k k':TK}{K:TypeId→Prop}(h:k=k'):JI k K=JI k' K:=by rw [h]
@[congr] theorem abp {k k':TK}{K:Nat→TypeId→Prop}(h:k=k'):arK k K=arK k' K:=by rw [h]
@[congr] theorem aaV {k k':TK}{X:Prop}(h:k=k'):KQ k X=KQ k' X:=by rw [h]
theorem skR:(∀ e K,JI (.slice e) K=K e)∧(∀ n e K,arK (.array n e) K=K n e)∧(∀ X,KQ .str X=X):=⟨fun _ _=>rfl,fun _ _ _=>rfl,fun _=>rfl⟩
theorem WV (D:TypeId→aG) (objs:List Obj) (K:KT) :
  (∀ t sz xs q k n,a_ D t (.sl sz xs q) (.int k n) objs K=JI (D t).kind fun e=>(D e).kind≠.none∧0≤n∧(D e).size=sz∧atO xs[n.toNat]? (HK.mk:HK fun y=>K (.addr y) objs 0))∧
  (∀ t k ver k' n,a_ D t (.aX k ver) (.int k' n) objs K=JI (D t).kind fun e=>(D e).kind≠.none∧0≤n∧∃ o,objs[k]?=some o∧o.live=true∧o.ver=ver∧n<o.xs.length∧(D e).size=o.sz∧K (.bL k ver n.toNat 0) objs (4+2*k))∧
  (∀ t cs k n,a_ D t (.addr (.agg cs)) (.int k n) objs K=arK (D t).kind fun m e=>(D e).kind≠.none∧0≤n∧n<m∧(n.toNat+1)*(D e).size≤cs.length∧((D e).agg=false→(D e).size=1)∧cs.all (fun c=>!c.isAgg)=true∧
   K (.addr (sub cs (n.toNat*(D e).size) (D e).size (D e).agg)) objs 0)∧
  (∀ t k ver i f k' n,a_ D t (.bL k ver i f) (.int k' n) objs K=arK (D t).kind fun m e=>(D e).kind≠.none∧0≤n∧n<m∧∃ o,objs[k]?=some o∧o.live=true∧o.ver=ver∧K (.bL k ver i (f+n.toNat*(D e).size)) objs (4+2*k))∧
  (∀ t s k n,kP D t (.str s) (.int k n) objs K=KQ (D t).kind (0≤n∧atO s[n.toNat]? (HK.mk:HK fun b=>K (.int .u8 b.toNat) objs 0)))∧
  (∀ t cs k n,kP D t (.agg cs) (.int k n) objs K=arK (D t).kind fun m e=>(D e).kind≠.none∧0≤n∧n<m∧(n.toNat+1)*(D e).size≤cs.length∧(D e).size≠0∧K (sub cs (n.toNat*(D e).size) (D e).size (D e).agg) objs 0)∧
  (∀ t cs f,aL D t (.addr (.agg cs)) f objs K=dW D t f fun off ti=>off+ti.size≤cs.length∧(ti.agg=false→ti.size=1)∧cs.all (fun c=>!c.isAgg)=true∧K (.addr (sub cs off ti.size ti.agg)) objs 0)∧
  (∀ t k ver i f' f,aL D t (.bL k ver i f') f objs K=∃ o,objs[k]?=some o∧o.live=true∧o.ver=ver∧dW D t f fun off _=>K (.bL k ver i (f'+off)) objs (4+2*k))∧
  (∀ t cs f,nU D t (.agg cs) f objs K=dW D t f fun off ti=>off+ti.size≤cs.length∧K (sub cs off ti.size ti.agg) objs 0)∧
  (∀ t s,pq D t (.str s) objs K=KQ (D t).kind (K (.int .i64 s.length) objs 0))∧
  (∀ t sz xs q,pq D t (.sl sz xs q) objs K=JI (D t).kind fun _=>K (.int .i64 xs.length) objs 0)∧
  (∀ t k ver,pq D t (.aX k ver) objs K=JI (D t).kind fun _=>∃ o,objs[k]?=some o∧o.live=true∧o.ver=ver∧K (.int .i64 o.xs.length) objs (4+2*k))∧
  (∀ t s lo hi,iQ D t (.str s) lo hi objs K=KQ (D t).kind (dm lo 0 fun l=>dm hi s.length fun h=>0≤l∧l≤h∧h≤s.length∧K (.str ((s.take h.toNat).drop l.toNat)) objs 0))∧
  (∀ t sz xs q lo hi,iQ D t (.sl sz xs q) lo hi objs K=JI (D t).kind fun e=>(D e).kind≠.none∧(xs=[]∨(D e).size=sz)∧dm lo 0 fun l=>dm hi xs.length fun h=>0≤l∧l≤h∧h≤xs.length∧
   K (.sl sz ((xs.take h.toNat).drop l.toNat) q) objs 0)∧
  (∀ t k ver lo hi,iQ D t (.aX k ver) lo hi objs K=JI (D t).kind fun e=>(D e).kind≠.none∧∃ o,objs[k]?=some o∧o.live=true∧o.ver=ver∧(D e).size=o.sz∧lo=none∧dm hi o.xs.length fun h=>0≤h∧h≤o.xs.length∧
   K (.aX k (ver+1)) (objs.set k { o with xs:=o.xs.take h.toNat,ver:=ver+1 }) (5+2*k)):=by
 refine ⟨fun t sz xs q k n=>?_,fun t k ver k' n=>?_,fun t cs k n=>?_,fun t k ver i f k' n=>?_,fun t s k n=>?_,fun t cs k n=>?_,fun _ _ _=>rfl,fun _ _ _ _ _ _=>rfl,fun _ _ _=>rfl,fun t s=>?_,fun t sz xs q=>?_,fun t k ver=>?_,fun t s lo hi=>?_,fun t sz xs q lo hi=>?_,fun t k ver lo hi=>?_⟩
 all_goals try simp only [a_,kP,pq,iQ]
 all_goals cases (D t).kind <;> simp only [JI,arK,KQ,atO]
 apply propext
 constructor
 · rintro ⟨h1,h2,y,h3,h4,h5⟩;exact ⟨h1,h2,h4,y,h3,h5⟩
 · rintro ⟨h1,h2,h4,y,h3,h5⟩;exact ⟨h1,h2,y,h3,h4,h5⟩
theorem ldR (objs:List Obj) (K:KT) :
  (∀ ti x,eU ti (.addr x) objs K=(ti.kind≠.none∧x.cells.length=ti.size∧x.isAgg=ti.agg∧K x objs 0))∧
  (∀ ti k ver i f,eU ti (.bL k ver i f) objs K=∃ o e,objs[k]?=some o∧o.live=true∧o.ver=ver∧o.xs[i]?=some e∧ti.kind≠.none∧f+ti.size≤e.cells.length∧
   (ti.agg=false→ti.size=1)∧e.cells.all (fun c=>!c.isAgg)=true∧K (sub e.cells f ti.size ti.agg) objs (4+2*k)):=⟨fun _ _=>rfl,fun _ _ _ _ _=>rfl⟩
theorem WW (D:TypeId→aG) (objs:List Obj) (K:List PV→Bool→Prop) :
  (∀ t sz xs q,mg D t (.sl sz xs q) objs K=JI (D t).kind fun _=>K xs false)∧
  (∀ t k ver,mg D t (.aX k ver) objs K=JI (D t).kind fun _=>∃ o,objs[k]?=some o∧o.live=true∧o.ver=ver∧K o.xs true)∧
  (∀ t s,mg D t (.str s) objs K=KQ (D t).kind (K (s.map fun b=>.int .u8 b.toNat) false)):=by
 refine ⟨fun t sz xs q=>?_,fun t k ver=>?_,fun t s=>?_⟩
 all_goals simp only [mg]
 all_goals cases (D t).kind <;> simp only [JI,KQ]
@[congr] theorem aaW {D:TypeId→aG}{t:TypeId}{x x':PV}{objs objs':List Obj}{K:List PV→Bool→Prop}(h:x=x') (ho:objs=objs'):mg D t x objs K=mg D t x' objs' K:=by rw [h,ho]
theorem ntR:noTwo []=true∧(∀ l,noTwo (0::l)=noTwo l)∧(∀ l,noTwo (1::l)=noTwo l)∧(∀ l,noTwo (4::l)=noTwo l)∧(∀ l,noTwo (6::l)=noTwo l)∧(∀ l,noTwo (8::l)=noTwo l)∧(∀ l,noTwo (10::l)=noTwo l):=
 ⟨rfl,fun _=>rfl,fun _=>rfl,fun _=>rfl,fun _=>rfl,fun _=>rfl,fun _=>rfl⟩
theorem rC {α:Type}{E:List α→PV}{sz:Nat}{enc:α→PV}(hE:∀ l,E l=.sl sz (l.map enc) none) (D:TypeId→aG) (objs:List Obj) (K:KT) :
  (∀ t l k n,a_ D t (E l) (.int k n) objs K=JI (D t).kind fun e=>(D e).kind≠.none∧0≤n∧(D e).size=sz∧atO l[n.toNat]? (HK.mk:HK fun y=>K (.addr (enc y)) objs 0))∧
  (∀ t l,pq D t (E l) objs K=JI (D t).kind fun _=>K (.int .i64 l.length) objs 0)∧
  (∀ t l lo hi,iQ D t (E l) lo hi objs K=JI (D t).kind fun e=>(D e).kind≠.none∧(l=[]∨(D e).size=sz)∧dm lo 0 fun a=>dm hi l.length fun h=>0≤a∧a≤h∧h≤l.length∧
   K (E ((l.take h.toNat).drop a.toNat)) objs 0):=by
 refine ⟨fun t l k n=>?_,fun t l=>?_,fun t l lo hi=>?_⟩
 all_goals simp only [hE,(WV D objs K).1,(WV D objs K).2.2.2.2.2.2.2.2.2.2.1,(WV D objs K).2.2.2.2.2.2.2.2.2.2.2.2.2.1]
 all_goals cases (D t).kind <;> simp only [JI,atO,List.length_map,List.map_eq_nil_iff,List.map_drop,List.map_take]
 apply propext
 constructor
 · rintro ⟨h1,h2,h4,y,h3,h5⟩
   rw [List.getElem?_map] at h3
   cases hx:l[n.toNat]? with
   | none=>rw [hx] at h3;simp at h3
   | some x=>rw [hx] at h3;simp only [Option.map_some,Option.some.injEq] at h3;exact ⟨h1,h2,h4,x,rfl,h3 ▸ h5⟩
 · rintro ⟨h1,h2,h4,y,h3,h5⟩
   exact ⟨h1,h2,h4,enc y,by rw [List.getElem?_map,h3];rfl,h5⟩
theorem jk {α:Type}{E:List α→PV}{sz:Nat}{enc:α→PV}(hE:∀ l,E l=.sl sz (l.map enc) none) (D:TypeId→aG) (objs:List Obj) (K:List PV→Bool→Prop) :
  (∀ t l,mg D t (E l) objs K=JI (D t).kind fun _=>K (l.map enc) false):=by
 intro t l
 rw [hE]
 exact (WW D objs K).1 ..
theorem rD {α:Type}{E:List α→PV}{sz:Nat}{enc:α→PV}(hE:∀ l,E l=.sl sz (l.map enc) none) :
  (∀ l,(E l).cells=[E l])∧(∀ l,(E l).isAgg=false)∧(∀ l,(E l).pure=true)∧(∀ l,(E l).ref=false)∧(∀ l,(E l).mr=true)∧(∀ l,(E l).storable=true)∧
  (∀ d n O l,eY d n O (E l)=E l)∧(∀ d n O l,gH d n O (E l)=E l):=by
 refine ⟨fun l=>?_,fun l=>?_,fun l=>?_,fun l=>?_,fun l=>?_,fun l=>?_,fun _ _ _ l=>?_,fun _ _ _ l=>?_⟩
 all_goals rw [hE];rfl
def f_ {α:Type}(E:α→PV){K:α→Prop}(x:PV) (_h:HK K):Prop:=∃ v,x=E v∧K v
theorem aM {α:Type}{E:α→PV}(hE:∀ a b,E a=E b→a=b) (K:α→Prop) (v:α):f_ E (E v) (HK.mk:HK K)=K v:=
 propext ⟨fun ⟨w,h,hk⟩=>hE v w h ▸ hk,fun hk=>⟨v,rfl,hk⟩⟩
theorem ni {α:Type}{E:List α→PV}{sz:Nat}{enc:α→PV}(hE:∀ l,E l=.sl sz (l.map enc) none) (he:∀ a b,enc a=enc b→a=b):∀ a b,E a=E b→a=b:=by
 intro a b h
 rw [hE,hE] at h
 injection h with _ h _
 induction a generalizing b with
 | nil=>cases b with
  | nil=>rfl
  | cons y ys=>simp at h
 | cons x xs ih=>cases b with
  | nil=>simp at h
  | cons y ys=>
   simp only [List.map_cons,List.cons.injEq] at h
   rw [he x y h.1,ih ys h.2]
theorem exS {α:Type}(a:α) (q:α→Prop):(∃ o,some a=some o∧q o)=q a:=by simp
theorem abL:(∀ k n,PV.storable (.int k n)=true)∧(∀ b,PV.storable (.bool b)=true)∧(∀ s,PV.storable (.str s)=true)∧(∀ z xs q,PV.storable (.sl z xs q)=true)∧
  (∀ k v,PV.storable (.aX k v)=true)∧(∀ k v i f,PV.storable (.bL k v i f)=true)∧(∀ x,PV.storable (.addr x)=true):=
 ⟨fun _ _=>rfl,fun _=>rfl,fun _=>rfl,fun _ _ _=>rfl,fun _ _=>rfl,fun _ _ _ _=>rfl,fun _=>rfl⟩
theorem WX {α β:Type}(f:α→β) (l m:List α):l.map f++m.map f=(l++m).map f:=by simp
def uI {α:Type}(enc:α→PV):Prop:=∀ d n objs x,PV.bF (fM d n objs) (enc x)=enc x
theorem iC {α:Type}{E:List α→PV}{sz:Nat}{enc:α→PV}(hE:∀ l,E l=.sl sz (l.map enc) none) (h:uI enc) :
  (∀ d ty l v rest,eY (d+1) 0 (⟨ty,sz,l.map enc,true,v⟩::rest) (.aX 0 v)=E l)∧
  (∀ d ty l v o rest,eY (d+1) 0 (o::⟨ty,sz,l.map enc,true,v⟩::rest) (.aX 1 v)=E l)∧
  (∀ d ty l v o o' rest,eY (d+1) 0 (o::o'::⟨ty,sz,l.map enc,true,v⟩::rest) (.aX 2 v)=E l):=by
 have key:∀ d ty l v objs k,objs[k]?=some ⟨ty,sz,l.map enc,true,v⟩→eY (d+1) 0 objs (.aX k v)=E l:=by
  intro d ty l v objs k hk
  simp only [eY,Nat.not_lt_zero,if_false,fM,hk,Nat.zero_le,decide_true,Bool.and_self,BEq.rfl,if_true]
  rw [hE]
  congr 1
  rw [List.map_map]
  exact List.map_congr_left fun x _=>h d 0 objs x
 exact ⟨fun d ty l v rest=>key d ty l v _ 0 rfl,fun d ty l v o rest=>key d ty l v _ 1 rfl,fun d ty l v o o' rest=>key d ty l v _ 2 rfl⟩
theorem qK {α:Type}{enc:α→PV}{sz:Nat}(h1:∀ x,(enc x).cells.length=sz) (h2:∀ x,(enc x).cells.all PV.storable=true) (l:List α) :
  (∀ y,y ∈ l.map enc→y.cells.length=sz∧y.cells.all PV.storable=true)=True:=by
 refine eq_true fun y hy=>?_
 obtain ⟨x,_,rfl⟩:=List.mem_map.1 hy
 exact ⟨h1 x,h2 x⟩
theorem ZT (y0:PV) (sz:Nat):(∀ y,y ∈ [y0]→y.cells.length=sz∧y.cells.all PV.storable=true)=(y0.cells.length=sz∧y0.cells.all PV.storable=true):=by simp
theorem JJ (E:PV) (h:E.ref=false) (k:Nat):(∀ k' v':Nat,E=.aX k' v'→¬ k'=k)=True:=by
 refine eq_true fun k' v' he=>?_
 rw [he] at h;cases h
def qx:List Bool→Nat→List (Nat×PV)→List (Nat×PV)
 | [],_,_=>[]
 | true::ks,i,l=>(i,jX l i)::qx ks (i+1) l
 | false::ks,i,l=>qx ks (i+1) l
theorem F3:∀ (ks:List Bool) (j:Nat) (l:List (Nat×PV)) (i:Nat),jX (qx ks j l) i=if j≤i∧ks[i-j]?=some true then jX l i else .dead
 | [],j,l,i=>by simp [qx,jX]
 | true::ks,j,l,i=>by
  simp only [qx,jX]
  by_cases h:i=j
  · subst h;simp
  · rw [if_neg h,F3 ks (j+1) l i]
    by_cases hj:j+1≤i
    · have e:i-j=(i-(j+1))+1:=by omega
      simp only [e,List.getElem?_cons_succ,hj,true_and,show j≤i by omega]
    · rw [if_neg (by omega),if_neg (by omega)]
 | false::ks,j,l,i=>by
  simp only [qx]
  rw [F3 ks (j+1) l i]
  by_cases h:i=j
  · subst h;rw [if_neg (by omega),if_neg (by simp)]
  · by_cases hj:j+1≤i
    · have e:i-j=(i-(j+1))+1:=by omega
      simp only [e,List.getElem?_cons_succ,hj,true_and,show j≤i by omega]
    · rw [if_neg (by omega),if_neg (by omega)]
theorem NF (ks:List Bool) (n:Nat) (l:List (Nat×PV)):xE ks (cO n l)=cO n (qx ks 0 l):=by
 refine wK (by simp [mO,mU]) fun i hi=>?_
 rw [vF,tq,if_pos hi,F3]
 simp
theorem bI :
  (∀ ks n l ob,St.norm ks none ⟨cO n l,ob⟩=⟨cO n (qx ks 0 l),ob⟩)∧
  (∀ ks d k n l ob,St.norm ks (some (d,k)) ⟨cO n l,ob⟩=St.freeze d k ⟨cO n (qx ks 0 l),ob⟩):=by
 refine ⟨fun ks n l ob=>?_,fun ks d k n l ob=>?_⟩
 · simp only [St.norm,St.forget,NF]
 · simp only [St.norm,St.forget,NF]
theorem keepR:(∀ i l,qx [] i l=[])∧(∀ ks i l,qx (true::ks) i l=(i,jX l i)::qx ks (i+1) l)∧(∀ ks i l,qx (false::ks) i l=qx ks (i+1) l):=
 ⟨fun _ _=>rfl,fun _ _ _=>rfl,fun _ _ _=>rfl⟩
theorem abM (T:Know) (K:KT) (objs:List Obj) (pt:Bool) :
  (∀ g args,nM T pt (.fn g [] []) args objs K=T.fn g args objs K)∧
  (∀ g c,nM T pt (.fn g [] [c]) [] objs K=T.fn g [c] objs K)∧
  (∀ g c a,nM T pt (.fn g [] [c]) [a] objs K=T.fn g [a,c] objs K)∧
  (∀ g c a b,nM T pt (.fn g [] [c]) [a,b] objs K=T.fn g [a,b,c] objs K)∧
  (∀ g c d a,nM T pt (.fn g [] [c,d]) [a] objs K=T.fn g [a,c,d] objs K)∧
  (∀ g c d a b,nM T pt (.fn g [] [c,d]) [a,b] objs K=T.fn g [a,b,c,d] objs K)∧
  (∀ l args,nM T pt (.D8 l) args objs K=(l=T.y∧pt=true∧args.all PV.pure=true∧T.Y args objs fun b o=>K (.bool b) o 2)):=by
 refine ⟨fun g args=>?_,fun _ _=>rfl,fun _ _ _=>rfl,fun _ _ _ _=>rfl,fun _ _ _ _=>rfl,fun _ _ _ _ _=>rfl,fun _ _=>rfl⟩
 simp [nM]
theorem YX (K:KT) (objs:List Obj) (args:List PV) (c:dF) (l:List (FuncId×dF)) (f:FuncId) :
  (sV ((f,c)::l) f args objs K=c args objs K)∧(∀ g,(f==g)=false→sV ((g,c)::l) f args objs K=sV l f args objs K):=by
 refine ⟨by simp [sV],fun g h=>?_⟩
 rw [ZK,h];rfl
@[congr] theorem WY {D:TypeId→aG}{b:Builtin}{ats abN:List TypeId}{args args':List Operand}{ev:Operand→PV}{objs:List Obj}{K:KT}(h:ats=abN) (h1:args=args'):eX D b ats args ev objs K=eX D b abN args' ev objs K:=by rw [h,h1]
theorem ZU (P:Program) (D:TypeId→aG) (T:Know) (w pt:Bool) (ev:Operand→PV) (objs:List Obj) (K:KT) :
  (∀ x,lu P D T w pt ev objs (.move x) K=K (ev x) objs 0)∧(∀ x,lu P D T w pt ev objs (.assign x) K=K (ev x) objs 0)∧
  (∀ c x y,lu P D T w pt ev objs (.pick c x y) K=qm (ev c) (ev x) (ev y) objs K)∧
  (∀ t,lu P D T w pt ev objs (.alloc t) K=qG t (D t) objs K)∧
  (∀ t x,lu P D T w pt ev objs (.box t x) K=Hz t (D t) (ev x) objs K)∧
  (∀ t ps,lu P D T w pt ev objs (.build t ps) K=bE D t (ps.toList.map fun x=>(x.1,ev x.2)) objs K)∧
  (∀ t n ps,lu P D T w pt ev objs (.buildSlice t n ps) K=bJ D w t n (ps.toList.map fun x=>(x.1,ev x.2)) objs K)∧
  (∀ t x,lu P D T w pt ev objs (.load t x) K=eU (D t) (ev x) objs K)∧
  (∀ t x y,lu P D T w pt ev objs (.store t x y) K=jo (D t) (ev x) (ev y) objs K)∧
  (∀ x,lu P D T w pt ev objs (.nilCheck x) K=dJ (ev x) objs K)∧
  (∀ b t x y t',lu P D T w pt ev objs (.binOp b t x y t') K=o_ P (D t) t b (ev x) (ev y) fun r=>K r objs 0)∧
  (∀ u t x,lu P D T w pt ev objs (.unOp u t x) K=MG u (ev x) fun r=>K r objs 0)∧
  (∀ s t x,lu P D T w pt ev objs (.convert s t x) K=jJ D s t (ev x) objs K)∧
  (∀ f first cap,lu P D T w pt ev objs (.makeFunc (.func f) first cap) K=jm f (first.toList.map ev) (cap.toList.map ev) objs K)∧
  (∀ t l c,lu P D T w pt ev objs (.makeSlice t l c) K=fe D t (ev l) (ev c) objs K)∧
  (∀ t x lo hi,lu P D T w pt ev objs (.slice t x lo hi none) K=iQ D t (ev x) (lo.map ev) (hi.map ev) objs K)∧
  (∀ t x f,lu P D T w pt ev objs (.fieldAddr t x f) K=aL D t (ev x) f objs K)∧
  (∀ t x f,lu P D T w pt ev objs (.field t x f) K=nU D t (ev x) f objs K)∧
  (∀ t x i,lu P D T w pt ev objs (.indexAddr t x i) K=a_ D t (ev x) (ev i) objs K)∧
  (∀ t x i,lu P D T w pt ev objs (.index t x i) K=kP D t (ev x) (ev i) objs K)∧
  (∀ x i,lu P D T w pt ev objs (.extract x i) K=bN (ev x) i objs K)∧
  (∀ t x,lu P D T w pt ev objs (.call { callee:=.builtin .len,args:=⟨[x]⟩,argTypes:=⟨[t]⟩ }) K=pq D t (ev x) objs K)∧
  (∀ t u s x,lu P D T w pt ev objs (.call { callee:=.builtin .append,args:=⟨[s,x]⟩,argTypes:=⟨[t,u]⟩ }) K=dX D t u (ev s) (ev x) objs K)∧
  (∀ x y ats,lu P D T w pt ev objs (.call { callee:=.builtin .max,args:=⟨[x,y]⟩,argTypes:=ats }) K=h_ true [ev x,ev y] fun r=>K r objs 0)∧
  (∀ x y ats,lu P D T w pt ev objs (.call { callee:=.builtin .min,args:=⟨[x,y]⟩,argTypes:=ats }) K=h_ false [ev x,ev y] fun r=>K r objs 0)∧
  (∀ f args ats,lu P D T w pt ev objs (.call { callee:=.value f,args:=args,argTypes:=ats }) K=nM T pt (ev f) (args.toList.map ev) objs K):=
 ⟨fun _=>rfl,fun _=>rfl,fun _ _ _=>rfl,fun _=>rfl,fun _ _=>rfl,fun _ _=>rfl,fun _ _ _=>rfl,fun _ _=>rfl,fun _ _ _=>rfl,fun _=>rfl,fun _ _ _ _ _=>rfl,fun _ _ _=>rfl,fun _ _ _=>rfl,
  fun _ _ _=>rfl,fun _ _ _=>rfl,fun _ _ _ _=>rfl,fun _ _ _=>rfl,fun _ _ _=>rfl,fun _ _ _=>rfl,fun _ _ _=>rfl,fun _ _=>rfl,fun _ _=>rfl,fun _ _ _ _=>rfl,fun _ _ _=>rfl,fun _ _ _=>rfl,fun _ _ _=>rfl⟩
theorem abO {α β:Type}(a:α) (q:α→β→Prop):(∃ o e,some a=some o∧q o e)=∃ e,q a e:=by simp
theorem setRow {α:Type}{enc:α→PV}(h:∀ x y:α,(enc x).putCells 0 (enc y).cells=enc y) (l:List α) (i:Nat) (x y:α):(l.map enc).set i ((enc x).putCells 0 (enc y).cells)=(l.set i y).map enc:=by
 rw [h,List.map_set]
theorem abP (P:Program) (D:TypeId→aG) (T:Know) :
  (∀ S ts (K:St→List Nat→Prop),LR P D T [] S ts K=K S ts)∧
  (∀ d o w rest n l ob ts (K:St→List Nat→Prop),LR P D T (⟨some d,o,none,w⟩::rest) ⟨cO n l,ob⟩ ts K=
   lu P D T w ((cO n l).all PV.pure) (St.ev ⟨cO n l,ob⟩) ob o fun r objs' t=>LR P D T rest ⟨cO n ((d,r)::l),objs'⟩ (ts++[t]) K)∧
  (∀ o w rest n l ob ts (K:St→List Nat→Prop),LR P D T (⟨none,o,none,w⟩::rest) ⟨cO n l,ob⟩ ts K=
   lu P D T w ((cO n l).all PV.pure) (St.ev ⟨cO n l,ob⟩) ob o fun r objs' t=>LR P D T rest ⟨cO n l,objs'⟩ (ts++[t]) K)∧
  (∀ d o g v w rest n l ob ts (K:St→List Nat→Prop),LR P D T (⟨some d,o,some (some g,v),w⟩::rest) ⟨cO n l,ob⟩ ts K=
   kR ((cO n l).getD g .dead) g v ⟨cO n l,ob⟩ (fun S=>LR P D T (⟨some d,o,none,w⟩::rest) S ts K) (fun S=>LR P D T rest (S.put (some d) (.bV [])) (ts++[0]) K))∧
  (∀ o g v w rest n l ob ts (K:St→List Nat→Prop),LR P D T (⟨none,o,some (some g,v),w⟩::rest) ⟨cO n l,ob⟩ ts K=
   kR ((cO n l).getD g .dead) g v ⟨cO n l,ob⟩ (fun S=>LR P D T (⟨none,o,none,w⟩::rest) S ts K) (fun S=>LR P D T rest S (ts++[0]) K)):=by
 refine ⟨fun _ _ _=>rfl,fun d o w rest n l ob ts K=>?_,fun o w rest n l ob ts K=>rfl,fun d o g v w rest n l ob ts K=>rfl,fun o g v w rest n l ob ts K=>rfl⟩
 simp only [← mV.1]
 rfl
theorem YZ :
  (∀ b d n l ob (X Y:St→Prop),kR (.bool b) d true ⟨cO n l,ob⟩ X Y=yR b (X ⟨cO n ((d,.bool true)::l),ob⟩) (Y ⟨cO n ((d,.bool false)::l),ob⟩))∧
  (∀ b d n l ob (X Y:St→Prop),kR (.bool b) d false ⟨cO n l,ob⟩ X Y=yR b (Y ⟨cO n ((d,.bool true)::l),ob⟩) (X ⟨cO n ((d,.bool false)::l),ob⟩))∧
  (∀ d w (S:St) (X Y:St→Prop),kR (.bV []) d w S X Y=Y S):=by
 refine ⟨fun b d n l ob X Y=>?_,fun b d n l ob X Y=>?_,fun _ _ _ _ _=>rfl⟩
 · simp only [abK,mV.1]
 · simp only [abK,mV.1]
theorem ZV:(∀ n l ob d p,St.put ⟨cO n l,ob⟩ (some d) p=⟨cO n ((d,p)::l),ob⟩):=fun n l ob d p=>by
 rw [← mV.1];rfl
theorem aN.aZ {P:Program}{D:TypeId→aG}{T:Know}{f:FuncId}{n t:Nat}{C:LC}{args:List PV}{r:PV}(h:aN P f n [.tmp t] C) (d:Nat) (hD:∀ t,iH P t (D t)) (hT:FV P none sU T) (hm:P.follows .mixedOrders=true) (ht:t<n)
  (hw:∀ Q:Exit→St→Prop,(∀ l ob,Q .ret ⟨cO n l,ob⟩=(r=gH d 0 ob (jX l t)))→kr P D T C Q (bT args n)):ah P f args [] r []:=by
 refine h.pure d hD hT hm (by simp) (hw _ fun l ob=>?_)
 simp only [mh,iT,mV.2.1 n l t ht,List.map_cons,List.map_nil,eO]
theorem aN.vG {P:Program}{D:TypeId→aG}{T:Know}{f:FuncId}{n t u:Nat}{C:LC}{args:List PV}{r:PV}(h:aN P f n [.tmp t,.tmp u] C) (d:Nat) (hD:∀ t,iH P t (D t)) (hT:FV P none sU T) (hm:P.follows .mixedOrders=true) (ht:t<n) (hu:u<n)
  (hw:∀ Q:Exit→St→Prop,(∀ l ob,Q .ret ⟨cO n l,ob⟩=(r=.bV [gH d 0 ob (jX l t),gH d 0 ob (jX l u)]))→kr P D T C Q (bT args n)):ah P f args [] r []:=by
 refine h.pure d hD hT hm (by simp) (hw _ fun l ob=>?_)
 simp only [mh,iT,mV.2.1 n l t ht,mV.2.1 n l u hu,List.map_cons,List.map_nil,eO]
theorem pkR (x y:PV) (objs:List Obj) (K:KT):(qm (.bool true) x y objs K=K x objs 0)∧(qm (.bool false) x y objs K=K y objs 0):=⟨rfl,rfl⟩
theorem abQ :
  type_of% @Ae∧
  type_of% @EL∧
  type_of% @kiR∧
  type_of% @abP∧
  type_of% @abJ∧
  type_of% @YZ∧
  type_of% @ZV∧
  type_of% @hoR∧
  type_of% @ZR∧
  type_of% @ZU∧
  type_of% @YX∧
  type_of% @eG∧
  type_of% @Hq∧
  type_of% @xX∧
  type_of% @KL∧
  type_of% @FY∧
  type_of% @WW∧
  type_of% @skR∧
  type_of% @atR∧
  type_of% @exS∧
  type_of% @abO:=
 ⟨@Ae,@EL,@kiR,@abP,@abJ,@YZ,@ZV,@hoR,@ZR,@ZU,@YX,@eG,@Hq,@xX,@KL,@FY,@WW,@skR,@atR,@exS,@abO⟩
theorem ZW :
  type_of% @EL∧
  type_of% @kiR∧
  type_of% @kT∧
  type_of% @mV∧
  type_of% @WU∧
  type_of% @YZ∧
  type_of% @ZR∧
  type_of% @aaU∧
  type_of% @mh∧
  type_of% @JH∧
  type_of% @Ec∧
  type_of% @fzR∧
  type_of% @qN∧
  type_of% @bI∧
  type_of% @keepR∧
  type_of% @abM∧
  type_of% @YX∧
  type_of% @eG∧
  type_of% @pkR∧
  type_of% @Ho∧
  type_of% @Hq∧
  type_of% @yE∧
  type_of% @WQ∧
  type_of% @Ic∧
  type_of% @sW∧
  type_of% @EM∧
  type_of% @Hr∧
  type_of% @WV∧
  type_of% @ldR∧
  type_of% @WW∧
  type_of% @skR∧
  type_of% @ntR∧
  type_of% @atR∧
  type_of% @abL∧
  type_of% @puR∧
  type_of% @WX∧
  type_of% @ZT:=
 ⟨@EL,@kiR,@kT,@mV,@WU,@YZ,@ZR,@aaU,@mh,@JH,@Ec,@fzR,@qN,@bI,@keepR,@abM,@YX,@eG,@pkR,@Ho,@Hq,@yE,@WQ,@Ic,@sW,@EM,@Hr,@WV,@ldR,@WW,@skR,@ntR,@atR,@abL,@puR,@WX,@ZT⟩
theorem ZX :
  type_of% @decide_true∧
  type_of% @decide_false∧
  type_of% @not_true_eq_false∧
  type_of% @not_false_eq_true∧
  type_of% @false_and∧
  type_of% @and_false∧
  type_of% @cond_true.{1}∧
  type_of% @cond_false.{1}∧
  type_of% @List.take_zero.{0}∧
  type_of% @ne_eq.{1}∧
  type_of% @true_and∧
  type_of% @PV.bool.injEq∧
  type_of% @Int.toNat_natCast∧
  type_of% @Int.toNat_zero∧
  type_of% @Bool.not_false∧
  type_of% @Bool.not_true∧
  type_of% @Bool.and_self∧
  type_of% @Bool.false_eq_true∧
  type_of% @Bool.true_eq_false∧
  type_of% @forall_const.{1}∧
  type_of% @false_implies∧
  type_of% @true_implies∧
  type_of% @and_true∧
  type_of% @implies_true.{1}∧
  type_of% @implies_true.{0}∧
  type_of% @forall_const.{0}∧
  type_of% @Nat.zero_add∧
  type_of% @List.length_map.{0,0}∧
  type_of% @List.length_cons.{0}∧
  type_of% @List.length_nil.{0}∧
  type_of% @List.nil_append.{0}∧
  type_of% @List.map_cons.{0,0}∧
  type_of% @List.map_nil.{0,0}∧
  type_of% @Bool.true_or∧
  type_of% @List.getElem?_cons_zero.{0}∧
  type_of% @List.getElem?_cons_succ.{0}∧
  type_of% @Option.map_some.{0,0}∧
  type_of% @or_true∧
  type_of% @List.getElem?_map.{0,0}∧
  type_of% @List.length_replicate.{0}∧
  type_of% @List.all_cons.{0}∧
  type_of% @List.all_nil.{0}∧
  type_of% @Bool.and_true∧
  type_of% @Bool.true_and∧
  type_of% @Bool.false_or∧
  type_of% @Bool.or_false∧
  type_of% @Nat.le_refl∧
  type_of% @Nat.lt_add_one∧
  type_of% @List.length_append.{0}:=
 ⟨@decide_true,@decide_false,@not_true_eq_false,@not_false_eq_true,@false_and,@and_false,@cond_true.{1},@cond_false.{1},@List.take_zero.{0},@ne_eq.{1},@true_and,@PV.bool.injEq,@Int.toNat_natCast,@Int.toNat_zero,@Bool.not_false,@Bool.not_true,@Bool.and_self,@Bool.false_eq_true,@Bool.true_eq_false,@forall_const.{1},@false_implies,@true_implies,@and_true,@implies_true.{1},@implies_true.{0},@forall_const.{0},@Nat.zero_add,@List.length_map.{0,0},@List.length_cons.{0},@List.length_nil.{0},@List.nil_append.{0},@List.map_cons.{0,0},@List.map_nil.{0,0},@Bool.true_or,@List.getElem?_cons_zero.{0},@List.getElem?_cons_succ.{0},@Option.map_some.{0,0},@or_true,@List.getElem?_map.{0,0},@List.length_replicate.{0},@List.all_cons.{0},@List.all_nil.{0},@Bool.and_true,@Bool.true_and,@Bool.false_or,@Bool.or_false,@Nat.le_refl,@Nat.lt_add_one,@List.length_append.{0}⟩
theorem ZY {D:TypeId→aG}{t:TypeId}{k k':IntKind}{n m:Int}{objs:List Obj}{K:KT}:fe D t (.int k n) (.int k' m) objs K=
  JI (D t).kind fun e=>(D e).kind≠.none∧(aK (D e)).cells.length=(D e).size∧(D e).size≠0∧(aK (D e)).cells.all PV.storable=true∧0≤n∧n≤m∧m≤9223372036854775807∧(D e).bytes*m≤281474976710656∧
   K (.aX objs.length 1) (newObj objs e (D e).size (List.replicate n.toNat (aK (D e)))) (5+2*objs.length):=by
 unfold fe JI
 cases (D t).kind <;> rfl
theorem abR:type_of% @iP.eq_1∧type_of% @iP.eq_2∧type_of% @iP.eq_3∧type_of% @iP.eq_4∧type_of% @iP.eq_5∧type_of% @iP.eq_6∧type_of% @iP.eq_7∧type_of% @iP.eq_8∧type_of% @dm.eq_1∧type_of% @dm.eq_2∧type_of% @dm.eq_3∧type_of% @dW.eq_1:=⟨@iP.eq_1,@iP.eq_2,@iP.eq_3,@iP.eq_4,@iP.eq_5,@iP.eq_6,@iP.eq_7,@iP.eq_8,@dm.eq_1,@dm.eq_2,@dm.eq_3,@dW.eq_1⟩
theorem abS:type_of% @MG.eq_1∧type_of% @MG.eq_2∧type_of% @MG.eq_3∧type_of% @iT.eq_1∧type_of% @iT.eq_2∧type_of% @iT.eq_3∧type_of% @eO.eq_1∧type_of% @eO.eq_2∧type_of% @iP.eq_1∧type_of% @iP.eq_2∧type_of% @iP.eq_3∧type_of% @iP.eq_4∧type_of% @iP.eq_5∧type_of% @iP.eq_6∧type_of% @iP.eq_7∧type_of% @iP.eq_8∧type_of% @dm.eq_1∧type_of% @dm.eq_2∧type_of% @dm.eq_3∧type_of% @dW.eq_1∧type_of% @Hz.eq_1∧type_of% @qG.eq_1∧type_of% @newObj.eq_1∧type_of% @aK.eq_1∧type_of% @bJ.eq_1∧type_of% @dX.eq_1∧type_of% @iR.eq_1∧type_of% @iR.eq_2∧type_of% @jo.eq_1∧type_of% @jo.eq_2∧type_of% @St.freeze.eq_1∧type_of% @ZY∧type_of% @h_.eq_1∧type_of% @h_.eq_2∧type_of% @jm.eq_1:=⟨@MG.eq_1,@MG.eq_2,@MG.eq_3,@iT.eq_1,@iT.eq_2,@iT.eq_3,@eO.eq_1,@eO.eq_2,@iP.eq_1,@iP.eq_2,@iP.eq_3,@iP.eq_4,@iP.eq_5,@iP.eq_6,@iP.eq_7,@iP.eq_8,@dm.eq_1,@dm.eq_2,@dm.eq_3,@dW.eq_1,@Hz.eq_1,@qG.eq_1,@newObj.eq_1,@aK.eq_1,@bJ.eq_1,@dX.eq_1,@iR.eq_1,@iR.eq_2,@jo.eq_1,@jo.eq_2,@St.freeze.eq_1,@ZY,@h_.eq_1,@h_.eq_2,@jm.eq_1⟩
end Lp
set_option maxRecDepth 100000
namespace Lp
open Go
variable {P:Program}
def UK:Option TypeDesc→PV→PV→Bool
 | some (.int k),.int k1 _,.int k2 _=>decide (k1=k2)
 | some .bool,.bool _,.bool _=>true
 | some .string,.str _,.str _=>true
 | _,_,_=>false
def vH (P:Program):Nat→List Field→List PV→List PV→Bool
 | _,[],[],[]=>true
 | k,f::fs,p::aa,q::bs=>(f.name != "_") && f.offset==k && UK (P.underlying f.type) p q && vH P (k+1) fs aa bs
 | _,_,_,_=>false
theorem Ar {w:World}{t:TypeId}{xs:Array Value}{o:Nat}{v:Value}{d:TypeDesc}(hu:P.underlying t=some d) (hd:(∃ k,d=.int k)∨d=.bool∨d=.string) (hv:xs[o]?=some v):(part t xs o).run P w=.ok v w:=by
 rcases hd with ⟨k,rfl⟩ | rfl | rfl
 all_goals simp [part,isAgg,run_underlying hu,hv]
theorem WZ {w:World}{d:Nat}{t:TypeId}{p q:PV}{v u:Value}{ok:Nat→Prop}(hf:UK (P.underlying t) p q=true) (hv:dA w ok p v) (hu:dA w ok q u) :
  ∃ b,Zv p q=some b∧(Op.equalIn (d+1) t v u).run P w=.ok b w∧∃ e,P.underlying t=some e∧((∃ k,e=.int k)∨e=.bool∨e=.string):=by
 unfold UK at hf
 split at hf
 · rename_i k k1 a k2 b hk
   have:k1=k2:=by simpa using hf
   subst this
   cases hv;cases hu
   exact ⟨decide (a=b),by simp [Zv],by rw [run_equalIn_int w d t k1 k a b hk];rfl,_,hk,.inl ⟨_,rfl⟩⟩
 · rename_i a b hk
   cases hv;cases hu
   exact ⟨a==b,rfl,run_equalIn_bool' w d t a b hk,_,hk,.inr (.inl rfl)⟩
 · rename_i a b hk
   cases hv;cases hu
   refine ⟨decide (a=b),rfl,?_,_,hk,.inr (.inr rfl)⟩
   rw [run_equalIn_string w d t _ _ hk]
   congr 1
   simp only [ByteArray.toList_eq]
   by_cases h:a=b
   · simp [h]
   · simp [h]
 · cases hf
theorem KR {w:World}{d:Nat}{ok:Nat→Prop}{xs ys:Array Value}:∀ (fs:List Field) (k:Nat) (aa bs:List PV) (r:Bool),vH P k fs aa bs=true→BO aa bs=some r→
  (∀ i p,aa[i]?=some p→∃ v,xs[k+i]?=some v∧dA w ok p v)→(∀ i p,bs[i]?=some p→∃ v,ys[k+i]?=some v∧dA w ok p v)→
  (Op.eqFields (d+1) xs ys fs).run P w=.ok r w
 | [],k,aa,bs,r,hf,he,_,_=>by
  cases aa <;> cases bs <;> simp [vH] at hf
  simp only [BO,Option.some.injEq] at he
  subst he
  rfl
 | f::fs,k,aa,bs,r,hf,he,ha,hb=>by
  cases aa with
  | nil=>cases bs <;> simp [vH] at hf
  | cons p aa=>
   cases bs with
   | nil=>simp [vH] at hf
   | cons q bs=>
    simp only [vH,Bool.and_eq_true,beq_iff_eq,bne_iff_ne] at hf
    obtain ⟨⟨⟨hn,ho⟩,ht⟩,hr⟩:=hf
    obtain ⟨v,hv,rv⟩:=ha 0 p rfl
    obtain ⟨u,hu,ru⟩:=hb 0 q rfl
    obtain ⟨b,hb1,hb2,e,he1,he2⟩:=WZ (d:=d) ht rv ru
    simp only [BO,hb1] at he
    cases hq:BO aa bs with
    | none=>rw [hq] at he;simp at he
    | some r'=>
     rw [hq] at he
     simp only [Option.some.injEq] at he
     subst he
     have ih:=KR (w:=w) (d:=d) (ok:=ok) (xs:=xs) (ys:=ys) fs (k+1) aa bs r' hr hq (fun i p h=>by have:=ha (i+1) p (by simpa using h);rwa [show k+(i+1)=k+1+i by omega] at this) (fun i p h=>by have:=hb (i+1) p (by simpa using h);rwa [show k+(i+1)=k+1+i by omega] at this)
     have p1:=Ar (w:=w) (xs:=xs) (o:=f.offset) he1 he2 (by rw [ho];simpa using hv)
     have p2:=Ar (w:=w) (xs:=ys) (o:=f.offset) he1 he2 (by rw [ho];simpa using hu)
     simp only [Op.eqFields,ne_eq,hn,not_false_eq_true,if_true,Sem.run_bind,p1,Result.andThen_ok,p2,hb2]
     cases b
     · simp
     · simpa using ih
theorem Y0 {t:TypeId}{aa bs:List PV}(hg:P.eqGuardType P.depth t=false) (ht:P.underlying t=some (.struct (P.fieldsOf t))) (hp:P.stoodInHeld t=false) (hf:vH P 0 (P.fieldsOf t).toList aa bs=true):Hy P t aa bs:=by
 refine ⟨hg,fun w ok vs us r hr h1 h2=>?_⟩
 have e:Op.equal t (.agg ⟨vs⟩) (.agg ⟨us⟩)=Op.equalIn (9999+1) t (.agg ⟨vs⟩) (.agg ⟨us⟩):=rfl
 rw [e,run_equalIn_struct w 9999 t _ _ ht hp]
 refine KR (d:=9998) (ok:=ok) _ 0 aa bs r hf hr ?_ ?_
 · intro i p hi
   have hlt:=(List.getElem?_eq_some_iff.1 hi).1
   have hv:vs[i]?=some (vs[i]'(by rw [← h1.1];exact hlt)):=List.getElem?_eq_getElem _
   exact ⟨_,by simpa using hv,h1.2 i p _ hi hv⟩
 · intro i p hi
   have hlt:=(List.getElem?_eq_some_iff.1 hi).1
   have hv:us[i]?=some (us[i]'(by rw [← h2.1];exact hlt)):=List.getElem?_eq_getElem _
   exact ⟨_,by simpa using hv,h2.2 i p _ hi hv⟩
end Lp
set_option maxRecDepth 100000
namespace Lp
open Go Go.Proofs
def cK (l:List (List UInt8)):PV:=.sl 1 (l.map .str) none
def dh (l:List Vl):PV:=.sl 1 (l.map aC) none
def encI (l:List Int):PV:=.sl 1 (l.map (.int .i64)) none
def NG (l:List (List Int)):PV:=.sl 1 (l.map encI) none
theorem hV:∀ l,aC l=.sl 6 (l.map au) none:=fun _=>rfl
theorem hT:∀ l,cK l=.sl 1 (l.map .str) none:=fun _=>rfl
theorem hL:∀ l,dh l=.sl 1 (l.map aC) none:=fun _=>rfl
theorem hI:∀ l,encI l=.sl 1 (l.map (.int .i64)) none:=fun _=>rfl
theorem hG:∀ l,NG l=.sl 1 (l.map encI) none:=fun _=>rfl
theorem vI:∀ a b,au a=au b→a=b:=by
 intro a b h
 cases a;cases b
 simp only [au,PV.agg.injEq,List.cons.injEq,PV.int.injEq,PV.str.injEq,PV.bool.injEq,true_and,and_true] at h
 obtain ⟨rfl,rfl,rfl,rfl,rfl,rfl⟩:=h
 rfl
theorem rE:∀ a b,aC a=aC b→a=b:=ni hV vI
theorem vJ:∀ a b,cK a=cK b→a=b:=ni hT fun _ _ h=>by injection h
theorem vK:∀ a b,encI a=encI b→a=b:=ni hI fun _ _ h=>by injection h
theorem vL:∀ a b,dh a=dh b→a=b:=ni hL rE
theorem Au:∀ a b,NG a=NG b→a=b:=ni hG vK
theorem Z0 (objs:List Obj) (K:KT) :
  (∀ n,aL D 42 (.addr (au n)) 0 objs K=K (.addr (.int .i64 n.kind)) objs 0)∧
  (∀ n,aL D 42 (.addr (au n)) 1 objs K=K (.addr (.int .i64 n.many)) objs 0)∧
  (∀ n,aL D 42 (.addr (au n)) 2 objs K=K (.addr (.str n.name)) objs 0)∧
  (∀ n,aL D 42 (.addr (au n)) 3 objs K=K (.addr (.str n.s)) objs 0)∧
  (∀ n,aL D 42 (.addr (au n)) 4 objs K=K (.addr (.bool n.neg)) objs 0)∧
  (∀ n,aL D 42 (.addr (au n)) 5 objs K=K (.addr (.int .i64 n.e)) objs 0):=by
 refine ⟨fun n=>?_,fun n=>?_,fun n=>?_,fun n=>?_,fun n=>?_,fun n=>?_⟩
 all_goals
  simp only [au,aL,dW,bS,↓KL,Ic,sW,qN,EM,Hr,ne_eq,reduceCtorEq,not_false_eq_true,true_and,Bool.not_false,Bool.and_self,Nat.reduceAdd,Nat.reduceLeDiff,forall_const]
theorem Z4 :
  (∀ n,(au n).cells=[.int .i64 n.kind,.int .i64 n.many,.str n.name,.str n.s,.bool n.neg,.int .i64 n.e])∧
  (∀ n,(au n).isAgg=true)∧(∀ n,(au n).pure=true)∧(∀ d m O n,eY d m O (au n)=au n)∧(∀ d m O n,gH d m O (au n)=au n):=
 ⟨fun _=>rfl,fun _=>rfl,fun _=>rfl,fun _ _ _ _=>rfl,fun _ _ _ _=>rfl⟩
theorem W9 (a b:Nd):Hy Tryz.prog 42 (au a).cells (au b).cells:=
 Y0 (by kernel_rfl) (by kernel_rfl) (by kernel_rfl) (by
  have h:(Tryz.prog.fieldsOf 42).toList.map (fun f=>(f.name != "_",f.offset,Tryz.prog.underlying f.type))=[(true,0,some (.int .i64)),(true,1,some (.int .i64)),(true,2,some .string),(true,3,some .string),(true,4,some .bool),(true,5,some (.int .i64))]:=by kernel_rfl
  generalize (Tryz.prog.fieldsOf 42).toList=fs at h
  obtain _ | ⟨f0,_ | ⟨f1,_ | ⟨f2,_ | ⟨f3,_ | ⟨f4,_ | ⟨f5,_ | ⟨f6,fr⟩⟩⟩⟩⟩⟩⟩:=fs
  all_goals simp only [List.map_cons,List.map_nil,List.cons.injEq,Prod.mk.injEq,and_true,reduceCtorEq,and_false] at h
  obtain ⟨⟨a0,b0,c0⟩,⟨a1,b1,c1⟩,⟨a2,b2,c2⟩,⟨a3,b3,c3⟩,⟨a4,b4,c4⟩,⟨a5,b5,c5⟩⟩:=h
  simp only [vH,UK,au,PV.cells,a0,b0,c0,a1,b1,c1,a2,b2,c2,a3,b3,c3,a4,b4,c4,a5,b5,c5,Bool.and_true,BEq.rfl,decide_true,Nat.zero_add,Nat.reduceAdd])
theorem abT (a b:Nd):BO (au a).cells (au b).cells=some (decide (a=b)):=by
 cases a;cases b
 simp only [au,PV.cells,BO,Zv,if_true,Bool.and_true,Nd.mk.injEq,Option.some.injEq]
 rw [Bool.eq_iff_iff]
 simp
theorem W_ (ti:aG) (K:PV→Prop) :
  (∀ a b,o_ Tryz.prog ti 42 .eql (au a) (au b) K=K (.bool (decide (a=b))))∧
  (∀ a b,o_ Tryz.prog ti 42 .neq (au a) (au b) K=K (.bool (!decide (a=b))))∧
  (∀ a k m x y g e,o_ Tryz.prog ti 42 .eql (au a) (.agg [.int .i64 k,.int .i64 m,.str x,.str y,.bool g,.int .i64 e]) K=K (.bool (decide (a=⟨k,m,x,y,g,e⟩)))):=by
 have h:∀ a b,o_ Tryz.prog ti 42 .eql (au a) (au b) K=K (.bool (decide (a=b))):=fun a b=>by
  show (Hy Tryz.prog 42 (au a).cells (au b).cells∧∃ r,BO (au a).cells (au b).cells=some r∧K (.bool r))=_
  rw [abT]
  simp [W9]
 refine ⟨h,fun a b=>?_,fun a k m x y g e=>h a ⟨k,m,x,y,g,e⟩⟩
 show (Hy Tryz.prog 42 (au a).cells (au b).cells∧∃ r,BO (au a).cells (au b).cells=some r∧K (.bool (!r)))=_
 rw [abT]
 simp [W9]
theorem Z5 (n:Nd) :
  (∀ x,(au n).putCells 0 [.int .i64 x]=au { n with kind:=x })∧(∀ x,(au n).putCells 1 [.int .i64 x]=au { n with many:=x })∧
  (∀ x,(au n).putCells 2 [.str x]=au { n with name:=x })∧(∀ x,(au n).putCells 3 [.str x]=au { n with s:=x })∧
  (∀ x,(au n).putCells 4 [.bool x]=au { n with neg:=x })∧(∀ x,(au n).putCells 5 [.int .i64 x]=au { n with e:=x }):=
 ⟨fun _=>rfl,fun _=>rfl,fun _=>rfl,fun _=>rfl,fun _=>rfl,fun _=>rfl⟩
theorem Z6 (k m:Int) (x y:List UInt8) (g:Bool) (e:Int):PV.agg [.int .i64 k,.int .i64 m,.str x,.str y,.bool g,.int .i64 e]=au ⟨k,m,x,y,g,e⟩:=rfl
theorem Z7 (objs:List Obj) (K:KT) :
  (∀ k,bE D 42 [(0,.int .i64 k)] objs K=K (au ⟨k,0,[],[],false,0⟩) objs 0)∧
  (∀ k m,bE D 42 [(0,.int .i64 k),(1,.int .i64 m)] objs K=K (au ⟨k,m,[],[],false,0⟩) objs 0)∧
  (∀ k s,bE D 42 [(0,.int .i64 k),(3,.str s)] objs K=K (au ⟨k,0,[],s,false,0⟩) objs 0)∧
  (∀ k s g e,bE D 42 [(0,.int .i64 k),(3,.str s),(4,.bool g),(5,.int .i64 e)] objs K=K (au ⟨k,0,[],s,g,e⟩) objs 0):=by
 have z:aK (D 42)=au ⟨0,0,[],[],false,0⟩:=by kernel_rfl
 have a:(D 42).agg=true:=by kernel_rfl
 simp only [bS] at z a
 refine ⟨fun k=>?_,fun k m=>?_,fun k s=>?_,fun k s g e=>?_⟩
 all_goals
  simp [bE,mJ,a,z,bS,nK,au,PV.isAgg,sM,PV.cells,PV.storable,PV.mr,PV.pure]
theorem Z8 :
  (∀ n0,PV.sl 6 [au n0] none=aC [n0])∧
  (∀ n0 n1,PV.sl 6 [au n0,au n1] none=aC [n0,n1])∧
  (∀ n0 n1 n2,PV.sl 6 [au n0,au n1,au n2] none=aC [n0,n1,n2])∧
  (∀ s0,PV.sl 1 [PV.str s0] none=cK [s0])∧
  (∀ s0 s1,PV.sl 1 [PV.str s0,PV.str s1] none=cK [s0,s1])∧
  (∀ s0 s1 s2,PV.sl 1 [PV.str s0,PV.str s1,PV.str s2] none=cK [s0,s1,s2])∧
  (∀ i0,PV.sl 1 [PV.int .i64 i0] none=encI [i0])∧
  (∀ i0 i1,PV.sl 1 [PV.int .i64 i0,PV.int .i64 i1] none=encI [i0,i1])∧
  (∀ i0 i1 i2,PV.sl 1 [PV.int .i64 i0,PV.int .i64 i1,PV.int .i64 i2] none=encI [i0,i1,i2])∧
  (∀ v0,PV.sl 1 [aC v0] none=dh [v0])∧
  (∀ v0 v1,PV.sl 1 [aC v0,aC v1] none=dh [v0,v1])∧
  (∀ v0 v1 v2,PV.sl 1 [aC v0,aC v1,aC v2] none=dh [v0,v1,v2])∧
  (∀ g0,PV.sl 1 [encI g0] none=NG [g0])∧
  (∀ g0 g1,PV.sl 1 [encI g0,encI g1] none=NG [g0,g1])∧
  (∀ g0 g1 g2,PV.sl 1 [encI g0,encI g1,encI g2] none=NG [g0,g1,g2]):=
 ⟨fun _=>rfl,fun _ _=>rfl,fun _ _ _=>rfl,fun _=>rfl,fun _ _=>rfl,fun _ _ _=>rfl,fun _=>rfl,fun _ _=>rfl,fun _ _ _=>rfl,fun _=>rfl,fun _ _=>rfl,fun _ _ _=>rfl,fun _=>rfl,fun _ _=>rfl,fun _ _ _=>rfl⟩
theorem inN:uI au:=by intro d n o x;cases d <;> rfl
theorem inV:uI aC:=by intro d n o x;cases d <;> rfl
theorem inS:uI PV.str:=by intro d n o x;cases d <;> rfl
theorem inI:uI (PV.int .i64):=by intro d n o x;cases d <;> rfl
theorem inG:uI encI:=by intro d n o x;cases d <;> rfl
theorem abU :
  type_of% (jk hV)∧
  type_of% (jk hT)∧
  type_of% (jk hL)∧
  type_of% (jk hI)∧
  type_of% (jk hG)∧
  type_of% (aM vI)∧
  type_of% (aM rE)∧
  type_of% (aM vJ)∧
  type_of% (aM vL)∧
  type_of% (aM vK)∧
  type_of% (aM Au):=
 ⟨jk hV,jk hT,jk hL,jk hI,jk hG,aM vI,aM rE,aM vJ,aM vL,aM vK,aM Au⟩
theorem Z9 :
  type_of% (Z0)∧
  type_of% (Z4)∧
  type_of% (W_)∧
  type_of% (Z5)∧
  type_of% (Z6)∧
  type_of% (Z7)∧
  type_of% (Z8)∧
  type_of% (rC hV)∧
  type_of% (rC hT)∧
  type_of% (rC hL)∧
  type_of% (rC hI)∧
  type_of% (rC hG)∧
  type_of% (jk hV)∧
  type_of% (jk hT)∧
  type_of% (jk hL)∧
  type_of% (jk hI)∧
  type_of% (jk hG)∧
  type_of% (rD hV)∧
  type_of% (rD hT)∧
  type_of% (rD hL)∧
  type_of% (rD hI)∧
  type_of% (rD hG)∧
  type_of% (aM vI)∧
  type_of% (aM rE)∧
  type_of% (aM vJ)∧
  type_of% (aM vL)∧
  type_of% (aM vK)∧
  type_of% (aM Au)∧
  type_of% (iC hV inN)∧
  type_of% (iC hT inS)∧
  type_of% (iC hL inV)∧
  type_of% (iC hI inI)∧
  type_of% (iC hG inG)∧
  type_of% (qK (enc:=au) (sz:=6) (fun _=>rfl) (fun _=>rfl))∧
  type_of% (qK (enc:=aC) (sz:=1) (fun _=>rfl) (fun _=>rfl))∧
  type_of% (qK (enc:=PV.str) (sz:=1) (fun _=>rfl) (fun _=>rfl))∧
  type_of% (qK (enc:=(PV.int .i64)) (sz:=1) (fun _=>rfl) (fun _=>rfl))∧
  type_of% (qK (enc:=encI) (sz:=1) (fun _=>rfl) (fun _=>rfl))∧
  type_of% (qK (enc:=PV.bool) (sz:=1) (fun _=>rfl) (fun _=>rfl))∧
  type_of% (fun (l:Vl) (k:Nat)=>JJ (aC l) rfl k)∧
  type_of% (fun (l:List (List UInt8)) (k:Nat)=>JJ (cK l) rfl k)∧
  type_of% (fun (l:List Vl) (k:Nat)=>JJ (dh l) rfl k)∧
  type_of% (fun (l:List Int) (k:Nat)=>JJ (encI l) rfl k)∧
  type_of% (fun (l:List (List Int)) (k:Nat)=>JJ (NG l) rfl k)∧
  type_of% (fun (z:Nat) (xs:List PV) (q:Option Bool) (k:Nat)=>JJ (.sl z xs q) rfl k):=
 ⟨Z0,Z4,W_,Z5,Z6,Z7,Z8,rC hV,rC hT,rC hL,rC hI,rC hG,jk hV,jk hT,jk hL,jk hI,jk hG,rD hV,rD hT,rD hL,rD hI,rD hG,aM vI,aM rE,aM vJ,aM vL,aM vK,aM Au,iC hV inN,iC hT inS,iC hL inV,iC hI inI,iC hG inG,qK (enc:=au) (sz:=6) (fun _=>rfl) (fun _=>rfl),qK (enc:=aC) (sz:=1) (fun _=>rfl) (fun _=>rfl),qK (enc:=PV.str) (sz:=1) (fun _=>rfl) (fun _=>rfl),qK (enc:=(PV.int .i64)) (sz:=1) (fun _=>rfl) (fun _=>rfl),qK (enc:=encI) (sz:=1) (fun _=>rfl) (fun _=>rfl),qK (enc:=PV.bool) (sz:=1) (fun _=>rfl) (fun _=>rfl),fun (l:Vl) (k:Nat)=>JJ (aC l) rfl k,fun (l:List (List UInt8)) (k:Nat)=>JJ (cK l) rfl k,fun (l:List Vl) (k:Nat)=>JJ (dh l) rfl k,fun (l:List Int) (k:Nat)=>JJ (encI l) rfl k,fun (l:List (List Int)) (k:Nat)=>JJ (NG l) rfl k,fun (z:Nat) (xs:List PV) (q:Option Bool) (k:Nat)=>JJ (.sl z xs q) rfl k⟩
theorem aA:type_of% @abQ∧type_of% @abU∧type_of% @abR:=⟨@abQ,@abU,@abR⟩
theorem aB:type_of% @ZW∧type_of% @ZX∧type_of% @Z9∧type_of% bS∧type_of% @abS:=⟨@ZW,@ZX,@Z9,bS,@abS⟩
end Lp
