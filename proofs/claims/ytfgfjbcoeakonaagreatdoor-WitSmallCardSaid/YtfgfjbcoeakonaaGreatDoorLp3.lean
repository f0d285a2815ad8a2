/-
  Part 3 of what the statement rests on: LpN, LpNb, LpO, LpP, LpT, LpQ, LpR, LpS, LpGen, LpI1, LpC1, LpC2, LpC4, LpC5, LpC6, LpY, LpU, LpZ, LpEq, LpU2. No condition.
-/
import Derived.Test.YtfgfjbcoeakonaaGreatDoorLp2
import Derived.RangeFuncRecord
import Derived.RangeFuncLeaves
import Derived.KernelRfl
import Derived.Test.YtfgfjbcoeakonaaGreatDoorProg
import Derived.Laws.StructEq

set_option linter.all false
set_option maxHeartbeats 8000000
set_option maxRecDepth 100000
namespace Lp
open Go
open Option (bind_some getD_some map_some)
variable {P:Program}{D:TypeId→aJ}{l:Option Nat}
structure Ju where
 r:PV
 objs:List Obj
 t:Nat
 deriving Inhabited
def iZ (ops:List Oper) (g:Option (Nat×Bool)) (tmps:List PV):Option Bool:=
 match g with
 | none=>some true
 | some (j,want)=>
  match (ops[j]?).bind (·.dst) with
  | none=>none
  | some d=>
   match tmps.getD d .dead with
   | .bool b=>some (b==want)
   | .bP []=>some false
   | _=>none
theorem DN {ops:List Oper}{g:Option (Nat×Bool)}{S:St}{X Y:St→Prop}(h:oQ ops g S X Y) :
  (iZ ops g S.tmps=some true∧X S)∨(iZ ops g S.tmps=some false∧Y S):=by
 unfold oQ at h
 unfold iZ
 split at h
 · exact .inl ⟨rfl,h⟩
 · rename_i j want
   simp only []
   split at h
   · exact h.elim
   · rename_i d hd
     rw [hd]
     simp only []
     split at h
     · rename_i b hb
       rw [hb]
       by_cases hbw:b=want
       · left
         have:=h.1 hbw
         rw [BA (by rw [hb,hbw]) (by simp)] at this
         exact ⟨by simp [hbw],this⟩
       · right
         have hbn:b=!want:=by cases b <;> cases want <;> simp_all
         have:=h.2 hbn
         rw [BA (by rw [hb,hbn]) (by simp)] at this
         exact ⟨by simp [hbn],this⟩
     · rename_i hb
       rw [hb]
       exact .inr ⟨rfl,h⟩
     · exact h.elim
theorem DR {ops:List Oper}{g:Option (Nat×Bool)}{S:St}{b:Bool}(h:iZ ops g S.tmps=some b) :
  oQ ops g S (fun _=>b=true) (fun _=>b=false):=by
 unfold iZ at h
 unfold oQ
 split at h
 · simpa using h.symm
 · rename_i j want
   simp only []
   split at h
   · cases h
   · rename_i d hd
     rw [hd]
     simp only []
     split at h
     · rename_i b0 hb
       rw [hb]
       simp only [Option.some.injEq] at h
       subst h
       exact ⟨fun e=>by simp [e],fun e=>by simp [e]⟩
     · rename_i hb
       rw [hb]
       simpa using h.symm
     · cases h
theorem o6 {ops:List Oper}{base ak:Nat→Prop}{w0:Wz}{S:St}{blk:Nat→Option Nat}{a:Act}{w:World}{b:Bool}{o:Oper}
  (R:Rel base ak w0 S blk a w) (h:iZ ops o.guard S.tmps=some b):Region.wanted o (yielded ops.toArray a.tmps)=b:=by
 rcases wF R (DR h) o rfl with ⟨h1,h2⟩ | ⟨h1,h2⟩ <;> rw [h1,h2]
def rY (P:Program) (D:TypeId→aJ) (own:Bool) (ops:List Oper) (o:Oper) (S:St) (e:Ju):Prop:=
 (iZ ops o.guard S.tmps=some true∧(co e.t≠2→e.objs=S.objs)∧(∀ K:KT,K e.r e.objs e.t→Jt P D own S.ev S.objs o.op K)∧
  (e.t=0→∀ (d_:List Obj) (K:KT),K e.r d_ 0→Jt P D own S.ev d_ o.op K)∧aaV (fun ob K=>Jt P D own S.ev ob o.op K) S.objs e.r e.objs e.t)∨
 (iZ ops o.guard S.tmps=some false∧e.r=.bP []∧e.objs=S.objs∧e.t=0)
def Trace (P:Program) (D:TypeId→aJ) (own:Nat→Bool) (ops:List Oper):List Oper→Nat→St→List Ju→St→Prop
 | [],_,S,tr,S'=>tr=[]∧S'=S
 | o::rest,i,S,tr,S'=>∃ e tr',tr=e::tr'∧rY P D (own i) ops o S e∧Trace P D own ops rest (i+1) (St.put ⟨S.tmps,e.objs⟩ o.dst e.r) tr' S'
theorem mJ {own:Nat→Bool}{ops:List Oper}:∀ (qP:List Oper) (i:Nat) (S:St) (ts:List Nat) (K:St→List Nat→Prop),qj P D own ops qP i S ts K→
  ∃ tr S',Trace P D own ops qP i S tr S'∧K S' (ts++tr.map (·.t))
 | [],i,S,ts,K,h=>⟨[],S,⟨rfl,rfl⟩,by simpa [qj] using h⟩
 | o::rest,i,S,ts,K,h=>by
  unfold qj at h
  rcases DN h with ⟨hw,hx⟩ | ⟨hw,hy⟩
  · obtain ⟨r,ob,t,h1,h2,h3,h4,h4b⟩:=Vq hx
    obtain ⟨tr,S',h5,h6⟩:=mJ rest _ _ _ K h1
    refine ⟨⟨r,ob,t⟩::tr,S',⟨_,_,rfl,.inl ⟨hw,h2,h3,h4,h4b⟩,h5⟩,by simpa using h6⟩
  · obtain ⟨tr,S',h5,h6⟩:=mJ rest _ _ _ K hy
    refine ⟨⟨.bP [],S.objs,0⟩::tr,S',⟨_,_,rfl,.inr ⟨hw,rfl,rfl,rfl⟩,?_⟩,by simpa using h6⟩
    exact h5
def o7 (dst:Option Nat) (r:PV) (tm:List PV):List PV:=
 match dst with
 | some d=>tm.set d r
 | none=>tm
section
variable (dst:Nat→Option Nat) (en:Nat→Ju)
def G_ (X:Nat→Bool):Nat→List PV→List PV
 | 0,tm=>tm
 | n+1,tm=>if X n then o7 (dst n) (en n).r (G_ X n tm) else G_ X n tm
def pV (X:Nat→Bool):Nat→List Obj→List Obj
 | 0,ob=>ob
 | n+1,ob=>if X n && co (en n).t==2 then (en n).objs else pV X n ob
def upd (X:Nat→Bool) (i:Nat) (j:Nat):Bool:=X j || j==i
variable {dst en}
theorem nO {X Y:Nat→Bool}:∀ (n:Nat) (tm:List PV),(∀ j,j<n→X j=Y j)→G_ dst en X n tm=G_ dst en Y n tm
 | 0,_,_=>rfl
 | n+1,tm,h=>by simp only [G_];rw [h n (by omega),nO n tm (fun j hj=>h j (by omega))]
theorem pW {X Y:Nat→Bool}:∀ (n:Nat) (ob:List Obj),(∀ j,j<n→co (en j).t=2→X j=Y j)→pV en X n ob=pV en Y n ob
 | 0,_,_=>rfl
 | n+1,ob,h=>by
  simp only [pV]
  rw [pW n ob (fun j hj=>h j (by omega))]
  by_cases ht:co (en n).t=2
  · rw [h n (by omega) ht]
  · simp [ht]
theorem Po (d:Option Nat) (r:PV) (tm:List PV):(o7 d r tm).length=tm.length:=by cases d <;> simp [o7]
theorem zK (X:Nat→Bool):∀ (n:Nat) (tm:List PV),(G_ dst en X n tm).length=tm.length
 | 0,_=>rfl
 | n+1,tm=>by simp only [G_];split <;> simp [Po,zK X n tm]
theorem BB {d:Option Nat}{x:Nat}(h:d≠some x) (r:PV) (tm:List PV):(o7 d r tm).getD x .dead=tm.getD x .dead:=by
 cases d with
 | none=>rfl
 | some d=>
  have:d≠x:=fun e=>h (by rw [e])
  simp [o7,List.getD_eq_getElem?_getD,List.getElem?_set_ne this]
theorem FC {d:Option Nat}{x:Nat}{r:PV}{tm tm':List PV}(hl:tm.length=tm'.length) (h:tm.getD x .dead=tm'.getD x .dead):(o7 d r tm).getD x .dead=(o7 d r tm').getD x .dead:=by
 cases d with
 | none=>exact h
 | some d=>
  by_cases hd:d=x
  · subst hd
    simp [o7,List.getD_eq_getElem?_getD,List.getElem?_set,hl]
  · simpa [o7,List.getD_eq_getElem?_getD,List.getElem?_set_ne hd] using h
theorem He {X Y:Nat→Bool}{x:Nat}:∀ (n:Nat) (tm:List PV),(∀ j,j<n→dst j=some x→X j=Y j)→(G_ dst en X n tm).getD x .dead=(G_ dst en Y n tm).getD x .dead
 | 0,_,_=>rfl
 | n+1,tm,h=>by
  have ih:=He (X:=X) (Y:=Y) (x:=x) n tm (fun j hj=>h j (by omega))
  simp only [G_]
  by_cases hd:dst n=some x
  · rw [h n (by omega) hd]
    split
    · exact FC (by rw [zK,zK]) ih
    · exact ih
  · split <;> split <;> (try rw [BB hd]) <;> (try rw [BB hd]) <;> exact ih
theorem WQ {d d':Option Nat}{r r':PV}{tm:List PV}(h:∀ x,d=some x→d'≠some x):o7 d r (o7 d' r' tm)=o7 d' r' (o7 d r tm):=by
 cases d with
 | none=>rfl
 | some x=>
  cases d' with
  | none=>rfl
  | some y=>
   have hxy:y≠x:=fun e=>h x rfl (by rw [e])
   simp only [o7]
   exact List.set_comm _ _ hxy
theorem Mv {X:Nat→Bool}{i:Nat}:∀ (n:Nat) (tm:List PV),i<n→X i=false→(∀ j,i<j→j<n→X j=true→∀ x,dst i=some x→dst j≠some x)→
  o7 (dst i) (en i).r (G_ dst en X n tm)=G_ dst en (upd X i) n tm
 | 0,_,h,_,_=>by omega
 | n+1,tm,hi,hx,hd=>by
  simp only [G_]
  by_cases hin:i=n
  · subst hin
    simp only [hx,upd,beq_self_eq_true,Bool.or_true,if_true,Bool.false_eq_true,if_false]
    rw [nO (Y:=upd X i) i tm (fun j hj=>by simp [upd];omega)]
  · have ih:=Mv (X:=X) n tm (by omega) hx (fun j h1 h2=>hd j h1 (by omega))
    have hu:upd X i n=X n:=by simp [upd];omega
    rw [hu]
    split
    · rename_i hn
      rw [← ih,WQ (fun x hx'=>hd n (by omega) (by omega) hn x hx')]
    · exact ih
theorem Mw {X:Nat→Bool}{i:Nat}:∀ (n:Nat) (ob:List Obj),i<n→co (en i).t=2→(∀ j,i<j→j<n→X j=true→co (en j).t≠2)→pV en (upd X i) n ob=(en i).objs
 | 0,_,h,_,_=>by omega
 | n+1,ob,hi,ht,hd=>by
  simp only [pV]
  by_cases hin:i=n
  · subst hin
    simp [upd,ht]
  · have hu:upd X i n=X n:=by simp [upd];omega
    rw [hu]
    cases hn:X n with
    | false=>simpa using Mw n ob (by omega) ht (fun j h1 h2=>hd j h1 (by omega))
    | true=>
     have:=hd n (by omega) (by omega) hn
     simpa [this] using Mw n ob (by omega) ht (fun j h1 h2=>hd j h1 (by omega))
def cnt (X:Nat→Bool):Nat→Nat
 | 0=>0
 | n+1=>cnt X n+if X n then 0 else 1
theorem La {X Y:Nat→Bool}:∀ (n:Nat),(∀ j,j<n→X j=Y j)→cnt X n=cnt Y n
 | 0,_=>rfl
 | n+1,h=>by simp only [cnt];rw [h n (by omega),La n (fun j hj=>h j (by omega))]
theorem Mx {X:Nat→Bool}{i:Nat}:∀ (n:Nat),i<n→X i=false→cnt (upd X i) n+1=cnt X n
 | 0,h,_=>by omega
 | n+1,hi,hx=>by
  simp only [cnt]
  by_cases hin:i=n
  · subst hin
    rw [La (Y:=upd X i) (X:=X) i (fun j hj=>by simp [upd];omega)]
    simp [upd,hx]
  · have:=Mx (X:=X) n (by omega) hx
    have hu:upd X i n=X n:=by simp [upd];omega
    rw [hu];omega
theorem Hf {X:Nat→Bool}:∀ (n:Nat),cnt X n=0→∀ j,j<n→X j=true
 | 0,_,j,h=>by omega
 | n+1,h,j,hj=>by
  simp only [cnt] at h
  by_cases hjn:j=n
  · subst hjn
    cases hx:X j with
    | true=>rfl
    | false=>simp [hx] at h
  · exact Hf n (by omega) j (by omega)
end
def jw (ops:List Oper) (o:Oper):List Nat:=
 (o.op.operands.toList.filterMap fun | .tmp t=>some t | _=>none)++
 (match o.guard with
  | some (g,_)=>((ops[g]?).bind (·.dst)).toList
  | none=>[])
def DT (acc:List Nat) (o:Oper):Nat:=
 o.after.toList.foldl (fun m e=>if Region.binds .any e then (m ||| (1 <<<e.on)) ||| acc.getD e.on 0 else m) 0
def masks:List Oper→List Nat→List Nat
 | [],acc=>acc
 | o::rest,acc=>masks rest (acc++[DT acc o])
def clash (dj di:Option Nat) (lj li:List Nat) (tj ti:Nat):Bool:=
 (match dj with
  | some d=>li.contains d || di==some d
  | none=>false) ||
 (match di with
  | some d=>lj.contains d
  | none=>false) ||
 (tj==2 && ti !=0) || (ti==2 && tj !=0)
def uN (ops:List Oper) (ts:List Nat):Bool:=
 let ms:=masks ops []
 let ls:=ops.map (jw ops)
 (List.range ops.length).all fun i=>
  match ops[i]? with
  | none=>true
  | some o=>
   (o.after.toList.all fun e=>!Region.binds .any e || decide (e.on<i)) &&
   (ms.getD i 0 &&& DT ms o==ms.getD i 0) &&
   (List.range i).all fun j=>
    !clash ((ops[j]?).bind (·.dst)) o.dst (ls.getD j []) (ls.getD i []) (co (ts.getD j 0)) (co (ts.getD i 0)) || (ms.getD i 0).testBit j
theorem Hg {acc:List Nat}{o:Oper}{j:Nat}(h:(DT acc o).testBit j=true) :
  ∃ e ∈ o.after.toList,Region.binds .any e=true∧(j=e.on∨(acc.getD e.on 0).testBit j=true):=by
 unfold DT at h
 have key:∀ (es:List Edge) (m:Nat),(es.foldl (fun m e=>if Region.binds .any e then (m ||| (1 <<<e.on)) ||| acc.getD e.on 0 else m) m).testBit j=true→
     m.testBit j=true∨∃ e ∈ es,Region.binds .any e=true∧(j=e.on∨(acc.getD e.on 0).testBit j=true):=by
  intro es
  induction es with
  | nil=>intro m h;exact .inl h
  | cons e es ih=>
   intro m h
   rw [List.foldl_cons] at h
   rcases ih _ h with h | ⟨e',h1,h2⟩
   · split at h
     · rename_i hb
       rw [Nat.testBit_or,Nat.testBit_or] at h
       simp only [Bool.or_eq_true] at h
       rcases h with (h | h) | h
       · exact .inl h
       · rw [Nat.one_shiftLeft,Nat.testBit_two_pow] at h
         exact .inr ⟨e,List.mem_cons_self,hb,.inl (of_decide_eq_true h).symm⟩
       · exact .inr ⟨e,List.mem_cons_self,hb,.inr h⟩
     · exact .inl h
   · exact .inr ⟨e',List.mem_cons_of_mem _ h1,h2⟩
 rcases key _ _ h with h | h
 · simp at h
 · exact h
structure SC (ops:List Oper) (ts:List Nat) (ms:List Nat):Prop where
 back:∀ (i:Nat) (o:Oper),ops[i]?=some o→∀ e ∈ o.after.toList,Region.binds .any e=true→e.on<i
 mask:∀ (i:Nat) (o:Oper),ops[i]?=some o→∀ j,(ms.getD i 0).testBit j=true→∃ e ∈ o.after.toList,Region.binds .any e=true∧(j=e.on∨(ms.getD e.on 0).testBit j=true)
 ord:∀ (i:Nat) (o:Oper) (j:Nat) (p:Oper),ops[i]?=some o→ops[j]?=some p→j<i→clash p.dst o.dst (jw ops p) (jw ops o) (co (ts.getD j 0)) (co (ts.getD i 0))=true→(ms.getD i 0).testBit j=true
theorem ER {ops:List Oper}{ts:List Nat}(h:uN ops ts=true):SC ops ts (masks ops []):=by
 unfold uN at h
 simp only [List.all_eq_true,List.mem_range] at h
 have hh:∀ i o,ops[i]?=some o→_:=fun i o ho=>by
  have:=h i (List.getElem?_eq_some_iff.1 ho).1
  rw [ho] at this
  simp only [Bool.and_eq_true,List.all_eq_true,List.mem_range,beq_iff_eq] at this
  exact this
 refine ⟨fun i o ho e he hb=>by simpa [hb] using (hh i o ho).1.1 e he,fun i o ho j hj=>?_,fun i o j p ho hp hji hc=>?_⟩
 · refine Hg ?_
   have h2:=(hh i o ho).1.2
   rw [← h2,Nat.testBit_and] at hj
   simp only [Bool.and_eq_true] at hj
   exact hj.2
 · have h3:=(hh i o ho).2 j hji
   have hlt:=(List.getElem?_eq_some_iff.1 hp).1
   have e1:(ops.map (jw ops)).getD j []=jw ops p:=by rw [List.getD_eq_getElem?_getD,List.getElem?_map,hp];rfl
   have e2:(ops.map (jw ops)).getD i []=jw ops o:=by rw [List.getD_eq_getElem?_getD,List.getElem?_map,ho];rfl
   rw [e1,e2,hp] at h3
   simp only [bind_some,hc,Bool.not_true,Bool.false_or] at h3
   exact h3
def ql (ops:List Oper) (i:Nat):Option Nat:=(ops[i]?).bind (·.dst)
def aR (tr:List Ju) (i:Nat):Ju:=tr.getD i default
def l_ (ops:List Oper) (tr:List Ju) (S:St) (X:Nat→Bool) (n:Nat):St:=⟨G_ (ql ops) (aR tr) X n S.tmps,pV (aR tr) X n S.objs⟩
theorem wH {own:Nat→Bool}{ops:List Oper}{S0:St}{tr0:List Ju}:∀ (qP:List Oper) (k:Nat) (S:St) (tr:List Ju) (S':St),Trace P D own ops qP k S tr S'→
  (∀ j,qP[j]?=ops[k+j]?)→(∀ j,tr[j]?=tr0[k+j]?)→S=l_ ops tr0 S0 (fun _=>true) k→
  (∀ i o,k≤i→ops[i]?=some o→rY P D (own i) ops o (l_ ops tr0 S0 (fun _=>true) i) (aR tr0 i))∧S'=l_ ops tr0 S0 (fun _=>true) (k+qP.length)
 | [],k,S,tr,S',h,hl,ht,hs=>by
  refine ⟨fun i o hi ho=>?_,by rw [h.2,hs];rfl⟩
  have:=hl (i-k)
  rw [show k+(i-k)=i by omega,ho] at this
  simp at this
 | o::rest,k,S,tr,S',h,hl,ht,hs=>by
  obtain ⟨e,tr',rfl,h1,h2⟩:=h
  have ho:ops[k]?=some o:=by simpa using (hl 0).symm
  have he:aR tr0 k=e:=by
   have:=ht 0
   simp only [List.getElem?_cons_zero,Nat.add_zero] at this
   simp [aR,List.getD_eq_getElem?_getD,← this]
  have hst:St.put ⟨S.tmps,e.objs⟩ o.dst e.r=l_ ops tr0 S0 (fun _=>true) (k+1):=by
   have e1:(l_ ops tr0 S0 (fun _=>true) (k+1)).tmps=o7 o.dst e.r S.tmps:=by
    simp only [l_,G_,if_true,he,ql,ho,bind_some]
    rw [hs];rfl
   have e2:(l_ ops tr0 S0 (fun _=>true) (k+1)).objs=e.objs:=by
    simp only [l_,pV,he,Bool.true_and]
    have hso:S.objs=pV (aR tr0) (fun _=>true) k S0.objs:=by rw [hs];rfl
    split
    · rfl
    · rename_i hne
      have hne:co e.t≠2:=by simpa using hne
      rcases h1 with ⟨_,h1,_⟩ | ⟨_,_,h1,_⟩
      · rw [h1 hne,hso]
      · rw [h1,hso]
   cases hd:o.dst with
   | none=>rw [hd] at e1;simp only [St.put,o7] at e1 ⊢;rw [← e1,← e2]
   | some d=>rw [hd] at e1;simp only [St.put,o7] at e1 ⊢;rw [← e1,← e2]
  obtain ⟨h3,h4⟩:=wH rest (k+1) _ tr' S' h2 (fun j=>by have:=hl (j+1);simpa [Nat.add_assoc,Nat.add_comm 1 j] using this)
   (fun j=>by have:=ht (j+1);simpa [Nat.add_assoc,Nat.add_comm 1 j] using this) hst
  refine ⟨fun i o' hi ho'=>?_,by rw [h4,List.length_cons];congr 1;omega⟩
  by_cases hik:i=k
  · subst hik
    rw [ho] at ho'
    cases ho'
    rw [he,← hs];exact h1
  · exact h3 i o' (by omega) ho'
theorem DU {dst:Nat→Option Nat}{en:Nat→Ju}{i:Nat}:∀ (n:Nat) (tm:List PV),i≤n→G_ dst en (fun j=>decide (j<i)) n tm=G_ dst en (fun _=>true) i tm
 | 0,_,h=>by have:i=0:=by omega
             subst this;rfl
 | n+1,tm,h=>by
  by_cases hi:i=n+1
  · subst hi
    exact nO (n+1) tm fun j hj=>by simp [hj]
  · simp only [G_]
    rw [if_neg (by simp;omega)]
    exact DU n tm (by omega)
theorem Lb {en:Nat→Ju}{i:Nat}:∀ (n:Nat) (ob:List Obj),i≤n→pV en (fun j=>decide (j<i)) n ob=pV en (fun _=>true) i ob
 | 0,_,h=>by have:i=0:=by omega
             subst this;rfl
 | n+1,tm,h=>by
  by_cases hi:i=n+1
  · subst hi
    exact pW (n+1) tm fun j hj _=>by simp [hj]
  · simp only [pV]
    rw [if_neg (by simp;omega)]
    exact Lb n tm (by omega)
theorem Hl {dj di:Option Nat}{lj li:List Nat}{tj ti x:Nat}(h:dj=some x) (hx:x ∈ li):clash dj di lj li tj ti=true:=by simp [clash,h,hx]
theorem ES {dj di:Option Nat}{lj li:List Nat}{tj ti x:Nat}(h:di=some x) (hx:x ∈ lj):clash dj di lj li tj ti=true:=by simp [clash,h,hx]
theorem Lc {dj di:Option Nat}{lj li:List Nat}{tj ti x:Nat}(h:dj=some x) (hx:di=some x):clash dj di lj li tj ti=true:=by simp [clash,h,hx]
theorem Vr {dj di:Option Nat}{lj li:List Nat}{tj ti:Nat}(h:tj=2) (hx:ti≠0):clash dj di lj li tj ti=true:=by simp [clash,h,hx]
theorem YZ {dj di:Option Nat}{lj li:List Nat}{tj ti:Nat}(h:ti=2) (hx:tj≠0):clash dj di lj li tj ti=true:=by simp [clash,h,hx]
theorem MB {own:Bool}{ops:List Oper}{o:Oper}{S S':St}{e:Ju}(h:rY P D own ops o S e) (hx:∀ x ∈ jw ops o,S.tmps.getD x .dead=S'.tmps.getD x .dead) (ho:e.t≠0→S.objs=S'.objs) :
  (iZ ops o.guard S'.tmps=some true∧(co e.t≠2→e.t≠0→e.objs=S'.objs)∧Jt P D own S'.ev S'.objs o.op (fun r objs' t=>r=e.r∧t=e.t∧(e.t=0→objs'=S'.objs)∧(e.t≠0→objs'=e.objs)))∨
  (iZ ops o.guard S'.tmps=some false∧e.r=.bP []∧e.t=0):=by
 have hev:∀ x ∈ o.op.operands,S.ev x=S'.ev x:=by
  intro x hm
  cases x with
  | tmp t=>exact hx t (List.mem_append_left _ (List.mem_filterMap.2 ⟨.tmp t,by simpa using hm,rfl⟩))
  | _=>rfl
 have hg:iZ ops o.guard S.tmps=iZ ops o.guard S'.tmps:=by
  cases hgd:o.guard with
  | none=>rfl
  | some g=>
   obtain ⟨j,want⟩:=g
   simp only [iZ]
   cases hd:(ops[j]?).bind (·.dst) with
   | none=>rfl
   | some d=>
    simp only []
    rw [hx d (List.mem_append_right _ (by rw [hgd];simp [hd]))]
 rcases h with ⟨h1,h2,h3,h4,_⟩ | ⟨h1,h2,h3,h4⟩
 · left
   refine ⟨hg ▸ h1,fun a b=>by rw [h2 a,ho b],?_⟩
   by_cases ht:e.t=0
   · exact xP hev (h4 ht S'.objs _ ⟨rfl,ht.symm,fun _=>rfl,fun c=>absurd ht c⟩)
   · have:=xP hev (h3 (fun r objs' t=>r=e.r∧t=e.t∧(e.t=0→objs'=S'.objs)∧(e.t≠0→objs'=e.objs)) ⟨rfl,rfl,fun c=>absurd c ht,fun _=>rfl⟩)
     rw [ho ht] at this
     exact this
 · exact .inr ⟨hg ▸ h1,h2,h4⟩
theorem WR {own:Nat→Bool}{ops:List Oper}{ts:List Nat}{ms:List Nat}{tr:List Ju}{S0:St}(hD:∀ t,iY P t (D t)) (hok:SC ops ts ms)
  (hts:∀ i,i<ops.length→ts.getD i 0=(aR tr i).t)
  (hst:∀ i o,ops[i]?=some o→rY P D (own i) ops o (l_ ops tr S0 (fun _=>true) i) (aR tr i))
  {X:Nat→Bool}{i:Nat}{o:Oper}(ho:ops[i]?=some o) (hX:X i=false) (hcl:∀ j,j<ops.length→X j=true→∀ x,(ms.getD j 0).testBit x=true→X x=true)
  (hrd:∀ x,(ms.getD i 0).testBit x=true→X x=true)
  {base ak:Nat→Prop}{w0:Wz}{blk:Nat→Option Nat}{a:Act}{w:World}(R:Rel base ak w0 (l_ ops tr S0 X ops.length) blk a w)
  {Q:Exit→Act→World→Prop}{K:Act→World→Prop}(hK:∀ ay a' w',Rel base ak w0 (l_ ops tr S0 (upd X i) ops.length) ay a' w'→K a' w') :
  wpOpIn (F6 l) 0 P ops.toArray Q i K a w:=by
 have hi:i<ops.length:=(List.getElem?_eq_some_iff.1 ho).1
 have hdst:ql ops i=o.dst:=by simp [ql,ho]
 have MC:∀ j,j<ops.length→∃ p,ops[j]?=some p∧ql ops j=p.dst:=fun j hj=>⟨ops[j],List.getElem?_eq_getElem hj,by simp [ql,List.getElem?_eq_getElem hj]⟩
 have before:∀ j p,ops[j]?=some p→j<i→clash p.dst o.dst (jw ops p) (jw ops o) (co (ts.getD j 0)) (co (ts.getD i 0))=true→X j=true:=
  fun j p hp hj hc=>hrd j (hok.ord i o j p ho hp hj hc)
 have behind:∀ j p,ops[j]?=some p→i<j→clash o.dst p.dst (jw ops o) (jw ops p) (co (ts.getD i 0)) (co (ts.getD j 0))=true→X j=false:=fun j p hp hj hc=>by
  cases hx:X j with
  | false=>rfl
  | true=>
   have:=hcl j (List.getElem?_eq_some_iff.1 hp).1 hx i (hok.ord j p i o hp ho hj hc)
   rw [hX] at this;cases this
 have Vs:∀ x ∈ jw ops o,(l_ ops tr S0 (fun _=>true) i).tmps.getD x .dead=(l_ ops tr S0 X ops.length).tmps.getD x .dead:=by
  intro x hx
  simp only [l_]
  rw [← DU (dst:=ql ops) ops.length S0.tmps (Nat.le_of_lt hi)]
  refine He _ _ fun j hj hd=>?_
  obtain ⟨p,hp,Y0⟩:=MC j hj
  rw [Y0] at hd
  rcases Nat.lt_trichotomy j i with hji | hji | hji
  · rw [before j p hp hji (Hl hd hx)];simp [hji]
  · subst hji;rw [hX];simp
  · rw [behind j p hp hji (ES hd hx)];simp;omega
 have oD:(aR tr i).t≠0→(l_ ops tr S0 (fun _=>true) i).objs=(l_ ops tr S0 X ops.length).objs:=by
  intro ht
  simp only [l_]
  rw [← Lb ops.length S0.objs (Nat.le_of_lt hi)]
  refine pW _ _ fun j hj h2=>?_
  obtain ⟨p,hp,Y0⟩:=MC j hj
  rcases Nat.lt_trichotomy j i with hji | hji | hji
  · rw [before j p hp hji (Vr (by rw [hts j hj];exact h2) (by rw [hts i hi];exact Vp ht))];simp [hji]
  · subst hji;rw [hX];simp
  · rw [behind j p hp hji (YZ (by rw [hts j hj];exact h2) (by rw [hts i hi];exact Vp ht))];simp;omega
 have hadd:o7 o.dst (aR tr i).r (l_ ops tr S0 X ops.length).tmps=(l_ ops tr S0 (upd X i) ops.length).tmps:=by
  simp only [l_]
  rw [← hdst]
  refine Mv _ _ hi hX fun j hj hjn hxj x hx hd=>?_
  obtain ⟨p,hp,Y0⟩:=MC j hjn
  rw [Y0] at hd
  rw [hdst] at hx
  have:=behind j p hp hj (Lc hx hd)
  rw [this] at hxj;cases hxj
 have abR:(l_ ops tr S0 (upd X i) ops.length).objs=if co (aR tr i).t=2 then (aR tr i).objs else (l_ ops tr S0 X ops.length).objs:=by
  simp only [l_]
  split
  · rename_i ht
    refine Mw _ _ hi ht fun j hj hjn hxj hj2=>?_
    obtain ⟨p,hp,Y0⟩:=MC j hjn
    have:=behind j p hp hj (Vr (by rw [hts i hi];exact ht) (by rw [hts j hjn,hj2];decide))
    rw [this] at hxj;cases hxj
  · rename_i ht
    refine pW _ _ fun j hj h2=>?_
    have hne:j≠i:=fun e=>ht (e ▸ h2)
    simp [upd,hne]
 have hput:∀ objs',(objs'=(l_ ops tr S0 (upd X i) ops.length).objs)→St.put ⟨(l_ ops tr S0 X ops.length).tmps,objs'⟩ o.dst (aR tr i).r=l_ ops tr S0 (upd X i) ops.length:=by
  rintro objs' rfl
  cases hd:o.dst with
  | none=>rw [hd] at hadd;simp only [o7] at hadd;simp only [St.put];rw [hadd]
  | some d=>rw [hd] at hadd;simp only [o7] at hadd;simp only [St.put];rw [hadd]
 unfold wpOpIn
 have h0:ops.toArray[i]?=some o:=by simpa using ho
 rw [h0]
 simp only []
 rcases MB (hst i o ho) Vs oD with ⟨h1,h2,h3⟩ | ⟨h1,h2,h3⟩
 · rw [if_pos (o6 R h1)]
   refine Bz l hD R h3 fun r objs' t v w' ay hr R' hv=>?_
   obtain ⟨rfl,rfl,e0,e1⟩:=hr
   have:=R'.put hv o.dst
   rw [hput objs' (by
    rw [abR]
    split
    · rename_i ht;exact e1 (fun hz=>by rw [hz] at ht;exact absurd ht (by decide))
    · rename_i ht
      by_cases hz:(aR tr i).t=0
      · exact e0 hz
      · rw [e1 hz];exact h2 ht hz)] at this
   exact hK _ _ _ this
 · rw [if_neg (by rw [o6 R h1];simp)]
   refine ⟨fun _ _=>trivial,?_⟩
   have:=R.put (xQ w _ _ blk) o.dst
   rw [← h2] at this
   have hs:=hput (l_ ops tr S0 X ops.length).objs (by rw [abR,if_neg (by rw [h3];decide)])
   rw [show (l_ ops tr S0 X ops.length).put o.dst (aR tr i).r=St.put ⟨(l_ ops tr S0 X ops.length).tmps,(l_ ops tr S0 X ops.length).objs⟩ o.dst (aR tr i).r from rfl,hs] at this
   exact hK _ _ _ this
theorem Ho {own:Nat→Bool}{ops:List Oper}{ts:List Nat}{ms:List Nat}{tr:List Ju}{S0:St}(hD:∀ t,iY P t (D t)) (hok:SC ops ts ms)
  (hts:∀ i,i<ops.length→ts.getD i 0=(aR tr i).t)
  (hst:∀ i o,ops[i]?=some o→rY P D (own i) ops o (l_ ops tr S0 (fun _=>true) i) (aR tr i))
  {base ak:Nat→Prop}{w0:Wz}{Q:Exit→Act→World→Prop}
  (hQ:∀ ay a' w',Rel base ak w0 (l_ ops tr S0 (fun _=>true) ops.length) ay a' w'→Q .normal a' w') :
  ∀ (fuel:Nat) (L:Array Bool) (blk:Nat→Option Nat) (a:Act) (w:World),L.size=ops.length→
   (∀ j,j<ops.length→L.getD j false=true→∀ x,(ms.getD j 0).testBit x=true→L.getD x false=true)→cnt (fun j=>L.getD j false) ops.length≤fuel→
   Rel base ak w0 (l_ ops tr S0 (fun j=>L.getD j false) ops.length) blk a w→wpAnyIn (F6 l) 0 P .any ops.toArray Q fuel L a w:=by
 have full:∀ (L:Array Bool),L.size=ops.length→Region.ready .any ops.toArray L=[]→∀ i,i<ops.length→L.getD i false=true:=by
  intro L hsz hr i
  induction i using Nat.strongRecOn with
  | _ i ih=>
   intro hi
   cases hx:L.getD i false with
   | true=>rfl
   | false=>
    have hmem:i ∈ Region.ready .any ops.toArray L:=by
     simp only [Region.ready,List.mem_filter,List.mem_range,Bool.and_eq_true]
     refine ⟨by simpa using hi,?_,?_⟩
     · have hil:i<L.size:=by omega
       rw [Array.getD_eq_getD_getElem?,Array.getElem?_eq_getElem hil,getD_some] at hx ⊢
       rw [hx];rfl
     · have ho:ops.toArray[i]?=some ops[i]:=by simp [hi]
       rw [ho]
       simp only [map_some,getD_some]
       rw [Array.all_eq_true']
       intro e he
       cases hbd:Region.binds .any e with
       | false=>simp
       | true=>
        have hb:=hok.back i ops[i] (List.getElem?_eq_getElem hi) e (by simpa using he) hbd
        rw [ih e.on hb (by omega)];simp
    rw [hr] at hmem
    simp at hmem
 have step:∀ (L:Array Bool) (i:Nat),L.size=ops.length→i ∈ Region.ready .any ops.toArray L→∃ o,ops[i]?=some o∧L.getD i false=false∧∀ e ∈ o.after.toList,Region.binds .any e=true→L.getD e.on false=true:=by
  intro L i hsz hm
  simp only [Region.ready,List.mem_filter,List.mem_range,Bool.and_eq_true] at hm
  obtain ⟨hi,h1,h2⟩:=hm
  have hi:i<ops.length:=by simpa using hi
  have ho:ops.toArray[i]?=some ops[i]:=by simp [hi]
  rw [ho] at h2
  simp only [map_some,getD_some] at h2
  rw [Array.all_eq_true'] at h2
  refine ⟨ops[i],List.getElem?_eq_getElem hi,?_,fun e he hb=>?_⟩
  · have hil:i<L.size:=by omega
    rw [Array.getD_eq_getD_getElem?,Array.getElem?_eq_getElem hil,getD_some] at h1 ⊢
    simpa using h1
  · have:=h2 e (by simpa using he)
    rw [hb] at this
    simpa using this
 intro fuel
 induction fuel with
 | zero=>
  intro L blk a w hsz hcl hc R
  have hall:=Hf (X:=fun j=>L.getD j false) ops.length (by omega)
  have hst':l_ ops tr S0 (fun j=>L.getD j false) ops.length=l_ ops tr S0 (fun _=>true) ops.length:=by
   simp only [l_];rw [nO ops.length _ hall,pW ops.length _ fun j hj _=>hall j hj]
  refine ⟨?_,hQ blk a w (hst' ▸ R)⟩
  cases hr:Region.ready .any ops.toArray L with
  | nil=>rfl
  | cons i is=>
   obtain ⟨o,ho,hx,_⟩:=step L i hsz (by rw [hr];exact List.mem_cons_self)
   rw [hall i (List.getElem?_eq_some_iff.1 ho).1] at hx
   cases hx
 | succ fuel ih=>
  intro L blk a w hsz hcl hc R
  refine ⟨fun hr=>?_,fun i hm=>?_⟩
  · have hall:=full L hsz hr
    have hst':l_ ops tr S0 (fun j=>L.getD j false) ops.length=l_ ops tr S0 (fun _=>true) ops.length:=by
     simp only [l_];rw [nO ops.length _ hall,pW ops.length _ fun j hj _=>hall j hj]
    exact hQ blk a w (hst' ▸ R)
  · obtain ⟨o,ho,hx,hrd⟩:=step L i hsz hm
    have hi:i<ops.length:=(List.getElem?_eq_some_iff.1 ho).1
    have Y1:∀ x,(ms.getD i 0).testBit x=true→L.getD x false=true:=by
     intro x hb
     obtain ⟨e,h1,h2,h3⟩:=hok.mask i o ho x hb
     have he:=hrd e h1 h2
     rcases h3 with rfl | h3
     · exact he
     · exact hcl e.on (by have:=hok.back i o ho e h1 h2;omega) he x h3
    have Y2:∀ j,(L.setIfInBounds i true).getD j false=upd (fun j=>L.getD j false) i j:=by
     intro j
     rw [Array.getD_eq_getD_getElem?,Array.getElem?_setIfInBounds]
     simp only [upd]
     by_cases hij:i=j
     · subst hij
       rw [if_pos rfl,if_pos (by omega)];simp
     · rw [if_neg hij,Array.getD_eq_getD_getElem?]
       have:(j==i)=false:=by simp;omega
       rw [this,Bool.or_false]
    have hfun:(fun j=>(L.setIfInBounds i true).getD j false)=upd (fun j=>L.getD j false) i:=funext Y2
    refine WR (X:=fun j=>L.getD j false) hD hok hts hst ho hx hcl Y1 R fun ay a' w' R'=>?_
    refine ih _ ay a' w' (by simpa using hsz) ?_ ?_ (by rw [hfun];exact R')
    · intro j hj hb x hbx
      rw [Y2] at hb ⊢
      simp only [upd,Bool.or_eq_true,beq_iff_eq] at hb ⊢
      rcases hb with hb | rfl
      · exact .inl (hcl j hj hb x hbx)
      · exact .inl (Y1 x hbx)
    · rw [hfun]
      have:=Mx (X:=fun j=>L.getD j false) ops.length hi hx
      omega
theorem PW.draw {E:Env}{id:Nat}{ops:List Oper}{Q:Exit→St→Prop}{S:St}(own:Nat→Bool) (hD:∀ t,iY P t (D t)) (hm:P.follows .mixedOrders=true)
  (h:qj P D own ops ops 0 S [] fun S' ts=>uN ops ts=true∧Q .normal S'):PW P l E (.region id ops.toArray true) Q S:=by
 intro base ak V hE blk a w ⟨w0,hV,R⟩
 obtain ⟨tr,S',h1,h2,h3⟩:=mJ _ _ _ _ _ h
 obtain ⟨h4,h5⟩:=wH (S0:=S) (tr0:=tr) ops 0 S tr S' h1 (fun j=>by simp) (fun j=>by simp) rfl
 refine wpIn_region_any hm ?_
 have R':Rel base ak w0 S blk a { w with drawn:=w.drawn+1 }:=R.grew (.same rfl)
 have hR:∀ (L:Array Bool),(∀ j,L.getD j false=false)→l_ ops tr S (fun j=>L.getD j false) ops.length=S:=by
  intro L hL
  have e1:∀ n tm,G_ (ql ops) (aR tr) (fun j=>L.getD j false) n tm=tm:=by
   intro n tm
   induction n with
   | zero=>rfl
   | succ n ih=>simp only [G_];rw [if_neg (by rw [hL n];simp)];exact ih
  have e2:∀ n ob,pV (aR tr) (fun j=>L.getD j false) n ob=ob:=by
   intro n ob
   induction n with
   | zero=>rfl
   | succ n ih=>simp only [pV];rw [if_neg (by rw [hL n];simp)];exact ih
  simp only [l_,e1,e2]
 have hcn:∀ (X:Nat→Bool) n,cnt X n≤n:=by
  intro X n
  induction n with
  | zero=>exact Nat.le_refl _
  | succ n ih=>simp only [cnt];split <;> omega
 have hrep:∀ j,(Array.replicate ops.toArray.size false).getD j false=false:=by
  intro j
  rw [Array.getD_eq_getD_getElem?,Array.getElem?_replicate]
  split <;> rfl
 have hts:∀ i,i<ops.length→(tr.map (·.t)).getD i 0=(aR tr i).t:=by
  intro i hi
  have hl:tr.length=ops.length:=by
   clear h2 h3 h4 h5 h
   have:∀ (qP:List Oper) (k:Nat) (S:St) (tr:List Ju) (S':St),Trace P D own ops qP k S tr S'→tr.length=qP.length:=by
    intro qP
    induction qP with
    | nil=>rintro k S tr S' ⟨rfl,_⟩;rfl
    | cons o qP ih=>
     rintro k S tr S' ⟨e,tr',rfl,_,h⟩
     simp [ih _ _ _ _ h]
   exact this _ _ _ _ _ h1
  have hil:i<tr.length:=by omega
  simp [aR,List.getD_eq_getElem?_getD,List.getElem?_map,List.getElem?_eq_getElem hil]
 rw [Nat.zero_add] at h5
 subst h5
 have hc:=hcn (fun j=>(Array.replicate ops.toArray.size false).getD j false) ops.length
 have hsz:ops.toArray.size=ops.length:=by simp
 have hrs:(Array.replicate ops.toArray.size false).size=ops.length:=by simp
 have hQ:∀ ay a' w',Rel base ak w0 (l_ ops tr S (fun _=>true) ops.length) ay a' w'→∃ S' qm,Q .normal S'∧qW base ak V S' qm a' w':=
  fun ay a' w' R''=>⟨_,ay,h3,w0,hV,R''⟩
 have R1:Rel base ak w0 (l_ ops tr S (fun j=>(Array.replicate ops.toArray.size false).getD j false) ops.length) blk a { w with drawn:=w.drawn+1 }:=by rw [hR _ hrep];exact R'
 have hcl:∀ j,j<ops.length→(Array.replicate ops.toArray.size false).getD j false=true→∀ x,((masks ops []).getD j 0).testBit x=true→(Array.replicate ops.toArray.size false).getD x false=true:=by
  intro j _ hb
  rw [hrep] at hb;cases hb
 have h2':uN ops (tr.map (·.t))=true:=h2
 generalize Array.replicate ops.toArray.size false=L at *
 exact Ho (Q:=fun e a' w'=>∃ S' ay,Q e S'∧qW base ak V S' ay a' w') hD (ER h2') hts (fun i o ho=>h4 i o (Nat.zero_le _) ho) hQ ops.toArray.size L blk a _ hrs hcl (by rw [hsz];exact hc) R1
end Lp
namespace Lp
open Go
open Bool (and_eq_true or_eq_true)
open Option (getD_some map_some)
variable {P:Program}{D:TypeId→aJ}{l:Option Nat}
def hole:Obj:=⟨0,0,[],false,0⟩
section
variable {base ak:Nat→Prop}{w0:Wz}{blk:Nat→Option Nat}{a:Act}{w:World}
theorem BD {ok:Nat→Prop}{objs:List Obj}{cs:List PV}{vs:List Value}(h:dw (bS w ok objs blk) cs vs):cs.all (PV.v_ objs.length)=true:=by
 rw [List.all_eq_true]
 intro p hp
 obtain ⟨i,hi,rfl⟩:=List.getElem_of_mem hp
 exact oI (h.2 i _ _ (List.getElem?_eq_getElem hi) (List.getElem?_eq_getElem (by rw [← h.1];exact hi)))
theorem Pp {ok:Nat→Prop}{objs:List Obj}{p:PV}{v:Value}(h:aZ w ok objs blk p v):p.lt objs.length=true:=by
 cases p with
 | fn f a c=>obtain ⟨_,_,_,h1,h2⟩:=h;simp only [PV.lt,BD h1,BD h2,Bool.and_self]
 | bP cs=>obtain ⟨_,_,h1⟩:=h;simp only [PV.lt,BD h1]
 | agg cs=>obtain ⟨_,_,h1⟩:=h;simp only [PV.lt,BD h1]
 | bA k ver=>exact oI (w:=w) (ok:=ok) (p:=.bA k ver) (v:=v) h
 | bR k ver i f=>exact oI (w:=w) (ok:=ok) (p:=.bR k ver i f) (v:=v) h
 | uw k ver=>exact oI (w:=w) (ok:=ok) (p:=.uw k ver) (v:=v) h
 | _=>rfl
theorem Rel.holes {S:St}(R:Rel base ak w0 S blk a w):∀ n:Nat,∃ ay,Rel base ak w0 ⟨S.tmps,S.objs++List.replicate n hole⟩ ay a w
 | 0=>⟨blk,by simpa using R⟩
 | n+1=>by
  obtain ⟨ay,R'⟩:=R.holes n
  have h:=R'.DI (o1:=hole) (gb:=none) (kY.refl w) (fun g hg=>by cases hg) fun _=>by
   unfold dm aK
   rw [if_pos rfl]
   rfl
  rw [List.replicate_succ',← List.append_assoc]
  exact ⟨_,h⟩
theorem Rel.fill {tm:List PV}{O:List Obj}{o1:Obj}{k:Nat}{w':World}{ay:Nat→Option Nat}(R:Rel base ak w0 ⟨tm,O⟩ blk a w) (hk:O[k]?=some hole) (hl:o1.live=true) (hv:o1.ver=1)
  (R':Rel base ak w0 ⟨tm,O++[o1]⟩ ay a w') (hn:EJ O (O++[o1])){mk:Nat→PV}(hm:Mk mk){v:Value}(hr:aZ w' (dn base (O++[o1]) ay) (O++[o1]) ay (mk O.length) v) :
  ∃ iP,Rel base ak w0 ⟨tm,O.set k o1⟩ iP a w'∧aZ w' (dn base (O.set k o1) iP) (O.set k o1) iP (mk k) v:=by
 have hkl:=(List.getElem?_eq_some_iff.1 hk).1
 obtain ⟨iP,hb2⟩:∃ iP:Nat→Option Nat,iP=fun j=>if j=k then ay O.length else ay j:=⟨_,rfl⟩
 have bk:iP k=ay O.length:=by rw [hb2];simp
 have bo:∀ j,j≠k→iP j=ay j:=fun j hj=>by rw [hb2];simp [hj]
 have aaX:(O++[o1])[O.length]?=some o1:=by simp
 have aeV:∀ j o,O[j]?=some o→(O++[o1])[j]?=some o:=fun j o h=>by
  rw [List.getElem?_append_left (List.getElem?_eq_some_iff.1 h).1];exact h
 have gk:(O.set k o1)[k]?=some o1:=by rw [List.getElem?_set];simp [hkl]
 have go:∀ j,j≠k→(O.set k o1)[j]?=O[j]?:=fun j hj=>by rw [List.getElem?_set,if_neg (fun e=>hj e.symm)]
 have hlive:∀ (j:Nat) (o:Obj),(O.set k o1)[j]?=some o→o.live=true→∃ j',(O++[o1])[j']?=some o∧ay j'=iP j∧((j=k∧j'=O.length)∨(j≠k∧j'=j∧j<O.length)):=by
  intro j o h1 h2
  by_cases hj:j=k
  · subst hj
    rw [gk] at h1;cases h1
    exact ⟨O.length,aaX,bk.symm,.inl ⟨rfl,rfl⟩⟩
  · rw [go j hj] at h1
    exact ⟨j,aeV j o h1,(bo j hj).symm,.inr ⟨hj,rfl,(List.getElem?_eq_some_iff.1 h1).1⟩⟩
 have hnl:∀ b,bf (O++[o1]) ay b→bf (O.set k o1) iP b:=by
  intro b h j o h1 h2 h3
  obtain ⟨j',g1,g2,_⟩:=hlive j o h1 h2
  exact h j' o g1 h2 (by rw [g2];exact h3)
 have hok:∀ b,dn base (O++[o1]) ay b→dn base (O.set k o1) iP b:=fun b h=>⟨h.1,hnl b h.2⟩
 have hS:∀ (p:PV) (u:Value),p.v_ O.length=true→bS w' (dn base (O++[o1]) ay) (O++[o1]) ay p u→bS w' (dn base (O.set k o1) iP) (O.set k o1) iP p u:=by
  intro p u hp h
  have hm':∀ q:PV,dN w' (dn base (O++[o1]) ay) q u→dN w' (dn base (O.set k o1) iP) q u:=fun q hq=>hq.mono (Nat.le_refl _) (fun b _ hb=>hok b hb) (fun _ _ _ h=>h)
  cases p with
  | bA j ver=>
   have hj:j<O.length:=by simpa [PV.v_] using hp
   obtain ⟨h0,o,g1,g2,g3⟩:=h
   rw [List.getElem?_append_left hj] at g1
   by_cases hjk:j=k
   · subst hjk
     rw [hk] at g1;cases g1
     refine ⟨h0,o1,gk,by rw [hv];exact Nat.le_trans g2 (by decide),fun _ e=>?_⟩
     have:ver≤0:=g2
     omega
   · refine ⟨h0,o,by rw [go j hjk];exact g1,g2,fun e1 e2=>?_⟩
     obtain ⟨hM,this⟩:=g3 e1 e2
     refine ⟨hM,?_⟩
     unfold Bq at this ⊢
     rw [bo j hjk];exact this
  | bR j ver i f=>
   have hj:j<O.length:=by simpa [PV.v_] using hp
   obtain ⟨h0,o,g1,g2,g3⟩:=h
   rw [List.getElem?_append_left hj] at g1
   by_cases hjk:j=k
   · subst hjk
     rw [hk] at g1;cases g1
     refine ⟨h0,o1,gk,by rw [hv];exact Nat.le_trans g2 (by decide),fun _ e=>?_⟩
     have:ver≤0:=g2
     omega
   · refine ⟨h0,o,by rw [go j hjk];exact g1,g2,fun e1 e2=>?_⟩
     rw [bo j hjk];exact g3 e1 e2
  | uw j ver=>
   have hj:j<O.length:=by simpa [PV.v_] using hp
   obtain ⟨h0,o,g1,g2,g3⟩:=h
   rw [List.getElem?_append_left hj] at g1
   by_cases hjk:j=k
   · subst hjk
     rw [hk] at g1;cases g1
     refine ⟨h0,o1,gk,by rw [hv];exact Nat.le_trans g2 (by decide),fun _ e=>?_⟩
     have:ver≤0:=g2
     omega
   · refine ⟨h0,o,by rw [go j hjk];exact g1,g2,fun e1 e2=>?_⟩
     rw [bo j hjk];exact g3 e1 e2
  | _=>exact hm' _ h
 have hLs:∀ (cs:List PV) (us:List Value),cs.all (PV.v_ O.length)=true→dw (bS w' (dn base (O++[o1]) ay) (O++[o1]) ay) cs us→dw (bS w' (dn base (O.set k o1) iP) (O.set k o1) iP) cs us:=
  fun cs us hc h=>⟨h.1,fun i p u h1 h2=>hS p u (List.all_eq_true.1 hc p (List.mem_of_getElem? h1)) (h.2 i p u h1 h2)⟩
 have hT:∀ (p:PV) (u:Value),p.lt O.length=true→aZ w' (dn base (O++[o1]) ay) (O++[o1]) ay p u→aZ w' (dn base (O.set k o1) iP) (O.set k o1) iP p u:=by
  intro p u hp h
  cases p with
  | fn f a c=>
   simp only [PV.lt,and_eq_true] at hp
   obtain ⟨va,vc,rfl,h1,h2⟩:=h
   exact ⟨va,vc,rfl,hLs _ _ hp.1 h1,hLs _ _ hp.2 h2⟩
  | bP cs=>obtain ⟨us,rfl,h1⟩:=h;exact ⟨us,rfl,hLs _ _ hp h1⟩
  | agg cs=>obtain ⟨us,rfl,h1⟩:=h;exact ⟨us,rfl,hLs _ _ hp h1⟩
  | bA j ver=>exact hS (.bA j ver) u hp h
  | bR j ver i f=>exact hS (.bR j ver i f) u hp h
  | uw j ver=>exact hS (.uw j ver) u hp h
  | _=>exact .kL (hS _ u rfl (by exact h))
 have EK:∀ (j j':Nat) (o:Obj),dm w' (dn base (O++[o1]) ay) (O++[o1]) ay j' o→ay j'=iP j→(∀ x ∈ o.xs,∀ p ∈ x.cells,∀ u,bS w' (dn base (O++[o1]) ay) (O++[o1]) ay p u→bS w' (dn base (O.set k o1) iP) (O.set k o1) iP p u)→
     dm w' (dn base (O.set k o1) iP) (O.set k o1) iP j o:=by
  intro j j' o h e ht
  unfold dm at h ⊢
  rw [← e]
  cases hb:ay j' with
  | none=>rw [hb] at h;exact h
  | some g=>
   rw [hb] at h
   obtain ⟨c,x1,x2,x3⟩:=h
   refine ⟨c,x1,x2,fun i x hx=>⟨(x3 i x hx).1,fun q p hp=>?_⟩⟩
   obtain ⟨u,y1,y2⟩:=(x3 i x hx).2 q p hp
   exact ⟨u,y1,ht x (List.mem_of_getElem? hx) p (List.mem_of_getElem? hp) u y2⟩
 refine ⟨iP,⟨R'.oG.mono (fun b _ h=>⟨hok b h.1,h.2⟩) (fun _ _ _ h=>h),R'.Dz,fun t p hp=>hT p _ (Pp (R.tm t p hp)) (R'.tm t p hp),⟨?_,?_,?_⟩,R'.pr,R'.fr,R'.gr,R'.pb,fun x hx=>hT _ _ (Pp (R.ext x hx)) (R'.ext x hx),R'.K4,R'.sm,R'.gl⟩,?_⟩
 · intro j o h1 h2
   obtain ⟨j',g1,g2,hc⟩:=hlive j o h1 h2
   have h3:=R'.objs.ob j' o g1 h2
   refine EK j j' o h3 g2 fun x hx p hp u hu=>?_
   rcases hc with ⟨rfl,rfl⟩ | ⟨hj,_,hjl⟩
   · rw [gk] at h1;cases h1
     exact hS p u (hn o1 rfl x hx p hp) hu
   ·
    rw [go j hj] at h1
    have h4:=R.objs.ob j o h1 h2
    have hlt:p.v_ O.length=true:=by
     obtain ⟨i,hi,rfl⟩:=List.getElem_of_mem hx
     obtain ⟨q,hq,rfl⟩:=List.getElem_of_mem hp
     unfold dm at h4
     cases hb:blk j with
     | none=>rw [hb] at h4;simp [h4] at hi
     | some g=>
      rw [hb] at h4
      obtain ⟨c,_,_,x3⟩:=h4
      obtain ⟨u',_,y2⟩:=(x3 i _ (List.getElem?_eq_getElem hi)).2 q _ (List.getElem?_eq_getElem hq)
      exact oI y2
    exact hS p u hlt hu
 · intro j1 j2 q1 q2 g hne h1 h2 h3 h4 h5
   obtain ⟨i1,a1,a2,a3⟩:=hlive j1 q1 h1 h2
   obtain ⟨i2,b1,b2,b3⟩:=hlive j2 q2 h3 h4
   rw [← a2] at h5
   rw [← b2]
   refine R'.objs.KZ i1 i2 q1 q2 g ?_ a1 h2 b1 h4 h5
   rcases a3 with ⟨rfl,rfl⟩ | ⟨_,rfl,_⟩ <;> rcases b3 with ⟨rfl,rfl⟩ | ⟨_,rfl,_⟩ <;> first | exact absurd rfl hne | omega
 · intro j o g h1 h2 h3
   obtain ⟨j',g1,g2,_⟩:=hlive j o h1 h2
   rw [← g2] at h3
   exact R'.objs.np j' o g g1 h2 h3
 · rcases hm with rfl | rfl | rfl
   · obtain ⟨h0,o,g1,g2,g3⟩:=hr
     rw [aaX] at g1;cases g1
     refine ⟨h0,o1,gk,g2,fun e1 e2=>?_⟩
     obtain ⟨hM,this⟩:=g3 e1 e2
     refine ⟨hM,?_⟩
     unfold Bq at this ⊢
     rw [bk];exact this
   · obtain ⟨h0,o,g1,g2,g3⟩:=hr
     rw [aaX] at g1;cases g1
     refine ⟨h0,o1,gk,g2,fun e1 e2=>?_⟩
     rw [bk];exact g3 e1 e2
   · obtain ⟨h0,o,g1,g2,g3⟩:=hr
     rw [aaX] at g1;cases g1
     refine ⟨h0,o1,gk,g2,fun e1 e2=>?_⟩
     rw [bk];exact g3 e1 e2
end
def ME (t:Nat):Option Nat:=if 5≤t∧t % 2=1 then some ((t-5) / 2) else none
theorem SE (k:Nat):ME (5+2*k)=some k:=by
 unfold ME;rw [if_pos (by omega)];congr 1;omega
theorem Y3 (k:Nat):ME (4+2*k)=none:=by unfold ME;rw [if_neg (by omega)]
theorem Pq:ME 0=none:=rfl
def zL (tj ti:Nat):Bool:=decide (4≤tj) && decide (4≤ti) && (tj-4) / 2==(ti-4) / 2 && (tj % 2==1 || ti % 2==1)
theorem DV {tj ti k:Nat}(h:(ME tj=some k∧(ti=4+2*k∨ti=5+2*k))∨(ME ti=some k∧(tj=4+2*k∨tj=5+2*k))):zL tj ti=true:=by
 have key:∀ t,ME t=some k→t=5+2*k:=by
  intro t ht
  unfold ME at ht
  split at ht
  · simp only [Option.some.injEq] at ht;omega
  · cases ht
 unfold zL
 simp only [and_eq_true,decide_eq_true_eq,or_eq_true,beq_iff_eq]
 rcases h with ⟨h1,h2 | h2⟩ | ⟨h1,h2 | h2⟩ <;> have:=key _ h1 <;> omega
def BF (t:Nat):Bool:=t==0 || decide (4≤t)
theorem ET {t:Nat}(h:BF t=true):t=0∨(∃ k,t=4+2*k)∨∃ k,t=5+2*k:=by
 simp only [BF,or_eq_true,beq_iff_eq,decide_eq_true_eq] at h
 rcases h with h | h
 · exact .inl h
 · rcases Nat.mod_two_eq_zero_or_one t with e | e
   · exact .inr (.inl ⟨(t-4) / 2,by omega⟩)
   · exact .inr (.inr ⟨(t-5) / 2,by omega⟩)
structure MF (ops:List Oper) (ts:List Nat) (ms:List Nat):Prop where
 fine:∀ i,i<ops.length→BF (ts.getD i 0)=true
 back:∀ (i:Nat) (o:Oper),ops[i]?=some o→∀ e ∈ o.after.toList,Region.binds .any e=true→e.on<i
 mask:∀ (i:Nat) (o:Oper),ops[i]?=some o→∀ j,(ms.getD i 0).testBit j=true→∃ e ∈ o.after.toList,Region.binds .any e=true∧(j=e.on∨(ms.getD e.on 0).testBit j=true)
 ord:∀ (i:Nat) (o:Oper) (j:Nat) (p:Oper),ops[i]?=some o→ops[j]?=some p→j<i→(clash p.dst o.dst (jw ops p) (jw ops o) 0 0 || zL (ts.getD j 0) (ts.getD i 0))=true→(ms.getD i 0).testBit j=true
section
variable {en:Nat→Ju}
def BG (en:Nat→Ju) (X:Nat→Bool):Nat→List Obj→List Obj
 | 0,ob=>ob
 | n+1,ob=>if X n then (match ME (en n).t with
  | some k=>(BG en X n ob).set k ((en n).objs.getD k hole)
  | none=>BG en X n ob) else BG en X n ob
theorem qo (X:Nat→Bool):∀ (n:Nat) (ob:List Obj),(BG en X n ob).length=ob.length
 | 0,_=>rfl
 | n+1,ob=>by
  simp only [BG]
  split
  · split
    · rw [List.length_set,qo X n ob]
    · exact qo X n ob
  · exact qo X n ob
theorem sQ {X Y:Nat→Bool}:∀ (n:Nat) (ob:List Obj),(∀ j,j<n→X j=Y j)→BG en X n ob=BG en Y n ob
 | 0,_,_=>rfl
 | n+1,ob,h=>by simp only [BG];rw [h n (by omega),sQ n ob (fun j hj=>h j (by omega))]
theorem Vt {X Y:Nat→Bool}{k:Nat}:∀ (n:Nat) (ob:List Obj),(∀ j,j<n→ME (en j).t=some k→X j=Y j)→(BG en X n ob)[k]?=(BG en Y n ob)[k]?
 | 0,_,_=>rfl
 | n+1,ob,h=>by
  have ih:=Vt (X:=X) (Y:=Y) (k:=k) n ob (fun j hj=>h j (by omega))
  have hl:(BG en X n ob).length=(BG en Y n ob).length:=by rw [qo,qo]
  simp only [BG]
  cases hw:ME (en n).t with
  | none=>simp only [];split <;> split <;> exact ih
  | some k'=>
   simp only []
   by_cases hk:k'=k
   · subst hk
     rw [h n (by omega) hw]
     split
     · rw [List.getElem?_set,List.getElem?_set];simp [hl]
     · exact ih
   · split <;> split <;> (try rw [List.getElem?_set,if_neg hk]) <;> (try rw [List.getElem?_set,if_neg hk]) <;> exact ih
theorem Ld {i:Nat}:∀ (n:Nat) (ob:List Obj),i≤n→BG en (fun j=>decide (j<i)) n ob=BG en (fun _=>true) i ob
 | 0,_,h=>by have:i=0:=by omega
             subst this;rfl
 | n+1,ob,h=>by
  by_cases hi:i=n+1
  · subst hi
    exact sQ (n+1) ob fun j hj=>by simp [hj]
  · simp only [BG]
    rw [if_neg (by simp;omega)]
    exact Ld n ob (by omega)
theorem Vu {X:Nat→Bool}{i k:Nat}:∀ (n:Nat) (ob:List Obj),i<n→X i=false→ME (en i).t=some k→(∀ j,i<j→j<n→X j=true→ME (en j).t≠some k)→
  BG en (upd X i) n ob=(BG en X n ob).set k ((en i).objs.getD k hole)
 | 0,_,h,_,_,_=>by omega
 | n+1,ob,hi,hx,hw,hd=>by
  simp only [BG]
  by_cases hin:i=n
  · subst hin
    simp only [hx,upd,beq_self_eq_true,Bool.or_true,if_true,Bool.false_eq_true,if_false,hw]
    rw [sQ (en:=en) (X:=upd X i) (Y:=X) i ob (fun j hj=>by simp [upd];omega)]
  · have hu:upd X i n=X n:=by simp [upd];omega
    rw [hu]
    have ih:=Vu (X:=X) n ob (by omega) hx hw (fun j h1 h2=>hd j h1 (by omega))
    split
    · rename_i hn
      have:=hd n (by omega) (by omega) hn
      split
      · rename_i k' hk'
        rw [hk'] at this
        have hne:k≠k':=fun e=>this (by rw [e])
        rw [ih,List.set_comm _ _ hne]
      · exact ih
    · exact ih
theorem Ps {X:Nat→Bool}{i:Nat}:∀ (n:Nat) (ob:List Obj),ME (en i).t=none→BG en (upd X i) n ob=BG en X n ob
 | 0,_,_=>rfl
 | n+1,ob,hw=>by
  have ih:=Ps (X:=X) n ob hw
  simp only [BG]
  by_cases hin:n=i
  · subst hin
    rw [hw,ih]
    simp
  · have hu:upd X i n=X n:=by simp [upd,hin]
    rw [hu,ih]
end
def vV (ops:List Oper) (tr:List Ju) (S:St) (A:Nat) (X:Nat→Bool) (n:Nat):St:=⟨G_ (ql ops) (aR tr) X n S.tmps,BG (aR tr) X n (S.objs++List.replicate A hole)⟩
theorem Vv {own:Nat→Bool}{ops:List Oper}{tr:List Ju}{S0:St}(hst:∀ i o,ops[i]?=some o→rY P D (own i) ops o (l_ ops tr S0 (fun _=>true) i) (aR tr i))
  (hf:∀ i,i<ops.length→BF (aR tr i).t=true):∀ i,i<ops.length→(pV (aR tr) (fun _=>true) i S0.objs).length≤(pV (aR tr) (fun _=>true) (i+1) S0.objs).length∧
   ((ME (aR tr i).t=none∧pV (aR tr) (fun _=>true) (i+1) S0.objs=pV (aR tr) (fun _=>true) i S0.objs)∨
    ∃ k o1,ME (aR tr i).t=some k∧(aR tr i).objs.getD k hole=o1∧
     ((k<(pV (aR tr) (fun _=>true) i S0.objs).length∧pV (aR tr) (fun _=>true) (i+1) S0.objs=(pV (aR tr) (fun _=>true) i S0.objs).set k o1)∨
      (k=(pV (aR tr) (fun _=>true) i S0.objs).length∧pV (aR tr) (fun _=>true) (i+1) S0.objs=pV (aR tr) (fun _=>true) i S0.objs++[o1]))):=by
 intro i hi
 have h:=hst i ops[i] (List.getElem?_eq_getElem hi)
 have hfi:=hf i hi
 have oD:(l_ ops tr S0 (fun _=>true) i).objs=pV (aR tr) (fun _=>true) i S0.objs:=rfl
 have hX:pV (aR tr) (fun _=>true) (i+1) S0.objs=if co (aR tr i).t=2 then (aR tr i).objs else pV (aR tr) (fun _=>true) i S0.objs:=by
  simp only [pV,Bool.true_and,beq_iff_eq]
 rcases h with ⟨_,_,_,_,EU⟩ | ⟨_,_,_,h4⟩
 · rw [oD] at EU
   rcases ET hfi with h0 | ⟨k,hk⟩ | ⟨k,hk⟩
   · rw [hX,h0,if_neg (by decide)]
     exact ⟨Nat.le_refl _,.inl ⟨Pq,rfl⟩⟩
   · rw [hX,hk,adL,if_neg (by decide)]
     exact ⟨Nat.le_refl _,.inl ⟨Y3 k,rfl⟩⟩
   · rw [hX,if_pos (by rw [hk];exact Vo k)]
     rcases EU.wr k hk with ⟨o1,g1,g2,_⟩ | ⟨g1,o1,mk,_,_,g2,_⟩
     · rw [g2]
       refine ⟨by simp,.inr ⟨k,o1,by rw [hk];exact SE k,?_,.inl ⟨g1,rfl⟩⟩⟩
       rw [List.getD_eq_getElem?_getD,List.getElem?_set];simp [g1]
     · rw [g2]
       refine ⟨by simp,.inr ⟨k,o1,by rw [hk];exact SE k,?_,.inr ⟨g1,rfl⟩⟩⟩
       rw [List.getD_eq_getElem?_getD,g1];simp
 · rw [hX,h4,if_neg (by decide)]
   exact ⟨Nat.le_refl _,.inl ⟨Pq,rfl⟩⟩
theorem Y4 {own:Nat→Bool}{ops:List Oper}{tr:List Ju}{S0:St}{A:Nat}(hst:∀ i o,ops[i]?=some o→rY P D (own i) ops o (l_ ops tr S0 (fun _=>true) i) (aR tr i))
  (hf:∀ i,i<ops.length→BF (aR tr i).t=true) (hA:(pV (aR tr) (fun _=>true) ops.length S0.objs).length=S0.objs.length+A) :
  ∀ i,i≤ops.length→(pV (aR tr) (fun _=>true) i S0.objs).length≤S0.objs.length+A∧
   BG (aR tr) (fun _=>true) i (S0.objs++List.replicate A hole)=pV (aR tr) (fun _=>true) i S0.objs++List.replicate (S0.objs.length+A-(pV (aR tr) (fun _=>true) i S0.objs).length) hole:=by
 have one:=Vv hst hf
 have mono:∀ d i,i+d=ops.length→(pV (aR tr) (fun _=>true) i S0.objs).length≤S0.objs.length+A:=by
  intro d
  induction d with
  | zero=>intro i hi;rw [Nat.add_zero] at hi;rw [hi,hA];exact Nat.le_refl _
  | succ d ih=>intro i hi;exact Nat.le_trans (one i (by omega)).1 (ih (i+1) (by omega))
 intro i
 induction i with
 | zero=>intro _;exact ⟨by simp [pV],by simp [BG,pV]⟩
 | succ i ih=>
  intro hi
  obtain ⟨h1,h2⟩:=ih (by omega)
  have hle:=mono (ops.length-(i+1)) (i+1) (by omega)
  refine ⟨hle,?_⟩
  simp only [BG,if_true]
  rcases (one i (by omega)).2 with ⟨g1,g2⟩ | ⟨k,o1,g1,g0,⟨g2,g3⟩ | ⟨g2,g3⟩⟩
  · rw [g1,g2];exact h2
  · rw [g1]
    simp only []
    rw [g0,h2,g3,List.set_append_left _ _ g2,List.length_set]
  · rw [g1]
    simp only []
    rw [g3,List.length_append,List.length_singleton] at hle
    rw [g0,h2,g3,List.set_append_right _ _ (by omega),List.length_append,List.length_singleton]
    have:S0.objs.length+A-(pV (aR tr) (fun _=>true) i S0.objs).length=(S0.objs.length+A-((pV (aR tr) (fun _=>true) i S0.objs).length+1))+1:=by omega
    rw [this,List.replicate_succ,g2,Nat.sub_self,List.set_cons_zero,List.append_assoc]
    rfl
theorem SF {own:Nat→Bool}{ops:List Oper}{ts:List Nat}{ms:List Nat}{tr:List Ju}{S0:St}{A:Nat}(hD:∀ t,iY P t (D t)) (hok:MF ops ts ms)
  (hts:∀ i,i<ops.length→ts.getD i 0=(aR tr i).t)
  (hst:∀ i o,ops[i]?=some o→rY P D (own i) ops o (l_ ops tr S0 (fun _=>true) i) (aR tr i))
  (hA:(pV (aR tr) (fun _=>true) ops.length S0.objs).length=S0.objs.length+A)
  {X:Nat→Bool}{i:Nat}{o:Oper}(ho:ops[i]?=some o) (hX:X i=false) (hcl:∀ j,j<ops.length→X j=true→∀ x,(ms.getD j 0).testBit x=true→X x=true)
  (hrd:∀ x,(ms.getD i 0).testBit x=true→X x=true)
  {base ak:Nat→Prop}{w0:Wz}{blk:Nat→Option Nat}{a:Act}{w:World}(R:Rel base ak w0 (vV ops tr S0 A X ops.length) blk a w)
  {Q:Exit→Act→World→Prop}{K:Act→World→Prop}(hK:∀ ay a' w',Rel base ak w0 (vV ops tr S0 A (upd X i) ops.length) ay a' w'→K a' w') :
  wpOpIn (F6 l) 0 P ops.toArray Q i K a w:=by
 have hi:i<ops.length:=(List.getElem?_eq_some_iff.1 ho).1
 have hdst:ql ops i=o.dst:=by simp [ql,ho]
 have MC:∀ j,j<ops.length→∃ p,ops[j]?=some p∧ql ops j=p.dst:=fun j hj=>⟨ops[j],List.getElem?_eq_getElem hj,by simp [ql,List.getElem?_eq_getElem hj]⟩
 have hf:∀ j,j<ops.length→BF (aR tr j).t=true:=fun j hj=>by rw [← hts j hj];exact hok.fine j hj
 have before:∀ j p,ops[j]?=some p→j<i→(clash p.dst o.dst (jw ops p) (jw ops o) 0 0 || zL (aR tr j).t (aR tr i).t)=true→X j=true:=
  fun j p hp hj hc=>hrd j (hok.ord i o j p ho hp hj (by rw [hts j (List.getElem?_eq_some_iff.1 hp).1,hts i hi];exact hc))
 have behind:∀ j p,ops[j]?=some p→i<j→(clash o.dst p.dst (jw ops o) (jw ops p) 0 0 || zL (aR tr i).t (aR tr j).t)=true→X j=false:=fun j p hp hj hc=>by
  cases hx:X j with
  | false=>rfl
  | true=>
   have hjl:=(List.getElem?_eq_some_iff.1 hp).1
   have:=hcl j hjl hx i (hok.ord j p i o hp ho hj (by rw [hts j hjl,hts i hi];exact hc))
   rw [hX] at this;cases this
 have Vs:∀ x ∈ jw ops o,(l_ ops tr S0 (fun _=>true) i).tmps.getD x .dead=(vV ops tr S0 A X ops.length).tmps.getD x .dead:=by
  intro x hx
  simp only [l_,vV]
  rw [← DU (dst:=ql ops) ops.length S0.tmps (Nat.le_of_lt hi)]
  refine He _ _ fun j hj hd=>?_
  obtain ⟨p,hp,Y0⟩:=MC j hj
  rw [Y0] at hd
  rcases Nat.lt_trichotomy j i with hji | hji | hji
  · rw [before j p hp hji (by rw [Hl hd hx];rfl)];simp [hji]
  · subst hji;rw [hX];simp
  · rw [behind j p hp hji (by rw [ES hd hx];rfl)];simp;omega
 have hadd:o7 o.dst (aR tr i).r (vV ops tr S0 A X ops.length).tmps=(vV ops tr S0 A (upd X i) ops.length).tmps:=by
  simp only [vV]
  rw [← hdst]
  refine Mv _ _ hi hX fun j hj hjn hxj x hx hd=>?_
  obtain ⟨p,hp,Y0⟩:=MC j hjn
  rw [Y0] at hd
  rw [hdst] at hx
  have:=behind j p hp hj (by rw [Lc hx hd];rfl)
  rw [this] at hxj;cases hxj
 obtain ⟨hle,adM⟩:=Y4 hst hf hA i (Nat.le_of_lt hi)
 obtain ⟨T,hT⟩:∃ T,T=pV (aR tr) (fun _=>true) i S0.objs:=⟨_,rfl⟩
 rw [← hT] at hle adM
 obtain ⟨B,hB⟩:∃ B,B=BG (aR tr) X ops.length (S0.objs++List.replicate A hole):=⟨_,rfl⟩
 have slot:∀ k,((aR tr i).t=4+2*k∨(aR tr i).t=5+2*k)→B[k]?=(T++List.replicate (S0.objs.length+A-T.length) hole)[k]?:=by
  intro k hk
  rw [hB,← adM,← Ld ops.length _ (Nat.le_of_lt hi)]
  refine Vt _ _ fun j hj hw=>?_
  obtain ⟨p,hp,Y0⟩:=MC j hj
  rcases Nat.lt_trichotomy j i with hji | hji | hji
  · rw [before j p hp hji (by rw [DV (.inl ⟨hw,hk⟩),Bool.or_true])];simp [hji]
  · subst hji;rw [hX];simp
  · rw [behind j p hp hji (by rw [DV (.inr ⟨hw,hk⟩),Bool.or_true])];simp;omega
 have hwr:∀ k,ME (aR tr i).t=some k→((aR tr i).t=4+2*k∨(aR tr i).t=5+2*k)→(vV ops tr S0 A (upd X i) ops.length).objs=B.set k ((aR tr i).objs.getD k hole):=by
  intro k hw hk
  simp only [vV]
  rw [hB]
  refine Vu _ _ hi hX hw fun j hj hjn hxj hwj=>?_
  obtain ⟨p,hp,Y0⟩:=MC j hjn
  have:=behind j p hp hj (by rw [DV (.inr ⟨hwj,hk⟩),Bool.or_true])
  rw [this] at hxj;cases hxj
 have Y5:ME (aR tr i).t=none→(vV ops tr S0 A (upd X i) ops.length).objs=B:=fun hw=>by
  simp only [vV];rw [hB];exact Ps _ _ hw
 have hput:∀ objs',(objs'=(vV ops tr S0 A (upd X i) ops.length).objs)→St.put ⟨(vV ops tr S0 A X ops.length).tmps,objs'⟩ o.dst (aR tr i).r=vV ops tr S0 A (upd X i) ops.length:=by
  rintro objs' rfl
  cases hd:o.dst with
  | none=>rw [hd] at hadd;simp only [o7] at hadd;simp only [St.put];rw [hadd]
  | some d=>rw [hd] at hadd;simp only [o7] at hadd;simp only [St.put];rw [hadd]
 have Pt:(vV ops tr S0 A X ops.length).objs=B:=hB.symm
 have hTo:(l_ ops tr S0 (fun _=>true) i).objs=T:=hT.symm
 have hev:∀ x ∈ o.op.operands,(l_ ops tr S0 (fun _=>true) i).ev x=(vV ops tr S0 A X ops.length).ev x:=by
  intro x hm
  cases x with
  | tmp t=>exact Vs t (List.mem_append_left _ (List.mem_filterMap.2 ⟨.tmp t,by simpa using hm,rfl⟩))
  | _=>rfl
 have hg:iZ ops o.guard (l_ ops tr S0 (fun _=>true) i).tmps=iZ ops o.guard (vV ops tr S0 A X ops.length).tmps:=by
  cases hgd:o.guard with
  | none=>rfl
  | some g=>
   obtain ⟨j,want⟩:=g
   simp only [iZ]
   cases hd:(ops[j]?).bind (·.dst) with
   | none=>rfl
   | some d=>
    simp only []
    rw [Vs d (List.mem_append_right _ (by rw [hgd];simp [hd]))]
 unfold wpOpIn
 have h0:ops.toArray[i]?=some o:=by simpa using ho
 rw [h0]
 simp only []
 rcases hst i o ho with ⟨h1,_,_,h4,EU⟩ | ⟨h1,h2,_,h3⟩
 · rw [hg] at h1
   rw [if_pos (o6 R h1)]
   rw [hTo] at EU
   have run:∀ (O2:List Obj) (r2:PV),(∀ K:KT,(∀ t,K r2 O2 t)→Jt P D (own i) (l_ ops tr S0 (fun _=>true) i).ev B o.op K)→r2=(aR tr i).r→O2=(vV ops tr S0 A (upd X i) ops.length).objs→
       o.wpIn (F6 l) 0 P a w K Q:=by
    intro O2 r2 hop hr2 hO2
    have h5:=xP hev (hop (fun r objs' _=>r=r2∧objs'=O2) (fun _=>⟨rfl,rfl⟩))
    rw [← Pt] at h5
    refine Bz l hD R h5 fun r objs' t v w' ay hr R' hv=>?_
    obtain ⟨rfl,rfl⟩:=hr
    have:=R'.put hv o.dst
    rw [hr2,hput objs' hO2] at this
    exact hK _ _ _ this
   rcases ET (hf i hi) with ht | ⟨k,hk⟩ | ⟨k,hk⟩
   · exact run B _ (fun K hk=>h4 ht B K (hk 0)) rfl (Y5 (by rw [ht];rfl)).symm
   · obtain ⟨_,g1,g2⟩:=EU.rd k hk
     have hs:=slot k (.inl hk)
     rw [List.getElem?_append_left g1] at hs
     exact run B _ (fun K hk'=>g2 B K hs (hk' _)) rfl (Y5 (by rw [hk];exact Y3 k)).symm
   · have hs:=slot k (.inr hk)
     have hw:=hwr k (by rw [hk];exact SE k) (.inr hk)
     rcases EU.wr k hk with ⟨o1,g1,g2,g3⟩ | ⟨g1,o1,mk,hm,gr,g2,hl1,hv1,g3⟩
     · rw [List.getElem?_append_left g1] at hs
       have hc:(aR tr i).objs.getD k hole=o1:=by
        rw [g2,List.getD_eq_getElem?_getD,List.getElem?_set];simp [g1]
       exact run (B.set k o1) _ (fun K hk'=>g3 B K hs (hk' _)) rfl (by rw [hw,hc])
     · have hc:(aR tr i).objs.getD k hole=o1:=by
        rw [g2,List.getD_eq_getElem?_getD,g1];simp
       have hlen:(pV (aR tr) (fun _=>true) (i+1) S0.objs).length≤S0.objs.length+A:=(Y4 hst hf hA (i+1) hi).1
       have hX1:pV (aR tr) (fun _=>true) (i+1) S0.objs=T++[o1]:=by
        simp only [pV,Bool.true_and,beq_iff_eq]
        rw [if_pos (by rw [hk];exact Vo k),g2]
       rw [hX1,List.length_append,List.length_singleton] at hlen
       have adN:B[k]?=some hole:=by
        rw [hs,g1,List.getElem?_append_right (Nat.le_refl _),Nat.sub_self,List.getElem?_replicate,if_pos (by omega)]
       have h5:=xP hev (g3 B (fun r objs' _=>r=mk B.length∧objs'=B++[o1]) ⟨rfl,rfl⟩)
       rw [← Pt] at h5
       refine K_ l hD R h5 fun r objs' t v w' ay hr R' hv hn=>?_
       obtain ⟨rfl,rfl⟩:=hr
       rw [Pt] at R' hv hn
       have R0:Rel base ak w0 ⟨(vV ops tr S0 A X ops.length).tmps,B⟩ blk a w:=by rw [← Pt];exact R
       obtain ⟨iP,R2,hv2⟩:=R0.fill adN hl1 hv1 R' hn hm hv
       have:=R2.put hv2 o.dst
       rw [← gr,hput _ (by rw [hw,hc])] at this
       exact hK _ _ _ this
 · rw [hg] at h1
   rw [if_neg (by rw [o6 R h1];simp)]
   refine ⟨fun _ _=>trivial,?_⟩
   have:=R.put (xQ w _ _ blk) o.dst
   rw [← h2] at this
   have hs:=hput (vV ops tr S0 A X ops.length).objs (by rw [Pt,Y5 (by rw [h3];rfl)])
   rw [show (vV ops tr S0 A X ops.length).put o.dst (aR tr i).r=St.put ⟨(vV ops tr S0 A X ops.length).tmps,(vV ops tr S0 A X ops.length).objs⟩ o.dst (aR tr i).r from rfl,hs] at this
   exact hK _ _ _ this
theorem Pv {own:Nat→Bool}{ops:List Oper}{ts:List Nat}{ms:List Nat}{tr:List Ju}{S0:St}{A:Nat}(hD:∀ t,iY P t (D t)) (hok:MF ops ts ms)
  (hts:∀ i,i<ops.length→ts.getD i 0=(aR tr i).t)
  (hst:∀ i o,ops[i]?=some o→rY P D (own i) ops o (l_ ops tr S0 (fun _=>true) i) (aR tr i))
  (hA:(pV (aR tr) (fun _=>true) ops.length S0.objs).length=S0.objs.length+A)
  {base ak:Nat→Prop}{w0:Wz}{Q:Exit→Act→World→Prop}
  (hQ:∀ ay a' w',Rel base ak w0 (vV ops tr S0 A (fun _=>true) ops.length) ay a' w'→Q .normal a' w') :
  ∀ (fuel:Nat) (L:Array Bool) (blk:Nat→Option Nat) (a:Act) (w:World),L.size=ops.length→
   (∀ j,j<ops.length→L.getD j false=true→∀ x,(ms.getD j 0).testBit x=true→L.getD x false=true)→cnt (fun j=>L.getD j false) ops.length≤fuel→
   Rel base ak w0 (vV ops tr S0 A (fun j=>L.getD j false) ops.length) blk a w→wpAnyIn (F6 l) 0 P .any ops.toArray Q fuel L a w:=by
 have full:∀ (L:Array Bool),L.size=ops.length→Region.ready .any ops.toArray L=[]→∀ i,i<ops.length→L.getD i false=true:=by
  intro L hsz hr i
  induction i using Nat.strongRecOn with
  | _ i ih=>
   intro hi
   cases hx:L.getD i false with
   | true=>rfl
   | false=>
    have hmem:i ∈ Region.ready .any ops.toArray L:=by
     simp only [Region.ready,List.mem_filter,List.mem_range,and_eq_true]
     refine ⟨by simpa using hi,?_,?_⟩
     · have hil:i<L.size:=by omega
       rw [Array.getD_eq_getD_getElem?,Array.getElem?_eq_getElem hil,getD_some] at hx ⊢
       rw [hx];rfl
     · have ho:ops.toArray[i]?=some ops[i]:=by simp [hi]
       rw [ho]
       simp only [map_some,getD_some]
       rw [Array.all_eq_true']
       intro e he
       cases hbd:Region.binds .any e with
       | false=>simp
       | true=>
        have hb:=hok.back i ops[i] (List.getElem?_eq_getElem hi) e (by simpa using he) hbd
        rw [ih e.on hb (by omega)];simp
    rw [hr] at hmem
    simp at hmem
 have step:∀ (L:Array Bool) (i:Nat),L.size=ops.length→i ∈ Region.ready .any ops.toArray L→∃ o,ops[i]?=some o∧L.getD i false=false∧∀ e ∈ o.after.toList,Region.binds .any e=true→L.getD e.on false=true:=by
  intro L i hsz hm
  simp only [Region.ready,List.mem_filter,List.mem_range,and_eq_true] at hm
  obtain ⟨hi,h1,h2⟩:=hm
  have hi:i<ops.length:=by simpa using hi
  have ho:ops.toArray[i]?=some ops[i]:=by simp [hi]
  rw [ho] at h2
  simp only [map_some,getD_some] at h2
  rw [Array.all_eq_true'] at h2
  refine ⟨ops[i],List.getElem?_eq_getElem hi,?_,fun e he hb=>?_⟩
  · have hil:i<L.size:=by omega
    rw [Array.getD_eq_getD_getElem?,Array.getElem?_eq_getElem hil,getD_some] at h1 ⊢
    simpa using h1
  · have:=h2 e (by simpa using he)
    rw [hb] at this
    simpa using this
 intro fuel
 induction fuel with
 | zero=>
  intro L blk a w hsz hcl hc R
  have hall:=Hf (X:=fun j=>L.getD j false) ops.length (by omega)
  have hst':vV ops tr S0 A (fun j=>L.getD j false) ops.length=vV ops tr S0 A (fun _=>true) ops.length:=by
   simp only [vV];rw [nO ops.length _ hall,sQ ops.length _ fun j hj=>hall j hj]
  refine ⟨?_,hQ blk a w (hst' ▸ R)⟩
  cases hr:Region.ready .any ops.toArray L with
  | nil=>rfl
  | cons i is=>
   obtain ⟨o,ho,hx,_⟩:=step L i hsz (by rw [hr];exact List.mem_cons_self)
   rw [hall i (List.getElem?_eq_some_iff.1 ho).1] at hx
   cases hx
 | succ fuel ih=>
  intro L blk a w hsz hcl hc R
  refine ⟨fun hr=>?_,fun i hm=>?_⟩
  · have hall:=full L hsz hr
    have hst':vV ops tr S0 A (fun j=>L.getD j false) ops.length=vV ops tr S0 A (fun _=>true) ops.length:=by
     simp only [vV];rw [nO ops.length _ hall,sQ ops.length _ fun j hj=>hall j hj]
    exact hQ blk a w (hst' ▸ R)
  · obtain ⟨o,ho,hx,hrd⟩:=step L i hsz hm
    have hi:i<ops.length:=(List.getElem?_eq_some_iff.1 ho).1
    have Y1:∀ x,(ms.getD i 0).testBit x=true→L.getD x false=true:=by
     intro x hb
     obtain ⟨e,h1,h2,h3⟩:=hok.mask i o ho x hb
     have he:=hrd e h1 h2
     rcases h3 with rfl | h3
     · exact he
     · exact hcl e.on (by have:=hok.back i o ho e h1 h2;omega) he x h3
    have Y2:∀ j,(L.setIfInBounds i true).getD j false=upd (fun j=>L.getD j false) i j:=by
     intro j
     rw [Array.getD_eq_getD_getElem?,Array.getElem?_setIfInBounds]
     simp only [upd]
     by_cases hij:i=j
     · subst hij
       rw [if_pos rfl,if_pos (by omega)];simp
     · rw [if_neg hij,Array.getD_eq_getD_getElem?]
       have:(j==i)=false:=by simp;omega
       rw [this,Bool.or_false]
    have hfun:(fun j=>(L.setIfInBounds i true).getD j false)=upd (fun j=>L.getD j false) i:=funext Y2
    refine SF (X:=fun j=>L.getD j false) hD hok hts hst hA ho hx hcl Y1 R fun ay a' w' R'=>?_
    refine ih _ ay a' w' (by simpa using hsz) ?_ ?_ (by rw [hfun];exact R')
    · intro j hj hb x hbx
      rw [Y2] at hb ⊢
      simp only [upd,or_eq_true,beq_iff_eq] at hb ⊢
      rcases hb with hb | rfl
      · exact .inl (hcl j hj hb x hbx)
      · exact .inl (Y1 x hbx)
    · rw [hfun]
      have:=Mx (X:=fun j=>L.getD j false) ops.length hi hx
      omega
def xR (ops:List Oper) (ts:List Nat):Bool:=
 let ms:=masks ops []
 let ls:=ops.map (jw ops)
 ((List.range ops.length).all fun i=>BF (ts.getD i 0)) &&
 (List.range ops.length).all fun i=>
  match ops[i]? with
  | none=>true
  | some o=>
   (o.after.toList.all fun e=>!Region.binds .any e || decide (e.on<i)) &&
   (ms.getD i 0 &&& DT ms o==ms.getD i 0) &&
   (List.range i).all fun j=>
    !(clash ((ops[j]?).bind (·.dst)) o.dst (ls.getD j []) (ls.getD i []) 0 0 || zL (ts.getD j 0) (ts.getD i 0)) || (ms.getD i 0).testBit j
theorem MG {ops:List Oper}{ts:List Nat}(h:xR ops ts=true):MF ops ts (masks ops []):=by
 unfold xR at h
 simp only [and_eq_true,List.all_eq_true,List.mem_range] at h
 obtain ⟨EU,h⟩:=h
 have hh:∀ i o,ops[i]?=some o→_:=fun i o ho=>by
  have:=h i (List.getElem?_eq_some_iff.1 ho).1
  rw [ho] at this
  simp only [and_eq_true,List.all_eq_true,List.mem_range,beq_iff_eq] at this
  exact this
 refine ⟨EU,fun i o ho e he hb=>by simpa [hb] using (hh i o ho).1.1 e he,fun i o ho j hj=>?_,fun i o j p ho hp hji hc=>?_⟩
 · refine Hg ?_
   have h2:=(hh i o ho).1.2
   rw [← h2,Nat.testBit_and] at hj
   simp only [and_eq_true] at hj
   exact hj.2
 · have h3:=(hh i o ho).2 j hji
   have hlt:=(List.getElem?_eq_some_iff.1 hp).1
   have e1:(ops.map (jw ops)).getD j []=jw ops p:=by rw [List.getD_eq_getElem?_getD,List.getElem?_map,hp];rfl
   have e2:(ops.map (jw ops)).getD i []=jw ops o:=by rw [List.getD_eq_getElem?_getD,List.getElem?_map,ho];rfl
   rw [e1,e2,hp] at h3
   simp only [Option.bind_some,hc,Bool.not_true,Bool.false_or] at h3
   exact h3
theorem PW.adO {E:Env}{id:Nat}{ops:List Oper}{Q:Exit→St→Prop}{S:St}(own:Nat→Bool) (hD:∀ t,iY P t (D t)) (hm:P.follows .mixedOrders=true)
  (h:qj P D own ops ops 0 S [] fun S' ts=>(uN ops ts || xR ops ts)=true∧Q .normal S'):PW P l E (.region id ops.toArray true) Q S:=by
 intro base ak V hE blk a w ⟨w0,hV,R⟩
 obtain ⟨tr,S',h1,h2,h3⟩:=mJ _ _ _ _ _ h
 obtain ⟨h4,h5⟩:=wH (S0:=S) (tr0:=tr) ops 0 S tr S' h1 (fun j=>by simp) (fun j=>by simp) rfl
 refine wpIn_region_any hm ?_
 have R':Rel base ak w0 S blk a { w with drawn:=w.drawn+1 }:=R.grew (.same rfl)
 have hcn:∀ (X:Nat→Bool) n,cnt X n≤n:=by
  intro X n
  induction n with
  | zero=>exact Nat.le_refl _
  | succ n ih=>simp only [cnt];split <;> omega
 have hrep:∀ j,(Array.replicate ops.toArray.size false).getD j false=false:=by
  intro j
  rw [Array.getD_eq_getD_getElem?,Array.getElem?_replicate]
  split <;> rfl
 have htr:tr.length=ops.length:=by
  clear h2 h3 h4 h5 h
  have:∀ (qP:List Oper) (k:Nat) (S:St) (tr:List Ju) (S':St),Trace P D own ops qP k S tr S'→tr.length=qP.length:=by
   intro qP
   induction qP with
   | nil=>rintro k S tr S' ⟨rfl,_⟩;rfl
   | cons o qP ih=>
    rintro k S tr S' ⟨e,tr',rfl,_,h⟩
    simp [ih _ _ _ _ h]
  exact this _ _ _ _ _ h1
 have hts:∀ i,i<ops.length→(tr.map (·.t)).getD i 0=(aR tr i).t:=by
  intro i hi
  have hil:i<tr.length:=by omega
  simp [aR,List.getD_eq_getElem?_getD,List.getElem?_map,List.getElem?_eq_getElem hil]
 rw [Nat.zero_add] at h5
 subst h5
 have hst:∀ i o,ops[i]?=some o→rY P D (own i) ops o (l_ ops tr S (fun _=>true) i) (aR tr i):=fun i o ho=>h4 i o (Nat.zero_le _) ho
 have hc:=hcn (fun j=>(Array.replicate ops.toArray.size false).getD j false) ops.length
 have hsz:ops.toArray.size=ops.length:=by simp
 have hrs:(Array.replicate ops.toArray.size false).size=ops.length:=by simp
 have hQ:∀ ay a' w',Rel base ak w0 (l_ ops tr S (fun _=>true) ops.length) ay a' w'→∃ S' qm,Q .normal S'∧qW base ak V S' qm a' w':=
  fun ay a' w' R''=>⟨_,ay,h3,w0,hV,R''⟩
 have hcl:∀ j,j<ops.length→(Array.replicate ops.toArray.size false).getD j false=true→∀ x,((masks ops []).getD j 0).testBit x=true→(Array.replicate ops.toArray.size false).getD x false=true:=by
  intro j _ hb
  rw [hrep] at hb;cases hb
 have e1:∀ (L:Array Bool),(∀ j,L.getD j false=false)→∀ n tm,G_ (ql ops) (aR tr) (fun j=>L.getD j false) n tm=tm:=by
  intro L hL n tm
  induction n with
  | zero=>rfl
  | succ n ih=>simp only [G_];rw [if_neg (by rw [hL n];simp)];exact ih
 rcases or_eq_true _ _ ▸ h2 with h2 | h2
 · have hR:∀ (L:Array Bool),(∀ j,L.getD j false=false)→l_ ops tr S (fun j=>L.getD j false) ops.length=S:=by
    intro L hL
    have e2:∀ n ob,pV (aR tr) (fun j=>L.getD j false) n ob=ob:=by
     intro n ob
     induction n with
     | zero=>rfl
     | succ n ih=>simp only [pV];rw [if_neg (by rw [hL n];simp)];exact ih
    simp only [l_,e1 L hL,e2]
   have R1:Rel base ak w0 (l_ ops tr S (fun j=>(Array.replicate ops.toArray.size false).getD j false) ops.length) blk a { w with drawn:=w.drawn+1 }:=by rw [hR _ hrep];exact R'
   have h2':uN ops (tr.map (·.t))=true:=h2
   generalize Array.replicate ops.toArray.size false=L at *
   exact Ho (Q:=fun e a' w'=>∃ S' ay,Q e S'∧qW base ak V S' ay a' w') hD (ER h2') hts hst hQ ops.toArray.size L blk a _ hrs hcl (by rw [hsz];exact hc) R1
 · have h2':=MG h2
   have hf:∀ i,i<ops.length→BF (aR tr i).t=true:=fun i hi=>by rw [← hts i hi];exact h2'.fine i hi
   have mono:∀ i,i≤ops.length→S.objs.length≤(pV (aR tr) (fun _=>true) i S.objs).length:=by
    intro i
    induction i with
    | zero=>intro _;exact Nat.le_refl _
    | succ i ih=>intro hi;exact Nat.le_trans (ih (by omega)) (Vv hst hf i (by omega)).1
   obtain ⟨A,hA⟩:∃ A,(pV (aR tr) (fun _=>true) ops.length S.objs).length=S.objs.length+A:=⟨(pV (aR tr) (fun _=>true) ops.length S.objs).length-S.objs.length,by have:=mono ops.length (Nat.le_refl _);omega⟩
   obtain ⟨aaY,R0⟩:=R'.holes A
   have hR:∀ (L:Array Bool),(∀ j,L.getD j false=false)→vV ops tr S A (fun j=>L.getD j false) ops.length=⟨S.tmps,S.objs++List.replicate A hole⟩:=by
    intro L hL
    have e2:∀ n ob,BG (aR tr) (fun j=>L.getD j false) n ob=ob:=by
     intro n ob
     induction n with
     | zero=>rfl
     | succ n ih=>simp only [BG];rw [if_neg (by rw [hL n];simp)];exact ih
    simp only [vV,e1 L hL,e2]
   have R1:Rel base ak w0 (vV ops tr S A (fun j=>(Array.replicate ops.toArray.size false).getD j false) ops.length) aaY a { w with drawn:=w.drawn+1 }:=by rw [hR _ hrep];exact R0
   have hend:vV ops tr S A (fun _=>true) ops.length=l_ ops tr S (fun _=>true) ops.length:=by
    have:=(Y4 hst hf hA ops.length (Nat.le_refl _)).2
    simp only [vV,l_]
    rw [this,hA,Nat.sub_self,List.replicate_zero,List.append_nil]
   have hQ2:∀ ay a' w',Rel base ak w0 (vV ops tr S A (fun _=>true) ops.length) ay a' w'→∃ S' qm,Q .normal S'∧qW base ak V S' qm a' w':=
    fun ay a' w' R''=>hQ ay a' w' (hend ▸ R'')
   generalize Array.replicate ops.toArray.size false=L at *
   exact Pv (Q:=fun e a' w'=>∃ S' ay,Q e S'∧qW base ak V S' ay a' w') hD h2' hts hst hA hQ2 ops.toArray.size L aaY a _ hrs hcl (by rw [hsz];exact hc) R1
end Lp
namespace Lp
open Go
open List (map_congr_left map_id)
open Option (map_some)
def PV.bL (f:PV→PV):PV→PV
 | .agg cs=>.agg (cs.map f)
 | p=>f p
theorem BH {p:PV}(h:p.isAgg=false):p.cells=[p]:=by cases p <;> first | rfl | (simp [PV.isAgg] at h)
theorem mK {f:PV→PV}(hf:∀ p,p.isAgg=false→(f p).isAgg=false) (x:PV):(x.bL f).cells=x.cells.map f:=by
 cases hx:x.isAgg with
 | true=>
  cases x <;> simp [PV.isAgg] at hx
  rfl
 | false=>
  have:x.bL f=f x:=by cases x <;> first | rfl | (simp [PV.isAgg] at hx)
  rw [this,BH hx,BH (hf x hx)]
  rfl
def gF:Nat→Nat→List Obj→PV→PV
 | 0,_,_,.bA ..=>.dead
 | 0,_,_,.bR ..=>.dead
 | _,_,_,.uw ..=>.dead
 | d+1,n,objs,.bA k ver=>
  match objs[k]? with
  | some o=>if decide (n≤k) && o.live && o.ver==ver then .sl o.sz (o.xs.map (PV.bL (gF d n objs))) none else .dead
  | none=>.dead
 | d+1,n,objs,.bR k ver i f=>
  match objs[k]? with
  | some o=>if decide (n≤k) && o.live && o.ver==ver && f==0 then (match o.xs[i]? with | some x=>.addr (x.bL (gF d n objs)) | none=>.dead) else .dead
  | none=>.dead
 | _,_,_,p=>p
def fC (d n:Nat) (objs:List Obj):PV→PV
 | .bA k ver=>if k<n then .bA k ver else gF d n objs (.bA k ver)
 | .bR k ver i f=>if k<n then .bR k ver i f else gF d n objs (.bR k ver i f)
 | .uw k ver=>if k<n then .uw k ver else .dead
 | p=>p
def gY (d n:Nat) (objs:List Obj):PV→PV
 | .fn f a c=>.fn f (a.map (fC d n objs)) (c.map (fC d n objs))
 | .bP cs=>.bP (cs.map (fC d n objs))
 | .agg cs=>.agg (cs.map (fC d n objs))
 | p=>fC d n objs p
def gM (d n:Nat) (objs:List Obj) (o:Obj):Obj:={ o with xs:=o.xs.map (PV.bL (fC d n objs)) }
def St.freeze (d n:Nat) (S:St):St:=⟨S.tmps.map (gY d n S.objs),(S.objs.take n).map (gM d n S.objs)⟩
theorem Hq (d n:Nat) (objs:List Obj) (p:PV) (h:p.isAgg=false):(gF d n objs p).isAgg=false:=by
 cases d <;> cases p <;> simp only [gF] <;> first | rfl | exact h | (split <;> first | rfl | (split <;> first | rfl | (split <;> rfl)))
theorem Vw (d n:Nat) (objs:List Obj) (p:PV) (h:p.isAgg=false):(fC d n objs p).isAgg=false:=by
 cases p <;> simp only [fC] <;> first | rfl | exact h | (split <;> first | rfl | (exact Hq _ _ _ _ rfl))
section
variable {base ak:Nat→Prop}{w0:Wz}{S:St}{blk:Nat→Option Nat}{a:Act}{w:World}
theorem nP {d n k:Nat}{o':Obj}(h:(S.freeze d n).objs[k]?=some o'):k<n∧∃ o,S.objs[k]?=some o∧o'=gM d n S.objs o:=by
 simp only [St.freeze,List.getElem?_map,List.getElem?_take] at h
 split at h
 · rename_i hk
   cases ho:S.objs[k]? with
   | none=>rw [ho] at h;simp at h
   | some o=>rw [ho] at h;exact ⟨hk,o,rfl,by simpa using h.symm⟩
 · simp at h
theorem Hr {d n b:Nat}(h:bf S.objs blk b):bf (S.freeze d n).objs blk b:=by
 intro k o' ho' hl
 obtain ⟨_,o,ho,rfl⟩:=nP ho'
 exact h k o ho hl
theorem xS {d n b:Nat}(h:dn base S.objs blk b):dn base (S.freeze d n).objs blk b:=⟨h.1,Hr h.2⟩
theorem BI (R:Rel base ak w0 S blk a w){d n k g:Nat}{o:Obj}(hk:n≤k) (ho:S.objs[k]?=some o) (hl:o.live=true) (hg:blk k=some g):dn base (S.freeze d n).objs blk g:=by
 refine ⟨R.pb g (R.objs.np k o g ho hl hg),fun k' o' ho' hl'=>?_⟩
 obtain ⟨hk',o1,ho1,rfl⟩:=nP ho'
 exact R.objs.KZ k k' o o1 g (by omega) ho hl ho1 hl' hg
theorem Pw (R:Rel base ak w0 S blk a w) (d' n:Nat):∀ (d:Nat) (p:PV) (v:Value),bS w (dn base S.objs blk) S.objs blk p v→dN w (dn base (S.freeze d' n).objs blk) (gF d n S.objs p) v:=by
 intro d
 induction d with
 | zero=>
  intro p v h
  have hm:∀ q:PV,dN w (dn base S.objs blk) q v→dN w (dn base (S.freeze d' n).objs blk) q v:=fun q hq=>hq.mono (Nat.le_refl _) (fun b _ h=>xS h) (fun _ _ _ h=>h)
  cases p <;> simp only [gF] <;> first | exact .dead v | exact hm _ h
 | succ d ih=>
  intro p v h
  have hm:∀ q:PV,dN w (dn base S.objs blk) q v→dN w (dn base (S.freeze d' n).objs blk) q v:=fun q hq=>hq.mono (Nat.le_refl _) (fun b _ h=>xS h) (fun _ _ _ h=>h)
  cases p
  case bA k ver=>
   obtain ⟨_,o,ho,_,h3⟩:=h
   simp only [gF,ho]
   split
   · rename_i hc
     simp only [Bool.and_eq_true,decide_eq_true_eq,beq_iff_eq] at hc
     obtain ⟨⟨hn,hl⟩,hv⟩:=hc
     obtain ⟨hM,hh⟩:=h3 hl hv
     have hb:=R.objs.ob k o ho hl
     unfold Bq at hh
     unfold dm at hb
     cases hg:blk k with
     | none=>
      rw [hg] at hh
      obtain ⟨rfl,hx⟩:=hh
      rw [hx]
      exact .slnil _ _ (by simp)
     | some g=>
      rw [hg] at hh hb
      obtain ⟨cap,c,rfl,hc,h4,h5,h6⟩:=hh
      obtain ⟨c',hc',h7,h8⟩:=hb
      rw [kK hM,hc] at hc'
      cases hc'
      have hlen:(o.xs.map (PV.bL (gF d n S.objs))).length=o.xs.length:=by simp
      rw [← hlen]
      have hel:∀ (i:Nat) (x:PV),(o.xs.map (PV.bL (gF d n S.objs)))[i]?=some x→∃ x0,o.xs[i]?=some x0∧x.cells=x0.cells.map (gF d n S.objs):=by
       intro i x hx
       rw [List.getElem?_map] at hx
       cases h0:o.xs[i]? with
       | none=>rw [h0] at hx;simp at hx
       | some x0=>
        rw [h0] at hx
        simp only [map_some,Option.some.injEq] at hx
        subst hx
        exact ⟨x0,rfl,mK (Hq _ _ _) x0⟩
      have hgl:g<w.heap.size:=(Array.getElem?_eq_some_iff.1 hc).1
      refine .sl _ _ _ (by simp) g 0 cap (fun i j=>c.getD (i*o.sz+j) undef) (fun _=>⟨BI R hn ho hl hg,hgl⟩) (by rw [hlen];exact h4) h5 ?_ ?_ ?_
      · intro i x hx
        obtain ⟨x0,hx0,e⟩:=hel i x hx
        rw [e,List.length_map];exact (h8 i x0 hx0).1
      · intro i x j p hx hp
        obtain ⟨x0,hx0,e⟩:=hel i x hx
        rw [e,List.getElem?_map] at hp
        cases hp0:x0.cells[j]? with
        | none=>rw [hp0] at hp;simp at hp
        | some p0=>
         obtain ⟨u,hu,_⟩:=(h8 i x0 hx0).2 j p0 hp0
         have:0+i*o.sz+j=i*o.sz+j:=by omega
         unfold World.cell?
         simp only [hc,this]
         rw [Array.getD_eq_getD_getElem?,hu]
         rfl
      · intro i x j p hx hp
        obtain ⟨x0,hx0,e⟩:=hel i x hx
        rw [e,List.getElem?_map] at hp
        cases hp0:x0.cells[j]? with
        | none=>rw [hp0] at hp;simp at hp
        | some p0=>
         rw [hp0] at hp
         simp only [map_some,Option.some.injEq] at hp
         subst hp
         obtain ⟨u,hu,hr⟩:=(h8 i x0 hx0).2 j p0 hp0
         rw [Array.getD_eq_getD_getElem?,hu]
         exact ih p0 u hr
   · exact .dead v
  case bR k ver i f=>
   obtain ⟨_,o,ho,_,h3⟩:=h
   simp only [gF,ho]
   split
   · rename_i hc
     simp only [Bool.and_eq_true,decide_eq_true_eq,beq_iff_eq] at hc
     obtain ⟨⟨⟨hn,hl⟩,hv⟩,rfl⟩:=hc
     obtain ⟨hM,g,hg,rfl⟩:=h3 hl hv
     have hb:=R.objs.ob k o ho hl
     unfold dm at hb
     rw [hg] at hb
     obtain ⟨c,hc,h7,h8⟩:=hb
     rw [kK hM] at hc
     have hgl:g<w.heap.size:=(Array.getElem?_eq_some_iff.1 hc).1
     cases hx:o.xs[i]? with
     | none=>exact .dead _
     | some x0=>
      have e:=mK (Hq d n S.objs) x0
      refine .addr _ g (i*o.sz+0) (fun j=>c.getD (i*o.sz+j) undef) ⟨BI R hn ho hl hg,hgl⟩ ?_ ?_
      · intro j p hp
        rw [e,List.getElem?_map] at hp
        cases hp0:x0.cells[j]? with
        | none=>rw [hp0] at hp;simp at hp
        | some p0=>
         obtain ⟨u,hu,_⟩:=(h8 i x0 hx).2 j p0 hp0
         unfold World.cell?
         simp only [hc,Nat.add_zero]
         rw [Array.getD_eq_getD_getElem?,hu]
         rfl
      · intro j p hp
        rw [e,List.getElem?_map] at hp
        cases hp0:x0.cells[j]? with
        | none=>rw [hp0] at hp;simp at hp
        | some p0=>
         rw [hp0] at hp
         simp only [map_some,Option.some.injEq] at hp
         subst hp
         obtain ⟨u,hu,hr⟩:=(h8 i x0 hx).2 j p0 hp0
         rw [Array.getD_eq_getD_getElem?,hu]
         exact ih p0 u hr
   · exact .dead _
  case uw k ver=>simp only [gF];exact .dead v
  all_goals (simp only [gF];exact hm _ h)
theorem qw (R:Rel base ak w0 S blk a w) (d n:Nat) (p:PV) (v:Value) (h:bS w (dn base S.objs blk) S.objs blk p v) :
  bS w (dn base (S.freeze d n).objs blk) (S.freeze d n).objs blk (fC d n S.objs p) v:=by
 have hm:∀ q:PV,dN w (dn base S.objs blk) q v→dN w (dn base (S.freeze d n).objs blk) q v:=fun q hq=>hq.mono (Nat.le_refl _) (fun b _ h=>xS h) (fun _ _ _ h=>h)
 have hget:∀ k o,k<n→S.objs[k]?=some o→(S.freeze d n).objs[k]?=some (gM d n S.objs o):=by
  intro k o hk ho
  simp only [St.freeze,List.getElem?_map,List.getElem?_take,if_pos hk,ho,map_some]
 cases p
 case bA k ver=>
  simp only [fC]
  split
  · rename_i hk
    obtain ⟨h0,o,ho,h2,h3⟩:=h
    refine ⟨h0,_,hget k o hk ho,h2,fun hl hv=>?_⟩
    obtain ⟨hM,hh⟩:=h3 hl hv
    refine ⟨hM,?_⟩
    unfold Bq at hh ⊢
    cases hg:blk k with
    | none=>rw [hg] at hh;exact ⟨hh.1,by simp [gM,hh.2]⟩
    | some g=>rw [hg] at hh;simpa [gM] using hh
  · exact .aL (Pw R d n d _ v h)
 case bR k ver i f=>
  simp only [fC]
  split
  · rename_i hk
    obtain ⟨h0,o,ho,h2,h3⟩:=h
    exact ⟨h0,_,hget k o hk ho,h2,h3⟩
  · exact .aL (Pw R d n d _ v h)
 case uw k ver=>
  simp only [fC]
  split
  · rename_i hk
    obtain ⟨h0,o,ho,h2,h3⟩:=h
    exact ⟨h0,_,hget k o hk ho,h2,h3⟩
  · exact .aL (.dead v)
 all_goals (simp only [fC];exact .aL (hm _ h))
theorem xU {R R':PV→Value→Prop}{f:PV→PV}{cs:List PV}{vs:List Value}(h:dw R cs vs) (hf:∀ p v,R p v→R' (f p) v):dw R' (cs.map f) vs:=by
 refine ⟨by simpa using h.1,fun i p v hp hv=>?_⟩
 rw [List.getElem?_map] at hp
 cases hc:cs[i]? with
 | none=>rw [hc] at hp;simp at hp
 | some p0=>
  rw [hc] at hp
  simp only [map_some,Option.some.injEq] at hp
  subst hp
  exact hf p0 v (h.2 i p0 v hc hv)
theorem Ht (R:Rel base ak w0 S blk a w) (d n:Nat) (p:PV) (v:Value) (h:aZ w (dn base S.objs blk) S.objs blk p v) :
  aZ w (dn base (S.freeze d n).objs blk) (S.freeze d n).objs blk (gY d n S.objs p) v:=by
 have hS:bS w (dn base S.objs blk) S.objs blk p v→aZ w (dn base (S.freeze d n).objs blk) (S.freeze d n).objs blk (fC d n S.objs p) v:=fun h=>.kL (qw R d n p v h)
 cases p
 case fn f a c=>
  obtain ⟨va,vc,rfl,h1,h2⟩:=h
  exact ⟨va,vc,rfl,xU h1 (qw R d n),xU h2 (qw R d n)⟩
 case bP cs=>obtain ⟨vs,rfl,h1⟩:=h;exact ⟨vs,rfl,xU h1 (qw R d n)⟩
 case agg cs=>obtain ⟨vs,rfl,h1⟩:=h;exact ⟨vs,rfl,xU h1 (qw R d n)⟩
 all_goals exact hS h
theorem MH {d n:Nat}{objs:List Obj}{p:PV}(h:p.v_ n=true):fC d n objs p=p:=by
 cases p <;> simp only [fC] <;> (try rfl) <;> (simp only [PV.v_,decide_eq_true_eq] at h;rw [if_pos h])
theorem F8 {d n:Nat}{objs:List Obj}{cs:List PV}(h:cs.all (PV.v_ n)=true):cs.map (fC d n objs)=cs:=by
 conv=>rhs;rw [← map_id cs]
 exact map_congr_left fun p hp=>MH (List.all_eq_true.1 h p hp)
theorem aaZ {d n:Nat}{objs:List Obj}{p:PV}(h:p.lt n=true):gY d n objs p=p:=by
 cases p <;> simp only [gY] <;> simp only [PV.lt,Bool.and_eq_true] at h
 case fn f a c=>rw [F8 h.1,F8 h.2]
 case bP cs=>rw [F8 h]
 case agg cs=>rw [F8 h]
 all_goals exact MH h
theorem Hu {n m:Nat}(h:n≤m){p:PV}(hp:p.v_ n=true):p.v_ m=true:=by
 cases p <;> simp only [PV.v_,decide_eq_true_eq] at hp ⊢ <;> omega
theorem o8 {n m:Nat}(h:n≤m){cs:List PV}(hp:cs.all (PV.v_ n)=true):cs.all (PV.v_ m)=true:=by
 rw [List.all_eq_true] at hp ⊢
 exact fun p hm=>Hu h (hp p hm)
theorem Vx {n m:Nat}(h:n≤m){p:PV}(hp:p.lt n=true):p.lt m=true:=by
 cases p <;> simp only [PV.lt,Bool.and_eq_true] at hp ⊢
 case fn f a c=>exact ⟨o8 h hp.1,o8 h hp.2⟩
 case bP cs=>exact o8 h hp
 case agg cs=>exact o8 h hp
 all_goals exact Hu h hp
theorem Rel.freeze (R:Rel base ak w0 S blk a w) (d n:Nat) (hn:w0.nx≤n):Rel base ak w0 (S.freeze d n) blk a w:=by
 refine ⟨R.oG.mono (fun b _ h=>⟨xS h.1,h.2⟩) (fun _ _ _ h=>h),by simpa [St.freeze] using R.Dz,fun t p hp=>?_,⟨fun k o' ho' hl=>?_,?_,?_⟩,R.pr,R.fr,R.gr,R.pb,fun x hx=>(aaZ (d:=d) (objs:=S.objs) (Vx hn (R.K4 x hx))) ▸ Ht R d n x.1 x.2 (R.ext x hx),R.K4,R.sm,R.gl⟩
 · simp only [St.freeze,List.getElem?_map] at hp
   cases ht:S.tmps[t]? with
   | none=>rw [ht] at hp;simp at hp
   | some p0=>
    rw [ht] at hp
    simp only [map_some,Option.some.injEq] at hp
    subst hp
    exact Ht R d n p0 _ (R.tm t p0 ht)
 · obtain ⟨hk,o,ho,rfl⟩:=nP ho'
   have hb:=R.objs.ob k o ho hl
   unfold dm at hb ⊢
   cases hg:blk k with
   | none=>rw [hg] at hb;simp [gM,hb]
   | some g=>
    rw [hg] at hb
    obtain ⟨c,hc,h7,h8⟩:=hb
    refine ⟨c,hc,by simpa [gM,fits] using h7,fun i x hx=>?_⟩
    simp only [gM,List.getElem?_map] at hx
    cases hx0:o.xs[i]? with
    | none=>rw [hx0] at hx;simp at hx
    | some x0=>
     rw [hx0] at hx
     simp only [map_some,Option.some.injEq] at hx
     subst hx
     have e:=mK (Vw d n S.objs) x0
     refine ⟨by rw [e,List.length_map];exact (h8 i x0 hx0).1,fun j p hp=>?_⟩
     rw [e,List.getElem?_map] at hp
     cases hp0:x0.cells[j]? with
     | none=>rw [hp0] at hp;simp at hp
     | some p0=>
      rw [hp0] at hp
      simp only [map_some,Option.some.injEq] at hp
      subst hp
      obtain ⟨u,hu,hr⟩:=(h8 i x0 hx0).2 j p0 hp0
      exact ⟨u,hu,qw R d n p0 u hr⟩
 · intro k k' o o' g hne h1 h2 h3 h4 h5
   obtain ⟨_,o1,ho1,rfl⟩:=nP h1
   obtain ⟨_,o2,ho2,rfl⟩:=nP h3
   exact R.objs.KZ k k' o1 o2 g hne ho1 h2 ho2 h4 h5
 · intro k o g h1 h2 h3
   obtain ⟨_,o1,ho1,rfl⟩:=nP h1
   exact R.objs.np k o1 g ho1 h2 h3
def yN:List Bool→List PV→List PV
 | _,[]=>[]
 | [],p::ps=>.dead::yN [] ps
 | true::ks,p::ps=>p::yN ks ps
 | false::ks,_::ps=>.dead::yN ks ps
theorem nQ:∀ (ks:List Bool) (ps:List PV),(yN ks ps).length=ps.length
 | ks,[]=>by cases ks <;> simp [yN]
 | [],_::ps=>by simp [yN,nQ [] ps]
 | true::ks,p::ps=>by simp [yN,nQ ks ps]
 | false::ks,p::ps=>by simp [yN,nQ ks ps]
theorem F9:∀ (ks:List Bool) (ps:List PV) (t:Nat) (p:PV),(yN ks ps)[t]?=some p→p=.dead∨ps[t]?=some p
 | ks,[],_,_,h=>by cases ks <;> simp [yN] at h
 | [],q::ps,0,p,h=>by simp only [yN,List.getElem?_cons_zero,Option.some.injEq] at h;exact .inl h.symm
 | [],q::ps,t+1,p,h=>by simp only [yN,List.getElem?_cons_succ] at h ⊢;exact F9 [] ps t p h
 | true::ks,q::ps,0,p,h=>by simp only [yN,List.getElem?_cons_zero,Option.some.injEq] at h;exact .inr (by simpa using h)
 | true::ks,q::ps,t+1,p,h=>by simp only [yN,List.getElem?_cons_succ] at h ⊢;exact F9 ks ps t p h
 | false::ks,q::ps,0,p,h=>by simp only [yN,List.getElem?_cons_zero,Option.some.injEq] at h;exact .inl h.symm
 | false::ks,q::ps,t+1,p,h=>by simp only [yN,List.getElem?_cons_succ] at h ⊢;exact F9 ks ps t p h
def St.forget (ks:List Bool) (S:St):St:=⟨yN ks S.tmps,S.objs⟩
theorem aZ.dead {ok:Nat→Prop}{objs:List Obj}(v:Value):aZ w ok objs blk .dead v:=.aL (.dead v)
theorem Rel.forget (R:Rel base ak w0 S blk a w) (ks:List Bool):Rel base ak w0 (S.forget ks) blk a w:=by
 refine ⟨R.oG,by simpa [St.forget,nQ] using R.Dz,fun t p hp=>?_,R.objs,R.pr,R.fr,R.gr,R.pb,R.ext,R.K4,R.sm,R.gl⟩
 rcases F9 ks S.tmps t p hp with rfl | h
 · exact .dead _
 · exact R.tm t p h
def St.wI (t ty sz:Nat) (S:St):St:=
 match S.tmps[t]? with
 | some (.sl _ [] _)=>⟨S.tmps.set t (.bA S.objs.length 0),S.objs++[⟨ty,sz,[],true,0⟩]⟩
 | _=>S
end
theorem Weak.refl (m:Nat) (S:St):Weak m S S:=fun _ _ _ blk _ _ _ R=>⟨blk,R⟩
theorem Weak.trans {m:Nat}{S S' S'':St}(h:Weak m S S') (h':Weak m S' S''):Weak m S S'':=fun base ak w0 blk a w hm R=>let ⟨ay,R'⟩:=h base ak w0 blk a w hm R;h' base ak w0 ay a w hm R'
theorem Weak.freeze {m:Nat}(d n:Nat) (hn:m≤n) (S:St):Weak m S (S.freeze d n):=fun _ _ _ blk _ _ hm R=>⟨blk,R.freeze d n (Nat.le_trans hm hn)⟩
theorem Weak.forget (m:Nat) (ks:List Bool) (S:St):Weak m S (S.forget ks):=fun _ _ _ blk _ _ _ R=>⟨blk,R.forget ks⟩
def St.norm (ks:List Bool) (fz:Option (Nat×Nat)) (S:St):St:=
 match fz with
 | none=>S.forget ks
 | some (d,n)=>(S.forget ks).freeze d n
def JM (m:Nat):Option (Nat×Nat)→Prop
 | none=>True
 | some (_,n)=>m≤n
theorem Weak.norm {m:Nat}(ks:List Bool) (fz:Option (Nat×Nat)) (h:JM m fz) (S:St):Weak m S (S.norm ks fz):=by
 cases fz with
 | none=>exact .forget m ks S
 | some x=>exact (Weak.forget m ks S).trans (Weak.freeze _ _ h _)
theorem Rel.wI {base ak:Nat→Prop}{w0:Wz}{S:St}{blk:Nat→Option Nat}{a:Act}{w:World}(R:Rel base ak w0 S blk a w){t sz ty:Nat}{sz':Nat}(h:S.tmps[t]?=some (.sl sz' [] (some true))) (hM:ty≠MT) :
  Rel base ak w0 ⟨S.tmps.set t (.bA S.objs.length 0),S.objs++[⟨ty,sz,[],true,0⟩]⟩ (aK blk S.objs.length none) a w:=by
 have h1:=R.DI (o1:=⟨ty,sz,[],true,0⟩) (gb:=none) (kY.refl w) (fun g hg=>by cases hg) fun _=>by
  unfold dm aK
  rw [if_pos rfl]
 refine ⟨h1.oG,by simpa using h1.Dz,fun t' p hp=>?_,h1.objs,h1.pr,h1.fr,h1.gr,h1.pb,h1.ext,h1.K4,h1.sm,h1.gl⟩
 simp only [List.getElem?_set] at hp
 split at hp
 · rename_i ht
   subst ht
   split at hp
   · cases hp
     have hx:=R.tm t _ h
     have hx':dN w (dn base S.objs blk) (.sl sz' [] (some true)) (a.tmps.getD t undef):=hx
     generalize hv:a.tmps.getD t undef=v at hx'
     cases hx' with
     | slnil _ _ _=>
      refine ⟨rfl,⟨ty,sz,[],true,0⟩,aaU _ _,Nat.le_refl _,fun _ _=>⟨hM,?_⟩⟩
      unfold Bq aK
      rw [if_pos rfl]
      exact ⟨rfl,rfl⟩
     | JB _ _ hq=>exact absurd rfl hq
     | sl _ _ _ hq=>exact absurd rfl hq
   · cases hp
 · exact h1.tm t' p hp
theorem Weak.wI {m:Nat}{tm:List PV}{objs:List Obj}(t ty sz:Nat){sz':Nat}(h:tm[t]?=some (.sl sz' [] (some true))) (hM:ty≠MT:=by decide) :
  Weak m ⟨tm,objs⟩ ⟨tm.set t (.bA objs.length 0),objs++[⟨ty,sz,[],true,0⟩]⟩:=
 fun _ _ _ _ _ _ _ R=>⟨_,Rel.wI (S:=⟨tm,objs⟩) R h hM⟩
def jR (objs:List Obj):Prop:=∀ o ∈ objs,∀ x ∈ o.xs,∀ c ∈ x.cells,c.v_ objs.length=true
theorem Px {f:PV→PV}{x:PV}(h:∀ c ∈ x.cells,f c=c):x.bL f=x:=by
 cases x <;> simp only [PV.bL] <;> simp only [PV.cells] at h
 case agg cs=>congr 1;conv=>rhs;rw [← map_id cs]
              exact map_congr_left fun c hc=>h c hc
 all_goals exact h _ List.mem_cons_self
theorem F_ {d:Nat}{objs objs':List Obj}(h:jR objs):objs.map (gM d objs.length objs')=objs:=by
 conv=>rhs;rw [← map_id objs]
 refine map_congr_left fun o ho=>?_
 have hx:o.xs.map (PV.bL (fC d objs.length objs'))=o.xs:=by
  conv=>rhs;rw [← map_id o.xs]
  exact map_congr_left fun x hx=>Px fun c hc=>MH (h o ho x hx c hc)
 simp only [gM,hx,id]
end Lp
namespace Lp
open Go
open List (all_eq_true mem_range)
structure Step where
 dst:Option Nat
 op:Op
 g:Option (Option Nat×Bool)
 own:Bool
inductive LC where
 | skip
 | ret
 | bad
 | reg (ss:List Step)
 | draw (ss:List Step) (un:List Nat)
 | seq (a b:LC)
 | cond (c:Operand) (a b:LC)
 | block (id:Nat) (c:LC)
 | loop (ks:List Bool) (fz:Option (Nat×Nat)) (c:LC)
 | exit (id:Nat)
 | weak (c:LC)
 | rf (f:Operand) (ps:List Nat) (fz:Option (Nat×Nat)) (a b:LC)
def rE (ops:List Oper) (ms:List Nat):List Nat:=
 (List.range ops.length).map fun i=>(List.range i).foldl (fun u j=>if (ms.getD i 0).testBit j then u else u ||| (1 <<<j)) 0
def f_ (ops:List Oper) (ms:List Nat):Bool:=
 let ls:=ops.map (jw ops)
 let zs:=ops.map fun _=>0
 (List.range ops.length).all fun i=>
  match ops[i]? with
  | none=>true
  | some o=>
   (o.after.toList.all fun e=>!Region.binds .any e || decide (e.on<i)) &&
   (ms.getD i 0 &&& DT ms o==ms.getD i 0) &&
   (List.range i).all fun j=>
    (ms.getD i 0).testBit j || !clash ((ops[j]?).bind (·.dst)) o.dst (ls.getD j []) (ls.getD i []) (zs.getD j 0) (zs.getD i 0)
def qx (un ts:List Nat):Bool:=
 (List.range un.length).all fun i=>co (ts.getD i 0)==0 || (List.range i).all fun j=>!(un.getD i 0).testBit j || !((co (ts.getD j 0)==2 && co (ts.getD i 0) !=0) || (co (ts.getD i 0)==2 && co (ts.getD j 0) !=0))
def zM (un ts:List Nat):Bool:=
 ((List.range un.length).all fun i=>BF (ts.getD i 0)) && (List.range un.length).all fun i=>(List.range i).all fun j=>!(un.getD i 0).testBit j || !zL (ts.getD j 0) (ts.getD i 0)
def nR (un ts:List Nat):Bool:=qx un ts || zM un ts
def stepOf (ops:List Oper) (o:Oper):Step:=⟨o.dst,o.op,match o.guard with
 | none=>none
 | some (j,b)=>some ((ops[j]?).bind (·.dst),b),false⟩
def comp:Code→LC
 | .skip=>.skip
 | .ret=>.ret
 | .exit id=>.exit id
 | .region _ ops false=>.reg (ops.toList.map (stepOf ops.toList))
 | .region _ ops true=>bif f_ ops.toList (masks ops.toList []) then .draw (ops.toList.map (stepOf ops.toList)) (rE ops.toList (masks ops.toList [])) else .bad
 | .seq a b=>.seq (comp a) (comp b)
 | .cond c a b=>.cond c (comp a) (comp b)
 | .block id c=>.block id (comp c)
 | .loop c=>.loop [] none (comp c)
 | .rangeFunc f ps a b=>.rf f ps.toList none (comp a) (comp b)
 | _=>.bad
def zN (s:Step):Step:={ s with own:=false }
def strip:LC→LC
 | .reg ss=>.reg (ss.map zN)
 | .draw ss un=>.draw (ss.map zN) un
 | .seq a b=>.seq (strip a) (strip b)
 | .cond c a b=>.cond c (strip a) (strip b)
 | .block id c=>.block id (strip c)
 | .loop _ _ c=>.loop [] none (strip c)
 | .weak c=>strip c
 | .rf f ps _ a b=>.rf f ps none (strip a) (strip b)
 | c=>c
abbrev Tab:=FuncId→List PV→List Obj→KT→Prop
abbrev YT:=List PV→List Obj→(Bool→List Obj→Prop)→Prop
structure Know where
 fn:Tab
 y:Nat
 Y:YT
 top:Bool
 gives:FuncId→List PV→List (List PV)→Prop
 nx:Nat
def oJ (T:Know) (pt:Bool) (f:PV) (args:List PV) (objs:List Obj) (K:KT):Prop:=
 match f with
 | .fn g first cap=>T.fn g (first++args++cap) objs K
 | .Fx l=>l=T.y∧pt=true∧args.all PV.pure=true∧T.Y args objs fun b o=>K (.bool b) o 2
 | _=>False
def Know.noY (T:Know):Know:={ T with Y:=fun _ _ _=>False }
def Know.inner (T:Know) (n:Nat):Know:={ T with top:=false,Y:=fun _ _ _=>False,nx:=n }
def mg (P:Program) (D:TypeId→aJ) (T:Know) (own pt:Bool) (ev:Operand→PV) (objs:List Obj) (op:Op) (K:KT):Prop:=
 match op with
 | .call { callee:=.value f,args,.. }=>oJ T pt (ev f) (args.toList.map ev) objs K
 | op=>Jt P D own ev objs op K
def wJ (g:Option (Option Nat×Bool)) (S:St) (X Y:St→Prop):Prop:=
 match g with
 | none=>X S
 | some (none,_)=>False
 | some (some d,want)=>
  match S.tmps.getD d .dead with
  | .bool b=>(b=want→X { S with tmps:=S.tmps.set d (.bool want) })∧(b=!want→Y { S with tmps:=S.tmps.set d (.bool !want) })
  | .bP []=>Y S
  | _=>False
def LR (P:Program) (D:TypeId→aJ) (T:Know):List Step→St→List Nat→(St→List Nat→Prop)→Prop
 | [],S,ts,K=>K S ts
 | s::rest,S,ts,K=>
  wJ s.g S
   (fun S=>mg P D T s.own (S.tmps.all PV.pure) S.ev S.objs s.op fun r objs' t=>LR P D T rest (St.put ⟨S.tmps,objs'⟩ s.dst r) (ts++[t]) K)
   (fun S=>LR P D T rest (S.put s.dst (.bP [])) (ts++[0]) K)
def SG (fz:Option (Nat×Nat)) (I:List Obj→Prop):Exit→St→Prop
 | .normal,S=>I (S.norm [] fz).objs
 | _,_=>False
def qX:List Nat→List PV→List PV→List PV
 | p::ps,y::ys,tm=>qX ps ys (tm.set p y)
 | _,_,tm=>tm
def Dq:Obj:=⟨0,0,[],true,0⟩
def iK (k:Nat) (O:List Obj):List Obj:=(O.set k hole).set (k+1) Dq
def Gh (k:Nat) (O:List Obj):Prop:=k+2≤O.length∧jR O∧O[k]?=some Dq∧O[k+1]?=some hole
def Hw:Exit→Option Code
 | .ret=>some .ret
 | .exit id=>some (.exit id)
 | _=>none
def MI (fz:Option (Nat×Nat)) (I:List Obj→Prop) (lv:Exit) (J:List Obj→Prop):Exit→St→Prop
 | .normal,S=>I (S.norm [] fz).objs
 | e,S=>e=lv∧J (S.norm [] fz).objs
def lq (P:Program) (D:TypeId→aJ):Know→LC→(Exit→St→Prop)→St→Prop
 | _,.skip,Q,S=>Q .normal S
 | _,.ret,Q,S=>Q .ret S
 | _,.bad,_,_=>False
 | T,.reg ss,Q,S=>LR P D T ss S [] fun S' _=>Q .normal S'
 | T,.draw ss un,Q,S=>LR P D T.noY ss S [] fun S' ts=>nR un ts=true∧Q .normal S'
 | T,.seq a b,Q,S=>lq P D T a (thenS (fun S'=>lq P D T b Q S') Q) S
 | T,.cond c a b,Q,S=>ze (S.ev c) (lq P D T a Q S) (lq P D T b Q S)
 | T,.block id c,Q,S=>lq P D T c (rX id Q) S
 | T,.loop ks fz c,Q,S=>JM T.nx fz∧∃ I:Nat→St→Prop,(∃ S0 m,Weak T.nx S S0∧I m S0)∧
   ∀ m S,I m S→lq P D T c (thenS (fun S'=>∃ m',m'<m∧I m' (S'.norm ks fz)) Q) S
 | _,.exit id,Q,S=>Q (.exit id) S
 | T,.weak c,Q,S=>∃ S',Weak T.nx S S'∧lq P D T c Q S'
 | T,.rf f ps fz x y,Q,S=>T.top=true∧∃ (g:FuncId) (cap:List PV) (ys:List (List PV)),
   S.ev f=.fn g [] cap∧cap.all PV.pure=true∧T.gives g cap ys∧(∀ y ∈ ys,y.length=ps.length)∧
   ((∃ I:Nat→List Obj→Prop,JM S.objs.length fz∧I 0 S.objs∧(∀ i objs,I i objs→S.objs.length≤objs.length∧jR objs)∧
    (∀ i args objs,I i objs→ys[i]?=some args→lq P D (T.inner S.objs.length) x (thenS (fun S1=>lq P D (T.inner S.objs.length) y (SG fz (I (i+1))) S1) (fun _ _=>False)) ⟨qX ps args S.tmps,objs⟩)∧
    ∀ objs,I ys.length objs→Q .normal ⟨S.tmps,objs⟩)∨
   (∃ (I J:Nat→List Obj→Prop) (lv:Exit) (lc:Code),Hw lv=some lc∧JM (S.objs.length+2) fz∧I 0 (S.objs++[Dq,hole])∧(∀ i objs,I i objs→Gh S.objs.length objs)∧(∀ i objs,J i objs→Gh S.objs.length objs∧fB objs)∧
    (∀ i args objs,I i objs→ys[i]?=some args→lq P D (T.inner (S.objs.length+2)) x (thenS (fun S1=>lq P D (T.inner (S.objs.length+2)) y (MI fz (I (i+1)) lv (J i)) S1) (fun _ _=>False)) ⟨qX ps args S.tmps,objs⟩)∧
    (∀ objs,I ys.length objs→Q .normal ⟨S.tmps,objs⟩)∧∀ i objs,i<ys.length→J i objs→Q lv ⟨S.tmps,iK S.objs.length objs⟩))
def vN (P:Program) (T:Tab):Prop:=∀ f args objs K,T f args objs K→∃ r objs' t,mI P f args objs r objs' t∧K r objs' t
def Y6 (P:Program) (l:Option Nat) (base ak:Nat→Prop) (V:Wz→Prop) (T:Know):Prop:=
 ∀ (S:St) (blk:Nat→Option Nat) (a:Act) (w:World) (args:List PV) (vs:List Value) (K:Bool→List Obj→Prop),qW base ak V S blk a w→S.tmps.all PV.pure=true→
  dw (dN w (dn base S.objs blk)) args vs→T.Y args S.objs K→
  ∃ r:Loop,w.heap[T.y]?=some (.loop r)∧vs.length=r.params.size∧
   RoundIn (F6 l) 0 P T.y r.fn ((r.params.zip (⟨vs⟩:Array Value)).foldl (fun t (p,v)=>t.setIfInBounds p v) r.tmps) r.assign r.body w
    (fun e w'=>∃ b objs' ay,e=.returned (.bool b)∧K b objs'∧qW base ak V ⟨S.tmps,objs'⟩ ay a w')
variable {P:Program}{D:TypeId→aJ}{T:Know}{l:Option Nat}
theorem WS (hT:vN P T.fn){own pt:Bool}{ev:Operand→PV}{objs:List Obj}{op:Op}{K:KT}(h:mg P D T.noY own pt ev objs op K):Jt P D own ev objs op K:=by
 unfold mg at h
 split at h
 · unfold oJ at h
   split at h
   · rename_i e
     simp only [Jt,G6,e]
     exact hT _ _ _ _ h
   · exact h.2.2.2.elim
   · exact h.elim
 · exact h
theorem aa0 {base ak:Nat→Prop}{V:Wz→Prop}{S:St}{blk:Nat→Option Nat}{a:Act}{w:World}{own:Bool}{o:Oper}{K:KT}{next:Act→World→Prop}{Q:Exit→Act→World→Prop}
  (hD:∀ t,iY P t (D t)) (hT:vN P T.fn) (hY:Y6 P l base ak V T) (R:qW base ak V S blk a w) (h:mg P D T own (S.tmps.all PV.pure) S.ev S.objs o.op K)
  (hn:∀ r objs' t v w' ay,K r objs' t→qW base ak V ⟨S.tmps,objs'⟩ ay a w'→aZ w' (dn base objs' ay) objs' ay r v→next (a.put o.dst v) w') :
  o.wpIn (F6 l) 0 P a w next Q:=by
 obtain ⟨w0,hV,R0⟩:=R
 have Le:Jt P D own S.ev S.objs o.op K→o.wpIn (F6 l) 0 P a w next Q:=fun h=>
  Bz l hD R0 h fun r objs' t v w' ay h1 h2 h3=>hn r objs' t v w' ay h1 ⟨w0,hV,h2⟩ h3
 unfold mg at h
 split at h
 · rename_i f args argTypes ho
   unfold oJ at h
   split at h
   · rename_i e
     refine Le ?_
     simp only [ho,Jt,G6,e]
     exact hT _ _ _ _ h
   · rename_i y e
     obtain ⟨rfl,hpt,hpure,hy⟩:=h
     have hf:=R0.ev f
     rw [e] at hf
     have hf':dN w (dn base S.objs blk) (.Fx T.y) (a.eval f):=hf
     have hv:a.eval f=.func (.yield T.y) #[] #[]:=by
      generalize a.eval f=v at hf'
      cases hf'
      rfl
     have hargs:dw (dN w (dn base S.objs blk)) (args.toList.map S.ev) (args.toList.map a.eval):=by
      have h0:dw (aZ w (dn base S.objs blk) S.objs blk) (args.toList.map S.ev) (args.toList.map a.eval):=Bw _ fun x _=>R0.ev x
      exact ⟨h0.1,fun i p v hp hv=>(h0.2 i p v hp hv).zJ (all_eq_true.1 hpure p (List.mem_of_getElem? hp))⟩
     obtain ⟨r,hr,hsz,rZ⟩:=hY S blk a w _ _ _ ⟨w0,hV,R0⟩ hpt hargs hy
     refine ⟨fun _ _=>trivial,?_⟩
     rw [Oper.semAt_eq _ _ _ (by rw [ho];simp)]
     have e1:args.map a.eval=Array.mk (args.toList.map a.eval):=by apply Array.ext';simp
     have hrun:(execOp a.eval o).run P w=.ok (.round T.y r.fn ((r.params.zip (⟨args.toList.map a.eval⟩:Array Value)).foldl (fun t (p,v)=>t.setIfInBounds p v) r.tmps) r.assign r.body) w:=by
      simp only [execOp,ho,resolve,hv,Deferred.ofValue,Sem.run_bind,Sem.run_pure,Result.andThen_ok,invoke]
      rw [e1]
      rw [Array.empty_append]
      exact run_yield (args:=Array.mk (args.toList.map a.eval)) hr (by simpa using hsz)
     rw [hrun]
     refine ⟨(fun h=>by cases h),?_⟩
     refine RoundIn.mono rZ fun e w' ⟨b,objs',ay,h1,h2,h3⟩=>?_
     subst h1
     exact hn _ _ _ _ _ _ h2 h3 (.aL (.bool b))
   · exact h.elim
 · exact Le h
theorem Py {own:Bool}{ev:Operand→PV}{objs:List Obj}{op:Op}{K K':KT}(h:Jt P D own ev objs op K) (hk:∀ r o t,K r o t→K' r o t):Jt P D own ev objs op K':=by
 obtain ⟨r,o,t,h1,_,h2,_,_⟩:=Vq h
 exact h2 _ (hk _ _ _ h1)
theorem Hy {ops:List Oper}{g:Option (Nat×Bool)}{S:St}{X Y:St→Prop}
  (h:wJ (match g with | none=>none | some (j,b)=>some ((ops[j]?).bind (·.dst),b)) S X Y):oQ ops g S X Y:=by
 unfold wJ at h
 unfold oQ
 cases g with
 | none=>exact h
 | some g=>
  obtain ⟨j,want⟩:=g
  simp only [] at h ⊢
  cases hd:(ops[j]?).bind (·.dst) with
  | none=>rw [hd] at h;exact h
  | some d=>rw [hd] at h;exact h
theorem EW {ops:List Oper}{g:Option (Nat×Bool)}{S:St}{X X' Y Y':St→Prop}(h:oQ ops g S X Y) (hx:∀ S',S'.tmps.length=S.tmps.length→X S'→X' S')
  (hy:∀ S',S'.tmps.length=S.tmps.length→Y S'→Y' S'):oQ ops g S X' Y':=by
 cases g with
 | none=>exact hx _ rfl h
 | some g=>
  obtain ⟨j,want⟩:=g
  simp only [oQ] at h ⊢
  cases hd:(ops[j]?).bind (·.dst) with
  | none=>rw [hd] at h;exact h
  | some d=>
   rw [hd] at h
   simp only [] at h ⊢
   generalize hv:S.tmps.getD d .dead=v at h ⊢
   cases v
   case bool b=>exact ⟨fun hb=>hx _ (by simp) (h.1 hb),fun hb=>hy _ (by simp) (h.2 hb)⟩
   case bP cs=>
    cases cs with
    | nil=>exact hy _ rfl h
    | cons c cs=>exact h
   all_goals exact h
theorem wK (hT:vN P T.fn){ops:List Oper}{own:Nat→Bool}:∀ (qP:List Oper) (ss:List Step) (i:Nat) (S:St) (ts:List Nat) (K:St→List Nat→Prop),
  ss.map zN=qP.map (stepOf ops)→(∀ j s,ss[j]?=some s→own (i+j)=s.own)→LR P D T.noY ss S ts K→qj P D own ops qP i S ts K
 | [],ss,i,S,ts,K,he,ho,h=>by
  have:ss=[]:=by simpa using he
  subst this
  exact h
 | o::qP,ss,i,S,ts,K,he,ho,h=>by
  cases ss with
  | nil=>simp at he
  | cons s ss=>
   simp only [List.map_cons,List.cons.injEq] at he
   obtain ⟨he1,he2⟩:=he
   have hd:s.dst=o.dst:=congrArg (fun x:Step=>x.dst) he1
   have hop:s.op=o.op:=congrArg (fun x:Step=>x.op) he1
   have hg:s.g=(stepOf ops o).g:=(congrArg (fun x:Step=>x.g) he1:(zN s).g=(stepOf ops o).g)
   have hown:own i=s.own:=ho 0 s rfl
   unfold LR at h
   unfold qj
   rw [hg] at h
   refine EW (Hy h) ?_ ?_
   · intro S' hS' hx
     rw [hown,← hop]
     refine Py (WS hT hx) ?_
     intro r objs' t hk
     rw [← hd]
     exact wK hT qP ss (i+1) _ _ K he2 (fun j s' hs'=>by rw [show i+1+j=i+(j+1) by omega];exact ho (j+1) s' hs') hk
   · intro S' hS' hy
     rw [← hd]
     exact wK hT qP ss (i+1) _ _ K he2 (fun j s' hs'=>by rw [show i+1+j=i+(j+1) by omega];exact ho (j+1) s' hs') hy
theorem zO {ops:List Oper}{own:Nat→Bool}{K K':St→List Nat→Prop}(hk:∀ S ts,K S ts→K' S ts):∀ (qP:List Oper) (i:Nat) (S:St) (ts:List Nat),qj P D own ops qP i S ts K→qj P D own ops qP i S ts K'
 | [],_,_,_,h=>hk _ _ h
 | o::qP,i,S,ts,h=>by
  unfold qj at h ⊢
  exact EW h (fun S' _ hx=>Py hx fun r o' t hh=>zO hk qP _ _ _ hh) (fun S' _ hy=>zO hk qP _ _ _ hy)
theorem PW.adP {E:Env}{c:Code}{Q:Exit→St→Prop}{S:St}{m nx:Nat}(hE:∀ base ak V,E base ak V→∀ w0,V w0→w0.nx≤nx) (I:Nat→St→Prop) (h0:I m S)
  (round:∀ m S,I m S→PW P l E c (thenS (fun S'=>∃ S'' m',Weak nx S' S''∧I m' S''∧m'<m) Q) S):PW P l E (.loop c) Q S:=by
 intro base ak V Vy blk a w R b k cs hro hb hroom
 have hE':=hE base ak V Vy
 have key:∀ n S blk a w,I n S→qW base ak V S blk a w→
     ∃ e a' w',(∃ S' ay,Q e S'∧qW base ak V S' ay a' w')∧ArrivesIn (Machine.fenced P (F6 l)) P (lone (b.atR a (.code c::.inLoop c::k)) cs w) b k cs e a' w':=by
  intro n
  induction n using Nat.strongRecOn with
  | _ n ih=>
   intro S blk a w hI R
   obtain ⟨e,a₁,w₁,⟨S₁,blk₁,h1,R₁⟩,harr⟩:=round n S hI base ak V Vy blk a w R b (.inLoop c::k) cs hro hb hroom
   cases e with
   | normal=>
    obtain ⟨S₂,m',hw,hI₂,hlt⟩:=h1
    obtain ⟨w0,hV,R₁⟩:=R₁
    obtain ⟨aeW,R₂⟩:=hw base ak w0 blk₁ a₁ w₁ (hE' w0 hV) R₁
    obtain ⟨e₂,a₂,w₂,hq₂,harr₂⟩:=ih m' hlt S₂ aeW a₁ w₁ hI₂ ⟨w0,hV,R₂⟩
    exact ⟨e₂,a₂,w₂,hq₂,.of_steps (StepsIn.trans harr (.one (fenced_calm hb hroom rfl) stepR_inLoop)) harr₂⟩
   | exit id=>exact ⟨_,a₁,w₁,⟨S₁,blk₁,h1,R₁⟩,.pass (x:=.inLoop c) rfl (fun _ _=>.inl (by simp)) harr⟩
   | goto t=>exact ⟨_,a₁,w₁,⟨S₁,blk₁,h1,R₁⟩,.pass (x:=.inLoop c) rfl (fun _ _=>.inl (by simp)) harr⟩
   | ret=>exact ⟨_,a₁,w₁,⟨S₁,blk₁,h1,R₁⟩,.pass (x:=.inLoop c) rfl (fun _ _=>.inl (by simp)) harr⟩
   | panic ch=>exact ⟨_,a₁,w₁,⟨S₁,blk₁,h1,R₁⟩,.pass (x:=.inLoop c) rfl (fun _ _=>.inl (by simp)) harr⟩
   | outgrown=>exact ⟨_,a₁,w₁,⟨S₁,blk₁,h1,R₁⟩,.pass (x:=.inLoop c) rfl (fun _ _=>.inl (by simp)) harr⟩
 obtain ⟨e,a',w',hq,harr⟩:=key m S blk a w h0 R
 exact ⟨e,a',w',hq,.of_steps (.one (fenced_calm hb hroom rfl) stepR_loop) harr⟩
theorem uO {next next':St→Prop}{Q:Exit→St→Prop}(h:∀ S,next S→next' S):∀ e S,thenS next Q e S→thenS next' Q e S:=by
 intro e S hh
 cases e <;> first | exact h _ hh | exact hh
theorem wL {n:Nat}{f:Nat→Bool}(h:(List.range n).all f=true){i:Nat}(hi:i<n):f i=true:=by
 rw [all_eq_true] at h
 exact h i (mem_range.2 hi)
theorem Lf {m:Nat}{i:Nat}:∀ (n:Nat),i<n→((List.range n).foldl (fun u j=>if m.testBit j then u else u ||| (1 <<<j)) 0).testBit i=!m.testBit i:=by
 have key:∀ (n:Nat) (j:Nat),((List.range n).foldl (fun u j=>if m.testBit j then u else u ||| (1 <<<j)) 0).testBit j=(decide (j<n) && !m.testBit j):=by
  intro n
  induction n with
  | zero=>intro j;simp
  | succ n ih=>
   intro j
   rw [List.range_succ,List.foldl_append,List.foldl_cons,List.foldl_nil]
   split
   · rename_i hm
     rw [ih j]
     by_cases hj:j=n
     · subst hj;simp [hm]
     · have:decide (j<n+1)=decide (j<n):=by congr 1;apply propext;omega
       rw [this]
   · rename_i hm
     rw [Nat.testBit_or,ih j,Nat.one_shiftLeft,Nat.testBit_two_pow]
     by_cases hj:n=j
     · subst hj;simp [hm]
     · have:decide (j<n+1)=decide (j<n):=by congr 1;apply propext;omega
       rw [this];simp [hj]
 intro n hi
 rw [key n i];simp [hi]
theorem SH {ops:List Oper}{ts:List Nat}(h1:f_ ops (masks ops [])=true) (h2:qx (rE ops (masks ops [])) ts=true):uN ops ts=true:=by
 unfold uN
 unfold f_ at h1
 unfold qx at h2
 generalize masks ops []=ms at *
 simp only [all_eq_true,mem_range] at h1 ⊢
 intro i hi
 have h1:=h1 i hi
 rw [List.getElem?_eq_getElem hi] at h1 ⊢
 simp only [Bool.and_eq_true,all_eq_true,mem_range] at h1 ⊢
 refine ⟨⟨h1.1.1,h1.1.2⟩,fun j hj=>?_⟩
 have hz:=h1.2 j hj
 cases hb:(ms.getD i 0).testBit j with
 | true=>simp
 | false=>
  rw [hb] at hz
  have hzz:∀ k,(ops.map fun _=>0).getD k 0=0:=by
   intro k
   rw [List.getD_eq_getElem?_getD,List.getElem?_map]
   cases ops[k]? <;> rfl
  rw [hzz,hzz] at hz
  simp only [Bool.false_or,Bool.not_eq_true',Bool.or_false] at hz ⊢
  have hlen:(rE ops ms).length=ops.length:=by simp [rE]
  have h2:=wL h2 (i:=i) (by omega)
  have hun:(rE ops ms).getD i 0=(List.range i).foldl (fun u j=>if (ms.getD i 0).testBit j then u else u ||| (1 <<<j)) 0:=by
   rw [List.getD_eq_getElem?_getD,rE,List.getElem?_map,List.getElem?_range hi]
   rfl
  have ht:((co (ts.getD j 0)==2 && co (ts.getD i 0) !=0) || (co (ts.getD i 0)==2 && co (ts.getD j 0) !=0))=false:=by
   simp only [Bool.or_eq_true] at h2
   rcases h2 with h2 | h2
   · have:co (ts.getD i 0)=0:=by simpa using h2
     rw [this];simp
   · have:=wL h2 hj
     rw [hun,Lf i hj,hb] at this
     simp only [Bool.not_false,Bool.not_true,Bool.false_or,Bool.not_eq_true'] at this
     exact this
  unfold clash at hz ⊢
  simp only [Bool.or_eq_false_iff] at hz ht ⊢
  exact ⟨⟨⟨hz.1.1.1,hz.1.1.2⟩,ht.1⟩,ht.2⟩
theorem SI {ops:List Oper}{ts:List Nat}(h1:f_ ops (masks ops [])=true) (h2:zM (rE ops (masks ops [])) ts=true):xR ops ts=true:=by
 unfold xR
 unfold f_ at h1
 unfold zM at h2
 generalize masks ops []=ms at *
 have hlen:(rE ops ms).length=ops.length:=by simp [rE]
 simp only [Bool.and_eq_true,all_eq_true,mem_range,hlen] at h1 h2 ⊢
 refine ⟨h2.1,fun i hi=>?_⟩
 have h1:=h1 i hi
 rw [List.getElem?_eq_getElem hi] at h1 ⊢
 simp only [Bool.and_eq_true,all_eq_true,mem_range] at h1 ⊢
 refine ⟨⟨h1.1.1,h1.1.2⟩,fun j hj=>?_⟩
 have hz:=h1.2 j hj
 cases hb:(ms.getD i 0).testBit j with
 | true=>simp
 | false=>
  rw [hb] at hz
  have hzz:∀ k,(ops.map fun _=>0).getD k 0=0:=by
   intro k
   rw [List.getD_eq_getElem?_getD,List.getElem?_map]
   cases ops[k]? <;> rfl
  rw [hzz,hzz] at hz
  simp only [Bool.false_or,Bool.not_eq_true',Bool.or_false] at hz ⊢
  have hun:(rE ops ms).getD i 0=(List.range i).foldl (fun u j=>if (ms.getD i 0).testBit j then u else u ||| (1 <<<j)) 0:=by
   rw [List.getD_eq_getElem?_getD,rE,List.getElem?_map,List.getElem?_range hi]
   rfl
  have:=h2.2 i hi j hj
  rw [hun,Lf i hj,hb] at this
  simp only [Bool.not_false,Bool.not_true,Bool.false_or,Bool.not_eq_true'] at this
  rw [this,Bool.or_false]
  exact hz
theorem WT {ops:List Oper}{ts:List Nat}(h1:f_ ops (masks ops [])=true) (h2:nR (rE ops (masks ops [])) ts=true):(uN ops ts || xR ops ts)=true:=by
 unfold nR at h2
 rcases Bool.or_eq_true _ _ ▸ h2 with h2 | h2
 · rw [SH h1 h2];rfl
 · rw [SI h1 h2,Bool.or_true]
theorem Hz {base ak:Nat→Prop}{V:Wz→Prop}{ops:List Oper}{Qm:Exit→Act→World→Prop}(hD:∀ t,iY P t (D t)) (hT:vN P T.fn) (hY:Y6 P l base ak V T) :
  ∀ (qP:List Oper) (ss:List Step) (k:Nat) (S:St) (ts:List Nat) (K:St→List Nat→Prop) (blk:Nat→Option Nat) (a:Act) (w:World),ss.map zN=qP.map (stepOf ops)→(∀ j,qP[j]?=ops[k+j]?)→
   LR P D T ss S ts K→qW base ak V S blk a w→(∀ S' ts' ay a' w',K S' ts'→qW base ak V S' ay a' w'→Qm .normal a' w')→wpOpsIn (F6 l) 0 P ops.toArray Qm (List.range' k qP.length) a w
 | [],ss,k,S,ts,K,blk,a,w,he,_,h,R,hq=>by
  have:ss=[]:=by simpa using he
  subst this
  exact hq S ts blk a w h R
 | o::qP,ss,k,S,ts,K,blk,a,w,he,hl,h,R,hq=>by
  cases ss with
  | nil=>simp at he
  | cons s ss=>
   simp only [List.map_cons,List.cons.injEq] at he
   obtain ⟨he1,he2⟩:=he
   have hd:s.dst=o.dst:=congrArg (fun x:Step=>x.dst) he1
   have hop:s.op=o.op:=congrArg (fun x:Step=>x.op) he1
   have hg:s.g=(stepOf ops o).g:=(congrArg (fun x:Step=>x.g) he1:(zN s).g=(stepOf ops o).g)
   have h0:ops.toArray[k]?=some o:=by simpa using (hl 0).symm
   have hl':∀ j,qP[j]?=ops[k+1+j]?:=fun j=>by have:=hl (j+1);simpa [Nat.add_assoc,Nat.add_comm 1 j] using this
   simp only [List.length_cons,List.range'_succ,wpOpsIn,h0]
   unfold LR at h
   rw [hg] at h
   rcases wF R.choose_spec.2 (Hy h) o rfl with ⟨hw,hx⟩ | ⟨hw,hy⟩
   · rw [if_pos hw]
     rw [hop] at hx
     refine aa0 hD hT hY R hx fun r objs' t v w' ay hK R' hr=>?_
     rw [hd] at hK
     obtain ⟨w0,hV,R0⟩:=R'
     exact Hz hD hT hY qP ss (k+1) _ _ K ay _ w' he2 hl' hK ⟨w0,hV,R0.put hr o.dst⟩ hq
   · rw [if_neg (by rw [hw];simp)]
     rw [hd] at hy
     obtain ⟨w0,hV,R0⟩:=R
     exact ⟨fun _ _=>trivial,Hz hD hT hY qP ss (k+1) _ _ K blk _ w he2 hl' hy ⟨w0,hV,R0.put (xQ _ _ _ _) o.dst⟩ hq⟩
theorem Y6.noY {base ak:Nat→Prop}{V:Wz→Prop}:Y6 P l base ak V T.noY:=fun _ _ _ _ _ _ _ _ _ _ h=>h.elim
theorem Y6.inner {base ak:Nat→Prop}{V:Wz→Prop}{n:Nat}:Y6 P l base ak V (T.inner n):=fun _ _ _ _ _ _ _ _ _ _ h=>h.elim
end Lp
namespace Lp
open Go
open Nat (le_of_eq le_trans lt_of_lt_of_le)
variable {P:Program}{D:TypeId→aJ}{T:Know}{l:Option Nat}
def Yt (ys:List (List PV)) (I J:Nat→List Obj→Prop):YT:=fun args objs K=>∃ i,I i objs∧ys[i]?=some args∧(∀ objs',I (i+1) objs'→K true objs')∧∀ objs',J i objs'→K false objs'
def Y7:Act:={ tmps:=#[],defers:=[] }
def Pz (y:Nat) (Y:YT):Know:=⟨fun _ _ _ _=>False,y,Y,false,fun _ _ _=>False,0⟩
def Gives (P:Program) (g:FuncId) (cap:List PV) (ys:List (List PV)):Prop:=
 Enters P g∧
 ∀ (I J:Nat→List Obj→Prop) (base ak:Nat→Prop) (V:Wz→Prop) (y:Nat) (objs:List Obj) (blk:Nat→Option Nat) (w:World) (JN:List Value),
  Y6 P none base ak V (Pz y (Yt ys I J))→(∀ w0,V w0→w0.nx≤objs.length)→qW base ak V ⟨[],objs⟩ blk Y7 w→I 0 objs→(∀ i O,I i O→objs.length≤O.length∧jR O)→(∀ i O,J i O→objs.length≤O.length∧jR O)→dw (dN w (dn base objs blk)) cap JN→
  Calls P g ⟨.func (.yield y) #[] #[]::JN⟩ w fun e w'=>∃ objs' ay,e=.returned (.tuple #[])∧(I ys.length objs'∨∃ i,i<ys.length∧J i objs')∧qW base ak V ⟨[],objs'⟩ ay Y7 w'
def ja (x:Go.Obj):Prop:=(∃ c t y,x=.cells c t y)∨∃ es n,x=.map es n
theorem BJ (ty:TypeId) (c:Array Value):ja (oD ty c):=by
 unfold oD
 split
 · exact .inr ⟨_,_,rfl⟩
 · exact .inl ⟨_,_,_,rfl⟩
section
variable {base ak:Nat→Prop}{w0:Wz}{S:St}{blk:Nat→Option Nat}{a:Act}{w:World}
theorem nM.cells {w w':World}(h:∀ (k:Nat) x,w.heap[k]?=some x→ja x→w'.heap[k]?=some x) (objs:List Obj) (blk:Nat→Option Nat):nM w w' objs objs blk blk:=
 fun _ o ho=>⟨o,ho,Nat.le_refl _,fun hl _=>⟨hl,rfl,rfl,rfl,fun _=>rfl,fun g c _ hc=>⟨c,h g _ hc (.inl ⟨c,_,_,rfl⟩),rfl⟩⟩⟩
theorem dZ.cells {objs:List Obj}{w w':World}{za:Nat→Prop}(R:dZ base ak objs blk w) (hs:w.heap.size≤w'.heap.size) (h:∀ (k:Nat) x,w.heap[k]?=some x→ja x→w'.heap[k]?=some x)
  (hnp:∀ k o g,objs[k]?=some o→o.live=true→blk k=some g→¬ za g):dZ base za objs blk w':=by
 refine ⟨fun k o h1 h4=>?_,R.KZ,hnp⟩
 have hh:=R.ob k o h1 h4
 unfold dm at hh ⊢
 cases hg:blk k with
 | none=>rw [hg] at hh;exact hh
 | some g=>
  rw [hg] at hh
  obtain ⟨c,x1,x2,x3⟩:=hh
  refine ⟨c,h g _ x1 (BJ _ _),x2,fun i x hx=>⟨(x3 i x hx).1,fun j p hp=>?_⟩⟩
  obtain ⟨v,y1,y2⟩:=(x3 i x hx).2 j p hp
  exact ⟨v,y1,y2.sJ hs (fun _ _ h=>h) (fun k x _ hx hcx=>h k x hx (.inl hcx)) (.cells h _ _)⟩
theorem gG {ok:Nat→Prop}{objs:List Obj}{w w':World}{p:PV}{v:Value}(R:aZ w ok objs blk p v) (hs:w.heap.size≤w'.heap.size) (h:∀ (k:Nat) x,w.heap[k]?=some x→ja x→w'.heap[k]?=some x) :
  aZ w' ok objs blk p v:=R.sJ hs (fun _ _ h=>h) (fun k x _ hx hcx=>h k x hx (.inl hcx)) (.cells h _ _)
theorem Vz {ok:Nat→Prop}{objs:List Obj}{p:PV}{v:Value}(h:bS w ok objs blk p v):p.v_ objs.length=true:=by
 cases p <;> simp only [PV.v_,decide_eq_true_eq] <;> (obtain ⟨_,o,ho,_⟩:=h;exact (List.getElem?_eq_some_iff.1 ho).1)
theorem Ga {ok:Nat→Prop}{objs:List Obj}{cs:List PV}{vs:List Value}(h:dw (bS w ok objs blk) cs vs):cs.all (PV.v_ objs.length)=true:=by
 rw [List.all_eq_true]
 intro p hp
 obtain ⟨i,hi,rfl⟩:=List.mem_iff_getElem.1 hp
 exact Vz (h.2 i cs[i] (vs[i]'(by rw [← h.1];exact hi)) (List.getElem?_eq_getElem hi) (List.getElem?_eq_getElem _))
theorem Gb {ok:Nat→Prop}{objs:List Obj}{p:PV}{v:Value}(h:aZ w ok objs blk p v):p.lt objs.length=true:=by
 have hS:bS w ok objs blk p v→p.v_ objs.length=true:=Vz
 cases p
 case fn f a c=>obtain ⟨va,vc,rfl,h1,h2⟩:=h;simp only [PV.lt,Ga h1,Ga h2,Bool.and_self]
 case bP cs=>obtain ⟨vs,rfl,h1⟩:=h;exact Ga h1
 case agg cs=>obtain ⟨vs,rfl,h1⟩:=h;exact Ga h1
 all_goals exact hS h
theorem VA {p:PV}{n:Nat}(h:p.pure=true):p.lt n=true:=by
 have hS:∀ p:PV,(!p.ref)=true→p.v_ n=true:=fun p h=>by cases p <;> first | rfl | (simp [PV.ref] at h)
 cases p <;> simp only [PV.pure,Bool.and_eq_true,List.all_eq_true] at h <;> simp only [PV.lt,Bool.and_eq_true,List.all_eq_true] <;> first
  | rfl
  | exact ⟨fun q hq=>hS q (h.1 q hq),fun q hq=>hS q (h.2 q hq)⟩
  | exact fun q hq=>hS q (h q hq)
  | cases h
def pairs (tm:List PV) (vs:Array Value):List (PV×Value):=tm.zip vs.toList
theorem l7 {tm:List PV}{vs:Array Value}{x:PV×Value}(h:x ∈ pairs tm vs):∃ t:Nat,tm[t]?=some x.1∧vs.getD t undef=x.2:=by
 obtain ⟨i,hi⟩:=List.mem_iff_getElem?.1 h
 rw [pairs,List.getElem?_zip_eq_some] at hi
 refine ⟨i,hi.1,?_⟩
 rw [Array.getD_eq_getD_getElem?,← Array.getElem?_toList,hi.2]
 rfl
theorem nS {tm:List PV}{vs:Array Value}(hl:vs.size=tm.length){t:Nat}{p:PV}(h:tm[t]?=some p):(p,vs.getD t undef) ∈ pairs tm vs:=by
 refine List.mem_iff_getElem?.2 ⟨t,?_⟩
 rw [pairs,List.getElem?_zip_eq_some]
 have hlt:t<vs.size:=by rw [hl];exact (List.getElem?_eq_some_iff.1 h).1
 refine ⟨h,?_⟩
 rw [Array.getD_eq_getD_getElem?,Array.getElem?_toList,Array.getElem?_eq_getElem hlt]
 rfl
theorem HV {R:PV→Value→Prop}(adQ:∀ v,R .dead v):∀ (ps:List Nat) (args:List PV) (vs:List Value) (tm:List PV) (xs:Array Value),args.length=vs.length→xs.size=tm.length→
  (∀ (t:Nat) (p:PV),tm[t]?=some p→R p (xs.getD t undef))→(∀ (i:Nat) (p:PV) (v:Value),args[i]?=some p→vs[i]?=some v→R p v)→
  ((ps.zip vs).foldl (fun t (p,v)=>t.setIfInBounds p v) xs).size=(qX ps args tm).length∧∀ (t:Nat) (p:PV),(qX ps args tm)[t]?=some p→R p (((ps.zip vs).foldl (fun t (p,v)=>t.setIfInBounds p v) xs).getD t undef)
 | [],args,vs,tm,xs,_,hs,h,_=>by cases args <;> exact ⟨hs,h⟩
 | p::ps,[],vs,tm,xs,hl,hs,h,_=>by
  have:vs=[]:=by cases vs <;> simp_all
  subst this
  exact ⟨hs,h⟩
 | p::ps,q::args,[],tm,xs,hl,hs,h,_=>by simp at hl
 | p::ps,q::args,v::vs,tm,xs,hl,hs,h,ha=>by
  simp only [qX,List.zip_cons_cons,List.foldl_cons]
  refine HV adQ ps args vs (tm.set p q) (xs.setIfInBounds p v) (by simpa using hl) (by simpa using hs) (fun t r hr=>?_) (fun i r u h1 h2=>ha (i+1) r u (by simpa using h1) (by simpa using h2))
  rw [qc]
  rw [List.getElem?_set] at hr
  by_cases hpt:p=t
  · subst hpt
    rw [if_pos rfl] at hr
    split at hr
    · cases hr
      rename_i hlt
      rw [if_pos ⟨rfl,by omega⟩]
      exact ha 0 q v rfl rfl
    · cases hr
  · rw [if_neg hpt] at hr
    rw [if_neg (fun e=>hpt e.1)]
    exact h t r hr
theorem jE {w:World}{k:Nat}{o o':Go.Obj}(ho:w.heap[k]?=some o) (hn:¬ ja o):∀ (j:Nat) x,w.heap[j]?=some x→ja x→(w.putObj k o').heap[j]?=some x:=by
 intro j x hx hc
 rw [World.putObj_heap_other (fun e=>hn (by subst e;rw [ho] at hx;cases hx;exact hc))]
 exact hx
def E0 (n:Nat):Env:=fun _ _ V=>∀ w0,V w0→w0.nx≤n
theorem Y8 {f:Operand}{ps:List Nat}{x y:Code}{fz:Option (Nat×Nat)}{g:FuncId}{cap:List PV}{ys:List (List PV)}{I:Nat→List Obj→Prop}
  (hg:Gives P g cap ys) (hys:∀ y ∈ ys,y.length=ps.length) (hI0:I 0 S.objs) (Jv:∀ i objs,I i objs→S.objs.length≤objs.length∧jR objs) (R:Rel base ak w0 S blk a w) (hx:w0.xs=[]) (hf:S.ev f=.fn g [] cap) (hcap:cap.all PV.pure=true) (hfz:JM S.objs.length fz)
  (rZ:∀ i args objs,I i objs→ys[i]?=some args→∀ l0,PW P (some l0) (E0 S.objs.length) x (thenS (fun S1=>PW P (some l0) (E0 S.objs.length) y (SG fz (I (i+1))) S1) (fun _ _=>False)) ⟨qX ps args S.tmps,objs⟩) :
  (Code.rangeFunc f ps.toArray x y).wpIn (F6 none) 0 P (fun e a' w'=>∃ objs' ay,e=.normal∧I ys.length objs'∧Rel base ak w0 ⟨S.tmps,objs'⟩ ay a' w') a w:=by
 refine wpIn_rangeFunc fun fn _=>?_
 have hff:=R.ev f
 rw [hf] at hff
 obtain ⟨va,vc,hv,r1,r2⟩:=hff
 have hva:va=[]:=List.eq_nil_of_length_eq_zero r1.1.symm
 subst hva
 obtain ⟨rec,hrec⟩:∃ rec:LoopState→Loop,rec=fun st=>{ state:=st,pending:=none,fn,tmps:=a.tmps,params:=ps.toArray,assign:=x,body:=y,defers:=w.heap.size }:=⟨_,rfl⟩
 obtain ⟨W1,hW1⟩:∃ W1,(w.alloc (.deferred (some []))).alloc (.loop (rec .ready))=W1:=⟨_,rfl⟩
 have hL1:W1.heap[w.heap.size+1]?=some (.loop (rec .ready)):=by
  rw [← hW1];have:=World.alloc_heap_new (w.alloc (.deferred (some []))) (.loop (rec .ready));rwa [World.size_alloc] at this
 have hK1:W1.heap[w.heap.size]?=some (.deferred (some [])):=by
  rw [← hW1];exact (kY.push (w:=w.alloc (.deferred (some []))) (w':=(w.alloc (.deferred (some []))).alloc (.loop (rec .ready))) rfl).2.1 _ _ (World.alloc_heap_new w _)
 have hs1:W1.heap.size=w.heap.size+2:=by rw [← hW1,World.size_alloc,World.size_alloc]
 have wM:kY w W1:=by
  rw [← hW1]
  exact (kY.push (w':=w.alloc (.deferred (some []))) rfl).trans (kY.push rfl)
 have hnl:∀ k,w.heap.size≤k→bf S.objs blk k:=fun k hk j o h1 h2 h3=>by
  have:=F7 R.objs h1 h2 h3;omega
 obtain ⟨⟨fng,hfn,hname,hbody⟩,hgive⟩:=hg
 refine ⟨w.heap.size+1,[{ target:=.collected w.heap.size,args:=#[] }],W1,{ target:=.fn (.func g) ⟨vc⟩,args:=#[.func (.yield (w.heap.size+1)) #[] #[]] },W1,g,
  ⟨.func (.yield (w.heap.size+1)) #[] #[]::vc⟩,W1,?_,?_,fun _ _=>trivial,?_,(fun h=>by cases h),?_⟩
 · rw [← hW1,hrec];exact run_enterLoop_outer _ _ _ _ _
 · simp only [resolve,hv]
   simp [go_sem]
 · have e1:(#[.func (.yield (w.heap.size+1)) #[] #[]]:Array Value)++Array.mk vc=Array.mk (.func (.yield (w.heap.size+1)) #[] #[]::vc):=by apply Array.ext';simp
   simp only [invoke,callFunc,run_program,Sem.run_bind,Result.andThen_ok,hfn,hname,hbody,Bool.false_eq_true,if_false,Sem.run_pure]
   rw [e1]
 · rw [show (0-1:Nat)=0 from rfl]
   refine callsIn_wide.2 ?_
   obtain ⟨l0,hl0⟩:∃ l0,l0=w.heap.size+1:=⟨_,rfl⟩
   rw [← hl0] at hL1 ⊢
   obtain ⟨jL,hprot2⟩:∃ jL:Nat→Prop,jL=fun b=>b<W1.heap.size∧bf S.objs blk b:=⟨_,rfl⟩
   obtain ⟨V2,hV2⟩:∃ V2:Wz→Prop,V2=fun z=>z=⟨W1.heap,pairs S.tmps a.tmps,S.objs.length,w⟩:=⟨_,rfl⟩
   have PD:jL l0:=by rw [hprot2];exact ⟨by omega,hnl _ (by omega)⟩
   have hpD:jL w.heap.size:=by rw [hprot2];exact ⟨by omega,hnl _ (Nat.le_refl _)⟩
   have hR1:=R.grew wM
   have acS:∀ b,¬ jL b→base b:=by
    intro b hb
    rw [hprot2] at hb
    by_cases h:ak b
    · exact absurd ⟨lt_of_lt_of_le (R.pr b h) (le_trans R.gr (by omega)),fun k o h1 h2 h3=>R.objs.np k o b h1 h2 h3 h⟩ hb
    · exact R.pb b h
   have acT:∀ k o g,S.objs[k]?=some o→o.live=true→blk k=some g→¬ jL g:=by
    intro k o g h1 h2 h3 h4
    rw [hprot2] at h4
    exact h4.2 k o h1 h2 h3
   have hext:∀ x ∈ pairs S.tmps a.tmps,aZ W1 (dn base S.objs blk) S.objs blk x.1 x.2:=by
    intro x hx
    obtain ⟨t,h1,h2⟩:=l7 hx
    rw [← h2]
    exact hR1.tm t x.1 h1
   have WU:∀ b ∈ rU.blocks,b<w.heap.size:=fun b hb=>lt_of_lt_of_le (R.pr b (R.gl.2 b hb)) R.gr
   have PE:∀ b ∈ rU.blocks,jL b:=fun b hb=>by
    rw [hprot2];exact ⟨by have:=WU b hb;omega,fun k o h1 h2 h3=>R.objs.np k o b h1 h2 h3 (R.gl.2 b hb)⟩
   have acU:Rel base jL ⟨W1.heap,pairs S.tmps a.tmps,S.objs.length,w⟩ ⟨[],S.objs⟩ blk Y7 W1:=by
    refine ⟨.nil _ _,rfl,fun t p hp=>by simp at hp,⟨hR1.objs.ob,R.objs.KZ,acT⟩,fun b hb=>by rw [hprot2] at hb;exact hb.1,fun _ _=>rfl,Nat.le_refl _,acS,hext,fun x hx=>Gb (hext x hx),wM.2.2,⟨hR1.nL,PE⟩⟩
   have hcapR:dw (dN W1 (dn base S.objs blk)) cap vc:=by
    refine ⟨r2.1,fun i p v hp hv=>?_⟩
    have hpp:=List.all_eq_true.1 hcap p (List.mem_of_getElem? hp)
    have h1:aZ w (dn base S.objs blk) S.objs blk p v:=.kL (r2.2 i p v hp hv)
    exact (h1.zJ hpp).mono wM.1 (fun _ _ h=>h) (fun b x _ h=>wM.2.1 b x h)
   have acV:Y6 P none base jL V2 (Pz l0 (Yt ys I fun _ _=>False)):=by
    rintro S2 iP a2 w2 args vs K ⟨z,hz,R2⟩ hpt hargs ⟨i,hIi,hyi,hK,_⟩
    rw [hV2] at hz
    subst hz
    have hL2:w2.heap[l0]?=some (.loop (rec .ready)):=(R2.fr l0 PD).trans hL1
    have hlen:args.length=ps.length:=hys args (List.mem_of_getElem? hyi)
    refine ⟨rec .ready,hL2,by rw [hrec];simp [← hargs.1,hlen],?_⟩
    rw [show (Pz l0 (Yt ys I fun _ _=>False)).y=l0 from rfl]
    refine roundIn_of_wpIn trivial ?_
    have hlt2:l0<w2.heap.size:=(Array.getElem?_eq_some_iff.1 hL2).1
    obtain ⟨gm,hprot3⟩:∃ gm:Nat→Prop,gm=fun b=>b<w2.heap.size∧bf S2.objs iP b:=⟨_,rfl⟩
    obtain ⟨HY,hxs3⟩:∃ HY,HY=pairs S.tmps a.tmps++pairs S2.tmps a2.tmps:=⟨_,rfl⟩
    have h23:∀ b,jL b→gm b:=by
     intro b hb
     rw [hprot3]
     exact ⟨lt_of_lt_of_le (R2.pr b hb) R2.gr,fun k o h1 h2 h3=>R2.objs.np k o b h1 h2 h3 hb⟩
    have Y9:∀ b,¬ gm b→base b:=fun b hb=>R2.pb b fun h=>hb (h23 b h)
    have acW:∀ k o g,S2.objs[k]?=some o→o.live=true→iP k=some g→¬ gm g:=by
     intro k o g h1 h2 h3 h4
     rw [hprot3] at h4
     exact h4.2 k o h1 h2 h3
    have Y_:∀ x ∈ HY,aZ w2 (dn base S2.objs iP) S2.objs iP x.1 x.2:=by
     intro x hx
     rw [hxs3] at hx
     rcases List.mem_append.1 hx with hx | hx
     · exact R2.ext x hx
     · obtain ⟨t,h1,h2⟩:=l7 hx
       rw [← h2]
       exact R2.tm t x.1 h1
    have Za:∀ x ∈ HY,x.1.lt S.objs.length=true:=by
     intro x hx
     rw [hxs3] at hx
     rcases List.mem_append.1 hx with hx | hx
     · exact R2.K4 x hx
     · obtain ⟨t,h1,_⟩:=l7 hx
       exact VA (List.all_eq_true.1 hpt x.1 (List.mem_of_getElem? h1))
    obtain ⟨tm0,htm0⟩:∃ tm0,tm0=(((rec .ready).params.zip (⟨vs⟩:Array Value)).foldl (fun t (p,v)=>t.setIfInBounds p v) (rec .ready).tmps):=⟨_,rfl⟩
    rw [← htm0]
    have PG:tm0=(ps.zip vs).foldl (fun t (p,v)=>t.setIfInBounds p v) a.tmps:=by
     rw [htm0,hrec]
     simp only []
     rw [← Array.foldl_toList]
     simp
    have hset:=HV (R:=aZ w2 (dn base S2.objs iP) S2.objs iP) (fun v=>.dead v) ps args vs S.tmps a.tmps hargs.1 R.Dz
     (fun t p hp=>R2.ext (p,a.tmps.getD t undef) (nS R.Dz hp)) (fun i p v h1 h2=>.aL (hargs.2 i p v h1 h2))
    have Rr:Rel base gm ⟨w2.heap,HY,S.objs.length,w⟩ ⟨qX ps args S.tmps,S2.objs⟩ iP { tmps:=tm0,defers:=[] } w2:=by
     refine ⟨.nil _ _,by rw [PG];exact hset.1,fun t p hp=>by rw [PG];exact hset.2 t p hp,⟨R2.objs.ob,R2.objs.KZ,acW⟩,fun b hb=>by rw [hprot3] at hb;exact hb.1,fun _ _=>rfl,Nat.le_refl _,Y9,Y_,Za,R2.sm,⟨R2.nL,fun b hb=>h23 b (PE b hb)⟩⟩
    have MJ:=rZ i args S2.objs hIi hyi l0 base gm (fun z=>z=⟨w2.heap,HY,S.objs.length,w⟩) (by rintro z rfl;exact Nat.le_refl _) iP _ w2 ⟨_,rfl,Rr⟩
    rw [show (rec .ready).assign=x by rw [hrec],show (rec .ready).body=y by rw [hrec]]
    change x.wpIn (F6 (some l0)) 0 P _ _ _
    refine wpIn_mono MJ ?_
    rintro e a3 w3 ⟨S3,Zb,he,z,rfl,R3⟩
    cases e with
    | normal=>
     have hp3:gm l0:=h23 l0 PD
     have hL3:w3.heap[l0]?=some (.loop (rec .ready)):=(R3.fr l0 hp3).trans hL2
     refine ⟨_,run_beginRound hL3 (by rw [hrec]),?_⟩
     have Zc:({ rec .ready with state:=.busy }:Loop)=rec .busy:=by rw [hrec]
     rw [Zc]
     obtain ⟨w4,hw4⟩:∃ w4,w4=w3.putObj l0 (.loop (rec .busy)):=⟨_,rfl⟩
     rw [← hw4]
     have hnc:∀ st,¬ ja (.loop (rec st)):=by rintro st (⟨c,t,y,h⟩ | ⟨es,n,h⟩) <;> cases h
     have SK:∀ (k:Nat) x,w3.heap[k]?=some x→ja x→w4.heap[k]?=some x:=by rw [hw4];exact jE hL3 (hnc _)
     have hs4:w4.heap.size=w3.heap.size:=by rw [hw4];exact World.putObj_size
     have ho4:∀ k:Nat,k≠l0→w4.heap[k]?=w3.heap[k]?:=fun k hk=>by rw [hw4];exact World.putObj_heap_other hk
     have acX:l0<w3.heap.size:=(Array.getElem?_eq_some_iff.1 hL3).1
     have hL4:w4.heap[l0]?=some (.loop (rec .busy)):=by rw [hw4];exact World.putObj_heap_same acX
     have acY:∀ b,gm b→b<w2.heap.size:=fun b hb=>by rw [hprot3] at hb;exact hb.1
     have aeX:w2.heap.size≤w3.heap.size:=R3.gr
     have R4:Rel base gm ⟨w4.heap,HY,S.objs.length,w⟩ S3 Zb a3 w4:=by
      refine ⟨?_,R3.Dz,fun t p hp=>gG (R3.tm t p hp) (le_of_eq hs4.symm) SK,R3.objs.cells (le_of_eq hs4.symm) SK R3.objs.np,fun b hb=>?_,fun _ _=>rfl,Nat.le_refl _,Y9,fun x hx=>gG (R3.ext x hx) (le_of_eq hs4.symm) SK,R3.K4,R3.sm.trans (by rw [hw4];exact ⟨rfl,rfl⟩),⟨rU.keep (fun b hb=>ho4 b (by have:=WU b hb;omega)) R3.nL,fun b hb=>h23 b (PE b hb)⟩⟩
      · obtain ⟨Ds,h1,h2,h3⟩:=R3.oG
        refine ⟨Ds,h1,h2,fun b hb=>?_⟩
        rw [ho4 b (fun e=>(h3 b hb).2.2 (e ▸ hp3))]
        exact h3 b hb
      · have:=acY b hb;show b<w4.heap.size;omega
     have hbody:=he base gm (fun z=>z=⟨w4.heap,HY,S.objs.length,w⟩) (by rintro z rfl;exact Nat.le_refl _) Zb a3 w4 ⟨_,rfl,R4⟩
     refine wpIn_mono hbody ?_
     rintro e a5 w5 ⟨S5,blk5,he5,z,rfl,R5⟩
     cases e with
     | normal=>
      have hL5:w5.heap[l0]?=some (.loop (rec .busy)):=(R5.fr l0 hp3).trans hL4
      refine ⟨_,_,run_endRound none hL5,?_⟩
      have SL:({ rec .busy with state:=if (none:Option Code).isNone then .ready else .done,pending:=none }:Loop)=rec .ready:=by rw [hrec];rfl
      rw [SL]
      obtain ⟨w6,hw6⟩:∃ w6,w6=w5.putObj l0 (.loop (rec .ready)):=⟨_,rfl⟩
      rw [← hw6]
      obtain ⟨HZ,R6⟩:=Weak.norm (m:=S.objs.length) [] fz hfz S5 base gm _ blk5 a5 w5 (Nat.le_refl _) R5
      have H6:∀ (k:Nat) x,w5.heap[k]?=some x→ja x→w6.heap[k]?=some x:=by rw [hw6];exact jE hL5 (hnc _)
      have hs6:w6.heap.size=w5.heap.size:=by rw [hw6];exact World.putObj_size
      have ho6:∀ k:Nat,k≠l0→w6.heap[k]?=w5.heap[k]?:=fun k hk=>by rw [hw6];exact World.putObj_heap_other hk
      have hl5:l0<w5.heap.size:=(Array.getElem?_eq_some_iff.1 hL5).1
      have adR:w4.heap.size≤w5.heap.size:=R5.gr
      have hall:∀ b,gm b→w6.heap[b]?=w2.heap[b]?:=by
       intro b hb
       by_cases hbl:b=l0
       · subst hbl
         rw [hL2,hw6,World.putObj_heap_same hl5]
       · rw [ho6 b hbl,R5.fr b hb]
         show w4.heap[b]?=_
         rw [ho4 b hbl]
         exact R3.fr b hb
      have Zd:∀ b,gm b→bf (S5.norm [] fz).objs HZ b:=fun b hb k o h1 h2 h3=>R6.objs.np k o b h1 h2 h3 hb
      refine ⟨true,(S5.norm [] fz).objs,HZ,rfl,hK _ he5,⟨W1.heap,pairs S.tmps a.tmps,S.objs.length,w⟩,by rw [hV2],?_⟩
      have Ze:∀ x ∈ pairs S.tmps a.tmps,x ∈ HY:=fun x hx=>by rw [hxs3];exact List.mem_append_left _ hx
      have Zf:∀ x ∈ pairs S2.tmps a2.tmps,x ∈ HY:=fun x hx=>by rw [hxs3];exact List.mem_append_right _ hx
      refine ⟨?_,R2.Dz,fun t p hp=>?_,R6.objs.cells (le_of_eq hs6.symm) H6 (fun k o g h1 h2 h3 h4=>R6.objs.np k o g h1 h2 h3 (h23 g h4)),R2.pr,fun b hb=>?_,?_,R2.pb,fun x hx=>gG (R6.ext x (Ze x hx)) (le_of_eq hs6.symm) H6,R2.K4,R6.sm.trans (by rw [hw6];exact ⟨rfl,rfl⟩),R2.gl⟩
      · obtain ⟨Ds,h1,h2,h3⟩:=R2.oG
        refine ⟨Ds,h1,h2,fun b hb=>?_⟩
        obtain ⟨q1,q2,q3⟩:=h3 b hb
        have hb3:gm b:=by rw [hprot3];exact ⟨(Array.getElem?_eq_some_iff.1 q1).1,q2.2⟩
        exact ⟨by rw [hall b hb3];exact q1,⟨q2.1,Zd b hb3⟩,q3⟩
      · exact gG (R6.ext (p,a2.tmps.getD t undef) (Zf _ (nS R2.Dz hp))) (le_of_eq hs6.symm) H6
      · rw [hall b (h23 b hb)];exact R2.fr b hb
      · have:=R2.gr;show W1.heap.size≤w6.heap.size;simp only at this;omega
     | _=>exact he5.elim
    | _=>exact he.elim
   refine Calls.mono (hgive I (fun _ _=>False) base jL V2 l0 S.objs blk W1 vc acV (fun z hz=>by rw [hV2] at hz;rw [hz];exact Nat.le_refl _) ⟨_,by rw [hV2],acU⟩ hI0 Jv (fun _ _ h=>h.elim) hcapR) ?_
   rintro e w3 ⟨objs',ay,rfl,hIJ,z,hz,R3⟩
   have hI:I ys.length objs':=hIJ.resolve_right fun ⟨_,_,h⟩=>h
   rw [hV2] at hz
   subst hz
   have hL3:w3.heap[l0]?=some (.loop (rec .ready)):=(R3.fr l0 PD).trans hL1
   have hD3:w3.heap[w.heap.size]?=some (.deferred (some [])):=(R3.fr _ hpD).trans hK1
   have hnc:¬ ja (.loop (rec .ready)):=by rintro (⟨c,t,y,h⟩ | ⟨es,n,h⟩) <;> cases h
   have hend:=run_endLoop (P:=P) hL3 (by rw [hrec];simp)
   refine ⟨none,w3.putObj l0 (.loop { rec .ready with state:=.exhausted }),by rw [hend,hrec],?_⟩
   simp only []
   have hcl:=jE (o':=.loop { rec .ready with state:=.exhausted }) hL3 hnc
   have hsz:(w3.putObj l0 (.loop { rec .ready with state:=.exhausted })).heap.size=w3.heap.size:=World.putObj_size
   have hle:w.heap.size≤w3.heap.size:=by have:=R3.gr;simp only at this;omega
   have hother:∀ k:Nat,k≠l0→(w3.putObj l0 (.loop { rec .ready with state:=.exhausted })).heap[k]?=w3.heap[k]?:=fun k hk=>World.putObj_heap_other hk
   have hkeep:∀ b,b<w.heap.size→bf S.objs blk b→bf objs' ay b:=by
    intro b hb hnb k o h1 h2 h3
    refine R3.objs.np k o b h1 h2 h3 ?_
    rw [hprot2];exact ⟨by omega,hnb⟩
   have hsame:∀ b,b<w.heap.size→bf S.objs blk b→(w3.putObj l0 (.loop { rec .ready with state:=.exhausted })).heap[b]?=w.heap[b]?:=by
    intro b hb hnb
    rw [hother b (by omega),R3.fr b (by rw [hprot2];exact ⟨by omega,hnb⟩)]
    have hbx:w.heap[b]?=some (w.heap[b]):=Array.getElem?_eq_getElem hb
    rw [wM.2.1 b _ hbx,hbx]
   have hpn:∀ b,ak b→b<w.heap.size∧bf S.objs blk b:=fun b hb=>⟨lt_of_lt_of_le (R.pr b hb) R.gr,fun k o h1 h2 h3=>R.objs.np k o b h1 h2 h3 hb⟩
   have acZ:∀ k o g,objs'[k]?=some o→o.live=true→ay k=some g→¬ ak g:=fun k o g h1 h2 h3 h4=>hkeep g (hpn g h4).1 (hpn g h4).2 k o h1 h2 h3
   refine ⟨objs',ay,trivial,hI,?_,R.Dz,fun t p hp=>?_,R3.objs.cells (le_of_eq hsz.symm) hcl acZ,R.pr,fun b hb=>?_,le_trans R.gr (by rw [hsz];exact hle),R.pb,(by rw [hx];intro x h;simp at h),R.K4,(R.sm.trans R3.sm).trans ⟨rfl,rfl⟩,R.gl⟩
   · obtain ⟨Ds,h1,h2,h3⟩:=R.oG
     refine ⟨w.heap.size::Ds,by simp [h1],List.nodup_cons.2 ⟨fun hm=>?_,h2⟩,fun b hb=>?_⟩
     · have:=(Array.getElem?_eq_some_iff.1 (h3 _ hm).1).1;omega
     · rcases List.mem_cons.1 hb with rfl | hb
       · refine ⟨by rw [hother _ (by omega)];exact hD3,⟨R.bs _ R.gr,fun k o h1 h2 h3=>R3.objs.np k o _ h1 h2 h3 hpD⟩,fun hp=>by have:=(hpn _ hp).1;omega⟩
       · obtain ⟨q1,q2,q3⟩:=h3 b hb
         have hbs:=(Array.getElem?_eq_some_iff.1 q1).1
         exact ⟨by rw [hsame b hbs q2.2];exact q1,⟨q2.1,hkeep b hbs q2.2⟩,q3⟩
   · exact gG (R3.ext (p,a.tmps.getD t undef) (nS R.Dz hp)) (le_of_eq hsz.symm) hcl
   · rw [hsame b (hpn b hb).1 (hpn b hb).2];exact R.fr b hb
theorem Lg (k:Nat) (O:List Obj):(iK k O).length=O.length:=by simp [iK]
theorem pX {k j:Nat}{O:List Obj}(h1:j≠k) (h2:j≠k+1):(iK k O)[j]?=O[j]?:=by
 unfold iK
 rw [List.getElem?_set,if_neg (fun e=>h2 e.symm),List.getElem?_set,if_neg (fun e=>h1 e.symm)]
theorem Gc {k:Nat}{O:List Obj}(h:k+1<O.length):(iK k O)[k]?=some hole:=by
 unfold iK
 rw [List.getElem?_set,if_neg (by omega),List.getElem?_set];simp;omega
theorem MK {k:Nat}{O:List Obj}(h:k+1<O.length):(iK k O)[k+1]?=some Dq:=by
 unfold iK
 rw [List.getElem?_set];simp;omega
def lG (k:Nat) (blk:Nat→Option Nat):Nat→Option Nat:=fun j=>if j=k+1 then none else blk j
theorem uP {k b:Nat}{O:List Obj}{bl:Nat→Option Nat}(hk:k+1<O.length) (h:bf O bl b):bf (iK k O) (lG k bl) b:=by
 intro j o h1 h2 h3
 by_cases e2:j=k+1
 · subst e2;simp [lG] at h3
 · by_cases e1:j=k
   · subst e1;rw [Gc hk] at h1;cases h1;cases h2
   · rw [pX e1 e2] at h1
     refine h j o h1 h2 ?_
     simpa [lG,e2] using h3
theorem sS {k:Nat}{O:List Obj}{bl:Nat→Option Nat}{p:PV}{v:Value}{ok ok':Nat→Prop}(hp:p.v_ k=true) (hok:∀ b,ok b→ok' b) (h:bS w ok O bl p v):bS w ok' (iK k O) (lG k bl) p v:=by
 have hm:∀ q:PV,dN w ok q v→dN w ok' q v:=fun q hq=>hq.mono (Nat.le_refl _) (fun b _ h=>hok b h) (fun _ _ _ h=>h)
 cases p with
 | bA j ver=>
  have hj:j<k:=by simpa [PV.v_] using hp
  obtain ⟨h0,o,h1,h2,h3⟩:=h
  refine ⟨h0,o,by rw [pX (by omega) (by omega)];exact h1,h2,fun e1 e2=>?_⟩
  obtain ⟨hM,hh⟩:=h3 e1 e2
  refine ⟨hM,?_⟩
  unfold Bq at hh ⊢
  rw [show lG k bl j=bl j by simp [lG];omega]
  exact hh
 | bR j ver i f=>
  have hj:j<k:=by simpa [PV.v_] using hp
  obtain ⟨h0,o,h1,h2,h3⟩:=h
  refine ⟨h0,o,by rw [pX (by omega) (by omega)];exact h1,h2,fun e1 e2=>?_⟩
  rw [show lG k bl j=bl j by simp [lG];omega]
  exact h3 e1 e2
 | uw j ver=>
  have hj:j<k:=by simpa [PV.v_] using hp
  obtain ⟨h0,o,h1,h2,h3⟩:=h
  refine ⟨h0,o,by rw [pX (by omega) (by omega)];exact h1,h2,fun e1 e2=>?_⟩
  rw [show lG k bl j=bl j by simp [lG];omega]
  exact h3 e1 e2
 | _=>exact hm _ h
theorem WV {k:Nat}{O:List Obj}{bl:Nat→Option Nat}{p:PV}{v:Value}{ok ok':Nat→Prop}(hp:p.lt k=true) (hok:∀ b,ok b→ok' b) (h:aZ w ok O bl p v):aZ w ok' (iK k O) (lG k bl) p v:=by
 have hl:∀ (cs:List PV) (vs:List Value),cs.all (PV.v_ k)=true→dw (bS w ok O bl) cs vs→dw (bS w ok' (iK k O) (lG k bl)) cs vs:=
  fun cs vs hc h=>⟨h.1,fun i p u h1 h2=>sS (List.all_eq_true.1 hc p (List.mem_of_getElem? h1)) hok (h.2 i p u h1 h2)⟩
 cases p with
 | fn f a c=>
  simp only [PV.lt,Bool.and_eq_true] at hp
  obtain ⟨va,vc,rfl,h1,h2⟩:=h
  exact ⟨va,vc,rfl,hl _ _ hp.1 h1,hl _ _ hp.2 h2⟩
 | bP cs=>obtain ⟨us,rfl,h1⟩:=h;exact ⟨us,rfl,hl _ _ hp h1⟩
 | agg cs=>obtain ⟨us,rfl,h1⟩:=h;exact ⟨us,rfl,hl _ _ hp h1⟩
 | bA j ver=>exact sS (p:=.bA j ver) hp hok h
 | bR j ver i f=>exact sS (w:=w) (p:=.bR j ver i f) hp hok h
 | uw j ver=>exact sS (w:=w) (p:=.uw j ver) hp hok h
 | _=>exact .kL (sS rfl hok (by exact h))
theorem WW {k:Nat}{O:List Obj}{bl:Nat→Option Nat}{za:Nat→Prop}(R:dZ base za O bl w) (hk:k+1<O.length) (hn:fB O) (hA:O[k]?=some Dq) :
  dZ base za (iK k O) (lG k bl) w:=by
 have hok:∀ b,dn base O bl b→dn base (iK k O) (lG k bl) b:=fun b h=>⟨h.1,uP hk h.2⟩
 have get:∀ (j:Nat) (o:Obj),(iK k O)[j]?=some o→o.live=true→(j=k+1∧o=Dq)∨(j≠k∧j≠k+1∧O[j]?=some o∧lG k bl j=bl j):=by
  intro j o h1 h2
  by_cases e2:j=k+1
  · subst e2;rw [MK hk] at h1;cases h1;exact .inl ⟨rfl,rfl⟩
  · by_cases e1:j=k
    · subst e1;rw [Gc hk] at h1;cases h1;cases h2
    · rw [pX e1 e2] at h1;exact .inr ⟨e1,e2,h1,by simp [lG,e2]⟩
 have hB:lG k bl (k+1)=none:=by simp [lG]
 refine ⟨fun j o h1 h2=>?_,fun j j' o o' g hne h1 h2 h3 h4 h5 h6=>?_,fun j o g h1 h2 h3=>?_⟩
 · rcases get j o h1 h2 with ⟨rfl,rfl⟩ | ⟨e1,e2,h1',hb⟩
   · unfold dm;rw [hB];rfl
   · have hh:=R.ob j o h1' h2
     unfold dm at hh ⊢
     rw [hb]
     cases hbj:bl j with
     | none=>rw [hbj] at hh;exact hh
     | some g=>
      rw [hbj] at hh
      obtain ⟨c,x1,x2,x3⟩:=hh
      refine ⟨c,x1,x2,fun i x hx=>⟨(x3 i x hx).1,fun q p hp=>?_⟩⟩
      obtain ⟨u,y1,y2⟩:=(x3 i x hx).2 q p hp
      exact ⟨u,y1,.aL ((y2.zJ (hn o (List.mem_of_getElem? h1') x (List.mem_of_getElem? hx) p (List.mem_of_getElem? hp))).oV fun b _ hb=>hok b hb)⟩
 · rcases get j o h1 h2 with ⟨rfl,rfl⟩ | ⟨_,_,h1',hb⟩
   · rw [hB] at h5;cases h5
   · rcases get j' o' h3 h4 with ⟨rfl,rfl⟩ | ⟨_,_,h3',hb'⟩
     · rw [hB] at h6;cases h6
     · rw [hb] at h5;rw [hb'] at h6
       exact R.KZ j j' o o' g hne h1' h2 h3' h4 h5 h6
 · rcases get j o h1 h2 with ⟨rfl,rfl⟩ | ⟨_,_,h1',hb⟩
   · rw [hB] at h3;cases h3
   · rw [hb] at h3;exact R.np j o g h1' h2 h3
theorem WX {f:Operand}{ps:List Nat}{x y:Code}{fz:Option (Nat×Nat)}{g:FuncId}{cap:List PV}{ys:List (List PV)}{I J:Nat→List Obj→Prop}{lv:Exit}{lc:Code}
  (hg:Gives P g cap ys) (hys:∀ y ∈ ys,y.length=ps.length) (hlv:Hw lv=some lc) (hI0:I 0 (S.objs++[Dq,hole])) (Jv:∀ i objs,I i objs→Gh S.objs.length objs) (Yu:∀ i objs,J i objs→Gh S.objs.length objs∧fB objs) (R:Rel base ak w0 S blk a w) (hx:w0.xs=[]) (hf:S.ev f=.fn g [] cap) (hcap:cap.all PV.pure=true) (hfz:JM (S.objs.length+2) fz)
  (rZ:∀ i args objs,I i objs→ys[i]?=some args→∀ l0,PW P (some l0) (E0 (S.objs.length+2)) x (thenS (fun S1=>PW P (some l0) (E0 (S.objs.length+2)) y (MI fz (I (i+1)) lv (J i)) S1) (fun _ _=>False)) ⟨qX ps args S.tmps,objs⟩) :
  (Code.rangeFunc f ps.toArray x y).wpIn (F6 none) 0 P (fun e a' w'=>∃ objs' ay,((e=.normal∧I ys.length objs')∨(e=lv∧∃ i O,i<ys.length∧J i O∧objs'=iK S.objs.length O))∧Rel base ak w0 ⟨S.tmps,objs'⟩ ay a' w') a w:=by
 refine wpIn_rangeFunc fun fn _=>?_
 have ac0:∀ t:Nat,∀ p,S.tmps[t]?=some p→p.lt S.objs.length=true:=fun t p hp=>Gb (R.tm t p hp)
 obtain ⟨k,hk⟩:∃ k,k=S.objs.length:=⟨_,rfl⟩
 have hff:=R.ev f
 rw [hf] at hff
 obtain ⟨va,vc,hv,r1,r2⟩:=hff
 have hva:va=[]:=List.eq_nil_of_length_eq_zero r1.1.symm
 subst hva
 obtain ⟨vW,RG,adS⟩:∃ vW,Rel base ak w0 ⟨S.tmps,S.objs++[Dq,hole]⟩ vW a w∧∀ b,bf S.objs blk b→bf (S.objs++[Dq,hole]) vW b:=by
  have g1:=R.DI (o1:=Dq) (gb:=none) (kY.refl w) (fun g hg=>by cases hg) fun _=>by
   unfold dm aK;rw [if_pos rfl];rfl
  have g2:=g1.DI (o1:=hole) (gb:=none) (kY.refl w) (fun g hg=>by cases hg) fun _=>by
   unfold dm aK;rw [if_pos rfl];rfl
  have e1:(S.objs++[Dq]).length=S.objs.length+1:=by simp
  have e2:S.objs++[Dq]++[hole]=S.objs++[Dq,hole]:=by simp
  simp only [e1,e2] at g2
  refine ⟨_,g2,fun b hn j o h1 h2 h3=>?_⟩
  have hj:j<S.objs.length+2:=by have:=(List.getElem?_eq_some_iff.1 h1).1;simpa using this
  unfold aK at h3
  split at h3
  · cases h3
  · split at h3
    · cases h3
    · rw [List.getElem?_append_left (by omega)] at h1
      exact hn j o h1 h2 h3
 have hAg:(S.objs++[Dq,hole])[S.objs.length]?=some Dq:=by simp
 have hBg:(S.objs++[Dq,hole])[S.objs.length+1]?=some hole:=by simp
 have hGl:(S.objs++[Dq,hole]).length=S.objs.length+2:=by simp
 obtain ⟨S',hS'⟩:∃ S':St,S'=⟨S.tmps,S.objs++[Dq,hole]⟩:=⟨_,rfl⟩
 have hSt:S'.tmps=S.tmps:=by rw [hS']
 have hSo:S'.objs=S.objs++[Dq,hole]:=by rw [hS']
 rw [← hS'] at RG
 rw [← hSo] at hAg hBg hGl hI0 adS
 rw [← hk] at hAg hBg hGl hfz rZ Jv Yu ac0 ⊢
 obtain ⟨rec,hrec⟩:∃ rec:LoopState→Option Code→Loop,rec=fun st pe=>{ state:=st,pending:=pe,fn,tmps:=a.tmps,params:=ps.toArray,assign:=x,body:=y,defers:=w.heap.size }:=⟨_,rfl⟩
 obtain ⟨W1,hW1⟩:∃ W1,(w.alloc (.deferred (some []))).alloc (.loop (rec .ready none))=W1:=⟨_,rfl⟩
 have hL1:W1.heap[w.heap.size+1]?=some (.loop (rec .ready none)):=by
  rw [← hW1];have:=World.alloc_heap_new (w.alloc (.deferred (some []))) (.loop (rec .ready none));rwa [World.size_alloc] at this
 have hK1:W1.heap[w.heap.size]?=some (.deferred (some [])):=by
  rw [← hW1];exact (kY.push (w:=w.alloc (.deferred (some []))) (w':=(w.alloc (.deferred (some []))).alloc (.loop (rec .ready none))) rfl).2.1 _ _ (World.alloc_heap_new w _)
 have hs1:W1.heap.size=w.heap.size+2:=by rw [← hW1,World.size_alloc,World.size_alloc]
 have wM:kY w W1:=by
  rw [← hW1]
  exact (kY.push (w':=w.alloc (.deferred (some []))) rfl).trans (kY.push rfl)
 have hnl:∀ k,w.heap.size≤k→bf S'.objs vW k:=fun k hk j o h1 h2 h3=>by
  have:=F7 RG.objs h1 h2 h3;omega
 obtain ⟨⟨fng,hfn,hname,hbody⟩,hgive⟩:=hg
 refine ⟨w.heap.size+1,[{ target:=.collected w.heap.size,args:=#[] }],W1,{ target:=.fn (.func g) ⟨vc⟩,args:=#[.func (.yield (w.heap.size+1)) #[] #[]] },W1,g,
  ⟨.func (.yield (w.heap.size+1)) #[] #[]::vc⟩,W1,?_,?_,fun _ _=>trivial,?_,(fun h=>by cases h),?_⟩
 · rw [← hW1,hrec];exact run_enterLoop_outer _ _ _ _ _
 · simp only [resolve,hv]
   simp [go_sem]
 · have e1:(#[.func (.yield (w.heap.size+1)) #[] #[]]:Array Value)++Array.mk vc=Array.mk (.func (.yield (w.heap.size+1)) #[] #[]::vc):=by apply Array.ext';simp
   simp only [invoke,callFunc,run_program,Sem.run_bind,Result.andThen_ok,hfn,hname,hbody,Bool.false_eq_true,if_false,Sem.run_pure]
   rw [e1]
 · rw [show (0-1:Nat)=0 from rfl]
   refine callsIn_wide.2 ?_
   obtain ⟨l0,hl0⟩:∃ l0,l0=w.heap.size+1:=⟨_,rfl⟩
   rw [← hl0] at hL1 ⊢
   obtain ⟨jL,hprot2⟩:∃ jL:Nat→Prop,jL=fun b=>b<W1.heap.size∧bf S'.objs vW b:=⟨_,rfl⟩
   obtain ⟨z0,hz0⟩:∃ z0:Wz,z0=⟨W1.heap,(.bA (k+1) 0,.bool false)::pairs S'.tmps a.tmps,S'.objs.length,w⟩:=⟨_,rfl⟩
   obtain ⟨z1,hz1⟩:∃ z1:Wz,z1=⟨(W1.putObj l0 (.loop (rec .done (some lc)))).heap,(.bA k 0,.bool false)::pairs S'.tmps a.tmps,S'.objs.length,w⟩:=⟨_,rfl⟩
   obtain ⟨V2,hV2⟩:∃ V2:Wz→Prop,V2=fun z=>z=z0∨z=z1:=⟨_,rfl⟩
   have ghost:∀ {ww:World}{ok:Nat→Prop}{O:List Obj}{bl:Nat→Option Nat}{j:Nat},aZ ww ok O bl (.bA j 0) (.bool false)→O[j]?=some Dq→False:=by
    intro ww ok O bl j h h1
    have:=h.bA h1 rfl rfl
    unfold Bq at this
    split at this
    · cases this.1
    · obtain ⟨_,_,h,_⟩:=this;cases h
   have abS:∀ {ww:World}{ok:Nat→Prop}{O:List Obj}{bl:Nat→Option Nat}{j:Nat},O[j]?=some hole→aZ ww ok O bl (.bA j 0) (.bool false):=
    fun h=>⟨rfl,_,h,Nat.le_refl _,fun hl=>by cases hl⟩
   have PD:jL l0:=by rw [hprot2];exact ⟨by omega,hnl _ (by omega)⟩
   have hpD:jL w.heap.size:=by rw [hprot2];exact ⟨by omega,hnl _ (Nat.le_refl _)⟩
   have hR1:=RG.grew wM
   have acS:∀ b,¬ jL b→base b:=by
    intro b hb
    rw [hprot2] at hb
    by_cases h:ak b
    · exact absurd ⟨lt_of_lt_of_le (RG.pr b h) (le_trans RG.gr (by omega)),fun k o h1 h2 h3=>RG.objs.np k o b h1 h2 h3 h⟩ hb
    · exact RG.pb b h
   have acT:∀ k o g,S'.objs[k]?=some o→o.live=true→vW k=some g→¬ jL g:=by
    intro k o g h1 h2 h3 h4
    rw [hprot2] at h4
    exact h4.2 k o h1 h2 h3
   have hext:∀ x ∈ pairs S'.tmps a.tmps,aZ W1 (dn base S'.objs vW) S'.objs vW x.1 x.2:=by
    intro x hx
    obtain ⟨t,h1,h2⟩:=l7 hx
    rw [← h2]
    exact hR1.tm t x.1 h1
   have abT:∀ x ∈ z0.xs,aZ W1 (dn base S'.objs vW) S'.objs vW x.1 x.2:=by
    intro x hx
    rw [hz0] at hx
    rcases List.mem_cons.1 hx with rfl | hx
    · exact abS hBg
    · exact hext x hx
   have WU:∀ b ∈ rU.blocks,b<w.heap.size:=fun b hb=>lt_of_lt_of_le (R.pr b (R.gl.2 b hb)) R.gr
   have PE:∀ b ∈ rU.blocks,jL b:=fun b hb=>by
    rw [hprot2];exact ⟨by have:=WU b hb;omega,fun k o h1 h2 h3=>RG.objs.np k o b h1 h2 h3 (R.gl.2 b hb)⟩
   have acU:Rel base jL z0 ⟨[],S'.objs⟩ vW Y7 W1:=by
    refine ⟨.nil _ _,rfl,fun t p hp=>by simp at hp,⟨hR1.objs.ob,RG.objs.KZ,acT⟩,fun b hb=>by rw [hprot2] at hb;rw [hz0];exact hb.1,fun _ _=>by rw [hz0],by rw [hz0];exact Nat.le_refl _,acS,abT,fun x hx=>?_,by rw [hz0];exact wM.2.2,by rw [hz0];exact ⟨hR1.nL,PE⟩⟩
    have:=Gb (abT x hx)
    rw [hz0];exact this
   have aeY:∀ b,b<w.heap.size→dn base S.objs blk b→dn base S'.objs vW b:=by
    intro b _ h
    refine ⟨h.1,fun j o h1 h2 h3=>?_⟩
    exact adS b h.2 j o h1 h2 h3
   have hcapR:dw (dN W1 (dn base S'.objs vW)) cap vc:=by
    refine ⟨r2.1,fun i p v hp hv=>?_⟩
    have hpp:=List.all_eq_true.1 hcap p (List.mem_of_getElem? hp)
    have h1:aZ w (dn base S.objs blk) S.objs blk p v:=.kL (r2.2 i p v hp hv)
    have h2:dN w (dn base S'.objs vW) p v:=(h1.zJ hpp).oV aeY
    exact h2.mono wM.1 (fun _ _ h=>h) (fun b x _ h=>wM.2.1 b x h)
   have acV:Y6 P none base jL V2 (Pz l0 (Yt ys I fun i O=>∃ O',J i O'∧O=iK k O')):=by
    rintro S2 iP a2 w2 args vs K ⟨z,hz,R2⟩ hpt hargs ⟨i,hIi,hyi,hK,hKf⟩
    rw [hV2] at hz
    have hz:z=z0:=by
     rcases hz with hz | hz
     · exact hz
     · exfalso
       refine ghost (R2.ext (.bA k 0,.bool false) ?_) (Jv i _ hIi).2.2.1
       rw [hz,hz1];exact List.mem_cons_self
    subst hz
    have hzh:z.heap=W1.heap:=by rw [hz0]
    have hzx:z.xs=(.bA (k+1) 0,.bool false)::pairs S'.tmps a.tmps:=by rw [hz0]
    have hzn:z.nx=S'.objs.length:=by rw [hz0]
    have hzo:z.out=w:=by rw [hz0]
    have hL2:w2.heap[l0]?=some (.loop (rec .ready none)):=(R2.fr l0 PD).trans (by rw [hzh];exact hL1)
    have hlen:args.length=ps.length:=hys args (List.mem_of_getElem? hyi)
    refine ⟨rec .ready none,hL2,by rw [hrec];simp [← hargs.1,hlen],?_⟩
    rw [show (Pz l0 (Yt ys I fun i O=>∃ O',J i O'∧O=iK k O')).y=l0 from rfl]
    refine roundIn_of_wpIn trivial ?_
    have hlt2:l0<w2.heap.size:=(Array.getElem?_eq_some_iff.1 hL2).1
    obtain ⟨gm,hprot3⟩:∃ gm:Nat→Prop,gm=fun b=>b<w2.heap.size∧bf S2.objs iP b:=⟨_,rfl⟩
    obtain ⟨HY,hxs3⟩:∃ HY,HY=z.xs++pairs S2.tmps a2.tmps:=⟨_,rfl⟩
    have h23:∀ b,jL b→gm b:=by
     intro b hb
     rw [hprot3]
     exact ⟨lt_of_lt_of_le (R2.pr b hb) R2.gr,fun k o h1 h2 h3=>R2.objs.np k o b h1 h2 h3 hb⟩
    have Y9:∀ b,¬ gm b→base b:=fun b hb=>R2.pb b fun h=>hb (h23 b h)
    have acW:∀ k o g,S2.objs[k]?=some o→o.live=true→iP k=some g→¬ gm g:=by
     intro k o g h1 h2 h3 h4
     rw [hprot3] at h4
     exact h4.2 k o h1 h2 h3
    have Y_:∀ x ∈ HY,aZ w2 (dn base S2.objs iP) S2.objs iP x.1 x.2:=by
     intro x hx
     rw [hxs3] at hx
     rcases List.mem_append.1 hx with hx | hx
     · exact R2.ext x hx
     · obtain ⟨t,h1,h2⟩:=l7 hx
       rw [← h2]
       exact R2.tm t x.1 h1
    have Za:∀ x ∈ HY,x.1.lt S'.objs.length=true:=by
     intro x hx
     rw [hxs3] at hx
     rcases List.mem_append.1 hx with hx | hx
     · rw [← hzn];exact R2.K4 x hx
     · obtain ⟨t,h1,_⟩:=l7 hx
       exact VA (List.all_eq_true.1 hpt x.1 (List.mem_of_getElem? h1))
    obtain ⟨tm0,htm0⟩:∃ tm0,tm0=(((rec .ready none).params.zip (⟨vs⟩:Array Value)).foldl (fun t (p,v)=>t.setIfInBounds p v) (rec .ready none).tmps):=⟨_,rfl⟩
    rw [← htm0]
    have PG:tm0=(ps.zip vs).foldl (fun t (p,v)=>t.setIfInBounds p v) a.tmps:=by
     rw [htm0,hrec]
     simp only []
     rw [← Array.foldl_toList]
     simp
    have hset:=HV (R:=aZ w2 (dn base S2.objs iP) S2.objs iP) (fun v=>.dead v) ps args vs S'.tmps a.tmps hargs.1 RG.Dz
     (fun t p hp=>R2.ext (p,a.tmps.getD t undef) (by rw [hzx];exact List.mem_cons_of_mem _ (nS RG.Dz hp))) (fun i p v h1 h2=>.aL (hargs.2 i p v h1 h2))
    have Rr:Rel base gm ⟨w2.heap,HY,S'.objs.length,w⟩ ⟨qX ps args S.tmps,S2.objs⟩ iP { tmps:=tm0,defers:=[] } w2:=by
     refine ⟨.nil _ _,by rw [PG,← hSt];exact hset.1,fun t p hp=>by rw [← hSt] at hp;rw [PG];exact hset.2 t p hp,⟨R2.objs.ob,R2.objs.KZ,acW⟩,fun b hb=>by rw [hprot3] at hb;exact hb.1,fun _ _=>rfl,Nat.le_refl _,Y9,Y_,Za,by rw [← hzo];exact R2.sm,⟨R2.nL,fun b hb=>h23 b (PE b hb)⟩⟩
    have MJ:=rZ i args S2.objs hIi hyi l0 base gm (fun z=>z=⟨w2.heap,HY,S'.objs.length,w⟩) (by rintro z rfl;rw [← hGl];exact Nat.le_refl _) iP _ w2 ⟨_,rfl,Rr⟩
    rw [show (rec .ready none).assign=x by rw [hrec],show (rec .ready none).body=y by rw [hrec]]
    change x.wpIn (F6 (some l0)) 0 P _ _ _
    refine wpIn_mono MJ ?_
    rintro e a3 w3 ⟨S3,Zb,he,zz,rfl,R3⟩
    cases e with
    | normal=>
     have hp3:gm l0:=h23 l0 PD
     have hL3:w3.heap[l0]?=some (.loop (rec .ready none)):=(R3.fr l0 hp3).trans hL2
     refine ⟨_,run_beginRound hL3 (by rw [hrec]),?_⟩
     have Zc:({ rec .ready none with state:=.busy }:Loop)=rec .busy none:=by rw [hrec]
     rw [Zc]
     obtain ⟨w4,hw4⟩:∃ w4,w4=w3.putObj l0 (.loop (rec .busy none)):=⟨_,rfl⟩
     rw [← hw4]
     have hnc:∀ st pe,¬ ja (.loop (rec st pe)):=by rintro st pe (⟨c,t,y,h⟩ | ⟨es,n,h⟩) <;> cases h
     have SK:∀ (k:Nat) x,w3.heap[k]?=some x→ja x→w4.heap[k]?=some x:=by rw [hw4];exact jE hL3 (hnc _ _)
     have hs4:w4.heap.size=w3.heap.size:=by rw [hw4];exact World.putObj_size
     have ho4:∀ k:Nat,k≠l0→w4.heap[k]?=w3.heap[k]?:=fun k hk=>by rw [hw4];exact World.putObj_heap_other hk
     have acX:l0<w3.heap.size:=(Array.getElem?_eq_some_iff.1 hL3).1
     have hL4:w4.heap[l0]?=some (.loop (rec .busy none)):=by rw [hw4];exact World.putObj_heap_same acX
     have acY:∀ b,gm b→b<w2.heap.size:=fun b hb=>by rw [hprot3] at hb;exact hb.1
     have aeX:w2.heap.size≤w3.heap.size:=R3.gr
     have R4:Rel base gm ⟨w4.heap,HY,S'.objs.length,w⟩ S3 Zb a3 w4:=by
      refine ⟨?_,R3.Dz,fun t p hp=>gG (R3.tm t p hp) (le_of_eq hs4.symm) SK,R3.objs.cells (le_of_eq hs4.symm) SK R3.objs.np,fun b hb=>?_,fun _ _=>rfl,Nat.le_refl _,Y9,fun x hx=>gG (R3.ext x hx) (le_of_eq hs4.symm) SK,R3.K4,R3.sm.trans (by rw [hw4];exact ⟨rfl,rfl⟩),⟨rU.keep (fun b hb=>ho4 b (by have:=WU b hb;omega)) R3.nL,fun b hb=>h23 b (PE b hb)⟩⟩
      · obtain ⟨Ds,h1,h2,h3⟩:=R3.oG
        refine ⟨Ds,h1,h2,fun b hb=>?_⟩
        rw [ho4 b (fun e=>(h3 b hb).2.2 (e ▸ hp3))]
        exact h3 b hb
      · have:=acY b hb;show b<w4.heap.size;omega
     have hbody:=he base gm (fun z=>z=⟨w4.heap,HY,S'.objs.length,w⟩) (by rintro z rfl;rw [← hGl];exact Nat.le_refl _) Zb a3 w4 ⟨_,rfl,R4⟩
     refine wpIn_mono hbody ?_
     rintro e a5 w5 ⟨S5,blk5,he5,zz,rfl,R5⟩
     have leave:Hw e=some lc→J i (S5.norm [] fz).objs→∃ v w',(Instr.endRound l0 (some lc)).run P w5=.ok v w'∧(∃ b objs' ay,Ending.returned v=.returned (.bool b)∧K b objs'∧qW base jL V2 ⟨S2.tmps,objs'⟩ ay a2 w'):=by
      intro _ hJ
      have hL5:w5.heap[l0]?=some (.loop (rec .busy none)):=(R5.fr l0 hp3).trans hL4
      refine ⟨_,_,run_endRound (some lc) hL5,?_⟩
      have hdone:({ rec .busy none with state:=if (some lc:Option Code).isNone then .ready else .done,pending:=some lc }:Loop)=rec .done (some lc):=by rw [hrec];rfl
      rw [hdone]
      obtain ⟨w6,hw6⟩:∃ w6,w6=w5.putObj l0 (.loop (rec .done (some lc))):=⟨_,rfl⟩
      rw [← hw6]
      obtain ⟨HZ,R6⟩:=Weak.norm (m:=S'.objs.length) [] fz (by rw [hGl];exact hfz) S5 base gm _ blk5 a5 w5 (Nat.le_refl _) R5
      have H6:∀ (k:Nat) x,w5.heap[k]?=some x→ja x→w6.heap[k]?=some x:=by rw [hw6];exact jE hL5 (hnc _ _)
      have hs6:w6.heap.size=w5.heap.size:=by rw [hw6];exact World.putObj_size
      have ho6:∀ k:Nat,k≠l0→w6.heap[k]?=w5.heap[k]?:=fun k hk=>by rw [hw6];exact World.putObj_heap_other hk
      have hl5:l0<w5.heap.size:=(Array.getElem?_eq_some_iff.1 hL5).1
      have adR:w4.heap.size≤w5.heap.size:=R5.gr
      have hl1:l0<W1.heap.size:=(Array.getElem?_eq_some_iff.1 hL1).1
      have hall:∀ b,gm b→b≠l0→w6.heap[b]?=w2.heap[b]?:=by
       intro b hb hbl
       rw [ho6 b hbl,R5.fr b hb]
       show w4.heap[b]?=_
       rw [ho4 b hbl]
       exact R3.fr b hb
      obtain ⟨⟨gl,_,gA,gB⟩,gN⟩:=Yu i _ hJ
      have hk1:k+1<(S5.norm [] fz).objs.length:=by omega
      have adT:∀ b,dn base (S5.norm [] fz).objs HZ b→dn base (iK k (S5.norm [] fz).objs) (lG k HZ) b:=fun b h=>⟨h.1,uP hk1 h.2⟩
      have Zd:∀ b,gm b→bf (iK k (S5.norm [] fz).objs) (lG k HZ) b:=fun b hb=>uP hk1 fun k o h1 h2 h3=>R6.objs.np k o b h1 h2 h3 hb
      have Ze:∀ x ∈ pairs S'.tmps a.tmps,x ∈ HY:=fun x hx=>by rw [hxs3,hzx];exact List.mem_append_left _ (List.mem_cons_of_mem _ hx)
      have Zf:∀ x ∈ pairs S2.tmps a2.tmps,x ∈ HY:=fun x hx=>by rw [hxs3];exact List.mem_append_right _ hx
      have EK:dZ base jL (S5.norm [] fz).objs HZ w6:=R6.objs.cells (le_of_eq hs6.symm) H6 (fun k o g h1 h2 h3 h4=>R6.objs.np k o g h1 h2 h3 (h23 g h4))
      refine ⟨false,iK k (S5.norm [] fz).objs,lG k HZ,rfl,hKf _ ⟨_,hJ,rfl⟩,z1,by rw [hV2];exact .inr rfl,?_⟩
      refine ⟨?_,R2.Dz,fun t p hp=>?_,WW EK hk1 gN gA,fun b hb=>?_,fun b hb=>?_,?_,R2.pb,fun x hx=>?_,fun x hx=>?_,?_,by rw [hz1];exact ⟨rU.keep (fun b hb=>World.putObj_heap_other (by have:=WU b hb;omega)) hR1.nL,PE⟩⟩
      · obtain ⟨Ds,h1,h2,h3⟩:=R2.oG
        refine ⟨Ds,h1,h2,fun b hb=>?_⟩
        obtain ⟨q1,q2,q3⟩:=h3 b hb
        have hb3:gm b:=by rw [hprot3];exact ⟨(Array.getElem?_eq_some_iff.1 q1).1,q2.2⟩
        exact ⟨by rw [hall b hb3 (fun e=>q3 (e ▸ PD))];exact q1,⟨q2.1,Zd b hb3⟩,q3⟩
      · have hpp:p.pure=true:=List.all_eq_true.1 hpt p (List.mem_of_getElem? hp)
        have h1:=gG (R6.ext (p,a2.tmps.getD t undef) (Zf _ (nS R2.Dz hp))) (le_of_eq hs6.symm) H6
        exact .aL ((h1.zJ hpp).oV fun b _ hb=>adT b hb)
      · rw [hprot2] at hb;rw [hz1];show b<(W1.putObj l0 _).heap.size;rw [World.putObj_size];exact hb.1
      · rw [hz1]
        show w6.heap[b]?=(W1.putObj l0 (.loop (rec .done (some lc)))).heap[b]?
        by_cases hbl:b=l0
        · subst hbl
          rw [hw6,World.putObj_heap_same hl5,World.putObj_heap_same hl1]
        · rw [hall b (h23 b hb) hbl,World.putObj_heap_other hbl,R2.fr b hb,hzh]
      · rw [hz1]
        show (W1.putObj l0 _).heap.size≤w6.heap.size
        rw [World.putObj_size]
        have:=R2.gr
        rw [hzh] at this
        omega
      · rw [hz1] at hx
        rcases List.mem_cons.1 hx with rfl | hx
        · exact abS (Gc hk1)
        · have h1:=gG (R6.ext x (Ze x hx)) (le_of_eq hs6.symm) H6
          obtain ⟨t,ht,_⟩:=l7 hx
          exact WV (ac0 t x.1 (by rw [← hSt];exact ht)) adT h1
      · rw [hz1] at hx ⊢
        show x.1.lt S'.objs.length=true
        rcases List.mem_cons.1 hx with rfl | hx
        · simp [PV.lt,PV.v_,hGl]
        · obtain ⟨t,ht,_⟩:=l7 hx
          exact Vx (by rw [hGl];omega) (ac0 t x.1 (by rw [← hSt];exact ht))
      · rw [hz1];exact R6.sm.trans (by rw [hw6];exact ⟨rfl,rfl⟩)
     cases e with
     | normal=>
      have hL5:w5.heap[l0]?=some (.loop (rec .busy none)):=(R5.fr l0 hp3).trans hL4
      refine ⟨_,_,run_endRound none hL5,?_⟩
      have SL:({ rec .busy none with state:=if (none:Option Code).isNone then .ready else .done,pending:=none }:Loop)=rec .ready none:=by rw [hrec];rfl
      rw [SL]
      obtain ⟨w6,hw6⟩:∃ w6,w6=w5.putObj l0 (.loop (rec .ready none)):=⟨_,rfl⟩
      rw [← hw6]
      obtain ⟨HZ,R6⟩:=Weak.norm (m:=S'.objs.length) [] fz (by rw [hGl];exact hfz) S5 base gm _ blk5 a5 w5 (Nat.le_refl _) R5
      have H6:∀ (k:Nat) x,w5.heap[k]?=some x→ja x→w6.heap[k]?=some x:=by rw [hw6];exact jE hL5 (hnc _ _)
      have hs6:w6.heap.size=w5.heap.size:=by rw [hw6];exact World.putObj_size
      have ho6:∀ k:Nat,k≠l0→w6.heap[k]?=w5.heap[k]?:=fun k hk=>by rw [hw6];exact World.putObj_heap_other hk
      have hl5:l0<w5.heap.size:=(Array.getElem?_eq_some_iff.1 hL5).1
      have adR:w4.heap.size≤w5.heap.size:=R5.gr
      have hall:∀ b,gm b→w6.heap[b]?=w2.heap[b]?:=by
       intro b hb
       by_cases hbl:b=l0
       · subst hbl
         rw [hL2,hw6,World.putObj_heap_same hl5]
       · rw [ho6 b hbl,R5.fr b hb]
         show w4.heap[b]?=_
         rw [ho4 b hbl]
         exact R3.fr b hb
      have Zd:∀ b,gm b→bf (S5.norm [] fz).objs HZ b:=fun b hb k o h1 h2 h3=>R6.objs.np k o b h1 h2 h3 hb
      refine ⟨true,(S5.norm [] fz).objs,HZ,rfl,hK _ he5,z,by rw [hV2];exact .inl rfl,?_⟩
      have Ze:∀ x ∈ z.xs,x ∈ HY:=fun x hx=>by rw [hxs3];exact List.mem_append_left _ hx
      have Zf:∀ x ∈ pairs S2.tmps a2.tmps,x ∈ HY:=fun x hx=>by rw [hxs3];exact List.mem_append_right _ hx
      refine ⟨?_,R2.Dz,fun t p hp=>?_,R6.objs.cells (le_of_eq hs6.symm) H6 (fun k o g h1 h2 h3 h4=>R6.objs.np k o g h1 h2 h3 (h23 g h4)),R2.pr,fun b hb=>?_,?_,R2.pb,fun x hx=>gG (R6.ext x (Ze x hx)) (le_of_eq hs6.symm) H6,R2.K4,by rw [hzo];exact R6.sm.trans (by rw [hw6];exact ⟨rfl,rfl⟩),R2.gl⟩
      · obtain ⟨Ds,h1,h2,h3⟩:=R2.oG
        refine ⟨Ds,h1,h2,fun b hb=>?_⟩
        obtain ⟨q1,q2,q3⟩:=h3 b hb
        have hb3:gm b:=by rw [hprot3];exact ⟨(Array.getElem?_eq_some_iff.1 q1).1,q2.2⟩
        exact ⟨by rw [hall b hb3];exact q1,⟨q2.1,Zd b hb3⟩,q3⟩
      · exact gG (R6.ext (p,a2.tmps.getD t undef) (Zf _ (nS R2.Dz hp))) (le_of_eq hs6.symm) H6
      · rw [hall b (h23 b hb)];exact R2.fr b hb
      · have:=R2.gr;rw [hzh] at this ⊢;omega
     | ret=>
      obtain ⟨rfl,hJ⟩:=he5
      cases hlv
      exact leave rfl hJ
     | exit id=>
      obtain ⟨rfl,hJ⟩:=he5
      cases hlv
      exact leave rfl hJ
     | _=>
      obtain ⟨rfl,hJ⟩:=he5
      cases hlv
    | _=>exact he.elim
   refine Calls.mono (hgive I (fun i O=>∃ O',J i O'∧O=iK k O') base jL V2 l0 S'.objs vW W1 vc acV (fun z hz=>by
    rw [hV2] at hz
    rcases hz with rfl | rfl
    · rw [hz0];exact Nat.le_refl _
    · rw [hz1];exact Nat.le_refl _) ⟨_,by rw [hV2];exact .inl rfl,acU⟩ hI0 (fun i O h=>⟨by rw [hGl];exact (Jv i O h).1,(Jv i O h).2.1⟩) (fun i O h=>by
    obtain ⟨O',h,rfl⟩:=h
    obtain ⟨⟨q1,q2,_,_⟩,q5⟩:=Yu i O' h
    refine ⟨by rw [Lg,hGl];exact q1,fun o ho x hx c hc=>?_⟩
    obtain ⟨j,hj⟩:=List.mem_iff_getElem?.1 ho
    rw [Lg]
    have hno:o.xs=[]∨o ∈ O':=by
     by_cases e2:j=k+1
     · subst e2;rw [MK (by omega)] at hj;cases hj;exact .inl rfl
     · by_cases e1:j=k
       · subst e1;rw [Gc (by omega)] at hj;cases hj;exact .inl rfl
       · rw [pX e1 e2] at hj;exact .inr (List.mem_of_getElem? hj)
    rcases hno with h0 | h0
    · rw [h0] at hx;cases hx
    · exact q2 o h0 x hx c hc) hcapR) ?_
   rintro e w3 ⟨objs',ay,rfl,hIJ,z,hz,R3⟩
   rw [hV2] at hz
   have fin:∀ (hp:Array Go.Obj) (st:LoopState) (pe:Option Code) (e':Exit),z.heap=hp→(∀ b,b≠l0→hp[b]?=W1.heap[b]?)→hp[l0]?=some (.loop (rec st pe))→st≠.busy→hp.size=W1.heap.size→z.out=w→(∀ x ∈ pairs S'.tmps a.tmps,x ∈ z.xs)→
       (∀ Q':Exit→Act→World→Prop,∀ aa ww,Q' e' aa ww→(match pe with | none=>Q' .normal aa ww | some c=>c.wpIn (F6 none) 0 P Q' aa ww))→
       ((e'=.normal∧I ys.length objs')∨(e'=lv∧∃ i O,i<ys.length∧J i O∧objs'=iK k O))→
       ∃ jump w4,(Instr.endLoop l0).run P w3=.ok jump w4∧(match jump with
        | none=>(fun e a' w'=>∃ objs' ay,((e=.normal∧I ys.length objs')∨(e=lv∧∃ i O,i<ys.length∧J i O∧objs'=iK k O))∧Rel base ak w0 ⟨S.tmps,objs'⟩ ay a' w') .normal { a with defers:=[{ target:=.collected w.heap.size,args:=#[] }]++a.defers } w4
        | some c=>c.wpIn (F6 none) 0 P (fun e a' w'=>∃ objs' ay,((e=.normal∧I ys.length objs')∨(e=lv∧∃ i O,i<ys.length∧J i O∧objs'=iK k O))∧Rel base ak w0 ⟨S.tmps,objs'⟩ ay a' w') { a with defers:=[{ target:=.collected w.heap.size,args:=#[] }]++a.defers } w4):=by
    intro hp st pe e' hzh hoth adU hst hsize hzo hzx hcode hend
    have hL3:w3.heap[l0]?=some (.loop (rec st pe)):=(R3.fr l0 PD).trans (by rw [hzh];exact adU)
    have hD3:w3.heap[w.heap.size]?=some (.deferred (some [])):=(R3.fr _ hpD).trans (by rw [hzh,hoth _ (by omega)];exact hK1)
    have hnc:¬ ja (.loop (rec st pe)):=by rintro (⟨c,t,y,h⟩ | ⟨es,n,h⟩) <;> cases h
    have adV:=run_endLoop (P:=P) hL3 (by rw [hrec];exact hst)
    refine ⟨pe,w3.putObj l0 (.loop { rec st pe with state:=.exhausted }),by rw [adV,hrec],?_⟩
    have hcl:=jE (o':=.loop { rec st pe with state:=.exhausted }) hL3 hnc
    have hsz:(w3.putObj l0 (.loop { rec st pe with state:=.exhausted })).heap.size=w3.heap.size:=World.putObj_size
    have hle:w.heap.size≤w3.heap.size:=by have:=R3.gr;rw [hzh,hsize] at this;omega
    have hother:∀ k:Nat,k≠l0→(w3.putObj l0 (.loop { rec st pe with state:=.exhausted })).heap[k]?=w3.heap[k]?:=fun k hk=>World.putObj_heap_other hk
    have hkeep:∀ b,b<w.heap.size→bf S'.objs vW b→bf objs' ay b:=by
     intro b hb hnb k o h1 h2 h3
     refine R3.objs.np k o b h1 h2 h3 ?_
     rw [hprot2];exact ⟨by omega,hnb⟩
    have hsame:∀ b,b<w.heap.size→bf S'.objs vW b→(w3.putObj l0 (.loop { rec st pe with state:=.exhausted })).heap[b]?=w.heap[b]?:=by
     intro b hb hnb
     rw [hother b (by omega),R3.fr b (by rw [hprot2];exact ⟨by omega,hnb⟩),hzh,hoth b (by omega)]
     have hbx:w.heap[b]?=some (w.heap[b]):=Array.getElem?_eq_getElem hb
     rw [wM.2.1 b _ hbx,hbx]
    have hpn:∀ b,ak b→b<w.heap.size∧bf S'.objs vW b:=fun b hb=>⟨lt_of_lt_of_le (RG.pr b hb) RG.gr,fun k o h1 h2 h3=>RG.objs.np k o b h1 h2 h3 hb⟩
    have acZ:∀ k o g,objs'[k]?=some o→o.live=true→ay k=some g→¬ ak g:=fun k o g h1 h2 h3 h4=>hkeep g (hpn g h4).1 (hpn g h4).2 k o h1 h2 h3
    refine hcode (fun e a' w'=>∃ objs' ay,((e=.normal∧I ys.length objs')∨(e=lv∧∃ i O,i<ys.length∧J i O∧objs'=iK k O))∧Rel base ak w0 ⟨S.tmps,objs'⟩ ay a' w') _ _ ⟨objs',ay,hend,?_,R.Dz,fun t p hp=>?_,R3.objs.cells (le_of_eq hsz.symm) hcl acZ,R.pr,fun b hb=>?_,le_trans R.gr (by rw [hsz];exact hle),R.pb,(by rw [hx];intro x h;simp at h),R.K4,(R.sm.trans (by rw [← hzo];exact R3.sm)).trans ⟨rfl,rfl⟩,R.gl⟩
    · obtain ⟨Ds,h1,h2,h3⟩:=RG.oG
      refine ⟨w.heap.size::Ds,by simp [h1],List.nodup_cons.2 ⟨fun hm=>?_,h2⟩,fun b hb=>?_⟩
      · have:=(Array.getElem?_eq_some_iff.1 (h3 _ hm).1).1;omega
      · rcases List.mem_cons.1 hb with rfl | hb
        · refine ⟨by rw [hother _ (by omega)];exact hD3,⟨RG.bs _ RG.gr,fun k o h1 h2 h3=>R3.objs.np k o _ h1 h2 h3 hpD⟩,fun hp=>by have:=(hpn _ hp).1;omega⟩
        · obtain ⟨q1,q2,q3⟩:=h3 b hb
          have hbs:=(Array.getElem?_eq_some_iff.1 q1).1
          exact ⟨by rw [hsame b hbs q2.2];exact q1,⟨q2.1,hkeep b hbs q2.2⟩,q3⟩
    · exact gG (R3.ext (p,a.tmps.getD t undef) (hzx _ (nS RG.Dz (by rw [hSt];exact hp)))) (le_of_eq hsz.symm) hcl
    · rw [hsame b (hpn b hb).1 (hpn b hb).2];exact R.fr b hb
   rcases hz with rfl | rfl
   · have hI:I ys.length objs':=by
      refine hIJ.resolve_right fun ⟨i,_,O,hJ,e⟩=>?_
      refine ghost (R3.ext (.bA (k+1) 0,.bool false) (by rw [hz0];exact List.mem_cons_self)) ?_
      rw [e];exact MK (by have:=(Yu i O hJ).1.1;omega)
     exact fin W1.heap .ready none .normal (by rw [hz0]) (fun _ _=>rfl) hL1 (by simp) rfl (by rw [hz0]) (fun x hx=>by rw [hz0];exact List.mem_cons_of_mem _ hx) (fun Q' aa ww h=>h) (.inl ⟨rfl,hI⟩)
   · have hJ:∃ i O,i<ys.length∧J i O∧objs'=iK k O:=by
      rcases hIJ with h | ⟨i,hi,O,hJ,e⟩
      · exact (ghost (R3.ext (.bA k 0,.bool false) (by rw [hz1];exact List.mem_cons_self)) (Jv _ _ h).2.2.1).elim
      · exact ⟨i,O,hi,hJ,e⟩
     have hl1:l0<W1.heap.size:=(Array.getElem?_eq_some_iff.1 hL1).1
     refine fin (W1.putObj l0 (.loop (rec .done (some lc)))).heap .done (some lc) lv (by rw [hz1]) (fun b hb=>World.putObj_heap_other hb) (World.putObj_heap_same hl1) (by simp) World.putObj_size (by rw [hz1]) (fun x hx=>by rw [hz1];exact List.mem_cons_of_mem _ hx) (fun Q' aa ww h=>?_) (.inr ⟨rfl,hJ⟩)
     cases lv <;> simp only [Hw,Option.some.injEq,reduceCtorEq] at hlv
     · subst hlv;exact wpIn_exit h
     · subst hlv;exact wpIn_ret h
end
structure H7 (P:Program) (l:Option Nat) (E:Env) (T:Know):Prop where
 fn:vN P T.fn
 y:∀ base ak V,E base ak V→Y6 P l base ak V T
 nx:∀ base ak V,E base ak V→∀ w0,V w0→w0.nx≤T.nx
 top:T.top=true→l=none∧∀ base ak V,E base ak V→∀ w0,V w0→w0.xs=[]
 gives:∀ g cap ys,T.gives g cap ys→Gives P g cap ys
theorem H7.inner {E:Env}(h:H7 P l E T) (n l0:Nat):H7 P (some l0) (E0 n) (T.inner n):=
 ⟨h.fn,fun _ _ _ _=>Y6.inner,fun _ _ _ hE w0 hw=>hE w0 hw,(fun h=>by cases h),h.gives⟩
theorem sU (hD:∀ t,iY P t (D t)) (hm:P.follows .mixedOrders=true):∀ (C:LC) (T:Know) (l:Option Nat) (E:Env) (c:Code) (Q:Exit→St→Prop) (S:St),H7 P l E T→strip C=comp c→lq P D T C Q S→PW P l E c Q S:=by
 intro C
 induction C with
 | skip=>
  intro T l E c Q S hk he h
  cases c <;> simp only [comp,strip] at he <;> first | (cases he;done) | skip
  · exact .skip h
  · rename_i d;cases d <;> simp only [comp] at he <;> first | (cases he;done) | (cases hs:f_ _ _ <;> rw [hs] at he <;> cases he)
 | ret=>
  intro T l E c Q S hk he h
  cases c <;> simp only [comp,strip] at he <;> first | (cases he;done) | skip
  · rename_i d;cases d <;> simp only [comp] at he <;> first | (cases he;done) | (cases hs:f_ _ _ <;> rw [hs] at he <;> cases he)
  · exact .ret h
 | bad=>intro T l E c Q S hk he h;exact h.elim
 | exit id=>
  intro T l E c Q S hk he h
  cases c <;> simp only [comp,strip] at he <;> first | (cases he;done) | skip
  · rename_i d;cases d <;> simp only [comp] at he <;> first | (cases he;done) | (cases hs:f_ _ _ <;> rw [hs] at he <;> cases he)
  · cases he;exact .exit h
 | weak x ihx=>
  intro T l E c Q S hk he h
  obtain ⟨S',hw,h⟩:=h
  exact .weak hk.nx hw (ihx _ _ _ _ _ _ hk he h)
 | reg ss=>
  intro T l E c Q S hk he h
  cases c <;> simp only [comp,strip] at he <;> first | (cases he;done) | skip
  rename_i id ops d
  cases d <;> simp only [comp] at he
  · simp only [LC.reg.injEq] at he
    have ht:ops=ops.toList.toArray:=by simp
    intro base ak V hE blk a w R
    refine wpIn_region ?_
    have:=Hz (Qm:=fun e a' w'=>∃ S' ay,Q e S'∧qW base ak V S' ay a' w') hD hk.fn (hk.y base ak V hE) ops.toList ss 0 S [] _ blk a w he (fun j=>by simp) h R (fun S' ts' ay a' w' hK R'=>⟨S',ay,hK,R'⟩)
    rw [List.range_eq_range']
    simpa using this
  · cases hs:f_ _ _ <;> rw [hs] at he <;> cases he
 | draw ss un=>
  intro T l E c Q S hk he h
  cases c <;> simp only [comp,strip] at he <;> first | (cases he;done) | skip
  rename_i id ops d
  cases d <;> simp only [comp] at he
  · cases he
  · cases hs:f_ ops.toList (masks ops.toList []) <;> rw [hs] at he
    · cases he
    · simp only [cond_true,LC.draw.injEq] at he
      obtain ⟨he,rfl⟩:=he
      have:ops=ops.toList.toArray:=by simp
      rw [this]
      refine PW.adO (fun i=>((ss[i]?).map (·.own)).getD false) hD hm (zO (fun S' ts hh=>?_) _ _ _ _ (wK hk.fn ops.toList ss 0 S [] _ he (fun j s hs=>by simp [hs]) h))
      exact ⟨WT hs hh.1,hh.2⟩
 | seq x y ihx ihy=>
  intro T l E c Q S hk he h
  cases c <;> simp only [comp,strip] at he <;> first | (cases he;done) | skip
  · rename_i d;cases d <;> simp only [comp] at he <;> first | (cases he;done) | (cases hs:f_ _ _ <;> rw [hs] at he <;> cases he)
  · simp only [LC.seq.injEq] at he
    exact .seq ((ihx _ _ _ _ _ _ hk he.1 h).mono (uO fun S' h'=>ihy _ _ _ _ _ _ hk he.2 h'))
 | cond o x y ihx ihy=>
  intro T l E c Q S hk he h
  cases c <;> simp only [comp,strip] at he <;> first | (cases he;done) | skip
  · rename_i d;cases d <;> simp only [comp] at he <;> first | (cases he;done) | (cases hs:f_ _ _ <;> rw [hs] at he <;> cases he)
  · simp only [LC.cond.injEq] at he
    obtain ⟨rfl,h1,h2⟩:=he
    refine .cond ?_
    unfold lq ze at h
    unfold ze
    split at h
    · exact ⟨fun hb=>ihx _ _ _ _ _ _ hk h1 (h.1 hb),fun hb=>ihy _ _ _ _ _ _ hk h2 (h.2 hb)⟩
    · exact h.elim
 | block id x ihx=>
  intro T l E c Q S hk he h
  cases c <;> simp only [comp,strip] at he <;> first | (cases he;done) | skip
  · rename_i d;cases d <;> simp only [comp] at he <;> first | (cases he;done) | (cases hs:f_ _ _ <;> rw [hs] at he <;> cases he)
  · simp only [LC.block.injEq] at he
    obtain ⟨rfl,h1⟩:=he
    exact .block (ihx _ _ _ _ _ _ hk h1 h)
 | loop ks fz x ihx=>
  intro T l E c Q S hk he h
  cases c <;> simp only [comp,strip] at he <;> first | (cases he;done) | skip
  · rename_i d;cases d <;> simp only [comp] at he <;> first | (cases he;done) | (cases hs:f_ _ _ <;> rw [hs] at he <;> cases he)
  · simp only [LC.loop.injEq,true_and] at he
    obtain ⟨hfz,I,⟨S0,m,hw,hI⟩,hr⟩:=h
    refine .weak hk.nx hw ?_
    exact PW.adP hk.nx I hI fun m S hS=>(ihx _ _ _ _ _ _ hk he (hr m S hS)).mono (uO fun S' ⟨m',h1,h2⟩=>⟨S'.norm ks fz,m',Weak.norm ks fz hfz S',h2,h1⟩)
 | rf f ps fz x y ihx ihy=>
  intro T l E c Q S hk he h
  cases c <;> simp only [comp,strip] at he <;> first | (cases he;done) | skip
  · rename_i d;cases d <;> simp only [comp] at he <;> first | (cases he;done) | (cases hs:f_ _ _ <;> rw [hs] at he <;> cases he)
  · rename_i f' ps' x' y'
    simp only [LC.rf.injEq,true_and] at he
    obtain ⟨rfl,rfl,h1,h2⟩:=he
    obtain ⟨htop,g,cap,ys,hf,hcap,hg,hys,h⟩:=h
    obtain ⟨rfl,hxs⟩:=hk.top htop
    intro base ak V hE blk a w ⟨w0,hV,R⟩
    have hps:ps'.toList.toArray=ps':=by simp
    rcases h with ⟨I,hfz,hI0,Jv,rZ,hend⟩ | ⟨I,J,lv,lc,hlv,hfz,hI0,Jv,Yu,rZ,hend,hleave⟩
    · have:=Y8 (x:=x') (y:=y') (hk.gives g cap ys hg) hys hI0 Jv R (hxs base ak V hE w0 hV) hf hcap hfz fun i args objs hi hy l0=>
       (ihx _ _ _ _ _ _ (hk.inner S.objs.length l0) h1 (rZ i args objs hi hy)).mono (uO fun S1 h'=>ihy _ _ _ _ _ _ (hk.inner S.objs.length l0) h2 h')
      rw [hps] at this
      refine wpIn_mono this ?_
      rintro e a' w' ⟨objs',ay,rfl,hI,R'⟩
      exact ⟨_,ay,hend objs' hI,w0,hV,R'⟩
    · have:=WX (x:=x') (y:=y') (hk.gives g cap ys hg) hys hlv hI0 Jv Yu R (hxs base ak V hE w0 hV) hf hcap hfz fun i args objs hi hy l0=>
       (ihx _ _ _ _ _ _ (hk.inner (S.objs.length+2) l0) h1 (rZ i args objs hi hy)).mono (uO fun S1 h'=>ihy _ _ _ _ _ _ (hk.inner (S.objs.length+2) l0) h2 h')
      rw [hps] at this
      refine wpIn_mono this ?_
      rintro e a' w' ⟨objs',ay,h,R'⟩
      rcases h with ⟨rfl,hI⟩ | ⟨rfl,i,O,hi,hJ,rfl⟩
      · exact ⟨_,ay,hend objs' hI,w0,hV,R'⟩
      · exact ⟨_,ay,hleave i O hi hJ,w0,hV,R'⟩
end Lp
namespace Lp
open Go
variable {P:Program}{D:TypeId→aJ}{T:Know}
def jh (D:TypeId→aJ) (S:St):List ResultVar→(List PV→Prop)→Prop
 | [],K=>K []
 | .tmp t::rs,K=>jh D S rs fun ps=>K (S.tmps.getD t .dead::ps)
 | .cell a t::rs,K=>fF (D t) (S.tmps.getD a .dead) S.objs fun p _ _=>jh D S rs fun ps=>K (p::ps)
def fA:List PV→PV
 | [p]=>p
 | ps=>.bP ps
def WY (D:TypeId→aJ) (d:Nat) (rs:List ResultVar) (r:PV) (e:Exit) (S:St):Prop:=
 (e=.normal∨e=.ret)∧jh D S rs fun ps=>r=fA (ps.map (gY d 0 S.objs))
def SN (d:Nat) (t:Nat) (o':Obj) (e:Exit) (S:St):Prop:=
 (e=.normal∨e=.ret)∧∃ S' k ver o,Weak 0 S S'∧S'.tmps.getD t .dead=.bA k ver∧S'.objs[k]?=some o∧o.live=true∧o.ver=ver∧{ gM d (k+1) S'.objs o with ver:=0 }=o'∧fB [o']
section
variable {base ak:Nat→Prop}{w0:Wz}{S:St}{blk:Nat→Option Nat}{a:Act}{w:World}
theorem wN {ok:Nat→Prop}{p:PV}{v:Value}(h:aZ w ok [] blk p v):dN w ok p v:=by
 have hS:∀ (p:PV) (v:Value),bS w ok [] blk p v→dN w ok p v:=by
  intro p v h
  cases p <;> first | exact h | (obtain ⟨_,o,ho,_⟩:=h;simp at ho)
 cases p
 case fn f x c=>obtain ⟨va,vc,rfl,h1,h2⟩:=h;exact .fn _ _ _ va vc h1.1 h2.1 (fun i p v a b=>hS _ _ (h1.2 i p v a b)) (fun i p v a b=>hS _ _ (h2.2 i p v a b))
 case bP cs=>obtain ⟨vs,rfl,h1⟩:=h;exact .bP _ vs h1.1 (fun i p v a b=>hS _ _ (h1.2 i p v a b))
 case agg cs=>obtain ⟨vs,rfl,h1⟩:=h;exact .agg _ vs h1.1 (fun i p v a b=>hS _ _ (h1.2 i p v a b))
 all_goals exact hS _ _ h
theorem aa1 (S:St) (d:Nat):(S.freeze d 0).objs=[]:=by simp [St.freeze]
theorem aeZ (R:Rel base ak w0 S blk a w) (d:Nat) (p:PV) (v:Value) (h:aZ w (dn base S.objs blk) S.objs blk p v):dN w base (gY d 0 S.objs p) v:=by
 have:=Ht R d 0 p v h
 rw [aa1] at this
 exact (wN this).oV fun b _ h=>h.1
theorem WZ (hD:∀ t,iY P t (D t)) (R:Rel base ak w0 S blk a w){t x:Nat}{K:KT}(h:fF (D t) (S.tmps.getD x .dead) S.objs K) :
  ∃ p ad v τ,a.tmps.getD x undef=.pointer (some ad)∧(loadVar t ad).run P w=.ok v w∧K p S.objs τ∧aZ w (dn base S.objs blk) S.objs blk p v:=by
 have hx:=R.ev (.tmp x)
 change aZ w (dn base S.objs blk) S.objs blk (S.tmps.getD x .dead) (a.tmps.getD x undef) at hx
 unfold fF at h
 split at h
 · rename_i p e
   rw [e] at hx
   obtain ⟨hk,h1,h2,h3⟩:=h
   have hx':=hx.addr
   generalize hv:a.tmps.getD x undef=v at hx'
   cases hx' with
   | addr _ b off vs hok hcell hrep=>
    obtain ⟨u,g1,g2⟩:=mG (hD t) hk (At.zJ vs hcell hrep) h1 h2
    exact ⟨_,_,_,_,rfl,g1,h3,Bt g2⟩
 · rename_i k ver i f e
   rw [e] at hx
   obtain ⟨ob,el,h1,h2,h3,h4,hk,h5,h6,h7,h8⟩:=h
   obtain ⟨g,hb,hv,hty⟩:=hx.bR h1 h2 h3
   obtain ⟨y1,y2⟩:=Sk R.objs h1 h2 h4 hb hty
   have hat:At (bS w (dn base S.objs blk) S.objs blk) w g (i*ob.sz) (.agg el.cells):=y2
   have hs:=At.sub hat f (D t).size (D t).agg h5 h6 (pR h7)
   obtain ⟨c1,c2⟩:=K7 el.cells f _ _ h5 h6 h7
   obtain ⟨u,g1,g2⟩:=mG (hD t) hk hs c1 c2
   exact ⟨_,_,_,_,hv,g1,h8,y8 g2⟩
 · exact h.elim
def aa2 (tmps:Array Value):ResultVar→Sem Value
 | .tmp t=>pure (tmps.getD t undef)
 | .cell a t=>do loadVar t (← asAddr (tmps.getD a undef))
def ML (tmps:Array Value):List ResultVar→Sem (List Value)
 | []=>pure []
 | r::rs=>do
  let v ← aa2 tmps r
  let vs ← ML tmps rs
  pure (v::vs)
theorem BK (hD:∀ t,iY P t (D t)) (R:Rel base ak w0 S blk a w):∀ (rs:List ResultVar) (K:List PV→Prop),jh D S rs K→
  ∃ vs ps,(ML a.tmps rs).run P w=.ok vs w∧K ps∧dw (aZ w (dn base S.objs blk) S.objs blk) ps vs
 | [],K,h=>⟨[],[],rfl,h,rfl,fun _ _ _ h=>by simp at h⟩
 | .tmp t::rs,K,h=>by
  obtain ⟨vs,ps,h1,h2,h3,h4⟩:=BK hD R rs _ h
  refine ⟨a.tmps.getD t undef::vs,S.tmps.getD t .dead::ps,by simp [ML,aa2,h1],h2,by simpa using h3,fun i p v hp hv=>?_⟩
  cases i with
  | zero=>
   simp only [List.getElem?_cons_zero,Option.some.injEq] at hp hv
   subst hp;subst hv;exact R.ev (.tmp t)
  | succ i=>exact h4 i p v (by simpa using hp) (by simpa using hv)
 | .cell x t::rs,K,h=>by
  obtain ⟨p0,ad,v0,_,e1,e2,h,e3⟩:=WZ hD R h
  obtain ⟨vs,ps,h1,h2,h3,h4⟩:=BK hD R rs _ h
  refine ⟨v0::vs,p0::ps,by simp [ML,aa2,e1,e2,h1,asAddr],h2,by simpa using h3,fun i p v hp hv=>?_⟩
  cases i with
  | zero=>
   simp only [List.getElem?_cons_zero,Option.some.injEq] at hp hv
   subst hp;subst hv;exact e3
  | succ i=>exact h4 i p v (by simpa using hp) (by simpa using hv)
def JO:List Value→Value
 | [v]=>v
 | vs=>.tuple ⟨vs⟩
end
theorem run_bind_ok {α β:Type}{x:Sem α}{f:α→Sem β}{P:Program}{w w':World}{b:β}(h:(x >>=f).run P w=.ok b w'):∃ c w1,x.run P w=.ok c w1∧(f c).run P w1=.ok b w':=by
 rw [Sem.run_bind] at h
 cases hx:x.run P w with
 | ok c w1=>rw [hx] at h;exact ⟨c,w1,rfl,h⟩
 | halt o w1=>rw [hx] at h;cases h
theorem EX {fn:Func}{rs:List ResultVar}(h:fn.results=rs.toArray) (hl:rs.length≤3){tmps:Array Value}{vs:List Value}{P:Program}{w:World}
  (hr:(ML tmps rs).run P w=.ok vs w):(results fn tmps).run P w=.ok (JO vs) w:=by
 have hf:results fn tmps=(fn.results.mapM (aa2 tmps) >>=fun vs=>pure (if h:vs.size=1 then vs[0] else .tuple vs)):=by
  unfold results
  refine congrArg (fun f:ResultVar→Sem Value=>(Array.mapM f fn.results >>=fun vs=>pure (if h:vs.size=1 then vs[0] else Value.tuple vs):Sem Value)) ?_
  funext r
  cases r <;> rfl
 match rs,hl,h,hr with
 | [],_,h,hr=>
  simp only [ML,Sem.run_pure] at hr
  cases hr
  simp [results,h,JO]
 | [r1],_,h,hr=>
  simp only [ML] at hr
  obtain ⟨v1,w1,h1,hr⟩:=run_bind_ok hr
  obtain ⟨v2,w2,h2,hr⟩:=run_bind_ok hr
  simp only [Sem.run_pure] at hr h2
  cases h2;cases hr
  rw [hf,h]
  simp [h1,JO]
 | [r1,r2],_,h,hr=>
  simp only [ML] at hr
  obtain ⟨v1,w1,h1,hr⟩:=run_bind_ok hr
  obtain ⟨v2,w2,h2,hr⟩:=run_bind_ok hr
  obtain ⟨v3,w3,h3,h2⟩:=run_bind_ok h2
  obtain ⟨v4,w4,h4,h2⟩:=run_bind_ok h2
  simp only [Sem.run_pure] at hr h2 h4
  cases h4;cases h2;cases hr
  rw [hf,h]
  simp [h1,h3,JO]
 | [r1,r2,r3],_,h,hr=>
  simp only [ML] at hr
  obtain ⟨v1,w1,h1,hr⟩:=run_bind_ok hr
  obtain ⟨v2,w2,h2,hr⟩:=run_bind_ok hr
  obtain ⟨v3,w3,h3,h2⟩:=run_bind_ok h2
  obtain ⟨v4,w4,h4,h2⟩:=run_bind_ok h2
  obtain ⟨v5,w5,h5,h4⟩:=run_bind_ok h4
  obtain ⟨v6,w6,h6,h4⟩:=run_bind_ok h4
  simp only [Sem.run_pure] at hr h2 h4 h6
  cases h6;cases h4;cases h2;cases hr
  rw [hf,h]
  simp [h1,h3,h5,JO]
 | _::_::_::_::_,hl,_,_=>simp at hl
theorem wO {base ak:Nat→Prop}{blk:Nat→Option Nat}{w:World}:dZ base ak [] blk w:=
 ⟨fun _ _ h=>by simp at h,fun _ _ _ _ _ _ h=>by simp at h,fun _ _ _ h=>by simp at h⟩
theorem PI (w:World) (b:Nat) (o:Go.Obj) (k:Nat):(w.putObj b o).heap[k]?=if b=k∧b<w.heap.size then some o else w.heap[k]?:=by
 simp only [World.putObj,Array.getElem?_setIfInBounds]
 by_cases h:b=k
 · subst h
   by_cases h':b<w.heap.size
   · simp [h']
   · simp [h']
 · simp [h]
theorem Rel.takeD {base ak:Nat→Prop}{w0:Wz}{S:St}{blk:Nat→Option Nat}{a:Act}{w:World}(R:Rel base ak w0 S blk a w){b:Nat}{ds:List Deferred}(hd:a.defers={ target:=.collected b,args:=#[] }::ds) :
  w.heap[b]?=some (.deferred (some []))∧Rel base ak w0 S blk { a with defers:=ds } (w.putObj b (.deferred none)):=by
 obtain ⟨Ds,h1,h2,h3⟩:=R.oG
 rw [hd] at h1
 cases Ds with
 | nil=>simp at h1
 | cons b' Ds=>
  simp only [List.map_cons,List.cons.injEq,Deferred.mk.injEq,Target.collected.injEq,and_true] at h1
  obtain ⟨rfl,rfl⟩:=h1
  obtain ⟨hb,afA,hbp⟩:=h3 b List.mem_cons_self
  have hsz:(w.putObj b (.deferred none)).heap.size=w.heap.size:=by simp [World.putObj]
  have hne:∀ k:Nat,k≠b→(w.putObj b (.deferred none)).heap[k]?=w.heap[k]?:=fun k hk=>by rw [PI,if_neg (fun e=>hk e.1.symm)]
  have hc:∀ (k:Nat) (x:Go.Obj),w.heap[k]?=some x→ja x→(w.putObj b (.deferred none)).heap[k]?=some x:=by
   rintro k x hk (⟨c,t,y,rfl⟩ | ⟨es,n,rfl⟩)
   · rw [hne k (fun e=>by subst e;rw [hb] at hk;cases hk),hk]
   · rw [hne k (fun e=>by subst e;rw [hb] at hk;cases hk),hk]
  have ho:nM w (w.putObj b (.deferred none)) S.objs S.objs blk blk:=fun k o ho=>⟨o,ho,Nat.le_refl _,fun hl _=>⟨hl,rfl,rfl,rfl,fun _=>rfl,fun g c _ hg=>⟨c,hc g _ hg (.inl ⟨c,_,_,rfl⟩),rfl⟩⟩⟩
  refine ⟨hb,⟨⟨Ds,rfl,(List.nodup_cons.1 h2).2,fun k hk=>?_⟩,R.Dz,fun t p hp=>(R.tm t p hp).sJ (Nat.le_of_eq hsz.symm) (fun _ _ h=>h) (fun k x _ hx hcx=>hc k x hx (.inl hcx)) ho,⟨fun k o h1 h4=>?_,R.objs.KZ,R.objs.np⟩,R.pr,fun k hk=>?_,by rw [hsz];exact R.gr,R.pb,fun x hx=>(R.ext x hx).sJ (Nat.le_of_eq hsz.symm) (fun _ _ h=>h) (fun k x _ hx hcx=>hc k x hx (.inl hcx)) ho,R.K4,R.sm.trans ⟨rfl,rfl⟩,R.gl⟩⟩
  · have hkb:k≠b:=fun e=>(List.nodup_cons.1 h2).1 (e ▸ hk)
    rw [hne k hkb]
    exact h3 k (List.mem_cons_of_mem _ hk)
  · have hh:=R.objs.ob k o h1 h4
    unfold dm at hh ⊢
    cases hg:blk k with
    | none=>rw [hg] at hh;exact hh
    | some g=>
     rw [hg] at hh
     obtain ⟨c,x1,x2,x3⟩:=hh
     refine ⟨c,hc g _ x1 (BJ _ _),x2,fun i x hx=>⟨(x3 i x hx).1,fun j p hp=>?_⟩⟩
     obtain ⟨v,y1,y2⟩:=(x3 i x hx).2 j p hp
     exact ⟨v,y1,y2.sJ (Nat.le_of_eq hsz.symm) (fun _ _ h=>h) (fun k x _ hx hcx=>hc k x hx (.inl hcx)) ho⟩
  · rw [hne k (fun e=>hbp (e ▸ hk))];exact R.fr k hk
theorem pY {base ak:Nat→Prop}{w0:Wz}{S:St}{blk:Nat→Option Nat}{P:Program}{fn:Func}{Q:Ending→World→Prop}{tm:Array Value}:∀ (ds:List Deferred) (w:World),Rel base ak w0 S blk { tmps:=tm,defers:=ds } w→
  (∀ w',Rel base ak w0 S blk { tmps:=tm,defers:=[] } w'→∃ v,(results fn tm).run P w'=.ok v w'∧Q (.returned v) w')→LeavesInM (F6 none) 0 P fn tm Q ds .returning w
 | [],w,R,h=>h w R
 | d::ds,w,R,h=>by
  obtain ⟨Ds,h1,_,_⟩:=R.oG
  cases Ds with
  | nil=>simp at h1
  | cons b Ds=>
   simp only [List.map_cons,List.cons.injEq] at h1
   obtain ⟨rfl,rfl⟩:=h1
   obtain ⟨hb,R'⟩:=R.takeD (b:=b) rfl
   exact ⟨by simp,.inl ⟨b,_,rfl,run_takeDeferred hb,pY _ _ R' h⟩⟩
def uQ:Env:=fun _ _ V=>∀ w0,V w0→w0.xs=[]∧w0.nx=0
theorem H7.ae0 (h:vN P T.fn) (hy:T.Y=fun _ _ _=>False) (hg:∀ g cap ys,T.gives g cap ys→Gives P g cap ys):H7 P none uQ T:=
 ⟨h,fun _ _ _ _ _ _ _ _ _ _ _ _ _ _ h=>by rw [hy] at h;exact h.elim,fun _ _ _ hE w0 hw=>by rw [(hE w0 hw).2];exact Nat.zero_le _,fun _=>⟨rfl,fun _ _ _ hE w0 hw=>(hE w0 hw).1⟩,hg⟩
def bZ (args:List PV) (n:Nat):St:=⟨args++List.replicate (n-args.length) .dead,[]⟩
theorem DW {base:Nat→Prop}{w:World}{blk:Nat→Option Nat}{args:List PV}{vs:List Value}(hb:rU.holds w.heap∧∀ b,w.heap.size≤b→base b) (h:dw (aZ w (dn base [] blk) [] blk) args vs) (n:Nat) :
  Rel base (fun b=>b<w.heap.size∧bf [] blk b) ⟨w.heap,[],0,w⟩ (bZ args n) blk { tmps:=(⟨vs⟩:Array Value)++Array.replicate (n-(⟨vs⟩:Array Value).size) undef,defers:=[] } w:=by
 have hl:=h.1
 refine ⟨.nil _ _,?_,fun t p hp=>?_,wO,fun b hb=>hb.1,fun _ _=>rfl,Nat.le_refl _,fun b hn=>hb.2 b ?_,fun x hx=>by simp at hx,fun x hx=>by simp at hx,.refl w,⟨hb.1,fun b hg=>⟨rU.lt hb.1 b hg,d9 _ _⟩⟩⟩
 · simp [bZ,hl]
 · simp only [bZ] at hp
   rw [List.getElem?_append] at hp
   split at hp
   · rename_i ht
     obtain ⟨v,hv⟩:∃ v,vs[t]?=some v:=⟨vs[t]'(by omega),List.getElem?_eq_getElem (by omega)⟩
     have hg:((⟨vs⟩:Array Value)++Array.replicate (n-(⟨vs⟩:Array Value).size) undef).getD t undef=v:=by
      rw [Array.getD_eq_getD_getElem?,Array.getElem?_append,if_pos (by simpa using (by omega:t<vs.length))]
      simp [hv]
     rw [hg]
     exact h.2 t p v hp hv
   · rw [List.getElem?_replicate] at hp
     split at hp
     · cases hp;exact .dead _
     · cases hp
 · rcases Nat.lt_or_ge b w.heap.size with h1 | h1
   · exact absurd ⟨h1,d9 blk b⟩ hn
   · exact h1
theorem aa3 {w:World}{ok:Nat→Prop}{f:PV→PV}{ps:List PV}{vs:List Value}{R:PV→Value→Prop}(h:dw R ps vs) (hf:∀ p v,R p v→dN w ok (f p) v):dN w ok (fA (ps.map f)) (JO vs):=by
 obtain ⟨hl,h⟩:=h
 match ps,vs,hl,h with
 | [p],[v],_,h=>exact hf p v (h 0 p v rfl rfl)
 | [],[],_,_=>exact .bP [] [] rfl (fun _ _ _ h=>by simp at h)
 | p::p'::ps,v::v'::vs,hl,h=>
  refine .bP _ _ (by simpa using hl) fun i q u hq hu=>?_
  rw [← List.map_cons,List.getElem?_map] at hq
  cases hc:(p::p'::ps)[i]? with
  | none=>rw [hc] at hq;simp at hq
  | some q0=>
   rw [hc] at hq
   simp only [Option.map_some,Option.some.injEq] at hq
   subst hq
   exact hf q0 u (h i q0 u hc hu)
theorem ai.Gd {f:FuncId}{fn:Func}{c:Code}{C:LC}{args:List PV}{r:PV}(d:Nat){rs:List ResultVar}{n:Nat}(hD:∀ t,iY P t (D t)) (hT:H7 P none uQ T) (hm:P.follows .mixedOrders=true)
  (hf:P.funcs[f]?=some fn) (hname:(fn.name== "runtime.NumGoroutine")=false) (hb:fn.body=some c) (hn:fn.ntmps=n) (hr:fn.results=rs.toArray) (hl:rs.length≤3) (hC:strip C=comp c)
  (h:lq P D T C (WY D d rs r) (bZ args n)):ai P f args [] r []:=by
 refine ⟨⟨fn,hf,hname,by rw [hb];rfl⟩,fun w blk vs base hbase _ hargs=>?_⟩
 have hpw:PW P none uQ c (WY D d rs r) (bZ args n):=sU hD hm C _ _ _ c _ _ hT hC h
 have R:=DW hbase hargs n
 have hw:=hpw _ _ (fun x=>(⟨w.heap,[],0,w⟩:Wz)=x) (by rintro z rfl;exact ⟨rfl,rfl⟩) _ _ _ ⟨_,rfl,R⟩
 rw [← callsIn_wide (n:=0)]
 refine callsIn_of_wp_marks hf hb trivial ?_
 rw [hn]
 refine wpIn_mono hw ?_
 rintro e a' w' ⟨S',ay,⟨he,ho⟩,_,rfl,R'⟩
 have key:∀ w',Rel base (fun b=>b<w.heap.size∧bf [] blk b) ⟨w.heap,[],0,w⟩ S' ay { a' with defers:=[] } w'→∃ v,(results fn a'.tmps).run P w'=.ok v w'∧(∃ v' ay,Ending.returned v=.returned v'∧dZ base (fun b=>b<w.heap.size∧bf [] blk b) [] ay w'∧
     aZ w' (dn base [] ay) [] ay r v'∧(∀ b,b<w.heap.size→bf [] blk b→w'.heap[b]?=w.heap[b]?)∧w.heap.size≤w'.heap.size∧Sm w w'):=by
  intro w' R'
  obtain ⟨vs',ps,h1,h2,h3⟩:=BK hD R' rs _ ho
  refine ⟨JO vs',EX hr hl h1,JO vs',ay,rfl,wO,?_,fun b hb1 hb2=>R'.fr b ⟨hb1,hb2⟩,R'.gr,R'.sm⟩
  rw [h2]
  exact .aL ((aa3 h3 (fun p v h=>aeZ R' d p v h)).oV fun b _ h=>⟨h,d9 _ _⟩)
 rcases he with rfl | rfl <;> exact pY _ _ R' key
def oW (d k:Nat) (S:St) (o:Obj):Obj:={ gM d (k+1) S.objs o with ver:=0 }
theorem Lh {base ak:Nat→Prop}{w0:Wz}{S':St}{ay:Nat→Option Nat}{a:Act}{w':World}{d k:Nat}{o:Obj}(R':Rel base ak w0 S' ay a w') (ho:S'.objs[k]?=some o) (hlv:o.live=true) (hnr:fB [oW d k S' o]) :
  dZ base ak [oW d k S' o] (fun j=>if j=0 then ay k else none) w'∧
  ∀ v,bS w' (dn base S'.objs ay) S'.objs ay (.bA k o.ver) v→bS w' (dn base [oW d k S' o] (fun j=>if j=0 then ay k else none)) [oW d k S' o] (fun j=>if j=0 then ay k else none) (.bA 0 0) v:=by
 unfold oW at hnr ⊢
 refine ⟨⟨?_,?_,?_⟩,fun v hx=>?_⟩
 · intro j o1 hj hl1
   cases j with
   | succ j=>simp at hj
   | zero=>
    simp only [List.getElem?_cons_zero,Option.some.injEq] at hj
    subst hj
    have hb:=R'.objs.ob k o ho hlv
    unfold dm at hb ⊢
    simp only [if_true]
    cases hg:ay k with
    | none=>rw [hg] at hb;simp [gM,hb]
    | some g=>
     rw [hg] at hb
     obtain ⟨c',hc,h7,h8⟩:=hb
     refine ⟨c',hc,by simpa [gM,fits] using h7,fun i x hx=>?_⟩
     simp only [gM,List.getElem?_map] at hx
     cases hx0:o.xs[i]? with
     | none=>rw [hx0] at hx;simp at hx
     | some x0=>
      rw [hx0] at hx
      simp only [Option.map_some,Option.some.injEq] at hx
      subst hx
      have e:=mK (Vw d (k+1) S'.objs) x0
      refine ⟨by rw [e,List.length_map];exact (h8 i x0 hx0).1,fun j p hp=>?_⟩
      rw [e,List.getElem?_map] at hp
      cases hp0:x0.cells[j]? with
      | none=>rw [hp0] at hp;simp at hp
      | some p0=>
       rw [hp0] at hp
       simp only [Option.map_some,Option.some.injEq] at hp
       subst hp
       obtain ⟨u,hu,hrr⟩:=(h8 i x0 hx0).2 j p0 hp0
       refine ⟨u,hu,?_⟩
       have h9:=qw R' d (k+1) p0 u hrr
       have h10:(fC d (k+1) S'.objs p0).ref=false:=by
        refine hnr _ List.mem_cons_self (x0.bL (fC d (k+1) S'.objs)) ?_ _ ?_
        · simp only [gM,List.mem_map];exact ⟨x0,List.mem_of_getElem? hx0,rfl⟩
        · rw [e];exact List.mem_map.2 ⟨p0,List.mem_of_getElem? hp0,rfl⟩
       refine .aL ((h9.zJ h10).oV fun b _ hb=>⟨hb.1,fun k' o' hk' _=>?_⟩)
       cases k' with
       | succ k'=>simp at hk'
       | zero=>
        simp only [if_true]
        rw [← hg]
        refine hb.2 k (gM d (k+1) S'.objs o) ?_ hlv
        simp [St.freeze,ho]
 · intro j j' o1 o2 g hne h1 h2 h3 h4
   cases j <;> cases j' <;> simp at h1 h3
   exact absurd rfl hne
 · intro j o1 g h1 h2 h3
   cases j with
   | succ j=>simp at h1
   | zero=>simp only [if_true] at h3;exact R'.objs.np k o g ho hlv h3
 · obtain ⟨h0,o1,h1,h2,h3⟩:=hx
   rw [ho] at h1
   cases h1
   obtain ⟨hM,hh⟩:=h3 hlv rfl
   refine ⟨h0,_,rfl,Nat.le_refl _,fun _ _=>⟨hM,?_⟩⟩
   unfold Bq at hh ⊢
   simp only [if_true]
   cases hg:ay k with
   | none=>rw [hg] at hh;exact ⟨hh.1,by simp [gM,hh.2]⟩
   | some g=>rw [hg] at hh;simpa [gM] using hh
theorem ai.W9 {f:FuncId}{fn:Func}{c:Code}{C:LC}{args:List PV}{o':Obj}(d:Nat){t n:Nat}(hD:∀ t,iY P t (D t)) (hT:H7 P none uQ T) (hm:P.follows .mixedOrders=true)
  (hf:P.funcs[f]?=some fn) (hname:(fn.name== "runtime.NumGoroutine")=false) (hb:fn.body=some c) (hn:fn.ntmps=n) (hr:fn.results=#[.tmp t]) (hC:strip C=comp c)
  (h:lq P D T C (SN d t o') (bZ args n)):ai P f args [] (.bA 0 0) [o']:=by
 refine ⟨⟨fn,hf,hname,by rw [hb];rfl⟩,fun w blk vs base hbase _ hargs=>?_⟩
 have hpw:PW P none uQ c (SN d t o') (bZ args n):=sU hD hm C _ _ _ c _ _ hT hC h
 have R:=DW hbase hargs n
 have hw:=hpw _ _ (fun x=>(⟨w.heap,[],0,w⟩:Wz)=x) (by rintro z rfl;exact ⟨rfl,rfl⟩) _ _ _ ⟨_,rfl,R⟩
 rw [← callsIn_wide (n:=0)]
 refine callsIn_of_wp_marks hf hb trivial ?_
 rw [hn]
 refine wpIn_mono hw ?_
 rintro e a' w' ⟨S0,aaY,⟨he,S',k,ver,o,hwk,ht,ho,hlv,hv,rfl,hnr⟩,_,rfl,R0⟩
 obtain ⟨ay,R'⟩:=hwk _ _ _ _ _ _ (Nat.le_refl _) R0
 have key:∀ w',Rel base (fun b=>b<w.heap.size∧bf [] blk b) ⟨w.heap,[],0,w⟩ S' ay { a' with defers:=[] } w'→∃ v,(results fn a'.tmps).run P w'=.ok v w'∧(∃ v' qm,Ending.returned v=.returned v'∧
     dZ base (fun b=>b<w.heap.size∧bf [] blk b) [oW d k S' o] qm w'∧
     aZ w' (dn base [oW d k S' o] qm) [oW d k S' o] qm (.bA 0 0) v'∧(∀ b,b<w.heap.size→bf [] blk b→w'.heap[b]?=w.heap[b]?)∧w.heap.size≤w'.heap.size∧Sm w w'):=by
  intro w' R'
  have hx:=R'.ev (.tmp t)
  change aZ w' _ _ ay (S'.tmps.getD t .dead) (a'.tmps.getD t undef) at hx
  rw [ht,← hv] at hx
  obtain ⟨c1,c2⟩:=Lh (d:=d) R' ho hlv hnr
  exact ⟨_,results_tmp hr _ _ _,a'.tmps.getD t undef,_,rfl,c1,c2 _ hx,fun b hb1 hb2=>R'.fr b ⟨hb1,hb2⟩,R'.gr,R'.sm⟩
 rcases he with rfl | rfl <;> exact pY _ _ R' key
def aa4 (D:TypeId→aJ) (d:Nat) (rs:List ResultVar) (qs:List PV) (o':Obj) (e:Exit) (S:St):Prop:=
 (e=.normal∨e=.ret)∧∃ S' k o,Weak 0 S S'∧jh D S' rs (fun ps=>ps=.bA k o.ver::qs)∧S'.objs[k]?=some o∧o.live=true∧oW d k S' o=o'∧fB [o']∧qs.all PV.atom=true
theorem ai.SQ {f:FuncId}{fn:Func}{c:Code}{C:LC}{args:List PV}{o':Obj}(d:Nat){rs:List ResultVar}{n:Nat}{qs:List PV}(hD:∀ t,iY P t (D t)) (hT:H7 P none uQ T) (hm:P.follows .mixedOrders=true)
  (hf:P.funcs[f]?=some fn) (hname:(fn.name== "runtime.NumGoroutine")=false) (hb:fn.body=some c) (hn:fn.ntmps=n) (hr:fn.results=rs.toArray) (hl:rs.length≤3) (hC:strip C=comp c)
  (h:lq P D T C (aa4 D d rs qs o') (bZ args n)):ai P f args [] (fA (.bA 0 0::qs)) [o']:=by
 refine ⟨⟨fn,hf,hname,by rw [hb];rfl⟩,fun w blk vs base hbase _ hargs=>?_⟩
 have hpw:PW P none uQ c (aa4 D d rs qs o') (bZ args n):=sU hD hm C _ _ _ c _ _ hT hC h
 have R:=DW hbase hargs n
 have hw:=hpw _ _ (fun x=>(⟨w.heap,[],0,w⟩:Wz)=x) (by rintro z rfl;exact ⟨rfl,rfl⟩) _ _ _ ⟨_,rfl,R⟩
 rw [← callsIn_wide (n:=0)]
 refine callsIn_of_wp_marks hf hb trivial ?_
 rw [hn]
 refine wpIn_mono hw ?_
 rintro e a' w' ⟨S0,aaY,⟨he,S',k,o,hwk,hout,ho,hlv,rfl,hnr,hq⟩,_,rfl,R0⟩
 obtain ⟨ay,R'⟩:=hwk _ _ _ _ _ _ (Nat.le_refl _) R0
 have key:∀ w',Rel base (fun b=>b<w.heap.size∧bf [] blk b) ⟨w.heap,[],0,w⟩ S' ay { a' with defers:=[] } w'→∃ v,(results fn a'.tmps).run P w'=.ok v w'∧(∃ v' qm,Ending.returned v=.returned v'∧
     dZ base (fun b=>b<w.heap.size∧bf [] blk b) [oW d k S' o] qm w'∧
     aZ w' (dn base [oW d k S' o] qm) [oW d k S' o] qm (fA (.bA 0 0::qs)) v'∧(∀ b,b<w.heap.size→bf [] blk b→w'.heap[b]?=w.heap[b]?)∧w.heap.size≤w'.heap.size∧Sm w w'):=by
  intro w' R'
  obtain ⟨vs',ps,h1,h2,h3⟩:=BK hD R' rs _ hout
  subst h2
  obtain ⟨c1,c2⟩:=Lh (d:=d) R' ho hlv hnr
  refine ⟨JO vs',EX hr hl h1,JO vs',_,rfl,c1,?_,fun b hb1 hb2=>R'.fr b ⟨hb1,hb2⟩,R'.gr,R'.sm⟩
  obtain ⟨hl3,h3⟩:=h3
  match vs',qs,hl3,h3,hq with
  | [v],[],_,h3,_=>exact c2 v (h3 0 _ v rfl rfl)
  | v::v'::vs,q::qs,hl3,h3,hq=>
   refine ⟨v::v'::vs,rfl,by simpa using hl3,fun i p u hp hu=>?_⟩
   cases i with
   | zero=>cases hp;cases hu;exact c2 _ (h3 0 _ _ rfl rfl)
   | succ i=>
    have hp':(q::qs)[i]?=some p:=hp
    have ha:=List.all_eq_true.1 hq p (List.mem_of_getElem? hp')
    have h5:=h3 (i+1) p u hp hu
    refine G7 ha (w:=w') (ok:=dn base S'.objs ay) (objs:=S'.objs) (blk:=ay) ?_
    cases p <;> first | exact h5 | (simp [PV.atom] at ha)
 rcases he with rfl | rfl <;> exact pY _ _ R' key
def Zg (n:Nat) (I J:Nat→List Obj→Prop) (e:Exit) (S:St):Prop:=(e=.normal∨e=.ret)∧(I n S.objs∨∃ i,i<n∧J i S.objs)
def H8 (fn:Tab) (y:Nat) (Y:YT) (nx:Nat):Know:=⟨fn,y,Y,false,fun _ _ _=>False,nx⟩
theorem Gives.Gd {f:FuncId}{fn:Func}{c:Code}{C:LC}{cap:List PV}{ys:List (List PV)}{n:Nat}{fnT:Tab}(hD:∀ t,iY P t (D t)) (hT:vN P fnT) (hm:P.follows .mixedOrders=true)
  (hf:P.funcs[f]?=some fn) (hname:(fn.name== "runtime.NumGoroutine")=false) (hb:fn.body=some c) (hn:fn.ntmps=n) (hr:fn.results=#[]) (hC:strip C=comp c)
  (h:∀ (I J:Nat→List Obj→Prop) (objs:List Obj) (y:Nat),I 0 objs→(∀ i O,I i O→objs.length≤O.length∧jR O)→(∀ i O,J i O→objs.length≤O.length∧jR O)→
   lq P D (H8 fnT y (Yt ys I J) objs.length) C (Zg ys.length I J) ⟨(bZ (.Fx y::cap) n).tmps,objs⟩):Gives P f cap ys:=by
 refine ⟨⟨fn,hf,hname,by rw [hb];rfl⟩,fun I J base ak V y objs blk w JN hY hnx hR hI0 Jv Yu hcap=>?_⟩
 obtain ⟨w0,hV,R⟩:=hR
 let E:Env:=fun base' za V'=>base'=base∧za=ak∧V'=V
 have hk:H7 P none E (H8 fnT y (Yt ys I J) objs.length):=
  ⟨hT,by rintro b p v ⟨rfl,rfl,rfl⟩;exact hY,by rintro b p v ⟨rfl,rfl,rfl⟩;exact hnx,(fun h=>by cases h),fun _ _ _ h=>h.elim⟩
 have hpw:PW P none E c (Zg ys.length I J) ⟨(bZ (.Fx y::cap) n).tmps,objs⟩:=sU hD hm C _ _ _ c _ _ hk hC (h I J objs y hI0 Jv Yu)
 have hargs:dw (aZ w (dn base objs blk) objs blk) (.Fx y::cap) (.func (.yield y) #[] #[]::JN):=by
  refine ⟨by simpa using hcap.1,fun i p v hp hv=>?_⟩
  cases i with
  | zero=>
   simp only [List.getElem?_cons_zero,Option.some.injEq] at hp hv
   subst hp;subst hv
   exact .aL (.Fx y)
  | succ i=>exact .aL (hcap.2 i p v (by simpa using hp) (by simpa using hv))
 have R1:Rel base ak w0 ⟨(bZ (.Fx y::cap) n).tmps,objs⟩ blk { tmps:=(⟨.func (.yield y) #[] #[]::JN⟩:Array Value)++Array.replicate (n-(⟨.func (.yield y) #[] #[]::JN⟩:Array Value).size) undef,defers:=[] } w:=by
  have hl:=hargs.1
  refine ⟨.nil _ _,?_,fun t p hp=>?_,R.objs,R.pr,R.fr,R.gr,R.pb,R.ext,R.K4,R.sm,R.gl⟩
  · simp only [bZ,Array.size_append,Array.size_replicate,List.length_append,List.length_replicate,hl]
    simp
  · simp only [bZ] at hp
    rw [List.getElem?_append] at hp
    split at hp
    · rename_i ht
      obtain ⟨v,hv⟩:∃ v,(Value.func (.yield y) #[] #[]::JN)[t]?=some v:=⟨_,List.getElem?_eq_getElem (by omega)⟩
      have hg:((⟨.func (.yield y) #[] #[]::JN⟩:Array Value)++Array.replicate (n-(⟨.func (.yield y) #[] #[]::JN⟩:Array Value).size) undef).getD t undef=v:=by
       rw [Array.getD_eq_getD_getElem?,Array.getElem?_append,if_pos (by simpa using (by rw [← hl];exact ht:t<(Value.func (.yield y) #[] #[]::JN).length))]
       simp [hv]
      rw [hg]
      exact hargs.2 t p v hp hv
    · rw [List.getElem?_replicate] at hp
      split at hp
      · cases hp;exact .dead _
      · cases hp
 have hw:=hpw base ak V ⟨rfl,rfl,rfl⟩ blk _ w ⟨w0,hV,R1⟩
 rw [← callsIn_wide (n:=0)]
 refine callsIn_of_wp_marks hf hb trivial ?_
 rw [hn]
 refine wpIn_mono hw ?_
 rintro e a' w' ⟨S',ay,⟨he,hI⟩,w0',hV',R'⟩
 have key:∀ w'',Rel base ak w0' S' ay { a' with defers:=[] } w''→∃ v,(results fn a'.tmps).run P w''=.ok v w''∧(∃ objs' qm,Ending.returned v=.returned (.tuple #[])∧(I ys.length objs'∨∃ i,i<ys.length∧J i objs')∧qW base ak V ⟨[],objs'⟩ qm Y7 w''):=by
  intro w'' R''
  refine ⟨_,results_none hr _ _ _,S'.objs,ay,rfl,hI,w0',hV',.nil _ _,rfl,fun t p hp=>by simp at hp,R''.objs,R''.pr,R''.fr,R''.gr,R''.pb,R''.ext,R''.K4,R''.sm,R''.gl⟩
 rcases he with rfl | rfl <;> exact pY _ _ R' key
theorem W_ {w:World}{ok:Nat→Prop}{sz:Nat}{xs:List PV}{v:Value}(h:dN w ok (.sl sz xs none) v):(xs=[]∧dN w ok (.sl sz xs (some true)) v)∨dN w ok (.sl sz xs (some false)) v:=by
 cases h with
 | slnil _ _ _=>exact .inl ⟨rfl,.slnil _ _ (by simp)⟩
 | JB _ _ _ a cap hc=>exact .inr (.JB _ _ (by simp) a cap hc)
 | sl _ _ _ _ b off cap vs h1 h2 h3 h4 h5 h6=>exact .inr (.sl _ _ _ (by simp) b off cap vs h1 h2 h3 h4 h5 h6)
theorem ai.split {f:FuncId}{pre post:List PV}{sz:Nat}{xs:List PV}{r:PV}{os:List Obj}(h1:xs=[]→ai P f (pre++.sl sz [] (some true)::post) [] r os) (h2:ai P f (pre++.sl sz xs (some false)::post) [] r os) :
  ai P f (pre++.sl sz xs none::post) [] r os:=by
 refine ⟨h2.1,fun w blk vs base hb ho hargs=>?_⟩
 have key:∀ p:PV,(∀ v,aZ w (dn base [] blk) [] blk (.sl sz xs none) v→vs[pre.length]?=some v→aZ w (dn base [] blk) [] blk p v)→dw (aZ w (dn base [] blk) [] blk) (pre++p::post) vs:=by
  intro p hp
  refine ⟨by have:=hargs.1;simpa using this,fun i q u hq hu=>?_⟩
  rw [List.getElem?_append] at hq
  by_cases hi:i<pre.length
  · rw [if_pos hi] at hq
    exact hargs.2 i q u (by rw [List.getElem?_append,if_pos hi];exact hq) hu
  · rw [if_neg hi] at hq
    by_cases he:i=pre.length
    · subst he
      simp only [Nat.sub_self,List.getElem?_cons_zero,Option.some.injEq] at hq
      subst hq
      exact hp u (hargs.2 pre.length _ u (by rw [List.getElem?_append,if_neg (by omega)];simp) hu) hu
    · refine hargs.2 i q u ?_ hu
      rw [List.getElem?_append,if_neg hi]
      obtain ⟨j,hj⟩:∃ j,i-pre.length=j+1:=⟨i-pre.length-1,by omega⟩
      rw [hj] at hq ⊢
      simpa using hq
 have hlt:pre.length<vs.length:=by have:=hargs.1;simp at this;omega
 have hr:dN w (dn base [] blk) (.sl sz xs none) (vs[pre.length]):=hargs.2 pre.length (.sl sz xs none) _ (by simp) (List.getElem?_eq_getElem hlt)
 rcases W_ hr with ⟨rfl,hr⟩ | hr
 · exact (h1 rfl).2 w blk vs base hb ho (key _ fun v _ hv=>by rw [List.getElem?_eq_getElem hlt] at hv;cases hv;exact hr)
 · exact h2.2 w blk vs base hb ho (key _ fun v _ hv=>by rw [List.getElem?_eq_getElem hlt] at hv;cases hv;exact hr)
theorem ai.Zh {f:FuncId}{args:List PV}{r r':PV}(h:ai P f args [] r []) (hr:∀ w ok v,dN w ok r v→dN w ok r' v):ai P f args [] r' []:=by
 refine ⟨h.1,fun w blk vs base hb ho hargs=>Calls.mono (h.2 w blk vs base hb ho hargs) ?_⟩
 rintro e w' ⟨v,ay,h1,h2,h3,h4,h5⟩
 exact ⟨v,ay,h1,h2,.aL (hr _ _ _ (wN h3)),h4,h5⟩
theorem MN {w:World}{ok:Nat→Prop}{s s':Nat}{q:Option Bool}{v:Value}(h:dN w ok (.sl s [] (some true)) v) (hq:q≠some false):dN w ok (.sl s' [] q) v:=by
 cases h with
 | slnil _ _ _=>exact .slnil _ _ hq
 | JB _ _ hq'=>exact absurd rfl hq'
 | sl _ _ _ hq'=>exact absurd rfl hq'
end Lp
namespace Lp
open Go
def aO (P:Program) (f:FuncId) (n:Nat) (rs:List ResultVar) (C:LC):Prop:=
 ∃ fn c,P.funcs[f]?=some fn∧(fn.name== "runtime.NumGoroutine")=false∧fn.body=some c∧fn.ntmps=n∧fn.results=rs.toArray∧strip C=comp c
abbrev dJ:=List PV→List Obj→KT→Prop
def aD (P:Program) (f:FuncId) (c:dJ):Prop:=∀ args objs K,c args objs K→∃ r objs' t,mI P f args objs r objs' t∧K r objs' t
def uR:List (FuncId×dJ)→Tab
 | [],_,_,_,_=>False
 | (g,c)::l,f,args,objs,K=>bif f==g then c args objs K else uR l f args objs K
def aP (P:Program) (l:List (FuncId×dJ)):Know:=⟨uR l,0,fun _ _ _=>False,true,Gives P,0⟩
theorem ah {P:Program}:vN P (uR []):=fun _ _ _ _ h=>h.elim
theorem af {P:Program}{g:FuncId}{c:dJ}{l:List (FuncId×dJ)}(h:aD P g c) (hl:vN P (uR l)):vN P (uR ((g,c)::l)):=by
 intro f args objs K hh
 unfold uR at hh
 cases he:f==g with
 | true=>
  rw [he] at hh
  have:f=g:=by simpa using he
  subst this
  exact h args objs K hh
 | false=>rw [he] at hh;exact hl f args objs K hh
theorem aj {P:Program}{l:List (FuncId×dJ)}(h:vN P (uR l)):H7 P none uQ (aP P l):=.ae0 h rfl fun _ _ _ h=>h
variable {P:Program}{D:TypeId→aJ}{T:Know}
theorem aO.pure {f:FuncId}{n:Nat}{rs:List ResultVar}{C:LC}{args:List PV}{r:PV}(h:aO P f n rs C) (d:Nat) (hD:∀ t,iY P t (D t)) (hT:H7 P none uQ T) (hm:P.follows .mixedOrders=true) (hl:rs.length≤3)
  (hw:lq P D T C (WY D d rs r) (bZ args n)):ai P f args [] r []:=by
 obtain ⟨fn,c,h1,h2,h3,h4,h5,h6⟩:=h
 exact ai.Gd d hD hT hm h1 h2 h3 h4 h5 hl h6 hw
theorem aO.made {f:FuncId}{n t:Nat}{C:LC}{args:List PV}{o':Obj}(h:aO P f n [.tmp t] C) (d:Nat) (hD:∀ t,iY P t (D t)) (hT:H7 P none uQ T) (hm:P.follows .mixedOrders=true)
  (hw:lq P D T C (SN d t o') (bZ args n)):ai P f args [] (.bA 0 0) [o']:=by
 obtain ⟨fn,c,h1,h2,h3,h4,h5,h6⟩:=h
 exact ai.W9 d hD hT hm h1 h2 h3 h4 h5 h6 hw
theorem aO.adW {f:FuncId}{n:Nat}{rs:List ResultVar}{C:LC}{args:List PV}{qs:List PV}{o':Obj}(h:aO P f n rs C) (d:Nat) (hD:∀ t,iY P t (D t)) (hT:H7 P none uQ T) (hm:P.follows .mixedOrders=true) (hl:rs.length≤3)
  (hw:lq P D T C (aa4 D d rs qs o') (bZ args n)):ai P f args [] (fA (.bA 0 0::qs)) [o']:=by
 obtain ⟨fn,c,h1,h2,h3,h4,h5,h6⟩:=h
 exact ai.SQ d hD hT hm h1 h2 h3 h4 h5 hl h6 hw
theorem aO.gives {f:FuncId}{n:Nat}{C:LC}{cap:List PV}{ys:List (List PV)}{fnT:Tab}(h:aO P f n [] C) (hD:∀ t,iY P t (D t)) (hT:vN P fnT) (hm:P.follows .mixedOrders=true)
  (hw:∀ (I J:Nat→List Obj→Prop) (objs:List Obj) (y:Nat),I 0 objs→(∀ i O,I i O→objs.length≤O.length∧jR O)→(∀ i O,J i O→objs.length≤O.length∧jR O)→
   lq P D (H8 fnT y (Yt ys I J) objs.length) C (Zg ys.length I J) ⟨(bZ (.Fx y::cap) n).tmps,objs⟩):Gives P f cap ys:=by
 obtain ⟨fn,c,h1,h2,h3,h4,h5,h6⟩:=h
 exact Gives.Gd hD hT hm h1 h2 h3 h4 h5 h6 hw
def mkT (n:Nat) (l:List (Nat×PV)):List PV:=l.foldl (fun tm x=>tm.set x.1 x.2) (List.replicate n .dead)
def lU (v:PV) (d:Nat) (want:Bool) (S:St) (X Y:St→Prop):Prop:=
 match v with
 | .bool b=>(b=want→X { S with tmps:=S.tmps.set d (.bool want) })∧(b=!want→Y { S with tmps:=S.tmps.set d (.bool !want) })
 | .bP []=>Y S
 | _=>False
def noTwo:List Nat→Bool
 | []=>true
 | t::ts=>co t !=2 && noTwo ts
theorem DX:∀ (ts:List Nat) (i:Nat),noTwo ts=true→co (ts.getD i 0)≠2
 | [],i,_=>by simp [co]
 | t::ts,i,h=>by
  simp only [noTwo,Bool.and_eq_true,bne_iff_ne,ne_eq] at h
  cases i with
  | zero=>simpa using h.1
  | succ i=>simpa using DX ts i h.2
theorem MO (un ts:List Nat):(nR un ts=true)=((noTwo ts || nR un ts)=true):=by
 cases h:noTwo ts with
 | false=>rfl
 | true=>
  have:qx un ts=true:=by
   unfold qx
   rw [List.all_eq_true]
   intro i _
   simp only [Bool.or_eq_true,List.all_eq_true]
   right
   intro j _
   have h1:=DX ts i h
   have h2:=DX ts j h
   simp only [beq_eq_false_iff_ne.2 h1,beq_eq_false_iff_ne.2 h2,Bool.false_and,Bool.or_false,Bool.not_false,or_true]
  simp [nR,this]
theorem BL :
  (∀ (Q:Exit→St→Prop) S,lq P D T .skip Q S=Q .normal S)∧
  (∀ (Q:Exit→St→Prop) S,lq P D T .ret Q S=Q .ret S)∧
  (∀ id (Q:Exit→St→Prop) S,lq P D T (.exit id) Q S=Q (.exit id) S)∧
  (∀ ss (Q:Exit→St→Prop) S,lq P D T (.reg ss) Q S=LR P D T ss S [] fun S' _=>Q .normal S')∧
  (∀ ss un (Q:Exit→St→Prop) S,lq P D T (.draw ss un) Q S=LR P D T.noY ss S [] fun S' ts=>(noTwo ts || nR un ts)=true∧Q .normal S')∧
  (∀ a b (Q:Exit→St→Prop) S,lq P D T (.seq a b) Q S=lq P D T a (thenS (fun S'=>lq P D T b Q S') Q) S)∧
  (∀ c a b (Q:Exit→St→Prop) S,lq P D T (.cond c a b) Q S=ze (S.ev c) (lq P D T a Q S) (lq P D T b Q S))∧
  (∀ id c (Q:Exit→St→Prop) S,lq P D T (.block id c) Q S=lq P D T c (rX id Q) S):=by
 refine ⟨fun _ _=>rfl,fun _ _=>rfl,fun _ _ _=>rfl,fun _ _ _=>rfl,fun ss un Q S=>?_,fun _ _ _ _=>rfl,fun _ _ _ _ _=>rfl,fun _ _ _ _=>rfl⟩
 simp only [← MO]
 rfl
theorem zP :
  (∀ (n:St→Prop) (Q:Exit→St→Prop) S,thenS n Q .normal S=n S)∧
  (∀ (n:St→Prop) (Q:Exit→St→Prop) S,thenS n Q .ret S=Q .ret S)∧
  (∀ (n:St→Prop) (Q:Exit→St→Prop) S id,thenS n Q (.exit id) S=Q (.exit id) S)∧
  (∀ (Q:Exit→St→Prop) S id,rX id Q .normal S=Q .normal S)∧
  (∀ (Q:Exit→St→Prop) S id,rX id Q .ret S=Q .ret S)∧
  (∀ (Q:Exit→St→Prop) S id id',rX id Q (.exit id') S=if id'=id then Q .normal S else Q (.exit id') S)∧
  (∀ b X Y,ze (.bool b) X Y=((b=true→X)∧(b=false→Y))):=
 ⟨fun _ _ _=>rfl,fun _ _ _=>rfl,fun _ _ _ _=>rfl,fun _ _ _=>rfl,fun _ _ _=>rfl,fun _ _ _ _=>rfl,fun _ _ _=>rfl⟩
theorem DY :
  (∀ S ts (K:St→List Nat→Prop),LR P D T [] S ts K=K S ts)∧
  (∀ d o g w rest S ts (K:St→List Nat→Prop),LR P D T (⟨d,o,g,w⟩::rest) S ts K=wJ g S
   (fun S=>mg P D T w (S.tmps.all PV.pure) S.ev S.objs o fun r objs' t=>LR P D T rest (St.put ⟨S.tmps,objs'⟩ d r) (ts++[t]) K)
   (fun S=>LR P D T rest (S.put d (.bP [])) (ts++[0]) K)):=⟨fun _ _ _=>rfl,fun _ _ _ _ _ _ _ _=>rfl⟩
theorem DZ :
  (∀ (S:St) (X Y:St→Prop),wJ none S X Y=X S)∧
  (∀ d w (S:St) (X Y:St→Prop),wJ (some (some d,w)) S X Y=lU (S.tmps.getD d .dead) d w S X Y)∧
  (∀ b d w (S:St) (X Y:St→Prop),lU (.bool b) d w S X Y=((b=w→X { S with tmps:=S.tmps.set d (.bool w) })∧(b=!w→Y { S with tmps:=S.tmps.set d (.bool !w) })))∧
  (∀ d w (S:St) (X Y:St→Prop),lU (.bP []) d w S X Y=Y S):=⟨fun _ _ _=>rfl,fun _ _ _ _ _=>rfl,fun _ _ _ _ _ _=>rfl,fun _ _ _ _ _=>rfl⟩
theorem zQ :
  (∀ tm ob d p,St.put ⟨tm,ob⟩ (some d) p=⟨tm.set d p,ob⟩)∧
  (∀ tm ob p,St.put ⟨tm,ob⟩ none p=⟨tm,ob⟩)∧
  (∀ tm ob t,St.ev ⟨tm,ob⟩ (.tmp t)=tm.getD t .dead)∧
  (∀ (S:St) v,S.ev (.const v)=.wz v)∧
  (∀ (S:St) f,S.ev (.func f)=.fn f [] [])∧
  (∀ k n,PV.wz (.int k n)=.int k n)∧(∀ b,PV.wz (.bool b)=.bool b)∧(∀ l,PV.wz (.string ⟨⟨l⟩⟩)=.str l)∧
  (PV.wz (.slice none 0 0)=.sl 0 [] (some true))∧(PV.wz (.pointer none)=.Bp)∧(PV.wz .nilFunc=.Dy)∧
  (∀ args n,bZ args n=⟨args++List.replicate (n-args.length) .dead,[]⟩):=
 ⟨fun _ _ _ _=>rfl,fun _ _ _=>rfl,fun _ _ _=>rfl,fun _ _=>rfl,fun _ _=>rfl,
  fun _ _=>rfl,fun _=>rfl,fun _=>rfl,rfl,rfl,rfl,fun _ _=>rfl⟩
theorem nT (w pt:Bool) (ev:Operand→PV) (objs:List Obj) (K:KT) :
  (∀ x,mg P D T w pt ev objs (.move x) K=K (ev x) objs 0)∧(∀ x,mg P D T w pt ev objs (.assign x) K=K (ev x) objs 0)∧
  (∀ c x y,mg P D T w pt ev objs (.pick c x y) K=rC (ev c) (ev x) (ev y) objs K)∧
  (∀ t,mg P D T w pt ev objs (.alloc t) K=rW t (D t) objs K)∧
  (∀ t x,mg P D T w pt ev objs (.box t x) K=JE t (D t) (ev x) objs K)∧
  (∀ t ps,mg P D T w pt ev objs (.build t ps) K=bK D t (ps.toList.map fun x=>(x.1,ev x.2)) objs K)∧
  (∀ t n ps,mg P D T w pt ev objs (.buildSlice t n ps) K=bQ D w t n (ps.toList.map fun x=>(x.1,ev x.2)) objs K)∧
  (∀ t x,mg P D T w pt ev objs (.load t x) K=fF (D t) (ev x) objs K)∧
  (∀ t x y,mg P D T w pt ev objs (.store t x y) K=jQ (D t) (ev x) (ev y) objs K)∧
  (∀ x,mg P D T w pt ev objs (.nilCheck x) K=dS (ev x) objs K)∧
  (∀ b t x y t',mg P D T w pt ev objs (.binOp b t x y t') K=qf P (D t) t b (ev x) (ev y) fun r=>K r objs 0)∧
  (∀ u t x,mg P D T w pt ev objs (.unOp u t x) K=OJ u (ev x) fun r=>K r objs 0)∧
  (∀ s t x,mg P D T w pt ev objs (.convert s t x) K=ko D s t (ev x) objs K)∧
  (∀ f first cap,mg P D T w pt ev objs (.makeFunc (.func f) first cap) K=jO f (first.toList.map ev) (cap.toList.map ev) objs K)∧
  (∀ t l c,mg P D T w pt ev objs (.makeSlice t l c) K=fI D t (ev l) (ev c) objs K)∧
  (∀ t x lo hi,mg P D T w pt ev objs (.slice t x lo hi none) K=jf D t (ev x) (lo.map ev) (hi.map ev) objs K)∧
  (∀ t x f,mg P D T w pt ev objs (.fieldAddr t x f) K=aN D t (ev x) f objs K)∧
  (∀ t x f,mg P D T w pt ev objs (.field t x f) K=oP D t (ev x) f objs K)∧
  (∀ t x i,mg P D T w pt ev objs (.indexAddr t x i) K=bq D t (ev x) (ev i) objs K)∧
  (∀ t x i,mg P D T w pt ev objs (.index t x i) K=lS D t (ev x) (ev i) objs K)∧
  (∀ x i,mg P D T w pt ev objs (.extract x i) K=bU (ev x) i objs K)∧
  (∀ t x at',mg P D T w pt ev objs (.call { callee:=.builtin .len,args:=⟨[x]⟩,argTypes:=⟨t::at'⟩ }) K=fG D .len (t::at') [x] ev objs K)∧
  (∀ b args ats,mg P D T w pt ev objs (.call { callee:=.builtin b,args:=args,argTypes:=ats }) K=fG D b ats.toList args.toList ev objs K)∧
  (∀ f args ats,mg P D T w pt ev objs (.call { callee:=.value f,args:=args,argTypes:=ats }) K=oJ T pt (ev f) (args.toList.map ev) objs K):=
 ⟨fun _=>rfl,fun _=>rfl,fun _ _ _=>rfl,fun _=>rfl,fun _ _=>rfl,fun _ _=>rfl,fun _ _ _=>rfl,fun _ _=>rfl,fun _ _ _=>rfl,fun _=>rfl,fun _ _ _ _ _=>rfl,fun _ _ _=>rfl,fun _ _ _=>rfl,
  fun _ _ _=>rfl,fun _ _ _=>rfl,fun _ _ _ _=>rfl,fun _ _ _=>rfl,fun _ _ _=>rfl,fun _ _ _=>rfl,fun _ _ _=>rfl,fun _ _=>rfl,fun _ _ _=>rfl,fun _ _ _=>rfl,fun _ _ _=>rfl⟩
theorem caR :
  (∀ pt g first cap args objs (K:KT),oJ T pt (.fn g first cap) args objs K=T.fn g (first++args++cap) objs K)∧
  (∀ pt l args objs (K:KT),oJ T pt (.Fx l) args objs K=(l=T.y∧pt=true∧args.all PV.pure=true∧T.Y args objs fun b o=>K (.bool b) o 2)):=
 ⟨fun _ _ _ _ _ _ _=>rfl,fun _ _ _ _ _=>rfl⟩
theorem Gf (l:List (FuncId×dJ)):((aP P l).noY=aP P l)∧((aP P l).fn=uR l)∧((aP P l).nx=0)∧((aP P l).top=true)∧((aP P l).gives=Gives P):=⟨rfl,rfl,rfl,rfl,rfl⟩
theorem kiR (fn:Tab) (y:Nat) (Y:YT) (nx:Nat):((H8 fn y Y nx).fn=fn)∧((H8 fn y Y nx).y=y)∧((H8 fn y Y nx).Y=Y)∧((H8 fn y Y nx).nx=nx):=⟨rfl,rfl,rfl,rfl⟩
theorem taR (g f:FuncId) (c:dJ) (l:List (FuncId×dJ)) (args:List PV) (objs:List Obj) (K:KT):uR ((g,c)::l) f args objs K=bif f==g then c args objs K else uR l f args objs K:=rfl
def kindOf:TypeDesc→TK
 | .string=>.str
 | .bool=>.bool
 | .int k=>.int k
 | .slice e=>.slice e
 | .array n e=>.array n e
 | .struct fl=>.struct (fl.toList.map fun f=>(f.offset,f.type))
 | .map k e=>.map k e
 | _=>.other
theorem ac1 {P:Program}{t:TypeId}{k:TK}{sz by':Nat}{z:Value}(h1:(P.info? t).map (fun i=>(i.size,i.bytes,i.zero))=some (sz,by',some z)) (h2:(P.underlying t).map kindOf=some k) (h3:Nat.beq t MT=false):iY P t ⟨k,sz,by',z⟩:=by
 cases hi:P.info? t with
 | none=>rw [hi] at h1;simp at h1
 | some i=>
  rw [hi] at h1
  simp only [Option.map_some,Option.some.injEq,Prod.mk.injEq] at h1
  cases hu:P.underlying t with
  | none=>rw [hu] at h2;simp at h2
  | some d=>
   rw [hu] at h2
   simp only [Option.map_some,Option.some.injEq] at h2
   subst h2
   refine .inr ⟨⟨i,hi,h1.1,h1.2.1,h1.2.2,fun e=>by rw [e] at h3;exact absurd h3 (by decide)⟩,?_⟩
   cases d <;> simp only [kindOf] <;> first
    | exact hu
    | exact ⟨_,hu,rfl⟩
theorem MP {P:Program}{t:TypeId}:iY P t aJ.off:=.inl rfl
end Lp
namespace Lp
open Go
variable {P:Program}{D:TypeId→aJ}{T:Know}{objs objs':List Obj}{K:KT}
@[congr] theorem adX {ss:List Step}{S S':St}{ts ts':List Nat}{K:St→List Nat→Prop}(h:S=S') (h':ts=ts'):LR P D T ss S ts K=LR P D T ss S' ts' K:=by rw [h,h']
@[congr] theorem aa5 {v v':PV}{d:Nat}{w:Bool}{S:St}{X Y:St→Prop}(h:v=v'):lU v d w S X Y=lU v' d w S X Y:=by rw [h]
@[congr] theorem abU {v v':PV}{X Y:Prop}(h:v=v'):ze v X Y=ze v' X Y:=by rw [h]
@[congr] theorem abV {c c' x x' y y':PV}(h1:c=c') (h2:x=x') (h3:y=y') (ho:objs=objs'):rC c x y objs K=rC c' x' y' objs' K:=by rw [h1,h2,h3,ho]
@[congr] theorem aa6 {t:TypeId}{ti VB:aJ}(h:ti=VB) (ho:objs=objs'):rW t ti objs K=rW t VB objs' K:=by rw [h,ho]
@[congr] theorem ac2 {t:TypeId}{ti VB:aJ}{v v':PV}(h:ti=VB) (h1:v=v') (ho:objs=objs'):JE t ti v objs K=JE t VB v' objs' K:=by rw [h,h1,ho]
@[congr] theorem aa7 {t:TypeId}{ps ps':List (Nat×PV)}(h:ps=ps') (ho:objs=objs'):bK D t ps objs K=bK D t ps' objs' K:=by rw [h,ho]
@[congr] theorem VD {own:Bool}{t:TypeId}{n:Nat}{ps ps':List (Nat×PV)}(h:ps=ps') (ho:objs=objs'):bQ D own t n ps objs K=bQ D own t n ps' objs' K:=by rw [h,ho]
@[congr] theorem abW {ti VB:aJ}{p p':PV}(h:ti=VB) (h1:p=p') (ho:objs=objs'):fF ti p objs K=fF VB p' objs' K:=by rw [h,h1,ho]
@[congr] theorem aa8 {ti VB:aJ}{p p' v v':PV}(h:ti=VB) (h1:p=p') (h2:v=v') (ho:objs=objs'):jQ ti p v objs K=jQ VB p' v' objs' K:=by rw [h,h1,h2,ho]
@[congr] theorem Yv {x x':PV}(h:x=x') (ho:objs=objs'):dS x objs K=dS x' objs' K:=by rw [h,ho]
@[congr] theorem ac3 {ti VB:aJ}{t:TypeId}{b:BinOp}{x x' y y':PV}{K:PV→Prop}(h:ti=VB) (h1:x=x') (h2:y=y'):qf P ti t b x y K=qf P VB t b x' y' K:=by rw [h,h1,h2]
@[congr] theorem adB {u:UnOp}{x x':PV}{K:PV→Prop}(h:x=x'):OJ u x K=OJ u x' K:=by rw [h]
@[congr] theorem abX {s s' d d':aJ}{x x':PV}{K:PV→Prop}(h:s=s') (h1:d=d') (h2:x=x'):nE s d x K=nE s' d' x' K:=by rw [h,h1,h2]
@[congr] theorem Yw {f:FuncId}{a a' c c':List PV}(h:a=a') (h1:c=c') (ho:objs=objs'):jO f a c objs K=jO f a' c' objs' K:=by rw [h,h1,ho]
@[congr] theorem Xa {t:TypeId}{l l' c c':PV}(h:l=l') (h1:c=c') (ho:objs=objs'):fI D t l c objs K=fI D t l' c' objs' K:=by rw [h,h1,ho]
@[congr] theorem aa9 {t:TypeId}{x x':PV}{lo lo' hi hi':Option PV}(h:x=x') (h1:lo=lo') (h2:hi=hi') (ho:objs=objs'):jf D t x lo hi objs K=jf D t x' lo' hi' objs' K:=by rw [h,h1,h2,ho]
@[congr] theorem Xb {t:TypeId}{x x':PV}{f:Nat}(h:x=x') (ho:objs=objs'):aN D t x f objs K=aN D t x' f objs' K:=by rw [h,ho]
@[congr] theorem aa_ {t:TypeId}{x x':PV}{f:Nat}(h:x=x') (ho:objs=objs'):oP D t x f objs K=oP D t x' f objs' K:=by rw [h,ho]
@[congr] theorem Xc {t:TypeId}{x x' i i':PV}(h:x=x') (h1:i=i') (ho:objs=objs'):bq D t x i objs K=bq D t x' i' objs' K:=by rw [h,h1,ho]
@[congr] theorem abb {t:TypeId}{x x' i i':PV}(h:x=x') (h1:i=i') (ho:objs=objs'):lS D t x i objs K=lS D t x' i' objs' K:=by rw [h,h1,ho]
@[congr] theorem Zi {x x':PV}{i:Nat}(h:x=x') (ho:objs=objs'):bU x i objs K=bU x' i objs' K:=by rw [h,ho]
@[congr] theorem ac4 {t:TypeId}{x x':PV}(h:x=x') (ho:objs=objs'):qg D t x objs K=qg D t x' objs' K:=by rw [h,ho]
@[congr] theorem aaB {t u:TypeId}{s s' x x':PV}(h:s=s') (h1:x=x') (ho:objs=objs'):eO D t u s x objs K=eO D t u s' x' objs' K:=by rw [h,h1,ho]
@[congr] theorem aaC {b:Bool}{xs xs':List PV}{K:PV→Prop}(h:xs=xs'):iI b xs K=iI b xs' K:=by rw [h]
@[congr] theorem abY {pt pt':Bool}{f f':PV}{args args':List PV}(hp:pt=pt') (h:f=f') (h1:args=args') (ho:objs=objs'):oJ T pt f args objs K=oJ T pt' f' args' objs' K:=by rw [hp,h,h1,ho]
@[congr] theorem abZ {pl:Nat→Option (Nat×Nat)}{cs cs':List PV}{ps:List (Nat×PV)}{K:List PV→Prop}(h:cs=cs'):oH pl cs ps K=oH pl cs' ps K:=by rw [h]
@[congr] theorem abd {x x':Option PV}{d d':Int}{K:Int→Prop}(h:x=x') (h1:d=d'):dH x d K=dH x' d' K:=by rw [h,h1]
@[congr] theorem adC {C:LC}{Q:Exit→St→Prop}{S S':St}(h:S=S'):lq P D T C Q S=lq P D T C Q S':=by rw [h]
theorem aF {ks:List Bool}{fz:Option (Nat×Nat)}{c:LC}{Q:Exit→St→Prop}{S:St}(I:Nat→St→Prop) (m:Nat) (h0:I m (S.norm ks fz))
  (hr:∀ m S,I m S→lq P D T c (thenS (fun S'=>∃ m',m'<m∧I m' (S'.norm ks fz)) Q) S) (hz:JM T.nx fz:=by exact trivial):lq P D T (.loop ks fz c) Q S:=⟨hz,I,⟨_,m,Weak.norm ks fz hz S,h0⟩,hr⟩
theorem xV {ks:List Bool}{fz:Option (Nat×Nat)}{c:LC}{Q:Exit→St→Prop}{S:St}(S0:St) (I:Nat→St→Prop) (m:Nat) (hw:Weak T.nx (S.norm ks fz) S0) (h0:I m S0)
  (hr:∀ m S,I m S→lq P D T c (thenS (fun S'=>∃ m',m'<m∧I m' (S'.norm ks fz)) Q) S) (hz:JM T.nx fz:=by exact trivial):lq P D T (.loop ks fz c) Q S:=⟨hz,I,⟨S0,m,(Weak.norm ks fz hz S).trans hw,h0⟩,hr⟩
theorem aT {c:LC}{Q:Exit→St→Prop}{S:St}(S':St) (hw:Weak T.nx S S') (h:lq P D T c Q S'):lq P D T (.weak c) Q S:=⟨S',hw,h⟩
theorem H9 {f:Operand}{ps:List Nat}{fz:Option (Nat×Nat)}{x y:LC}{Q:Exit→St→Prop}{S:St}(g:FuncId) (cap:List PV) (ys:List (List PV)) (I:Nat→List Obj→Prop) (ht:T.top=true)
  (hf:S.ev f=.fn g [] cap) (hc:cap.all PV.pure=true) (hz:JM S.objs.length fz) (hg:T.gives g cap ys) (hy:∀ y ∈ ys,y.length=ps.length) (h0:I 0 S.objs) (hl:∀ i objs,I i objs→S.objs.length≤objs.length∧jR objs)
  (hr:∀ i args objs,I i objs→ys[i]?=some args→lq P D (T.inner S.objs.length) x (thenS (fun S1=>lq P D (T.inner S.objs.length) y (SG fz (I (i+1))) S1) (fun _ _=>False)) ⟨qX ps args S.tmps,objs⟩)
  (he:∀ objs,I ys.length objs→Q .normal ⟨S.tmps,objs⟩):lq P D T (.rf f ps fz x y) Q S:=⟨ht,g,cap,ys,hf,hc,hg,hy,.inl ⟨I,hz,h0,hl,hr,he⟩⟩
theorem abe {f:Operand}{ps:List Nat}{fz:Option (Nat×Nat)}{x y:LC}{Q:Exit→St→Prop}{S:St}(g:FuncId) (cap:List PV) (ys:List (List PV)) (I J:Nat→List Obj→Prop) (lv:Exit){lc:Code}(hlv:Hw lv=some lc) (ht:T.top=true)
  (hf:S.ev f=.fn g [] cap) (hc:cap.all PV.pure=true) (hz:JM (S.objs.length+2) fz) (hg:T.gives g cap ys) (hy:∀ y ∈ ys,y.length=ps.length) (h0:I 0 (S.objs++[Dq,hole])) (hl:∀ i objs,I i objs→Gh S.objs.length objs)
  (hj:∀ i objs,J i objs→Gh S.objs.length objs∧fB objs)
  (hr:∀ i args objs,I i objs→ys[i]?=some args→lq P D (T.inner (S.objs.length+2)) x (thenS (fun S1=>lq P D (T.inner (S.objs.length+2)) y (MI fz (I (i+1)) lv (J i)) S1) (fun _ _=>False)) ⟨qX ps args S.tmps,objs⟩)
  (he:∀ objs,I ys.length objs→Q .normal ⟨S.tmps,objs⟩) (hv:∀ i objs,i<ys.length→J i objs→Q lv ⟨S.tmps,iK S.objs.length objs⟩):lq P D T (.rf f ps fz x y) Q S:=
 ⟨ht,g,cap,ys,hf,hc,hg,hy,.inr ⟨I,J,lv,lc,hlv,hz,h0,hl,hj,hr,he,hv⟩⟩
theorem FD (d n:Nat) (objs:List Obj) :
  (∀ k m,gY d n objs (.int k m)=.int k m)∧(∀ b,gY d n objs (.bool b)=.bool b)∧(∀ s,gY d n objs (.str s)=.str s)∧(∀ sz xs q,gY d n objs (.sl sz xs q)=.sl sz xs q)∧(∀ x,gY d n objs (.addr x)=.addr x)∧
  (gY d n objs .dead=.dead)∧
  (∀ cs,gY d n objs (.agg cs)=.agg (cs.map (fC d n objs)))∧(∀ cs,gY d n objs (.bP cs)=.bP (cs.map (fC d n objs)))∧
  (∀ k m,fC d n objs (.int k m)=.int k m)∧(∀ b,fC d n objs (.bool b)=.bool b)∧(∀ s,fC d n objs (.str s)=.str s)∧(∀ sz xs q,fC d n objs (.sl sz xs q)=.sl sz xs q)∧(∀ x,fC d n objs (.addr x)=.addr x)∧(fC d n objs .dead=.dead):=
 ⟨fun _ _=>rfl,fun _=>rfl,fun _=>rfl,fun _ _ _=>rfl,fun _=>rfl,rfl,fun _=>rfl,fun _=>rfl,fun _ _=>rfl,fun _=>rfl,fun _=>rfl,fun _ _ _=>rfl,fun _=>rfl,rfl⟩
theorem nu (d:Nat) (rs:List ResultVar) (r:PV) (S:St) :
  (WY D d rs r .ret S=jh D S rs fun ps=>r=fA (ps.map (gY d 0 S.objs)))∧(WY D d rs r .normal S=jh D S rs fun ps=>r=fA (ps.map (gY d 0 S.objs))):=by
 constructor <;> simp [WY]
theorem Li (d t:Nat) (o:Obj) (S:St) :
  (SN d t o .ret S=∃ S' k ver o0,Weak 0 S S'∧S'.tmps.getD t .dead=.bA k ver∧S'.objs[k]?=some o0∧o0.live=true∧o0.ver=ver∧{ gM d (k+1) S'.objs o0 with ver:=0 }=o∧fB [o])∧
  (SN d t o .normal S=∃ S' k ver o0,Weak 0 S S'∧S'.tmps.getD t .dead=.bA k ver∧S'.objs[k]?=some o0∧o0.live=true∧o0.ver=ver∧{ gM d (k+1) S'.objs o0 with ver:=0 }=o∧fB [o]):=by
 constructor <;> simp [SN]
theorem sD:(∀ (x p:PV) l n,(x::l).set (n+1) p=x::l.set n p)∧(∀ (x p:PV) l,(x::l).set 0 p=p::l)∧(∀ (x:PV) l n d,(x::l).getD (n+1) d=l.getD n d)∧(∀ (x:PV) l d,(x::l).getD 0 d=x)∧
  (∀ (x:PV) l m,(x::l)++m=x::(l++m))∧(∀ m:List PV,[]++m=m)∧(∀ n (x:PV),List.replicate (n+1) x=x::List.replicate n x)∧(∀ (x:PV),List.replicate 0 x=[])∧(∀ (x:PV) l,(x::l).length=l.length+1)∧(([]:List PV).length=0)∧
  (∀ (f:Operand→PV) x l,(x::l).map f=f x::l.map f)∧(∀ (f:Operand→PV),[].map f=[])∧
  (∀ (f:Nat×Operand→Nat×PV) x l,(x::l).map f=f x::l.map f)∧(∀ (f:Nat×Operand→Nat×PV),[].map f=[])∧
  (∀ (f:PV→PV) x l,(x::l).map f=f x::l.map f)∧(∀ (f:PV→PV),[].map f=[])∧
  (∀ (f:Operand→PV) x,(some x).map f=some (f x))∧(∀ (f:Operand→PV),none.map f=none)∧
  (∀ (x:Nat) l m,(x::l)++m=x::(l++m))∧(∀ m:List Nat,[]++m=m)∧
  (∀ n l,mkT n l=l.foldl (fun tm x=>tm.set x.1 x.2) (List.replicate n .dead))∧
  (∀ (f:List PV→Nat×PV→List PV) x l i,(x::l).foldl f i=l.foldl f (f i x))∧(∀ (f:List PV→Nat×PV→List PV) i,[].foldl f i=i):=
 ⟨fun _ _ _ _=>rfl,fun _ _ _=>rfl,fun _ _ _ _=>rfl,fun _ _ _=>rfl,fun _ _ _=>rfl,fun _=>rfl,fun _ _=>rfl,fun _=>rfl,fun _ _=>rfl,rfl,fun _ _ _=>rfl,fun _=>rfl,
  fun _ _ _=>rfl,fun _=>rfl,fun _ _ _=>rfl,fun _=>rfl,fun _ _=>rfl,fun _=>rfl,fun _ _ _=>rfl,fun _=>rfl,fun _ _=>rfl,fun _ _ _ _=>rfl,fun _ _=>rfl⟩
theorem VE:(∀ ks x (l:List PV),yN (true::ks) (x::l)=x::yN ks l)∧(∀ ks x (l:List PV),yN (false::ks) (x::l)=.dead::yN ks l)∧(∀ ks,yN ks []=[])∧(∀ ks (S:St),S.norm ks none=S.forget ks)∧(∀ ks tm ob,St.forget ks ⟨tm,ob⟩=⟨yN ks tm,ob⟩):=
 ⟨fun _ _ _=>rfl,fun _ _ _=>rfl,fun ks=>by cases ks <;> rfl,fun _ _=>rfl,fun _ _ _=>rfl⟩
theorem Jw (ti:aJ) (t:TypeId) (K:PV→Prop) :
  (∀ b k x y,qf P ti t b (.int k x) (.int k y) K=rV b k k x y K)∧
  (∀ b x y,qf P ti t b (.str x) (.str y) K=je b x y K)∧
  (∀ x y,qf P ti t .eql (.bool x) (.bool y) K=(ti.kind=.bool∧K (.bool (x==y))))∧
  (∀ x y,qf P ti t .neq (.bool x) (.bool y) K=(ti.kind=.bool∧K (.bool (!(x==y)))))∧
  (∀ x y,qf P ti t .eql (.agg x) (.agg y) K=(JD P t x y∧∃ r,Dp x y=some r∧K (.bool r)))∧
  (∀ x y,qf P ti t .neq (.agg x) (.agg y) K=(JD P t x y∧∃ r,Dp x y=some r∧K (.bool (!r))))∧
  (∀ s x q s' x',qf P ti t .eql (.sl s x (some q)) (.sl s' x' (some true)) K=((∃ e,ti.kind=.slice e)∧K (.bool q)))∧
  (∀ s x q s' x',qf P ti t .neq (.sl s x (some q)) (.sl s' x' (some true)) K=((∃ e,ti.kind=.slice e)∧K (.bool (!q)))):=
 ⟨fun _ _ _ _=>rfl,fun _ _ _=>rfl,fun _ _=>rfl,fun _ _=>rfl,fun _ _=>rfl,fun _ _=>rfl,fun _ _ _ _ _=>rfl,fun _ _ _ _ _=>rfl⟩
theorem Jy (k:IntKind) (a b:Int) (K:PV→Prop) :
  (rV .add k k a b K=(JC k (a+b)∧K (.int k (a+b))))∧(rV .sub k k a b K=(JC k (a-b)∧K (.int k (a-b))))∧(rV .mul k k a b K=(JC k (a*b)∧K (.int k (a*b))))∧
  (rV .quo k k a b K=(b≠0∧JC k (a.tdiv b)∧K (.int k (a.tdiv b))))∧(rV .rem k k a b K=(b≠0∧K (.int k (a.tmod b))))∧
  (rV .eql k k a b K=K (.bool (decide (a=b))))∧(rV .neq k k a b K=K (.bool (!decide (a=b))))∧(rV .lss k k a b K=K (.bool (decide (a<b))))∧(rV .leq k k a b K=K (.bool (decide (a≤b))))∧
  (rV .gtr k k a b K=K (.bool (decide (b<a))))∧(rV .geq k k a b K=K (.bool (decide (b≤a)))):=by
 refine ⟨?_,?_,?_,?_,?_,?_,?_,?_,?_,?_,?_⟩ <;> simp [rV]
theorem zR (a:Int):(JC .i64 a=(-9223372036854775808≤a∧a≤9223372036854775807))∧(JC .u8 a=(0≤a∧a≤255)):=⟨rfl,rfl⟩
theorem fq (ev:Operand→PV):(∀ t x,fG D .len [t] [x] ev objs K=qg D t (ev x) objs K)∧(∀ t u s x,fG D .append [t,u] [s,x] ev objs K=eO D t u (ev s) (ev x) objs K)∧
  (∀ ts xs,fG D .max ts xs ev objs K=iI true (xs.map ev) fun r=>K r objs 0)∧(∀ ts xs,fG D .min ts xs ev objs K=iI false (xs.map ev) fun r=>K r objs 0):=
 ⟨fun _ _=>rfl,fun _ _ _ _=>rfl,fun _ _=>rfl,fun _ _=>rfl⟩
theorem zh {α:Type}(l:List α) (f:α→PV) (n:Nat) (q:PV→Prop):(∃ y,(l.map f)[n]?=some y∧q y)=∃ x,l[n]?=some x∧q (f x):=by
 apply propext
 constructor
 · rintro ⟨y,h,hq⟩
   rw [List.getElem?_map] at h
   cases hx:l[n]? with
   | none=>rw [hx] at h;simp at h
   | some x=>rw [hx] at h;simp only [Option.map_some,Option.some.injEq] at h;exact ⟨x,rfl,h ▸ hq⟩
 · rintro ⟨x,h,hq⟩
   exact ⟨f x,by rw [List.getElem?_map,h];rfl,hq⟩
theorem MQ {α:Type}(a:α) (l:List α) (q:α→Prop):((∃ x,(a::l)[0]?=some x∧q x)=q a)∧(∀ n,(∃ x,(a::l)[n+1]?=some x∧q x)=∃ x,l[n]?=some x∧q x):=by
 refine ⟨propext ⟨?_,fun h=>⟨a,rfl,h⟩⟩,fun n=>rfl⟩
 rintro ⟨x,h,hq⟩
 simp only [List.getElem?_cons_zero,Option.some.injEq] at h
 exact h ▸ hq
theorem JP:(∀ s b z,aJ.agg ⟨.str,s,b,z⟩=false)∧(∀ k s b z,aJ.agg ⟨.int k,s,b,z⟩=false)∧(∀ s b z,aJ.agg ⟨.bool,s,b,z⟩=false)∧(∀ e s b z,aJ.agg ⟨.slice e,s,b,z⟩=false)∧(∀ s b z,aJ.agg ⟨.other,s,b,z⟩=false)∧
  (∀ fs s b z,aJ.agg ⟨.struct fs,s,b,z⟩=true)∧(∀ n e s b z,aJ.agg ⟨.array n e,s,b,z⟩=true):=⟨fun _ _ _=>rfl,fun _ _ _ _=>rfl,fun _ _ _=>rfl,fun _ _ _ _=>rfl,fun _ _ _=>rfl,fun _ _ _ _=>rfl,fun _ _ _ _ _=>rfl⟩
theorem uS (cs:List PV) (o n:Nat):(sub cs o n false=cs.getD o .dead)∧(sub cs o n true=.agg ((cs.drop o).take n)):=⟨rfl,rfl⟩
theorem Gg:(∀ k n,PV.isAgg (.int k n)=false)∧(∀ b,PV.isAgg (.bool b)=false)∧(∀ s,PV.isAgg (.str s)=false)∧(∀ s x q,PV.isAgg (.sl s x q)=false)∧(∀ cs,PV.isAgg (.agg cs)=true)∧(∀ k v,PV.isAgg (.bA k v)=false)∧(∀ k v i f,PV.isAgg (.bR k v i f)=false)∧(∀ x,PV.isAgg (.addr x)=false)∧(PV.isAgg .Bp=false)∧
  (∀ k n,PV.cells (.int k n)=[.int k n])∧(∀ b,PV.cells (.bool b)=[.bool b])∧(∀ s,PV.cells (.str s)=[.str s])∧(∀ s x q,PV.cells (.sl s x q)=[.sl s x q])∧(∀ cs,PV.cells (.agg cs)=cs)∧(∀ k v,PV.cells (.bA k v)=[.bA k v])∧(∀ k v i f,PV.cells (.bR k v i f)=[.bR k v i f])∧(∀ x,PV.cells (.addr x)=[.addr x]):=
 ⟨fun _ _=>rfl,fun _=>rfl,fun _=>rfl,fun _ _ _=>rfl,fun _=>rfl,fun _ _=>rfl,fun _ _ _ _=>rfl,fun _=>rfl,rfl,fun _ _=>rfl,fun _=>rfl,fun _=>rfl,fun _ _ _=>rfl,fun _=>rfl,fun _ _=>rfl,fun _ _ _ _=>rfl,fun _=>rfl⟩
theorem Jz:(∀ (f:PV→Bool) x l,(x::l).all f=(f x && l.all f))∧(∀ f:PV→Bool,[].all f=true)∧(∀ (x:PV) l n,(x::l).take (n+1)=x::l.take n)∧(∀ l:List PV,l.take 0=[])∧(∀ (x:PV) l n,(x::l).drop (n+1)=l.drop n)∧(∀ l:List PV,l.drop 0=l)∧(∀ n,([]:List PV).take n=[])∧(∀ n,([]:List PV).drop n=[]):=
 ⟨fun _ _ _=>rfl,fun _=>rfl,fun _ _ _=>rfl,fun _=>by simp,fun _ _ _=>rfl,fun _=>rfl,fun _=>by simp,fun _=>by simp⟩
theorem fzR (d n:Nat) (objs:List Obj):(∀ k v,gY d n objs (.bA k v)=fC d n objs (.bA k v))∧(∀ k v i f,gY d n objs (.bR k v i f)=fC d n objs (.bR k v i f))∧(∀ l,gY d n objs (.Fx l)=.Fx l)∧
  (∀ f a c,gY d n objs (.fn f a c)=.fn f (a.map (fC d n objs)) (c.map (fC d n objs))):=⟨fun _ _=>rfl,fun _ _ _ _=>rfl,fun _=>rfl,fun _ _ _=>rfl⟩
theorem puR:(∀ k n,PV.pure (.int k n)=true)∧(∀ b,PV.pure (.bool b)=true)∧(∀ s,PV.pure (.str s)=true)∧(∀ s x q,PV.pure (.sl s x q)=true)∧(∀ x,PV.pure (.addr x)=true)∧(PV.pure .dead=true)∧(∀ l,PV.pure (.Fx l)=true):=
 ⟨fun _ _=>rfl,fun _=>rfl,fun _=>rfl,fun _ _ _=>rfl,fun _=>rfl,rfl,fun _=>rfl⟩
theorem zm {d n:Nat}{objs:List Obj}{k v i f:Nat}(h:n≤k):(fC d n objs (.bR k v i f)).pure=true:=by
 simp only [fC,if_neg (Nat.not_lt.2 h)]
 cases d <;> simp only [gF]
 · rfl
 · split
   · split
     · split <;> rfl
     · rfl
   · rfl
theorem H_ {α β:Type}(a:α) (l:List α) (q:α→β→Prop):((∃ x y,(a::l)[0]?=some x∧q x y)=∃ y,q a y)∧(∀ n,(∃ x y,(a::l)[n+1]?=some x∧q x y)=∃ x y,l[n]?=some x∧q x y):=by
 refine ⟨propext ⟨?_,fun ⟨y,h⟩=>⟨a,y,rfl,h⟩⟩,fun n=>rfl⟩
 rintro ⟨x,y,h,hq⟩
 simp only [List.getElem?_cons_zero,Option.some.injEq] at h
 exact ⟨y,h ▸ hq⟩
theorem Zj:(∀ (x p:Obj) l n,(x::l).set (n+1) p=x::l.set n p)∧(∀ (x p:Obj) l,(x::l).set 0 p=p::l)∧(∀ (x:Obj) l m,(x::l)++m=x::(l++m))∧(∀ m:List Obj,[]++m=m)∧(∀ (x:Obj) l,(x::l).length=l.length+1)∧(([]:List Obj).length=0):=
 ⟨fun _ _ _ _=>rfl,fun _ _ _=>rfl,fun _ _ _=>rfl,fun _=>rfl,fun _ _=>rfl,rfl⟩
end Lp
namespace Lp
open Go
def ae1 (ops:List Oper) (j:Nat):Option Nat:=(ops[j]?).bind (·.dst)
def ac5 (l:List Nat) (x:Nat):Bool:=l.any (Nat.beq x)
def ae2 (own:List Nat):Option Nat→Bool
 | some d=>ac5 own d
 | none=>false
def stepG (own:List Nat) (ops:List Oper) (o:Oper):Step:=⟨o.dst,o.op,match o.guard with
 | none=>none
 | some (j,b)=>some (ae1 ops j,b),ae2 own o.dst⟩
abbrev LpH:=Nat×Option (Nat×Nat)
def ae3 (nt m:Nat):List Bool:=(List.range nt).map (Nat.testBit m)
def wP (nt:Nat) (own wk:List Nat):Code→List LpH→LC×List LpH
 | .skip,k=>(.skip,k)
 | .ret,k=>(.ret,k)
 | .exit id,k=>(.exit id,k)
 | .region id ops false,k=>(bif ac5 wk id then .weak (.reg (ops.toList.map (stepG own ops.toList))) else .reg (ops.toList.map (stepG own ops.toList)),k)
 | .region id ops true,k=>(bif ac5 wk id then .weak (.draw (ops.toList.map (stepG own ops.toList)) (rE ops.toList (masks ops.toList []))) else .draw (ops.toList.map (stepG own ops.toList)) (rE ops.toList (masks ops.toList [])),k)
 | .seq a b,k=>
  match wP nt own wk a k with
  | (x,k')=>match wP nt own wk b k' with
   | (y,k'')=>(.seq x y,k'')
 | .cond c a b,k=>
  match wP nt own wk a k with
  | (x,k')=>match wP nt own wk b k' with
   | (y,k'')=>(.cond c x y,k'')
 | .block id b,k=>
  match wP nt own wk b k with
  | (x,k')=>(.block id x,k')
 | .loop b,k=>
  match wP nt own wk b k.tail with
  | (x,k')=>(.loop (ae3 nt (k.headD (0,none)).1) (k.headD (0,none)).2 x,k')
 | .rangeFunc f ps a b,k=>
  match wP nt own wk a k.tail with
  | (x,k')=>match wP nt own wk b k' with
   | (y,k'')=>(.rf f ps.toList (k.headD (0,none)).2 x y,k'')
 | _,k=>(.bad,k)
def gen (own:List Nat) (lps:List LpH) (wk:List Nat) (f:Func):LC:=
 match f.body with
 | some c=>(wP f.ntmps own wk c lps).1
 | none=>.bad
def jb:Code→Bool
 | .region _ ops true=>f_ ops.toList (masks ops.toList [])
 | .seq a b=>jb a && jb b
 | .cond _ a b=>jb a && jb b
 | .block _ c=>jb c
 | .loop c=>jb c
 | .rangeFunc _ _ a b=>jb a && jb b
 | _=>true
theorem EY (own:List Nat) (ops l:List Oper):(l.map (stepG own ops)).map zN=l.map (stepOf ops):=by
 rw [List.map_map]
 exact List.map_congr_left fun o _=>rfl
theorem BM (b:Bool) (c:LC):strip (bif b then .weak c else c)=strip c:=by cases b <;> rfl
theorem jF (nt:Nat) (own wk:List Nat):∀ (c:Code),jb c=true→∀ (k:List LpH),strip (wP nt own wk c k).1=comp c
 | .skip,_,_=>rfl
 | .ret,_,_=>rfl
 | .exit _,_,_=>rfl
 | .region id ops false,_,_=>by
  simp only [wP,BM,strip,EY,comp]
 | .region id ops true,h,_=>by
  simp only [jb] at h
  simp only [wP,BM,strip,EY,comp,h,cond_true]
 | .seq a b,h,k=>by
  simp only [jb,Bool.and_eq_true] at h
  simp only [wP,strip,comp,jF nt own wk a h.1,jF nt own wk b h.2]
 | .cond c a b,h,k=>by
  simp only [jb,Bool.and_eq_true] at h
  simp only [wP,strip,comp,jF nt own wk a h.1,jF nt own wk b h.2]
 | .block id c,h,k=>by
  simp only [jb] at h
  simp only [wP,strip,comp,jF nt own wk c h]
 | .loop c,h,k=>by
  simp only [jb] at h
  simp only [wP,strip,comp,jF nt own wk c h]
 | .rangeFunc f ps a b,h,k=>by
  simp only [jb,Bool.and_eq_true] at h
  simp only [wP,strip,comp,jF nt own wk a h.1,jF nt own wk b h.2]
 | .scope _,_,_=>rfl
 | .label _,_,_=>rfl
 | .goto _,_,_=>rfl
 | .refuse _,_,_=>rfl
def okF (f:Func) (n:Nat):Bool:=!(f.name== "runtime.NumGoroutine") && Nat.beq f.ntmps n && match f.body with | some c=>jb c | none=>false
theorem bg {P:Program}{f:FuncId}{fn:Func}{n:Nat}{rs:List ResultVar}{own wk:List Nat}{lps:List LpH}(h:P.funcs[f]?=some fn) (hr:fn.results=rs.toArray) (hk:okF fn n=true):aO P f n rs (gen own lps wk fn):=by
 unfold okF at hk
 rw [Bool.and_eq_true,Bool.and_eq_true] at hk
 obtain ⟨⟨h1,h2⟩,h3⟩:=hk
 cases hb:fn.body with
 | none=>rw [hb] at h3;cases h3
 | some c=>
  rw [hb] at h3
  refine ⟨fn,c,h,by simpa using h1,hb,Nat.eq_of_beq_eq_true h2,hr,?_⟩
  unfold gen
  rw [hb]
  exact jF _ _ _ _ h3 _
def Zk (P:Program) (t:TypeId):aJ:=
 match P.info? t,P.underlying t with
 | some i,some d=>match i.zero with
  | some z=>bif Nat.beq t MT then aJ.off else ⟨kindOf d,i.size,i.bytes,z⟩
  | none=>aJ.off
 | _,_=>aJ.off
theorem Zl {P:Program}(t:TypeId):iY P t (Zk P t):=by
 unfold Zk
 split
 · rename_i i d hi hu
   split
   · rename_i z hz
     cases hm:Nat.beq t MT with
     | true=>exact MP
     | false=>exact ac1 (by rw [hi,Option.map_some,hz]) (by rw [hu];rfl) hm
   · exact MP
 · exact MP
end Lp
namespace Lp
open Go Go.Proofs
noncomputable def D:TypeId→aJ:=Zk Tryz.prog
theorem hD (t:TypeId):iY Tryz.prog t (D t):=Zl t
theorem aU:Tryz.prog.follows .mixedOrders=true:=by kernel_rfl
theorem bY:D 3=⟨(.int .i64),1,8,.int .i64 0⟩∧D 4=⟨.bool,1,1,.bool false⟩∧D 5=⟨(.int .u8),1,1,.int .u8 0⟩∧D 9=⟨.str,1,16,.string ⟨⟨[]⟩⟩⟩∧D 21=⟨(.int .i32),1,4,.int .i32 0⟩∧D 23=⟨(.slice 44),1,24,.slice none 0 0⟩∧D 27=⟨(.slice 42),1,24,.slice none 0 0⟩∧D 28=⟨(.slice 42),1,24,.slice none 0 0⟩∧D 31=⟨(.slice 28),1,24,.slice none 0 0⟩∧D 38=⟨(.slice 23),1,24,.slice none 0 0⟩∧D 42=⟨(.struct [(0,3),(1,3),(2,9),(3,9),(4,4),(5,3)]),6,64,.agg ⟨[.int .i64 0,.int .i64 0,.string ⟨⟨[]⟩⟩,.string ⟨⟨[]⟩⟩,.bool false,.int .i64 0]⟩⟩∧D 44=⟨(.struct [(0,3),(1,3),(2,9),(3,9),(4,3),(5,42)]),11,120,.agg ⟨[.int .i64 0,.int .i64 0,.string ⟨⟨[]⟩⟩,.string ⟨⟨[]⟩⟩,.int .i64 0,.int .i64 0,.int .i64 0,.string ⟨⟨[]⟩⟩,.string ⟨⟨[]⟩⟩,.bool false,.int .i64 0]⟩⟩∧D 46=⟨(.int .i64),1,8,.int .i64 0⟩∧D 49=⟨(.slice 9),1,24,.slice none 0 0⟩∧D 54=⟨(.slice 87),1,24,.slice none 0 0⟩∧D 65=⟨(.slice 4),1,24,.slice none 0 0⟩∧D 77=⟨(.map 9 28),1,8,.map none⟩∧D 87=⟨(.struct [(0,3),(1,42)]),7,72,.agg ⟨[.int .i64 0,.int .i64 0,.int .i64 0,.string ⟨⟨[]⟩⟩,.string ⟨⟨[]⟩⟩,.bool false,.int .i64 0]⟩⟩∧D 95=⟨(.slice 122),1,24,.slice none 0 0⟩∧D 122=⟨(.struct [(0,4),(1,9),(2,3)]),3,32,.agg ⟨[.bool false,.string ⟨⟨[]⟩⟩,.int .i64 0]⟩⟩∧D 142=⟨(.slice 5),1,24,.slice none 0 0⟩∧D 153=⟨(.struct [(0,3),(1,3),(2,4),(3,9)]),4,40,.agg ⟨[.int .i64 0,.int .i64 0,.bool false,.string ⟨⟨[]⟩⟩]⟩⟩∧D 154=⟨(.slice 153),1,24,.slice none 0 0⟩:=by (repeat' constructor) <;> kernel_rfl
end Lp
namespace Lp
open Go Go.Proofs
theorem D5:aO Tryz.prog 18 34 [.tmp 4] (gen [] [(33,none)] [] Tryz.f18):=bg Tryz.func18 rfl (by kernel_rfl)
theorem PK:aO Tryz.prog 107 60 [.tmp 4] (gen [] [] [] Tryz.f107):=bg Tryz.func107 rfl (by kernel_rfl)
theorem D6:aO Tryz.prog 67 82 [.tmp 4] (gen [] [] [] Tryz.f67):=bg Tryz.func67 rfl (by kernel_rfl)
theorem zS:aO Tryz.prog 43 21 [.tmp 2] (gen [] [(9,none)] [] Tryz.f43):=bg Tryz.func43 rfl (by kernel_rfl)
theorem BN:aO Tryz.prog 10 26 [.tmp 4] (gen [] [(35,none)] [] Tryz.f10):=bg Tryz.func10 rfl (by kernel_rfl)
theorem D7:aO Tryz.prog 46 17 [.tmp 2] (gen [] [(9,none)] [] Tryz.f46):=bg Tryz.func46 rfl (by kernel_rfl)
theorem zT:aO Tryz.prog 16 39 [.tmp 2] (gen [] [(9,none)] [] Tryz.f16):=bg Tryz.func16 rfl (by kernel_rfl)
theorem zU:aO Tryz.prog 131 20 [.tmp 4] (gen [] [] [] Tryz.f131):=bg Tryz.func131 rfl (by kernel_rfl)
theorem Xd:aO Tryz.prog 132 30 [.tmp 4] (gen [] [] [1] Tryz.f132):=bg Tryz.func132 rfl (by kernel_rfl)
theorem vX:aO Tryz.prog 133 20 [.tmp 4] (gen [] [] [] Tryz.f133):=bg Tryz.func133 rfl (by kernel_rfl)
theorem mh:aO Tryz.prog 134 36 [.tmp 4] (gen [] [(3587,none)] [] Tryz.f134):=bg Tryz.func134 rfl (by kernel_rfl)
theorem PL:aO Tryz.prog 135 19 [.tmp 2] (gen [] [(0,none)] [] Tryz.f135):=bg Tryz.func135 rfl (by kernel_rfl)
theorem fT:aO Tryz.prog 136 39 [.tmp 6] (gen [] [(14343,none)] [] Tryz.f136):=bg Tryz.func136 rfl (by kernel_rfl)
theorem PN:aO Tryz.prog 137 15 [.tmp 2] (gen [] [(0,none)] [] Tryz.f137):=bg Tryz.func137 rfl (by kernel_rfl)
theorem BO:aO Tryz.prog 91 7 [.tmp 4] (gen [] [] [] Tryz.f91):=bg Tryz.func91 rfl (by kernel_rfl)
theorem D8:aO Tryz.prog 92 56 [.tmp 4] (gen [] [(172,none)] [1] Tryz.f92):=bg Tryz.func92 rfl (by kernel_rfl)
theorem BP:aO Tryz.prog 93 42 [.tmp 4] (gen [] [(35,none)] [] Tryz.f93):=bg Tryz.func93 rfl (by kernel_rfl)
theorem zV:aO Tryz.prog 38 28 [.tmp 2] (gen [7] [(57,none)] [] Tryz.f38):=bg Tryz.func38 rfl (by kernel_rfl)
theorem zW:aO Tryz.prog 94 48 [.tmp 4] (gen [] [(35,none)] [] Tryz.f94):=bg Tryz.func94 rfl (by kernel_rfl)
theorem zX:aO Tryz.prog 90 34 [.tmp 2] (gen [6] [(57,none)] [] Tryz.f90):=bg Tryz.func90 rfl (by kernel_rfl)
noncomputable def rF:LC:=(gen [] [] [] Tryz.f69)
theorem BQ:aO Tryz.prog 69 109 [.tmp 4] rF:=bg Tryz.func69 rfl (by kernel_rfl)
theorem BR:aO Tryz.prog 34 41 [.tmp 4] (gen [] [(35,none)] [] Tryz.f34):=bg Tryz.func34 rfl (by kernel_rfl)
theorem zY:aO Tryz.prog 35 48 [.tmp 2] (gen [] [] [] Tryz.f35):=bg Tryz.func35 rfl (by kernel_rfl)
theorem yO:aO Tryz.prog 36 75 [.tmp 4] (gen [] [(99,none)] [] Tryz.f36):=bg Tryz.func36 rfl (by kernel_rfl)
theorem D9:aO Tryz.prog 166 6 [.tmp 2] (gen [] [] [] Tryz.f166):=bg Tryz.func166 rfl (by kernel_rfl)
theorem SS:aO Tryz.prog 167 42 [.tmp 4] (gen [] [] [1] Tryz.f167):=bg Tryz.func167 rfl (by kernel_rfl)
theorem yP:aO Tryz.prog 168 6 [.tmp 2] (gen [] [] [] Tryz.f168):=bg Tryz.func168 rfl (by kernel_rfl)
theorem SV:aO Tryz.prog 169 4 [.tmp 2] (gen [] [] [] Tryz.f169):=bg Tryz.func169 rfl (by kernel_rfl)
theorem FE:aO Tryz.prog 115 30 [.tmp 4] (gen [] [] [1] Tryz.f115):=bg Tryz.func115 rfl (by kernel_rfl)
theorem D_:aO Tryz.prog 65 23 [.tmp 6] (gen [9] [] [] Tryz.f65):=bg Tryz.func65 rfl (by kernel_rfl)
theorem BS:aO Tryz.prog 97 21 [.tmp 4] (gen [] [] [] Tryz.f97):=bg Tryz.func97 rfl (by kernel_rfl)
theorem zZ:aO Tryz.prog 61 72 [.tmp 2] (gen [] [] [1] Tryz.f61):=bg Tryz.func61 rfl (by kernel_rfl)
theorem MR:aO Tryz.prog 188 34 [] (gen [] [(1547,none)] [6] Tryz.f188):=bg Tryz.func188 rfl (by kernel_rfl)
theorem MS:aO Tryz.prog 189 19 [.tmp 4] (gen [] [(35,none)] [] Tryz.f189):=bg Tryz.func189 rfl (by kernel_rfl)
theorem iL:aO Tryz.prog 190 8 [.tmp 2] (gen [5] [] [] Tryz.f190):=bg Tryz.func190 rfl (by kernel_rfl)
theorem wQ:aO Tryz.prog 88 20 [.tmp 2] (gen [] [(9,none)] [] Tryz.f88):=bg Tryz.func88 rfl (by kernel_rfl)
end Lp
namespace Lp
open Go Go.Proofs
end Lp
namespace Lp
open Go Go.Proofs
end Lp
namespace Lp
open Go Go.Proofs
noncomputable def qy:LC:=(gen [] [(56,none)] [] Tryz.f19)
theorem z8:aO Tryz.prog 19 35 [.tmp 2] qy:=bg Tryz.func19 rfl (by kernel_rfl)
theorem JQ:aO Tryz.prog 128 48 [.tmp 2] (gen [] [] [2] Tryz.f128):=bg Tryz.func128 rfl (by kernel_rfl)
theorem PO:aO Tryz.prog 164 54 [.tmp 2] (gen [] [] [1] Tryz.f164):=bg Tryz.func164 rfl (by kernel_rfl)
theorem JR:aO Tryz.prog 121 17 [.tmp 4] (gen [] [] [] Tryz.f121):=bg Tryz.func121 rfl (by kernel_rfl)
theorem FH:aO Tryz.prog 118 6 [.tmp 2] (gen [] [] [] Tryz.f118):=bg Tryz.func118 rfl (by kernel_rfl)
theorem PS:aO Tryz.prog 105 123 [.tmp 2] (gen [9] [(7177,some (1,1)),(7209,none)] [19] Tryz.f105):=bg Tryz.func105 rfl (by kernel_rfl)
theorem JS:aO Tryz.prog 130 6 [.tmp 2] (gen [] [] [] Tryz.f130):=bg Tryz.func130 rfl (by kernel_rfl)
theorem jG:aO Tryz.prog 129 9 [.tmp 4] (gen [] [] [] Tryz.f129):=bg Tryz.func129 rfl (by kernel_rfl)
theorem jX:aO Tryz.prog 165 19 [.tmp 4] (gen [] [(387,none)] [] Tryz.f165):=bg Tryz.func165 rfl (by kernel_rfl)
theorem SX:aO Tryz.prog 29 10 [.tmp 2] (gen [6] [] [] Tryz.f29):=bg Tryz.func29 rfl (by kernel_rfl)
theorem mo:aO Tryz.prog 53 36 [.tmp 2] (gen [] [(3593,none),(234881088,none)] [] Tryz.f53):=bg Tryz.func53 rfl (by kernel_rfl)
theorem SY:aO Tryz.prog 59 35 [.tmp 4] (gen [12] [(57377,none)] [] Tryz.f59):=bg Tryz.func59 rfl (by kernel_rfl)
theorem uT:aO Tryz.prog 31 66 [.tmp 4,.tmp 5] (gen [] [(14680131,none),(7881299347904576,none)] [19] Tryz.f31):=bg Tryz.func31 rfl (by kernel_rfl)
theorem l8:aO Tryz.prog 57 9 [.tmp 2] (gen [] [] [] Tryz.f57):=bg Tryz.func57 rfl (by kernel_rfl)
theorem mM:aO Tryz.prog 58 4 [.tmp 2] (gen [] [] [] Tryz.f58):=bg Tryz.func58 rfl (by kernel_rfl)
theorem lV:aO Tryz.prog 86 16 [] (gen [] [(225,none)] [] Tryz.f86):=bg Tryz.func86 rfl (by kernel_rfl)
theorem lH:aO Tryz.prog 84 5 [.tmp 2] (gen [] [] [] Tryz.f84):=bg Tryz.func84 rfl (by kernel_rfl)
theorem gT:aO Tryz.prog 108 13 [.tmp 4] (gen [] [(0,none)] [] Tryz.f108):=bg Tryz.func108 rfl (by kernel_rfl)
end Lp
namespace Lp
open Go Go.Proofs
theorem jY:aO Tryz.prog 106 19 [.tmp 4] (gen [] [(387,none)] [] Tryz.f106):=bg Tryz.func106 rfl (by kernel_rfl)
theorem jH:aO Tryz.prog 77 9 [.tmp 4] (gen [] [] [] Tryz.f77):=bg Tryz.func77 rfl (by kernel_rfl)
theorem Ia:aO Tryz.prog 76 11 [.tmp 2] (gen [] [] [1] Tryz.f76):=bg Tryz.func76 rfl (by kernel_rfl)
theorem MU:aO Tryz.prog 79 36 [.tmp 4] (gen [] [] [1] Tryz.f79):=bg Tryz.func79 rfl (by kernel_rfl)
theorem JU:aO Tryz.prog 51 22 [.tmp 6] (gen [] [] [1] Tryz.f51):=bg Tryz.func51 rfl (by kernel_rfl)
theorem FI:aO Tryz.prog 78 8 [.tmp 3] (gen [] [] [1] Tryz.f78):=bg Tryz.func78 rfl (by kernel_rfl)
theorem Xe:aO Tryz.prog 102 31 [.tmp 2] (gen [] [] [] Tryz.f102):=bg Tryz.func102 rfl (by kernel_rfl)
theorem PU:aO Tryz.prog 103 25 [.tmp 2] (gen [] [] [] Tryz.f103):=bg Tryz.func103 rfl (by kernel_rfl)
theorem JV:aO Tryz.prog 75 63 [.cell 4 42,.tmp 5] (gen [] [] [] Tryz.f75):=bg Tryz.func75 rfl (by kernel_rfl)
theorem BU:aO Tryz.prog 50 4 [.tmp 2] (gen [] [] [1] Tryz.f50):=bg Tryz.func50 rfl (by kernel_rfl)
theorem yQ:aO Tryz.prog 74 90 [] (gen [18] [(3670027,none),(120262754347,none),(2017612633061982217,none),(4231240368651202111471617,none)] [6,12,13,20,21,24] Tryz.f74):=bg Tryz.func74 rfl (by kernel_rfl)
theorem MV:aO Tryz.prog 27 16 [.cell 4 42,.cell 5 4] (gen [] [(0,some (1,6))] [] Tryz.f27):=bg Tryz.func27 rfl (by kernel_rfl)
theorem S9:aO Tryz.prog 101 50 [.cell 6 42,.tmp 7] (gen [] [] [] Tryz.f101):=bg Tryz.func101 rfl (by kernel_rfl)
theorem BV:aO Tryz.prog 89 28 [.tmp 4] (gen [] [] [] Tryz.f89):=bg Tryz.func89 rfl (by kernel_rfl)
theorem z_:aO Tryz.prog 62 11 [.tmp 2] (gen [] [] [1] Tryz.f62):=bg Tryz.func62 rfl (by kernel_rfl)
theorem Aa:aO Tryz.prog 98 16 [.tmp 2] (gen [] [] [1] Tryz.f98):=bg Tryz.func98 rfl (by kernel_rfl)
theorem Ab:aO Tryz.prog 64 14 [.tmp 4] (gen [] [] [1] Tryz.f64):=bg Tryz.func64 rfl (by kernel_rfl)
theorem BX:aO Tryz.prog 63 16 [.tmp 4] (gen [] [(35,none)] [] Tryz.f63):=bg Tryz.func63 rfl (by kernel_rfl)
theorem yR:aO Tryz.prog 37 31 [.tmp 6] (gen [] [(162,none)] [1] Tryz.f37):=bg Tryz.func37 rfl (by kernel_rfl)
end Lp
namespace Lp
open Go
def Ac (b:Bool) (X Y:Prop):Prop:=(b=true→X)∧(b=false→Y)
@[congr] theorem adD {b b':Bool}{X Y:Prop}(h:b=b'):Ac b X Y=Ac b' X Y:=by rw [h]
theorem ifR :
  (∀ X Y,Ac true X Y=X)∧(∀ X Y,Ac false X Y=Y)∧
  (∀ (p:Prop) [Decidable p] X Y,Ac (decide p) X Y=((p→X)∧(¬ p→Y)))∧
  (∀ b X Y,Ac (!b) X Y=Ac b Y X)∧
  (∀ a b X Y,Ac (a && b) X Y=Ac a (Ac b X Y) Y)∧
  (∀ a b X Y,Ac (a || b) X Y=Ac a X (Ac b X Y))∧
  (∀ (x y:List UInt8) X Y,Ac (x==y) X Y=((x=y→X)∧(x≠y→Y)))∧
  (∀ (x y:Bool) X Y,Ac (x==y) X Y=((x=y→X)∧(x≠y→Y))):=by
 refine ⟨fun X Y=>?_,fun X Y=>?_,fun p _ X Y=>?_,fun b X Y=>?_,fun a b X Y=>?_,fun a b X Y=>?_,fun x y X Y=>?_,fun x y X Y=>?_⟩
 · simp [Ac]
 · simp [Ac]
 · simp [Ac]
 · cases b <;> simp [Ac]
 · cases a <;> simp [Ac]
 · cases a <;> simp [Ac]
 · simp [Ac]
 · simp [Ac]
theorem adY :
  (∀ (n:St→Prop) (Q:Exit→St→Prop) S,thenS n Q .normal S=n S)∧
  (∀ (n:St→Prop) (Q:Exit→St→Prop) S,thenS n Q .ret S=Q .ret S)∧
  (∀ (n:St→Prop) (Q:Exit→St→Prop) S id,thenS n Q (.exit id) S=Q (.exit id) S)∧
  (∀ (Q:Exit→St→Prop) S id,rX id Q .normal S=Q .normal S)∧
  (∀ (Q:Exit→St→Prop) S id,rX id Q .ret S=Q .ret S)∧
  (∀ (Q:Exit→St→Prop) S id id',rX id Q (.exit id') S=if id'=id then Q .normal S else Q (.exit id') S)∧
  (∀ b X Y,ze (.bool b) X Y=Ac b X Y):=
 ⟨fun _ _ _=>rfl,fun _ _ _=>rfl,fun _ _ _ _=>rfl,fun _ _ _=>rfl,fun _ _ _=>rfl,fun _ _ _ _=>rfl,fun _ _ _=>rfl⟩
theorem adZ :
  (∀ (S:St) (X Y:St→Prop),wJ none S X Y=X S)∧
  (∀ d w (S:St) (X Y:St→Prop),wJ (some (some d,w)) S X Y=lU (S.tmps.getD d .dead) d w S X Y)∧
  (∀ b d (S:St) (X Y:St→Prop),lU (.bool b) d true S X Y=Ac b (X { S with tmps:=S.tmps.set d (.bool true) }) (Y { S with tmps:=S.tmps.set d (.bool false) }))∧
  (∀ b d (S:St) (X Y:St→Prop),lU (.bool b) d false S X Y=Ac b (Y { S with tmps:=S.tmps.set d (.bool true) }) (X { S with tmps:=S.tmps.set d (.bool false) }))∧
  (∀ d w (S:St) (X Y:St→Prop),lU (.bP []) d w S X Y=Y S):=
 ⟨fun _ _ _=>rfl,fun _ _ _ _ _=>rfl,fun _ _ _ _ _=>rfl,fun b _ _ _ _=>by cases b <;> simp [lU,Ac],fun _ _ _ _ _=>rfl⟩
structure HQ (C:LC) (Q:Exit→St→Prop):Type where
def ac6 (P:Program) (D:TypeId→aJ) (T:Know){C:LC}{Q:Exit→St→Prop}(_h:HQ C Q) (S:St):Prop:=lq P D T C Q S
theorem hoR (P:Program) (D:TypeId→aJ) (T:Know) :
  (∀ ks fz c (Q:Exit→St→Prop) S,lq P D T (.loop ks fz c) Q S=ac6 P D T (HQ.mk:HQ (.loop ks fz c) Q) S)∧
  (∀ c (Q:Exit→St→Prop) S,lq P D T (.weak c) Q S=ac6 P D T (HQ.mk:HQ (.weak c) Q) S)∧
  (∀ f ps fz x y (Q:Exit→St→Prop) S,lq P D T (.rf f ps fz x y) Q S=ac6 P D T (HQ.mk:HQ (.rf f ps fz x y) Q) S):=
 ⟨fun _ _ _ _ _=>rfl,fun _ _ _=>rfl,fun _ _ _ _ _ _ _=>rfl⟩
def lM:List (Nat×PV)→Nat→PV
 | [],_=>.dead
 | (j,p)::l,i=>if i=j then p else lM l i
def dz (n:Nat) (l:List (Nat×PV)):List PV:=(List.range n).map (lM l)
theorem nU (n:Nat) (l:List (Nat×PV)):(dz n l).length=n:=by simp [dz]
theorem uU (n:Nat) (l:List (Nat×PV)) (i:Nat):(dz n l)[i]?=if i<n then some (lM l i) else none:=by
 simp only [dz,List.getElem?_map]
 split
 · rename_i h;rw [List.getElem?_range h];rfl
 · rename_i h;rw [List.getElem?_eq_none (by simpa using h)];rfl
theorem xW {n:Nat}{l:List (Nat×PV)}{m:List PV}(hm:m.length=n) (h:∀ i,i<n→m[i]?=some (lM l i)):m=dz n l:=by
 refine List.ext_getElem? fun i=>?_
 rw [uU]
 split
 · rename_i hi;exact h i hi
 · rename_i hi;exact List.getElem?_eq_none (by omega)
def PX (d n:Nat) (objs:List Obj):List (Nat×PV)→List (Nat×PV)
 | []=>[]
 | (j,p)::l=>(j,gY d n objs p)::PX d n objs l
def fgA (ks:List Bool):List (Nat×PV)→List (Nat×PV)
 | []=>[]
 | (j,p)::l=>if ks[j]?=some true then (j,p)::fgA ks l else fgA ks l
theorem VF (d n:Nat) (objs:List Obj):∀ (l:List (Nat×PV)) i,lM (PX d n objs l) i=gY d n objs (lM l i)
 | [],i=>by simp [lM,PX,gY,fC]
 | (j,p)::l,i=>by
  simp only [lM,PX]
  split
  · rfl
  · exact VF d n objs l i
theorem Zm (ks:List Bool):∀ (l:List (Nat×PV)) i,lM (fgA ks l) i=if ks[i]?=some true then lM l i else .dead
 | [],i=>by simp [lM,fgA]
 | (j,p)::l,i=>by
  have ih:=Zm ks l i
  simp only [fgA]
  split
  · rename_i h
    simp only [lM]
    by_cases hij:i=j
    · subst hij;simp [h]
    · simp only [hij,if_false,ih]
  · rename_i h
    rw [ih]
    by_cases hij:i=j
    · subst hij;simp [h]
    · simp [lM,hij]
theorem wR:∀ (ks:List Bool) (l:List PV) (i:Nat),(yN ks l)[i]?=l[i]?.map fun p=>if ks[i]?=some true then p else .dead
 | ks,[],i=>by cases ks <;> simp [yN]
 | [],p::ps,0=>by simp [yN]
 | [],p::ps,i+1=>by simpa [yN] using wR [] ps i
 | true::ks,p::ps,0=>by simp [yN]
 | false::ks,p::ps,0=>by simp [yN]
 | true::ks,p::ps,i+1=>by simpa [yN] using wR ks ps i
 | false::ks,p::ps,i+1=>by simpa [yN] using wR ks ps i
theorem kS :
  (∀ i p l,lM ((i,p)::l) i=p)∧(∀ i j p l,(i==j)=false→lM ((j,p)::l) i=lM l i)∧(∀ i,lM [] i=.dead):=by
 refine ⟨fun i p l=>by simp [lM],fun i j p l h=>?_,fun _=>rfl⟩
 simp only [lM]
 rw [if_neg (by simpa using h)]
theorem nV :
  (∀ n l i p,(dz n l).set i p=dz n ((i,p)::l))∧
  (∀ n l i,i<n→(dz n l).getD i .dead=lM l i)∧
  (∀ n l d k objs,(dz n l).map (gY d k objs)=dz n (PX d k objs l))∧
  (∀ ks n l,yN ks (dz n l)=dz n (fgA ks l))∧
  (∀ d n objs,PX d n objs []=[])∧(∀ d n objs j p l,PX d n objs ((j,p)::l)=(j,gY d n objs p)::PX d n objs l):=by
 refine ⟨fun n l i p=>?_,fun n l i h=>?_,fun n l d k objs=>?_,fun ks n l=>?_,fun _ _ _=>rfl,fun _ _ _ _ _ _=>rfl⟩
 · refine xW (by simp [nU]) fun k hk=>?_
   rw [List.getElem?_set]
   simp only [lM]
   split
   · rename_i h;subst h;simp [nU,hk]
   · rename_i h;rw [uU,if_pos hk,if_neg (fun h'=>h h'.symm)]
 · rw [List.getD_eq_getElem?_getD,uU,if_pos h];rfl
 · refine xW (by simp [nU]) fun i hi=>?_
   rw [List.getElem?_map,uU,if_pos hi,VF];rfl
 · refine xW (by simp [nQ,nU]) fun i hi=>?_
   rw [wR,uU,if_pos hi,Zm];rfl
theorem Zn :
  (∀ n,bZ [] n=⟨dz n [],[]⟩)∧
  (∀ a n,1≤n→bZ [a] n=⟨dz n [(0,a)],[]⟩)∧
  (∀ a b n,2≤n→bZ [a,b] n=⟨dz n [(0,a),(1,b)],[]⟩)∧
  (∀ a b c n,3≤n→bZ [a,b,c] n=⟨dz n [(0,a),(1,b),(2,c)],[]⟩)∧
  (∀ a b c d n,4≤n→bZ [a,b,c,d] n=⟨dz n [(0,a),(1,b),(2,c),(3,d)],[]⟩)∧
  (∀ a b c d e n,5≤n→bZ [a,b,c,d,e] n=⟨dz n [(0,a),(1,b),(2,c),(3,d),(4,e)],[]⟩):=by
 have key:∀ (args:List PV) (n:Nat) (l:List (Nat×PV)),args.length≤n→(∀ i,i<n→args.getD i .dead=lM l i)→bZ args n=⟨dz n l,[]⟩:=by
  intro args n l h1 h2
  have:args++List.replicate (n-args.length) PV.dead=dz n l:=by
   refine xW (by simp;omega) fun i hi=>?_
   rw [← h2 i hi,List.getElem?_append,List.getD_eq_getElem?_getD]
   split
   · rename_i h;rw [List.getElem?_eq_getElem h];rfl
   · rename_i h;rw [List.getElem?_replicate,if_pos (by omega),List.getElem?_eq_none (by omega)];rfl
  rw [bZ,this]
 refine ⟨fun n=>key _ _ _ (by simp) ?_,fun a n h=>key _ _ _ h ?_,fun a b n h=>key _ _ _ h ?_,fun a b c n h=>key _ _ _ h ?_,fun a b c d n h=>key _ _ _ h ?_,fun a b c d e n h=>key _ _ _ h ?_⟩
 all_goals
  intro i _
  match i with
  | 0=>rfl
  | 1=>rfl
  | 2=>rfl
  | 3=>rfl
  | 4=>rfl
  | i+5=>simp [lM]
theorem ac7 :
  (∀ tm ob d p,St.put ⟨tm,ob⟩ (some d) p=⟨tm.set d p,ob⟩)∧
  (∀ tm ob p,St.put ⟨tm,ob⟩ none p=⟨tm,ob⟩)∧
  (∀ tm ob t,St.ev ⟨tm,ob⟩ (.tmp t)=tm.getD t .dead)∧
  (∀ (S:St) v,S.ev (.const v)=.wz v)∧
  (∀ (S:St) f,S.ev (.func f)=.fn f [] [])∧
  (∀ k n,PV.wz (.int k n)=.int k n)∧(∀ b,PV.wz (.bool b)=.bool b)∧(∀ l,PV.wz (.string ⟨⟨l⟩⟩)=.str l)∧
  (PV.wz (.slice none 0 0)=.sl 0 [] (some true))∧(PV.wz (.pointer none)=.Bp)∧(PV.wz .nilFunc=.Dy):=
 ⟨fun _ _ _ _=>rfl,fun _ _ _=>rfl,fun _ _ _=>rfl,fun _ _=>rfl,fun _ _=>rfl,
  fun _ _=>rfl,fun _=>rfl,fun _=>rfl,rfl,rfl,rfl⟩
end Lp
namespace Lp
open Go
def aA (n:Nd):PV:=.agg [.int .i64 n.kind,.int .i64 n.many,.str n.name,.str n.s,.bool n.neg,.int .i64 n.e]
def aB (v:Vl):PV:=.sl 6 (v.map aA) none
end Lp
namespace Lp
open Go
structure HK {α:Type}(K:α→Prop):Type where
def atO {α:Type}{K:α→Prop}(o:Option α) (_h:HK K):Prop:=∃ x,o=some x∧K x
theorem atR {α:Type}(K:α→Prop):(∀ x,atO (some x) (HK.mk:HK K)=K x)∧(∀ (a:α) l,(a::l)[0]?=some a)∧(∀ (a:α) l (n:Nat),(a::l)[n+1]?=l[n]?):=
 ⟨fun x=>by simp [atO],fun _ _=>rfl,fun _ _ _=>by simp⟩
def Lj (k:TK) (K:TypeId→Prop):Prop:=match k with
 | .slice e=>K e
 | _=>False
def arK (k:TK) (K:Nat→TypeId→Prop):Prop:=match k with
 | .array n e=>K n e
 | _=>False
def MW (k:TK) (X:Prop):Prop:=match k with
 | .str=>X
 | _=>False
@[congr] theorem adE {k k':TK}{K:TypeId→Prop}(h:k=k'):Lj k K=Lj k' K:=by rw [h]
@[congr] theorem adF {k k':TK}{K:Nat→TypeId→Prop}(h:k=k'):arK k K=arK k' K:=by rw [h]
@[congr] theorem ac8 {k k':TK}{X:Prop}(h:k=k'):MW k X=MW k' X:=by rw [h]
theorem skR:(∀ e K,Lj (.slice e) K=K e)∧(∀ n e K,arK (.array n e) K=K n e)∧(∀ X,MW .str X=X):=⟨fun _ _=>rfl,fun _ _ _=>rfl,fun _=>rfl⟩
theorem Zo (D:TypeId→aJ) (objs:List Obj) (K:KT) :
  (∀ t sz xs q k n,bq D t (.sl sz xs q) (.int k n) objs K=Lj (D t).kind fun e=>(D e).kind≠.none∧0≤n∧(D e).size=sz∧atO xs[n.toNat]? (HK.mk:HK fun y=>K (.addr y) objs 0))∧
  (∀ t k ver k' n,bq D t (.bA k ver) (.int k' n) objs K=Lj (D t).kind fun e=>(D e).kind≠.none∧0≤n∧∃ o,objs[k]?=some o∧o.live=true∧o.ver=ver∧n<o.xs.length∧(D e).size=o.sz∧K (.bR k ver n.toNat 0) objs (4+2*k))∧
  (∀ t cs k n,bq D t (.addr (.agg cs)) (.int k n) objs K=arK (D t).kind fun m e=>(D e).kind≠.none∧0≤n∧n<m∧(n.toNat+1)*(D e).size≤cs.length∧((D e).agg=false→(D e).size=1)∧cs.all (fun c=>!c.isAgg)=true∧
   K (.addr (sub cs (n.toNat*(D e).size) (D e).size (D e).agg)) objs 0)∧
  (∀ t k ver i f k' n,bq D t (.bR k ver i f) (.int k' n) objs K=arK (D t).kind fun m e=>(D e).kind≠.none∧0≤n∧n<m∧∃ o,objs[k]?=some o∧o.live=true∧o.ver=ver∧K (.bR k ver i (f+n.toNat*(D e).size)) objs (4+2*k))∧
  (∀ t s k n,lS D t (.str s) (.int k n) objs K=MW (D t).kind (0≤n∧atO s[n.toNat]? (HK.mk:HK fun b=>K (.int .u8 b.toNat) objs 0)))∧
  (∀ t cs k n,lS D t (.agg cs) (.int k n) objs K=arK (D t).kind fun m e=>(D e).kind≠.none∧0≤n∧n<m∧(n.toNat+1)*(D e).size≤cs.length∧(D e).size≠0∧K (sub cs (n.toNat*(D e).size) (D e).size (D e).agg) objs 0)∧
  (∀ t cs f,aN D t (.addr (.agg cs)) f objs K=eH D t f fun off ti=>off+ti.size≤cs.length∧(ti.agg=false→ti.size=1)∧cs.all (fun c=>!c.isAgg)=true∧K (.addr (sub cs off ti.size ti.agg)) objs 0)∧
  (∀ t k ver i f' f,aN D t (.bR k ver i f') f objs K=∃ o,objs[k]?=some o∧o.live=true∧o.ver=ver∧eH D t f fun off _=>K (.bR k ver i (f'+off)) objs (4+2*k))∧
  (∀ t cs f,oP D t (.agg cs) f objs K=eH D t f fun off ti=>off+ti.size≤cs.length∧K (sub cs off ti.size ti.agg) objs 0)∧
  (∀ t s,qg D t (.str s) objs K=MW (D t).kind (K (.int .i64 s.length) objs 0))∧
  (∀ t sz xs q,qg D t (.sl sz xs q) objs K=Lj (D t).kind fun _=>K (.int .i64 xs.length) objs 0)∧
  (∀ t k ver,qg D t (.bA k ver) objs K=Lj (D t).kind fun _=>∃ o,objs[k]?=some o∧o.live=true∧o.ver=ver∧K (.int .i64 o.xs.length) objs (4+2*k))∧
  (∀ t s lo hi,jf D t (.str s) lo hi objs K=MW (D t).kind (dH lo 0 fun l=>dH hi s.length fun h=>0≤l∧l≤h∧h≤s.length∧K (.str ((s.take h.toNat).drop l.toNat)) objs 0))∧
  (∀ t sz xs q lo hi,jf D t (.sl sz xs q) lo hi objs K=Lj (D t).kind fun e=>(D e).kind≠.none∧(xs=[]∨(D e).size=sz)∧dH lo 0 fun l=>dH hi xs.length fun h=>0≤l∧l≤h∧h≤xs.length∧
   K (.sl sz ((xs.take h.toNat).drop l.toNat) q) objs 0)∧
  (∀ t k ver lo hi,jf D t (.bA k ver) lo hi objs K=Lj (D t).kind fun e=>(D e).kind≠.none∧∃ o,objs[k]?=some o∧o.live=true∧o.ver=ver∧(D e).size=o.sz∧lo=none∧dH hi o.xs.length fun h=>0≤h∧h≤o.xs.length∧
   K (.bA k (ver+1)) (objs.set k { o with xs:=o.xs.take h.toNat,ver:=ver+1 }) (5+2*k)):=by
 refine ⟨fun t sz xs q k n=>?_,fun t k ver k' n=>?_,fun t cs k n=>?_,fun t k ver i f k' n=>?_,fun t s k n=>?_,fun t cs k n=>?_,fun _ _ _=>rfl,fun _ _ _ _ _ _=>rfl,fun _ _ _=>rfl,fun t s=>?_,fun t sz xs q=>?_,fun t k ver=>?_,fun t s lo hi=>?_,fun t sz xs q lo hi=>?_,fun t k ver lo hi=>?_⟩
 all_goals try simp only [bq,lS,qg,jf]
 all_goals cases (D t).kind <;> simp only [Lj,arK,MW,atO]
 apply propext
 constructor
 · rintro ⟨h1,h2,y,h3,h4,h5⟩;exact ⟨h1,h2,h4,y,h3,h5⟩
 · rintro ⟨h1,h2,h4,y,h3,h5⟩;exact ⟨h1,h2,y,h3,h4,h5⟩
theorem ldR (objs:List Obj) (K:KT) :
  (∀ ti x,fF ti (.addr x) objs K=(ti.kind≠.none∧x.cells.length=ti.size∧x.isAgg=ti.agg∧K x objs 0))∧
  (∀ ti k ver i f,fF ti (.bR k ver i f) objs K=∃ o e,objs[k]?=some o∧o.live=true∧o.ver=ver∧o.xs[i]?=some e∧ti.kind≠.none∧f+ti.size≤e.cells.length∧
   (ti.agg=false→ti.size=1)∧e.cells.all (fun c=>!c.isAgg)=true∧K (sub e.cells f ti.size ti.agg) objs (4+2*k)):=⟨fun _ _=>rfl,fun _ _ _ _ _=>rfl⟩
theorem Zp (D:TypeId→aJ) (objs:List Obj) (K:List PV→Bool→Prop) :
  (∀ t sz xs q,nk D t (.sl sz xs q) objs K=Lj (D t).kind fun _=>K xs false)∧
  (∀ t k ver,nk D t (.bA k ver) objs K=Lj (D t).kind fun _=>∃ o,objs[k]?=some o∧o.live=true∧o.ver=ver∧K o.xs true)∧
  (∀ t s,nk D t (.str s) objs K=MW (D t).kind (K (s.map fun b=>.int .u8 b.toNat) false)):=by
 refine ⟨fun t sz xs q=>?_,fun t k ver=>?_,fun t s=>?_⟩
 all_goals simp only [nk]
 all_goals cases (D t).kind <;> simp only [Lj,MW]
@[congr] theorem ac9 {D:TypeId→aJ}{t:TypeId}{x x':PV}{objs objs':List Obj}{K:List PV→Bool→Prop}(h:x=x') (ho:objs=objs'):nk D t x objs K=nk D t x' objs' K:=by rw [h,ho]
theorem ntR:noTwo []=true∧(∀ l,noTwo (0::l)=noTwo l)∧(∀ l,noTwo (1::l)=noTwo l)∧(∀ l,noTwo (4::l)=noTwo l)∧(∀ l,noTwo (6::l)=noTwo l)∧(∀ l,noTwo (8::l)=noTwo l)∧(∀ l,noTwo (10::l)=noTwo l):=
 ⟨rfl,fun _=>rfl,fun _=>rfl,fun _=>rfl,fun _=>rfl,fun _=>rfl,fun _=>rfl⟩
theorem sV {α:Type}{E:List α→PV}{sz:Nat}{enc:α→PV}(hE:∀ l,E l=.sl sz (l.map enc) none) (D:TypeId→aJ) (objs:List Obj) (K:KT) :
  (∀ t l k n,bq D t (E l) (.int k n) objs K=Lj (D t).kind fun e=>(D e).kind≠.none∧0≤n∧(D e).size=sz∧atO l[n.toNat]? (HK.mk:HK fun y=>K (.addr (enc y)) objs 0))∧
  (∀ t l,qg D t (E l) objs K=Lj (D t).kind fun _=>K (.int .i64 l.length) objs 0)∧
  (∀ t l lo hi,jf D t (E l) lo hi objs K=Lj (D t).kind fun e=>(D e).kind≠.none∧(l=[]∨(D e).size=sz)∧dH lo 0 fun a=>dH hi l.length fun h=>0≤a∧a≤h∧h≤l.length∧
   K (E ((l.take h.toNat).drop a.toNat)) objs 0):=by
 refine ⟨fun t l k n=>?_,fun t l=>?_,fun t l lo hi=>?_⟩
 all_goals simp only [hE,(Zo D objs K).1,(Zo D objs K).2.2.2.2.2.2.2.2.2.2.1,(Zo D objs K).2.2.2.2.2.2.2.2.2.2.2.2.2.1]
 all_goals cases (D t).kind <;> simp only [Lj,atO,List.length_map,List.map_eq_nil_iff,List.map_drop,List.map_take]
 apply propext
 constructor
 · rintro ⟨h1,h2,h4,y,h3,h5⟩
   rw [List.getElem?_map] at h3
   cases hx:l[n.toNat]? with
   | none=>rw [hx] at h3;simp at h3
   | some x=>rw [hx] at h3;simp only [Option.map_some,Option.some.injEq] at h3;exact ⟨h1,h2,h4,x,rfl,h3 ▸ h5⟩
 · rintro ⟨h1,h2,h4,y,h3,h5⟩
   exact ⟨h1,h2,h4,enc y,by rw [List.getElem?_map,h3];rfl,h5⟩
theorem jM {α:Type}{E:List α→PV}{sz:Nat}{enc:α→PV}(hE:∀ l,E l=.sl sz (l.map enc) none) (D:TypeId→aJ) (objs:List Obj) (K:List PV→Bool→Prop) :
  (∀ t l,nk D t (E l) objs K=Lj (D t).kind fun _=>K (l.map enc) false):=by
 intro t l
 rw [hE]
 exact (Zp D objs K).1 ..
theorem sW {α:Type}{E:List α→PV}{sz:Nat}{enc:α→PV}(hE:∀ l,E l=.sl sz (l.map enc) none) :
  (∀ l,(E l).cells=[E l])∧(∀ l,(E l).isAgg=false)∧(∀ l,(E l).pure=true)∧(∀ l,(E l).ref=false)∧(∀ l,(E l).nD=true)∧(∀ l,(E l).storable=true)∧
  (∀ d n O l,fC d n O (E l)=E l)∧(∀ d n O l,gY d n O (E l)=E l):=by
 refine ⟨fun l=>?_,fun l=>?_,fun l=>?_,fun l=>?_,fun l=>?_,fun l=>?_,fun _ _ _ l=>?_,fun _ _ _ l=>?_⟩
 all_goals rw [hE];rfl
def fU {α:Type}(E:α→PV){K:α→Prop}(x:PV) (_h:HK K):Prop:=∃ v,x=E v∧K v
theorem aQ {α:Type}{E:α→PV}(hE:∀ a b,E a=E b→a=b) (K:α→Prop) (v:α):fU E (E v) (HK.mk:HK K)=K v:=
 propext ⟨fun ⟨w,h,hk⟩=>hE v w h ▸ hk,fun hk=>⟨v,rfl,hk⟩⟩
theorem n_ {α:Type}{E:List α→PV}{sz:Nat}{enc:α→PV}(hE:∀ l,E l=.sl sz (l.map enc) none) (he:∀ a b,enc a=enc b→a=b):∀ a b,E a=E b→a=b:=by
 intro a b h
 rw [hE,hE] at h
 injection h with _ h _
 induction a generalizing b with
 | nil=>cases b with
  | nil=>rfl
  | cons y ys=>simp at h
 | cons x xs ih=>cases b with
  | nil=>simp at h
  | cons y ys=>
   simp only [List.map_cons,List.cons.injEq] at h
   rw [he x y h.1,ih ys h.2]
theorem exS {α:Type}(a:α) (q:α→Prop):(∃ o,some a=some o∧q o)=q a:=by simp
theorem ad1:(∀ k n,PV.storable (.int k n)=true)∧(∀ b,PV.storable (.bool b)=true)∧(∀ s,PV.storable (.str s)=true)∧(∀ z xs q,PV.storable (.sl z xs q)=true)∧
  (∀ k v,PV.storable (.bA k v)=true)∧(∀ k v i f,PV.storable (.bR k v i f)=true)∧(∀ x,PV.storable (.addr x)=true):=
 ⟨fun _ _=>rfl,fun _=>rfl,fun _=>rfl,fun _ _ _=>rfl,fun _ _=>rfl,fun _ _ _ _=>rfl,fun _=>rfl⟩
theorem Zq {α β:Type}(f:α→β) (l m:List α):l.map f++m.map f=(l++m).map f:=by simp
def vO {α:Type}(enc:α→PV):Prop:=∀ d n objs x,PV.bL (gF d n objs) (enc x)=enc x
theorem iQ {α:Type}{E:List α→PV}{sz:Nat}{enc:α→PV}(hE:∀ l,E l=.sl sz (l.map enc) none) (h:vO enc) :
  (∀ d ty l v rest,fC (d+1) 0 (⟨ty,sz,l.map enc,true,v⟩::rest) (.bA 0 v)=E l)∧
  (∀ d ty l v o rest,fC (d+1) 0 (o::⟨ty,sz,l.map enc,true,v⟩::rest) (.bA 1 v)=E l)∧
  (∀ d ty l v o o' rest,fC (d+1) 0 (o::o'::⟨ty,sz,l.map enc,true,v⟩::rest) (.bA 2 v)=E l):=by
 have key:∀ d ty l v objs k,objs[k]?=some ⟨ty,sz,l.map enc,true,v⟩→fC (d+1) 0 objs (.bA k v)=E l:=by
  intro d ty l v objs k hk
  simp only [fC,Nat.not_lt_zero,if_false,gF,hk,Nat.zero_le,decide_true,Bool.and_self,BEq.rfl,if_true]
  rw [hE]
  congr 1
  rw [List.map_map]
  exact List.map_congr_left fun x _=>h d 0 objs x
 exact ⟨fun d ty l v rest=>key d ty l v _ 0 rfl,fun d ty l v o rest=>key d ty l v _ 1 rfl,fun d ty l v o o' rest=>key d ty l v _ 2 rfl⟩
theorem r9 {α:Type}{enc:α→PV}{sz:Nat}(h1:∀ x,(enc x).cells.length=sz) (h2:∀ x,(enc x).cells.all PV.storable=true) (l:List α) :
  (∀ y,y ∈ l.map enc→y.cells.length=sz∧y.cells.all PV.storable=true)=True:=by
 refine eq_true fun y hy=>?_
 obtain ⟨x,_,rfl⟩:=List.mem_map.1 hy
 exact ⟨h1 x,h2 x⟩
theorem ab0 (y0:PV) (sz:Nat):(∀ y,y ∈ [y0]→y.cells.length=sz∧y.cells.all PV.storable=true)=(y0.cells.length=sz∧y0.cells.all PV.storable=true):=by simp
theorem Ll (E:PV) (h:E.ref=false) (k:Nat):(∀ k' v':Nat,E=.bA k' v'→¬ k'=k)=True:=by
 refine eq_true fun k' v' he=>?_
 rw [he] at h;cases h
def rG:List Bool→Nat→List (Nat×PV)→List (Nat×PV)
 | [],_,_=>[]
 | true::ks,i,l=>(i,lM l i)::rG ks (i+1) l
 | false::ks,i,l=>rG ks (i+1) l
theorem Ib:∀ (ks:List Bool) (j:Nat) (l:List (Nat×PV)) (i:Nat),lM (rG ks j l) i=if j≤i∧ks[i-j]?=some true then lM l i else .dead
 | [],j,l,i=>by simp [rG,lM]
 | true::ks,j,l,i=>by
  simp only [rG,lM]
  by_cases h:i=j
  · subst h;simp
  · rw [if_neg h,Ib ks (j+1) l i]
    by_cases hj:j+1≤i
    · have e:i-j=(i-(j+1))+1:=by omega
      simp only [e,List.getElem?_cons_succ,hj,true_and,show j≤i by omega]
    · rw [if_neg (by omega),if_neg (by omega)]
 | false::ks,j,l,i=>by
  simp only [rG]
  rw [Ib ks (j+1) l i]
  by_cases h:i=j
  · subst h;rw [if_neg (by omega),if_neg (by simp)]
  · by_cases hj:j+1≤i
    · have e:i-j=(i-(j+1))+1:=by omega
      simp only [e,List.getElem?_cons_succ,hj,true_and,show j≤i by omega]
    · rw [if_neg (by omega),if_neg (by omega)]
theorem PY (ks:List Bool) (n:Nat) (l:List (Nat×PV)):yN ks (dz n l)=dz n (rG ks 0 l):=by
 refine xW (by simp [nQ,nU]) fun i hi=>?_
 rw [wR,uU,if_pos hi,Ib]
 simp
theorem bG :
  (∀ ks n l ob,St.norm ks none ⟨dz n l,ob⟩=⟨dz n (rG ks 0 l),ob⟩)∧
  (∀ ks d k n l ob,St.norm ks (some (d,k)) ⟨dz n l,ob⟩=St.freeze d k ⟨dz n (rG ks 0 l),ob⟩):=by
 refine ⟨fun ks n l ob=>?_,fun ks d k n l ob=>?_⟩
 · simp only [St.norm,St.forget,PY]
 · simp only [St.norm,St.forget,PY]
theorem keepR:(∀ i l,rG [] i l=[])∧(∀ ks i l,rG (true::ks) i l=(i,lM l i)::rG ks (i+1) l)∧(∀ ks i l,rG (false::ks) i l=rG ks (i+1) l):=
 ⟨fun _ _=>rfl,fun _ _ _=>rfl,fun _ _ _=>rfl⟩
theorem ad2 (T:Know) (K:KT) (objs:List Obj) (pt:Bool) :
  (∀ g args,oJ T pt (.fn g [] []) args objs K=T.fn g args objs K)∧
  (∀ g c,oJ T pt (.fn g [] [c]) [] objs K=T.fn g [c] objs K)∧
  (∀ g c a,oJ T pt (.fn g [] [c]) [a] objs K=T.fn g [a,c] objs K)∧
  (∀ g c a b,oJ T pt (.fn g [] [c]) [a,b] objs K=T.fn g [a,b,c] objs K)∧
  (∀ g c d a,oJ T pt (.fn g [] [c,d]) [a] objs K=T.fn g [a,c,d] objs K)∧
  (∀ g c d a b,oJ T pt (.fn g [] [c,d]) [a,b] objs K=T.fn g [a,b,c,d] objs K)∧
  (∀ l args,oJ T pt (.Fx l) args objs K=(l=T.y∧pt=true∧args.all PV.pure=true∧T.Y args objs fun b o=>K (.bool b) o 2)):=by
 refine ⟨fun g args=>?_,fun _ _=>rfl,fun _ _ _=>rfl,fun _ _ _ _=>rfl,fun _ _ _ _=>rfl,fun _ _ _ _ _=>rfl,fun _ _=>rfl⟩
 simp [oJ]
theorem abf (K:KT) (objs:List Obj) (args:List PV) (c:dJ) (l:List (FuncId×dJ)) (f:FuncId) :
  (uR ((f,c)::l) f args objs K=c args objs K)∧(∀ g,(f==g)=false→uR ((g,c)::l) f args objs K=uR l f args objs K):=by
 refine ⟨by simp [uR],fun g h=>?_⟩
 rw [taR,h];rfl
@[congr] theorem Zr {D:TypeId→aJ}{b:Builtin}{ats ad3:List TypeId}{args args':List Operand}{ev:Operand→PV}{objs:List Obj}{K:KT}(h:ats=ad3) (h1:args=args'):fG D b ats args ev objs K=fG D b ad3 args' ev objs K:=by rw [h,h1]
theorem ab1 (P:Program) (D:TypeId→aJ) (T:Know) (w pt:Bool) (ev:Operand→PV) (objs:List Obj) (K:KT) :
  (∀ x,mg P D T w pt ev objs (.move x) K=K (ev x) objs 0)∧(∀ x,mg P D T w pt ev objs (.assign x) K=K (ev x) objs 0)∧
  (∀ c x y,mg P D T w pt ev objs (.pick c x y) K=rC (ev c) (ev x) (ev y) objs K)∧
  (∀ t,mg P D T w pt ev objs (.alloc t) K=rW t (D t) objs K)∧
  (∀ t x,mg P D T w pt ev objs (.box t x) K=JE t (D t) (ev x) objs K)∧
  (∀ t ps,mg P D T w pt ev objs (.build t ps) K=bK D t (ps.toList.map fun x=>(x.1,ev x.2)) objs K)∧
  (∀ t n ps,mg P D T w pt ev objs (.buildSlice t n ps) K=bQ D w t n (ps.toList.map fun x=>(x.1,ev x.2)) objs K)∧
  (∀ t x,mg P D T w pt ev objs (.load t x) K=fF (D t) (ev x) objs K)∧
  (∀ t x y,mg P D T w pt ev objs (.store t x y) K=jQ (D t) (ev x) (ev y) objs K)∧
  (∀ x,mg P D T w pt ev objs (.nilCheck x) K=dS (ev x) objs K)∧
  (∀ b t x y t',mg P D T w pt ev objs (.binOp b t x y t') K=qf P (D t) t b (ev x) (ev y) fun r=>K r objs 0)∧
  (∀ u t x,mg P D T w pt ev objs (.unOp u t x) K=OJ u (ev x) fun r=>K r objs 0)∧
  (∀ s t x,mg P D T w pt ev objs (.convert s t x) K=ko D s t (ev x) objs K)∧
  (∀ f first cap,mg P D T w pt ev objs (.makeFunc (.func f) first cap) K=jO f (first.toList.map ev) (cap.toList.map ev) objs K)∧
  (∀ t l c,mg P D T w pt ev objs (.makeSlice t l c) K=fI D t (ev l) (ev c) objs K)∧
  (∀ t x lo hi,mg P D T w pt ev objs (.slice t x lo hi none) K=jf D t (ev x) (lo.map ev) (hi.map ev) objs K)∧
  (∀ t x f,mg P D T w pt ev objs (.fieldAddr t x f) K=aN D t (ev x) f objs K)∧
  (∀ t x f,mg P D T w pt ev objs (.field t x f) K=oP D t (ev x) f objs K)∧
  (∀ t x i,mg P D T w pt ev objs (.indexAddr t x i) K=bq D t (ev x) (ev i) objs K)∧
  (∀ t x i,mg P D T w pt ev objs (.index t x i) K=lS D t (ev x) (ev i) objs K)∧
  (∀ x i,mg P D T w pt ev objs (.extract x i) K=bU (ev x) i objs K)∧
  (∀ t x,mg P D T w pt ev objs (.call { callee:=.builtin .len,args:=⟨[x]⟩,argTypes:=⟨[t]⟩ }) K=qg D t (ev x) objs K)∧
  (∀ t u s x,mg P D T w pt ev objs (.call { callee:=.builtin .append,args:=⟨[s,x]⟩,argTypes:=⟨[t,u]⟩ }) K=eO D t u (ev s) (ev x) objs K)∧
  (∀ x y ats,mg P D T w pt ev objs (.call { callee:=.builtin .max,args:=⟨[x,y]⟩,argTypes:=ats }) K=iI true [ev x,ev y] fun r=>K r objs 0)∧
  (∀ x y ats,mg P D T w pt ev objs (.call { callee:=.builtin .min,args:=⟨[x,y]⟩,argTypes:=ats }) K=iI false [ev x,ev y] fun r=>K r objs 0)∧
  (∀ f args ats,mg P D T w pt ev objs (.call { callee:=.value f,args:=args,argTypes:=ats }) K=oJ T pt (ev f) (args.toList.map ev) objs K):=
 ⟨fun _=>rfl,fun _=>rfl,fun _ _ _=>rfl,fun _=>rfl,fun _ _=>rfl,fun _ _=>rfl,fun _ _ _=>rfl,fun _ _=>rfl,fun _ _ _=>rfl,fun _=>rfl,fun _ _ _ _ _=>rfl,fun _ _ _=>rfl,fun _ _ _=>rfl,
  fun _ _ _=>rfl,fun _ _ _=>rfl,fun _ _ _ _=>rfl,fun _ _ _=>rfl,fun _ _ _=>rfl,fun _ _ _=>rfl,fun _ _ _=>rfl,fun _ _=>rfl,fun _ _=>rfl,fun _ _ _ _=>rfl,fun _ _ _=>rfl,fun _ _ _=>rfl,fun _ _ _=>rfl⟩
theorem ad4 {α β:Type}(a:α) (q:α→β→Prop):(∃ o e,some a=some o∧q o e)=∃ e,q a e:=by simp
theorem setRow {α:Type}{enc:α→PV}(h:∀ x y:α,(enc x).putCells 0 (enc y).cells=enc y) (l:List α) (i:Nat) (x y:α):(l.map enc).set i ((enc x).putCells 0 (enc y).cells)=(l.set i y).map enc:=by
 rw [h,List.map_set]
theorem ad5 (P:Program) (D:TypeId→aJ) (T:Know) :
  (∀ S ts (K:St→List Nat→Prop),LR P D T [] S ts K=K S ts)∧
  (∀ d o w rest n l ob ts (K:St→List Nat→Prop),LR P D T (⟨some d,o,none,w⟩::rest) ⟨dz n l,ob⟩ ts K=
   mg P D T w ((dz n l).all PV.pure) (St.ev ⟨dz n l,ob⟩) ob o fun r objs' t=>LR P D T rest ⟨dz n ((d,r)::l),objs'⟩ (ts++[t]) K)∧
  (∀ o w rest n l ob ts (K:St→List Nat→Prop),LR P D T (⟨none,o,none,w⟩::rest) ⟨dz n l,ob⟩ ts K=
   mg P D T w ((dz n l).all PV.pure) (St.ev ⟨dz n l,ob⟩) ob o fun r objs' t=>LR P D T rest ⟨dz n l,objs'⟩ (ts++[t]) K)∧
  (∀ d o g v w rest n l ob ts (K:St→List Nat→Prop),LR P D T (⟨some d,o,some (some g,v),w⟩::rest) ⟨dz n l,ob⟩ ts K=
   lU ((dz n l).getD g .dead) g v ⟨dz n l,ob⟩ (fun S=>LR P D T (⟨some d,o,none,w⟩::rest) S ts K) (fun S=>LR P D T rest (S.put (some d) (.bP [])) (ts++[0]) K))∧
  (∀ o g v w rest n l ob ts (K:St→List Nat→Prop),LR P D T (⟨none,o,some (some g,v),w⟩::rest) ⟨dz n l,ob⟩ ts K=
   lU ((dz n l).getD g .dead) g v ⟨dz n l,ob⟩ (fun S=>LR P D T (⟨none,o,none,w⟩::rest) S ts K) (fun S=>LR P D T rest S (ts++[0]) K)):=by
 refine ⟨fun _ _ _=>rfl,fun d o w rest n l ob ts K=>?_,fun o w rest n l ob ts K=>rfl,fun d o g v w rest n l ob ts K=>rfl,fun o g v w rest n l ob ts K=>rfl⟩
 simp only [← nV.1]
 rfl
theorem abg :
  (∀ b d n l ob (X Y:St→Prop),lU (.bool b) d true ⟨dz n l,ob⟩ X Y=Ac b (X ⟨dz n ((d,.bool true)::l),ob⟩) (Y ⟨dz n ((d,.bool false)::l),ob⟩))∧
  (∀ b d n l ob (X Y:St→Prop),lU (.bool b) d false ⟨dz n l,ob⟩ X Y=Ac b (Y ⟨dz n ((d,.bool true)::l),ob⟩) (X ⟨dz n ((d,.bool false)::l),ob⟩))∧
  (∀ d w (S:St) (X Y:St→Prop),lU (.bP []) d w S X Y=Y S):=by
 refine ⟨fun b d n l ob X Y=>?_,fun b d n l ob X Y=>?_,fun _ _ _ _ _=>rfl⟩
 · simp only [adZ,nV.1]
 · simp only [adZ,nV.1]
theorem ab2:(∀ n l ob d p,St.put ⟨dz n l,ob⟩ (some d) p=⟨dz n ((d,p)::l),ob⟩):=fun n l ob d p=>by
 rw [← nV.1];rfl
theorem aO.a_ {P:Program}{D:TypeId→aJ}{T:Know}{f:FuncId}{n t:Nat}{C:LC}{args:List PV}{r:PV}(h:aO P f n [.tmp t] C) (d:Nat) (hD:∀ t,iY P t (D t)) (hT:H7 P none uQ T) (hm:P.follows .mixedOrders=true) (ht:t<n)
  (hw:∀ Q:Exit→St→Prop,(∀ l ob,Q .ret ⟨dz n l,ob⟩=(r=gY d 0 ob (lM l t)))→lq P D T C Q (bZ args n)):ai P f args [] r []:=by
 refine h.pure d hD hT hm (by simp) (hw _ fun l ob=>?_)
 simp only [nu,jh,nV.2.1 n l t ht,List.map_cons,List.map_nil,fA]
theorem aO.r_ {P:Program}{D:TypeId→aJ}{T:Know}{f:FuncId}{n t u:Nat}{C:LC}{args:List PV}{r:PV}(h:aO P f n [.tmp t,.tmp u] C) (d:Nat) (hD:∀ t,iY P t (D t)) (hT:H7 P none uQ T) (hm:P.follows .mixedOrders=true) (ht:t<n) (hu:u<n)
  (hw:∀ Q:Exit→St→Prop,(∀ l ob,Q .ret ⟨dz n l,ob⟩=(r=.bP [gY d 0 ob (lM l t),gY d 0 ob (lM l u)]))→lq P D T C Q (bZ args n)):ai P f args [] r []:=by
 refine h.pure d hD hT hm (by simp) (hw _ fun l ob=>?_)
 simp only [nu,jh,nV.2.1 n l t ht,nV.2.1 n l u hu,List.map_cons,List.map_nil,fA]
theorem pkR (x y:PV) (objs:List Obj) (K:KT):(rC (.bool true) x y objs K=K x objs 0)∧(rC (.bool false) x y objs K=K y objs 0):=⟨rfl,rfl⟩
theorem ad6 :
  type_of% @BL∧
  type_of% @Gf∧
  type_of% @kiR∧
  type_of% @ad5∧
  type_of% @adY∧
  type_of% @abg∧
  type_of% @ab2∧
  type_of% @hoR∧
  type_of% @ifR∧
  type_of% @ab1∧
  type_of% @abf∧
  type_of% @fq∧
  type_of% @Jy∧
  type_of% @zh∧
  type_of% @MQ∧
  type_of% @H_∧
  type_of% @Zp∧
  type_of% @skR∧
  type_of% @atR∧
  type_of% @exS∧
  type_of% @ad4:=
 ⟨@BL,@Gf,@kiR,@ad5,@adY,@abg,@ab2,@hoR,@ifR,@ab1,@abf,@fq,@Jy,@zh,@MQ,@H_,@Zp,@skR,@atR,@exS,@ad4⟩
theorem ab3 :
  type_of% @Gf∧
  type_of% @kiR∧
  type_of% @kS∧
  type_of% @nV∧
  type_of% @Zn∧
  type_of% @abg∧
  type_of% @ifR∧
  type_of% @ac7∧
  type_of% @nu∧
  type_of% @Li∧
  type_of% @FD∧
  type_of% @fzR∧
  type_of% @sD∧
  type_of% @bG∧
  type_of% @keepR∧
  type_of% @ad2∧
  type_of% @abf∧
  type_of% @fq∧
  type_of% @pkR∧
  type_of% @Jw∧
  type_of% @Jy∧
  type_of% @zR∧
  type_of% @Zj∧
  type_of% @JP∧
  type_of% @uS∧
  type_of% @Gg∧
  type_of% @Jz∧
  type_of% @Zo∧
  type_of% @ldR∧
  type_of% @Zp∧
  type_of% @skR∧
  type_of% @ntR∧
  type_of% @atR∧
  type_of% @ad1∧
  type_of% @puR∧
  type_of% @Zq∧
  type_of% @ab0:=
 ⟨@Gf,@kiR,@kS,@nV,@Zn,@abg,@ifR,@ac7,@nu,@Li,@FD,@fzR,@sD,@bG,@keepR,@ad2,@abf,@fq,@pkR,@Jw,@Jy,@zR,@Zj,@JP,@uS,@Gg,@Jz,@Zo,@ldR,@Zp,@skR,@ntR,@atR,@ad1,@puR,@Zq,@ab0⟩
theorem ab4 :
  type_of% @decide_true∧
  type_of% @decide_false∧
  type_of% @not_true_eq_false∧
  type_of% @not_false_eq_true∧
  type_of% @false_and∧
  type_of% @and_false∧
  type_of% @cond_true.{1}∧
  type_of% @cond_false.{1}∧
  type_of% @List.take_zero.{0}∧
  type_of% @ne_eq.{1}∧
  type_of% @true_and∧
  type_of% @PV.bool.injEq∧
  type_of% @Int.toNat_natCast∧
  type_of% @Int.toNat_zero∧
  type_of% @Bool.not_false∧
  type_of% @Bool.not_true∧
  type_of% @Bool.and_self∧
  type_of% @Bool.false_eq_true∧
  type_of% @Bool.true_eq_false∧
  type_of% @forall_const.{1}∧
  type_of% @false_implies∧
  type_of% @true_implies∧
  type_of% @and_true∧
  type_of% @implies_true.{1}∧
  type_of% @implies_true.{0}∧
  type_of% @forall_const.{0}∧
  type_of% @Nat.zero_add∧
  type_of% @List.length_map.{0,0}∧
  type_of% @List.length_cons.{0}∧
  type_of% @List.length_nil.{0}∧
  type_of% @List.nil_append.{0}∧
  type_of% @List.map_cons.{0,0}∧
  type_of% @List.map_nil.{0,0}∧
  type_of% @Bool.true_or∧
  type_of% @List.getElem?_cons_zero.{0}∧
  type_of% @List.getElem?_cons_succ.{0}∧
  type_of% @Option.map_some.{0,0}∧
  type_of% @or_true∧
  type_of% @List.getElem?_map.{0,0}∧
  type_of% @List.length_replicate.{0}∧
  type_of% @List.all_cons.{0}∧
  type_of% @List.all_nil.{0}∧
  type_of% @Bool.and_true∧
  type_of% @Bool.true_and∧
  type_of% @Bool.false_or∧
  type_of% @Bool.or_false∧
  type_of% @Nat.le_refl∧
  type_of% @Nat.lt_add_one∧
  type_of% @List.length_append.{0}:=
 ⟨@decide_true,@decide_false,@not_true_eq_false,@not_false_eq_true,@false_and,@and_false,@cond_true.{1},@cond_false.{1},@List.take_zero.{0},@ne_eq.{1},@true_and,@PV.bool.injEq,@Int.toNat_natCast,@Int.toNat_zero,@Bool.not_false,@Bool.not_true,@Bool.and_self,@Bool.false_eq_true,@Bool.true_eq_false,@forall_const.{1},@false_implies,@true_implies,@and_true,@implies_true.{1},@implies_true.{0},@forall_const.{0},@Nat.zero_add,@List.length_map.{0,0},@List.length_cons.{0},@List.length_nil.{0},@List.nil_append.{0},@List.map_cons.{0,0},@List.map_nil.{0,0},@Bool.true_or,@List.getElem?_cons_zero.{0},@List.getElem?_cons_succ.{0},@Option.map_some.{0,0},@or_true,@List.getElem?_map.{0,0},@List.length_replicate.{0},@List.all_cons.{0},@List.all_nil.{0},@Bool.and_true,@Bool.true_and,@Bool.false_or,@Bool.or_false,@Nat.le_refl,@Nat.lt_add_one,@List.length_append.{0}⟩
theorem ab5 {D:TypeId→aJ}{t:TypeId}{k k':IntKind}{n m:Int}{objs:List Obj}{K:KT}:fI D t (.int k n) (.int k' m) objs K=
  Lj (D t).kind fun e=>(D e).kind≠.none∧(aM (D e)).cells.length=(D e).size∧(D e).size≠0∧(aM (D e)).cells.all PV.storable=true∧0≤n∧n≤m∧m≤9223372036854775807∧(D e).bytes*m≤281474976710656∧
   K (.bA objs.length 1) (newObj objs e (D e).size (List.replicate n.toNat (aM (D e)))) (5+2*objs.length):=by
 unfold fI Lj
 cases (D t).kind <;> rfl
theorem ad7:type_of% @je.eq_1∧type_of% @je.eq_2∧type_of% @je.eq_3∧type_of% @je.eq_4∧type_of% @je.eq_5∧type_of% @je.eq_6∧type_of% @je.eq_7∧type_of% @je.eq_8∧type_of% @dH.eq_1∧type_of% @dH.eq_2∧type_of% @dH.eq_3∧type_of% @eH.eq_1:=⟨@je.eq_1,@je.eq_2,@je.eq_3,@je.eq_4,@je.eq_5,@je.eq_6,@je.eq_7,@je.eq_8,@dH.eq_1,@dH.eq_2,@dH.eq_3,@eH.eq_1⟩
theorem ad8:type_of% @OJ.eq_1∧type_of% @OJ.eq_2∧type_of% @OJ.eq_3∧type_of% @jh.eq_1∧type_of% @jh.eq_2∧type_of% @jh.eq_3∧type_of% @fA.eq_1∧type_of% @fA.eq_2∧type_of% @je.eq_1∧type_of% @je.eq_2∧type_of% @je.eq_3∧type_of% @je.eq_4∧type_of% @je.eq_5∧type_of% @je.eq_6∧type_of% @je.eq_7∧type_of% @je.eq_8∧type_of% @dH.eq_1∧type_of% @dH.eq_2∧type_of% @dH.eq_3∧type_of% @eH.eq_1∧type_of% @JE.eq_1∧type_of% @rW.eq_1∧type_of% @newObj.eq_1∧type_of% @aM.eq_1∧type_of% @bQ.eq_1∧type_of% @eO.eq_1∧type_of% @jg.eq_1∧type_of% @jg.eq_2∧type_of% @jQ.eq_1∧type_of% @jQ.eq_2∧type_of% @St.freeze.eq_1∧type_of% @ab5∧type_of% @iI.eq_1∧type_of% @iI.eq_2∧type_of% @jO.eq_1:=⟨@OJ.eq_1,@OJ.eq_2,@OJ.eq_3,@jh.eq_1,@jh.eq_2,@jh.eq_3,@fA.eq_1,@fA.eq_2,@je.eq_1,@je.eq_2,@je.eq_3,@je.eq_4,@je.eq_5,@je.eq_6,@je.eq_7,@je.eq_8,@dH.eq_1,@dH.eq_2,@dH.eq_3,@eH.eq_1,@JE.eq_1,@rW.eq_1,@newObj.eq_1,@aM.eq_1,@bQ.eq_1,@eO.eq_1,@jg.eq_1,@jg.eq_2,@jQ.eq_1,@jQ.eq_2,@St.freeze.eq_1,@ab5,@iI.eq_1,@iI.eq_2,@jO.eq_1⟩
end Lp
namespace Lp
open Go
variable {P:Program}
def Xf:Option TypeDesc→PV→PV→Bool
 | some (.int k),.int k1 _,.int k2 _=>decide (k1=k2)
 | some .bool,.bool _,.bool _=>true
 | some .string,.str _,.str _=>true
 | _,_,_=>false
def wS (P:Program):Nat→List Field→List PV→List PV→Bool
 | _,[],[],[]=>true
 | k,f::fs,p::aa,q::bs=>(f.name != "_") && f.offset==k && Xf (P.underlying f.type) p q && wS P (k+1) fs aa bs
 | _,_,_,_=>false
theorem BZ {w:World}{t:TypeId}{xs:Array Value}{o:Nat}{v:Value}{d:TypeDesc}(hu:P.underlying t=some d) (hd:(∃ k,d=.int k)∨d=.bool∨d=.string) (hv:xs[o]?=some v):(part t xs o).run P w=.ok v w:=by
 rcases hd with ⟨k,rfl⟩ | rfl | rfl
 all_goals simp [part,isAgg,run_underlying hu,hv]
theorem Zt {w:World}{d:Nat}{t:TypeId}{p q:PV}{v u:Value}{ok:Nat→Prop}(hf:Xf (P.underlying t) p q=true) (hv:dN w ok p v) (hu:dN w ok q u) :
  ∃ b,eqS p q=some b∧(Op.equalIn (d+1) t v u).run P w=.ok b w∧∃ e,P.underlying t=some e∧((∃ k,e=.int k)∨e=.bool∨e=.string):=by
 unfold Xf at hf
 split at hf
 · rename_i k k1 a k2 b hk
   have:k1=k2:=by simpa using hf
   subst this
   cases hv;cases hu
   exact ⟨decide (a=b),by simp [eqS],by rw [run_equalIn_int w d t k1 k a b hk];rfl,_,hk,.inl ⟨_,rfl⟩⟩
 · rename_i a b hk
   cases hv;cases hu
   exact ⟨a==b,rfl,run_equalIn_bool' w d t a b hk,_,hk,.inr (.inl rfl)⟩
 · rename_i a b hk
   cases hv;cases hu
   refine ⟨decide (a=b),rfl,?_,_,hk,.inr (.inr rfl)⟩
   rw [run_equalIn_string w d t _ _ hk]
   congr 1
   simp only [ByteArray.toList_eq]
   by_cases h:a=b
   · simp [h]
   · simp [h]
 · cases hf
theorem MX {w:World}{d:Nat}{ok:Nat→Prop}{xs ys:Array Value}:∀ (fs:List Field) (k:Nat) (aa bs:List PV) (r:Bool),wS P k fs aa bs=true→Dp aa bs=some r→
  (∀ i p,aa[i]?=some p→∃ v,xs[k+i]?=some v∧dN w ok p v)→(∀ i p,bs[i]?=some p→∃ v,ys[k+i]?=some v∧dN w ok p v)→
  (Op.eqFields (d+1) xs ys fs).run P w=.ok r w
 | [],k,aa,bs,r,hf,he,_,_=>by
  cases aa <;> cases bs <;> simp [wS] at hf
  simp only [Dp,Option.some.injEq] at he
  subst he
  rfl
 | f::fs,k,aa,bs,r,hf,he,ha,hb=>by
  cases aa with
  | nil=>cases bs <;> simp [wS] at hf
  | cons p aa=>
   cases bs with
   | nil=>simp [wS] at hf
   | cons q bs=>
    simp only [wS,Bool.and_eq_true,beq_iff_eq,bne_iff_ne] at hf
    obtain ⟨⟨⟨hn,ho⟩,ht⟩,hr⟩:=hf
    obtain ⟨v,hv,rv⟩:=ha 0 p rfl
    obtain ⟨u,hu,ru⟩:=hb 0 q rfl
    obtain ⟨b,hb1,hb2,e,he1,he2⟩:=Zt (d:=d) ht rv ru
    simp only [Dp,hb1] at he
    cases hq:Dp aa bs with
    | none=>rw [hq] at he;simp at he
    | some r'=>
     rw [hq] at he
     simp only [Option.some.injEq] at he
     subst he
     have ih:=MX (w:=w) (d:=d) (ok:=ok) (xs:=xs) (ys:=ys) fs (k+1) aa bs r' hr hq (fun i p h=>by have:=ha (i+1) p (by simpa using h);rwa [show k+(i+1)=k+1+i by omega] at this) (fun i p h=>by have:=hb (i+1) p (by simpa using h);rwa [show k+(i+1)=k+1+i by omega] at this)
     have p1:=BZ (w:=w) (xs:=xs) (o:=f.offset) he1 he2 (by rw [ho];simpa using hv)
     have p2:=BZ (w:=w) (xs:=ys) (o:=f.offset) he1 he2 (by rw [ho];simpa using hu)
     simp only [Op.eqFields,ne_eq,hn,not_false_eq_true,if_true,Sem.run_bind,p1,Result.andThen_ok,p2,hb2]
     cases b
     · simp
     · simpa using ih
theorem abh {t:TypeId}{aa bs:List PV}(hg:P.eqGuardType P.depth t=false) (ht:P.underlying t=some (.struct (P.fieldsOf t))) (hp:P.stoodInHeld t=false) (hf:wS P 0 (P.fieldsOf t).toList aa bs=true):JD P t aa bs:=by
 refine ⟨hg,fun w ok vs us r hr h1 h2=>?_⟩
 have e:Op.equal t (.agg ⟨vs⟩) (.agg ⟨us⟩)=Op.equalIn (9999+1) t (.agg ⟨vs⟩) (.agg ⟨us⟩):=rfl
 rw [e,run_equalIn_struct w 9999 t _ _ ht hp]
 refine MX (d:=9998) (ok:=ok) _ 0 aa bs r hf hr ?_ ?_
 · intro i p hi
   have hlt:=(List.getElem?_eq_some_iff.1 hi).1
   have hv:vs[i]?=some (vs[i]'(by rw [← h1.1];exact hlt)):=List.getElem?_eq_getElem _
   exact ⟨_,by simpa using hv,h1.2 i p _ hi hv⟩
 · intro i p hi
   have hlt:=(List.getElem?_eq_some_iff.1 hi).1
   have hv:us[i]?=some (us[i]'(by rw [← h2.1];exact hlt)):=List.getElem?_eq_getElem _
   exact ⟨_,by simpa using hv,h2.2 i p _ hi hv⟩
end Lp
namespace Lp
open Go Go.Proofs
def dQ (l:List (List UInt8)):PV:=.sl 1 (l.map .str) none
def dD (l:List Vl):PV:=.sl 1 (l.map aB) none
def encI (l:List Int):PV:=.sl 1 (l.map (.int .i64)) none
def PZ (l:List (List Int)):PV:=.sl 1 (l.map encI) none
theorem hV:∀ l,aB l=.sl 6 (l.map aA) none:=fun _=>rfl
theorem hT:∀ l,dQ l=.sl 1 (l.map .str) none:=fun _=>rfl
theorem hL:∀ l,dD l=.sl 1 (l.map aB) none:=fun _=>rfl
theorem hI:∀ l,encI l=.sl 1 (l.map (.int .i64)) none:=fun _=>rfl
theorem hG:∀ l,PZ l=.sl 1 (l.map encI) none:=fun _=>rfl
theorem wT:∀ a b,aA a=aA b→a=b:=by
 intro a b h
 cases a;cases b
 simp only [aA,PV.agg.injEq,List.cons.injEq,PV.int.injEq,PV.str.injEq,PV.bool.injEq,true_and,and_true] at h
 obtain ⟨rfl,rfl,rfl,rfl,rfl,rfl⟩:=h
 rfl
theorem sZ:∀ a b,aB a=aB b→a=b:=n_ hV wT
theorem wU:∀ a b,dQ a=dQ b→a=b:=n_ hT fun _ _ h=>by injection h
theorem wV:∀ a b,encI a=encI b→a=b:=n_ hI fun _ _ h=>by injection h
theorem wW:∀ a b,dD a=dD b→a=b:=n_ hL sZ
theorem B_:∀ a b,PZ a=PZ b→a=b:=n_ hG wV
theorem ab6 (objs:List Obj) (K:KT) :
  (∀ n,aN D 42 (.addr (aA n)) 0 objs K=K (.addr (.int .i64 n.kind)) objs 0)∧
  (∀ n,aN D 42 (.addr (aA n)) 1 objs K=K (.addr (.int .i64 n.many)) objs 0)∧
  (∀ n,aN D 42 (.addr (aA n)) 2 objs K=K (.addr (.str n.name)) objs 0)∧
  (∀ n,aN D 42 (.addr (aA n)) 3 objs K=K (.addr (.str n.s)) objs 0)∧
  (∀ n,aN D 42 (.addr (aA n)) 4 objs K=K (.addr (.bool n.neg)) objs 0)∧
  (∀ n,aN D 42 (.addr (aA n)) 5 objs K=K (.addr (.int .i64 n.e)) objs 0):=by
 refine ⟨fun n=>?_,fun n=>?_,fun n=>?_,fun n=>?_,fun n=>?_,fun n=>?_⟩
 all_goals
  simp only [aA,aN,eH,bY,↓MQ,JP,uS,sD,Gg,Jz,ne_eq,reduceCtorEq,not_false_eq_true,true_and,Bool.not_false,Bool.and_self,Nat.reduceAdd,Nat.reduceLeDiff,forall_const]
theorem ab7 :
  (∀ n,(aA n).cells=[.int .i64 n.kind,.int .i64 n.many,.str n.name,.str n.s,.bool n.neg,.int .i64 n.e])∧
  (∀ n,(aA n).isAgg=true)∧(∀ n,(aA n).pure=true)∧(∀ d m O n,fC d m O (aA n)=aA n)∧(∀ d m O n,gY d m O (aA n)=aA n):=
 ⟨fun _=>rfl,fun _=>rfl,fun _=>rfl,fun _ _ _ _=>rfl,fun _ _ _ _=>rfl⟩
theorem Zu (a b:Nd):JD Tryz.prog 42 (aA a).cells (aA b).cells:=
 abh (by kernel_rfl) (by kernel_rfl) (by kernel_rfl) (by
  have h:(Tryz.prog.fieldsOf 42).toList.map (fun f=>(f.name != "_",f.offset,Tryz.prog.underlying f.type))=[(true,0,some (.int .i64)),(true,1,some (.int .i64)),(true,2,some .string),(true,3,some .string),(true,4,some .bool),(true,5,some (.int .i64))]:=by kernel_rfl
  generalize (Tryz.prog.fieldsOf 42).toList=fs at h
  obtain _ | ⟨f0,_ | ⟨f1,_ | ⟨f2,_ | ⟨f3,_ | ⟨f4,_ | ⟨f5,_ | ⟨f6,fr⟩⟩⟩⟩⟩⟩⟩:=fs
  all_goals simp only [List.map_cons,List.map_nil,List.cons.injEq,Prod.mk.injEq,and_true,reduceCtorEq,and_false] at h
  obtain ⟨⟨a0,b0,c0⟩,⟨a1,b1,c1⟩,⟨a2,b2,c2⟩,⟨a3,b3,c3⟩,⟨a4,b4,c4⟩,⟨a5,b5,c5⟩⟩:=h
  simp only [wS,Xf,aA,PV.cells,a0,b0,c0,a1,b1,c1,a2,b2,c2,a3,b3,c3,a4,b4,c4,a5,b5,c5,Bool.and_true,BEq.rfl,decide_true,Nat.zero_add,Nat.reduceAdd])
theorem ad9 (a b:Nd):Dp (aA a).cells (aA b).cells=some (decide (a=b)):=by
 cases a;cases b
 simp only [aA,PV.cells,Dp,eqS,if_true,Bool.and_true,Nd.mk.injEq,Option.some.injEq]
 rw [Bool.eq_iff_iff]
 simp
theorem Zv (ti:aJ) (K:PV→Prop) :
  (∀ a b,qf Tryz.prog ti 42 .eql (aA a) (aA b) K=K (.bool (decide (a=b))))∧
  (∀ a b,qf Tryz.prog ti 42 .neq (aA a) (aA b) K=K (.bool (!decide (a=b))))∧
  (∀ a k m x y g e,qf Tryz.prog ti 42 .eql (aA a) (.agg [.int .i64 k,.int .i64 m,.str x,.str y,.bool g,.int .i64 e]) K=K (.bool (decide (a=⟨k,m,x,y,g,e⟩)))):=by
 have h:∀ a b,qf Tryz.prog ti 42 .eql (aA a) (aA b) K=K (.bool (decide (a=b))):=fun a b=>by
  show (JD Tryz.prog 42 (aA a).cells (aA b).cells∧∃ r,Dp (aA a).cells (aA b).cells=some r∧K (.bool r))=_
  rw [ad9]
  simp [Zu]
 refine ⟨h,fun a b=>?_,fun a k m x y g e=>h a ⟨k,m,x,y,g,e⟩⟩
 show (JD Tryz.prog 42 (aA a).cells (aA b).cells∧∃ r,Dp (aA a).cells (aA b).cells=some r∧K (.bool (!r)))=_
 rw [ad9]
 simp [Zu]
theorem ab8 (n:Nd) :
  (∀ x,(aA n).putCells 0 [.int .i64 x]=aA { n with kind:=x })∧(∀ x,(aA n).putCells 1 [.int .i64 x]=aA { n with many:=x })∧
  (∀ x,(aA n).putCells 2 [.str x]=aA { n with name:=x })∧(∀ x,(aA n).putCells 3 [.str x]=aA { n with s:=x })∧
  (∀ x,(aA n).putCells 4 [.bool x]=aA { n with neg:=x })∧(∀ x,(aA n).putCells 5 [.int .i64 x]=aA { n with e:=x }):=
 ⟨fun _=>rfl,fun _=>rfl,fun _=>rfl,fun _=>rfl,fun _=>rfl,fun _=>rfl⟩
theorem ab9 (k m:Int) (x y:List UInt8) (g:Bool) (e:Int):PV.agg [.int .i64 k,.int .i64 m,.str x,.str y,.bool g,.int .i64 e]=aA ⟨k,m,x,y,g,e⟩:=rfl
theorem ab_ (objs:List Obj) (K:KT) :
  (∀ k,bK D 42 [(0,.int .i64 k)] objs K=K (aA ⟨k,0,[],[],false,0⟩) objs 0)∧
  (∀ k m,bK D 42 [(0,.int .i64 k),(1,.int .i64 m)] objs K=K (aA ⟨k,m,[],[],false,0⟩) objs 0)∧
  (∀ k s,bK D 42 [(0,.int .i64 k),(3,.str s)] objs K=K (aA ⟨k,0,[],s,false,0⟩) objs 0)∧
  (∀ k s g e,bK D 42 [(0,.int .i64 k),(3,.str s),(4,.bool g),(5,.int .i64 e)] objs K=K (aA ⟨k,0,[],s,g,e⟩) objs 0):=by
 have z:aM (D 42)=aA ⟨0,0,[],[],false,0⟩:=by kernel_rfl
 have a:(D 42).agg=true:=by kernel_rfl
 simp only [bY] at z a
 refine ⟨fun k=>?_,fun k m=>?_,fun k s=>?_,fun k s g e=>?_⟩
 all_goals
  simp [bK,nN,a,z,bY,oH,aA,PV.isAgg,uK,PV.cells,PV.storable,PV.nD,PV.pure]
theorem acd :
  (∀ n0,PV.sl 6 [aA n0] none=aB [n0])∧
  (∀ n0 n1,PV.sl 6 [aA n0,aA n1] none=aB [n0,n1])∧
  (∀ n0 n1 n2,PV.sl 6 [aA n0,aA n1,aA n2] none=aB [n0,n1,n2])∧
  (∀ s0,PV.sl 1 [PV.str s0] none=dQ [s0])∧
  (∀ s0 s1,PV.sl 1 [PV.str s0,PV.str s1] none=dQ [s0,s1])∧
  (∀ s0 s1 s2,PV.sl 1 [PV.str s0,PV.str s1,PV.str s2] none=dQ [s0,s1,s2])∧
  (∀ i0,PV.sl 1 [PV.int .i64 i0] none=encI [i0])∧
  (∀ i0 i1,PV.sl 1 [PV.int .i64 i0,PV.int .i64 i1] none=encI [i0,i1])∧
  (∀ i0 i1 i2,PV.sl 1 [PV.int .i64 i0,PV.int .i64 i1,PV.int .i64 i2] none=encI [i0,i1,i2])∧
  (∀ v0,PV.sl 1 [aB v0] none=dD [v0])∧
  (∀ v0 v1,PV.sl 1 [aB v0,aB v1] none=dD [v0,v1])∧
  (∀ v0 v1 v2,PV.sl 1 [aB v0,aB v1,aB v2] none=dD [v0,v1,v2])∧
  (∀ g0,PV.sl 1 [encI g0] none=PZ [g0])∧
  (∀ g0 g1,PV.sl 1 [encI g0,encI g1] none=PZ [g0,g1])∧
  (∀ g0 g1 g2,PV.sl 1 [encI g0,encI g1,encI g2] none=PZ [g0,g1,g2]):=
 ⟨fun _=>rfl,fun _ _=>rfl,fun _ _ _=>rfl,fun _=>rfl,fun _ _=>rfl,fun _ _ _=>rfl,fun _=>rfl,fun _ _=>rfl,fun _ _ _=>rfl,fun _=>rfl,fun _ _=>rfl,fun _ _ _=>rfl,fun _=>rfl,fun _ _=>rfl,fun _ _ _=>rfl⟩
theorem inN:vO aA:=by intro d n o x;cases d <;> rfl
theorem inV:vO aB:=by intro d n o x;cases d <;> rfl
theorem inS:vO PV.str:=by intro d n o x;cases d <;> rfl
theorem inI:vO (PV.int .i64):=by intro d n o x;cases d <;> rfl
theorem inG:vO encI:=by intro d n o x;cases d <;> rfl
theorem ad_ :
  type_of% (jM hV)∧
  type_of% (jM hT)∧
  type_of% (jM hL)∧
  type_of% (jM hI)∧
  type_of% (jM hG)∧
  type_of% (aQ wT)∧
  type_of% (aQ sZ)∧
  type_of% (aQ wU)∧
  type_of% (aQ wW)∧
  type_of% (aQ wV)∧
  type_of% (aQ B_):=
 ⟨jM hV,jM hT,jM hL,jM hI,jM hG,aQ wT,aQ sZ,aQ wU,aQ wW,aQ wV,aQ B_⟩
theorem ace :
  type_of% (ab6)∧
  type_of% (ab7)∧
  type_of% (Zv)∧
  type_of% (ab8)∧
  type_of% (ab9)∧
  type_of% (ab_)∧
  type_of% (acd)∧
  type_of% (sV hV)∧
  type_of% (sV hT)∧
  type_of% (sV hL)∧
  type_of% (sV hI)∧
  type_of% (sV hG)∧
  type_of% (jM hV)∧
  type_of% (jM hT)∧
  type_of% (jM hL)∧
  type_of% (jM hI)∧
  type_of% (jM hG)∧
  type_of% (sW hV)∧
  type_of% (sW hT)∧
  type_of% (sW hL)∧
  type_of% (sW hI)∧
  type_of% (sW hG)∧
  type_of% (aQ wT)∧
  type_of% (aQ sZ)∧
  type_of% (aQ wU)∧
  type_of% (aQ wW)∧
  type_of% (aQ wV)∧
  type_of% (aQ B_)∧
  type_of% (iQ hV inN)∧
  type_of% (iQ hT inS)∧
  type_of% (iQ hL inV)∧
  type_of% (iQ hI inI)∧
  type_of% (iQ hG inG)∧
  type_of% (r9 (enc:=aA) (sz:=6) (fun _=>rfl) (fun _=>rfl))∧
  type_of% (r9 (enc:=aB) (sz:=1) (fun _=>rfl) (fun _=>rfl))∧
  type_of% (r9 (enc:=PV.str) (sz:=1) (fun _=>rfl) (fun _=>rfl))∧
  type_of% (r9 (enc:=(PV.int .i64)) (sz:=1) (fun _=>rfl) (fun _=>rfl))∧
  type_of% (r9 (enc:=encI) (sz:=1) (fun _=>rfl) (fun _=>rfl))∧
  type_of% (r9 (enc:=PV.bool) (sz:=1) (fun _=>rfl) (fun _=>rfl))∧
  type_of% (fun (l:Vl) (k:Nat)=>Ll (aB l) rfl k)∧
  type_of% (fun (l:List (List UInt8)) (k:Nat)=>Ll (dQ l) rfl k)∧
  type_of% (fun (l:List Vl) (k:Nat)=>Ll (dD l) rfl k)∧
  type_of% (fun (l:List Int) (k:Nat)=>Ll (encI l) rfl k)∧
  type_of% (fun (l:List (List Int)) (k:Nat)=>Ll (PZ l) rfl k)∧
  type_of% (fun (z:Nat) (xs:List PV) (q:Option Bool) (k:Nat)=>Ll (.sl z xs q) rfl k):=
 ⟨ab6,ab7,Zv,ab8,ab9,ab_,acd,sV hV,sV hT,sV hL,sV hI,sV hG,jM hV,jM hT,jM hL,jM hI,jM hG,sW hV,sW hT,sW hL,sW hI,sW hG,aQ wT,aQ sZ,aQ wU,aQ wW,aQ wV,aQ B_,iQ hV inN,iQ hT inS,iQ hL inV,iQ hI inI,iQ hG inG,r9 (enc:=aA) (sz:=6) (fun _=>rfl) (fun _=>rfl),r9 (enc:=aB) (sz:=1) (fun _=>rfl) (fun _=>rfl),r9 (enc:=PV.str) (sz:=1) (fun _=>rfl) (fun _=>rfl),r9 (enc:=(PV.int .i64)) (sz:=1) (fun _=>rfl) (fun _=>rfl),r9 (enc:=encI) (sz:=1) (fun _=>rfl) (fun _=>rfl),r9 (enc:=PV.bool) (sz:=1) (fun _=>rfl) (fun _=>rfl),fun (l:Vl) (k:Nat)=>Ll (aB l) rfl k,fun (l:List (List UInt8)) (k:Nat)=>Ll (dQ l) rfl k,fun (l:List Vl) (k:Nat)=>Ll (dD l) rfl k,fun (l:List Int) (k:Nat)=>Ll (encI l) rfl k,fun (l:List (List Int)) (k:Nat)=>Ll (PZ l) rfl k,fun (z:Nat) (xs:List PV) (q:Option Bool) (k:Nat)=>Ll (.sl z xs q) rfl k⟩
theorem aH:type_of% @ad6∧type_of% @ad_∧type_of% @ad7:=⟨@ad6,@ad_,@ad7⟩
theorem aI:type_of% @ab3∧type_of% @ab4∧type_of% @ace∧type_of% bY∧type_of% @ad8:=⟨@ab3,@ab4,@ace,bY,@ad8⟩
end Lp
