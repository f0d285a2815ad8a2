/-
  Part 3 of what the statement rests on: LpN, LpNb, LpO, LpHid, LpCut, LpP, LpT, LpQ, LpR. No condition.
-/
import Derived.Test.YthmobaehdbiljaaGreatDoorLp2
import Derived.RangeFuncRecord
import Derived.RangeFuncLeaves
import Derived.KernelRfl

set_option linter.all false
set_option maxHeartbeats 8000000
set_option maxRecDepth 100000
namespace Lp
open Go
open Option (bind_some getD_some map_some)
variable {P:Program}{D:TypeId→aC}{l:Option Nat}
structure IJ where
 r:PV
 objs:List Obj
 t:Nat
 deriving Inhabited
def iE(ops:List Oper)(g:Option (Nat×Bool))(tmps:List PV):Option Bool:=
 match g with
 | none=>some true
 | some (j,want)=>
  match (ops[j]?).bind (·.dst) with
  | none=>none
  | some d=>
   match tmps.getD d .dead with
   | .bool b=>some (b==want)
   | .bI []=>some false
   | _=>none
theorem Df{ops:List Oper}{g:Option (Nat×Bool)}{S:St}{X Y:St→Prop}(h:oP ops g S X Y) :
  (iE ops g S.tmps=some true∧X S)∨(iE ops g S.tmps=some false∧Y S):=by
 unfold oP at h
 unfold iE
 split at h
 ·exact .inl ⟨rfl,h⟩
 ·rename_i j want
  simp only[]
  split at h
  ·exact h.elim
  ·rename_i d hd
   rw[hd]
   simp only[]
   split at h
   ·rename_i b hb
    rw[hb]
    by_cases hbw:b=want
    ·left
     have:=h.1 hbw
     rw[Bv (by rw[hb,hbw]) (by simp)]at this
     exact⟨by simp[hbw],this⟩
    ·right
     have hbn:b=!want:=by cases b<;>cases want<;>simp_all
     have:=h.2 hbn
     rw[Bv (by rw[hb,hbn]) (by simp)]at this
     exact⟨by simp[hbn],this⟩
   ·rename_i hb
    rw[hb]
    exact .inr ⟨rfl,h⟩
   ·exact h.elim
theorem Dg{ops:List Oper}{g:Option (Nat×Bool)}{S:St}{b:Bool}(h:iE ops g S.tmps=some b) :
  oP ops g S (λ_=>b=true) (λ_=>b=false):=by
 unfold iE at h
 unfold oP
 split at h
 ·simpa using h.symm
 ·rename_i j want
  simp only[]
  split at h
  ·cases h
  ·rename_i d hd
   rw[hd]
   simp only[]
   split at h
   ·rename_i b0 hb
    rw[hb]
    simp only[Option.some.injEq]at h
    subst h
    exact⟨λe=>by simp[e],λe=>by simp[e]⟩
   ·rename_i hb
    rw[hb]
    simpa using h.symm
   ·cases h
theorem pG{ops:List Oper}{base ah:Nat→Prop}{w0:Wz}{S:St}{blk:Nat→Option Nat}{a:Act}{w:World}{b:Bool}{o:Oper}
  (R:Rel base ah w0 S blk a w) (h:iE ops o.guard S.tmps=some b):Region.wanted o (yielded ops.toArray a.tmps)=b:=by
 rcases wN R (Dg h) o rfl with ⟨h1,h2⟩ | ⟨h1,h2⟩<;>rw[h1,h2]
def rV(P:Program)(D:TypeId→aC)(own:Bool)(ops:List Oper)(o:Oper)(S:St)(e:IJ):Prop:=
 (iE ops o.guard S.tmps=some true∧(co e.t≠2→e.objs=S.objs)∧(∀K:KT,K e.r e.objs e.t→II P D own S.ev S.objs o.op K)∧
  (e.t=0→∀(bP:List Obj) (K:KT),K e.r bP 0→II P D own S.ev bP o.op K)∧Y0 (λob K=>II P D own S.ev ob o.op K) S.objs e.r e.objs e.t)∨
 (iE ops o.guard S.tmps=some false∧e.r=.bI []∧e.objs=S.objs∧e.t=0)
def Trace(P:Program)(D:TypeId→aC)(own:Nat→Bool)(ops:List Oper):List Oper→Nat→St→List IJ→St→Prop
 | [],_,S,tr,S'=>tr=[]∧S'=S
 | o::rest,i,S,tr,S'=>∃e tr',tr=e::tr'∧rV P D (own i) ops o S e∧Trace P D own ops rest (i+1) (St.put ⟨S.tmps,e.objs⟩ o.dst e.r) tr' S'
theorem mP{own:Nat→Bool}{ops:List Oper}:∀(qO:List Oper) (i:Nat) (S:St) (ts:List Nat) (K:St→List Nat→Prop),pq P D own ops qO i S ts K→
  ∃tr S',Trace P D own ops qO i S tr S'∧K S' (ts++tr.map (·.t))
 | [],i,S,ts,K,h=>⟨[],S,⟨rfl,rfl⟩,by simpa[pq] using h⟩
 | o::rest,i,S,ts,K,h=>by
  unfold pq at h
  rcases Df h with ⟨hw,hx⟩ | ⟨hw,hy⟩
  ·obtain⟨r,ob,t,h1,h2,h3,h4,h4b⟩:=Te hx
   obtain⟨tr,S',h5,h6⟩:=mP rest _ _ _ K h1
   refine⟨⟨r,ob,t⟩::tr,S',⟨_,_,rfl,.inl ⟨hw,h2,h3,h4,h4b⟩,h5⟩,by simpa using h6⟩
  ·obtain⟨tr,S',h5,h6⟩:=mP rest _ _ _ K hy
   refine⟨⟨.bI [],S.objs,0⟩::tr,S',⟨_,_,rfl,.inr ⟨hw,rfl,rfl,rfl⟩,?_⟩,by simpa using h6⟩
   exact h5
def pI(dst:Option Nat)(r:PV)(tm:List PV):List PV:=
 match dst with
 | some d=>tm.set d r
 | none=>tm
section
variable (dst:Nat→Option Nat) (en:Nat→IJ)
def Gi(X:Nat→Bool):Nat→List PV→List PV
 | 0,tm=>tm
 | n+1,tm=>if X n then pI (dst n) (en n).r (Gi X n tm) else Gi X n tm
def oL(X:Nat→Bool):Nat→List Obj→List Obj
 | 0,ob=>ob
 | n+1,ob=>if X n && co (en n).t==2 then (en n).objs else oL X n ob
def upd(X:Nat→Bool)(i:Nat)(j:Nat):Bool:=X j || j==i
variable {dst en}
theorem nQ{X Y:Nat→Bool}:∀(n:Nat) (tm:List PV),(∀j,j<n→X j=Y j)→Gi dst en X n tm=Gi dst en Y n tm
 | 0,_,_=>rfl
 | n+1,tm,h=>by simp only[Gi];rw[h n (by omega),nQ n tm (λj hj=>h j (by omega))]
theorem pV{X Y:Nat→Bool}:∀(n:Nat) (ob:List Obj),(∀j,j<n→co (en j).t=2→X j=Y j)→oL en X n ob=oL en Y n ob
 | 0,_,_=>rfl
 | n+1,ob,h=>by
  simp only[oL]
  rw[pV n ob (λj hj=>h j (by omega))]
  by_cases ht:co (en n).t=2
  ·rw[h n (by omega) ht]
  ·simp[ht]
theorem NS(d:Option Nat)(r:PV)(tm:List PV):(pI d r tm).length=tm.length:=by cases d<;>simp[pI]
theorem Ac(X:Nat→Bool):∀(n:Nat) (tm:List PV),(Gi dst en X n tm).length=tm.length
 | 0,_=>rfl
 | n+1,tm=>by simp only[Gi];split<;>simp[NS,Ac X n tm]
theorem Bw{d:Option Nat}{x:Nat}(h:d≠some x)(r:PV)(tm:List PV):(pI d r tm).getD x .dead=tm.getD x .dead:=by
 cases d with
 | none=>rfl
 | some d=>
  have:d≠x:=λe=>h (by rw[e])
  simp[pI,List.getD_eq_getElem?_getD,List.getElem?_set_ne this]
theorem ES{d:Option Nat}{x:Nat}{r:PV}{tm tm':List PV}(hl:tm.length=tm'.length)(h:tm.getD x .dead=tm'.getD x .dead):(pI d r tm).getD x .dead=(pI d r tm').getD x .dead:=by
 cases d with
 | none=>exact h
 | some d=>
  by_cases hd:d=x
  ·subst hd
   simp[pI,List.getD_eq_getElem?_getD,List.getElem?_set,hl]
  ·simpa[pI,List.getD_eq_getElem?_getD,List.getElem?_set_ne hd] using h
theorem Gj{X Y:Nat→Bool}{x:Nat}:∀(n:Nat) (tm:List PV),(∀j,j<n→dst j=some x→X j=Y j)→(Gi dst en X n tm).getD x .dead=(Gi dst en Y n tm).getD x .dead
 | 0,_,_=>rfl
 | n+1,tm,h=>by
  have ih:=Gj (X:=X) (Y:=Y) (x:=x) n tm (λj hj=>h j (by omega))
  simp only[Gi]
  by_cases hd:dst n=some x
  ·rw[h n (by omega) hd]
   split
   ·exact ES (by rw[Ac,Ac]) ih
   ·exact ih
  ·split<;>split<;> (try rw[Bw hd])<;> (try rw[Bw hd])<;>exact ih
theorem UL{d d':Option Nat}{r r':PV}{tm:List PV}(h:∀x,d=some x→d'≠some x):pI d r (pI d' r' tm)=pI d' r' (pI d r tm):=by
 cases d with
 | none=>rfl
 | some x=>
  cases d' with
  | none=>rfl
  | some y=>
   have hxy:y≠x:=λe=>h x rfl (by rw[e])
   simp only[pI]
   exact List.set_comm _ _ hxy
theorem Lm{X:Nat→Bool}{i:Nat}:∀(n:Nat) (tm:List PV),i<n→X i=false→(∀j,i<j→j<n→X j=true→∀x,dst i=some x→dst j≠some x)→
  pI (dst i) (en i).r (Gi dst en X n tm)=Gi dst en (upd X i) n tm
 | 0,_,h,_,_=>by omega
 | n+1,tm,hi,hx,hd=>by
  simp only[Gi]
  by_cases hin:i=n
  ·subst hin
   simp only[hx,upd,beq_self_eq_true,Bool.or_true,if_true,Bool.false_eq_true,if_false]
   rw[nQ (Y:=upd X i) i tm (λj hj=>by simp[upd];omega)]
  ·have ih:=Lm (X:=X) n tm (by omega) hx (λj h1 h2=>hd j h1 (by omega))
   have hu:upd X i n=X n:=by simp[upd];omega
   rw[hu]
   split
   ·rename_i hn
    rw[←ih,UL (λx hx'=>hd n (by omega) (by omega) hn x hx')]
   ·exact ih
theorem Lr{X:Nat→Bool}{i:Nat}:∀(n:Nat) (ob:List Obj),i<n→co (en i).t=2→(∀j,i<j→j<n→X j=true→co (en j).t≠2)→oL en (upd X i) n ob=(en i).objs
 | 0,_,h,_,_=>by omega
 | n+1,ob,hi,ht,hd=>by
  simp only[oL]
  by_cases hin:i=n
  ·subst hin
   simp[upd,ht]
  ·have hu:upd X i n=X n:=by simp[upd];omega
   rw[hu]
   cases hn:X n with
   | false=>simpa using Lr n ob (by omega) ht (λj h1 h2=>hd j h1 (by omega))
   | true=>
    have:=hd n (by omega) (by omega) hn
    simpa[this] using Lr n ob (by omega) ht (λj h1 h2=>hd j h1 (by omega))
def cnt(X:Nat→Bool):Nat→Nat
 | 0=>0
 | n+1=>cnt X n+if X n then 0 else 1
theorem Kb{X Y:Nat→Bool}:∀(n:Nat),(∀j,j<n→X j=Y j)→cnt X n=cnt Y n
 | 0,_=>rfl
 | n+1,h=>by simp only[cnt];rw[h n (by omega),Kb n (λj hj=>h j (by omega))]
theorem Ls{X:Nat→Bool}{i:Nat}:∀(n:Nat),i<n→X i=false→cnt (upd X i) n+1=cnt X n
 | 0,h,_=>by omega
 | n+1,hi,hx=>by
  simp only[cnt]
  by_cases hin:i=n
  ·subst hin
   rw[Kb (Y:=upd X i) (X:=X) i (λj hj=>by simp[upd];omega)]
   simp[upd,hx]
  ·have:=Ls (X:=X) n (by omega) hx
   have hu:upd X i n=X n:=by simp[upd];omega
   rw[hu];omega
theorem Gl{X:Nat→Bool}:∀(n:Nat),cnt X n=0→∀j,j<n→X j=true
 | 0,_,j,h=>by omega
 | n+1,h,j,hj=>by
  simp only[cnt]at h
  by_cases hjn:j=n
  ·subst hjn
   cases hx:X j with
   | true=>rfl
   | false=>simp[hx]at h
  ·exact Gl n (by omega) j (by omega)
end
def f_(ops:List Oper)(o:Oper):List Nat:=
 (o.op.operands.toList.filterMap λ| .tmp t=>some t | _=>none)++
 (match o.guard with
  | some (g,_)=>((ops[g]?).bind (·.dst)).toList
  | none=>[])
def qj(acc:List Nat)(o:Oper):Nat:=
 o.after.toList.foldl (λm e=>if Region.binds .any e then (m ||| (1 <<<e.on)) ||| acc.getD e.on 0 else m) 0
def masks:List Oper→List Nat→List Nat
 | [],acc=>acc
 | o::rest,acc=>masks rest (acc++[qj acc o])
def clash(dj di:Option Nat)(lj li:List Nat)(tj ti:Nat):Bool:=
 (match dj with
  | some d=>li.contains d || di==some d
  | none=>false) ||
 (match di with
  | some d=>lj.contains d
  | none=>false) ||
 (tj==2 && ti !=0) || (ti==2 && tj !=0)
def rW(ops:List Oper)(ts:List Nat):Bool:=
 let ms:=masks ops []
 let ls:=ops.map (f_ ops)
 (List.range ops.length).all λi=>
  match ops[i]? with
  | none=>true
  | some o=>
   (o.after.toList.all λe=>!Region.binds .any e || decide (e.on<i)) &&
   (ms.getD i 0 &&& qj ms o==ms.getD i 0) &&
   (List.range i).all λj=>
    !clash ((ops[j]?).bind (·.dst)) o.dst (ls.getD j []) (ls.getD i []) (co (ts.getD j 0)) (co (ts.getD i 0)) || (ms.getD i 0).testBit j
theorem Gm{acc:List Nat}{o:Oper}{j:Nat}(h:(qj acc o).testBit j=true) :
  ∃e∈o.after.toList,Region.binds .any e=true∧(j=e.on∨(acc.getD e.on 0).testBit j=true):=by
 unfold qj at h
 have key:∀(es:List Edge) (m:Nat),(es.foldl (λm e=>if Region.binds .any e then (m ||| (1 <<<e.on)) ||| acc.getD e.on 0 else m) m).testBit j=true→
     m.testBit j=true∨∃e∈es,Region.binds .any e=true∧(j=e.on∨(acc.getD e.on 0).testBit j=true):=by
  intro es
  induction es with
  | nil=>intro m h;exact .inl h
  | cons e es ih=>
   intro m h
   rw[List.foldl_cons]at h
   rcases ih _ h with h | ⟨e',h1,h2⟩
   ·split at h
    ·rename_i hb
     rw[Nat.testBit_or,Nat.testBit_or]at h
     simp only[Bool.or_eq_true]at h
     rcases h with (h | h) | h
     ·exact .inl h
     ·rw[Nat.one_shiftLeft,Nat.testBit_two_pow]at h
      exact .inr ⟨e,List.mem_cons_self,hb,.inl (of_decide_eq_true h).symm⟩
     ·exact .inr ⟨e,List.mem_cons_self,hb,.inr h⟩
    ·exact .inl h
   ·exact .inr ⟨e',List.mem_cons_of_mem _ h1,h2⟩
 rcases key _ _ h with h | h
 ·simp at h
 ·exact h
structure QJ (ops:List Oper) (ts:List Nat) (ms:List Nat):Prop where
 back:∀(i:Nat) (o:Oper),ops[i]?=some o→∀e∈o.after.toList,Region.binds .any e=true→e.on<i
 mask:∀(i:Nat) (o:Oper),ops[i]?=some o→∀j,(ms.getD i 0).testBit j=true→∃e∈o.after.toList,Region.binds .any e=true∧(j=e.on∨(ms.getD e.on 0).testBit j=true)
 ord:∀(i:Nat) (o:Oper) (j:Nat) (p:Oper),ops[i]?=some o→ops[j]?=some p→j<i→clash p.dst o.dst (f_ ops p) (f_ ops o) (co (ts.getD j 0)) (co (ts.getD i 0))=true→(ms.getD i 0).testBit j=true
theorem wP{ops:List Oper}{ts:List Nat}(h:rW ops ts=true):QJ ops ts (masks ops []):=by
 unfold rW at h
 simp only[List.all_eq_true,List.mem_range]at h
 have hh:∀i o,ops[i]?=some o→_:=λi o ho=>by
  have:=h i (List.getElem?_eq_some_iff.1 ho).1
  rw[ho]at this
  simp only[Bool.and_eq_true,List.all_eq_true,List.mem_range,beq_iff_eq]at this
  exact this
 refine⟨λi o ho e he hb=>by simpa[hb] using (hh i o ho).1.1 e he,λi o ho j hj=>?_,λi o j p ho hp hji hc=>?_⟩
 ·refine Gm ?_
  have h2:=(hh i o ho).1.2
  rw[←h2,Nat.testBit_and]at hj
  simp only[Bool.and_eq_true]at hj
  exact hj.2
 ·have h3:=(hh i o ho).2 j hji
  have hlt:=(List.getElem?_eq_some_iff.1 hp).1
  have e1:(ops.map (f_ ops)).getD j []=f_ ops p:=by rw[List.getD_eq_getElem?_getD,List.getElem?_map,hp];rfl
  have e2:(ops.map (f_ ops)).getD i []=f_ ops o:=by rw[List.getD_eq_getElem?_getD,List.getElem?_map,ho];rfl
  rw[e1,e2,hp]at h3
  simp only[bind_some,hc,Bool.not_true,Bool.false_or]at h3
  exact h3
def ql(ops:List Oper)(i:Nat):Option Nat:=(ops[i]?).bind (·.dst)
def aN(tr:List IJ)(i:Nat):IJ:=tr.getD i default
def mg(ops:List Oper)(tr:List IJ)(S:St)(X:Nat→Bool)(n:Nat):St:=⟨Gi (ql ops) (aN tr) X n S.tmps,oL (aN tr) X n S.objs⟩
theorem wQ{own:Nat→Bool}{ops:List Oper}{S0:St}{tr0:List IJ}:∀(qO:List Oper) (k:Nat) (S:St) (tr:List IJ) (S':St),Trace P D own ops qO k S tr S'→
  (∀j,qO[j]?=ops[k+j]?)→(∀j,tr[j]?=tr0[k+j]?)→S=mg ops tr0 S0 (λ_=>true) k→
  (∀i o,k≤i→ops[i]?=some o→rV P D (own i) ops o (mg ops tr0 S0 (λ_=>true) i) (aN tr0 i))∧S'=mg ops tr0 S0 (λ_=>true) (k+qO.length)
 | [],k,S,tr,S',h,hl,ht,hs=>by
  refine⟨λi o hi ho=>?_,by rw[h.2,hs];rfl⟩
  have:=hl (i-k)
  rw[show k+(i-k)=i by omega,ho]at this
  simp at this
 | o::rest,k,S,tr,S',h,hl,ht,hs=>by
  obtain⟨e,tr',rfl,h1,h2⟩:=h
  have ho:ops[k]?=some o:=by simpa using (hl 0).symm
  have he:aN tr0 k=e:=by
   have:=ht 0
   simp only[List.getElem?_cons_zero,Nat.add_zero]at this
   simp[aN,List.getD_eq_getElem?_getD,←this]
  have hst:St.put ⟨S.tmps,e.objs⟩ o.dst e.r=mg ops tr0 S0 (λ_=>true) (k+1):=by
   have e1:(mg ops tr0 S0 (λ_=>true) (k+1)).tmps=pI o.dst e.r S.tmps:=by
    simp only[mg,Gi,if_true,he,ql,ho,bind_some]
    rw[hs];rfl
   have e2:(mg ops tr0 S0 (λ_=>true) (k+1)).objs=e.objs:=by
    simp only[mg,oL,he,Bool.true_and]
    have hso:S.objs=oL (aN tr0) (λ_=>true) k S0.objs:=by rw[hs];rfl
    split
    ·rfl
    ·rename_i hne
     have hne:co e.t≠2:=by simpa using hne
     rcases h1 with ⟨_,h1,_⟩ | ⟨_,_,h1,_⟩
     ·rw[h1 hne,hso]
     ·rw[h1,hso]
   cases hd:o.dst with
   | none=>rw[hd]at e1;simp only[St.put,pI]at e1 ⊢;rw[←e1,←e2]
   | some d=>rw[hd]at e1;simp only[St.put,pI]at e1 ⊢;rw[←e1,←e2]
  obtain⟨h3,h4⟩:=wQ rest (k+1) _ tr' S' h2 (λj=>by have:=hl (j+1);simpa[Nat.add_assoc,Nat.add_comm 1 j] using this)
   (λj=>by have:=ht (j+1);simpa[Nat.add_assoc,Nat.add_comm 1 j] using this) hst
  refine⟨λi o' hi ho'=>?_,by rw[h4,List.length_cons];congr 1;omega⟩
  by_cases hik:i=k
  ·subst hik
   rw[ho]at ho'
   cases ho'
   rw[he,←hs];exact h1
  ·exact h3 i o' (by omega) ho'
theorem Dh{dst:Nat→Option Nat}{en:Nat→IJ}{i:Nat}:∀(n:Nat) (tm:List PV),i≤n→Gi dst en (λj=>decide (j<i)) n tm=Gi dst en (λ_=>true) i tm
 | 0,_,h=>by have:i=0:=by omega
             subst this;rfl
 | n+1,tm,h=>by
  by_cases hi:i=n+1
  ·subst hi
   exact nQ (n+1) tm λj hj=>by simp[hj]
  ·simp only[Gi]
   rw[if_neg (by simp;omega)]
   exact Dh n tm (by omega)
theorem Kc{en:Nat→IJ}{i:Nat}:∀(n:Nat) (ob:List Obj),i≤n→oL en (λj=>decide (j<i)) n ob=oL en (λ_=>true) i ob
 | 0,_,h=>by have:i=0:=by omega
             subst this;rfl
 | n+1,tm,h=>by
  by_cases hi:i=n+1
  ·subst hi
   exact pV (n+1) tm λj hj _=>by simp[hj]
  ·simp only[oL]
   rw[if_neg (by simp;omega)]
   exact Kc n tm (by omega)
theorem Gn{dj di:Option Nat}{lj li:List Nat}{tj ti x:Nat}(h:dj=some x)(hx:x∈li):clash dj di lj li tj ti=true:=by simp[clash,h,hx]
theorem En{dj di:Option Nat}{lj li:List Nat}{tj ti x:Nat}(h:di=some x)(hx:x∈lj):clash dj di lj li tj ti=true:=by simp[clash,h,hx]
theorem Ke{dj di:Option Nat}{lj li:List Nat}{tj ti x:Nat}(h:dj=some x)(hx:di=some x):clash dj di lj li tj ti=true:=by simp[clash,h,hx]
theorem Tf{dj di:Option Nat}{lj li:List Nat}{tj ti:Nat}(h:tj=2)(hx:ti≠0):clash dj di lj li tj ti=true:=by simp[clash,h,hx]
theorem WK{dj di:Option Nat}{lj li:List Nat}{tj ti:Nat}(h:ti=2)(hx:tj≠0):clash dj di lj li tj ti=true:=by simp[clash,h,hx]
theorem Lu{own:Bool}{ops:List Oper}{o:Oper}{S S':St}{e:IJ}(h:rV P D own ops o S e)(hx:∀x∈f_ ops o,S.tmps.getD x .dead=S'.tmps.getD x .dead)(ho:e.t≠0→S.objs=S'.objs) :
  (iE ops o.guard S'.tmps=some true∧(co e.t≠2→e.t≠0→e.objs=S'.objs)∧II P D own S'.ev S'.objs o.op (λr ai t=>r=e.r∧t=e.t∧(e.t=0→ai=S'.objs)∧(e.t≠0→ai=e.objs)))∨
  (iE ops o.guard S'.tmps=some false∧e.r=.bI []∧e.t=0):=by
 have hev:∀x∈o.op.operands,S.ev x=S'.ev x:=by
  intro x hm
  cases x with
  | tmp t=>exact hx t (List.mem_append_left _ (List.mem_filterMap.2 ⟨.tmp t,by simpa using hm,rfl⟩))
  | _=>rfl
 have hg:iE ops o.guard S.tmps=iE ops o.guard S'.tmps:=by
  cases hgd:o.guard with
  | none=>rfl
  | some g=>
   obtain⟨j,want⟩:=g
   simp only[iE]
   cases hd:(ops[j]?).bind (·.dst) with
   | none=>rfl
   | some d=>
    simp only[]
    rw[hx d (List.mem_append_right _ (by rw[hgd];simp[hd]))]
 rcases h with ⟨h1,h2,h3,h4,_⟩ | ⟨h1,h2,h3,h4⟩
 ·left
  refine⟨hg ▸ h1,λa b=>by rw[h2 a,ho b],?_⟩
  by_cases ht:e.t=0
  ·exact yA hev (h4 ht S'.objs _ ⟨rfl,ht.symm,λ_=>rfl,λc=>absurd ht c⟩)
  ·have:=yA hev (h3 (λr ai t=>r=e.r∧t=e.t∧(e.t=0→ai=S'.objs)∧(e.t≠0→ai=e.objs)) ⟨rfl,rfl,λc=>absurd c ht,λ_=>rfl⟩)
   rw[ho ht]at this
   exact this
 ·exact .inr ⟨hg ▸ h1,h2,h4⟩
theorem UM{own:Nat→Bool}{ops:List Oper}{ts:List Nat}{ms:List Nat}{tr:List IJ}{S0:St}(hD:∀t,fI P t (D t))(hok:QJ ops ts ms)
  (hts:∀i,i<ops.length→ts.getD i 0=(aN tr i).t)
  (hst:∀i o,ops[i]?=some o→rV P D (own i) ops o (mg ops tr S0 (λ_=>true) i) (aN tr i))
  {X:Nat→Bool}{i:Nat}{o:Oper}(ho:ops[i]?=some o) (hX:X i=false) (hcl:∀j,j<ops.length→X j=true→∀x,(ms.getD j 0).testBit x=true→X x=true)
  (hrd:∀x,(ms.getD i 0).testBit x=true→X x=true)
  {base ah:Nat→Prop}{w0:Wz}{blk:Nat→Option Nat}{a:Act}{w:World}(R:Rel base ah w0 (mg ops tr S0 X ops.length) blk a w)
  {Q:Exit→Act→World→Prop}{K:Act→World→Prop}(hK:∀au a' w',Rel base ah w0 (mg ops tr S0 (upd X i) ops.length) au a' w'→K a' w') :
  wpOpIn (Bp l) 0 P ops.toArray Q i K a w:=by
 have hi:i<ops.length:=(List.getElem?_eq_some_iff.1 ho).1
 have hdst:ql ops i=o.dst:=by simp[ql,ho]
 have Lv:∀j,j<ops.length→∃p,ops[j]?=some p∧ql ops j=p.dst:=λj hj=>⟨ops[j],List.getElem?_eq_getElem hj,by simp[ql,List.getElem?_eq_getElem hj]⟩
 have before:∀j p,ops[j]?=some p→j<i→clash p.dst o.dst (f_ ops p) (f_ ops o) (co (ts.getD j 0)) (co (ts.getD i 0))=true→X j=true:=
  λj p hp hj hc=>hrd j (hok.ord i o j p ho hp hj hc)
 have behind:∀j p,ops[j]?=some p→i<j→clash o.dst p.dst (f_ ops o) (f_ ops p) (co (ts.getD i 0)) (co (ts.getD j 0))=true→X j=false:=λj p hp hj hc=>by
  cases hx:X j with
  | false=>rfl
  | true=>
   have:=hcl j (List.getElem?_eq_some_iff.1 hp).1 hx i (hok.ord j p i o hp ho hj hc)
   rw[hX]at this;cases this
 have Tg:∀x∈f_ ops o,(mg ops tr S0 (λ_=>true) i).tmps.getD x .dead=(mg ops tr S0 X ops.length).tmps.getD x .dead:=by
  intro x hx
  simp only[mg]
  rw[←Dh (dst:=ql ops) ops.length S0.tmps (Nat.le_of_lt hi)]
  refine Gj _ _ λj hj hd=>?_
  obtain⟨p,hp,WL⟩:=Lv j hj
  rw[WL]at hd
  rcases Nat.lt_trichotomy j i with hji | hji | hji
  ·rw[before j p hp hji (Gn hd hx)];simp[hji]
  ·subst hji;rw[hX];simp
  ·rw[behind j p hp hji (En hd hx)];simp;omega
 have nD:(aN tr i).t≠0→(mg ops tr S0 (λ_=>true) i).objs=(mg ops tr S0 X ops.length).objs:=by
  intro ht
  simp only[mg]
  rw[←Kc ops.length S0.objs (Nat.le_of_lt hi)]
  refine pV _ _ λj hj h2=>?_
  obtain⟨p,hp,WL⟩:=Lv j hj
  rcases Nat.lt_trichotomy j i with hji | hji | hji
  ·rw[before j p hp hji (Tf (by rw[hts j hj];exact h2) (by rw[hts i hi];exact Td ht))];simp[hji]
  ·subst hji;rw[hX];simp
  ·rw[behind j p hp hji (WK (by rw[hts j hj];exact h2) (by rw[hts i hi];exact Td ht))];simp;omega
 have hadd:pI o.dst (aN tr i).r (mg ops tr S0 X ops.length).tmps=(mg ops tr S0 (upd X i) ops.length).tmps:=by
  simp only[mg]
  rw[←hdst]
  refine Lm _ _ hi hX λj hj hjn hxj x hx hd=>?_
  obtain⟨p,hp,WL⟩:=Lv j hjn
  rw[WL]at hd
  rw[hdst]at hx
  have:=behind j p hp hj (Ke hx hd)
  rw[this]at hxj;cases hxj
 have aaq:(mg ops tr S0 (upd X i) ops.length).objs=if co (aN tr i).t=2 then (aN tr i).objs else (mg ops tr S0 X ops.length).objs:=by
  simp only[mg]
  split
  ·rename_i ht
   refine Lr _ _ hi ht λj hj hjn hxj hj2=>?_
   obtain⟨p,hp,WL⟩:=Lv j hjn
   have:=behind j p hp hj (Tf (by rw[hts i hi];exact ht) (by rw[hts j hjn,hj2];decide))
   rw[this]at hxj;cases hxj
  ·rename_i ht
   refine pV _ _ λj hj h2=>?_
   have hne:j≠i:=λe=>ht (e ▸ h2)
   simp[upd,hne]
 have hput:∀ai,(ai=(mg ops tr S0 (upd X i) ops.length).objs)→St.put ⟨(mg ops tr S0 X ops.length).tmps,ai⟩ o.dst (aN tr i).r=mg ops tr S0 (upd X i) ops.length:=by
  rintro ai rfl
  cases hd:o.dst with
  | none=>rw[hd]at hadd;simp only[pI]at hadd;simp only[St.put];rw[hadd]
  | some d=>rw[hd]at hadd;simp only[pI]at hadd;simp only[St.put];rw[hadd]
 unfold wpOpIn
 have h0:ops.toArray[i]?=some o:=by simpa using ho
 rw[h0]
 simp only[]
 rcases Lu (hst i o ho) Tg nD with ⟨h1,h2,h3⟩ | ⟨h1,h2,h3⟩
 ·rw[if_pos (pG R h1)]
  refine Bu l hD R h3 λr ai t v w' au hr R' hv=>?_
  obtain⟨rfl,rfl,e0,e1⟩:=hr
  have:=R'.put hv o.dst
  rw[hput ai (by
   rw[aaq]
   split
   ·rename_i ht;exact e1 (λhz=>by rw[hz]at ht;exact absurd ht (by decide))
   ·rename_i ht
    by_cases hz:(aN tr i).t=0
    ·exact e0 hz
    ·rw[e1 hz];exact h2 ht hz)]at this
  exact hK _ _ _ this
 ·rw[if_neg (by rw[pG R h1];simp)]
  refine⟨λ_ _=>trivial,?_⟩
  have:=R.put (yB w _ _ blk) o.dst
  rw[←h2]at this
  have hs:=hput (mg ops tr S0 X ops.length).objs (by rw[aaq,if_neg (by rw[h3];decide)])
  rw[show (mg ops tr S0 X ops.length).put o.dst (aN tr i).r=St.put ⟨(mg ops tr S0 X ops.length).tmps,(mg ops tr S0 X ops.length).objs⟩ o.dst (aN tr i).r from rfl,hs]at this
  exact hK _ _ _ this
theorem Gp{own:Nat→Bool}{ops:List Oper}{ts:List Nat}{ms:List Nat}{tr:List IJ}{S0:St}(hD:∀t,fI P t (D t))(hok:QJ ops ts ms)
  (hts:∀i,i<ops.length→ts.getD i 0=(aN tr i).t)
  (hst:∀i o,ops[i]?=some o→rV P D (own i) ops o (mg ops tr S0 (λ_=>true) i) (aN tr i))
  {base ah:Nat→Prop}{w0:Wz}{Q:Exit→Act→World→Prop}
  (hQ:∀au a' w',Rel base ah w0 (mg ops tr S0 (λ_=>true) ops.length) au a' w'→Q .normal a' w') :
  ∀(fuel:Nat) (L:Array Bool) (blk:Nat→Option Nat) (a:Act) (w:World),L.size=ops.length→
   (∀j,j<ops.length→L.getD j false=true→∀x,(ms.getD j 0).testBit x=true→L.getD x false=true)→cnt (λj=>L.getD j false) ops.length≤fuel→
   Rel base ah w0 (mg ops tr S0 (λj=>L.getD j false) ops.length) blk a w→wpAnyIn (Bp l) 0 P .any ops.toArray Q fuel L a w:=by
 have full:∀(L:Array Bool),L.size=ops.length→Region.ready .any ops.toArray L=[]→∀i,i<ops.length→L.getD i false=true:=by
  intro L hsz hr i
  induction i using Nat.strongRecOn with
  | _ i ih=>
   intro hi
   cases hx:L.getD i false with
   | true=>rfl
   | false=>
    have hmem:i∈Region.ready .any ops.toArray L:=by
     simp only[Region.ready,List.mem_filter,List.mem_range,Bool.and_eq_true]
     refine⟨by simpa using hi,?_,?_⟩
     ·have hil:i<L.size:=by omega
      rw[Array.getD_eq_getD_getElem?,Array.getElem?_eq_getElem hil,getD_some]at hx ⊢
      rw[hx];rfl
     ·have ho:ops.toArray[i]?=some ops[i]:=by simp[hi]
      rw[ho]
      simp only[map_some,getD_some]
      rw[Array.all_eq_true']
      intro e he
      cases hbd:Region.binds .any e with
      | false=>simp
      | true=>
       have hb:=hok.back i ops[i] (List.getElem?_eq_getElem hi) e (by simpa using he) hbd
       rw[ih e.on hb (by omega)];simp
    rw[hr]at hmem
    simp at hmem
 have step:∀(L:Array Bool) (i:Nat),L.size=ops.length→i∈Region.ready .any ops.toArray L→∃o,ops[i]?=some o∧L.getD i false=false∧∀e∈o.after.toList,Region.binds .any e=true→L.getD e.on false=true:=by
  intro L i hsz hm
  simp only[Region.ready,List.mem_filter,List.mem_range,Bool.and_eq_true]at hm
  obtain⟨hi,h1,h2⟩:=hm
  have hi:i<ops.length:=by simpa using hi
  have ho:ops.toArray[i]?=some ops[i]:=by simp[hi]
  rw[ho]at h2
  simp only[map_some,getD_some]at h2
  rw[Array.all_eq_true']at h2
  refine⟨ops[i],List.getElem?_eq_getElem hi,?_,λe he hb=>?_⟩
  ·have hil:i<L.size:=by omega
   rw[Array.getD_eq_getD_getElem?,Array.getElem?_eq_getElem hil,getD_some]at h1 ⊢
   simpa using h1
  ·have:=h2 e (by simpa using he)
   rw[hb]at this
   simpa using this
 intro fuel
 induction fuel with
 | zero=>
  intro L blk a w hsz hcl hc R
  have hall:=Gl (X:=λj=>L.getD j false) ops.length (by omega)
  have hst':mg ops tr S0 (λj=>L.getD j false) ops.length=mg ops tr S0 (λ_=>true) ops.length:=by
   simp only[mg];rw[nQ ops.length _ hall,pV ops.length _ λj hj _=>hall j hj]
  refine⟨?_,hQ blk a w (hst' ▸ R)⟩
  cases hr:Region.ready .any ops.toArray L with
  | nil=>rfl
  | cons i is=>
   obtain⟨o,ho,hx,_⟩:=step L i hsz (by rw[hr];exact List.mem_cons_self)
   rw[hall i (List.getElem?_eq_some_iff.1 ho).1]at hx
   cases hx
 | succ fuel ih=>
  intro L blk a w hsz hcl hc R
  refine⟨λhr=>?_,λi hm=>?_⟩
  ·have hall:=full L hsz hr
   have hst':mg ops tr S0 (λj=>L.getD j false) ops.length=mg ops tr S0 (λ_=>true) ops.length:=by
    simp only[mg];rw[nQ ops.length _ hall,pV ops.length _ λj hj _=>hall j hj]
   exact hQ blk a w (hst' ▸ R)
  ·obtain⟨o,ho,hx,hrd⟩:=step L i hsz hm
   have hi:i<ops.length:=(List.getElem?_eq_some_iff.1 ho).1
   have WM:∀x,(ms.getD i 0).testBit x=true→L.getD x false=true:=by
    intro x hb
    obtain⟨e,h1,h2,h3⟩:=hok.mask i o ho x hb
    have he:=hrd e h1 h2
    rcases h3 with rfl | h3
    ·exact he
    ·exact hcl e.on (by have:=hok.back i o ho e h1 h2;omega) he x h3
   have WN:∀j,(L.setIfInBounds i true).getD j false=upd (λj=>L.getD j false) i j:=by
    intro j
    rw[Array.getD_eq_getD_getElem?,Array.getElem?_setIfInBounds]
    simp only[upd]
    by_cases hij:i=j
    ·subst hij
     rw[if_pos rfl,if_pos (by omega)];simp
    ·rw[if_neg hij,Array.getD_eq_getD_getElem?]
     have:(j==i)=false:=by simp;omega
     rw[this,Bool.or_false]
   have hfun:(λj=>(L.setIfInBounds i true).getD j false)=upd (λj=>L.getD j false) i:=funext WN
   refine UM (X:=λj=>L.getD j false) hD hok hts hst ho hx hcl WM R λau a' w' R'=>?_
   refine ih _ au a' w' (by simpa using hsz) ?_ ?_ (by rw[hfun];exact R')
   ·intro j hj hb x hbx
    rw[WN]at hb ⊢
    simp only[upd,Bool.or_eq_true,beq_iff_eq]at hb ⊢
    rcases hb with hb | rfl
    ·exact .inl (hcl j hj hb x hbx)
    ·exact .inl (WM x hbx)
   ·rw[hfun]
    have:=Ls (X:=λj=>L.getD j false) ops.length hi hx
    omega
theorem PW.draw {E:Env}{id:Nat}{ops:List Oper}{Q:Exit→St→Prop}{S:St}(own:Nat→Bool)(hD:∀t,fI P t (D t))(hm:P.follows .mixedOrders=true)
  (h:pq P D own ops ops 0 S [] λS' ts=>rW ops ts=true∧Q .normal S'):PW P l E (.region id ops.toArray true) Q S:=by
 intro base ah V hE blk a w ⟨w0,hV,R⟩
 obtain⟨tr,S',h1,h2,h3⟩:=mP _ _ _ _ _ h
 obtain⟨h4,h5⟩:=wQ (S0:=S) (tr0:=tr) ops 0 S tr S' h1 (λj=>by simp) (λj=>by simp) rfl
 refine wpIn_region_any hm ?_
 have R':Rel base ah w0 S blk a { w with drawn:=w.drawn+1 }:=R.grew (.same rfl)
 have hR:∀(L:Array Bool),(∀j,L.getD j false=false)→mg ops tr S (λj=>L.getD j false) ops.length=S:=by
  intro L hL
  have e1:∀n tm,Gi (ql ops) (aN tr) (λj=>L.getD j false) n tm=tm:=by
   intro n tm
   induction n with
   | zero=>rfl
   | succ n ih=>simp only[Gi];rw[if_neg (by rw[hL n];simp)];exact ih
  have e2:∀n ob,oL (aN tr) (λj=>L.getD j false) n ob=ob:=by
   intro n ob
   induction n with
   | zero=>rfl
   | succ n ih=>simp only[oL];rw[if_neg (by rw[hL n];simp)];exact ih
  simp only[mg,e1,e2]
 have hcn:∀(X:Nat→Bool) n,cnt X n≤n:=by
  intro X n
  induction n with
  | zero=>exact Nat.le_refl _
  | succ n ih=>simp only[cnt];split<;>omega
 have hrep:∀j,(Array.replicate ops.toArray.size false).getD j false=false:=by
  intro j
  rw[Array.getD_eq_getD_getElem?,Array.getElem?_replicate]
  split<;>rfl
 have hts:∀i,i<ops.length→(tr.map (·.t)).getD i 0=(aN tr i).t:=by
  intro i hi
  have hl:tr.length=ops.length:=by
   clear h2 h3 h4 h5 h
   have:∀(qO:List Oper) (k:Nat) (S:St) (tr:List IJ) (S':St),Trace P D own ops qO k S tr S'→tr.length=qO.length:=by
    intro qO
    induction qO with
    | nil=>rintro k S tr S' ⟨rfl,_⟩;rfl
    | cons o qO ih=>
     rintro k S tr S' ⟨e,tr',rfl,_,h⟩
     simp[ih _ _ _ _ h]
   exact this _ _ _ _ _ h1
  have hil:i<tr.length:=by omega
  simp[aN,List.getD_eq_getElem?_getD,List.getElem?_map,List.getElem?_eq_getElem hil]
 rw[Nat.zero_add]at h5
 subst h5
 have hc:=hcn (λj=>(Array.replicate ops.toArray.size false).getD j false) ops.length
 have hsz:ops.toArray.size=ops.length:=by simp
 have hrs:(Array.replicate ops.toArray.size false).size=ops.length:=by simp
 have hQ:∀au a' w',Rel base ah w0 (mg ops tr S (λ_=>true) ops.length) au a' w'→∃S' jk,Q .normal S'∧jW base ah V S' jk a' w':=
  λau a' w' R''=>⟨_,au,h3,w0,hV,R''⟩
 have R1:Rel base ah w0 (mg ops tr S (λj=>(Array.replicate ops.toArray.size false).getD j false) ops.length) blk a { w with drawn:=w.drawn+1 }:=by rw[hR _ hrep];exact R'
 have hcl:∀j,j<ops.length→(Array.replicate ops.toArray.size false).getD j false=true→∀x,((masks ops []).getD j 0).testBit x=true→(Array.replicate ops.toArray.size false).getD x false=true:=by
  intro j _ hb
  rw[hrep]at hb;cases hb
 have h2':rW ops (tr.map (·.t))=true:=h2
 generalize Array.replicate ops.toArray.size false=L at *
 exact Gp (Q:=λe a' w'=>∃S' au,Q e S'∧jW base ah V S' au a' w') hD (wP h2') hts (λi o ho=>h4 i o (Nat.zero_le _) ho) hQ ops.toArray.size L blk a _ hrs hcl (by rw[hsz];exact hc) R1
end Lp
namespace Lp
open Go
open List (all_eq_true mem_range)
open Nat (le_of_lt le_trans sub_self)
open Bool (and_eq_true or_eq_true)
open Option (getD_some map_some)
variable {P:Program}{D:TypeId→aC}{l:Option Nat}
def hole:Obj:=⟨0,0,[],false,0⟩
section
variable {base ah:Nat→Prop}{w0:Wz}{blk:Nat→Option Nat}{a:Act}{w:World}
theorem Bz{ok:Nat→Prop}{objs:List Obj}{cs:List PV}{vs:List Value}(h:bG (aY w ok objs blk) cs vs):cs.all (PV.qd objs.length)=true:=by
 rw[all_eq_true]
 intro p hp
 obtain⟨i,hi,rfl⟩:=List.getElem_of_mem hp
 exact oF (h.2 i _ _ (List.getElem?_eq_getElem hi) (List.getElem?_eq_getElem (by rw[←h.1];exact hi)))
theorem NT{ok:Nat→Prop}{objs:List Obj}{p:PV}{v:Value}(h:aR w ok objs blk p v):p.lt objs.length=true:=by
 cases p with
 | fn f a c=>obtain⟨_,_,_,h1,h2⟩:=h;simp only[PV.lt,Bz h1,Bz h2,Bool.and_self]
 | bI cs=>obtain⟨_,_,h1⟩:=h;simp only[PV.lt,Bz h1]
 | agg cs=>obtain⟨_,_,h1⟩:=h;simp only[PV.lt,Bz h1]
 | aZ k ver=>exact oF (w:=w) (ok:=ok) (p:=.aZ k ver) (v:=v) h
 | bq k ver i f=>exact oF (w:=w) (ok:=ok) (p:=.bq k ver i f) (v:=v) h
 | gI k ver=>exact oF (w:=w) (ok:=ok) (p:=.gI k ver) (v:=v) h
 | _=>rfl
theorem Rel.holes {S:St}(R:Rel base ah w0 S blk a w):∀n:Nat,∃au,Rel base ah w0 ⟨S.tmps,S.objs++List.replicate n hole⟩ au a w
 | 0=>⟨blk,by simpa using R⟩
 | n+1=>by
  obtain⟨au,R'⟩:=R.holes n
  have h:=R'.Da (o1:=hole) (gb:=none) (kD.refl w) (λg hg=>by cases hg) λ_=>by
   unfold bE aD
   rw[if_pos rfl]
   rfl
  rw[List.replicate_succ',←List.append_assoc]
  exact⟨_,h⟩
theorem Rel.fill {tm:List PV}{O:List Obj}{o1:Obj}{k:Nat}{w':World}{au:Nat→Option Nat}(R:Rel base ah w0 ⟨tm,O⟩ blk a w)(hk:O[k]?=some hole)(hl:o1.live=true)(hv:o1.ver=1)
  (R':Rel base ah w0 ⟨tm,O++[o1]⟩ au a w') (hn:Eg O (O++[o1])){mk:Nat→PV}(hm:Mk mk){v:Value}(hr:aR w' (bA base (O++[o1]) au) (O++[o1]) au (mk O.length) v) :
  ∃iN,Rel base ah w0 ⟨tm,O.set k o1⟩ iN a w'∧aR w' (bA base (O.set k o1) iN) (O.set k o1) iN (mk k) v:=by
 have hkl:=(List.getElem?_eq_some_iff.1 hk).1
 obtain⟨iN,hb2⟩:∃iN:Nat→Option Nat,iN=λj=>if j=k then au O.length else au j:=⟨_,rfl⟩
 have bk:iN k=au O.length:=by rw[hb2];simp
 have bo:∀j,j≠k→iN j=au j:=λj hj=>by rw[hb2];simp[hj]
 have Y2:(O++[o1])[O.length]?=some o1:=by simp
 have adZ:∀j o,O[j]?=some o→(O++[o1])[j]?=some o:=λj o h=>by
  rw[List.getElem?_append_left (List.getElem?_eq_some_iff.1 h).1];exact h
 have gk:(O.set k o1)[k]?=some o1:=by rw[List.getElem?_set];simp[hkl]
 have go:∀j,j≠k→(O.set k o1)[j]?=O[j]?:=λj hj=>by rw[List.getElem?_set,if_neg (λe=>hj e.symm)]
 have hlive:∀(j:Nat) (o:Obj),(O.set k o1)[j]?=some o→o.live=true→∃j',(O++[o1])[j']?=some o∧au j'=iN j∧((j=k∧j'=O.length)∨(j≠k∧j'=j∧j<O.length)):=by
  intro j o h1 h2
  by_cases hj:j=k
  ·subst hj
   rw[gk]at h1;cases h1
   exact⟨O.length,Y2,bk.symm,.inl ⟨rfl,rfl⟩⟩
  ·rw[go j hj]at h1
   exact⟨j,adZ j o h1,(bo j hj).symm,.inr ⟨hj,rfl,(List.getElem?_eq_some_iff.1 h1).1⟩⟩
 have hnl:∀b,aJ (O++[o1]) au b→aJ (O.set k o1) iN b:=by
  intro b h j o h1 h2 h3
  obtain⟨j',g1,g2,_⟩:=hlive j o h1 h2
  exact h j' o g1 h2 (by rw[g2];exact h3)
 have hok:∀b,bA base (O++[o1]) au b→bA base (O.set k o1) iN b:=λb h=>⟨h.1,hnl b h.2⟩
 have hS:∀(p:PV) (u:Value),p.qd O.length=true→aY w' (bA base (O++[o1]) au) (O++[o1]) au p u→aY w' (bA base (O.set k o1) iN) (O.set k o1) iN p u:=by
  intro p u hp h
  have hm':∀q:PV,cu w' (bA base (O++[o1]) au) q u→cu w' (bA base (O.set k o1) iN) q u:=λq hq=>hq.mono (Nat.le_refl _) (λb _ hb=>hok b hb) (λ_ _ _ h=>h)
  cases p with
  | aZ j ver=>
   have hj:j<O.length:=by simpa[PV.qd] using hp
   obtain⟨h0,o,g1,g2,g3⟩:=h
   rw[List.getElem?_append_left hj]at g1
   by_cases hjk:j=k
   ·subst hjk
    rw[hk]at g1;cases g1
    refine⟨h0,o1,gk,by rw[hv];exact le_trans g2 (by decide),λ_ e=>?_⟩
    have:ver≤0:=g2
    omega
   ·refine⟨h0,o,by rw[go j hjk];exact g1,g2,λe1 e2=>?_⟩
    obtain⟨hM,this⟩:=g3 e1 e2
    refine⟨hM,?_⟩
    unfold wB at this ⊢
    rw[bo j hjk];exact this
  | bq j ver i f=>
   have hj:j<O.length:=by simpa[PV.qd] using hp
   obtain⟨h0,o,g1,g2,g3⟩:=h
   rw[List.getElem?_append_left hj]at g1
   by_cases hjk:j=k
   ·subst hjk
    rw[hk]at g1;cases g1
    refine⟨h0,o1,gk,by rw[hv];exact le_trans g2 (by decide),λ_ e=>?_⟩
    have:ver≤0:=g2
    omega
   ·refine⟨h0,o,by rw[go j hjk];exact g1,g2,λe1 e2=>?_⟩
    rw[bo j hjk];exact g3 e1 e2
  | gI j ver=>
   have hj:j<O.length:=by simpa[PV.qd] using hp
   obtain⟨h0,o,g1,g2,g3⟩:=h
   rw[List.getElem?_append_left hj]at g1
   by_cases hjk:j=k
   ·subst hjk
    rw[hk]at g1;cases g1
    refine⟨h0,o1,gk,by rw[hv];exact le_trans g2 (by decide),λ_ e=>?_⟩
    have:ver≤0:=g2
    omega
   ·refine⟨h0,o,by rw[go j hjk];exact g1,g2,λe1 e2=>?_⟩
    rw[bo j hjk];exact g3 e1 e2
  | _=>exact hm' _ h
 have hLs:∀(cs:List PV) (us:List Value),cs.all (PV.qd O.length)=true→bG (aY w' (bA base (O++[o1]) au) (O++[o1]) au) cs us→bG (aY w' (bA base (O.set k o1) iN) (O.set k o1) iN) cs us:=
  λcs us hc h=>⟨h.1,λi p u h1 h2=>hS p u (all_eq_true.1 hc p (List.mem_of_getElem? h1)) (h.2 i p u h1 h2)⟩
 have hT:∀(p:PV) (u:Value),p.lt O.length=true→aR w' (bA base (O++[o1]) au) (O++[o1]) au p u→aR w' (bA base (O.set k o1) iN) (O.set k o1) iN p u:=by
  intro p u hp h
  cases p with
  | fn f a c=>
   simp only[PV.lt,and_eq_true]at hp
   obtain⟨va,vc,rfl,h1,h2⟩:=h
   exact⟨va,vc,rfl,hLs _ _ hp.1 h1,hLs _ _ hp.2 h2⟩
  | bI cs=>obtain⟨us,rfl,h1⟩:=h;exact⟨us,rfl,hLs _ _ hp h1⟩
  | agg cs=>obtain⟨us,rfl,h1⟩:=h;exact⟨us,rfl,hLs _ _ hp h1⟩
  | aZ j ver=>exact hS (.aZ j ver) u hp h
  | bq j ver i f=>exact hS (.bq j ver i f) u hp h
  | gI j ver=>exact hS (.gI j ver) u hp h
  | _=>exact .eU (hS _ u rfl (by exact h))
 have yw:∀(j j':Nat) (o:Obj),bE w' (bA base (O++[o1]) au) (O++[o1]) au j' o→au j'=iN j→(∀x∈o.xs,∀p∈x.cells,∀u,aY w' (bA base (O++[o1]) au) (O++[o1]) au p u→aY w' (bA base (O.set k o1) iN) (O.set k o1) iN p u)→
     bE w' (bA base (O.set k o1) iN) (O.set k o1) iN j o:=by
  intro j j' o h e ht
  unfold bE at h ⊢
  rw[←e]
  cases hb:au j' with
  | none=>rw[hb]at h;exact h
  | some g=>
   rw[hb]at h
   obtain⟨c,x1,x2,x3⟩:=h
   refine⟨c,x1,x2,λi x hx=>⟨(x3 i x hx).1,λq p hp=>?_⟩⟩
   obtain⟨u,y1,y2⟩:=(x3 i x hx).2 q p hp
   exact⟨u,y1,ht x (List.mem_of_getElem? hx) p (List.mem_of_getElem? hp) u y2⟩
 refine⟨iN,⟨R'.o7.mono (λb _ h=>⟨hok b h.1,h.2⟩) (λ_ _ _ h=>h),R'.Fj,λt p hp=>hT p _ (NT (R.tm t p hp)) (R'.tm t p hp),⟨?_,?_,?_⟩,R'.pr,R'.fr,R'.gr,R'.pb,λx hx=>hT _ _ (NT (R.ext x hx)) (R'.ext x hx),R'.Ab,R'.sm,R'.gl⟩,?_⟩
 ·intro j o h1 h2
  obtain⟨j',g1,g2,hc⟩:=hlive j o h1 h2
  have h3:=R'.objs.ob j' o g1 h2
  refine yw j j' o h3 g2 λx hx p hp u hu=>?_
  rcases hc with ⟨rfl,rfl⟩ | ⟨hj,_,hjl⟩
  ·rw[gk]at h1;cases h1
   exact hS p u (hn o1 rfl x hx p hp) hu
  ·
   rw[go j hj]at h1
   have h4:=R.objs.ob j o h1 h2
   have hlt:p.qd O.length=true:=by
    obtain⟨i,hi,rfl⟩:=List.getElem_of_mem hx
    obtain⟨q,hq,rfl⟩:=List.getElem_of_mem hp
    unfold bE at h4
    cases hb:blk j with
    | none=>rw[hb]at h4;simp[h4]at hi
    | some g=>
     rw[hb]at h4
     obtain⟨c,_,_,x3⟩:=h4
     obtain⟨u',_,y2⟩:=(x3 i _ (List.getElem?_eq_getElem hi)).2 q _ (List.getElem?_eq_getElem hq)
     exact oF y2
   exact hS p u hlt hu
 ·intro j1 j2 q1 q2 g hne h1 h2 h3 h4 h5
  obtain⟨i1,a1,a2,a3⟩:=hlive j1 q1 h1 h2
  obtain⟨i2,b1,b2,b3⟩:=hlive j2 q2 h3 h4
  rw[←a2]at h5
  rw[←b2]
  refine R'.objs.Bd i1 i2 q1 q2 g ?_ a1 h2 b1 h4 h5
  rcases a3 with ⟨rfl,rfl⟩ | ⟨_,rfl,_⟩<;>rcases b3 with ⟨rfl,rfl⟩ | ⟨_,rfl,_⟩<;>first | exact absurd rfl hne | omega
 ·intro j o g h1 h2 h3
  obtain⟨j',g1,g2,_⟩:=hlive j o h1 h2
  rw[←g2]at h3
  exact R'.objs.np j' o g g1 h2 h3
 ·rcases hm with rfl | rfl | rfl
  ·obtain⟨h0,o,g1,g2,g3⟩:=hr
   rw[Y2]at g1;cases g1
   refine⟨h0,o1,gk,g2,λe1 e2=>?_⟩
   obtain⟨hM,this⟩:=g3 e1 e2
   refine⟨hM,?_⟩
   unfold wB at this ⊢
   rw[bk];exact this
  ·obtain⟨h0,o,g1,g2,g3⟩:=hr
   rw[Y2]at g1;cases g1
   refine⟨h0,o1,gk,g2,λe1 e2=>?_⟩
   rw[bk];exact g3 e1 e2
  ·obtain⟨h0,o,g1,g2,g3⟩:=hr
   rw[Y2]at g1;cases g1
   refine⟨h0,o1,gk,g2,λe1 e2=>?_⟩
   rw[bk];exact g3 e1 e2
end
def Lx(t:Nat):Option Nat:=if 5≤t∧t % 2=1 then some ((t-5) / 2) else none
theorem QK(k:Nat):Lx (5+2*k)=some k:=by
 unfold Lx;rw[if_pos (by omega)];congr 1;omega
theorem WO(k:Nat):Lx (4+2*k)=none:=by unfold Lx;rw[if_neg (by omega)]
theorem NU:Lx 0=none:=rfl
def Ad(tj ti:Nat):Bool:=decide (4≤tj) && decide (4≤ti) && (tj-4) / 2==(ti-4) / 2 && (tj % 2==1 || ti % 2==1)
theorem Di{tj ti k:Nat}(h:(Lx tj=some k∧(ti=4+2*k∨ti=5+2*k))∨(Lx ti=some k∧(tj=4+2*k∨tj=5+2*k))):Ad tj ti=true:=by
 have key:∀t,Lx t=some k→t=5+2*k:=by
  intro t ht
  unfold Lx at ht
  split at ht
  ·simp only[Option.some.injEq]at ht;omega
  ·cases ht
 unfold Ad
 simp only[and_eq_true,decide_eq_true_eq,or_eq_true,beq_iff_eq]
 rcases h with ⟨h1,h2 | h2⟩ | ⟨h1,h2 | h2⟩<;>have:=key _ h1<;>omega
def BA(t:Nat):Bool:=t==0 || decide (4≤t)
theorem Eo{t:Nat}(h:BA t=true):t=0∨(∃k,t=4+2*k)∨∃k,t=5+2*k:=by
 simp only[BA,or_eq_true,beq_iff_eq,decide_eq_true_eq]at h
 rcases h with h | h
 ·exact .inl h
 ·rcases Nat.mod_two_eq_zero_or_one t with e | e
  ·exact .inr (.inl ⟨(t-4) / 2,by omega⟩)
  ·exact .inr (.inr ⟨(t-5) / 2,by omega⟩)
structure LB (ops:List Oper) (ts:List Nat) (ms:List Nat) (b:Nat):Prop where
 fine:∀i,i<ops.length→i<b→BA (ts.getD i 0)=true
 bl:b≤ops.length
 two:b<ops.length→ts.getD b 0=2
 bar:b<ops.length→∀j,j<b→ts.getD j 0≠0→(ms.getD b 0).testBit j=true
 rest:∀i,i<ops.length→b<i→ts.getD i 0=0
 back:∀(i:Nat) (o:Oper),ops[i]?=some o→∀e∈o.after.toList,Region.binds .any e=true→e.on<i
 mask:∀(i:Nat) (o:Oper),ops[i]?=some o→∀j,(ms.getD i 0).testBit j=true→∃e∈o.after.toList,Region.binds .any e=true∧(j=e.on∨(ms.getD e.on 0).testBit j=true)
 ord:∀(i:Nat) (o:Oper) (j:Nat) (p:Oper),ops[i]?=some o→ops[j]?=some p→j<i→(clash p.dst o.dst (f_ ops p) (f_ ops o) 0 0 || Ad (ts.getD j 0) (ts.getD i 0))=true→(ms.getD i 0).testBit j=true
section
variable {en:Nat→IJ}
def BB(en:Nat→IJ)(X:Nat→Bool):Nat→List Obj→List Obj
 | 0,ob=>ob
 | n+1,ob=>if X n then (match Lx (en n).t with
  | some k=>(BB en X n ob).set k ((en n).objs.getD k hole)
  | none=>BB en X n ob) else BB en X n ob
theorem qm(X:Nat→Bool):∀(n:Nat) (ob:List Obj),(BB en X n ob).length=ob.length
 | 0,_=>rfl
 | n+1,ob=>by
  simp only[BB]
  split
  ·split
   ·rw[List.length_set,qm X n ob]
   ·exact qm X n ob
  ·exact qm X n ob
theorem sK{X Y:Nat→Bool}:∀(n:Nat) (ob:List Obj),(∀j,j<n→X j=Y j)→BB en X n ob=BB en Y n ob
 | 0,_,_=>rfl
 | n+1,ob,h=>by simp only[BB];rw[h n (by omega),sK n ob (λj hj=>h j (by omega))]
theorem LD{X Y:Nat→Bool}{k:Nat}:∀(n:Nat) (ob:List Obj),(∀j,j<n→Lx (en j).t=some k→X j=Y j)→(BB en X n ob)[k]?=(BB en Y n ob)[k]?
 | 0,_,_=>rfl
 | n+1,ob,h=>by
  have ih:=LD (X:=X) (Y:=Y) (k:=k) n ob (λj hj=>h j (by omega))
  have hl:(BB en X n ob).length=(BB en Y n ob).length:=by rw[qm,qm]
  simp only[BB]
  cases hw:Lx (en n).t with
  | none=>simp only[];split<;>split<;>exact ih
  | some k'=>
   simp only[]
   by_cases hk:k'=k
   ·subst hk
    rw[h n (by omega) hw]
    split
    ·rw[List.getElem?_set,List.getElem?_set];simp[hl]
    ·exact ih
   ·split<;>split<;> (try rw[List.getElem?_set,if_neg hk])<;> (try rw[List.getElem?_set,if_neg hk])<;>exact ih
theorem Kg{i:Nat}:∀(n:Nat) (ob:List Obj),i≤n→BB en (λj=>decide (j<i)) n ob=BB en (λ_=>true) i ob
 | 0,_,h=>by have:i=0:=by omega
             subst this;rfl
 | n+1,ob,h=>by
  by_cases hi:i=n+1
  ·subst hi
   exact sK (n+1) ob λj hj=>by simp[hj]
  ·simp only[BB]
   rw[if_neg (by simp;omega)]
   exact Kg n ob (by omega)
theorem Ti{X:Nat→Bool}{i k:Nat}:∀(n:Nat) (ob:List Obj),i<n→X i=false→Lx (en i).t=some k→(∀j,i<j→j<n→X j=true→Lx (en j).t≠some k)→
  BB en (upd X i) n ob=(BB en X n ob).set k ((en i).objs.getD k hole)
 | 0,_,h,_,_,_=>by omega
 | n+1,ob,hi,hx,hw,hd=>by
  simp only[BB]
  by_cases hin:i=n
  ·subst hin
   simp only[hx,upd,beq_self_eq_true,Bool.or_true,if_true,Bool.false_eq_true,if_false,hw]
   rw[sK (en:=en) (X:=upd X i) (Y:=X) i ob (λj hj=>by simp[upd];omega)]
  ·have hu:upd X i n=X n:=by simp[upd];omega
   rw[hu]
   have ih:=Ti (X:=X) n ob (by omega) hx hw (λj h1 h2=>hd j h1 (by omega))
   split
   ·rename_i hn
    have:=hd n (by omega) (by omega) hn
    split
    ·rename_i k' hk'
     rw[hk']at this
     have hne:k≠k':=λe=>this (by rw[e])
     rw[ih,List.set_comm _ _ hne]
    ·exact ih
   ·exact ih
theorem NV{X:Nat→Bool}{i:Nat}:∀(n:Nat) (ob:List Obj),Lx (en i).t=none→BB en (upd X i) n ob=BB en X n ob
 | 0,_,_=>rfl
 | n+1,ob,hw=>by
  have ih:=NV (X:=X) n ob hw
  simp only[BB]
  by_cases hin:n=i
  ·subst hin
   rw[hw,ih]
   simp
  ·have hu:upd X i n=X n:=by simp[upd,hin]
   rw[hu,ih]
end
def sM(ops:List Oper)(tr:List IJ)(S:St)(A b:Nat)(X:Nat→Bool):St:=⟨Gi (ql ops) (aN tr) X ops.length S.tmps,if (decide (b<ops.length) && X b)=true then (aN tr b).objs else BB (aN tr) X b (S.objs++List.replicate A hole)⟩
theorem Tj{own:Nat→Bool}{ops:List Oper}{tr:List IJ}{S0:St}(hst:∀i o,ops[i]?=some o→rV P D (own i) ops o (mg ops tr S0 (λ_=>true) i) (aN tr i))
  {b:Nat}(hbl:b≤ops.length) (hf:∀i,i<ops.length→i<b→BA (aN tr i).t=true):∀i,i<b→(oL (aN tr) (λ_=>true) i S0.objs).length≤(oL (aN tr) (λ_=>true) (i+1) S0.objs).length∧
   ((Lx (aN tr i).t=none∧oL (aN tr) (λ_=>true) (i+1) S0.objs=oL (aN tr) (λ_=>true) i S0.objs)∨
    ∃k o1,Lx (aN tr i).t=some k∧(aN tr i).objs.getD k hole=o1∧
     ((k<(oL (aN tr) (λ_=>true) i S0.objs).length∧oL (aN tr) (λ_=>true) (i+1) S0.objs=(oL (aN tr) (λ_=>true) i S0.objs).set k o1)∨
      (k=(oL (aN tr) (λ_=>true) i S0.objs).length∧oL (aN tr) (λ_=>true) (i+1) S0.objs=oL (aN tr) (λ_=>true) i S0.objs++[o1]))):=by
 intro i hib
 have hi:i<ops.length:=by omega
 have h:=hst i ops[i] (List.getElem?_eq_getElem hi)
 have hfi:=hf i hi hib
 have nD:(mg ops tr S0 (λ_=>true) i).objs=oL (aN tr) (λ_=>true) i S0.objs:=rfl
 have hX:oL (aN tr) (λ_=>true) (i+1) S0.objs=if co (aN tr i).t=2 then (aN tr i).objs else oL (aN tr) (λ_=>true) i S0.objs:=by
  simp only[oL,Bool.true_and,beq_iff_eq]
 rcases h with ⟨_,_,_,_,zM⟩ | ⟨_,_,_,h4⟩
 ·rw[nD]at zM
  rcases Eo hfi with h0 | ⟨k,hk⟩ | ⟨k,hk⟩
  ·rw[hX,h0,if_neg (by decide)]
   exact⟨Nat.le_refl _,.inl ⟨NU,rfl⟩⟩
  ·rw[hX,hk,aao,if_neg (by decide)]
   exact⟨Nat.le_refl _,.inl ⟨WO k,rfl⟩⟩
  ·rw[hX,if_pos (by rw[hk];exact Tc k)]
   rcases zM.wr k hk with ⟨o1,g1,g2,_⟩ | ⟨g1,o1,mk,_,_,g2,_⟩
   ·rw[g2]
    refine⟨by simp,.inr ⟨k,o1,by rw[hk];exact QK k,?_,.inl ⟨g1,rfl⟩⟩⟩
    rw[List.getD_eq_getElem?_getD,List.getElem?_set];simp[g1]
   ·rw[g2]
    refine⟨by simp,.inr ⟨k,o1,by rw[hk];exact QK k,?_,.inr ⟨g1,rfl⟩⟩⟩
    rw[List.getD_eq_getElem?_getD,g1];simp
 ·rw[hX,h4,if_neg (by decide)]
  exact⟨Nat.le_refl _,.inl ⟨NU,rfl⟩⟩
theorem Tk{own:Nat→Bool}{ops:List Oper}{tr:List IJ}{S0:St}{A:Nat}(hst:∀i o,ops[i]?=some o→rV P D (own i) ops o (mg ops tr S0 (λ_=>true) i) (aN tr i))
  {b:Nat}(hbl:b≤ops.length) (hf:∀i,i<ops.length→i<b→BA (aN tr i).t=true) (hA:(oL (aN tr) (λ_=>true) b S0.objs).length=S0.objs.length+A) :
  ∀i,i≤b→(oL (aN tr) (λ_=>true) i S0.objs).length≤S0.objs.length+A∧
   BB (aN tr) (λ_=>true) i (S0.objs++List.replicate A hole)=oL (aN tr) (λ_=>true) i S0.objs++List.replicate (S0.objs.length+A-(oL (aN tr) (λ_=>true) i S0.objs).length) hole:=by
 have one:=Tj hst hbl hf
 have mono:∀d i,i+d=b→(oL (aN tr) (λ_=>true) i S0.objs).length≤S0.objs.length+A:=by
  intro d
  induction d with
  | zero=>intro i hi;rw[Nat.add_zero]at hi;rw[hi,hA];exact Nat.le_refl _
  | succ d ih=>intro i hi;exact le_trans (one i (by omega)).1 (ih (i+1) (by omega))
 intro i
 induction i with
 | zero=>intro _;exact⟨by simp[oL],by simp[BB,oL]⟩
 | succ i ih=>
  intro hi
  obtain⟨h1,h2⟩:=ih (by omega)
  have hle:=mono (b-(i+1)) (i+1) (by omega)
  refine⟨hle,?_⟩
  simp only[BB,if_true]
  rcases (one i (by omega)).2 with ⟨g1,g2⟩ | ⟨k,o1,g1,g0,⟨g2,g3⟩ | ⟨g2,g3⟩⟩
  ·rw[g1,g2];exact h2
  ·rw[g1]
   simp only[]
   rw[g0,h2,g3,List.set_append_left _ _ g2,List.length_set]
  ·rw[g1]
   simp only[]
   rw[g3,List.length_append,List.length_singleton]at hle
   rw[g0,h2,g3,List.set_append_right _ _ (by omega),List.length_append,List.length_singleton]
   have:S0.objs.length+A-(oL (aN tr) (λ_=>true) i S0.objs).length=(S0.objs.length+A-((oL (aN tr) (λ_=>true) i S0.objs).length+1))+1:=by omega
   rw[this,List.replicate_succ,g2,sub_self,List.set_cons_zero,List.append_assoc]
   rfl
theorem QL{own:Nat→Bool}{ops:List Oper}{ts:List Nat}{ms:List Nat}{b:Nat}{tr:List IJ}{S0:St}{A:Nat}(hD:∀t,fI P t (D t))(hok:LB ops ts ms b)
  (hts:∀i,i<ops.length→ts.getD i 0=(aN tr i).t)
  (hst:∀i o,ops[i]?=some o→rV P D (own i) ops o (mg ops tr S0 (λ_=>true) i) (aN tr i))
  (hA:(oL (aN tr) (λ_=>true) b S0.objs).length=S0.objs.length+A)
  {X:Nat→Bool}{i:Nat}{o:Oper}(ho:ops[i]?=some o) (hX:X i=false) (hcl:∀j,j<ops.length→X j=true→∀x,(ms.getD j 0).testBit x=true→X x=true)
  (hrd:∀x,(ms.getD i 0).testBit x=true→X x=true)
  {base ah:Nat→Prop}{w0:Wz}{blk:Nat→Option Nat}{a:Act}{w:World}(R:Rel base ah w0 (sM ops tr S0 A b X) blk a w)
  {Q:Exit→Act→World→Prop}{K:Act→World→Prop}(hK:∀au a' w',Rel base ah w0 (sM ops tr S0 A b (upd X i)) au a' w'→K a' w') :
  wpOpIn (Bp l) 0 P ops.toArray Q i K a w:=by
 have hi:i<ops.length:=(List.getElem?_eq_some_iff.1 ho).1
 have hbl:=hok.bl
 have hdst:ql ops i=o.dst:=by simp[ql,ho]
 have Lv:∀j,j<ops.length→∃p,ops[j]?=some p∧ql ops j=p.dst:=λj hj=>⟨ops[j],List.getElem?_eq_getElem hj,by simp[ql,List.getElem?_eq_getElem hj]⟩
 have hf:∀j,j<ops.length→j<b→BA (aN tr j).t=true:=λj hj hb=>by rw[←hts j hj];exact hok.fine j hj hb
 have before:∀j p,ops[j]?=some p→j<i→(clash p.dst o.dst (f_ ops p) (f_ ops o) 0 0 || Ad (aN tr j).t (aN tr i).t)=true→X j=true:=
  λj p hp hj hc=>hrd j (hok.ord i o j p ho hp hj (by rw[hts j (List.getElem?_eq_some_iff.1 hp).1,hts i hi];exact hc))
 have behind:∀j p,ops[j]?=some p→i<j→(clash o.dst p.dst (f_ ops o) (f_ ops p) 0 0 || Ad (aN tr i).t (aN tr j).t)=true→X j=false:=λj p hp hj hc=>by
  cases hx:X j with
  | false=>rfl
  | true=>
   have hjl:=(List.getElem?_eq_some_iff.1 hp).1
   have:=hcl j hjl hx i (hok.ord j p i o hp ho hj (by rw[hts j hjl,hts i hi];exact hc))
   rw[hX]at this;cases this
 have Tg:∀x∈f_ ops o,(mg ops tr S0 (λ_=>true) i).tmps.getD x .dead=(sM ops tr S0 A b X).tmps.getD x .dead:=by
  intro x hx
  simp only[mg,sM]
  rw[←Dh (dst:=ql ops) ops.length S0.tmps (le_of_lt hi)]
  refine Gj _ _ λj hj hd=>?_
  obtain⟨p,hp,WL⟩:=Lv j hj
  rw[WL]at hd
  rcases Nat.lt_trichotomy j i with hji | hji | hji
  ·rw[before j p hp hji (by rw[Gn hd hx];rfl)];simp[hji]
  ·subst hji;rw[hX];simp
  ·rw[behind j p hp hji (by rw[En hd hx];rfl)];simp;omega
 have hadd:pI o.dst (aN tr i).r (sM ops tr S0 A b X).tmps=(sM ops tr S0 A b (upd X i)).tmps:=by
  simp only[sM]
  rw[←hdst]
  refine Lm _ _ hi hX λj hj hjn hxj x hx hd=>?_
  obtain⟨p,hp,WL⟩:=Lv j hjn
  rw[WL]at hd
  rw[hdst]at hx
  have:=behind j p hp hj (by rw[Ke hx hd];rfl)
  rw[this]at hxj;cases hxj
 obtain⟨T,hT⟩:∃T,T=oL (aN tr) (λ_=>true) i S0.objs:=⟨_,rfl⟩
 obtain⟨B,hB⟩:∃B,B=(sM ops tr S0 A b X).objs:=⟨_,rfl⟩
 have hnb:(aN tr i).t=0∨i<b→i≠b:=λh e=>by
  rcases h with h | h
  ·have:=hok.two (by omega)
   rw[←e,hts i hi,h]at this;cases this
  ·omega
 have WQ:i≠b→Lx (aN tr i).t=none→(sM ops tr S0 A b (upd X i)).objs=B:=λhne hw=>by
  rw[hB]
  have hu:upd X i b=X b:=by simp[upd];omega
  simp only[sM,hu,NV _ _ hw]
 have hput:∀ai,(ai=(sM ops tr S0 A b (upd X i)).objs)→St.put ⟨(sM ops tr S0 A b X).tmps,ai⟩ o.dst (aN tr i).r=sM ops tr S0 A b (upd X i):=by
  rintro ai rfl
  cases hd:o.dst with
  | none=>rw[hd]at hadd;simp only[pI]at hadd;simp only[St.put];rw[hadd]
  | some d=>rw[hd]at hadd;simp only[pI]at hadd;simp only[St.put];rw[hadd]
 have NW:(sM ops tr S0 A b X).objs=B:=hB.symm
 have hTo:(mg ops tr S0 (λ_=>true) i).objs=T:=hT.symm
 have hev:∀x∈o.op.operands,(mg ops tr S0 (λ_=>true) i).ev x=(sM ops tr S0 A b X).ev x:=by
  intro x hm
  cases x with
  | tmp t=>exact Tg t (List.mem_append_left _ (List.mem_filterMap.2 ⟨.tmp t,by simpa using hm,rfl⟩))
  | _=>rfl
 have hg:iE ops o.guard (mg ops tr S0 (λ_=>true) i).tmps=iE ops o.guard (sM ops tr S0 A b X).tmps:=by
  cases hgd:o.guard with
  | none=>rfl
  | some g=>
   obtain⟨j,want⟩:=g
   simp only[iE]
   cases hd:(ops[j]?).bind (·.dst) with
   | none=>rfl
   | some d=>
    simp only[]
    rw[Tg d (List.mem_append_right _ (by rw[hgd];simp[hd]))]
 unfold wpOpIn
 have h0:ops.toArray[i]?=some o:=by simpa using ho
 rw[h0]
 simp only[]
 rcases hst i o ho with ⟨h1,_,hall,h4,zM⟩ | ⟨h1,h2,_,h3⟩
 ·rw[hg]at h1
  rw[if_pos (pG R h1)]
  rw[hTo]at zM hall
  have run:∀(O2:List Obj) (r2:PV),(∀K:KT,(∀t,K r2 O2 t)→II P D (own i) (mg ops tr S0 (λ_=>true) i).ev B o.op K)→r2=(aN tr i).r→O2=(sM ops tr S0 A b (upd X i)).objs→
      o.wpIn (Bp l) 0 P a w K Q:=by
   intro O2 r2 hop hr2 hO2
   have h5:=yA hev (hop (λr ai _=>r=r2∧ai=O2) (λ_=>⟨rfl,rfl⟩))
   rw[←NW]at h5
   refine Bu l hD R h5 λr ai t v w' au hr R' hv=>?_
   obtain⟨rfl,rfl⟩:=hr
   have:=R'.put hv o.dst
   rw[hr2,hput ai hO2]at this
   exact hK _ _ _ this
  have zero:(aN tr i).t=0→o.wpIn (Bp l) 0 P a w K Q:=λht=>run B _ (λK hk=>h4 ht B K (hk 0)) rfl (WQ (hnb (.inl ht)) (by rw[ht];rfl)).symm
  rcases Nat.lt_trichotomy i b with hib | hib | hib
  rotate_left 1
  ·
   subst hib
   have hBT:B=T:=by
    rw[hB]
    simp only[sM,hX,Bool.and_false,Bool.false_eq_true,if_false]
    obtain⟨_,WR⟩:=Tk hst hbl hf hA i (Nat.le_refl _)
    rw[hA,sub_self,List.replicate_zero,List.append_nil]at WR
    rw[hT,←WR]
    refine List.ext_getElem? λk=>LD _ _ λj hj hw=>?_
    refine hrd j (hok.bar hi j hj λhz=>?_)
    rw[hts j (by omega)]at hz
    rw[hz]at hw;cases hw
   refine run (aN tr i).objs _ (λK hk=>by rw[hBT];exact hall K (hk _)) rfl ?_
   simp[sM,upd,hi]
  ·exact zero (by rw[←hts i hi];exact hok.rest i hi hib)
  by_cases hXb:(decide (b<ops.length) && X b)=true
  ·
   refine zero (Decidable.of_not_not λhz=>?_)
   simp only[and_eq_true,decide_eq_true_eq]at hXb
   have:=hcl b hXb.1 hXb.2 i (hok.bar hXb.1 i hib (by rw[hts i hi];exact hz))
   rw[hX]at this;cases this
  have hBe:B=BB (aN tr) X b (S0.objs++List.replicate A hole):=by
   rw[hB];simp only[sM];rw[if_neg hXb]
  obtain⟨hle,WR⟩:=Tk hst hbl hf hA i (le_of_lt hib)
  rw[←hT]at hle WR
  have slot:∀k,((aN tr i).t=4+2*k∨(aN tr i).t=5+2*k)→B[k]?=(T++List.replicate (S0.objs.length+A-T.length) hole)[k]?:=by
   intro k hk
   rw[hBe,←WR,←Kg b _ (le_of_lt hib)]
   refine LD _ _ λj hj hw=>?_
   obtain⟨p,hp,WL⟩:=Lv j (by omega)
   rcases Nat.lt_trichotomy j i with hji | hji | hji
   ·rw[before j p hp hji (by rw[Di (.inl ⟨hw,hk⟩),Bool.or_true])];simp[hji]
   ·subst hji;rw[hX];simp
   ·rw[behind j p hp hji (by rw[Di (.inr ⟨hw,hk⟩),Bool.or_true])];simp;omega
  have hwr:∀k,Lx (aN tr i).t=some k→((aN tr i).t=4+2*k∨(aN tr i).t=5+2*k)→(sM ops tr S0 A b (upd X i)).objs=B.set k ((aN tr i).objs.getD k hole):=by
   intro k hw hk
   have hu:upd X i b=X b:=by simp[upd];omega
   simp only[sM,hu]
   rw[if_neg hXb,hBe]
   refine Ti _ _ hib hX hw λj hj hjn hxj hwj=>?_
   obtain⟨p,hp,WL⟩:=Lv j (by omega)
   have:=behind j p hp hj (by rw[Di (.inr ⟨hwj,hk⟩),Bool.or_true])
   rw[this]at hxj;cases hxj
  rcases Eo (hf i hi hib) with ht | ⟨k,hk⟩ | ⟨k,hk⟩
  ·exact zero ht
  ·obtain⟨_,g1,g2⟩:=zM.rd k hk
   have hs:=slot k (.inl hk)
   rw[List.getElem?_append_left g1]at hs
   exact run B _ (λK hk'=>g2 B K hs (hk' _)) rfl (WQ (by omega) (by rw[hk];exact WO k)).symm
  ·have hs:=slot k (.inr hk)
   have hw:=hwr k (by rw[hk];exact QK k) (.inr hk)
   rcases zM.wr k hk with ⟨o1,g1,g2,g3⟩ | ⟨g1,o1,mk,hm,gr,g2,hl1,hv1,g3⟩
   ·rw[List.getElem?_append_left g1]at hs
    have hc:(aN tr i).objs.getD k hole=o1:=by
     rw[g2,List.getD_eq_getElem?_getD,List.getElem?_set];simp[g1]
    exact run (B.set k o1) _ (λK hk'=>g3 B K hs (hk' _)) rfl (by rw[hw,hc])
   ·have hc:(aN tr i).objs.getD k hole=o1:=by
      rw[g2,List.getD_eq_getElem?_getD,g1];simp
    have hlen:(oL (aN tr) (λ_=>true) (i+1) S0.objs).length≤S0.objs.length+A:=(Tk hst hbl hf hA (i+1) hib).1
    have hX1:oL (aN tr) (λ_=>true) (i+1) S0.objs=T++[o1]:=by
     simp only[oL,Bool.true_and,beq_iff_eq]
     rw[if_pos (by rw[hk];exact Tc k),g2]
    rw[hX1,List.length_append,List.length_singleton]at hlen
    have acy:B[k]?=some hole:=by
     rw[hs,g1,List.getElem?_append_right (Nat.le_refl _),sub_self,List.getElem?_replicate,if_pos (by omega)]
    have h5:=yA hev (g3 B (λr ai _=>r=mk B.length∧ai=B++[o1]) ⟨rfl,rfl⟩)
    rw[←NW]at h5
    refine Ka l hD R h5 λr ai t v w' au hr R' hv hn=>?_
    obtain⟨rfl,rfl⟩:=hr
    rw[NW]at R' hv hn
    have R0:Rel base ah w0 ⟨(sM ops tr S0 A b X).tmps,B⟩ blk a w:=by rw[←NW];exact R
    obtain⟨iN,R2,hv2⟩:=R0.fill acy hl1 hv1 R' hn hm hv
    have:=R2.put hv2 o.dst
    rw[←gr,hput _ (by rw[hw,hc])]at this
    exact hK _ _ _ this
 ·rw[hg]at h1
  rw[if_neg (by rw[pG R h1];simp)]
  refine⟨λ_ _=>trivial,?_⟩
  have:=R.put (yB w _ _ blk) o.dst
  rw[←h2]at this
  have hs:=hput (sM ops tr S0 A b X).objs (by rw[NW,WQ (hnb (.inl h3)) (by rw[h3];rfl)])
  rw[show (sM ops tr S0 A b X).put o.dst (aN tr i).r=St.put ⟨(sM ops tr S0 A b X).tmps,(sM ops tr S0 A b X).objs⟩ o.dst (aN tr i).r from rfl,hs]at this
  exact hK _ _ _ this
theorem NY{own:Nat→Bool}{ops:List Oper}{ts:List Nat}{ms:List Nat}{b:Nat}{tr:List IJ}{S0:St}{A:Nat}(hD:∀t,fI P t (D t))(hok:LB ops ts ms b)
  (hts:∀i,i<ops.length→ts.getD i 0=(aN tr i).t)
  (hst:∀i o,ops[i]?=some o→rV P D (own i) ops o (mg ops tr S0 (λ_=>true) i) (aN tr i))
  (hA:(oL (aN tr) (λ_=>true) b S0.objs).length=S0.objs.length+A)
  {base ah:Nat→Prop}{w0:Wz}{Q:Exit→Act→World→Prop}
  (hQ:∀au a' w',Rel base ah w0 (sM ops tr S0 A b (λ_=>true)) au a' w'→Q .normal a' w') :
  ∀(fuel:Nat) (L:Array Bool) (blk:Nat→Option Nat) (a:Act) (w:World),L.size=ops.length→
   (∀j,j<ops.length→L.getD j false=true→∀x,(ms.getD j 0).testBit x=true→L.getD x false=true)→cnt (λj=>L.getD j false) ops.length≤fuel→
   Rel base ah w0 (sM ops tr S0 A b (λj=>L.getD j false)) blk a w→wpAnyIn (Bp l) 0 P .any ops.toArray Q fuel L a w:=by
 have full:∀(L:Array Bool),L.size=ops.length→Region.ready .any ops.toArray L=[]→∀i,i<ops.length→L.getD i false=true:=by
  intro L hsz hr i
  induction i using Nat.strongRecOn with
  | _ i ih=>
   intro hi
   cases hx:L.getD i false with
   | true=>rfl
   | false=>
    have hmem:i∈Region.ready .any ops.toArray L:=by
     simp only[Region.ready,List.mem_filter,mem_range,and_eq_true]
     refine⟨by simpa using hi,?_,?_⟩
     ·have hil:i<L.size:=by omega
      rw[Array.getD_eq_getD_getElem?,Array.getElem?_eq_getElem hil,getD_some]at hx ⊢
      rw[hx];rfl
     ·have ho:ops.toArray[i]?=some ops[i]:=by simp[hi]
      rw[ho]
      simp only[map_some,getD_some]
      rw[Array.all_eq_true']
      intro e he
      cases hbd:Region.binds .any e with
      | false=>simp
      | true=>
       have hb:=hok.back i ops[i] (List.getElem?_eq_getElem hi) e (by simpa using he) hbd
       rw[ih e.on hb (by omega)];simp
    rw[hr]at hmem
    simp at hmem
 have step:∀(L:Array Bool) (i:Nat),L.size=ops.length→i∈Region.ready .any ops.toArray L→∃o,ops[i]?=some o∧L.getD i false=false∧∀e∈o.after.toList,Region.binds .any e=true→L.getD e.on false=true:=by
  intro L i hsz hm
  simp only[Region.ready,List.mem_filter,mem_range,and_eq_true]at hm
  obtain⟨hi,h1,h2⟩:=hm
  have hi:i<ops.length:=by simpa using hi
  have ho:ops.toArray[i]?=some ops[i]:=by simp[hi]
  rw[ho]at h2
  simp only[map_some,getD_some]at h2
  rw[Array.all_eq_true']at h2
  refine⟨ops[i],List.getElem?_eq_getElem hi,?_,λe he hb=>?_⟩
  ·have hil:i<L.size:=by omega
   rw[Array.getD_eq_getD_getElem?,Array.getElem?_eq_getElem hil,getD_some]at h1 ⊢
   simpa using h1
  ·have:=h2 e (by simpa using he)
   rw[hb]at this
   simpa using this
 intro fuel
 induction fuel with
 | zero=>
  intro L blk a w hsz hcl hc R
  have hall:=Gl (X:=λj=>L.getD j false) ops.length (by omega)
  have hst':sM ops tr S0 A b (λj=>L.getD j false)=sM ops tr S0 A b (λ_=>true):=by
   have hbl:=hok.bl
   simp only[sM]
   rw[nQ ops.length _ hall,sK b _ λj hj=>hall j (by omega)]
   by_cases hbb:b<ops.length
   ·have e:L.getD b false=true:=hall b hbb
    simp only[e]
   ·simp[hbb]
  refine⟨?_,hQ blk a w (hst' ▸ R)⟩
  cases hr:Region.ready .any ops.toArray L with
  | nil=>rfl
  | cons i is=>
   obtain⟨o,ho,hx,_⟩:=step L i hsz (by rw[hr];exact List.mem_cons_self)
   rw[hall i (List.getElem?_eq_some_iff.1 ho).1]at hx
   cases hx
 | succ fuel ih=>
  intro L blk a w hsz hcl hc R
  refine⟨λhr=>?_,λi hm=>?_⟩
  ·have hall:=full L hsz hr
   have hst':sM ops tr S0 A b (λj=>L.getD j false)=sM ops tr S0 A b (λ_=>true):=by
    have hbl:=hok.bl
    simp only[sM]
    rw[nQ ops.length _ hall,sK b _ λj hj=>hall j (by omega)]
    by_cases hbb:b<ops.length
    ·have e:L.getD b false=true:=hall b hbb
     simp only[e]
    ·simp[hbb]
   exact hQ blk a w (hst' ▸ R)
  ·obtain⟨o,ho,hx,hrd⟩:=step L i hsz hm
   have hi:i<ops.length:=(List.getElem?_eq_some_iff.1 ho).1
   have WM:∀x,(ms.getD i 0).testBit x=true→L.getD x false=true:=by
    intro x hb
    obtain⟨e,h1,h2,h3⟩:=hok.mask i o ho x hb
    have he:=hrd e h1 h2
    rcases h3 with rfl | h3
    ·exact he
    ·exact hcl e.on (by have:=hok.back i o ho e h1 h2;omega) he x h3
   have WN:∀j,(L.setIfInBounds i true).getD j false=upd (λj=>L.getD j false) i j:=by
    intro j
    rw[Array.getD_eq_getD_getElem?,Array.getElem?_setIfInBounds]
    simp only[upd]
    by_cases hij:i=j
    ·subst hij
     rw[if_pos rfl,if_pos (by omega)];simp
    ·rw[if_neg hij,Array.getD_eq_getD_getElem?]
     have:(j==i)=false:=by simp;omega
     rw[this,Bool.or_false]
   have hfun:(λj=>(L.setIfInBounds i true).getD j false)=upd (λj=>L.getD j false) i:=funext WN
   refine QL (X:=λj=>L.getD j false) hD hok hts hst hA ho hx hcl WM R λau a' w' R'=>?_
   refine ih _ au a' w' (by simpa using hsz) ?_ ?_ (by rw[hfun];exact R')
   ·intro j hj hb x hbx
    rw[WN]at hb ⊢
    simp only[upd,or_eq_true,beq_iff_eq]at hb ⊢
    rcases hb with hb | rfl
    ·exact .inl (hcl j hj hb x hbx)
    ·exact .inl (WM x hbx)
   ·rw[hfun]
    have:=Ls (X:=λj=>L.getD j false) ops.length hi hx
    omega
def uH(ops:List Oper)(ts:List Nat)(b:Nat):Bool:=
 let ms:=masks ops []
 let ls:=ops.map (f_ ops)
 ((List.range ops.length).all λi=>if i<b then BA (ts.getD i 0) else if i=b then ts.getD i 0==2 else ts.getD i 0==0) &&
 decide (b≤ops.length) &&
 (decide (b=ops.length) || (List.range b).all λj=>ts.getD j 0==0 || (ms.getD b 0).testBit j) &&
 (List.range ops.length).all λi=>
  match ops[i]? with
  | none=>true
  | some o=>
   (o.after.toList.all λe=>!Region.binds .any e || decide (e.on<i)) &&
   (ms.getD i 0 &&& qj ms o==ms.getD i 0) &&
   (List.range i).all λj=>
    !(clash ((ops[j]?).bind (·.dst)) o.dst (ls.getD j []) (ls.getD i []) 0 0 || Ad (ts.getD j 0) (ts.getD i 0)) || (ms.getD i 0).testBit j
theorem LF{ops:List Oper}{ts:List Nat}{b:Nat}(h:uH ops ts b=true):LB ops ts (masks ops []) b:=by
 unfold uH at h
 simp only[and_eq_true,all_eq_true,mem_range]at h
 obtain⟨⟨⟨zM,hbl⟩,hbar⟩,h⟩:=h
 have hbl:=of_decide_eq_true hbl
 have hh:∀i o,ops[i]?=some o→_:=λi o ho=>by
  have:=h i (List.getElem?_eq_some_iff.1 ho).1
  rw[ho]at this
  simp only[and_eq_true,all_eq_true,mem_range,beq_iff_eq]at this
  exact this
 refine⟨λi hi hb=>?_,hbl,λhb=>?_,λhb j hj hz=>?_,λi hi hb=>?_,λi o ho e he hb=>by simpa[hb] using (hh i o ho).1.1 e he,λi o ho j hj=>?_,λi o j p ho hp hji hc=>?_⟩
 ·have:=zM i hi;rwa[if_pos hb]at this
 ·have:=zM b hb
  rw[if_neg (by omega),if_pos rfl]at this
  simpa using this
 ·simp only[or_eq_true,decide_eq_true_eq,all_eq_true,mem_range,beq_iff_eq]at hbar
  rcases hbar with hbar | hbar
  ·omega
  ·rcases hbar j hj with h1 | h1
   ·exact absurd h1 hz
   ·exact h1
 ·have:=zM i hi
  rw[if_neg (by omega),if_neg (by omega)]at this
  simpa using this
 ·refine Gm ?_
  have h2:=(hh i o ho).1.2
  rw[←h2,Nat.testBit_and]at hj
  simp only[and_eq_true]at hj
  exact hj.2
 ·have h3:=(hh i o ho).2 j hji
  have hlt:=(List.getElem?_eq_some_iff.1 hp).1
  have e1:(ops.map (f_ ops)).getD j []=f_ ops p:=by rw[List.getD_eq_getElem?_getD,List.getElem?_map,hp];rfl
  have e2:(ops.map (f_ ops)).getD i []=f_ ops o:=by rw[List.getD_eq_getElem?_getD,List.getElem?_map,ho];rfl
  rw[e1,e2,hp]at h3
  simp only[Option.bind_some,hc,Bool.not_true,Bool.false_or]at h3
  exact h3
theorem acz{ops:List Oper}{Q:Exit→St→Prop}{S:St}(own:Nat→Bool)(hD:∀t,fI P t (D t))
  (h:pq P D own ops ops 0 S [] λS' ts=>(rW ops ts=true∨∃b,uH ops ts b=true)∧Q .normal S'){base ah:Nat→Prop}{V:Wz→Prop}{blk:Nat→Option Nat}{a:Act}{w:World}(hR:jW base ah V S blk a w) :
  wpAnyIn (Bp l) 0 P .any ops.toArray (λe a' w'=>∃S' au,Q e S'∧jW base ah V S' au a' w') ops.toArray.size (Array.replicate ops.toArray.size false) a w:=by
 obtain⟨w0,hV,R'⟩:=hR
 obtain⟨tr,S',h1,h2,h3⟩:=mP _ _ _ _ _ h
 obtain⟨h4,h5⟩:=wQ (S0:=S) (tr0:=tr) ops 0 S tr S' h1 (λj=>by simp) (λj=>by simp) rfl
 have hcn:∀(X:Nat→Bool) n,cnt X n≤n:=by
  intro X n
  induction n with
  | zero=>exact Nat.le_refl _
  | succ n ih=>simp only[cnt];split<;>omega
 have hrep:∀j,(Array.replicate ops.toArray.size false).getD j false=false:=by
  intro j
  rw[Array.getD_eq_getD_getElem?,Array.getElem?_replicate]
  split<;>rfl
 have htr:tr.length=ops.length:=by
  clear h2 h3 h4 h5 h
  have:∀(qO:List Oper) (k:Nat) (S:St) (tr:List IJ) (S':St),Trace P D own ops qO k S tr S'→tr.length=qO.length:=by
   intro qO
   induction qO with
   | nil=>rintro k S tr S' ⟨rfl,_⟩;rfl
   | cons o qO ih=>
    rintro k S tr S' ⟨e,tr',rfl,_,h⟩
    simp[ih _ _ _ _ h]
  exact this _ _ _ _ _ h1
 have hts:∀i,i<ops.length→(tr.map (·.t)).getD i 0=(aN tr i).t:=by
  intro i hi
  have hil:i<tr.length:=by omega
  simp[aN,List.getD_eq_getElem?_getD,List.getElem?_map,List.getElem?_eq_getElem hil]
 rw[Nat.zero_add]at h5
 subst h5
 have hst:∀i o,ops[i]?=some o→rV P D (own i) ops o (mg ops tr S (λ_=>true) i) (aN tr i):=λi o ho=>h4 i o (Nat.zero_le _) ho
 have hc:=hcn (λj=>(Array.replicate ops.toArray.size false).getD j false) ops.length
 have hsz:ops.toArray.size=ops.length:=by simp
 have hrs:(Array.replicate ops.toArray.size false).size=ops.length:=by simp
 have hQ:∀au a' w',Rel base ah w0 (mg ops tr S (λ_=>true) ops.length) au a' w'→∃S' jk,Q .normal S'∧jW base ah V S' jk a' w':=
  λau a' w' R''=>⟨_,au,h3,w0,hV,R''⟩
 have hcl:∀j,j<ops.length→(Array.replicate ops.toArray.size false).getD j false=true→∀x,((masks ops []).getD j 0).testBit x=true→(Array.replicate ops.toArray.size false).getD x false=true:=by
  intro j _ hb
  rw[hrep]at hb;cases hb
 have e1:∀(L:Array Bool),(∀j,L.getD j false=false)→∀n tm,Gi (ql ops) (aN tr) (λj=>L.getD j false) n tm=tm:=by
  intro L hL n tm
  induction n with
  | zero=>rfl
  | succ n ih=>simp only[Gi];rw[if_neg (by rw[hL n];simp)];exact ih
 rcases h2 with h2 | ⟨b,h2⟩
 ·have hR:∀(L:Array Bool),(∀j,L.getD j false=false)→mg ops tr S (λj=>L.getD j false) ops.length=S:=by
    intro L hL
    have e2:∀n ob,oL (aN tr) (λj=>L.getD j false) n ob=ob:=by
     intro n ob
     induction n with
     | zero=>rfl
     | succ n ih=>simp only[oL];rw[if_neg (by rw[hL n];simp)];exact ih
    simp only[mg,e1 L hL,e2]
  have R1:Rel base ah w0 (mg ops tr S (λj=>(Array.replicate ops.toArray.size false).getD j false) ops.length) blk a w:=by rw[hR _ hrep];exact R'
  have h2':rW ops (tr.map (·.t))=true:=h2
  generalize Array.replicate ops.toArray.size false=L at *
  exact Gp (Q:=λe a' w'=>∃S' au,Q e S'∧jW base ah V S' au a' w') hD (wP h2') hts hst hQ ops.toArray.size L blk a _ hrs hcl (by rw[hsz];exact hc) R1
 ·have h2':=LF h2
  have hbl:=h2'.bl
  have hf:∀i,i<ops.length→i<b→BA (aN tr i).t=true:=λi hi hb=>by rw[←hts i hi];exact h2'.fine i hi hb
  have mono:∀i,i≤b→S.objs.length≤(oL (aN tr) (λ_=>true) i S.objs).length:=by
   intro i
   induction i with
   | zero=>intro _;exact Nat.le_refl _
   | succ i ih=>intro hi;exact le_trans (ih (by omega)) (Tj hst hbl hf i (by omega)).1
  obtain⟨A,hA⟩:∃A,(oL (aN tr) (λ_=>true) b S.objs).length=S.objs.length+A:=⟨(oL (aN tr) (λ_=>true) b S.objs).length-S.objs.length,by have:=mono b (Nat.le_refl _);omega⟩
  obtain⟨WS,R0⟩:=R'.holes A
  have hR:∀(L:Array Bool),(∀j,L.getD j false=false)→sM ops tr S A b (λj=>L.getD j false)=⟨S.tmps,S.objs++List.replicate A hole⟩:=by
   intro L hL
   have e2:∀n ob,BB (aN tr) (λj=>L.getD j false) n ob=ob:=by
    intro n ob
    induction n with
    | zero=>rfl
    | succ n ih=>simp only[BB];rw[if_neg (by rw[hL n];simp)];exact ih
   simp only[sM,e1 L hL,e2,hL b,Bool.and_false,Bool.false_eq_true,if_false]
  have R1:Rel base ah w0 (sM ops tr S A b (λj=>(Array.replicate ops.toArray.size false).getD j false)) WS a w:=by rw[hR _ hrep];exact R0
  have hend:sM ops tr S A b (λ_=>true)=mg ops tr S (λ_=>true) ops.length:=by
   have h1:=(Tk hst hbl hf hA b (Nat.le_refl _)).2
   rw[hA,sub_self,List.replicate_zero,List.append_nil]at h1
   have up:∀d n,b+1≤n→n+d=ops.length→oL (aN tr) (λ_=>true) ops.length S.objs=oL (aN tr) (λ_=>true) n S.objs:=by
    intro d
    induction d with
    | zero=>intro n _ hd;rw[←hd];rfl
    | succ d ih=>
     intro n hn hd
     rw[ih (n+1) (by omega) (by omega)]
     have hz:(aN tr n).t=0:=by rw[←hts n (by omega)];exact h2'.rest n (by omega) (by omega)
     simp only[oL,hz]
     rw[if_neg (by decide)]
   simp only[sM,mg,Bool.and_true,decide_eq_true_eq]
   by_cases hbb:b<ops.length
   ·rw[if_pos hbb,up (ops.length-(b+1)) (b+1) (Nat.le_refl _) (by omega)]
    have h22:(aN tr b).t=2:=by rw[←hts b hbb];exact h2'.two hbb
    simp only[oL,h22]
    rw[if_pos (by decide)]
   ·have:b=ops.length:=by omega
    subst this
    rw[if_neg hbb,h1]
  have hQ2:∀au a' w',Rel base ah w0 (sM ops tr S A b (λ_=>true)) au a' w'→∃S' jk,Q .normal S'∧jW base ah V S' jk a' w':=
   λau a' w' R''=>hQ au a' w' (hend ▸ R'')
  generalize Array.replicate ops.toArray.size false=L at *
  exact NY (Q:=λe a' w'=>∃S' au,Q e S'∧jW base ah V S' au a' w') hD h2' hts hst hA hQ2 ops.toArray.size L WS a _ hrs hcl (by rw[hsz];exact hc) R1
theorem PW.acA {E:Env}{id:Nat}{ops:List Oper}{Q:Exit→St→Prop}{S:St}(own:Nat→Bool)(hD:∀t,fI P t (D t))(hm:P.follows .mixedOrders=true)
  (h:pq P D own ops ops 0 S [] λS' ts=>(rW ops ts=true∨∃b,uH ops ts b=true)∧Q .normal S'):PW P l E (.region id ops.toArray true) Q S:=by
 intro base ah V hE blk a w ⟨w0,hV,R⟩
 exact wpIn_region_any hm (acz own hD h ⟨w0,hV,R.grew (.same rfl)⟩)
end Lp
namespace Lp
open Go
open List (map_congr_left map_id)
open Option (map_some)
def PV.bU (f:PV→PV):PV→PV
 | .agg cs=>.agg (cs.map f)
 | p=>f p
theorem BD{p:PV}(h:p.isAgg=false):p.cells=[p]:=by cases p<;>first | rfl | (simp[PV.isAgg]at h)
theorem mQ{f:PV→PV}(hf:∀p,p.isAgg=false→(f p).isAgg=false)(x:PV):(x.bU f).cells=x.cells.map f:=by
 cases hx:x.isAgg with
 | true=>
  cases x<;>simp[PV.isAgg]at hx
  rfl
 | false=>
  have:x.bU f=f x:=by cases x<;>first | rfl | (simp[PV.isAgg]at hx)
  rw[this,BD hx,BD (hf x hx)]
  rfl
def lF:Nat→Nat→List Obj→PV→PV
 | 0,_,_,.aZ ..=>.dead
 | 0,_,_,.bq ..=>.dead
 | _,_,_,.gI ..=>.dead
 | d+1,n,objs,.aZ k ver=>
  match objs[k]? with
  | some o=>if decide (n≤k) && o.live && o.ver==ver then .sl o.sz (o.xs.map (PV.bU (lF d n objs))) none else .dead
  | none=>.dead
 | d+1,n,objs,.bq k ver i f=>
  match objs[k]? with
  | some o=>if decide (n≤k) && o.live && o.ver==ver && f==0 then (match o.xs[i]? with | some x=>.addr (x.bU (lF d n objs)) | none=>.dead) else .dead
  | none=>.dead
 | _,_,_,p=>p
def gq(d n:Nat)(objs:List Obj):PV→PV
 | .aZ k ver=>if k<n then .aZ k ver else lF d n objs (.aZ k ver)
 | .bq k ver i f=>if k<n then .bq k ver i f else lF d n objs (.bq k ver i f)
 | .gI k ver=>if k<n then .gI k ver else .dead
 | p=>p
def jP(d n:Nat)(objs:List Obj):PV→PV
 | .fn f a c=>.fn f (a.map (gq d n objs)) (c.map (gq d n objs))
 | .bI cs=>.bI (cs.map (gq d n objs))
 | .agg cs=>.agg (cs.map (gq d n objs))
 | p=>gq d n objs p
def fJ(d n:Nat)(objs:List Obj)(o:Obj):Obj:={ o with xs:=o.xs.map (PV.bU (gq d n objs)) }
def St.freeze (d n:Nat)(S:St):St:=⟨S.tmps.map (jP d n S.objs),(S.objs.take n).map (fJ d n S.objs)⟩
theorem Gq(d n:Nat)(objs:List Obj)(p:PV)(h:p.isAgg=false):(lF d n objs p).isAgg=false:=by
 cases d<;>cases p<;>simp only[lF]<;>first | rfl | exact h | (split<;>first | rfl | (split<;>first | rfl | (split<;>rfl)))
theorem Tm(d n:Nat)(objs:List Obj)(p:PV)(h:p.isAgg=false):(gq d n objs p).isAgg=false:=by
 cases p<;>simp only[gq]<;>first | rfl | exact h | (split<;>first | rfl | (exact Gq _ _ _ _ rfl))
section
variable {base ah:Nat→Prop}{w0:Wz}{S:St}{blk:Nat→Option Nat}{a:Act}{w:World}
theorem nR{d n k:Nat}{o':Obj}(h:(S.freeze d n).objs[k]?=some o'):k<n∧∃o,S.objs[k]?=some o∧o'=fJ d n S.objs o:=by
 simp only[St.freeze,List.getElem?_map,List.getElem?_take]at h
 split at h
 ·rename_i hk
  cases ho:S.objs[k]? with
  | none=>rw[ho]at h;simp at h
  | some o=>rw[ho]at h;exact⟨hk,o,rfl,by simpa using h.symm⟩
 ·simp at h
theorem Gr{d n b:Nat}(h:aJ S.objs blk b):aJ (S.freeze d n).objs blk b:=by
 intro k o' ho' hl
 obtain⟨_,o,ho,rfl⟩:=nR ho'
 exact h k o ho hl
theorem yC{d n b:Nat}(h:bA base S.objs blk b):bA base (S.freeze d n).objs blk b:=⟨h.1,Gr h.2⟩
theorem BF(R:Rel base ah w0 S blk a w){d n k g:Nat}{o:Obj}(hk:n≤k)(ho:S.objs[k]?=some o)(hl:o.live=true)(hg:blk k=some g):bA base (S.freeze d n).objs blk g:=by
 refine⟨R.pb g (R.objs.np k o g ho hl hg),λk' o' ho' hl'=>?_⟩
 obtain⟨hk',o1,ho1,rfl⟩:=nR ho'
 exact R.objs.Bd k k' o o1 g (by omega) ho hl ho1 hl' hg
theorem NZ(R:Rel base ah w0 S blk a w)(d' n:Nat):∀(d:Nat) (p:PV) (v:Value),aY w (bA base S.objs blk) S.objs blk p v→cu w (bA base (S.freeze d' n).objs blk) (lF d n S.objs p) v:=by
 intro d
 induction d with
 | zero=>
  intro p v h
  have hm:∀q:PV,cu w (bA base S.objs blk) q v→cu w (bA base (S.freeze d' n).objs blk) q v:=λq hq=>hq.mono (Nat.le_refl _) (λb _ h=>yC h) (λ_ _ _ h=>h)
  cases p<;>simp only[lF]<;>first | exact .dead v | exact hm _ h
 | succ d ih=>
  intro p v h
  have hm:∀q:PV,cu w (bA base S.objs blk) q v→cu w (bA base (S.freeze d' n).objs blk) q v:=λq hq=>hq.mono (Nat.le_refl _) (λb _ h=>yC h) (λ_ _ _ h=>h)
  cases p
  case aZ k ver=>
   obtain⟨_,o,ho,_,h3⟩:=h
   simp only[lF,ho]
   split
   ·rename_i hc
    simp only[Bool.and_eq_true,decide_eq_true_eq,beq_iff_eq]at hc
    obtain⟨⟨hn,hl⟩,hv⟩:=hc
    obtain⟨hM,hh⟩:=h3 hl hv
    have hb:=R.objs.ob k o ho hl
    unfold wB at hh
    unfold bE at hb
    cases hg:blk k with
    | none=>
     rw[hg]at hh
     obtain⟨rfl,hx⟩:=hh
     rw[hx]
     exact .slnil _ _ (by simp)
    | some g=>
     rw[hg]at hh hb
     obtain⟨cap,c,rfl,hc,h4,h5,h6⟩:=hh
     obtain⟨c',hc',h7,h8⟩:=hb
     rw[jG hM,hc]at hc'
     cases hc'
     have hlen:(o.xs.map (PV.bU (lF d n S.objs))).length=o.xs.length:=by simp
     rw[←hlen]
     have hel:∀(i:Nat) (x:PV),(o.xs.map (PV.bU (lF d n S.objs)))[i]?=some x→∃x0,o.xs[i]?=some x0∧x.cells=x0.cells.map (lF d n S.objs):=by
      intro i x hx
      rw[List.getElem?_map]at hx
      cases h0:o.xs[i]? with
      | none=>rw[h0]at hx;simp at hx
      | some x0=>
       rw[h0]at hx
       simp only[map_some,Option.some.injEq]at hx
       subst hx
       exact⟨x0,rfl,mQ (Gq _ _ _) x0⟩
     have hgl:g<w.heap.size:=(Array.getElem?_eq_some_iff.1 hc).1
     refine .sl _ _ _ (by simp) g 0 cap (λi j=>c.getD (i*o.sz+j) undef) (λ_=>⟨BF R hn ho hl hg,hgl⟩) (by rw[hlen];exact h4) h5 ?_ ?_ ?_
     ·intro i x hx
      obtain⟨x0,hx0,e⟩:=hel i x hx
      rw[e,List.length_map];exact (h8 i x0 hx0).1
     ·intro i x j p hx hp
      obtain⟨x0,hx0,e⟩:=hel i x hx
      rw[e,List.getElem?_map]at hp
      cases hp0:x0.cells[j]? with
      | none=>rw[hp0]at hp;simp at hp
      | some p0=>
       obtain⟨u,hu,_⟩:=(h8 i x0 hx0).2 j p0 hp0
       have:0+i*o.sz+j=i*o.sz+j:=by omega
       unfold World.cell?
       simp only[hc,this]
       rw[Array.getD_eq_getD_getElem?,hu]
       rfl
     ·intro i x j p hx hp
      obtain⟨x0,hx0,e⟩:=hel i x hx
      rw[e,List.getElem?_map]at hp
      cases hp0:x0.cells[j]? with
      | none=>rw[hp0]at hp;simp at hp
      | some p0=>
       rw[hp0]at hp
       simp only[map_some,Option.some.injEq]at hp
       subst hp
       obtain⟨u,hu,hr⟩:=(h8 i x0 hx0).2 j p0 hp0
       rw[Array.getD_eq_getD_getElem?,hu]
       exact ih p0 u hr
   ·exact .dead v
  case bq k ver i f=>
   obtain⟨_,o,ho,_,h3⟩:=h
   simp only[lF,ho]
   split
   ·rename_i hc
    simp only[Bool.and_eq_true,decide_eq_true_eq,beq_iff_eq]at hc
    obtain⟨⟨⟨hn,hl⟩,hv⟩,rfl⟩:=hc
    obtain⟨hM,g,hg,rfl⟩:=h3 hl hv
    have hb:=R.objs.ob k o ho hl
    unfold bE at hb
    rw[hg]at hb
    obtain⟨c,hc,h7,h8⟩:=hb
    rw[jG hM]at hc
    have hgl:g<w.heap.size:=(Array.getElem?_eq_some_iff.1 hc).1
    cases hx:o.xs[i]? with
    | none=>exact .dead _
    | some x0=>
     have e:=mQ (Gq d n S.objs) x0
     refine .addr _ g (i*o.sz+0) (λj=>c.getD (i*o.sz+j) undef) ⟨BF R hn ho hl hg,hgl⟩ ?_ ?_
     ·intro j p hp
      rw[e,List.getElem?_map]at hp
      cases hp0:x0.cells[j]? with
      | none=>rw[hp0]at hp;simp at hp
      | some p0=>
       obtain⟨u,hu,_⟩:=(h8 i x0 hx).2 j p0 hp0
       unfold World.cell?
       simp only[hc,Nat.add_zero]
       rw[Array.getD_eq_getD_getElem?,hu]
       rfl
     ·intro j p hp
      rw[e,List.getElem?_map]at hp
      cases hp0:x0.cells[j]? with
      | none=>rw[hp0]at hp;simp at hp
      | some p0=>
       rw[hp0]at hp
       simp only[map_some,Option.some.injEq]at hp
       subst hp
       obtain⟨u,hu,hr⟩:=(h8 i x0 hx).2 j p0 hp0
       rw[Array.getD_eq_getD_getElem?,hu]
       exact ih p0 u hr
   ·exact .dead _
  case gI k ver=>simp only[lF];exact .dead v
  all_goals (simp only[lF];exact hm _ h)
theorem qo(R:Rel base ah w0 S blk a w)(d n:Nat)(p:PV)(v:Value)(h:aY w (bA base S.objs blk) S.objs blk p v) :
  aY w (bA base (S.freeze d n).objs blk) (S.freeze d n).objs blk (gq d n S.objs p) v:=by
 have hm:∀q:PV,cu w (bA base S.objs blk) q v→cu w (bA base (S.freeze d n).objs blk) q v:=λq hq=>hq.mono (Nat.le_refl _) (λb _ h=>yC h) (λ_ _ _ h=>h)
 have hget:∀k o,k<n→S.objs[k]?=some o→(S.freeze d n).objs[k]?=some (fJ d n S.objs o):=by
  intro k o hk ho
  simp only[St.freeze,List.getElem?_map,List.getElem?_take,if_pos hk,ho,map_some]
 cases p
 case aZ k ver=>
  simp only[gq]
  split
  ·rename_i hk
   obtain⟨h0,o,ho,h2,h3⟩:=h
   refine⟨h0,_,hget k o hk ho,h2,λhl hv=>?_⟩
   obtain⟨hM,hh⟩:=h3 hl hv
   refine⟨hM,?_⟩
   unfold wB at hh ⊢
   cases hg:blk k with
   | none=>rw[hg]at hh;exact⟨hh.1,by simp[fJ,hh.2]⟩
   | some g=>rw[hg]at hh;simpa[fJ] using hh
  ·exact .aI (NZ R d n d _ v h)
 case bq k ver i f=>
  simp only[gq]
  split
  ·rename_i hk
   obtain⟨h0,o,ho,h2,h3⟩:=h
   exact⟨h0,_,hget k o hk ho,h2,h3⟩
  ·exact .aI (NZ R d n d _ v h)
 case gI k ver=>
  simp only[gq]
  split
  ·rename_i hk
   obtain⟨h0,o,ho,h2,h3⟩:=h
   exact⟨h0,_,hget k o hk ho,h2,h3⟩
  ·exact .aI (.dead v)
 all_goals (simp only[gq];exact .aI (hm _ h))
theorem yD{R R':PV→Value→Prop}{f:PV→PV}{cs:List PV}{vs:List Value}(h:bG R cs vs)(hf:∀p v,R p v→R' (f p) v):bG R' (cs.map f) vs:=by
 refine⟨by simpa using h.1,λi p v hp hv=>?_⟩
 rw[List.getElem?_map]at hp
 cases hc:cs[i]? with
 | none=>rw[hc]at hp;simp at hp
 | some p0=>
  rw[hc]at hp
  simp only[map_some,Option.some.injEq]at hp
  subst hp
  exact hf p0 v (h.2 i p0 v hc hv)
theorem Gs(R:Rel base ah w0 S blk a w)(d n:Nat)(p:PV)(v:Value)(h:aR w (bA base S.objs blk) S.objs blk p v) :
  aR w (bA base (S.freeze d n).objs blk) (S.freeze d n).objs blk (jP d n S.objs p) v:=by
 have hS:aY w (bA base S.objs blk) S.objs blk p v→aR w (bA base (S.freeze d n).objs blk) (S.freeze d n).objs blk (gq d n S.objs p) v:=λh=>.eU (qo R d n p v h)
 cases p
 case fn f a c=>
  obtain⟨va,vc,rfl,h1,h2⟩:=h
  exact⟨va,vc,rfl,yD h1 (qo R d n),yD h2 (qo R d n)⟩
 case bI cs=>obtain⟨vs,rfl,h1⟩:=h;exact⟨vs,rfl,yD h1 (qo R d n)⟩
 case agg cs=>obtain⟨vs,rfl,h1⟩:=h;exact⟨vs,rfl,yD h1 (qo R d n)⟩
 all_goals exact hS h
theorem LG{d n:Nat}{objs:List Obj}{p:PV}(h:p.qd n=true):gq d n objs p=p:=by
 cases p<;>simp only[gq]<;> (try rfl)<;> (simp only[PV.qd,decide_eq_true_eq]at h;rw[if_pos h])
theorem Fq{d n:Nat}{objs:List Obj}{cs:List PV}(h:cs.all (PV.qd n)=true):cs.map (gq d n objs)=cs:=by
 conv=>rhs;rw[←map_id cs]
 exact map_congr_left λp hp=>LG (List.all_eq_true.1 h p hp)
theorem Y3{d n:Nat}{objs:List Obj}{p:PV}(h:p.lt n=true):jP d n objs p=p:=by
 cases p<;>simp only[jP]<;>simp only[PV.lt,Bool.and_eq_true]at h
 case fn f a c=>rw[Fq h.1,Fq h.2]
 case bI cs=>rw[Fq h]
 case agg cs=>rw[Fq h]
 all_goals exact LG h
theorem Gt{n m:Nat}(h:n≤m){p:PV}(hp:p.qd n=true):p.qd m=true:=by
 cases p<;>simp only[PV.qd,decide_eq_true_eq]at hp ⊢<;>omega
theorem pJ{n m:Nat}(h:n≤m){cs:List PV}(hp:cs.all (PV.qd n)=true):cs.all (PV.qd m)=true:=by
 rw[List.all_eq_true]at hp ⊢
 exact λp hm=>Gt h (hp p hm)
theorem ou{n m:Nat}(h:n≤m){p:PV}(hp:p.lt n=true):p.lt m=true:=by
 cases p<;>simp only[PV.lt,Bool.and_eq_true]at hp ⊢
 case fn f a c=>exact⟨pJ h hp.1,pJ h hp.2⟩
 case bI cs=>exact pJ h hp
 case agg cs=>exact pJ h hp
 all_goals exact Gt h hp
theorem Rel.freeze (R:Rel base ah w0 S blk a w)(d n:Nat)(hn:w0.nx≤n):Rel base ah w0 (S.freeze d n) blk a w:=by
 refine⟨R.o7.mono (λb _ h=>⟨yC h.1,h.2⟩) (λ_ _ _ h=>h),by simpa[St.freeze] using R.Fj,λt p hp=>?_,⟨λk o' ho' hl=>?_,?_,?_⟩,R.pr,R.fr,R.gr,R.pb,λx hx=>(Y3 (d:=d) (objs:=S.objs) (ou hn (R.Ab x hx))) ▸ Gs R d n x.1 x.2 (R.ext x hx),R.Ab,R.sm,R.gl⟩
 ·simp only[St.freeze,List.getElem?_map]at hp
  cases ht:S.tmps[t]? with
  | none=>rw[ht]at hp;simp at hp
  | some p0=>
   rw[ht]at hp
   simp only[map_some,Option.some.injEq]at hp
   subst hp
   exact Gs R d n p0 _ (R.tm t p0 ht)
 ·obtain⟨hk,o,ho,rfl⟩:=nR ho'
  have hb:=R.objs.ob k o ho hl
  unfold bE at hb ⊢
  cases hg:blk k with
  | none=>rw[hg]at hb;simp[fJ,hb]
  | some g=>
   rw[hg]at hb
   obtain⟨c,hc,h7,h8⟩:=hb
   refine⟨c,hc,by simpa[fJ,fits] using h7,λi x hx=>?_⟩
   simp only[fJ,List.getElem?_map]at hx
   cases hx0:o.xs[i]? with
   | none=>rw[hx0]at hx;simp at hx
   | some x0=>
    rw[hx0]at hx
    simp only[map_some,Option.some.injEq]at hx
    subst hx
    have e:=mQ (Tm d n S.objs) x0
    refine⟨by rw[e,List.length_map];exact (h8 i x0 hx0).1,λj p hp=>?_⟩
    rw[e,List.getElem?_map]at hp
    cases hp0:x0.cells[j]? with
    | none=>rw[hp0]at hp;simp at hp
    | some p0=>
     rw[hp0]at hp
     simp only[map_some,Option.some.injEq]at hp
     subst hp
     obtain⟨u,hu,hr⟩:=(h8 i x0 hx0).2 j p0 hp0
     exact⟨u,hu,qo R d n p0 u hr⟩
 ·intro k k' o o' g hne h1 h2 h3 h4 h5
  obtain⟨_,o1,ho1,rfl⟩:=nR h1
  obtain⟨_,o2,ho2,rfl⟩:=nR h3
  exact R.objs.Bd k k' o1 o2 g hne ho1 h2 ho2 h4 h5
 ·intro k o g h1 h2 h3
  obtain⟨_,o1,ho1,rfl⟩:=nR h1
  exact R.objs.np k o1 g ho1 h2 h3
def zl:List Bool→List PV→List PV
 | _,[]=>[]
 | [],p::ps=>.dead::zl [] ps
 | true::ks,p::ps=>p::zl ks ps
 | false::ks,_::ps=>.dead::zl ks ps
theorem nS:∀(ks:List Bool) (ps:List PV),(zl ks ps).length=ps.length
 | ks,[]=>by cases ks<;>simp[zl]
 | [],_::ps=>by simp[zl,nS [] ps]
 | true::ks,p::ps=>by simp[zl,nS ks ps]
 | false::ks,p::ps=>by simp[zl,nS ks ps]
theorem Fs:∀(ks:List Bool) (ps:List PV) (t:Nat) (p:PV),(zl ks ps)[t]?=some p→p=.dead∨ps[t]?=some p
 | ks,[],_,_,h=>by cases ks<;>simp[zl]at h
 | [],q::ps,0,p,h=>by simp only[zl,List.getElem?_cons_zero,Option.some.injEq]at h;exact .inl h.symm
 | [],q::ps,t+1,p,h=>by simp only[zl,List.getElem?_cons_succ]at h ⊢;exact Fs [] ps t p h
 | true::ks,q::ps,0,p,h=>by simp only[zl,List.getElem?_cons_zero,Option.some.injEq]at h;exact .inr (by simpa using h)
 | true::ks,q::ps,t+1,p,h=>by simp only[zl,List.getElem?_cons_succ]at h ⊢;exact Fs ks ps t p h
 | false::ks,q::ps,0,p,h=>by simp only[zl,List.getElem?_cons_zero,Option.some.injEq]at h;exact .inl h.symm
 | false::ks,q::ps,t+1,p,h=>by simp only[zl,List.getElem?_cons_succ]at h ⊢;exact Fs ks ps t p h
def St.forget (ks:List Bool)(S:St):St:=⟨zl ks S.tmps,S.objs⟩
theorem aR.dead {ok:Nat→Prop}{objs:List Obj}(v:Value):aR w ok objs blk .dead v:=.aI (.dead v)
theorem Rel.forget (R:Rel base ah w0 S blk a w)(ks:List Bool):Rel base ah w0 (S.forget ks) blk a w:=by
 refine⟨R.o7,by simpa[St.forget,nS] using R.Fj,λt p hp=>?_,R.objs,R.pr,R.fr,R.gr,R.pb,R.ext,R.Ab,R.sm,R.gl⟩
 rcases Fs ks S.tmps t p hp with rfl | h
 ·exact .dead _
 ·exact R.tm t p h
def St.Kh (t ty sz:Nat)(S:St):St:=
 match S.tmps[t]? with
 | some (.sl _ [] _)=>⟨S.tmps.set t (.aZ S.objs.length 0),S.objs++[⟨ty,sz,[],true,0⟩]⟩
 | _=>S
end
theorem Weak.refl (m:Nat)(S:St):Weak m S S:=λ_ _ _ blk _ _ _ R=>⟨blk,R⟩
theorem Weak.trans {m:Nat}{S S' QM:St}(h:Weak m S S')(h':Weak m S' QM):Weak m S QM:=λbase ah w0 blk a w hm R=>let ⟨au,R'⟩:=h base ah w0 blk a w hm R;h' base ah w0 au a w hm R'
theorem Weak.freeze {m:Nat}(d n:Nat)(hn:m≤n)(S:St):Weak m S (S.freeze d n):=λ_ _ _ blk _ _ hm R=>⟨blk,R.freeze d n (Nat.le_trans hm hn)⟩
theorem Weak.forget (m:Nat)(ks:List Bool)(S:St):Weak m S (S.forget ks):=λ_ _ _ blk _ _ _ R=>⟨blk,R.forget ks⟩
def St.norm (ks:List Bool)(fz:Option (Nat×Nat))(S:St):St:=
 match fz with
 | none=>S.forget ks
 | some (d,n)=>(S.forget ks).freeze d n
def Dj(m:Nat):Option (Nat×Nat)→Prop
 | none=>True
 | some (_,n)=>m≤n
theorem Weak.norm {m:Nat}(ks:List Bool)(fz:Option (Nat×Nat))(h:Dj m fz)(S:St):Weak m S (S.norm ks fz):=by
 cases fz with
 | none=>exact .forget m ks S
 | some x=>exact (Weak.forget m ks S).trans (Weak.freeze _ _ h _)
theorem Rel.Kh {base ah:Nat→Prop}{w0:Wz}{S:St}{blk:Nat→Option Nat}{a:Act}{w:World}(R:Rel base ah w0 S blk a w){t sz ty:Nat}{sz':Nat}(h:S.tmps[t]?=some (.sl sz' [] (some true)))(hM:ty≠MT) :
  Rel base ah w0 ⟨S.tmps.set t (.aZ S.objs.length 0),S.objs++[⟨ty,sz,[],true,0⟩]⟩ (aD blk S.objs.length none) a w:=by
 have h1:=R.Da (o1:=⟨ty,sz,[],true,0⟩) (gb:=none) (kD.refl w) (λg hg=>by cases hg) λ_=>by
  unfold bE aD
  rw[if_pos rfl]
 refine⟨h1.o7,by simpa using h1.Fj,λt' p hp=>?_,h1.objs,h1.pr,h1.fr,h1.gr,h1.pb,h1.ext,h1.Ab,h1.sm,h1.gl⟩
 simp only[List.getElem?_set]at hp
 split at hp
 ·rename_i ht
  subst ht
  split at hp
  ·cases hp
   have hx:=R.tm t _ h
   have hx':cu w (bA base S.objs blk) (.sl sz' [] (some true)) (a.tmps.getD t undef):=hx
   generalize hv:a.tmps.getD t undef=v at hx'
   cases hx' with
   | slnil _ _ _=>
    refine⟨rfl,⟨ty,sz,[],true,0⟩,YZ _ _,Nat.le_refl _,λ_ _=>⟨hM,?_⟩⟩
    unfold wB aD
    rw[if_pos rfl]
    exact⟨rfl,rfl⟩
   | FZ _ _ hq=>exact absurd rfl hq
   | sl _ _ _ hq=>exact absurd rfl hq
  ·cases hp
 ·exact h1.tm t' p hp
theorem Weak.Kh {m:Nat}{tm:List PV}{objs:List Obj}(t ty sz:Nat){sz':Nat}(h:tm[t]?=some (.sl sz' [] (some true)))(hM:ty≠MT:=by decide) :
  Weak m ⟨tm,objs⟩ ⟨tm.set t (.aZ objs.length 0),objs++[⟨ty,sz,[],true,0⟩]⟩:=
 λ_ _ _ _ _ _ _ R=>⟨_,Rel.Kh (S:=⟨tm,objs⟩) R h hM⟩
def bJ(objs:List Obj):Prop:=∀o∈objs,∀x∈o.xs,∀c∈x.cells,c.qd objs.length=true
theorem N7{f:PV→PV}{x:PV}(h:∀c∈x.cells,f c=c):x.bU f=x:=by
 cases x<;>simp only[PV.bU]<;>simp only[PV.cells]at h
 case agg cs=>congr 1;conv=>rhs;rw[←map_id cs]
              exact map_congr_left λc hc=>h c hc
 all_goals exact h _ List.mem_cons_self
theorem Y4{d:Nat}{objs ai:List Obj}(h:bJ objs):objs.map (fJ d objs.length ai)=objs:=by
 conv=>rhs;rw[←map_id objs]
 refine map_congr_left λo ho=>?_
 have hx:o.xs.map (PV.bU (gq d objs.length ai))=o.xs:=by
  conv=>rhs;rw[←map_id o.xs]
  exact map_congr_left λx hx=>N7 λc hc=>LG (h o ho x hx c hc)
 simp only[fJ,hx,id]
end Lp
namespace Lp
open Go
def iF(x:Go.Obj):Prop:=(∃c t y,x=.cells c t y)∨(∃es n,x=.map es n)∨∃a b c d,x=.mapIter a b c d
theorem uI(ty:TypeId)(sz:Nat)(c:Array Value):iF (nD ty sz c):=by
 unfold nD
 split
 ·split
  ·exact .inr (.inl ⟨_,_,rfl⟩)
  ·exact .inr (.inr ⟨_,_,_,_,rfl⟩)
 ·exact .inl ⟨_,_,_,rfl⟩
def PV.Ep (n:Nat):PV→Bool
 | .aZ k _=>decide (n≤k)
 | .bq k _ _ _=>decide (n≤k)
 | .gI k _=>decide (n≤k)
 | _=>true
def PV.ge (n:Nat):PV→Bool
 | .fn _ a c=>a.all (PV.Ep n) && c.all (PV.Ep n)
 | .bI cs | .agg cs=>cs.all (PV.Ep n)
 | p=>p.Ep n
theorem kH{p:PV}{n:Nat}(h:p.ref=false):p.Ep n=true:=by
 cases p<;>first | rfl | (simp[PV.ref]at h)
theorem Tn{p:PV}{n:Nat}(h:p.pure=true):p.ge n=true:=by
 have hS:∀p:PV,(!p.ref)=true→p.Ep n=true:=λp h=>kH (by simpa using h)
 cases p<;>simp only[PV.pure,Bool.and_eq_true,List.all_eq_true]at h<;>simp only[PV.ge,Bool.and_eq_true,List.all_eq_true]<;>first
  | rfl
  | exact⟨λq hq=>hS q (h.1 q hq),λq hq=>hS q (h.2 q hq)⟩
  | exact λq hq=>hS q (h q hq)
  | cases h
def Y5(n:Nat)(X:List Obj):Prop:=∀o∈X,∀x∈o.xs,∀p∈x.cells,p.Ep n=true
def wR:Act:={ tmps:=#[],defers:=[] }
structure uJ (ah:Nat→Prop) (z:Wz) (H:Array Go.Obj):Prop where
 at':∀b,ah b→b<z.heap.size∧H[b]?=z.heap[b]?
 le:z.heap.size≤H.size
 gl:Qu ah z
def hbase(base:Nat→Prop)(objs:List Obj)(blk:Nat→Option Nat)(n:Nat)(b:Nat):Prop:=
 base b∧∀k o,n≤k→objs[k]?=some o→o.live=true→blk k≠some b
def zN(objs:List Obj)(blk:Nat→Option Nat)(n:Nat)(w:World)(b:Nat):Prop:=b<w.heap.size∧aJ (objs.take n) blk b
section
variable {base ah:Nat→Prop}{w0:Wz}{S:St}{blk:Nat→Option Nat}{a:Act}{w:World}
theorem LH{ok:Nat→Prop}{objs:List Obj}{p:PV}{v:Value}(h:aY w ok objs blk p v):p.qd objs.length=true:=by
 cases p<;>simp only[PV.qd,decide_eq_true_eq]<;> (obtain⟨_,o,ho,_⟩:=h;exact (List.getElem?_eq_some_iff.1 ho).1)
theorem Fu{ok:Nat→Prop}{objs:List Obj}{cs:List PV}{vs:List Value}(h:bG (aY w ok objs blk) cs vs):cs.all (PV.qd objs.length)=true:=by
 rw[List.all_eq_true]
 intro p hp
 obtain⟨i,hi,rfl⟩:=List.mem_iff_getElem.1 hp
 exact LH (h.2 i cs[i] (vs[i]'(by rw[←h.1];exact hi)) (List.getElem?_eq_getElem hi) (List.getElem?_eq_getElem _))
theorem uK{ok:Nat→Prop}{objs:List Obj}{p:PV}{v:Value}(h:aR w ok objs blk p v):p.lt objs.length=true:=by
 have hS:aY w ok objs blk p v→p.qd objs.length=true:=LH
 cases p
 case fn f a c=>obtain⟨va,vc,rfl,h1,h2⟩:=h;simp only[PV.lt,Fu h1,Fu h2,Bool.and_self]
 case bI cs=>obtain⟨vs,rfl,h1⟩:=h;exact Fu h1
 case agg cs=>obtain⟨vs,rfl,h1⟩:=h;exact Fu h1
 all_goals exact hS h
theorem d_{objs:List Obj}{n k:Nat}{o:Obj}(h:(objs.take n)[k]?=some o):k<n∧objs[k]?=some o:=by
 rw[List.getElem?_take]at h
 split at h
 ·rename_i hk;exact⟨hk,h⟩
 ·cases h
theorem Gu{objs:List Obj}{n k:Nat}{o:Obj}(hk:k<n)(h:objs[k]?=some o):(objs.take n)[k]?=some o:=by
 rw[List.getElem?_take,if_pos hk];exact h
theorem nT{ok ok':Nat→Prop}{objs:List Obj}{n:Nat}{p:PV}{v:Value}(hp:p.qd n=true)(hok:∀b,ok b→ok' b)(h:aY w ok objs blk p v):aY w ok' (objs.take n) blk p v:=by
 cases p with
 | aZ k ver=>
  obtain⟨h0,o,h1,h2⟩:=h
  exact⟨h0,o,Gu (by simpa[PV.qd] using hp) h1,h2⟩
 | bq k ver i f=>
  obtain⟨h0,o,h1,h2⟩:=h
  exact⟨h0,o,Gu (by simpa[PV.qd] using hp) h1,h2⟩
 | gI k ver=>
  obtain⟨h0,o,h1,h2⟩:=h
  exact⟨h0,o,Gu (by simpa[PV.qd] using hp) h1,h2⟩
 | _=>exact cu.mono h (Nat.le_refl _) (λb _ h=>hok b h) (λ_ _ _ h=>h)
theorem Ki{ok ok':Nat→Prop}{objs:List Obj}{n:Nat}{p:PV}{v:Value}(hp:p.lt n=true)(hok:∀b,ok b→ok' b)(h:aR w ok objs blk p v):aR w ok' (objs.take n) blk p v:=by
 have hl:∀(cs:List PV) (vs:List Value),cs.all (PV.qd n)=true→bG (aY w ok objs blk) cs vs→bG (aY w ok' (objs.take n) blk) cs vs:=
  λcs vs hc h=>⟨h.1,λi p u h1 h2=>nT (List.all_eq_true.1 hc p (List.mem_of_getElem? h1)) hok (h.2 i p u h1 h2)⟩
 cases p with
 | fn f a c=>
  simp only[PV.lt,Bool.and_eq_true]at hp
  obtain⟨va,vc,rfl,h1,h2⟩:=h
  exact⟨va,vc,rfl,hl _ _ hp.1 h1,hl _ _ hp.2 h2⟩
 | bI cs=>obtain⟨us,rfl,h1⟩:=h;exact⟨us,rfl,hl _ _ hp h1⟩
 | agg cs=>obtain⟨us,rfl,h1⟩:=h;exact⟨us,rfl,hl _ _ hp h1⟩
 | aZ k ver=>exact nT (p:=.aZ k ver) hp hok h
 | bq k ver i f=>exact nT (w:=w) (p:=.bq k ver i f) hp hok h
 | gI k ver=>exact nT (w:=w) (p:=.gI k ver) hp hok h
 | _=>exact .eU (nT rfl hok (by exact h))
theorem Rel.hide (R:Rel base ah w0 S blk a w){n:Nat}{z:Wz}(hxs:∀x∈z.xs,x∈w0.xs∧x.1.lt z.nx=true∧x.1.lt n=true)(hsm:Sm z.out w)(hcl:∀o∈S.objs.take n,o.live=true→∀x∈o.xs,∀p∈x.cells,p.qd n=true) :
  Rel (hbase base S.objs blk n) (zN S.objs blk n w) ⟨w.heap,z.xs,z.nx,z.out⟩ ⟨[],S.objs.take n⟩ blk wR w:=by
 have hok:∀b,bA base S.objs blk b→bA (hbase base S.objs blk n) (S.objs.take n) blk b:=λb h=>
  ⟨⟨h.1,λk o _ h1 h2=>h.2 k o h1 h2⟩,λk o h1 h2=>h.2 k o (d_ h1).2 h2⟩
 have abh:∀b,ah b→zN S.objs blk n w b:=λb hb=>
  ⟨Nat.lt_of_lt_of_le (R.pr b hb) R.gr,λk o h1 h2 h3=>R.objs.np k o b (d_ h1).2 h2 h3 hb⟩
 refine⟨.nil _ _,rfl,λt p hp=>by simp at hp,⟨λk o h1 h2=>?_,λk k' o o' g hne h1 h2 h3 h4=>R.objs.Bd k k' o o' g hne (d_ h1).2 h2 (d_ h3).2 h4,λk o g h1 h2 h3 h4=>h4.2 k o h1 h2 h3⟩,
  λb hb=>hb.1,λ_ _=>rfl,Nat.le_refl _,λb hb=>?_,λx hx=>?_,λx hx=>(hxs x hx).2.1,hsm,R.lu,λb hb=>abh b (R.gl.2 b hb)⟩
 ·obtain⟨hk,h1'⟩:=d_ h1
  have hh:=R.objs.ob k o h1' h2
  unfold bE at hh ⊢
  cases hg:blk k with
  | none=>rw[hg]at hh;exact hh
  | some g=>
   rw[hg]at hh
   obtain⟨c,x1,x2,x3⟩:=hh
   refine⟨c,x1,x2,λi x hx=>⟨(x3 i x hx).1,λj p hp=>?_⟩⟩
   obtain⟨v,y1,y2⟩:=(x3 i x hx).2 j p hp
   exact⟨v,y1,nT (hcl o (List.mem_of_getElem? h1) h2 x (List.mem_of_getElem? hx) p (List.mem_of_getElem? hp)) hok y2⟩
 ·by_cases hs:b<w.heap.size
  ·have:¬ aJ (S.objs.take n) blk b:=λh=>hb ⟨hs,h⟩
   unfold aJ at this
   simp only[Classical.not_forall]at this
   obtain⟨k,o,h1,h2,h3⟩:=this
   have h3:blk k=some b:=by
    cases hbk:blk k with
    | none=>exact absurd (by simp[hbk]) h3
    | some g=>rw[hbk]at h3;simpa using h3
   obtain⟨hk,h1⟩:=d_ h1
   refine⟨R.pb b (R.objs.np k o b h1 h2 h3),λk' o' hk' h1' h2' h3'=>R.objs.Bd k k' o o' b (by omega) h1 h2 h1' h2' h3 h3'⟩
  ·refine⟨R.bs b (by have:=R.gr;omega),λk o _ h1 h2 h3=>?_⟩
   have:=uw R.objs h1 h2 h3
   omega
 ·exact Ki (hxs x hx).2.2 hok (R.ext x (hxs x hx).1)
theorem Rel.acB (R:Rel base ah w0 S blk a w){n:Nat}(hx:w0.nx≤n)(hcl:∀o∈S.objs.take n,o.live=true→∀x∈o.xs,∀p∈x.cells,p.qd n=true):Rel base ah w0 ⟨[],S.objs.take n⟩ blk wR w:=by
 have hok:∀b,bA base S.objs blk b→bA base (S.objs.take n) blk b:=λb h=>⟨h.1,λk o h1 h2=>h.2 k o (d_ h1).2 h2⟩
 refine⟨.nil _ _,rfl,λt p hp=>by simp at hp,⟨λk o h1 h2=>?_,λk k' o o' g hne h1 h2 h3 h4=>R.objs.Bd k k' o o' g hne (d_ h1).2 h2 (d_ h3).2 h4,λk o g h1 h2 h3=>R.objs.np k o g (d_ h1).2 h2 h3⟩,
  R.pr,R.fr,R.gr,R.pb,λx hx'=>Ki (ou hx (R.Ab x hx')) hok (R.ext x hx'),R.Ab,R.sm,R.gl⟩
 obtain⟨hk,h1'⟩:=d_ h1
 have hh:=R.objs.ob k o h1' h2
 unfold bE at hh ⊢
 cases hg:blk k with
 | none=>rw[hg]at hh;exact hh
 | some g=>
  rw[hg]at hh
  obtain⟨c,x1,x2,x3⟩:=hh
  refine⟨c,x1,x2,λi x hx=>⟨(x3 i x hx).1,λj p hp=>?_⟩⟩
  obtain⟨v,y1,y2⟩:=(x3 i x hx).2 j p hp
  exact⟨v,y1,nT (hcl o (List.mem_of_getElem? h1) h2 x (List.mem_of_getElem? hx) p (List.mem_of_getElem? hp)) hok y2⟩
def sN(m:Nat)(au blk:Nat→Option Nat)(k:Nat):Option Nat:=if k<m then au k else blk k
theorem Rel.WT {n:Nat}{ex:Nat→Prop}{H':Array Go.Obj}{zn wn:Wz}{O':List Obj}{au:Nat→Option Nat}{w':World}(R:Rel base ah w0 S blk a w)
  (R':Rel (hbase base S.objs blk n) (zN S.objs blk n w) ⟨H',zn.xs,zn.nx,zn.out⟩ ⟨[],O'⟩ au wR w')
  (hs:H'.size=w.heap.size) (hy:∀b,¬ ex b→H'[b]?=w.heap[b]?) (hyl:∀b,ex b→∃r,w.heap[b]?=some (.loop r)) (hO:O'.length=n∨S.objs.length=n)
  (QN:∀p∈S.tmps,p.ge n=true) (hX:Y5 n (S.objs.drop n))
  (hpr:∀b,ah b→b<wn.heap.size∧w'.heap[b]?=wn.heap[b]?) (hgr:wn.heap.size≤w'.heap.size)
  (hxs:∀x∈wn.xs,(x∈zn.xs∧zn.nx≤wn.nx)∨(x∈w0.xs∧w0.nx≤wn.nx∧x.1.ge n=true)) (hsm:Sm wn.out w') (hgl:Qu ah wn) :
  Rel base ah wn ⟨S.tmps,O'++S.objs.drop n⟩ (sN O'.length au blk) a w':=by
 have hsz:w.heap.size≤w'.heap.size:=by have:=R'.gr;rw[←hs];exact this
 have hfr:∀b,b<w.heap.size→aJ (S.objs.take n) blk b→¬ ex b→w'.heap[b]?=w.heap[b]?:=λb h1 h2 h3=>(R'.fr b ⟨h1,h2⟩).trans (hy b h3)
 have acC:∀b,b<w.heap.size→aJ (S.objs.take n) blk b→aJ O' au b:=λb h1 h2 k o h3 h4 h5=>R'.objs.np k o b h3 h4 h5 ⟨h1,h2⟩
 have hnt:∀b,aJ S.objs blk b→aJ (S.objs.take n) blk b:=λb h k o h1 h2=>h k o (d_ h1).2 h2
 have hlen:∀k o,n≤k→S.objs[k]?=some o→O'.length=n:=λk o hk h1=>by
  rcases hO with h | h
  ·exact h
  ·have:=(List.getElem?_eq_some_iff.1 h1).1;omega
 have hget:∀(k:Nat) (o:Obj),(O'++S.objs.drop n)[k]?=some o→(k<O'.length∧O'[k]?=some o∧sN O'.length au blk k=au k)∨(O'.length≤k∧O'.length=n∧S.objs[k]?=some o∧sN O'.length au blk k=blk k):=by
  intro k o h
  rw[List.getElem?_append]at h
  split at h
  ·rename_i hk;exact .inl ⟨hk,h,if_pos hk⟩
  ·rename_i hk
   rw[List.getElem?_drop]at h
   have e:=hlen _ o (by omega) h
   exact .inr ⟨by omega,e,by rw[show k=n+(k-O'.length) by omega];exact h,if_neg hk⟩
 have hold:∀(k:Nat) (o:Obj),n≤k→S.objs[k]?=some o→(O'++S.objs.drop n)[k]?=some o∧sN O'.length au blk k=blk k:=by
  intro k o hk h
  have e:=hlen k o hk h
  refine⟨?_,if_neg (by omega)⟩
  rw[List.getElem?_append,if_neg (by omega),List.getElem?_drop,show n+(k-O'.length)=k by omega];exact h
 have acD:∀b,aJ O' au b→(∀k o,n≤k→S.objs[k]?=some o→o.live=true→blk k≠some b)→aJ (O'++S.objs.drop n) (sN O'.length au blk) b:=by
  intro b h1 h2 k o hk hl he
  rcases hget k o hk with ⟨_,h3,h4⟩ | ⟨_,e,h3,h4⟩
  ·rw[h4]at he;exact h1 k o h3 hl he
  ·rw[h4]at he;exact h2 k o (by omega) h3 hl he
 have hok:∀b,b<w.heap.size→bA base S.objs blk b→bA base (O'++S.objs.drop n) (sN O'.length au blk) b:=λb h1 h2=>
  ⟨h2.1,acD b (acC b h1 (hnt b h2.2)) λk o _ h3 h4=>h2.2 k o h3 h4⟩
 have ad1:∀b,bA (hbase base S.objs blk n) O' au b→bA base (O'++S.objs.drop n) (sN O'.length au blk) b:=λb h=>⟨h.1.1,acD b h.2 h.1.2⟩
 have hblk:∀(k:Nat) (o:Obj) (g:Nat),n≤k→S.objs[k]?=some o→o.live=true→blk k=some g→w'.heap[g]?=w.heap[g]?:=by
  intro k o g hk h1 h2 h3
  refine hfr g (uw R.objs h1 h2 h3) (λk' o' h1' h2' h3'=>R.objs.Bd k' k o' o g (by have:=(d_ h1').1;omega) (d_ h1').2 h2' h1 h2 h3' h3) ?_
  intro hex
  obtain⟨r,hyl⟩:=hyl g hex
  have hh:=R.objs.ob k o h1 h2
  unfold bE at hh
  rw[h3]at hh
  obtain⟨c,x1,_⟩:=hh
  rw[hyl]at x1
  rcases uI o.ty o.sz c with ⟨_,_,_,h⟩ | ⟨_,_,h⟩ | ⟨_,_,_,_,h⟩<;>rw[h]at x1<;>cases x1
 have Kj:∀{p:PV}{v:Value},p.Ep n=true→aY w (bA base S.objs blk) S.objs blk p v→aY w' (bA base (O'++S.objs.drop n) (sN O'.length au blk)) (O'++S.objs.drop n) (sN O'.length au blk) p v:=by
  intro p v hp h
  cases p with
  | aZ k ver=>
   have hk:n≤k:=by simpa[PV.Ep] using hp
   obtain⟨h0,o,h1,h2,h3⟩:=h
   obtain⟨g1,g2⟩:=hold k o hk h1
   refine⟨h0,o,g1,h2,λhl hv=>?_⟩
   obtain⟨q1,q2⟩:=h3 hl hv
   refine⟨q1,?_⟩
   unfold wB at q2 ⊢
   rw[g2]
   cases hb:blk k with
   | none=>rw[hb]at q2;exact q2
   | some g=>
    rw[hb]at q2
    obtain⟨cap,c,x1,x2,x3⟩:=q2
    exact⟨cap,c,x1,(hblk k o g hk h1 hl hb).trans x2,x3⟩
  | bq k ver i f=>
   have hk:n≤k:=by simpa[PV.Ep] using hp
   obtain⟨h0,o,h1,h2,h3⟩:=h
   obtain⟨g1,g2⟩:=hold k o hk h1
   exact⟨h0,o,g1,h2,λhl hv=>by rw[g2];exact h3 hl hv⟩
  | gI k ver=>
   have hk:n≤k:=by simpa[PV.Ep] using hp
   obtain⟨h0,o,h1,h2,h3⟩:=h
   obtain⟨g1,g2⟩:=hold k o hk h1
   exact⟨h0,o,g1,h2,λhl hv=>by rw[g2];exact h3 hl hv⟩
  | _=>
   refine cu.qV h hsz hok λb x hb hx hc=>?_
   have hlt:=(Array.getElem?_eq_some_iff.1 hx).1
   rw[hfr b hlt (hnt b hb.2) (λe=>by obtain⟨r,hyl⟩:=hyl b e;obtain⟨_,_,_,rfl⟩:=hc;rw[hyl]at hx;cases hx)]
   exact hx
 have aar:∀{p:PV}{v:Value},p.ge n=true→aR w (bA base S.objs blk) S.objs blk p v→aR w' (bA base (O'++S.objs.drop n) (sN O'.length au blk)) (O'++S.objs.drop n) (sN O'.length au blk) p v:=by
  intro p v hp h
  have hl:∀(cs:List PV) (vs:List Value),cs.all (PV.Ep n)=true→bG (aY w (bA base S.objs blk) S.objs blk) cs vs→bG (aY w' (bA base (O'++S.objs.drop n) (sN O'.length au blk)) (O'++S.objs.drop n) (sN O'.length au blk)) cs vs:=
   λcs vs hc h=>⟨h.1,λi p u h1 h2=>Kj (List.all_eq_true.1 hc p (List.mem_of_getElem? h1)) (h.2 i p u h1 h2)⟩
  cases p with
  | fn f a c=>
   simp only[PV.ge,Bool.and_eq_true]at hp
   obtain⟨va,vc,rfl,h1,h2⟩:=h
   exact⟨va,vc,rfl,hl _ _ hp.1 h1,hl _ _ hp.2 h2⟩
  | bI cs=>obtain⟨us,rfl,h1⟩:=h;exact⟨us,rfl,hl _ _ hp h1⟩
  | agg cs=>obtain⟨us,rfl,h1⟩:=h;exact⟨us,rfl,hl _ _ hp h1⟩
  | aZ k ver=>exact Kj (p:=.aZ k ver) hp h
  | bq k ver i f=>exact Kj (p:=.bq k ver i f) hp h
  | gI k ver=>exact Kj (p:=.gI k ver) hp h
  | _=>exact .eU (Kj rfl (by exact h))
 have UN:∀{p:PV}{v:Value},aY w' (bA (hbase base S.objs blk n) O' au) O' au p v→aY w' (bA base (O'++S.objs.drop n) (sN O'.length au blk)) (O'++S.objs.drop n) (sN O'.length au blk) p v:=by
  intro p v h
  have hnew:∀(k:Nat) (o:Obj),O'[k]?=some o→(O'++S.objs.drop n)[k]?=some o∧sN O'.length au blk k=au k:=λk o h=>by
   have hk:=(List.getElem?_eq_some_iff.1 h).1
   exact⟨by rw[List.getElem?_append,if_pos hk];exact h,if_pos hk⟩
  cases p with
  | aZ k ver=>
   obtain⟨h0,o,h1,h2,h3⟩:=h
   obtain⟨g1,g2⟩:=hnew k o h1
   refine⟨h0,o,g1,h2,λhl hv=>?_⟩
   obtain⟨q1,q2⟩:=h3 hl hv
   refine⟨q1,?_⟩
   unfold wB at q2 ⊢
   rw[g2];exact q2
  | bq k ver i f=>
   obtain⟨h0,o,h1,h2,h3⟩:=h
   obtain⟨g1,g2⟩:=hnew k o h1
   exact⟨h0,o,g1,h2,λhl hv=>by rw[g2];exact h3 hl hv⟩
  | gI k ver=>
   obtain⟨h0,o,h1,h2,h3⟩:=h
   obtain⟨g1,g2⟩:=hnew k o h1
   exact⟨h0,o,g1,h2,λhl hv=>by rw[g2];exact h3 hl hv⟩
  | _=>exact cu.mono h (Nat.le_refl _) (λb _ h=>ad1 b h) (λ_ _ _ h=>h)
 have ad2:∀{p:PV}{v:Value},aR w' (bA (hbase base S.objs blk n) O' au) O' au p v→aR w' (bA base (O'++S.objs.drop n) (sN O'.length au blk)) (O'++S.objs.drop n) (sN O'.length au blk) p v:=by
  intro p v h
  have hl:∀(cs:List PV) (vs:List Value),bG (aY w' (bA (hbase base S.objs blk n) O' au) O' au) cs vs→bG (aY w' (bA base (O'++S.objs.drop n) (sN O'.length au blk)) (O'++S.objs.drop n) (sN O'.length au blk)) cs vs:=
   λcs vs h=>h.mono λ_ _ h=>UN h
  cases p with
  | fn f a c=>obtain⟨va,vc,rfl,h1,h2⟩:=h;exact⟨va,vc,rfl,hl _ _ h1,hl _ _ h2⟩
  | bI cs=>obtain⟨us,rfl,h1⟩:=h;exact⟨us,rfl,hl _ _ h1⟩
  | agg cs=>obtain⟨us,rfl,h1⟩:=h;exact⟨us,rfl,hl _ _ h1⟩
  | aZ k ver=>exact UN (p:=.aZ k ver) h
  | bq k ver i f=>exact UN (p:=.bq k ver i f) h
  | gI k ver=>exact UN (p:=.gI k ver) h
  | _=>exact .eU (UN (by exact h))
 have hpp:∀b,ah b→zN S.objs blk n w b:=λb hb=>
  ⟨Nat.lt_of_lt_of_le (R.pr b hb) R.gr,λk o h1 h2 h3=>R.objs.np k o b (d_ h1).2 h2 h3 hb⟩
 refine⟨?_,R.Fj,λt p hp=>aar (QN p (List.mem_of_getElem? hp)) (R.tm t p hp),⟨λk o h1 h2=>?_,λk k' o o' g hne h1 h2 h3 h4 h5 h6=>?_,λk o g h1 h2 h3 h4=>?_⟩,
  λb hb=>(hpr b hb).1,λb hb=>(hpr b hb).2,hgr,R.pb,λx hx=>?_,λx hx=>?_,hsm,hgl⟩
 ·obtain⟨Ds,h1,h2,h3⟩:=R.o7
  refine⟨Ds,h1,h2,λb hb=>?_⟩
  obtain⟨q1,q2,q3⟩:=h3 b hb
  have hlt:=(Array.getElem?_eq_some_iff.1 q1).1
  refine⟨?_,hok b hlt q2,q3⟩
  rw[hfr b hlt (hnt b q2.2) (λe=>by obtain⟨r,hyl⟩:=hyl b e;rw[hyl]at q1;cases q1)]
  exact q1
 ·rcases hget k o h1 with ⟨_,h3,h4⟩ | ⟨hk,e,h3,h4⟩
  ·have hh:=R'.objs.ob k o h3 h2
   unfold bE at hh ⊢
   rw[h4]
   cases hg:au k with
   | none=>rw[hg]at hh;exact hh
   | some g=>
    rw[hg]at hh
    obtain⟨c,x1,x2,x3⟩:=hh
    refine⟨c,x1,x2,λi x hx=>⟨(x3 i x hx).1,λj p hp=>?_⟩⟩
    obtain⟨v,y1,y2⟩:=(x3 i x hx).2 j p hp
    exact⟨v,y1,UN y2⟩
  ·have hh:=R.objs.ob k o h3 h2
   unfold bE at hh ⊢
   rw[h4]
   cases hg:blk k with
   | none=>rw[hg]at hh;exact hh
   | some g=>
    rw[hg]at hh
    obtain⟨c,x1,x2,x3⟩:=hh
    refine⟨c,(hblk k o g (by omega) h3 h2 hg).trans x1,x2,λi x hx=>⟨(x3 i x hx).1,λj p hp=>?_⟩⟩
    obtain⟨v,y1,y2⟩:=(x3 i x hx).2 j p hp
    refine⟨v,y1,Kj (hX o ?_ x (List.mem_of_getElem? hx) p (List.mem_of_getElem? hp)) y2⟩
    refine List.mem_iff_getElem?.2 ⟨k-n,?_⟩
    rw[List.getElem?_drop,show n+(k-n)=k by omega];exact h3
 ·have cross:∀(k k':Nat) (o o':Obj),O'[k]?=some o→o.live=true→n≤k'→S.objs[k']?=some o'→o'.live=true→au k=some g→blk k'=some g→False:=by
    intro k k' o o' h1 h2 hk' h3 h4 h5 h6
    have hlt:=uw R.objs h3 h4 h6
    exact acC g hlt (λj oj g1 g2 g3=>R.objs.Bd j k' oj o' g (by have:=(d_ g1).1;omega) (d_ g1).2 g2 h3 h4 g3 h6) k o h1 h2 h5
  rcases hget k o h1 with ⟨_,a1,a2⟩ | ⟨a0,ae,a1,a2⟩<;>rcases hget k' o' h3 with ⟨_,b1,b2⟩ | ⟨b0,be,b1,b2⟩<;>rw[a2]at h5<;>rw[b2]at h6
  ·exact R'.objs.Bd k k' o o' g hne a1 h2 b1 h4 h5 h6
  ·exact cross k k' o o' a1 h2 (by omega) b1 h4 h5 h6
  ·exact cross k' k o' o b1 h4 (by omega) a1 h2 h6 h5
  ·exact R.objs.Bd k k' o o' g hne a1 h2 b1 h4 h5 h6
 ·rcases hget k o h1 with ⟨_,a1,a2⟩ | ⟨_,_,a1,a2⟩<;>rw[a2]at h3
  ·exact R'.objs.np k o g a1 h2 h3 (hpp g h4)
  ·exact R.objs.np k o g a1 h2 h3 h4
 ·rcases hxs x hx with ⟨h1,_⟩ | ⟨h1,_,h2⟩
  ·exact ad2 (R'.ext x h1)
  ·exact aar h2 (R.ext x h1)
 ·rcases hxs x hx with ⟨h1,h2⟩ | ⟨h1,h2,_⟩
  ·exact ou h2 (R'.Ab x h1)
  ·exact ou h2 (R.Ab x h1)
end
end Lp
namespace Lp
open Go
open Option (getD_some map_some)
section
variable {F:Fence}{n:Nat}{P:Program}{Q:Exit→Act→World→Prop}
theorem kI{ops:List Oper}{L:Array Bool}(hs:L.size=ops.length){i:Nat} :
  i∈Region.ready .any ops.toArray L↔∃o,ops[i]?=some o∧L.getD i false=false∧∀e∈o.after.toList,Region.binds .any e=true→L.getD e.on false=true:=by
 constructor
 ·intro hm
  simp only[Region.ready,List.mem_filter,List.mem_range,Bool.and_eq_true]at hm
  obtain⟨hi,h1,h2⟩:=hm
  have hi:i<ops.length:=by simpa using hi
  have ho:ops.toArray[i]?=some ops[i]:=by simp[hi]
  rw[ho]at h2
  simp only[map_some,getD_some]at h2
  rw[Array.all_eq_true']at h2
  refine⟨ops[i],List.getElem?_eq_getElem hi,?_,λe he hb=>?_⟩
  ·have hil:i<L.size:=by omega
   rw[Array.getD_eq_getD_getElem?,Array.getElem?_eq_getElem hil,getD_some]at h1 ⊢
   simpa using h1
  ·have:=h2 e (by simpa using he)
   rw[hb]at this
   simpa using this
 ·rintro⟨o,ho',hx,hr⟩
  have hi:i<ops.length:=(List.getElem?_eq_some_iff.1 ho').1
  simp only[Region.ready,List.mem_filter,List.mem_range,Bool.and_eq_true]
  refine⟨by simpa using hi,?_,?_⟩
  ·have hil:i<L.size:=by omega
   rw[Array.getD_eq_getD_getElem?,Array.getElem?_eq_getElem hil,getD_some]at hx ⊢
   rw[hx];rfl
  ·have ho:ops.toArray[i]?=some o:=by simpa using ho'
   rw[ho]
   simp only[map_some,getD_some]
   rw[Array.all_eq_true']
   intro e he
   cases hbd:Region.binds .any e with
   | false=>simp
   | true=>rw[hr e (by simpa using he) hbd];simp
theorem wS{L:Array Bool}{i j:Nat}(hi:i<L.size):(L.setIfInBounds i true).getD j false=if j=i then true else L.getD j false:=by
 rw[Array.getD_eq_getD_getElem?,Array.getElem?_setIfInBounds]
 by_cases hij:i=j
 ·subst hij;rw[if_pos rfl,if_pos hi,if_pos rfl];rfl
 ·rw[if_neg hij,if_neg (λe=>hij e.symm),Array.getD_eq_getD_getElem?]
def Chain(ops:List Oper)(ms:List Nat)(b:Nat):Prop:=∀i,b≤i→i<ops.length→∀j,j<i→(ms.getD i 0).testBit j=true
structure Y6 (ops:List Oper) (ms:List Nat):Prop where
 back:∀(i:Nat) (o:Oper),ops[i]?=some o→∀e∈o.after.toList,Region.binds .any e=true→e.on<i
 mask:∀(i:Nat) (o:Oper),ops[i]?=some o→∀j,(ms.getD i 0).testBit j=true→∃e∈o.after.toList,Region.binds .any e=true∧(j=e.on∨(ms.getD e.on 0).testBit j=true)
def Closed(ops:List Oper)(ms:List Nat)(X:Nat→Bool):Prop:=∀j,j<ops.length→X j=true→∀x,(ms.getD j 0).testBit x=true→X x=true
theorem uM{ops:List Oper}{ms:List Nat}{X:Nat→Bool}(ho:Y6 ops ms)(hc:Closed ops ms X){i:Nat}{o:Oper}(hi:ops[i]?=some o)(hr:∀e∈o.after.toList,Region.binds .any e=true→X e.on=true)(x:Nat)
  (hx:(ms.getD i 0).testBit x=true):X x=true:=by
 obtain⟨e,h1,h2,h3⟩:=ho.mask i o hi x hx
 have he:=hr e h1 h2
 rcases h3 with rfl | h3
 ·exact he
 ·exact hc e.on (by have:=ho.back i o hi e h1 h2;have:=(List.getElem?_eq_some_iff.1 hi).1;omega) he x h3
theorem N8{ops:List Oper}{ms:List Nat}{b:Nat}(ho:Y6 ops ms)(hc:Chain ops ms b):∀(k i:Nat),b≤i→i+k=ops.length→∀(fuel:Nat) (L:Array Bool) (a:Act) (w:World),k≤fuel→L.size=ops.length→
  (∀j,L.getD j false=decide (j<i))→wpOpsIn F n P ops.toArray Q (List.range' i k) a w→wpAnyIn F n P .any ops.toArray Q fuel L a w
 | 0,i,hbi,hik,fuel,L,a,w,hf,hs,hL,h=>by
  have hr:Region.ready .any ops.toArray L=[]:=by
   cases hr:Region.ready .any ops.toArray L with
   | nil=>rfl
   | cons x xs=>
    obtain⟨o,h1,h2,_⟩:=(kI hs).1 (by rw[hr];exact List.mem_cons_self)
    rw[hL]at h2
    have:=(List.getElem?_eq_some_iff.1 h1).1
    simp only[decide_eq_false_iff_not]at h2;omega
  have hq:Q .normal a w:=by simpa[wpOpsIn] using h
  cases fuel with
  | zero=>exact⟨hr,hq⟩
  | succ fuel=>exact⟨λ_=>hq,λx hx=>by rw[hr]at hx;cases hx⟩
 | k+1,i,hbi,hik,fuel,L,a,w,hf,hs,hL,h=>by
  obtain⟨fuel,rfl⟩:∃f,fuel=f+1:=⟨fuel-1,by omega⟩
  have hi:i<ops.length:=by omega
  have hir:i∈Region.ready .any ops.toArray L:=(kI hs).2 ⟨ops[i],List.getElem?_eq_getElem hi,by rw[hL];simp,λe he hb=>by
   rw[hL];have:=ho.back i ops[i] (List.getElem?_eq_getElem hi) e he hb;simpa using this⟩
  refine⟨(λhr=>by rw[hr]at hir;cases hir),λx hx=>?_⟩
  obtain⟨o,h1,h2,h3⟩:=(kI hs).1 hx
  have hxl:=(List.getElem?_eq_some_iff.1 h1).1
  have hxi:x=i:=by
   rw[hL]at h2
   simp only[decide_eq_false_iff_not]at h2
   rcases Nat.lt_or_ge i x with hlt | hge
   ·have hcl:Closed ops ms (λj=>L.getD j false):=λj hj hjt y hy=>by
      simp only[hL]at hjt ⊢
      have hjt:=of_decide_eq_true hjt
      have hback:∀(m j:Nat),j<m→∀y,j<ops.length→(ms.getD j 0).testBit y=true→y<j:=by
       intro m
       induction m with
       | zero=>intro j hj;omega
       | succ m ih=>
        intro j hjm y hjl hy
        obtain⟨e,g1,g2,g3⟩:=ho.mask j ops[j] (List.getElem?_eq_getElem hjl) y hy
        have gb:=ho.back j ops[j] (List.getElem?_eq_getElem hjl) e g1 g2
        rcases g3 with rfl | g3
        ·exact gb
        ·have:=ih e.on (by omega) y (by omega) g3;omega
      have:=hback (j+1) j (by omega) y hj hy
      simp;omega
    have:=uM ho hcl h1 h3 i (hc x (by omega) hxl i hlt)
    simp only[hL,decide_eq_true_eq]at this;omega
   ·omega
  subst hxi
  rw[List.range'_succ,wpOpsIn_cons]at h
  refine wpOpIn_mono (λa' w' h'=>?_) h
  refine N8 ho hc k (x+1) (by omega) (by omega) fuel _ a' w' (by omega) (by simpa using hs) (λj=>?_) h'
  rw[wS (by omega),hL]
  by_cases hj:j=x
  ·simp[hj]
  ·rw[if_neg hj];congr 1;apply propext;omega
theorem Y7{ops:List Oper}{ms:List Nat}{b:Nat}(hb:b≤ops.length)(ho:Y6 ops ms)(hc:Chain ops ms b)(hg:∀i o,i<b→ops[i]?=some o→∀j want,o.guard=some (j,want)→j<b)
  {QA:Exit→Act→World→Prop}(hQe:∀e a w,e≠.normal→QA e a w→Q e a w) (hQ:∀a w,QA .normal a w→wpOpsIn F n P ops.toArray Q (List.range' b (ops.length-b)) a w) :
  ∀(fuel:Nat) (LA L:Array Bool) (a:Act) (w:World),LA.size=b→L.size=ops.length→(∀j,j<b→L.getD j false=LA.getD j false)→(∀j,b≤j→L.getD j false=false)→Closed ops ms (λj=>L.getD j false)→
   wpAnyIn F n P .any (ops.take b).toArray QA fuel LA a w→wpAnyIn F n P .any ops.toArray Q (fuel+(ops.length-b)) L a w:=by
 have hlenA:(ops.take b).length=b:=by simp;omega
 have Y8:∀i,i<b→(ops.take b)[i]?=ops[i]?:=λi hi=>by rw[List.getElem?_take,if_pos hi]
 have rdA:∀(LA L:Array Bool),LA.size=b→L.size=ops.length→(∀j,j<b→L.getD j false=LA.getD j false)→∀i,i<b→(i∈Region.ready .any (ops.take b).toArray LA↔i∈Region.ready .any ops.toArray L):=by
  intro LA L h1 h2 h3 i hi
  rw[kI (h1.trans hlenA.symm),kI h2,Y8 i hi,h3 i hi]
  constructor
  ·rintro⟨o,g1,g2,g3⟩
   exact⟨o,g1,g2,λe he hbd=>by rw[h3 e.on (by have:=ho.back i o g1 e he hbd;omega)];exact g3 e he hbd⟩
  ·rintro⟨o,g1,g2,g3⟩
   exact⟨o,g1,g2,λe he hbd=>by rw[←h3 e.on (by have:=ho.back i o g1 e he hbd;omega)];exact g3 e he hbd⟩
 have acE:∀(LA:Array Bool),LA.size=b→Region.ready .any (ops.take b).toArray LA=[]→∀i,i<b→LA.getD i false=true:=by
  intro LA hs hr i
  induction i using Nat.strongRecOn with
  | _ i ih=>
   intro hi
   cases hx:LA.getD i false with
   | true=>rfl
   | false=>
    have hil:i<ops.length:=by omega
    have:i∈Region.ready .any (ops.take b).toArray LA:=(kI (hs.trans hlenA.symm)).2 ⟨ops[i],by rw[Y8 i hi];exact List.getElem?_eq_getElem hil,hx,λe he hbd=>by
     have:=ho.back i ops[i] (List.getElem?_eq_getElem hil) e he hbd
     exact ih e.on this (by omega)⟩
    rw[hr]at this;cases this
 have WU:∀(fuel:Nat) (LA L:Array Bool) (a:Act) (w:World),LA.size=b→L.size=ops.length→(∀j,j<b→L.getD j false=LA.getD j false)→(∀j,b≤j→L.getD j false=false)→Region.ready .any (ops.take b).toArray LA=[]→
     QA .normal a w→wpAnyIn F n P .any ops.toArray Q (fuel+(ops.length-b)) L a w:=by
  intro fuel LA L a w h1 h2 h3 h4 hr hq
  refine N8 ho hc (ops.length-b) b (Nat.le_refl _) (by omega) _ L a w (by omega) h2 (λj=>?_) (hQ a w hq)
  by_cases hj:j<b
  ·rw[h3 j hj,acE LA h1 hr j hj];simp[hj]
  ·rw[h4 j (by omega)];simp[hj]
 intro fuel
 induction fuel with
 | zero=>intro LA L a w h1 h2 h3 h4 _ h;exact WU 0 LA L a w h1 h2 h3 h4 h.1 h.2
 | succ fuel ih=>
  intro LA L a w h1 h2 h3 h4 hcl h
  cases hr:Region.ready .any (ops.take b).toArray LA with
  | nil=>exact WU (fuel+1) LA L a w h1 h2 h3 h4 hr (h.1 hr)
  | cons i0 is=>
   have hi0:i0∈Region.ready .any (ops.take b).toArray LA:=by rw[hr];exact List.mem_cons_self
   have acF:i0<b:=by
    obtain⟨o,g1,_⟩:=(kI (h1.trans hlenA.symm)).1 hi0
    have:=(List.getElem?_eq_some_iff.1 g1).1;omega
   rw[show fuel+1+(ops.length-b)=(fuel+(ops.length-b))+1 by omega]
   refine⟨λhn=>?_,λi hi=>?_⟩
   ·have:=(rdA LA L h1 h2 h3 i0 acF).1 hi0
    rw[hn]at this;cases this
   ·obtain⟨o,g1,g2,g3⟩:=(kI h2).1 hi
    have hil:=(List.getElem?_eq_some_iff.1 g1).1
    have hib:i<b:=by
     rcases Nat.lt_or_ge i b with h | h
     ·exact h
     ·have:=uM ho hcl g1 g3 i0 (hc i h hil i0 (by omega))
      obtain⟨_,_,q2,_⟩:=(kI (h1.trans hlenA.symm)).1 hi0
      rw[←h3 i0 acF]at q2
      rw[q2]at this;cases this
    have hA:=h.2 i ((rdA LA L h1 h2 h3 i hib).2 hi)
    have hA:=wpOpIn_mono (K':=wpAnyIn F n P .any ops.toArray Q (fuel+(ops.length-b)) (L.setIfInBounds i true)) (λa' w' h'=>ih _ _ a' w' (by simpa using h1) (by simpa using h2) (λj hj=>by
        rw[wS (by omega),wS (by omega),h3 j hj]) (λj hj=>by rw[wS (by omega),if_neg (by omega)];exact h4 j hj) (λj hj hjt x hx=>by
        simp only[wS (show i<L.size by omega)]at hjt ⊢
        by_cases hxi:x=i
        ·simp[hxi]
        ·rw[if_neg hxi]
         by_cases hji:j=i
         ·subst hji;exact uM ho hcl g1 g3 x hx
         ·rw[if_neg hji]at hjt;exact hcl j hj hjt x hx) h') hA
    unfold wpOpIn at hA ⊢
    have e1:(ops.take b).toArray[i]?=some o:=by have:=Y8 i hib;simpa[g1] using this
    have e2:ops.toArray[i]?=some o:=by simpa using g1
    rw[e1]at hA
    rw[e2]
    simp only[]at hA ⊢
    have hw:Region.wanted o (yielded (ops.take b).toArray a.tmps)=Region.wanted o (yielded ops.toArray a.tmps):=by
     unfold Region.wanted
     cases hgu:o.guard with
     | none=>rfl
     | some jw=>
      obtain⟨j,want⟩:=jw
      have hj:=hg i o hib g1 j want hgu
      simp only[yielded]
      have:(ops.take b).toArray[j]?=ops.toArray[j]?:=by have:=Y8 j hj;simpa using this
      rw[this]
    rw[hw]at hA
    split
    ·rename_i hwt
     rw[if_pos hwt]at hA
     unfold Oper.wpIn at hA ⊢
     refine⟨hA.1,?_⟩
     have hA:=hA.2
     generalize (o.semAt F.round a.eval).run P w=r at *
     cases r with
     | ok x w'=>
      cases x<;>simp only[Oper.uponIn]at hA ⊢<;>
       first
        | exact hA
        | exact⟨hA.1,CallsIn.mono hA.2 (λe w'' he=>by cases e<;>first | exact he | exact hQe (.panic _) _ _ (λh=>by cases h) he | exact (let ⟨a,w,h⟩:=he;⟨a,w,hQe .outgrown _ _ (λh=>by cases h) h⟩))⟩
        | exact⟨hA.1,RoundIn.mono hA.2 (λe w'' he=>by cases e<;>first | exact he | exact hQe (.panic _) _ _ (λh=>by cases h) he | exact (let ⟨a,w,h⟩:=he;⟨a,w,hQe .outgrown _ _ (λh=>by cases h) h⟩))⟩
     | halt x w'=>cases x<;>simp only[Oper.uponIn]at hA ⊢<;>first | exact hA | exact hQe (.panic _) _ _ (λh=>by cases h) hA
    ·rename_i hwt
     rw[if_neg hwt]at hA
     exact hA
end
end Lp
namespace Lp
open Go
open List (all_eq_true foldl_cons mem_range)
open Bool (and_eq_true not_eq_true' or_eq_true)
structure Step where
 dst:Option Nat
 op:Op
 g:Option (Option Nat×Bool)
 own:Bool
inductive LC where
 | skip
 | ret
 | bad
 | reg (ss:List Step)
 | draw (ss:List Step) (un:List Nat)
 | N9 (b:Nat) (ss:List Step) (un:List Nat)
 | seq (a b:LC)
 | cond (c:Operand) (a b:LC)
 | block (id:Nat) (c:LC)
 | loop (ks:List Bool) (fz:Option (Nat×Nat)) (c:LC)
 | exit (id:Nat)
 | weak (c:LC)
 | rf (f:Operand) (ps:List Nat) (fz:Option (Nat×Nat)) (a b:LC)
def jl(ops:List Oper)(ms:List Nat):List Nat:=
 (List.range ops.length).map λi=>(List.range i).foldl (λu j=>if (ms.getD i 0).testBit j then u else u ||| (1 <<<j)) 0
def dB(ops:List Oper)(ms:List Nat):Bool:=
 let ls:=ops.map (f_ ops)
 let zs:=ops.map λ_=>0
 (List.range ops.length).all λi=>
  match ops[i]? with
  | none=>true
  | some o=>
   (o.after.toList.all λe=>!Region.binds .any e || decide (e.on<i)) &&
   (ms.getD i 0 &&& qj ms o==ms.getD i 0) &&
   (List.range i).all λj=>
    (ms.getD i 0).testBit j || !clash ((ops[j]?).bind (·.dst)) o.dst (ls.getD j []) (ls.getD i []) (zs.getD j 0) (zs.getD i 0)
def dV(ops:List Oper):Bool:=(List.range ops.length).all λi=>match (ops[i]?).bind (·.guard) with
 | some (j,_)=>decide (j<i)
 | none=>true
def Fv(b:Nat)(un:List Nat):Bool:=decide (b≤un.length) && (List.range un.length).all λi=>decide (i<b) || un.getD i 0==0
def lG(un ts:List Nat):Bool:=
 (List.range un.length).all λi=>co (ts.getD i 0)==0 || (List.range i).all λj=>!(un.getD i 0).testBit j || !((co (ts.getD j 0)==2 && co (ts.getD i 0) !=0) || (co (ts.getD i 0)==2 && co (ts.getD j 0) !=0))
def Ae(un ts:List Nat)(b:Nat):Bool:=
 ((List.range un.length).all λi=>if i<b then BA (ts.getD i 0) else if i=b then ts.getD i 0==2 else ts.getD i 0==0) && decide (b≤un.length) &&
 (decide (b=un.length) || (List.range b).all λj=>ts.getD j 0==0 || !(un.getD b 0).testBit j) &&
 (List.range un.length).all λi=>(List.range i).all λj=>!(un.getD i 0).testBit j || !Ad (ts.getD j 0) (ts.getD i 0)
def jq(un ts:List Nat):Bool:=lG un ts || Ae un ts (ts.findIdx (·==2))
def stepOf(ops:List Oper)(o:Oper):Step:=⟨o.dst,o.op,match o.guard with
 | none=>none
 | some (j,b)=>some ((ops[j]?).bind (·.dst),b),false⟩
def comp:Code→LC
 | .skip=>.skip
 | .ret=>.ret
 | .exit id=>.exit id
 | .region _ ops false=>.reg (ops.toList.map (stepOf ops.toList))
 | .region _ ops true=>bif dB ops.toList (masks ops.toList []) && dV ops.toList then .draw (ops.toList.map (stepOf ops.toList)) (jl ops.toList (masks ops.toList [])) else .bad
 | .seq a b=>.seq (comp a) (comp b)
 | .cond c a b=>.cond c (comp a) (comp b)
 | .block id c=>.block id (comp c)
 | .loop c=>.loop [] none (comp c)
 | .rangeFunc f ps a b=>.rf f ps.toList none (comp a) (comp b)
 | _=>.bad
def uN(s:Step):Step:={ s with own:=false }
def strip:LC→LC
 | .reg ss=>.reg (ss.map uN)
 | .draw ss un=>.draw (ss.map uN) un
 | .N9 _ ss un=>.draw (ss.map uN) un
 | .seq a b=>.seq (strip a) (strip b)
 | .cond c a b=>.cond c (strip a) (strip b)
 | .block id c=>.block id (strip c)
 | .loop _ _ c=>.loop [] none (strip c)
 | .weak c=>strip c
 | .rf f ps _ a b=>.rf f ps none (strip a) (strip b)
 | c=>c
abbrev Np:=FuncId→List PV→List Obj→KT→Prop
abbrev YT:=List PV→List Obj→(Bool→List Obj→Prop)→Prop
def jI(P:Program)(f:FuncId)(args:List PV)(objs:List Obj)(K:KT):Prop:=
 Enters P f∧
 ∀(base ah:Nat→Prop) (w0:Wz) (tmps:List PV) (blk:Nat→Option Nat) (a:Act) (w:World) (vs:List Value),Rel base ah w0 ⟨tmps,objs⟩ blk a w→
  bG (aR w (bA base objs blk) objs blk) args vs→
  Calls P f ⟨vs⟩ w λe w'=>∃v r ai au,e=.returned v∧K r ai 2∧Rel base ah w0 ⟨tmps,ai⟩ au a w'∧aR w' (bA base ai au) ai au r v
structure Know where
 fn:Np
 y:Nat
 Y:YT
 top:Bool
 gives:FuncId→List PV→List (List PV)→Prop
 nx:Nat
 rg:Bool:=true
 bb:Bool:=false
 bn:Nat:=0
 YB:YT:=λ_ _ _=>False
 gb:FuncId→List PV→List (List PV)→Prop:=λ_ _ _=>False
 ge:FuncId→List PV→List (List PV)→Prop:=λ_ _ _=>False
 fa:Np:=λ_ _ _ _=>False
def IK(ys:List (List PV))(I J:Nat→List Obj→Prop):YT:=λargs objs K=>∃i,I i objs∧ys[i]?=some args∧(∀ai,I (i+1) ai→K true ai)∧∀ai,J i ai→K false ai
def aas(T:Know)(ev:Operand→PV)(f:PV)(args:List PV)(objs:List Obj)(K:KT):Prop:=
 T.bb=true∧T.bn≤objs.length∧(∀o∈objs.take T.bn,o.live=true→∀x∈o.xs,∀p∈x.cells,p.qd T.bn=true)∧(∀t,(ev (.tmp t)).ge T.bn=true)∧Y5 T.bn (objs.drop T.bn)∧
 match f with
 | .fn g first cap=>∃bargs ys I J,first++args++cap=bargs++[.qN T.y]∧bargs.all PV.pure=true∧T.gb g bargs ys∧(∀args O K,IK ys I J args O K→T.YB args O K)∧I 0 (objs.take T.bn)∧
   (∀i O,I i O→O.length=T.bn∧bJ O)∧(∀i O,J i O→O.length=T.bn∧bJ O∧bD O)∧(∀O,I ys.length O→K (.bool true) (O++objs.drop T.bn) 2)∧∀i O,i<ys.length→J i O→K (.bool false) (O++objs.drop T.bn) 2
 | .qN l=>l=T.y∧args.all PV.pure=true∧T.YB args (objs.take T.bn) λb o=>o.length=T.bn∧K (.bool b) (o++objs.drop T.bn) 2
 | _=>False
def aat(T:Know)(f:PV)(args:List PV)(objs:List Obj)(K:KT):Prop:=
 T.rg=true∧match f with
 | .fn g first cap=>T.fa g (first++args++cap) objs K
 | _=>False
def pu(T:Know)(pt:Bool)(f:PV)(args:List PV)(objs:List Obj)(K:KT):Prop:=
 match f with
 | .fn g first cap=>T.fn g (first++args++cap) objs K
 | .qN l=>l=T.y∧pt=true∧args.all PV.pure=true∧T.Y args objs λb o=>K (.bool b) o 2
 | _=>False
def Know.QO (T:Know):Know:={ T with Y:=λ_ _ _=>False,rg:=false,bb:=false }
def Know.inner (T:Know)(n:Nat):Know:={ T with Y:=λ_ _ _=>False,nx:=n,bb:=false }
def Know.oQ (T:Know)(n:Nat):Know:={ T with Y:=λ_ _ _=>False,nx:=n }
def lg(P:Program)(D:TypeId→aC)(T:Know)(own pt:Bool)(ev:Operand→PV)(objs:List Obj)(op:Op)(K:KT):Prop:=
 match op with
 | .call { callee:=.value f,args,.. }=>bif own then aas T ev (ev f) (args.toList.map ev) objs K∨aat T (ev f) (args.toList.map ev) objs K else pu T pt (ev f) (args.toList.map ev) objs K
 | .next x false=>T.rg=true∧nextR (ev x) objs K
 | op=>II P D own ev objs op K
def wT(g:Option (Option Nat×Bool))(S:St)(X Y:St→Prop):Prop:=
 match g with
 | none=>X S
 | some (none,_)=>False
 | some (some d,want)=>
  match S.tmps.getD d .dead with
  | .bool b=>(b=want→X { S with tmps:=S.tmps.set d (.bool want) })∧(b=!want→Y { S with tmps:=S.tmps.set d (.bool !want) })
  | .bI []=>Y S
  | _=>False
def LR(P:Program)(D:TypeId→aC)(T:Know):List Step→St→List Nat→(St→List Nat→Prop)→Prop
 | [],S,ts,K=>K S ts
 | s::rest,S,ts,K=>
  wT s.g S
   (λS=>lg P D T s.own (S.tmps.all PV.pure) S.ev S.objs s.op λr ai t=>LR P D T rest (St.put ⟨S.tmps,ai⟩ s.dst r) (ts++[t]) K)
   (λS=>LR P D T rest (S.put s.dst (.bI [])) (ts++[0]) K)
def Gv(fz:Option (Nat×Nat))(I:List Obj→Prop):Exit→St→Prop
 | .normal,S=>I (S.norm [] fz).objs
 | _,_=>False
def jQ:List Nat→List PV→List PV→List PV
 | p::ps,y::ys,tm=>jQ ps ys (tm.set p y)
 | _,_,tm=>tm
def wC:Obj:=⟨0,0,[],true,0⟩
def fT(k:Nat)(O:List Obj):List Obj:=(O.set k hole).set (k+1) wC
def Gh(k:Nat)(O:List Obj):Prop:=k+2≤O.length∧bJ O∧O[k]?=some wC∧O[k+1]?=some hole
def Af:Exit→Option Code
 | .ret=>some .ret
 | .exit id=>some (.exit id)
 | _=>none
def BG(fz:Option (Nat×Nat))(I:List Obj→Prop)(lv:Exit)(J:List Obj→Prop):Exit→St→Prop
 | .normal,S=>I (S.norm [] fz).objs
 | e,S=>e=lv∧J (S.norm [] fz).objs
def iT(P:Program)(D:TypeId→aC):Know→LC→(Exit→St→Prop)→St→Prop
 | _,.skip,Q,S=>Q .normal S
 | _,.ret,Q,S=>Q .ret S
 | _,.bad,_,_=>False
 | T,.reg ss,Q,S=>LR P D T ss S [] λS' _=>Q .normal S'
 | T,.draw ss un,Q,S=>LR P D T.QO ss S [] λS' ts=>jq un ts=true∧Q .normal S'
 | T,.N9 b ss un,Q,S=>Fv b un=true∧LR P D T.QO (ss.take b) S [] λS' ts=>jq (un.take b) ts=true∧LR P D T (ss.drop b) S' [] λQM _=>Q .normal QM
 | T,.seq a b,Q,S=>iT P D T a (thenS (λS'=>iT P D T b Q S') Q) S
 | T,.cond c a b,Q,S=>zK (S.ev c) (iT P D T a Q S) (iT P D T b Q S)
 | T,.block id c,Q,S=>iT P D T c (rU id Q) S
 | T,.loop ks fz c,Q,S=>Dj T.nx fz∧∃I:Nat→St→Prop,(∃S0 m,Weak T.nx S S0∧I m S0)∧
   ∀m S,I m S→iT P D T c (thenS (λS'=>∃m',m'<m∧I m' (S'.norm ks fz)) Q) S
 | _,.exit id,Q,S=>Q (.exit id) S
 | T,.weak c,Q,S=>∃S',Weak T.nx S S'∧iT P D T c Q S'
 | T,.rf f ps fz x y,Q,S=>T.top=true∧((∃(g:FuncId) (cap:List PV) (ys:List (List PV)),
   S.ev f=.fn g [] cap∧cap.all PV.pure=true∧T.gives g cap ys∧(∀y∈ys,y.length=ps.length)∧
   ((∃I:Nat→List Obj→Prop,Dj S.objs.length fz∧I 0 S.objs∧(∀i objs,I i objs→S.objs.length≤objs.length∧bJ objs)∧
    (∀i args objs,I i objs→ys[i]?=some args→iT P D (T.inner S.objs.length) x (thenS (λS1=>iT P D (T.inner S.objs.length) y (Gv fz (I (i+1))) S1) (λ_ _=>False)) ⟨jQ ps args S.tmps,objs⟩)∧
    ∀objs,I ys.length objs→Q .normal ⟨S.tmps,objs⟩)∨
   (∃(I J:Nat→List Obj→Prop) (lv:Exit) (lc:Code),Af lv=some lc∧Dj (S.objs.length+2) fz∧I 0 (S.objs++[wC,hole])∧(∀i objs,I i objs→Gh S.objs.length objs)∧(∀i objs,J i objs→Gh S.objs.length objs∧bD objs)∧
    (∀i args objs,I i objs→ys[i]?=some args→iT P D (T.inner (S.objs.length+2)) x (thenS (λS1=>iT P D (T.inner (S.objs.length+2)) y (BG fz (I (i+1)) lv (J i)) S1) (λ_ _=>False)) ⟨jQ ps args S.tmps,objs⟩)∧
    (∀objs,I ys.length objs→Q .normal ⟨S.tmps,objs⟩)∧∀i objs,i<ys.length→J i objs→Q lv ⟨S.tmps,fT S.objs.length objs⟩)∨
   (T.bb=true∧T.bn≤S.objs.length∧(∀p∈S.tmps,p.ge T.bn=true)∧T.nx≤S.objs.length∧∃(I J:Nat→List Obj→Prop) (lv:Exit) (lc:Code),Af lv=some lc∧Dj (S.objs.length+2) fz∧I 0 (S.objs++[wC,hole])∧(∀i objs,I i objs→Gh S.objs.length objs)∧(∀i objs,J i objs→Gh S.objs.length objs∧bD objs)∧
    (∀i args objs,I i objs→ys[i]?=some args→iT P D (T.oQ (S.objs.length+2)) x (thenS (λS1=>iT P D (T.oQ (S.objs.length+2)) y (BG fz (I (i+1)) lv (J i)) S1) (λ_ _=>False)) ⟨jQ ps args S.tmps,objs⟩)∧
    (∀objs,I ys.length objs→Q .normal ⟨S.tmps,objs⟩)∧∀i objs,i<ys.length→J i objs→Q lv ⟨S.tmps,fT S.objs.length objs⟩)))∨
   ∃(g:FuncId) (cap:List PV) (ys:List (List PV)) (I:Nat→List Obj→Prop),S.ev f=.fn g [] cap∧cap.all PV.pure=true∧T.ge g cap ys∧(∀y∈ys,y.length=ps.length)∧
    Dj S.objs.length fz∧I 0 S.objs∧(∀i objs,I i objs→S.objs.length=objs.length∧bJ objs)∧
    (∀i args objs,I i objs→ys[i]?=some args→iT P D (T.inner S.objs.length) x (thenS (λS1=>iT P D (T.inner S.objs.length) y (Gv fz (I (i+1))) S1) (λ_ _=>False)) ⟨jQ ps args S.tmps,objs⟩)∧
    ∀objs,I ys.length objs→Q .normal ⟨S.tmps,objs⟩)
def jX(P:Program)(T:Np):Prop:=∀f args objs K,T f args objs K→∃r ai t,mO P f args objs r ai t∧K r ai t
def I4(P:Program)(ah:Nat→Prop)(V:Wz→Prop)(ex:Nat→Prop)(y:Nat)(Y:YT):Prop:=
 ∀(objs:List Obj) (blk:Nat→Option Nat) (w:World) (args:List PV) (vs:List Value) (K:Bool→List Obj→Prop) (base' iM:Nat→Prop) (H:Array Go.Obj) (z:Wz),
  V z→uJ ah z H→(∀b,ah b→iM b)→Rel base' iM ⟨H,z.xs,z.nx,z.out⟩ ⟨[],objs⟩ blk wR w→bG (cu w (bA base' objs blk)) args vs→Y args objs K→
  ∃r:Loop,w.heap[y]?=some (.loop r)∧vs.length=r.params.size∧(∀b,ex b→∃r,w.heap[b]?=some (.loop r))∧
   RoundIn (Bp none) 0 P y r.fn ((r.params.zip (⟨vs⟩:Array Value)).foldl (λt (p,v)=>t.setIfInBounds p v) r.tmps) r.assign r.body w
    (λe w'=>∃b ai au zn H',e=.returned (.bool b)∧K b ai∧V zn∧zn.heap.size≤z.heap.size∧uJ ah zn H'∧H'.size=H.size∧(∀b,¬ ex b→H'[b]?=H[b]?)∧Rel base' iM ⟨H',zn.xs,zn.nx,zn.out⟩ ⟨[],ai⟩ au wR w')
def ET(ex fB:Nat→Prop)(V0:Wz→Prop)(n:Nat)(ah:Nat→Prop)(V:Wz→Prop):Prop:=
 (∀b,fB b→ah b)∧∀(z3:Wz) (w:World),V z3→uJ ah z3 w.heap→(∀x∈z3.xs,x.1.lt z3.nx=true)→Sm z3.out w→∃z,V0 z∧uJ fB z w.heap∧(∀x∈z.xs,x∈z3.xs∧x.1.lt z.nx=true)∧Sm z.out w∧
  ∀(zn:Wz) (w':World),V0 zn→zn.heap.size≤z.heap.size→uJ fB zn w'.heap→(∀x∈zn.xs,x.1.lt zn.nx=true)→(∀b,ah b→¬ ex b→w'.heap[b]?=w.heap[b]?)→w.heap.size≤w'.heap.size→Sm zn.out w'→
   ∃wn,V wn∧wn.heap.size≤z3.heap.size∧uJ ah wn w'.heap∧(∀x∈wn.xs,(x∈zn.xs∧zn.nx≤wn.nx)∨(x∈z3.xs∧z3.nx≤wn.nx∧x.1.ge n=true))∧Sm wn.out w'
theorem ET.refl {ex ah:Nat→Prop}{V:Wz→Prop}{n:Nat}:ET ex ah V n ah V:=
 ⟨λ_ h=>h,λz3 _ hz hf hx hs=>⟨z3,hz,hf,λx h=>⟨h,hx x h⟩,hs,λzn _ hzn hzs hf' _ _ _ hs'=>⟨zn,hzn,hzs,hf',λx hx=>.inl ⟨hx,Nat.le_refl _⟩,hs'⟩⟩⟩
theorem Rel.fit {base ah:Nat→Prop}{w0:Wz}{S:St}{blk:Nat→Option Nat}{a:Act}{w:World}(R:Rel base ah w0 S blk a w):uJ ah w0 w.heap:=⟨λb hb=>⟨R.pr b hb,R.fr b hb⟩,R.gr,R.gl⟩
def ow(ex ah:Nat→Prop)(V:Wz→Prop):Prop:=∀b,ex b→ah b∧∀z,V z→∃r,z.heap[b]?=some (.loop r)
def fK(P:Program)(f:FuncId)(bargs:List PV)(ys:List (List PV)):Prop:=
 Enters P f∧
 ∀(I J:Nat→List Obj→Prop) (base ah:Nat→Prop) (V:Wz→Prop) (ex:Nat→Prop) (y:Nat) (objs:List Obj) (blk:Nat→Option Nat) (w:World) (vs:List Value),
  I4 P ah V ex y (IK ys I J)→ow ex ah V→(∀z,V z→z.nx≤objs.length)→jW base ah V ⟨[],objs⟩ blk wR w→I 0 objs→(∀i O,I i O→O.length=objs.length∧bJ O)→(∀i O,J i O→O.length=objs.length∧bJ O∧bD O)→
  bG (cu w (bA base objs blk)) (bargs++[.qN y]) vs→
  Calls P f ⟨vs⟩ w λe w'=>∃b ai au,e=.returned (.bool b)∧((b=true∧I ys.length ai)∨(b=false∧∃i,i<ys.length∧J i ai))∧jW base ah V ⟨[],ai⟩ au wR w'
def YA(P:Program)(ah:Nat→Prop)(V:Wz→Prop)(T:Know):Prop:=
 T.bb=true→∃(ex fB:Nat→Prop) (V0:Wz→Prop),I4 P fB V0 ex T.y T.YB∧ow ex fB V0∧ET ex fB V0 T.bn ah V∧(∀z,V0 z→z.nx≤T.bn)∧ow ex ah V
variable {P:Program}{D:TypeId→aC}{T:Know}{l:Option Nat}
theorem UO(hT:jX P T.fn){own pt:Bool}{ev:Operand→PV}{objs:List Obj}{op:Op}{K:KT}(h:lg P D T.QO own pt ev objs op K):II P D own ev objs op K:=by
 unfold lg at h
 split at h
 ·cases own with
  | true=>exact h.elim (λh=>absurd h.1 Bool.false_ne_true) λh=>absurd h.1 Bool.false_ne_true
  | false=>
   simp only[cond_false]at h
   unfold pu at h
   split at h
   ·rename_i e
    simp only[II,Gc,e]
    exact hT _ _ _ _ h
   ·exact h.2.2.2.elim
   ·exact h.elim
 ·exact absurd h.1 Bool.false_ne_true
 ·exact h
section
variable {base ah base0 fB:Nat→Prop}{V V0:Wz→Prop}{S:St}{blk:Nat→Option Nat}{a:Act}{w:World}{n y:Nat}{args:List PV}{vs:List Value}
theorem yE{w0:Wz}(R:Rel base ah w0 S blk a w)(b:Nat)(hb:ah b):zN S.objs blk n w b:=
 ⟨Nat.lt_of_lt_of_le (R.pr b hb) R.gr,λk o h1 h2 h3=>R.objs.np k o b (d_ h1).2 h2 h3 hb⟩
theorem Kk(h:bG (cu w (bA base S.objs blk)) args vs):bG (cu w (bA (hbase base S.objs blk n) (S.objs.take n) blk)) args vs:=
 h.mono λ_ _ h=>h.o_ λ_ _ hb=>⟨⟨hb.1,λk o _ h1 h2=>hb.2 k o h1 h2⟩,λk o h1 h2=>hb.2 k o (d_ h1).2 h2⟩
theorem N_{ex:Nat→Prop}{Y:YT}{K:Bool→List Obj→Prop}(hY:I4 P fB V0 ex y Y)(hW:ET ex fB V0 n ah V)(R:jW base ah V S blk a w)(hlt:n=S.objs.length∨∀z,V0 z→z.nx≤n)
  (hcl:∀o∈S.objs.take n,o.live=true→∀x∈o.xs,∀p∈x.cells,p.qd n=true) (QN:∀p∈S.tmps,p.ge n=true) (hX:Y5 n (S.objs.drop n)) (hargs:bG (cu w (bA base S.objs blk)) args vs) (hYy:Y args (S.objs.take n) K)
  (hK:∀b o,K b o→o.length=n∨S.objs.length=n) :
  ∃r:Loop,w.heap[y]?=some (.loop r)∧vs.length=r.params.size∧
   RoundIn (Bp none) 0 P y r.fn ((r.params.zip (⟨vs⟩:Array Value)).foldl (λt (p,v)=>t.setIfInBounds p v) r.tmps) r.assign r.body w
    (λe w'=>∃b O' au,e=.returned (.bool b)∧K b O'∧jW base ah V ⟨S.tmps,O'++S.objs.drop n⟩ au a w'):=by
 obtain⟨w0,hV,R⟩:=R
 obtain⟨z,hz,hf,hxs,hsm,hup⟩:=hW.2 w0 w hV R.fit R.Ab R.sm
 have hltx:∀x∈z.xs,x.1.lt n=true:=λx hx=>by
  rcases hlt with h | h
  ·rw[h];exact uK (R.ext x (hxs x hx).1)
  ·exact ou (h z hz) (hxs x hx).2
 have R1:=R.hide (n:=n) (z:=z) (λx hx=>⟨(hxs x hx).1,(hxs x hx).2,hltx x hx⟩) hsm hcl
 have hpp:∀b,fB b→zN S.objs blk n w b:=λb hb=>yE R b (hW.1 b hb)
 obtain⟨r,hr,hsz,hex,hrd⟩:=hY _ _ w args vs K _ _ w.heap z hz hf hpp R1 (Kk hargs) hYy
 refine⟨r,hr,hsz,RoundIn.mono hrd ?_⟩
 rintro e w' ⟨b,O',au,zn,H',he,hK',hzn,hzs,hfn,hHs,hHy,R2⟩
 have hfw:uJ fB zn w'.heap:=⟨λb hb=>⟨(hfn.at' b hb).1,(R2.fr b (hpp b hb)).trans (hfn.at' b hb).2⟩,Nat.le_trans hfn.le R2.gr,hfn.gl⟩
 obtain⟨wn,hwn,_,h1,h3,h4⟩:=hup zn w' hzn hzs hfw R2.Ab (λb hb hby=>(R2.fr b (yE R b hb)).trans (hHy b hby)) (by rw[←hHs];exact R2.gr) R2.sm
 exact⟨b,O',_,he,hK',wn,hwn,R.WT R2 hHs hHy hex (hK b O' hK') QN hX h1.at' h1.le h3 h4 h1.gl⟩
theorem QR{ex:Nat→Prop}{Y:YT}{g:FuncId}{bargs:List PV}{ys:List (List PV)}{I J:Nat→List Obj→Prop}(hG:fK P g bargs ys)(hY:I4 P fB V0 ex y Y)(hex:ow ex fB V0)(hW:ET ex fB V0 n ah V)
  (hnx:∀z,V0 z→z.nx≤n) (R:jW base ah V S blk a w) (hn:n≤S.objs.length) (hcl:∀o∈S.objs.take n,o.live=true→∀x∈o.xs,∀p∈x.cells,p.qd n=true) (QN:∀p∈S.tmps,p.ge n=true)
  (hX:Y5 n (S.objs.drop n)) (hle:∀args O K,IK ys I J args O K→Y args O K) (hI0:I 0 (S.objs.take n)) (jm:∀i O,I i O→O.length=n∧bJ O) (jJ:∀i O,J i O→O.length=n∧bJ O∧bD O)
  (hargs:bG (cu w (bA base S.objs blk)) (bargs++[.qN y]) vs) :
  Calls P g ⟨vs⟩ w λe w'=>∃b O' au,e=.returned (.bool b)∧((b=true∧I ys.length O')∨(b=false∧∃i,i<ys.length∧J i O'))∧jW base ah V ⟨S.tmps,O'++S.objs.drop n⟩ au a w':=by
 obtain⟨w0,hV,R⟩:=R
 obtain⟨z,hz,hf,hxs,hsm,hup⟩:=hW.2 w0 w hV R.fit R.Ab R.sm
 have R1:=R.hide (n:=n) (z:=z) (λx hx=>⟨(hxs x hx).1,(hxs x hx).2,ou (hnx z hz) (hxs x hx).2⟩) hsm hcl
 have hpp:∀b,fB b→zN S.objs blk n w b:=λb hb=>yE R b (hW.1 b hb)
 have hlen:(S.objs.take n).length=n:=by simp;omega
 have ad3:∀b,ex b→∃r,w.heap[b]?=some (.loop r):=λb hb=>by
  obtain⟨h1,h2⟩:=hex b hb
  obtain⟨r,hr⟩:=h2 z hz
  exact⟨r,(hf.at' b h1).2.trans hr⟩
 obtain⟨V',hV'⟩:∃V':Wz→Prop,V'=λz'=>∃zz,V0 zz∧zz.heap.size≤z.heap.size∧uJ fB zz z'.heap∧z'.xs=zz.xs∧z'.nx=zz.nx∧z'.out=zz.out∧z'.heap.size=w.heap.size∧∀b,¬ ex b→z'.heap[b]?=w.heap[b]?:=⟨_,rfl⟩
 have hY':I4 P (zN S.objs blk n w) V' ex y (IK ys I J):=by
  intro bP iN w2 args vs2 K acG iB H z' hz' hfit hsub R2 abj hy2
  rw[hV']at hz'
  obtain⟨zz,hzz,hzl,hfz,e1,e2,e3,e4,e5⟩:=hz'
  have acH:uJ fB zz H:=⟨λb hb=>⟨(hfz.at' b hb).1,(hfit.at' b (hpp b hb)).2.trans (hfz.at' b hb).2⟩,Nat.le_trans hfz.le hfit.le,hfz.gl⟩
  rw[e1,e2,e3]at R2
  obtain⟨r2,hr2,hsz,ad4,hrd⟩:=hY bP iN w2 args vs2 K acG iB H zz hzz acH (λb hb=>hsub b (hpp b hb)) R2 abj (hle _ _ _ hy2)
  refine⟨r2,hr2,hsz,ad4,RoundIn.mono hrd ?_⟩
  rintro e w3 ⟨b,O',au,zn,H',he,hK',hzn,hzs,hfn,hHs,hHy,R3⟩
  classical
  obtain⟨hp,hp1,hp2⟩:∃hp:Array Go.Obj,hp.size=z'.heap.size∧∀b,b<z'.heap.size→hp[b]?=if z'.heap[b]?=H[b]? then H'[b]? else z'.heap[b]?:=by
   refine⟨(Array.range z'.heap.size).map λb=>(if z'.heap[b]?=H[b]? then H'[b]? else z'.heap[b]?).getD default,by simp,λb hb=>?_⟩
   rw[Array.getElem?_map,Array.getElem?_range,if_pos hb]
   have h1:b<H.size:=by have:=hfit.le;omega
   have h2:b<H'.size:=by omega
   simp only[Option.map_some]
   split
   ·rw[Array.getElem?_eq_getElem h2];rfl
   ·rw[Array.getElem?_eq_getElem hb];rfl
  have hH':∀b,zN S.objs blk n w b→b<z'.heap.size∧H'[b]?=hp[b]?:=λb hb=>by
   obtain⟨h1,h2⟩:=hfit.at' b hb
   exact⟨h1,by rw[hp2 b h1,if_pos h2.symm]⟩
  have hfp:uJ fB zn hp:=⟨λb hb=>⟨(hfn.at' b hb).1,by rw[←(hH' b (hpp b hb)).2];exact (hfn.at' b hb).2⟩,by rw[hp1];exact Nat.le_trans hzs hfz.le,hfn.gl⟩
  refine⟨b,O',au,⟨hp,zn.xs,zn.nx,zn.out⟩,H',he,hK',?_,Nat.le_of_eq hp1,⟨λb hb=>⟨by show b<hp.size;rw[hp1];exact (hH' b hb).1,(hH' b hb).2⟩,by show hp.size≤H'.size;rw[hp1,hHs];exact hfit.le,?_,λb hb=>(hfit.gl.2 b hb)⟩,hHs,hHy,R3⟩
  ·rw[hV']
   refine⟨zn,hzn,Nat.le_trans hzs hzl,hfp,rfl,rfl,rfl,hp1.trans e4,λb hb=>?_⟩
   show hp[b]?=_
   by_cases hbl:b<z'.heap.size
   ·rw[hp2 b hbl]
    split
    ·rename_i h;rw[hHy b hb,←h];exact e5 b hb
    ·exact e5 b hb
   ·rw[←e5 b hb,Array.getElem?_eq_none (by omega),Array.getElem?_eq_none (by omega)]
  ·exact mI.keep (λb hb=>(hfp.at' b (hfn.gl.2 b hb)).2) hfn.gl.1
 refine (hG.2 I J _ _ V' ex y (S.objs.take n) blk w vs hY' (λb hb=>⟨hpp b (hex b hb).1,λz' hz'=>?_⟩) (λz' hz'=>?_) ⟨⟨w.heap,z.xs,z.nx,z.out⟩,by rw[hV'];exact⟨z,hz,Nat.le_refl _,hf,rfl,rfl,rfl,rfl,λ_ _=>rfl⟩,R1⟩ hI0 (λi O h=>by rw[hlen];exact jm i O h) (λi O h=>by rw[hlen];exact jJ i O h) (Kk hargs)).mono ?_
 ·rw[hV']at hz'
  obtain⟨zz,hzz,_,hfz,_⟩:=hz'
  obtain⟨h1,h2⟩:=hex b hb
  obtain⟨rn,hrn⟩:=h2 zz hzz
  exact⟨rn,(hfz.at' b h1).2.trans hrn⟩
 ·rw[hV']at hz'
  obtain⟨zz,hzz,_,hfz,e1,e2,_⟩:=hz'
  rw[e2,hlen];exact hnx zz hzz
 ·rintro e w' ⟨b,O',au,he,hIJ,z',hz',R2⟩
  rw[hV']at hz'
  obtain⟨zn,hzn,hzl,hfn,e1,e2,e3,e4,e5⟩:=hz'
  have R2:Rel (hbase base S.objs blk n) (zN S.objs blk n w) ⟨z'.heap,zn.xs,zn.nx,zn.out⟩ ⟨[],O'⟩ au wR w':=by rw[←e1,←e2,←e3];exact R2
  have hfw:uJ fB zn w'.heap:=⟨λb hb=>⟨(hfn.at' b hb).1,(R2.fr b (hpp b hb)).trans (hfn.at' b hb).2⟩,Nat.le_trans hfn.le R2.gr,hfn.gl⟩
  obtain⟨wn,hwn,_,h1,h3,h4⟩:=hup zn w' hzn hzl hfw R2.Ab (λb hb hby=>(R2.fr b (yE R b hb)).trans (e5 b hby)) (by rw[←e4];exact R2.gr) R2.sm
  have hO:O'.length=n:=by
   rcases hIJ with ⟨_,h⟩ | ⟨_,i,_,h⟩
   ·exact (jm _ _ h).1
   ·exact (jJ _ _ h).1
  exact⟨b,O',_,he,hIJ,wn,hwn,R.WT R2 e4 e5 ad3 (.inl hO) QN hX h1.at' h1.le h3 h4 h1.gl⟩
end
theorem Er{l:Option Nat}{n y:Nat}{f:FuncId}{t:Array Value}{x b:Code}{w:World}{R:Ending→World→Prop}(h:RoundIn (Bp none) n P y f t x b w R):RoundIn (Bp l) n P y f t x b w R:=h
theorem wU{ps qs:List PV}{us ws:List Value}{Rr:PV→Value→Prop}(h1:bG Rr ps us)(h2:bG Rr qs ws):bG Rr (ps++qs) (us++ws):=by
 refine⟨by simp[h1.1,h2.1],λi p v hp hv=>?_⟩
 rw[List.getElem?_append]at hp hv
 by_cases hi:i<ps.length
 ·rw[if_pos hi]at hp;rw[if_pos (by rw[←h1.1];exact hi)]at hv;exact h1.2 _ _ _ hp hv
 ·rw[if_neg hi]at hp;rw[if_neg (by rw[←h1.1];exact hi)]at hv;rw[←h1.1]at hv;exact h2.2 _ _ _ hp hv
theorem Tp{o:Oper}{f:Operand}{args:Array Operand}{ats:Array TypeId}{a:Act}{w:World}{y:Nat}{r:Loop}(ho:o.op=.call { callee:=.value f,args:=args,argTypes:=ats })(hv:a.eval f=.func (.yield y) #[] #[])
  (hr:w.heap[y]?=some (.loop r)) (hsz:(args.toList.map a.eval).length=r.params.size) :
  (execOp a.eval o).run P w=.ok (.round y r.fn ((r.params.zip (⟨args.toList.map a.eval⟩:Array Value)).foldl (λt (p,v)=>t.setIfInBounds p v) r.tmps) r.assign r.body) w:=by
 have e1:args.map a.eval=Array.mk (args.toList.map a.eval):=by apply Array.ext';simp
 simp only[execOp,ho,resolve,hv,Deferred.ofValue,Sem.run_bind,Sem.run_pure,Result.andThen_ok,invoke]
 rw[e1]
 rw[Array.empty_append]
 exact run_yield (args:=Array.mk (args.toList.map a.eval)) hr (by simpa using hsz)
theorem Y9{base ah:Nat→Prop}{V:Wz→Prop}{S:St}{blk:Nat→Option Nat}{a:Act}{w:World}{own:Bool}{o:Oper}{K:KT}{next:Act→World→Prop}{Q:Exit→Act→World→Prop}
  (hD:∀t,fI P t (D t)) (hT:jX P T.fn) (hY:∃ex,I4 P ah V ex T.y T.Y) (hB:YA P ah V T) (hG:(∀g bargs ys,T.gb g bargs ys→fK P g bargs ys)∧∀f args objs K,T.fa f args objs K→jI P f args objs K) (R:jW base ah V S blk a w) (h:lg P D T own (S.tmps.all PV.pure) S.ev S.objs o.op K)
  (hn:∀r ai t v w' au,K r ai t→jW base ah V ⟨S.tmps,ai⟩ au a w'→aR w' (bA base ai au) ai au r v→next (a.put o.dst v) w') :
  o.wpIn (Bp l) 0 P a w next Q:=by
 obtain⟨w0,hV,R0⟩:=R
 obtain⟨exY,hY⟩:=hY
 have Kl:II P D own S.ev S.objs o.op K→o.wpIn (Bp l) 0 P a w next Q:=λh=>
  Bu l hD R0 h λr ai t v w' au h1 h2 h3=>hn r ai t v w' au h1 ⟨w0,hV,h2⟩ h3
 have yv:∀f:Operand,S.ev f=.qN T.y→a.eval f=.func (.yield T.y) #[] #[]:=by
  intro f e
  have hf:=R0.ev f
  rw[e]at hf
  have hf':cu w (bA base S.objs blk) (.qN T.y) (a.eval f):=hf
  generalize a.eval f=v at hf'
  cases hf'
  rfl
 have aau:∀args:Array Operand,(args.toList.map S.ev).all PV.pure=true→bG (cu w (bA base S.objs blk)) (args.toList.map S.ev) (args.toList.map a.eval):=by
  intro args hpure
  have h0:bG (aR w (bA base S.objs blk) S.objs blk) (args.toList.map S.ev) (args.toList.map a.eval):=sH _ λx _=>R0.ev x
  exact⟨h0.1,λi p v hp hv=>(h0.2 i p v hp hv).zD (all_eq_true.1 hpure p (List.mem_of_getElem? hp))⟩
 unfold lg at h
 split at h
 ·rename_i f args argTypes ho
  cases own with
  | true=>
   simp only[cond_true]at h
   rcases h with h | h
   rotate_left
   ·obtain⟨_,h⟩:=h
    split at h
    ·rename_i g first cap e
     have hf:=R0.ev f
     rw[e]at hf
     obtain⟨va,vc,hv,r1,r2⟩:=hf
     have hargs:bG (aR w (bA base S.objs blk) S.objs blk) (first++args.toList.map S.ev++cap) (va++args.toList.map a.eval++vc):=
      wU (wU (r1.mono λ_ _ h=>.eU h) (sH _ λx _=>R0.ev x)) (r2.mono λ_ _ h=>.eU h)
     obtain⟨⟨fn,hfn,hname,hbody⟩,hcall⟩:=hG.2 _ _ _ _ h
     refine⟨λ_ _=>trivial,?_⟩
     rw[Oper.semAt_eq _ _ _ (by rw[ho];simp)]
     have hrun:(execOp a.eval o).run P w=.ok (.enter g ⟨va++args.toList.map a.eval++vc⟩) w:=by
      have e1:(Array.mk va)++args.map a.eval++(Array.mk vc)=Array.mk (va++args.toList.map a.eval++vc):=by apply Array.ext';simp
      simp only[execOp,ho,resolve,hv,Deferred.ofValue,Sem.run_bind,Sem.run_pure,Result.andThen_ok,invoke,callFunc,run_program,hfn,hname,hbody,Bool.false_eq_true,if_false]
      rw[e1]
     rw[hrun]
     refine⟨(λh=>by cases h),?_⟩
     refine CallsIn.mono (sJ (hcall _ _ _ _ _ _ _ _ R0 hargs) l) λe w' ⟨v,r,ai,au,h1,h2,h3,h4⟩=>?_
     subst h1
     exact hn _ _ _ _ _ _ h2 ⟨w0,hV,h3⟩ h4
    ·exact h.elim
   obtain⟨hbb,hn',hcl,hev,hX,h⟩:=h
   obtain⟨ex,fB,V0,hY0,hex,hW,hnx,_⟩:=hB hbb
   have QN:∀p∈S.tmps,p.ge T.bn=true:=λp hp=>by
    obtain⟨i,hi,rfl⟩:=List.mem_iff_getElem.1 hp
    have:=hev i
    change (S.tmps.getD i .dead).ge T.bn=true at this
    rwa[List.getD_eq_getElem?_getD,List.getElem?_eq_getElem hi]at this
   split at h
   ·rename_i g first cap e
    obtain⟨bargs,ys,I,J,he,hpure,hg,hle,hI0,jm,jJ,hK1,hK2⟩:=h
    have hf:=R0.ev f
    rw[e]at hf
    obtain⟨va,vc,hv,r1,r2⟩:=hf
    have hargs:bG (aR w (bA base S.objs blk) S.objs blk) (bargs++[.qN T.y]) (va++args.toList.map a.eval++vc):=by
     rw[←he]
     exact wU (wU (r1.mono λ_ _ h=>.eU h) (sH _ λx _=>R0.ev x)) (r2.mono λ_ _ h=>.eU h)
    have hargs':bG (cu w (bA base S.objs blk)) (bargs++[.qN T.y]) (va++args.toList.map a.eval++vc):=by
     refine⟨hargs.1,λi p v hp hv=>(hargs.2 i p v hp hv).zD ?_⟩
     have:=List.mem_of_getElem? hp
     rcases List.mem_append.1 this with h1 | h1
     ·exact all_eq_true.1 hpure p h1
     ·rw[List.mem_singleton.1 h1];rfl
    have QF:=QR (hG.1 g bargs ys hg) hY0 hex hW hnx ⟨w0,hV,R0⟩ hn' hcl QN hX hle hI0 jm jJ hargs'
    obtain⟨⟨fn,hfn,hname,hbody⟩,_⟩:=hG.1 g bargs ys hg
    refine⟨λ_ _=>trivial,?_⟩
    rw[Oper.semAt_eq _ _ _ (by rw[ho];simp)]
    have hrun:(execOp a.eval o).run P w=.ok (.enter g ⟨va++args.toList.map a.eval++vc⟩) w:=by
     have e1:(Array.mk va)++args.map a.eval++(Array.mk vc)=Array.mk (va++args.toList.map a.eval++vc):=by apply Array.ext';simp
     simp only[execOp,ho,resolve,hv,Deferred.ofValue,Sem.run_bind,Sem.run_pure,Result.andThen_ok,invoke,callFunc,run_program,hfn,hname,hbody,Bool.false_eq_true,if_false]
     rw[e1]
    rw[hrun]
    refine⟨(λh=>by cases h),?_⟩
    refine CallsIn.mono (sJ QF l) λe w' ⟨b,O',au,h1,h2,h3⟩=>?_
    subst h1
    rcases h2 with ⟨rfl,h2⟩ | ⟨rfl,i,hi,h2⟩
    ·exact hn _ _ _ _ _ _ (hK1 O' h2) h3 (.aI (.bool true))
    ·exact hn _ _ _ _ _ _ (hK2 i O' hi h2) h3 (.aI (.bool false))
   ·rename_i y e
    obtain⟨rfl,hpure,hy⟩:=h
    obtain⟨r,hr,hsz,kS⟩:=N_ hY0 hW ⟨w0,hV,R0⟩ (.inr hnx) hcl QN hX (aau args hpure) hy (λb o h=>.inl h.1)
    refine⟨λ_ _=>trivial,?_⟩
    rw[Oper.semAt_eq _ _ _ (by rw[ho];simp),Tp ho (yv f e) hr hsz]
    refine⟨(λh=>by cases h),?_⟩
    refine RoundIn.mono (Er kS) λe w' ⟨b,ai,au,h1,h2,h3⟩=>?_
    subst h1
    exact hn _ _ _ _ _ _ h2.2 h3 (.aI (.bool b))
   ·exact h.elim
  | false=>
   simp only[cond_false]at h
   unfold pu at h
   split at h
   ·rename_i e
    refine Kl ?_
    simp only[ho,II,Gc,e]
    exact hT _ _ _ _ h
   ·rename_i y e
    obtain⟨rfl,hpt,hpure,hy⟩:=h
    have hd:S.objs.drop S.objs.length=[]:=List.drop_length
    have ht:S.objs.take S.objs.length=S.objs:=List.take_length
    obtain⟨r,hr,hsz,kS⟩:=N_ (n:=S.objs.length) hY ET.refl ⟨w0,hV,R0⟩ (.inl rfl) (λo ho hl x hx p hp=>by
      rw[ht]at ho
      obtain⟨k,hk⟩:=List.mem_iff_getElem?.1 ho
      have hh:=R0.objs.ob k o hk hl
      unfold bE at hh
      cases hg:blk k with
      | none=>rw[hg]at hh;rw[hh]at hx;cases hx
      | some g=>
       rw[hg]at hh
       obtain⟨c,_,_,x3⟩:=hh
       obtain⟨i,hi⟩:=List.mem_iff_getElem?.1 hx
       obtain⟨j,hj⟩:=List.mem_iff_getElem?.1 hp
       obtain⟨v,_,hv⟩:=(x3 i x hi).2 j p hj
       exact LH hv) (λp hp=>Tn (all_eq_true.1 hpt p hp)) (by rw[hd];intro o ho;cases ho) (aau args hpure) (by rw[ht];exact hy) (λ_ _ _=>.inr rfl)
    refine⟨λ_ _=>trivial,?_⟩
    rw[Oper.semAt_eq _ _ _ (by rw[ho];simp),Tp ho (yv f e) hr hsz]
    refine⟨(λh=>by cases h),?_⟩
    refine RoundIn.mono (Er kS) λe w' ⟨b,ai,au,h1,h2,h3⟩=>?_
    subst h1
    rw[hd,List.append_nil]at h3
    exact hn _ _ _ _ _ _ h2 h3 (.aI (.bool b))
   ·exact h.elim
 ·rename_i x ho
  obtain⟨v,w',r,ai,t,au,h1,h2,h3,h4,_⟩:=Ww ho R0 h.2
  exact Eh (by rw[ho];simp) h1 (hn r ai t v w' au h2 ⟨w0,hV,h3⟩ h4)
 ·exact Kl h
theorem Oa{own:Bool}{ev:Operand→PV}{objs:List Obj}{op:Op}{K K':KT}(h:II P D own ev objs op K)(hk:∀r o t,K r o t→K' r o t):II P D own ev objs op K':=by
 obtain⟨r,o,t,h1,_,h2,_,_⟩:=Te h
 exact h2 _ (hk _ _ _ h1)
theorem Gw{ops:List Oper}{g:Option (Nat×Bool)}{S:St}{X Y:St→Prop}
  (h:wT (match g with | none=>none | some (j,b)=>some ((ops[j]?).bind (·.dst),b)) S X Y):oP ops g S X Y:=by
 unfold wT at h
 unfold oP
 cases g with
 | none=>exact h
 | some g=>
  obtain⟨j,want⟩:=g
  simp only[]at h ⊢
  cases hd:(ops[j]?).bind (·.dst) with
  | none=>rw[hd]at h;exact h
  | some d=>rw[hd]at h;exact h
theorem Es{ops:List Oper}{g:Option (Nat×Bool)}{S:St}{X X' Y Y':St→Prop}(h:oP ops g S X Y)(hx:∀S',S'.tmps.length=S.tmps.length→X S'→X' S')
  (hy:∀S',S'.tmps.length=S.tmps.length→Y S'→Y' S'):oP ops g S X' Y':=by
 cases g with
 | none=>exact hx _ rfl h
 | some g=>
  obtain⟨j,want⟩:=g
  simp only[oP]at h ⊢
  cases hd:(ops[j]?).bind (·.dst) with
  | none=>rw[hd]at h;exact h
  | some d=>
   rw[hd]at h
   simp only[]at h ⊢
   generalize hv:S.tmps.getD d .dead=v at h ⊢
   cases v
   case bool b=>exact⟨λhb=>hx _ (by simp) (h.1 hb),λhb=>hy _ (by simp) (h.2 hb)⟩
   case bI cs=>
    cases cs with
    | nil=>exact hy _ rfl h
    | cons c cs=>exact h
   all_goals exact h
theorem q9(hT:jX P T.fn){ops:List Oper}{own:Nat→Bool}:∀(qO:List Oper) (ss:List Step) (i:Nat) (S:St) (ts:List Nat) (K:St→List Nat→Prop),
  ss.map uN=qO.map (stepOf ops)→(∀j s,ss[j]?=some s→own (i+j)=s.own)→LR P D T.QO ss S ts K→pq P D own ops qO i S ts K
 | [],ss,i,S,ts,K,he,ho,h=>by
  have:ss=[]:=by simpa using he
  subst this
  exact h
 | o::qO,ss,i,S,ts,K,he,ho,h=>by
  cases ss with
  | nil=>simp at he
  | cons s ss=>
   simp only[List.map_cons,List.cons.injEq]at he
   obtain⟨he1,he2⟩:=he
   have hd:s.dst=o.dst:=congrArg (λx:Step=>x.dst) he1
   have hop:s.op=o.op:=congrArg (λx:Step=>x.op) he1
   have hg:s.g=(stepOf ops o).g:=(congrArg (λx:Step=>x.g) he1:(uN s).g=(stepOf ops o).g)
   have hown:own i=s.own:=ho 0 s rfl
   unfold LR at h
   unfold pq
   rw[hg]at h
   refine Es (Gw h) ?_ ?_
   ·intro S' hS' hx
    rw[hown,←hop]
    refine Oa (UO hT hx) ?_
    intro r ai t hk
    rw[←hd]
    exact q9 hT qO ss (i+1) _ _ K he2 (λj s' hs'=>by rw[show i+1+j=i+(j+1) by omega];exact ho (j+1) s' hs') hk
   ·intro S' hS' hy
    rw[←hd]
    exact q9 hT qO ss (i+1) _ _ K he2 (λj s' hs'=>by rw[show i+1+j=i+(j+1) by omega];exact ho (j+1) s' hs') hy
theorem uO{ops:List Oper}{own:Nat→Bool}{K K':St→List Nat→Prop}(hk:∀S ts,K S ts→K' S ts):∀(qO:List Oper) (i:Nat) (S:St) (ts:List Nat),pq P D own ops qO i S ts K→pq P D own ops qO i S ts K'
 | [],_,_,_,h=>hk _ _ h
 | o::qO,i,S,ts,h=>by
  unfold pq at h ⊢
  exact Es h (λS' _ hx=>Oa hx λr o' t hh=>uO hk qO _ _ _ hh) (λS' _ hy=>uO hk qO _ _ _ hy)
theorem PW.acI {E:Env}{c:Code}{Q:Exit→St→Prop}{S:St}{m nx:Nat}(hE:∀base ah V,E base ah V→∀w0,V w0→w0.nx≤nx)(I:Nat→St→Prop)(h0:I m S)
  (round:∀m S,I m S→PW P l E c (thenS (λS'=>∃QM m',Weak nx S' QM∧I m' QM∧m'<m) Q) S):PW P l E (.loop c) Q S:=by
 intro base ah V hEE blk a w R b k cs hro hb hroom
 have hE':=hE base ah V hEE
 have key:∀n S blk a w,I n S→jW base ah V S blk a w→
     ∃e a' w',(∃S' au,Q e S'∧jW base ah V S' au a' w')∧ArrivesIn (Machine.fenced P (Bp l)) P (lone (b.atR a (.code c::.inLoop c::k)) cs w) b k cs e a' w':=by
  intro n
  induction n using Nat.strongRecOn with
  | _ n ih=>
   intro S blk a w hI R
   obtain⟨e,a₁,w₁,⟨S₁,blk₁,h1,R₁⟩,harr⟩:=round n S hI base ah V hEE blk a w R b (.inLoop c::k) cs hro hb hroom
   cases e with
   | normal=>
    obtain⟨S₂,m',hw,hI₂,hlt⟩:=h1
    obtain⟨w0,hV,R₁⟩:=R₁
    obtain⟨ad5,R₂⟩:=hw base ah w0 blk₁ a₁ w₁ (hE' w0 hV) R₁
    obtain⟨e₂,a₂,w₂,hq₂,harr₂⟩:=ih m' hlt S₂ ad5 a₁ w₁ hI₂ ⟨w0,hV,R₂⟩
    exact⟨e₂,a₂,w₂,hq₂,.of_steps (StepsIn.trans harr (.one (fenced_calm hb hroom rfl) stepR_inLoop)) harr₂⟩
   | exit id=>exact⟨_,a₁,w₁,⟨S₁,blk₁,h1,R₁⟩,.pass (x:=.inLoop c) rfl (λ_ _=>.inl (by simp)) harr⟩
   | goto t=>exact⟨_,a₁,w₁,⟨S₁,blk₁,h1,R₁⟩,.pass (x:=.inLoop c) rfl (λ_ _=>.inl (by simp)) harr⟩
   | ret=>exact⟨_,a₁,w₁,⟨S₁,blk₁,h1,R₁⟩,.pass (x:=.inLoop c) rfl (λ_ _=>.inl (by simp)) harr⟩
   | panic ch=>exact⟨_,a₁,w₁,⟨S₁,blk₁,h1,R₁⟩,.pass (x:=.inLoop c) rfl (λ_ _=>.inl (by simp)) harr⟩
   | outgrown=>exact⟨_,a₁,w₁,⟨S₁,blk₁,h1,R₁⟩,.pass (x:=.inLoop c) rfl (λ_ _=>.inl (by simp)) harr⟩
 obtain⟨e,a',w',hq,harr⟩:=key m S blk a w h0 R
 exact⟨e,a',w',hq,.of_steps (.one (fenced_calm hb hroom rfl) stepR_loop) harr⟩
theorem nU{next next':St→Prop}{Q:Exit→St→Prop}(h:∀S,next S→next' S):∀e S,thenS next Q e S→thenS next' Q e S:=by
 intro e S hh
 cases e<;>first | exact h _ hh | exact hh
theorem mR{n:Nat}{f:Nat→Bool}(h:(List.range n).all f=true){i:Nat}(hi:i<n):f i=true:=by
 rw[all_eq_true]at h
 exact h i (mem_range.2 hi)
theorem yF{m:Nat}{i:Nat}:∀(n:Nat),i<n→((List.range n).foldl (λu j=>if m.testBit j then u else u ||| (1 <<<j)) 0).testBit i=!m.testBit i:=by
 have key:∀(n:Nat) (j:Nat),((List.range n).foldl (λu j=>if m.testBit j then u else u ||| (1 <<<j)) 0).testBit j=(decide (j<n) && !m.testBit j):=by
  intro n
  induction n with
  | zero=>intro j;simp
  | succ n ih=>
   intro j
   rw[List.range_succ,List.foldl_append,foldl_cons,List.foldl_nil]
   split
   ·rename_i hm
    rw[ih j]
    by_cases hj:j=n
    ·subst hj;simp[hm]
    ·have:decide (j<n+1)=decide (j<n):=by congr 1;apply propext;omega
     rw[this]
   ·rename_i hm
    rw[Nat.testBit_or,ih j,Nat.one_shiftLeft,Nat.testBit_two_pow]
    by_cases hj:n=j
    ·subst hj;simp[hm]
    ·have:decide (j<n+1)=decide (j<n):=by congr 1;apply propext;omega
     rw[this];simp[hj]
 intro n hi
 rw[key n i];simp[hi]
theorem Gx{ops:List Oper}{ts:List Nat}(h1:dB ops (masks ops [])=true)(h2:lG (jl ops (masks ops [])) ts=true):rW ops ts=true:=by
 unfold rW
 unfold dB at h1
 unfold lG at h2
 generalize masks ops []=ms at *
 simp only[all_eq_true,mem_range]at h1 ⊢
 intro i hi
 have h1:=h1 i hi
 rw[List.getElem?_eq_getElem hi]at h1 ⊢
 simp only[and_eq_true,all_eq_true,mem_range]at h1 ⊢
 refine⟨⟨h1.1.1,h1.1.2⟩,λj hj=>?_⟩
 have hz:=h1.2 j hj
 cases hb:(ms.getD i 0).testBit j with
 | true=>simp
 | false=>
  rw[hb]at hz
  have hzz:∀k,(ops.map λ_=>0).getD k 0=0:=by
   intro k
   rw[List.getD_eq_getElem?_getD,List.getElem?_map]
   cases ops[k]?<;>rfl
  rw[hzz,hzz]at hz
  simp only[Bool.false_or,not_eq_true',Bool.or_false]at hz ⊢
  have hlen:(jl ops ms).length=ops.length:=by simp[jl]
  have h2:=mR h2 (i:=i) (by omega)
  have hun:(jl ops ms).getD i 0=(List.range i).foldl (λu j=>if (ms.getD i 0).testBit j then u else u ||| (1 <<<j)) 0:=by
   rw[List.getD_eq_getElem?_getD,jl,List.getElem?_map,List.getElem?_range hi]
   rfl
  have ht:((co (ts.getD j 0)==2 && co (ts.getD i 0) !=0) || (co (ts.getD i 0)==2 && co (ts.getD j 0) !=0))=false:=by
   simp only[or_eq_true]at h2
   rcases h2 with h2 | h2
   ·have:co (ts.getD i 0)=0:=by simpa using h2
    rw[this];simp
   ·have:=mR h2 hj
    rw[hun,yF i hj,hb]at this
    simp only[Bool.not_false,Bool.not_true,Bool.false_or,not_eq_true']at this
    exact this
  unfold clash at hz ⊢
  simp only[Bool.or_eq_false_iff]at hz ht ⊢
  exact⟨⟨⟨hz.1.1.1,hz.1.1.2⟩,ht.1⟩,ht.2⟩
theorem QS{ops:List Oper}{ts:List Nat}(h1:dB ops (masks ops [])=true){b:Nat}(h2:Ae (jl ops (masks ops [])) ts b=true):uH ops ts b=true:=by
 unfold uH
 unfold dB at h1
 unfold Ae at h2
 generalize masks ops []=ms at *
 have hlen:(jl ops ms).length=ops.length:=by simp[jl]
 simp only[and_eq_true,all_eq_true,mem_range,hlen]at h1 h2 ⊢
 obtain⟨⟨⟨g1,g2⟩,g3⟩,h2⟩:=h2
 have hbu:∀i,i<ops.length→(jl ops ms).getD i 0=(List.range i).foldl (λu j=>if (ms.getD i 0).testBit j then u else u ||| (1 <<<j)) 0:=λi hi=>by
  rw[List.getD_eq_getElem?_getD,jl,List.getElem?_map,List.getElem?_range hi]
  rfl
 refine⟨⟨⟨g1,g2⟩,?_⟩,λi hi=>?_⟩
 ·have g2:=of_decide_eq_true g2
  rcases Nat.lt_or_ge b ops.length with hb | hb
  ·simp only[or_eq_true,decide_eq_true_eq,all_eq_true,mem_range]at g3 ⊢
   rcases g3 with g3 | g3
   ·exact .inl g3
   ·refine .inr λj hj=>?_
    rcases g3 j hj with g | g
    ·exact .inl g
    ·rw[hbu b hb,yF b hj]at g
     exact .inr (by simpa using g)
  ·have:b=ops.length:=by omega
   simp[this]
 have h1:=h1 i hi
 rw[List.getElem?_eq_getElem hi]at h1 ⊢
 simp only[and_eq_true,all_eq_true,mem_range]at h1 ⊢
 refine⟨⟨h1.1.1,h1.1.2⟩,λj hj=>?_⟩
 have hz:=h1.2 j hj
 cases hb:(ms.getD i 0).testBit j with
 | true=>simp
 | false=>
  rw[hb]at hz
  have hzz:∀k,(ops.map λ_=>0).getD k 0=0:=by
   intro k
   rw[List.getD_eq_getElem?_getD,List.getElem?_map]
   cases ops[k]?<;>rfl
  rw[hzz,hzz]at hz
  simp only[Bool.false_or,not_eq_true',Bool.or_false]at hz ⊢
  have hun:(jl ops ms).getD i 0=(List.range i).foldl (λu j=>if (ms.getD i 0).testBit j then u else u ||| (1 <<<j)) 0:=by
   rw[List.getD_eq_getElem?_getD,jl,List.getElem?_map,List.getElem?_range hi]
   rfl
  have:=h2 i hi j hj
  rw[hun,yF i hj,hb]at this
  simp only[Bool.not_false,Bool.not_true,Bool.false_or,not_eq_true']at this
  rw[this,Bool.or_false]
  exact hz
theorem Km{ops:List Oper}{ts:List Nat}(h1:dB ops (masks ops [])=true)(h2:jq (jl ops (masks ops [])) ts=true):rW ops ts=true∨∃b,uH ops ts b=true:=by
 unfold jq at h2
 rcases or_eq_true _ _ ▸ h2 with h2 | h2
 ·exact .inl (Gx h1 h2)
 ·exact .inr ⟨_,QS h1 h2⟩
theorem Kn:∀(ops:List Oper) (acc:List Nat),(masks ops acc).length=acc.length+ops.length
 | [],acc=>by simp[masks]
 | o::rest,acc=>by simp only[masks];rw[Kn rest];simp;omega
theorem Ko:∀(ops:List Oper) (acc:List Nat),(masks ops acc).take acc.length=acc
 | [],acc=>by simp[masks]
 | o::rest,acc=>by
  simp only[masks]
  have h:=Ko rest (acc++[qj acc o])
  have h2:=congrArg (List.take acc.length) h
  rw[List.take_take,List.length_append]at h2
  rw[show min acc.length (acc.length+[qj acc o].length)=acc.length by simp]at h2
  rw[h2];simp
theorem Kq:∀(A B:List Oper) (acc:List Nat),masks (A++B) acc=masks B (masks A acc)
 | [],B,acc=>by simp[masks]
 | o::A,B,acc=>by simp only[List.cons_append,masks];exact Kq A B _
theorem Gy(ops:List Oper){b:Nat}(hb:b≤ops.length):masks (ops.take b) []=(masks ops []).take b:=by
 have h:=Ko (ops.drop b) (masks (ops.take b) [])
 rw[←Kq,List.take_append_drop,Kn]at h
 simp only[List.length_nil,List.length_take,Nat.zero_add]at h
 rw[show min b ops.length=b by omega]at h
 exact h.symm
theorem getD_take{l:List Nat}{b i:Nat}(h:i<b):(l.take b).getD i 0=l.getD i 0:=by
 rw[List.getD_eq_getElem?_getD,List.getElem?_take,if_pos h,List.getD_eq_getElem?_getD]
theorem QT(ops:List Oper){b:Nat}(hb:b≤ops.length)(ms:List Nat):jl (ops.take b) (ms.take b)=(jl ops ms).take b:=by
 unfold jl
 rw[←List.map_take,List.take_range]
 rw[show (ops.take b).length=min b ops.length by simp]
 refine List.map_congr_left λi hi=>?_
 have hi:=mem_range.1 hi
 rw[getD_take (by omega)]
theorem qp{ops:List Oper}(h:dV ops=true){i:Nat}{o:Oper}(ho:ops[i]?=some o){j:Nat}{want:Bool}(hg:o.guard=some (j,want)):j<i:=by
 have:=mR h (List.getElem?_eq_some_iff.1 ho).1
 simp only[ho,Option.bind_some,hg]at this
 exact of_decide_eq_true this
theorem QU{ops:List Oper}(h:dV ops=true){b i:Nat}{o:Oper}(ho:ops[i]?=some o)(hi:i<b):f_ (ops.take b) o=f_ ops o:=by
 unfold f_
 cases hg:o.guard with
 | none=>rfl
 | some jw=>
  obtain⟨j,want⟩:=jw
  have:=qp h ho hg
  simp only[]
  rw[List.getElem?_take,if_pos (by omega)]
theorem Ob{ms:List Nat}{b i:Nat}{o:Oper}(hb:∀e∈o.after.toList,Region.binds .any e=true→e.on<i)(hi:i≤b):qj (ms.take b) o=qj ms o:=by
 unfold qj
 generalize o.after.toList=es at hb
 have key:∀(es:List Edge) (m:Nat),(∀e∈es,Region.binds .any e=true→e.on<i)→es.foldl (λm e=>if Region.binds .any e then (m ||| (1 <<<e.on)) ||| (ms.take b).getD e.on 0 else m) m=es.foldl (λm e=>if Region.binds .any e then (m ||| (1 <<<e.on)) ||| ms.getD e.on 0 else m) m:=by
  intro es
  induction es with
  | nil=>intro m _;rfl
  | cons e es ih=>
   intro m h
   rw[foldl_cons,foldl_cons,ih _ λe' he'=>h e' (List.mem_cons_of_mem _ he')]
   congr 1
   split
   ·rename_i hbd
    rw[getD_take (by have:=h e List.mem_cons_self hbd;omega)]
   ·rfl
 exact key es 0 hb
theorem I5{ops:List Oper}{ms:List Nat}(h:dB ops ms=true)(hg:dV ops=true){b:Nat}(hb:b≤ops.length):dB (ops.take b) (ms.take b)=true:=by
 unfold dB at h ⊢
 simp only[all_eq_true,mem_range]at h ⊢
 intro i hi
 have hi:i<b:=by simp at hi;omega
 have h:=h i (by omega)
 have hio:i<ops.length:=by omega
 rw[List.getElem?_take,if_pos hi]
 rw[List.getElem?_eq_getElem hio]at h ⊢
 simp only[and_eq_true,all_eq_true,mem_range]at h ⊢
 obtain⟨⟨h1,h2⟩,h3⟩:=h
 have hbk:∀e∈ops[i].after.toList,Region.binds .any e=true→e.on<i:=λe he hbd=>by
  have:=h1 e he
  rw[hbd]at this
  simpa using this
 refine⟨⟨h1,?_⟩,λj hj=>?_⟩
 ·rw[getD_take hi,Ob hbk (Nat.le_of_lt hi)];exact h2
 ·have h3:=h3 j hj
  have hjo:j<ops.length:=by omega
  have hzz:∀(l:List Oper) (k:Nat),(l.map λ_=>0).getD k 0=0:=by
   intro l k
   rw[List.getD_eq_getElem?_getD,List.getElem?_map]
   cases l[k]?<;>rfl
  have hll:∀k,k<b→((ops.take b).map (f_ (ops.take b))).getD k []=(ops.map (f_ ops)).getD k []:=λk hk=>by
   have hko:k<ops.length:=by omega
   rw[List.getD_eq_getElem?_getD,List.getD_eq_getElem?_getD,List.getElem?_map,List.getElem?_map,List.getElem?_take,if_pos hk,List.getElem?_eq_getElem hko]
   simp only[Option.map_some,Option.getD_some]
   exact QU hg (List.getElem?_eq_getElem hko) hk
  rw[getD_take hi,hzz,hzz,hll i hi,hll j (by omega),List.getElem?_take,if_pos (by omega:j<b)]
  rw[hzz,hzz]at h3
  exact h3
theorem Oc{ops:List Oper}(hg:dV ops=true)(b:Nat):(ops.take b).map (stepOf (ops.take b))=(ops.take b).map (stepOf ops):=by
 refine List.ext_getElem? λi=>?_
 rw[List.getElem?_map,List.getElem?_map]
 cases ho:(ops.take b)[i]? with
 | none=>rfl
 | some o=>
  rw[List.getElem?_take]at ho
  split at ho
  ·rename_i hi
   simp only[Option.map_some,Option.some.injEq]
   unfold stepOf
   cases hgu:o.guard with
   | none=>rfl
   | some jw=>
    obtain⟨j,want⟩:=jw
    have:=qp hg ho hgu
    simp only[]
    rw[List.getElem?_take,if_pos (by omega)]
  ·cases ho
theorem Y_{ops:List Oper}(h:dB ops (masks ops [])=true):Y6 ops (masks ops []):=by
 have h1:lG (jl ops (masks ops [])) []=true:=by
  unfold lG
  simp only[all_eq_true,mem_range]
  intro i _
  simp[co]
 have:=wP (Gx h h1)
 exact⟨this.back,this.mask⟩
theorem WV{ops:List Oper}{b:Nat}(h:Fv b (jl ops (masks ops []))=true):b≤ops.length∧Chain ops (masks ops []) b:=by
 unfold Fv at h
 rw[and_eq_true]at h
 have hlen:(jl ops (masks ops [])).length=ops.length:=by simp[jl]
 rw[hlen]at h
 refine⟨of_decide_eq_true h.1,λi hbi hi j hj=>?_⟩
 have:=mR h.2 hi
 simp only[or_eq_true,decide_eq_true_eq,beq_iff_eq]at this
 rcases this with this | this
 ·omega
 ·have hbu:(jl ops (masks ops [])).getD i 0=(List.range i).foldl (λu j=>if ((masks ops []).getD i 0).testBit j then u else u ||| (1 <<<j)) 0:=by
    rw[List.getD_eq_getElem?_getD,jl,List.getElem?_map,List.getElem?_range hi]
    rfl
  rw[hbu]at this
  have h2:=yF (m:=(masks ops []).getD i 0) i hj
  rw[this]at h2
  simpa using h2
theorem BH{base ah:Nat→Prop}{V:Wz→Prop}{ops:List Oper}{Qm:Exit→Act→World→Prop}(hD:∀t,fI P t (D t))(hT:jX P T.fn)(hY:∃ex,I4 P ah V ex T.y T.Y)(hB:YA P ah V T)(hG:(∀g bargs ys,T.gb g bargs ys→fK P g bargs ys)∧∀f args objs K,T.fa f args objs K→jI P f args objs K) :
  ∀(qO:List Oper) (ss:List Step) (k:Nat) (S:St) (ts:List Nat) (K:St→List Nat→Prop) (blk:Nat→Option Nat) (a:Act) (w:World),ss.map uN=qO.map (stepOf ops)→(∀j,qO[j]?=ops[k+j]?)→
   LR P D T ss S ts K→jW base ah V S blk a w→(∀S' ts' au a' w',K S' ts'→jW base ah V S' au a' w'→Qm .normal a' w')→wpOpsIn (Bp l) 0 P ops.toArray Qm (List.range' k qO.length) a w
 | [],ss,k,S,ts,K,blk,a,w,he,_,h,R,hq=>by
  have:ss=[]:=by simpa using he
  subst this
  exact hq S ts blk a w h R
 | o::qO,ss,k,S,ts,K,blk,a,w,he,hl,h,R,hq=>by
  cases ss with
  | nil=>simp at he
  | cons s ss=>
   simp only[List.map_cons,List.cons.injEq]at he
   obtain⟨he1,he2⟩:=he
   have hd:s.dst=o.dst:=congrArg (λx:Step=>x.dst) he1
   have hop:s.op=o.op:=congrArg (λx:Step=>x.op) he1
   have hg:s.g=(stepOf ops o).g:=(congrArg (λx:Step=>x.g) he1:(uN s).g=(stepOf ops o).g)
   have h0:ops.toArray[k]?=some o:=by simpa using (hl 0).symm
   have hl':∀j,qO[j]?=ops[k+1+j]?:=λj=>by have:=hl (j+1);simpa[Nat.add_assoc,Nat.add_comm 1 j] using this
   simp only[List.length_cons,List.range'_succ,wpOpsIn,h0]
   unfold LR at h
   rw[hg]at h
   rcases wN R.choose_spec.2 (Gw h) o rfl with ⟨hw,hx⟩ | ⟨hw,hy⟩
   ·rw[if_pos hw]
    rw[hop]at hx
    refine Y9 hD hT hY hB hG R hx λr ai t v w' au hK R' hr=>?_
    rw[hd]at hK
    obtain⟨w0,hV,R0⟩:=R'
    exact BH hD hT hY hB hG qO ss (k+1) _ _ K au _ w' he2 hl' hK ⟨w0,hV,R0.put hr o.dst⟩ hq
   ·rw[if_neg (by rw[hw];simp)]
    rw[hd]at hy
    obtain⟨w0,hV,R0⟩:=R
    exact⟨λ_ _=>trivial,BH hD hT hY hB hG qO ss (k+1) _ _ K blk _ w he2 hl' hy ⟨w0,hV,R0.put (yB _ _ _ _) o.dst⟩ hq⟩
theorem I4.none {ah:Nat→Prop}{V:Wz→Prop}{y:Nat}:∃ex,I4 P ah V ex y (λ_ _ _=>False):=⟨λ_=>False,λ_ _ _ _ _ _ _ _ _ _ _ _ _ _ _ h=>h.elim⟩
theorem YA.none {ah:Nat→Prop}{V:Wz→Prop}(h:T.bb=false):YA P ah V T:=λe=>by rw[h]at e;cases e
end Lp
namespace Lp
open Go
open List (mem_append_left mem_append_right mem_cons_of_mem)
open Nat (le_of_eq le_trans lt_of_lt_of_le)
variable {P:Program}{D:TypeId→aC}{T:Know}{l:Option Nat}
def QV(le:Nat→Nat→Prop)(P:Program)(g:FuncId)(cap:List PV)(ys:List (List PV)):Prop:=
 Enters P g∧
 ∀(I J:Nat→List Obj→Prop) (base ah:Nat→Prop) (V:Wz→Prop) (ex:Nat→Prop) (y:Nat) (objs:List Obj) (blk:Nat→Option Nat) (w:World) (EU:List Value),
  I4 P ah V ex y (IK ys I J)→ow ex ah V→(∀w0,V w0→w0.nx≤objs.length)→jW base ah V ⟨[],objs⟩ blk wR w→I 0 objs→(∀i O,I i O→le objs.length O.length∧bJ O)→(∀i O,J i O→le objs.length O.length∧bJ O∧bD O)→bG (cu w (bA base objs blk)) cap EU→
  Calls P g ⟨.func (.yield y) #[] #[]::EU⟩ w λe w'=>∃ai au,e=.returned (.tuple #[])∧(I ys.length ai∨∃i,i<ys.length∧J i ai)∧jW base ah V ⟨[],ai⟩ au wR w'
def Gives(P:Program)(g:FuncId)(cap:List PV)(ys:List (List PV)):Prop:=QV (·≤·) P g cap ys
def qw(P:Program)(g:FuncId)(cap:List PV)(ys:List (List PV)):Prop:=QV (·=·) P g cap ys
theorem Kr{l:Option Nat}(w:World)(fn:FuncId)(tmps:Array Value)(ps:Array Tmp)(x y:Code)(hl:∀l1,l=some l1→∃r,w.heap[l1]?=some (.loop r)) :
  ∃(D l0:Nat) (Ds:List Nat) (W1:World),(Instr.enterLoop fn tmps ps x y l).run P w=.ok (l0,Ds.map λb=>{ target:=.collected b,args:=#[] }) W1∧
   W1.heap[l0]?=some (.loop { state:=.ready,pending:=none,fn,tmps,params:=ps,assign:=x,body:=y,defers:=D })∧kD w W1∧W1.heap.size=l0+1∧w.heap.size≤l0∧Ds.Nodup∧
   ∀b∈Ds,w.heap.size≤b∧b<l0∧W1.heap[b]?=some (.deferred (some [])):=by
 cases l with
 | none=>
  refine⟨w.heap.size,w.heap.size+1,[w.heap.size],_,run_enterLoop_outer _ _ _ _ _,?_,(kD.push (w':=w.alloc (.deferred (some []))) rfl).trans (kD.push rfl),?_,by omega,by simp,λb hb=>?_⟩
  ·have:=World.alloc_heap_new (w.alloc (.deferred (some []))) (.loop { state:=.ready,pending:=none,fn,tmps,params:=ps,assign:=x,body:=y,defers:=w.heap.size });rwa[World.size_alloc]at this
  ·rw[World.size_alloc,World.size_alloc]
  ·have:b=w.heap.size:=by simpa using hb
   subst this
   exact⟨Nat.le_refl _,by omega,(kD.push (w:=w.alloc (.deferred (some []))) rfl).2.1 _ _ (World.alloc_heap_new w _)⟩
 | some l1=>
  obtain⟨r,hr⟩:=hl l1 rfl
  refine⟨r.defers,w.heap.size,[],_,?_,World.alloc_heap_new w _,kD.push rfl,World.size_alloc _ _,Nat.le_refl _,List.nodup_nil,λb hb=>by cases hb⟩
  unfold Instr.enterLoop
  simp only[Sem.run_bind,run_getLoop hr,run_newObj_alloc,Result.andThen,Sem.run_pure]
  rfl
section
variable {base ah:Nat→Prop}{w0:Wz}{S:St}{blk:Nat→Option Nat}{a:Act}{w:World}
theorem nP.cells {w w':World}(h:∀(k:Nat) x,w.heap[k]?=some x→iF x→w'.heap[k]?=some x)(objs:List Obj)(blk:Nat→Option Nat):nP w w' objs objs blk blk:=
 λ_ o ho=>⟨o,ho,Nat.le_refl _,λhl _=>⟨hl,rfl,rfl,rfl,λ_=>rfl,λg c _ hc=>⟨c,h g _ hc (.inl ⟨c,_,_,rfl⟩),rfl⟩⟩⟩
theorem cK.cells {objs:List Obj}{w w':World}{iM:Nat→Prop}(R:cK base ah objs blk w)(hs:w.heap.size≤w'.heap.size)(h:∀(k:Nat) x,w.heap[k]?=some x→iF x→w'.heap[k]?=some x)
  (hnp:∀k o g,objs[k]?=some o→o.live=true→blk k=some g→¬ iM g):cK base iM objs blk w':=by
 refine⟨λk o h1 h4=>?_,R.Bd,hnp⟩
 have hh:=R.ob k o h1 h4
 unfold bE at hh ⊢
 cases hg:blk k with
 | none=>rw[hg]at hh;exact hh
 | some g=>
  rw[hg]at hh
  obtain⟨c,x1,x2,x3⟩:=hh
  refine⟨c,h g _ x1 (uI _ _ _),x2,λi x hx=>⟨(x3 i x hx).1,λj p hp=>?_⟩⟩
  obtain⟨v,y1,y2⟩:=(x3 i x hx).2 j p hp
  exact⟨v,y1,y2.qV hs (λ_ _ h=>h) (λk x _ hx hcx=>h k x hx (.inl hcx)) (.cells h _ _)⟩
theorem gu{ok:Nat→Prop}{objs:List Obj}{w w':World}{p:PV}{v:Value}(R:aR w ok objs blk p v)(hs:w.heap.size≤w'.heap.size)(h:∀(k:Nat) x,w.heap[k]?=some x→iF x→w'.heap[k]?=some x) :
  aR w' ok objs blk p v:=R.qV hs (λ_ _ h=>h) (λk x _ hx hcx=>h k x hx (.inl hcx)) (.cells h _ _)
def pairs(tm:List PV)(vs:Array Value):List (PV×Value):=tm.zip vs.toList
theorem yG{tm:List PV}{vs:Array Value}{x:PV×Value}(h:x∈pairs tm vs):∃t:Nat,tm[t]?=some x.1∧vs.getD t undef=x.2:=by
 obtain⟨i,hi⟩:=List.mem_iff_getElem?.1 h
 rw[pairs,List.getElem?_zip_eq_some]at hi
 refine⟨i,hi.1,?_⟩
 rw[Array.getD_eq_getD_getElem?,←Array.getElem?_toList,hi.2]
 rfl
theorem yH{tm:List PV}{vs:Array Value}(hl:vs.size=tm.length){t:Nat}{p:PV}(h:tm[t]?=some p):(p,vs.getD t undef)∈pairs tm vs:=by
 refine List.mem_iff_getElem?.2 ⟨t,?_⟩
 rw[pairs,List.getElem?_zip_eq_some]
 have hlt:t<vs.size:=by rw[hl];exact (List.getElem?_eq_some_iff.1 h).1
 refine⟨h,?_⟩
 rw[Array.getD_eq_getD_getElem?,Array.getElem?_toList,Array.getElem?_eq_getElem hlt]
 rfl
theorem Gz{R:PV→Value→Prop}(acJ:∀v,R .dead v):∀(ps:List Nat) (args:List PV) (vs:List Value) (tm:List PV) (xs:Array Value),args.length=vs.length→xs.size=tm.length→
  (∀(t:Nat) (p:PV),tm[t]?=some p→R p (xs.getD t undef))→(∀(i:Nat) (p:PV) (v:Value),args[i]?=some p→vs[i]?=some v→R p v)→
  ((ps.zip vs).foldl (λt (p,v)=>t.setIfInBounds p v) xs).size=(jQ ps args tm).length∧∀(t:Nat) (p:PV),(jQ ps args tm)[t]?=some p→R p (((ps.zip vs).foldl (λt (p,v)=>t.setIfInBounds p v) xs).getD t undef)
 | [],args,vs,tm,xs,_,hs,h,_=>by cases args<;>exact⟨hs,h⟩
 | p::ps,[],vs,tm,xs,hl,hs,h,_=>by
  have:vs=[]:=by cases vs<;>simp_all
  subst this
  exact⟨hs,h⟩
 | p::ps,q::args,[],tm,xs,hl,hs,h,_=>by simp at hl
 | p::ps,q::args,v::vs,tm,xs,hl,hs,h,ha=>by
  simp only[jQ,List.zip_cons_cons,List.foldl_cons]
  refine Gz acJ ps args vs (tm.set p q) (xs.setIfInBounds p v) (by simpa using hl) (by simpa using hs) (λt r hr=>?_) (λi r u h1 h2=>ha (i+1) r u (by simpa using h1) (by simpa using h2))
  rw[qf]
  rw[List.getElem?_set]at hr
  by_cases hpt:p=t
  ·subst hpt
   rw[if_pos rfl]at hr
   split at hr
   ·cases hr
    rename_i hlt
    rw[if_pos ⟨rfl,by omega⟩]
    exact ha 0 q v rfl rfl
   ·cases hr
  ·rw[if_neg hpt]at hr
   rw[if_neg (λe=>hpt e.1)]
   exact h t r hr
theorem iZ{w:World}{k:Nat}{o o':Go.Obj}(ho:w.heap[k]?=some o)(hn:¬ iF o):∀(j:Nat) x,w.heap[j]?=some x→iF x→(w.putObj k o').heap[j]?=some x:=by
 intro j x hx hc
 rw[World.putObj_heap_other (λe=>hn (by subst e;rw[ho]at hx;cases hx;exact hc))]
 exact hx
def E0(n l0:Nat):Env:=λ_ ah V=>∀w0,V w0→w0.nx≤n∧ah l0∧∃r,w0.heap[l0]?=some (.loop r)
theorem Od{le:Nat→Nat→Prop}{l:Option Nat}{f:Operand}{ps:List Nat}{x y:Code}{fz:Option (Nat×Nat)}{g:FuncId}{cap:List PV}{ys:List (List PV)}{I:Nat→List Obj→Prop}
  (hg:QV le P g cap ys) (hys:∀y∈ys,y.length=ps.length) (hI0:I 0 S.objs) (jm:∀i objs,I i objs→le S.objs.length objs.length∧bJ objs) (R:Rel base ah w0 S blk a w) (hl:∀l1,l=some l1→∃r,w.heap[l1]?=some (.loop r)) (hf:S.ev f=.fn g [] cap) (hcap:cap.all PV.pure=true) (hfz:Dj S.objs.length fz)
  (kS:∀i args objs,I i objs→ys[i]?=some args→∀l0,PW P (some l0) (E0 S.objs.length l0) x (thenS (λS1=>PW P (some l0) (E0 S.objs.length l0) y (Gv fz (I (i+1))) S1) (λ_ _=>False)) ⟨jQ ps args S.tmps,objs⟩) :
  (Code.rangeFunc f ps.toArray x y).wpIn (Bp l) 0 P (λe a' w'=>∃ai au,e=.normal∧I ys.length ai∧Rel base ah w0 ⟨S.tmps,ai⟩ au a' w') a w:=by
 refine wpIn_rangeFunc λfn _=>?_
 have GA:=R.ev f
 rw[hf]at GA
 obtain⟨va,vc,hv,r1,r2⟩:=GA
 have hva:va=[]:=List.eq_nil_of_length_eq_zero r1.1.symm
 subst hva
 obtain⟨D0,l0,Dn,W1,hent,hL1,qx,hs1,hwl,hDn,UQ⟩:=Kr (P:=P) (l:=l) w fn a.tmps ps.toArray x y hl
 obtain⟨rec,hrec⟩:∃rec:LoopState→Loop,rec=λst=>{ state:=st,pending:=none,fn,tmps:=a.tmps,params:=ps.toArray,assign:=x,body:=y,defers:=D0 }:=⟨_,rfl⟩
 have hL1:W1.heap[l0]?=some (.loop (rec .ready)):=by rw[hrec];exact hL1
 have hnl:∀k,w.heap.size≤k→aJ S.objs blk k:=λk hk j o h1 h2 h3=>by
  have:=uw R.objs h1 h2 h3;omega
 obtain⟨⟨fng,hfn,hname,hbody⟩,hgive⟩:=hg
 refine⟨l0,Dn.map λb=>{ target:=.collected b,args:=#[] },W1,{ target:=.fn (.func g) ⟨vc⟩,args:=#[.func (.yield l0) #[] #[]] },W1,g,
  ⟨.func (.yield l0) #[] #[]::vc⟩,W1,hent,?_,λ_ _=>trivial,?_,(λh=>by cases h),?_⟩
 ·simp only[resolve,hv]
  simp[go_sem]
 ·have e1:(#[.func (.yield l0) #[] #[]]:Array Value)++Array.mk vc=Array.mk (.func (.yield l0) #[] #[]::vc):=by apply Array.ext';simp
  simp only[invoke,callFunc,run_program,Sem.run_bind,Result.andThen_ok,hfn,hname,hbody,Bool.false_eq_true,if_false,Sem.run_pure]
  rw[e1]
 ·rw[show (0-1:Nat)=0 from rfl]
  refine sJ ?_ l
  obtain⟨iB,hprot2⟩:∃iB:Nat→Prop,iB=λb=>b<W1.heap.size∧aJ S.objs blk b:=⟨_,rfl⟩
  obtain⟨WW,hxs2⟩:∃WW,WW=pairs S.tmps a.tmps++w0.xs:=⟨_,rfl⟩
  obtain⟨z0,hz0⟩:∃z0:Wz,z0=⟨W1.heap,WW,S.objs.length,w⟩:=⟨_,rfl⟩
  have GD:iB l0:=by rw[hprot2];exact⟨by omega,hnl _ hwl⟩
  have hpD:∀b∈Dn,iB b:=λb hb=>by rw[hprot2];have:=UQ b hb;exact⟨by omega,hnl _ this.1⟩
  have UR:=R.grew qx
  have abk:∀b,¬ iB b→base b:=by
   intro b hb
   rw[hprot2]at hb
   by_cases h:ah b
   ·exact absurd ⟨lt_of_lt_of_le (R.pr b h) (le_trans R.gr (by omega)),λk o h1 h2 h3=>R.objs.np k o b h1 h2 h3 h⟩ hb
   ·exact R.pb b h
  have abl:∀k o g,S.objs[k]?=some o→o.live=true→blk k=some g→¬ iB g:=by
   intro k o g h1 h2 h3 h4
   rw[hprot2]at h4
   exact h4.2 k o h1 h2 h3
  have hext:∀x∈WW,aR W1 (bA base S.objs blk) S.objs blk x.1 x.2:=by
   intro x hx
   rw[hxs2]at hx
   rcases List.mem_append.1 hx with hx | hx
   ·obtain⟨t,h1,h2⟩:=yG hx
    rw[←h2]
    exact UR.tm t x.1 h1
   ·exact UR.ext x hx
  have acK:∀b∈mI.blocks,b<w.heap.size:=λb hb=>lt_of_lt_of_le (R.pr b (R.gl.2 b hb)) R.gr
  have I6:∀b∈mI.blocks,iB b:=λb hb=>by
   rw[hprot2];exact⟨by have:=acK b hb;omega,λk o h1 h2 h3=>R.objs.np k o b h1 h2 h3 (R.gl.2 b hb)⟩
  have abm:Rel base iB z0 ⟨[],S.objs⟩ blk wR W1:=by
   rw[hz0]
   exact⟨.nil _ _,rfl,λt p hp=>by simp at hp,⟨UR.objs.ob,R.objs.Bd,abl⟩,λb hb=>by rw[hprot2]at hb;exact hb.1,λ_ _=>rfl,Nat.le_refl _,abk,hext,λx hx=>uK (hext x hx),qx.2.2,⟨UR.lu,I6⟩⟩
  have hcapR:bG (cu W1 (bA base S.objs blk)) cap vc:=by
   refine⟨r2.1,λi p v hp hv=>?_⟩
   have hpp:=List.all_eq_true.1 hcap p (List.mem_of_getElem? hp)
   have h1:aR w (bA base S.objs blk) S.objs blk p v:=.eU (r2.2 i p v hp hv)
   exact (h1.zD hpp).mono qx.1 (λ_ _ h=>h) (λb x _ h=>qx.2.1 b x h)
  have abn:I4 P iB (λz=>z=z0) (λb=>b=l0) l0 (IK ys I λ_ _=>False):=by
   rintro bP iN w2 args vs K jY iM H z rfl hfit hsub R2 hargs ⟨i,hIi,hyi,hK,_⟩
   rw[hz0]at R2
   have hL2:w2.heap[l0]?=some (.loop (rec .ready)):=(R2.fr l0 (hsub l0 GD)).trans ((hfit.at' l0 GD).2.trans (by rw[hz0];exact hL1))
   have hlen:args.length=ps.length:=hys args (List.mem_of_getElem? hyi)
   refine⟨rec .ready,hL2,by rw[hrec];simp[←hargs.1,hlen],λb hb=>⟨_,hb ▸ hL2⟩,?_⟩
   refine roundIn_of_wpIn trivial ?_
   have hlt2:l0<w2.heap.size:=(Array.getElem?_eq_some_iff.1 hL2).1
   obtain⟨dZ,hprot3⟩:∃dZ:Nat→Prop,dZ=λb=>b<w2.heap.size∧aJ bP iN b:=⟨_,rfl⟩
   have h23:∀b,iM b→dZ b:=by
    intro b hb
    rw[hprot3]
    exact⟨lt_of_lt_of_le (R2.pr b hb) R2.gr,λk o h1 h2 h3=>R2.objs.np k o b h1 h2 h3 hb⟩
   have WX:∀b,¬ dZ b→jY b:=λb hb=>R2.pb b λh=>hb (h23 b h)
   have abo:∀k o g,bP[k]?=some o→o.live=true→iN k=some g→¬ dZ g:=by
    intro k o g h1 h2 h3 h4
    rw[hprot3]at h4
    exact h4.2 k o h1 h2 h3
   obtain⟨Za,htm0⟩:∃Za,Za=(((rec .ready).params.zip (⟨vs⟩:Array Value)).foldl (λt (p,v)=>t.setIfInBounds p v) (rec .ready).tmps):=⟨_,rfl⟩
   rw[←htm0]
   have Oe:Za=(ps.zip vs).foldl (λt (p,v)=>t.setIfInBounds p v) a.tmps:=by
    rw[htm0,hrec]
    simp only[]
    rw[←Array.foldl_toList]
    simp
   have hset:=Gz (R:=aR w2 (bA jY bP iN) bP iN) (λv=>.dead v) ps args vs S.tmps a.tmps hargs.1 R.Fj
    (λt p hp=>R2.ext (p,a.tmps.getD t undef) (by show _∈WW;rw[hxs2];exact mem_append_left _ (yH R.Fj hp))) (λi p v h1 h2=>.aI (hargs.2 i p v h1 h2))
   have hp3:dZ l0:=h23 l0 (hsub l0 GD)
   have Rr:Rel jY dZ ⟨w2.heap,WW,S.objs.length,w⟩ ⟨jQ ps args S.tmps,bP⟩ iN { tmps:=Za,defers:=[] } w2:=by
    refine⟨.nil _ _,by rw[Oe];exact hset.1,λt p hp=>by rw[Oe];exact hset.2 t p hp,⟨R2.objs.ob,R2.objs.Bd,abo⟩,λb hb=>by rw[hprot3]at hb;exact hb.1,λ_ _=>rfl,Nat.le_refl _,WX,R2.ext,R2.Ab,R2.sm,⟨R2.lu,λb hb=>h23 b (hsub b (I6 b hb))⟩⟩
   have LJ:=kS i args bP hIi hyi l0 jY dZ (λz=>z=⟨w2.heap,WW,S.objs.length,w⟩) (by rintro z rfl;exact⟨Nat.le_refl _,hp3,_,hL2⟩) iN _ w2 ⟨_,rfl,Rr⟩
   rw[show (rec .ready).assign=x by rw[hrec],show (rec .ready).body=y by rw[hrec]]
   change x.wpIn (Bp (some l0)) 0 P _ _ _
   refine wpIn_mono LJ ?_
   rintro e a3 w3 ⟨S3,blk3,he,z,rfl,R3⟩
   cases e with
   | normal=>
    have hL3:w3.heap[l0]?=some (.loop (rec .ready)):=(R3.fr l0 hp3).trans hL2
    refine⟨_,run_beginRound hL3 (by rw[hrec]),?_⟩
    have WY:({ rec .ready with state:=.busy }:Loop)=rec .busy:=by rw[hrec]
    rw[WY]
    obtain⟨w4,hw4⟩:∃w4,w4=w3.putObj l0 (.loop (rec .busy)):=⟨_,rfl⟩
    rw[←hw4]
    have hnc:∀st,¬ iF (.loop (rec st)):=by rintro st (⟨c,t,y,h⟩ | ⟨es,n,h⟩ | ⟨_,_,_,_,h⟩)<;>cases h
    have QW:∀(k:Nat) x,w3.heap[k]?=some x→iF x→w4.heap[k]?=some x:=by rw[hw4];exact iZ hL3 (hnc _)
    have hs4:w4.heap.size=w3.heap.size:=by rw[hw4];exact World.putObj_size
    have ho4:∀k:Nat,k≠l0→w4.heap[k]?=w3.heap[k]?:=λk hk=>by rw[hw4];exact World.putObj_heap_other hk
    have abp:l0<w3.heap.size:=(Array.getElem?_eq_some_iff.1 hL3).1
    have hL4:w4.heap[l0]?=some (.loop (rec .busy)):=by rw[hw4];exact World.putObj_heap_same abp
    have abq:∀b,dZ b→b<w2.heap.size:=λb hb=>by rw[hprot3]at hb;exact hb.1
    have ad6:w2.heap.size≤w3.heap.size:=R3.gr
    have R4:Rel jY dZ ⟨w4.heap,WW,S.objs.length,w⟩ S3 blk3 a3 w4:=by
     refine⟨?_,R3.Fj,λt p hp=>gu (R3.tm t p hp) (le_of_eq hs4.symm) QW,R3.objs.cells (le_of_eq hs4.symm) QW R3.objs.np,λb hb=>?_,λ_ _=>rfl,Nat.le_refl _,WX,λx hx=>gu (R3.ext x hx) (le_of_eq hs4.symm) QW,R3.Ab,R3.sm.trans (by rw[hw4];exact⟨rfl,rfl⟩),⟨mI.keep (λb hb=>ho4 b (by have:=acK b hb;omega)) R3.lu,λb hb=>h23 b (hsub b (I6 b hb))⟩⟩
     ·obtain⟨Ds,h1,h2,h3⟩:=R3.o7
      refine⟨Ds,h1,h2,λb hb=>?_⟩
      rw[ho4 b (λe=>(h3 b hb).2.2 (e ▸ hp3))]
      exact h3 b hb
     ·have:=abq b hb;show b<w4.heap.size;omega
    have hbody:=he jY dZ (λz=>z=⟨w4.heap,WW,S.objs.length,w⟩) (by rintro z rfl;exact⟨Nat.le_refl _,hp3,_,hL4⟩) blk3 a3 w4 ⟨_,rfl,R4⟩
    refine wpIn_mono hbody ?_
    rintro e a5 w5 ⟨S5,blk5,he5,z,rfl,R5⟩
    cases e with
    | normal=>
     have hL5:w5.heap[l0]?=some (.loop (rec .busy)):=(R5.fr l0 hp3).trans hL4
     refine⟨_,_,run_endRound none hL5,?_⟩
     have QX:({ rec .busy with state:=if (none:Option Code).isNone then .ready else .done,pending:=none }:Loop)=rec .ready:=by rw[hrec];rfl
     rw[QX]
     obtain⟨w6,I7⟩:∃w6,w6=w5.putObj l0 (.loop (rec .ready)):=⟨_,rfl⟩
     rw[←I7]
     obtain⟨QY,R6⟩:=Weak.norm (m:=S.objs.length) [] fz hfz S5 jY dZ _ blk5 a5 w5 (Nat.le_refl _) R5
     have Og:∀(k:Nat) x,w5.heap[k]?=some x→iF x→w6.heap[k]?=some x:=by rw[I7];exact iZ hL5 (hnc _)
     have hs6:w6.heap.size=w5.heap.size:=by rw[I7];exact World.putObj_size
     have ho6:∀k:Nat,k≠l0→w6.heap[k]?=w5.heap[k]?:=λk hk=>by rw[I7];exact World.putObj_heap_other hk
     have hl5:l0<w5.heap.size:=(Array.getElem?_eq_some_iff.1 hL5).1
     have ad7:w4.heap.size≤w5.heap.size:=R5.gr
     have hall:∀b,dZ b→w6.heap[b]?=w2.heap[b]?:=by
      intro b hb
      by_cases hbl:b=l0
      ·subst hbl
       rw[hL2,I7,World.putObj_heap_same hl5]
      ·rw[ho6 b hbl,R5.fr b hb]
       show w4.heap[b]?=_
       rw[ho4 b hbl]
       exact R3.fr b hb
     refine⟨true,(S5.norm [] fz).objs,QY,z,H,rfl,hK _ he5,rfl,Nat.le_refl _,hfit,rfl,λ_ _=>rfl,?_⟩
     rw[hz0]
     refine⟨.nil _ _,rfl,λt p hp=>by simp at hp,R6.objs.cells (le_of_eq hs6.symm) Og (λk o g h1 h2 h3 h4=>R6.objs.np k o g h1 h2 h3 (h23 g h4)),R2.pr,λb hb=>?_,?_,R2.pb,λx hx=>gu (R6.ext x hx) (le_of_eq hs6.symm) Og,R2.Ab,R6.sm.trans (by rw[I7];exact⟨rfl,rfl⟩),R2.gl⟩
     ·rw[hall b (h23 b hb)];exact R2.fr b hb
     ·have:=R2.gr;show H.size≤w6.heap.size;simp only at this;omega
    | _=>exact he5.elim
   | _=>exact he.elim
  refine Calls.mono (hgive I (λ_ _=>False) base iB (λz=>z=z0) (λb=>b=l0) l0 S.objs blk W1 vc abn (λb hb=>by subst hb;exact⟨GD,λz hz=>⟨rec .ready,by rw[hz,hz0];exact hL1⟩⟩) (λz hz=>by rw[hz,hz0];exact Nat.le_refl _) ⟨_,rfl,abm⟩ hI0 jm (λ_ _ h=>h.elim) hcapR) ?_
  rintro e w3 ⟨ai,au,rfl,hIJ,z,rfl,R3⟩
  have hI:I ys.length ai:=hIJ.resolve_right λ⟨_,_,h⟩=>h
  rw[hz0]at R3
  have hL3:w3.heap[l0]?=some (.loop (rec .ready)):=(R3.fr l0 GD).trans hL1
  have hnc:¬ iF (.loop (rec .ready)):=by rintro (⟨c,t,y,h⟩ | ⟨es,n,h⟩ | ⟨_,_,_,_,h⟩)<;>cases h
  have hend:=run_endLoop (P:=P) hL3 (by rw[hrec];simp)
  refine⟨none,w3.putObj l0 (.loop { rec .ready with state:=.exhausted }),by rw[hend,hrec],?_⟩
  simp only[]
  have hcl:=iZ (o':=.loop { rec .ready with state:=.exhausted }) hL3 hnc
  have hsz:(w3.putObj l0 (.loop { rec .ready with state:=.exhausted })).heap.size=w3.heap.size:=World.putObj_size
  have hle:w.heap.size≤w3.heap.size:=by have:=R3.gr;simp only at this;omega
  have hother:∀k:Nat,k≠l0→(w3.putObj l0 (.loop { rec .ready with state:=.exhausted })).heap[k]?=w3.heap[k]?:=λk hk=>World.putObj_heap_other hk
  have hkeep:∀b,b<w.heap.size→aJ S.objs blk b→aJ ai au b:=by
   intro b hb hnb k o h1 h2 h3
   refine R3.objs.np k o b h1 h2 h3 ?_
   rw[hprot2];exact⟨by omega,hnb⟩
  have hsame:∀b,b<w.heap.size→aJ S.objs blk b→(w3.putObj l0 (.loop { rec .ready with state:=.exhausted })).heap[b]?=w.heap[b]?:=by
   intro b hb hnb
   rw[hother b (by omega),R3.fr b (by rw[hprot2];exact⟨by omega,hnb⟩)]
   have hbx:w.heap[b]?=some (w.heap[b]):=Array.getElem?_eq_getElem hb
   show W1.heap[b]?=_
   rw[qx.2.1 b _ hbx,hbx]
  have hpn:∀b,ah b→b<w.heap.size∧aJ S.objs blk b:=λb hb=>⟨lt_of_lt_of_le (R.pr b hb) R.gr,λk o h1 h2 h3=>R.objs.np k o b h1 h2 h3 hb⟩
  have abr:∀k o g,ai[k]?=some o→o.live=true→au k=some g→¬ ah g:=λk o g h1 h2 h3 h4=>hkeep g (hpn g h4).1 (hpn g h4).2 k o h1 h2 h3
  refine⟨ai,au,trivial,hI,?_,R.Fj,λt p hp=>?_,R3.objs.cells (le_of_eq hsz.symm) hcl abr,R.pr,λb hb=>?_,le_trans R.gr (by rw[hsz];exact hle),R.pb,λx hx=>?_,R.Ab,(R.sm.trans R3.sm).trans ⟨rfl,rfl⟩,R.gl⟩
  ·obtain⟨Ds,h1,h2,h3⟩:=R.o7
   refine⟨Dn++Ds,by simp[h1],List.nodup_append.2 ⟨hDn,h2,λp hp q hq e=>?_⟩,λb hb=>?_⟩
   ·subst e
    have:=(Array.getElem?_eq_some_iff.1 (h3 _ hq).1).1;have:=(UQ p hp).1;omega
   ·rcases List.mem_append.1 hb with hb | hb
    ·have hD3:w3.heap[b]?=some (.deferred (some [])):=(R3.fr b (hpD b hb)).trans (UQ b hb).2.2
     refine⟨by rw[hother _ (by have:=(UQ b hb).2.1;omega)];exact hD3,⟨R.bs _ (le_trans R.gr (UQ b hb).1),λk o h1 h2 h3=>R3.objs.np k o _ h1 h2 h3 (hpD b hb)⟩,λhp=>by have:=(hpn _ hp).1;have:=(UQ b hb).1;omega⟩
    ·obtain⟨q1,q2,q3⟩:=h3 b hb
     have hbs:=(Array.getElem?_eq_some_iff.1 q1).1
     exact⟨by rw[hsame b hbs q2.2];exact q1,⟨q2.1,hkeep b hbs q2.2⟩,q3⟩
  ·exact gu (R3.ext (p,a.tmps.getD t undef) (by show _∈WW;rw[hxs2];exact mem_append_left _ (yH R.Fj hp))) (le_of_eq hsz.symm) hcl
  ·rw[hsame b (hpn b hb).1 (hpn b hb).2];exact R.fr b hb
  ·exact gu (R3.ext x (by show _∈WW;rw[hxs2];exact mem_append_right _ hx)) (le_of_eq hsz.symm) hcl
theorem Kt(k:Nat)(O:List Obj):(fT k O).length=O.length:=by simp[fT]
theorem pW{k j:Nat}{O:List Obj}(h1:j≠k)(h2:j≠k+1):(fT k O)[j]?=O[j]?:=by
 unfold fT
 rw[List.getElem?_set,if_neg (λe=>h2 e.symm),List.getElem?_set,if_neg (λe=>h1 e.symm)]
theorem Fw{k:Nat}{O:List Obj}(h:k+1<O.length):(fT k O)[k]?=some hole:=by
 unfold fT
 rw[List.getElem?_set,if_neg (by omega),List.getElem?_set];simp;omega
theorem LK{k:Nat}{O:List Obj}(h:k+1<O.length):(fT k O)[k+1]?=some wC:=by
 unfold fT
 rw[List.getElem?_set];simp;omega
def lW(k:Nat)(blk:Nat→Option Nat):Nat→Option Nat:=λj=>if j=k+1 then none else blk j
theorem BI{k b:Nat}{O:List Obj}{bl:Nat→Option Nat}(hk:k+1<O.length)(h:aJ O bl b):aJ (fT k O) (lW k bl) b:=by
 intro j o h1 h2 h3
 by_cases e2:j=k+1
 ·subst e2;simp[lW]at h3
 ·by_cases e1:j=k
  ·subst e1;rw[Fw hk]at h1;cases h1;cases h2
  ·rw[pW e1 e2]at h1
   refine h j o h1 h2 ?_
   simpa[lW,e2] using h3
theorem sO{k:Nat}{O:List Obj}{bl:Nat→Option Nat}{p:PV}{v:Value}{ok ok':Nat→Prop}(hp:p.qd k=true)(hok:∀b,ok b→ok' b)(h:aY w ok O bl p v):aY w ok' (fT k O) (lW k bl) p v:=by
 have hm:∀q:PV,cu w ok q v→cu w ok' q v:=λq hq=>hq.mono (Nat.le_refl _) (λb _ h=>hok b h) (λ_ _ _ h=>h)
 cases p with
 | aZ j ver=>
  have hj:j<k:=by simpa[PV.qd] using hp
  obtain⟨h0,o,h1,h2,h3⟩:=h
  refine⟨h0,o,by rw[pW (by omega) (by omega)];exact h1,h2,λe1 e2=>?_⟩
  obtain⟨hM,hh⟩:=h3 e1 e2
  refine⟨hM,?_⟩
  unfold wB at hh ⊢
  rw[show lW k bl j=bl j by simp[lW];omega]
  exact hh
 | bq j ver i f=>
  have hj:j<k:=by simpa[PV.qd] using hp
  obtain⟨h0,o,h1,h2,h3⟩:=h
  refine⟨h0,o,by rw[pW (by omega) (by omega)];exact h1,h2,λe1 e2=>?_⟩
  rw[show lW k bl j=bl j by simp[lW];omega]
  exact h3 e1 e2
 | gI j ver=>
  have hj:j<k:=by simpa[PV.qd] using hp
  obtain⟨h0,o,h1,h2,h3⟩:=h
  refine⟨h0,o,by rw[pW (by omega) (by omega)];exact h1,h2,λe1 e2=>?_⟩
  rw[show lW k bl j=bl j by simp[lW];omega]
  exact h3 e1 e2
 | _=>exact hm _ h
theorem UU{k:Nat}{O:List Obj}{bl:Nat→Option Nat}{p:PV}{v:Value}{ok ok':Nat→Prop}(hp:p.lt k=true)(hok:∀b,ok b→ok' b)(h:aR w ok O bl p v):aR w ok' (fT k O) (lW k bl) p v:=by
 have hl:∀(cs:List PV) (vs:List Value),cs.all (PV.qd k)=true→bG (aY w ok O bl) cs vs→bG (aY w ok' (fT k O) (lW k bl)) cs vs:=
  λcs vs hc h=>⟨h.1,λi p u h1 h2=>sO (List.all_eq_true.1 hc p (List.mem_of_getElem? h1)) hok (h.2 i p u h1 h2)⟩
 cases p with
 | fn f a c=>
  simp only[PV.lt,Bool.and_eq_true]at hp
  obtain⟨va,vc,rfl,h1,h2⟩:=h
  exact⟨va,vc,rfl,hl _ _ hp.1 h1,hl _ _ hp.2 h2⟩
 | bI cs=>obtain⟨us,rfl,h1⟩:=h;exact⟨us,rfl,hl _ _ hp h1⟩
 | agg cs=>obtain⟨us,rfl,h1⟩:=h;exact⟨us,rfl,hl _ _ hp h1⟩
 | aZ j ver=>exact sO (p:=.aZ j ver) hp hok h
 | bq j ver i f=>exact sO (w:=w) (p:=.bq j ver i f) hp hok h
 | gI j ver=>exact sO (w:=w) (p:=.gI j ver) hp hok h
 | _=>exact .eU (sO rfl hok (by exact h))
theorem UW{k:Nat}{O:List Obj}{bl:Nat→Option Nat}{iM:Nat→Prop}(R:cK base iM O bl w)(hk:k+1<O.length)(hn:bD O)(hA:O[k]?=some wC) :
  cK base iM (fT k O) (lW k bl) w:=by
 have hok:∀b,bA base O bl b→bA base (fT k O) (lW k bl) b:=λb h=>⟨h.1,BI hk h.2⟩
 have get:∀(j:Nat) (o:Obj),(fT k O)[j]?=some o→o.live=true→(j=k+1∧o=wC)∨(j≠k∧j≠k+1∧O[j]?=some o∧lW k bl j=bl j):=by
  intro j o h1 h2
  by_cases e2:j=k+1
  ·subst e2;rw[LK hk]at h1;cases h1;exact .inl ⟨rfl,rfl⟩
  ·by_cases e1:j=k
   ·subst e1;rw[Fw hk]at h1;cases h1;cases h2
   ·rw[pW e1 e2]at h1;exact .inr ⟨e1,e2,h1,by simp[lW,e2]⟩
 have hB:lW k bl (k+1)=none:=by simp[lW]
 refine⟨λj o h1 h2=>?_,λj j' o o' g hne h1 h2 h3 h4 h5 h6=>?_,λj o g h1 h2 h3=>?_⟩
 ·rcases get j o h1 h2 with ⟨rfl,rfl⟩ | ⟨e1,e2,h1',hb⟩
  ·unfold bE;rw[hB];rfl
  ·have hh:=R.ob j o h1' h2
   unfold bE at hh ⊢
   rw[hb]
   cases hbj:bl j with
   | none=>rw[hbj]at hh;exact hh
   | some g=>
    rw[hbj]at hh
    obtain⟨c,x1,x2,x3⟩:=hh
    refine⟨c,x1,x2,λi x hx=>⟨(x3 i x hx).1,λq p hp=>?_⟩⟩
    obtain⟨u,y1,y2⟩:=(x3 i x hx).2 q p hp
    exact⟨u,y1,.aI ((y2.zD (hn o (List.mem_of_getElem? h1') x (List.mem_of_getElem? hx) p (List.mem_of_getElem? hp))).o_ λb _ hb=>hok b hb)⟩
 ·rcases get j o h1 h2 with ⟨rfl,rfl⟩ | ⟨_,_,h1',hb⟩
  ·rw[hB]at h5;cases h5
  ·rcases get j' o' h3 h4 with ⟨rfl,rfl⟩ | ⟨_,_,h3',hb'⟩
   ·rw[hB]at h6;cases h6
   ·rw[hb]at h5;rw[hb']at h6
    exact R.Bd j j' o o' g hne h1' h2 h3' h4 h5 h6
 ·rcases get j o h1 h2 with ⟨rfl,rfl⟩ | ⟨_,_,h1',hb⟩
  ·rw[hB]at h3;cases h3
  ·rw[hb]at h3;exact R.np j o g h1' h2 h3
theorem QZ(A B:Array Go.Obj)(p:Nat→Prop)(h:A.size≤B.size):∃H:Array Go.Obj,H.size=A.size∧(∀b,b<A.size→p b→H[b]?=B[b]?)∧∀b,¬ p b→H[b]?=A[b]?:=by
 classical
 have key:∀b,((Array.range A.size).map λb=>(if p b then B[b]? else A[b]?).getD default)[b]?=if b<A.size then some ((if p b then B[b]? else A[b]?).getD default) else none:=by
  intro b
  rw[Array.getElem?_map,Array.getElem?_range]
  split<;>rfl
 refine⟨(Array.range A.size).map λb=>(if p b then B[b]? else A[b]?).getD default,by simp,λb hb hp=>?_,λb hp=>?_⟩
 ·rw[key,if_pos hb,if_pos hp,Array.getElem?_eq_getElem (by omega)];rfl
 ·rw[key,if_neg hp]
  split
  ·rename_i hb;rw[Array.getElem?_eq_getElem hb];rfl
  ·rename_i hb;rw[Array.getElem?_eq_none (by omega)]
def fam(ah:Nat→Prop)(V:Wz→Prop)(ex:Nat→Prop)(M:Nat)(h0:Array Go.Obj)(xs:List (PV×Value))(N:Nat):Wz→Prop:=λz3=>
 ∃zf,V zf∧uJ ah zf z3.heap∧zf.heap.size≤M∧(∀x∈zf.xs,x.1.lt zf.nx=true)∧Sm zf.out z3.out∧z3.xs=xs++zf.xs∧z3.nx=N∧z3.heap.size=h0.size∧∀b,¬ ex b→z3.heap[b]?=h0[b]?
theorem WZ{fB dZ:Nat→Prop}{V V0:Wz→Prop}{ex:Nat→Prop}{n M N:Nat}{h0:Array Go.Obj}{xs:List (PV×Value)}(hsub:∀b,ah b→dZ b)(hxs:∀x∈xs,x.1.ge n=true)(hnx:∀z,V0 z→z.nx≤N)
  (hW:ET ex fB V0 n ah V) (hM:M≤h0.size):ET ex fB V0 n dZ (fam ah V ex M h0 xs N):=by
 refine⟨λb hb=>hsub b (hW.1 b hb),λz3 w hz3 hf3 hx3 hs3=>?_⟩
 obtain⟨zf,YC,GA,hfM,hxf,hsf,ex1,en1,es1,eh1⟩:=hz3
 have hfw:uJ ah zf w.heap:=⟨λb hb=>⟨(GA.at' b hb).1,(hf3.at' b (hsub b hb)).2.trans (GA.at' b hb).2⟩,le_trans GA.le hf3.le,GA.gl⟩
 obtain⟨z,hz,hf,hx,hs,hup⟩:=hW.2 zf w YC hfw hxf (hsf.trans hs3)
 refine⟨z,hz,hf,λx h=>⟨by rw[ex1];exact mem_append_right _ (hx x h).1,(hx x h).2⟩,hs,λzn w' hzn hzs hfn hxn hk hsz hsn=>?_⟩
 obtain⟨wn,hwn,hws,hwf,hwx,ad8⟩:=hup zn w' hzn hzs hfn hxn (λb hb hne=>hk b (hsub b hb) hne) hsz hsn
 obtain⟨h,q1,q2,q3⟩:=QZ z3.heap w'.heap ex (by have:=hf3.le;omega)
 have hat:∀b,dZ b→w'.heap[b]?=h[b]?:=λb hb=>by
  classical
  by_cases he:ex b
  ·rw[q2 b (hf3.at' b hb).1 he]
  ·rw[q3 b he,hk b hb he];exact (hf3.at' b hb).2
 refine⟨⟨h,xs++wn.xs,N,w'⟩,⟨wn,hwn,⟨λb hb=>⟨(hwf.at' b hb).1,by rw[←hat b (hsub b hb)];exact (hwf.at' b hb).2⟩,?_,hwf.gl⟩,le_trans hws hfM,λx h=>?_,ad8,rfl,rfl,q1.trans es1,λb hb=>(q3 b hb).trans (eh1 b hb)⟩,le_of_eq q1,⟨λb hb=>⟨?_,hat b hb⟩,?_,?_,hf3.gl.2⟩,λx h=>?_,.refl _⟩
 ·show wn.heap.size≤h.size;omega
 ·rcases hwx x h with ⟨h1,h2⟩ | ⟨h1,h2,_⟩
  ·exact ou h2 (hxn x h1)
  ·exact ou h2 (hxf x h1)
 ·show b<h.size;rw[q1];exact (hf3.at' b hb).1
 ·show h.size≤_;have:=hf3.le;omega
 ·refine mI.keep (λb hb=>?_) hwf.gl.1
  show h[b]?=_
  rw[←hat b (hf3.gl.2 b hb)];exact (hwf.at' b (hwf.gl.2 b hb)).2
 ·rcases List.mem_append.1 h with h | h
  ·exact .inr ⟨by rw[ex1];exact mem_append_left _ h,by rw[en1];exact Nat.le_refl _,hxs x h⟩
  ·rcases hwx x h with ⟨h1,_⟩ | ⟨h1,_,h3⟩
   ·exact .inl ⟨h1,hnx zn hzn⟩
   ·exact .inr ⟨by rw[ex1];exact mem_append_right _ h1,by rw[en1];exact Nat.le_refl _,h3⟩
def E2(ah:Nat→Prop)(V:Wz→Prop)(ex:Nat→Prop)(tm:List PV)(k N l0:Nat):Env:=λ_ dZ V3=>
 (∀z,V3 z→z.nx≤N∧dZ l0∧∃r,z.heap[l0]?=some (.loop r))∧ow ex dZ V3∧
 ∀(n:Nat) (fB:Nat→Prop) (V0:Wz→Prop),n≤k→(∀p∈tm,p.ge n=true)→(∀z,V0 z→z.nx≤n)→ET ex fB V0 n ah V→ET ex fB V0 n dZ V3
theorem Ku{l:Option Nat}{ex0:Nat→Prop}{V:Wz→Prop}{f:Operand}{ps:List Nat}{x y:Code}{fz:Option (Nat×Nat)}{g:FuncId}{cap:List PV}{ys:List (List PV)}{I J:Nat→List Obj→Prop}{lv:Exit}{lc:Code}
  (hg:Gives P g cap ys) (hys:∀y∈ys,y.length=ps.length) (hlv:Af lv=some lc) (hI0:I 0 (S.objs++[wC,hole])) (jm:∀i objs,I i objs→Gh S.objs.length objs) (jJ:∀i objs,J i objs→Gh S.objs.length objs∧bD objs) (hV:V w0) (R:Rel base ah w0 S blk a w)
  (hl:∀l1,l=some l1→∃r,w.heap[l1]?=some (.loop r)) (Q0:ow ex0 ah V) (hnx:∀z,V z→∀x∈z.xs,x.1.lt z.nx=true→x.1.lt S.objs.length=true) (hf:S.ev f=.fn g [] cap) (hcap:cap.all PV.pure=true) (hfz:Dj (S.objs.length+2) fz)
  (kS:∀i args objs,I i objs→ys[i]?=some args→∀l0,PW P (some l0) (E2 ah V ex0 S.tmps S.objs.length (S.objs.length+2) l0) x (thenS (λS1=>PW P (some l0) (E2 ah V ex0 S.tmps S.objs.length (S.objs.length+2) l0) y (BG fz (I (i+1)) lv (J i)) S1) (λ_ _=>False)) ⟨jQ ps args S.tmps,objs⟩) :
  (Code.rangeFunc f ps.toArray x y).wpIn (Bp l) 0 P (λe a' w'=>∃ai au,((e=.normal∧I ys.length ai)∨(e=lv∧∃i O,i<ys.length∧J i O∧ai=fT S.objs.length O))∧jW base ah V ⟨S.tmps,ai⟩ au a' w') a w:=by
 refine wpIn_rangeFunc λfn _=>?_
 have acL:∀t:Nat,∀p,S.tmps[t]?=some p→p.lt S.objs.length=true:=λt p hp=>uK (R.tm t p hp)
 obtain⟨k,hk⟩:∃k,k=S.objs.length:=⟨_,rfl⟩
 have GA:=R.ev f
 rw[hf]at GA
 obtain⟨va,vc,hv,r1,r2⟩:=GA
 have hva:va=[]:=List.eq_nil_of_length_eq_zero r1.1.symm
 subst hva
 obtain⟨Ag,RG,acM⟩:∃Ag,Rel base ah w0 ⟨S.tmps,S.objs++[wC,hole]⟩ Ag a w∧∀b,aJ S.objs blk b→aJ (S.objs++[wC,hole]) Ag b:=by
  have g1:=R.Da (o1:=wC) (gb:=none) (kD.refl w) (λg hg=>by cases hg) λ_=>by
   unfold bE aD;rw[if_pos rfl];rfl
  have g2:=g1.Da (o1:=hole) (gb:=none) (kD.refl w) (λg hg=>by cases hg) λ_=>by
   unfold bE aD;rw[if_pos rfl];rfl
  have e1:(S.objs++[wC]).length=S.objs.length+1:=by simp
  have e2:S.objs++[wC]++[hole]=S.objs++[wC,hole]:=by simp
  simp only[e1,e2]at g2
  refine⟨_,g2,λb hn j o h1 h2 h3=>?_⟩
  have hj:j<S.objs.length+2:=by have:=(List.getElem?_eq_some_iff.1 h1).1;simpa using this
  unfold aD at h3
  split at h3
  ·cases h3
  ·split at h3
   ·cases h3
   ·rw[List.getElem?_append_left (by omega)]at h1
    exact hn j o h1 h2 h3
 have hAg:(S.objs++[wC,hole])[S.objs.length]?=some wC:=by simp
 have hBg:(S.objs++[wC,hole])[S.objs.length+1]?=some hole:=by simp
 have hGl:(S.objs++[wC,hole]).length=S.objs.length+2:=by simp
 obtain⟨S',hS'⟩:∃S':St,S'=⟨S.tmps,S.objs++[wC,hole]⟩:=⟨_,rfl⟩
 have hSt:S'.tmps=S.tmps:=by rw[hS']
 have hSo:S'.objs=S.objs++[wC,hole]:=by rw[hS']
 rw[←hS']at RG
 rw[←hSo]at hAg hBg hGl hI0 acM
 rw[←hk]at hAg hBg hGl hfz kS jm jJ acL hnx ⊢
 obtain⟨D0,l0,Dn,W1,hent,hL1,qx,hs1,hwl,hDn,UQ⟩:=Kr (P:=P) (l:=l) w fn a.tmps ps.toArray x y hl
 obtain⟨rec,hrec⟩:∃rec:LoopState→Option Code→Loop,rec=λst pe=>{ state:=st,pending:=pe,fn,tmps:=a.tmps,params:=ps.toArray,assign:=x,body:=y,defers:=D0 }:=⟨_,rfl⟩
 have hL1:W1.heap[l0]?=some (.loop (rec .ready none)):=by rw[hrec];exact hL1
 have hnl:∀k,w.heap.size≤k→aJ S'.objs Ag k:=λk hk j o h1 h2 h3=>by
  have:=uw RG.objs h1 h2 h3;omega
 have hpw:∀b,ah b→b<w.heap.size:=λb hb=>lt_of_lt_of_le (R.pr b hb) R.gr
 have Q5:¬ ex0 l0:=λh=>by have:=hpw l0 (Q0 l0 h).1;omega
 obtain⟨⟨fng,hfn,hname,hbody⟩,hgive⟩:=hg
 refine⟨l0,Dn.map λb=>{ target:=.collected b,args:=#[] },W1,{ target:=.fn (.func g) ⟨vc⟩,args:=#[.func (.yield l0) #[] #[]] },W1,g,
  ⟨.func (.yield l0) #[] #[]::vc⟩,W1,hent,?_,λ_ _=>trivial,?_,(λh=>by cases h),?_⟩
 ·simp only[resolve,hv]
  simp[go_sem]
 ·have e1:(#[.func (.yield l0) #[] #[]]:Array Value)++Array.mk vc=Array.mk (.func (.yield l0) #[] #[]::vc):=by apply Array.ext';simp
  simp only[invoke,callFunc,run_program,Sem.run_bind,Result.andThen_ok,hfn,hname,hbody,Bool.false_eq_true,if_false,Sem.run_pure]
  rw[e1]
 ·rw[show (0-1:Nat)=0 from rfl]
  refine sJ ?_ l
  obtain⟨iB,hprot2⟩:∃iB:Nat→Prop,iB=λb=>b<W1.heap.size∧aJ S'.objs Ag b:=⟨_,rfl⟩
  obtain⟨N,hN⟩:∃N,N=S'.objs.length:=⟨_,rfl⟩
  have hNk:N=k+2:=by rw[hN,hGl]
  obtain⟨xB,hxB⟩:∃xB:List (PV×Value),xB=(.aZ (k+1) 0,.bool false)::pairs S'.tmps a.tmps:=⟨_,rfl⟩
  obtain⟨xA,hxA⟩:∃xA:List (PV×Value),xA=(.aZ k 0,.bool false)::pairs S'.tmps a.tmps:=⟨_,rfl⟩
  obtain⟨F0,hF0⟩:∃F0,F0=fam ah V ex0 w.heap.size W1.heap xB N:=⟨_,rfl⟩
  obtain⟨F1,hF1⟩:∃F1,F1=fam ah V ex0 w.heap.size (W1.putObj l0 (.loop (rec .done (some lc)))).heap xA N:=⟨_,rfl⟩
  obtain⟨V2,hV2⟩:∃V2:Wz→Prop,V2=λz=>F0 z∨F1 z:=⟨_,rfl⟩
  obtain⟨VY,hexI⟩:∃VY:Nat→Prop,VY=λb=>b=l0∨ex0 b:=⟨_,rfl⟩
  have hl1:l0<W1.heap.size:=by omega
  have ghost:∀{ww:World}{ok:Nat→Prop}{O:List Obj}{bl:Nat→Option Nat}{j:Nat},aR ww ok O bl (.aZ j 0) (.bool false)→O[j]?=some wC→False:=by
   intro ww ok O bl j h h1
   have:=h.aZ h1 rfl rfl
   unfold wB at this
   split at this
   ·cases this.1
   ·obtain⟨_,_,h,_⟩:=this;cases h
  have aav:∀{ww:World}{ok:Nat→Prop}{O:List Obj}{bl:Nat→Option Nat}{j:Nat},O[j]?=some hole→aR ww ok O bl (.aZ j 0) (.bool false):=
   λh=>⟨rfl,_,h,Nat.le_refl _,λhl=>by cases hl⟩
  have GD:iB l0:=by rw[hprot2];exact⟨by omega,hnl _ hwl⟩
  have hpD:∀b∈Dn,iB b:=λb hb=>by rw[hprot2];have:=UQ b hb;exact⟨by omega,hnl _ this.1⟩
  have Q6:∀b,ah b→iB b:=λb hb=>by
   rw[hprot2];exact⟨by have:=hpw b hb;omega,λj o h1 h2 h3=>RG.objs.np j o b h1 h2 h3 hb⟩
  have UR:=RG.grew qx
  have abk:∀b,¬ iB b→base b:=λb hb=>RG.pb b λh=>hb (Q6 b h)
  have abl:∀k o g,S'.objs[k]?=some o→o.live=true→Ag k=some g→¬ iB g:=by
   intro k o g h1 h2 h3 h4
   rw[hprot2]at h4
   exact h4.2 k o h1 h2 h3
  have acN:∀b,b<w.heap.size→W1.heap[b]?=w.heap[b]?:=λb hb=>by
   have hbx:w.heap[b]?=some (w.heap[b]):=Array.getElem?_eq_getElem hb
   rw[qx.2.1 b _ hbx,hbx]
  have I6:∀b∈mI.blocks,iB b:=λb hb=>Q6 b (R.gl.2 b hb)
  have acO:∀b∈mI.blocks,b≠l0:=λb hb e=>by have:=hpw b (R.gl.2 b hb);omega
  have acP:uJ ah w0 W1.heap:=⟨λb hb=>⟨R.pr b hb,by rw[acN b (hpw b hb)];exact R.fr b hb⟩,le_trans R.gr qx.1,R.gl⟩
  obtain⟨z0,hz0⟩:∃z0:Wz,z0=⟨W1.heap,xB++w0.xs,N,w⟩:=⟨_,rfl⟩
  have ad9:F0 z0:=by
   rw[hF0,hz0];exact⟨w0,hV,acP,R.gr,R.Ab,R.sm,rfl,rfl,rfl,λ_ _=>rfl⟩
  have aaw:∀x∈z0.xs,aR W1 (bA base S'.objs Ag) S'.objs Ag x.1 x.2:=by
   intro x hx
   rw[hz0]at hx
   rcases List.mem_append.1 hx with hx | hx
   ·rw[hxB]at hx
    rcases List.mem_cons.1 hx with rfl | hx
    ·exact aav hBg
    ·obtain⟨t,h1,h2⟩:=yG hx
     rw[←h2]
     exact UR.tm t x.1 h1
   ·exact UR.ext x hx
  have abm:Rel base iB z0 ⟨[],S'.objs⟩ Ag wR W1:=by
   refine⟨.nil _ _,rfl,λt p hp=>by simp at hp,⟨UR.objs.ob,RG.objs.Bd,abl⟩,λb hb=>by rw[hprot2]at hb;rw[hz0];exact hb.1,λ_ _=>by rw[hz0],by rw[hz0];exact Nat.le_refl _,abk,aaw,λx hx=>?_,by rw[hz0];exact qx.2.2,by rw[hz0];exact⟨UR.lu,I6⟩⟩
   have:=uK (aaw x hx)
   rw[hz0];rw[←hN]at this;exact this
  have hcapR:bG (cu W1 (bA base S'.objs Ag)) cap vc:=by
   refine⟨r2.1,λi p v hp hv=>?_⟩
   have hpp:=List.all_eq_true.1 hcap p (List.mem_of_getElem? hp)
   have h1:aR w (bA base S.objs blk) S.objs blk p v:=.eU (r2.2 i p v hp hv)
   have h2:cu w (bA base S'.objs Ag) p v:=(h1.zD hpp).o_ λb _ h=>⟨h.1,acM b h.2⟩
   exact h2.mono qx.1 (λ_ _ h=>h) (λb x _ h=>qx.2.1 b x h)
  have hltx:∀x∈pairs S'.tmps a.tmps,x.1.lt k=true:=λx hx=>by
   obtain⟨t,ht,_⟩:=yG hx
   exact acL t x.1 (by rw[←hSt];exact ht)
  have abn:I4 P iB V2 VY l0 (IK ys I λi O=>∃O',J i O'∧O=fT k O'):=by
   rintro bP iN w2 args vs K jY iM H z hz hfit hsub R2 hargs ⟨i,hIi,hyi,hK,hKf⟩
   have hz:F0 z:=by
    rw[hV2]at hz
    rcases hz with hz | hz
    ·exact hz
    ·exfalso
     rw[hF1]at hz
     obtain⟨zf,_,_,_,_,_,e,_⟩:=hz
     refine ghost (R2.ext (.aZ k 0,.bool false) ?_) (jm i _ hIi).2.2.1
     show _∈z.xs
     rw[e,hxA];exact mem_append_left _ List.mem_cons_self
   rw[hF0]at hz
   obtain⟨zf,YC,GA,hfM,hxf,hsf,ezx,ezn,ezs,ezh⟩:=hz
   have abt:∀b,ah b→iM b:=λb hb=>hsub b (Q6 b hb)
   have h2H:∀b,iM b→w2.heap[b]?=H[b]?:=λb hb=>R2.fr b hb
   have hL2:w2.heap[l0]?=some (.loop (rec .ready none)):=(h2H l0 (hsub l0 GD)).trans ((hfit.at' l0 GD).2.trans ((ezh l0 Q5).trans hL1))
   have hlen:args.length=ps.length:=hys args (List.mem_of_getElem? hyi)
   have acQ:uJ ah zf w2.heap:=⟨λb hb=>⟨(GA.at' b hb).1,((h2H b (abt b hb)).trans (hfit.at' b (Q6 b hb)).2).trans (GA.at' b hb).2⟩,le_trans GA.le (le_trans hfit.le R2.gr),GA.gl⟩
   refine⟨rec .ready none,hL2,by rw[hrec];simp[←hargs.1,hlen],λb hb=>?_,?_⟩
   ·rw[hexI]at hb
    rcases hb with rfl | hb
    ·exact⟨_,hL2⟩
    ·obtain⟨h1,h2⟩:=Q0 b hb
     obtain⟨r,hr⟩:=h2 zf YC
     exact⟨r,(acQ.at' b h1).2.trans hr⟩
   refine roundIn_of_wpIn trivial ?_
   have hlt2:l0<w2.heap.size:=(Array.getElem?_eq_some_iff.1 hL2).1
   obtain⟨dZ,hprot3⟩:∃dZ:Nat→Prop,dZ=λb=>b<w2.heap.size∧aJ bP iN b:=⟨_,rfl⟩
   have h23:∀b,iM b→dZ b:=by
    intro b hb
    rw[hprot3]
    exact⟨lt_of_lt_of_le (R2.pr b hb) R2.gr,λk o h1 h2 h3=>R2.objs.np k o b h1 h2 h3 hb⟩
   have h03:∀b,ah b→dZ b:=λb hb=>h23 b (abt b hb)
   have hp3:dZ l0:=h23 l0 (hsub l0 GD)
   have WX:∀b,¬ dZ b→jY b:=λb hb=>R2.pb b λh=>hb (h23 b h)
   have abo:∀k o g,bP[k]?=some o→o.live=true→iN k=some g→¬ dZ g:=by
    intro k o g h1 h2 h3 h4
    rw[hprot3]at h4
    exact h4.2 k o h1 h2 h3
   have hwM:w.heap.size≤w2.heap.size:=by have:=hfit.le;have:=R2.gr;simp only at this;have:=qx.1;omega
   have aax:∀(h0:Array Go.Obj) (st:LoopState) (pe:Option Code),w.heap.size≤h0.size→h0[l0]?=some (.loop (rec st pe))→E2 ah V ex0 S.tmps k (k+2) l0 jY dZ (fam ah V ex0 w.heap.size h0 xB N):=by
    intro h0 st pe hM hrl
    refine⟨λz3 hz3=>?_,λb hb=>⟨h03 b (Q0 b hb).1,λz3 hz3=>?_⟩,λn fB V0 hnk QN hn0 hW=>WZ h03 (λx hx=>?_) (λz hz=>by have:=hn0 z hz;omega) hW hM⟩
    ·obtain⟨_,_,_,_,_,_,_,e,_,eh⟩:=hz3
     exact⟨by rw[e,hNk];exact Nat.le_refl _,hp3,_,(eh l0 Q5).trans hrl⟩
    ·obtain⟨zf,YC,GA,_⟩:=hz3
     obtain⟨h1,h2⟩:=Q0 b hb
     obtain⟨r,hr⟩:=h2 zf YC
     exact⟨r,(GA.at' b h1).2.trans hr⟩
    ·rw[hxB]at hx
     rcases List.mem_cons.1 hx with rfl | hx
     ·simp only[PV.ge,PV.Ep,decide_eq_true_eq];omega
     ·obtain⟨t,ht,_⟩:=yG hx
      exact QN x.1 (by rw[←hSt];exact List.mem_of_getElem? ht)
   obtain⟨Za,htm0⟩:∃Za,Za=(((rec .ready none).params.zip (⟨vs⟩:Array Value)).foldl (λt (p,v)=>t.setIfInBounds p v) (rec .ready none).tmps):=⟨_,rfl⟩
   rw[←htm0]
   have Oe:Za=(ps.zip vs).foldl (λt (p,v)=>t.setIfInBounds p v) a.tmps:=by
    rw[htm0,hrec]
    simp only[]
    rw[←Array.foldl_toList]
    simp
   have hset:=Gz (R:=aR w2 (bA jY bP iN) bP iN) (λv=>.dead v) ps args vs S'.tmps a.tmps hargs.1 RG.Fj
    (λt p hp=>R2.ext (p,a.tmps.getD t undef) (by show _∈z.xs;rw[ezx,hxB];exact mem_append_left _ (mem_cons_of_mem _ (yH RG.Fj hp)))) (λi p v h1 h2=>.aI (hargs.2 i p v h1 h2))
   have Rr:Rel jY dZ ⟨w2.heap,z.xs,z.nx,z.out⟩ ⟨jQ ps args S.tmps,bP⟩ iN { tmps:=Za,defers:=[] } w2:=by
    refine⟨.nil _ _,by rw[Oe,←hSt];exact hset.1,λt p hp=>by rw[←hSt]at hp;rw[Oe];exact hset.2 t p hp,⟨R2.objs.ob,R2.objs.Bd,abo⟩,λb hb=>by rw[hprot3]at hb;exact hb.1,λ_ _=>rfl,Nat.le_refl _,WX,R2.ext,R2.Ab,R2.sm,⟨R2.lu,λb hb=>h23 b (hsub b (I6 b hb))⟩⟩
   have LJ:=kS i args bP hIi hyi l0 jY dZ (fam ah V ex0 w.heap.size w2.heap xB N) (aax w2.heap .ready none hwM hL2) iN _ w2 ⟨⟨w2.heap,z.xs,z.nx,z.out⟩,⟨zf,YC,acQ,hfM,hxf,hsf,ezx,ezn,rfl,λ_ _=>rfl⟩,Rr⟩
   rw[show (rec .ready none).assign=x by rw[hrec],show (rec .ready none).body=y by rw[hrec]]
   change x.wpIn (Bp (some l0)) 0 P _ _ _
   refine wpIn_mono LJ ?_
   rintro e a3 w3 ⟨S3,blk3,he,z3,⟨zf3,hzf3,hff3,hfM3,hxf3,hsf3,ezx3,ezn3,ezs3,ezh3⟩,R3⟩
   cases e with
   | normal=>
    have hL3:w3.heap[l0]?=some (.loop (rec .ready none)):=(R3.fr l0 hp3).trans ((ezh3 l0 Q5).trans hL2)
    refine⟨_,run_beginRound hL3 (by rw[hrec]),?_⟩
    have WY:({ rec .ready none with state:=.busy }:Loop)=rec .busy none:=by rw[hrec]
    rw[WY]
    obtain⟨w4,hw4⟩:∃w4,w4=w3.putObj l0 (.loop (rec .busy none)):=⟨_,rfl⟩
    rw[←hw4]
    have hnc:∀st pe,¬ iF (.loop (rec st pe)):=by rintro st pe (⟨c,t,y,h⟩ | ⟨es,n,h⟩ | ⟨_,_,_,_,h⟩)<;>cases h
    have QW:∀(k:Nat) x,w3.heap[k]?=some x→iF x→w4.heap[k]?=some x:=by rw[hw4];exact iZ hL3 (hnc _ _)
    have hs4:w4.heap.size=w3.heap.size:=by rw[hw4];exact World.putObj_size
    have ho4:∀k:Nat,k≠l0→w4.heap[k]?=w3.heap[k]?:=λk hk=>by rw[hw4];exact World.putObj_heap_other hk
    have abp:l0<w3.heap.size:=(Array.getElem?_eq_some_iff.1 hL3).1
    have hL4:w4.heap[l0]?=some (.loop (rec .busy none)):=by rw[hw4];exact World.putObj_heap_same abp
    have abq:∀b,dZ b→b<w2.heap.size:=λb hb=>by rw[hprot3]at hb;exact hb.1
    have ad6:w2.heap.size≤w3.heap.size:=by have:=R3.gr;omega
    have acR:∀b,ah b→b≠l0:=λb hb e=>by have:=hpw b hb;omega
    have ad_:uJ ah zf3 w4.heap:=⟨λb hb=>⟨(hff3.at' b hb).1,by rw[ho4 b (acR b hb),R3.fr b (h03 b hb)];exact (hff3.at' b hb).2⟩,by rw[hs4];exact le_trans hff3.le R3.gr,hff3.gl⟩
    have R4:Rel jY dZ ⟨w4.heap,z3.xs,z3.nx,z3.out⟩ S3 blk3 a3 w4:=by
     refine⟨?_,R3.Fj,λt p hp=>gu (R3.tm t p hp) (le_of_eq hs4.symm) QW,R3.objs.cells (le_of_eq hs4.symm) QW R3.objs.np,λb hb=>?_,λ_ _=>rfl,Nat.le_refl _,WX,λx hx=>gu (R3.ext x hx) (le_of_eq hs4.symm) QW,R3.Ab,R3.sm.trans (by rw[hw4];exact⟨rfl,rfl⟩),⟨mI.keep (λb hb=>ho4 b (acO b hb)) R3.lu,R3.gl.2⟩⟩
     ·obtain⟨Ds,h1,h2,h3⟩:=R3.o7
      refine⟨Ds,h1,h2,λb hb=>?_⟩
      rw[ho4 b (λe=>(h3 b hb).2.2 (e ▸ hp3))]
      exact h3 b hb
     ·have:=abq b hb;show b<w4.heap.size;omega
    have hbody:=he jY dZ (fam ah V ex0 w.heap.size w4.heap xB N) (aax w4.heap .busy none (by omega) hL4) blk3 a3 w4 ⟨⟨w4.heap,z3.xs,z3.nx,z3.out⟩,⟨zf3,hzf3,ad_,hfM3,hxf3,hsf3,ezx3,ezn3,rfl,λ_ _=>rfl⟩,R4⟩
    refine wpIn_mono hbody ?_
    rintro e a5 w5 ⟨S5,blk5,he5,z5,⟨zf5,hzf5,hff5,hfM5,hxf5,hsf5,ezx5,ezn5,ezs5,ezh5⟩,R5⟩
    have hL5:w5.heap[l0]?=some (.loop (rec .busy none)):=(R5.fr l0 hp3).trans ((ezh5 l0 Q5).trans hL4)
    have hl5:l0<w5.heap.size:=(Array.getElem?_eq_some_iff.1 hL5).1
    have ad7:w4.heap.size≤w5.heap.size:=by have:=R5.gr;omega
    obtain⟨QY,R6⟩:=Weak.norm (m:=N) [] fz (by rw[hNk];exact hfz) S5 jY dZ z5 blk5 a5 w5 (by rw[ezn5];exact Nat.le_refl _) R5
    have fin:∀(st:LoopState) (pe:Option Code) (w6:World),w6=w5.putObj l0 (.loop (rec st pe))→∀(h1:Array Go.Obj) (xs1:List (PV×Value)),h1.size=W1.heap.size→h1[l0]?=some (.loop (rec st pe))→(∀b,b≠l0→h1[b]?=W1.heap[b]?)→
        ∃(zn:Wz) (H':Array Go.Obj),fam ah V ex0 w.heap.size h1 xs1 N zn∧zn.xs=xs1++zf5.xs∧zn.nx=N∧zn.heap.size≤z.heap.size∧uJ iB zn H'∧H'.size=H.size∧(∀b,¬ VY b→H'[b]?=H[b]?)∧
         (∀b,iM b→w6.heap[b]?=H'[b]?)∧H'.size≤w6.heap.size∧Sm zn.out w6∧mI.holds H':=by
     intro st pe w6 I7 h1 xs1 e1 e2 e3
     have hs6:w6.heap.size=w5.heap.size:=by rw[I7];exact World.putObj_size
     have ho6:∀k:Nat,k≠l0→w6.heap[k]?=w5.heap[k]?:=λk hk=>by rw[I7];exact World.putObj_heap_other hk
     have hL6:w6.heap[l0]?=some (.loop (rec st pe)):=by rw[I7];exact World.putObj_heap_same hl5
     have aeA:H.size≤w2.heap.size:=R2.gr
     have hall:∀b,dZ b→¬ VY b→w6.heap[b]?=w2.heap[b]?:=by
      intro b hb hne
      rw[hexI]at hne
      have hbl:b≠l0:=λe=>hne (.inl e)
      have hbe:¬ ex0 b:=λe=>hne (.inr e)
      rw[ho6 b hbl,R5.fr b hb,ezh5 b hbe,ho4 b hbl,R3.fr b hb,ezh3 b hbe]
     obtain⟨H',p1,p2,p3⟩:=QZ H w6.heap VY (by omega)
     obtain⟨hz,q1,q2,q3⟩:=QZ z.heap w6.heap VY (by have:=hfit.le;omega)
     have abu:∀b,iM b→w6.heap[b]?=H'[b]?:=λb hb=>by
      classical
      by_cases he:VY b
      ·rw[p2 b (R2.pr b hb) he]
      ·rw[p3 b he,hall b (h23 b hb) he];exact h2H b hb
     have hat:∀b,iB b→b<z.heap.size∧H'[b]?=hz[b]?:=λb hb=>by
      classical
      obtain⟨g1,g2⟩:=hfit.at' b hb
      refine⟨g1,?_⟩
      by_cases he:VY b
      ·rw[q2 b g1 he,p2 b (by have:=hfit.le;omega) he]
      ·rw[q3 b he,p3 b he];exact g2
     have hg6:mI.holds w6.heap:=mI.keep (λb hb=>ho6 b (acO b hb)) R5.lu
     have hgH:mI.holds H':=mI.keep (λb hb=>(abu b (hsub b (I6 b hb))).symm) hg6
     refine⟨⟨hz,xs1++zf5.xs,N,w6⟩,H',⟨zf5,hzf5,⟨λb hb=>⟨(hff5.at' b hb).1,?_⟩,?_,hff5.gl⟩,hfM5,hxf5,(hsf5.trans R5.sm).trans (by rw[I7];exact⟨rfl,rfl⟩),rfl,rfl,q1.trans (ezs.trans e1.symm),λb hb=>?_⟩,rfl,rfl,le_of_eq q1,
      ⟨λb hb=>⟨by show b<hz.size;rw[q1];exact (hat b hb).1,(hat b hb).2⟩,by show hz.size≤_;have:=hfit.le;omega,?_,I6⟩,p1,p3,abu,by omega,.refl _,hgH⟩
     ·show hz[b]?=_
      rw[←(hat b (Q6 b hb)).2,←abu b (abt b hb),ho6 b (acR b hb),R5.fr b (h03 b hb)];exact (hff5.at' b hb).2
     ·show _≤hz.size;have:=hfM5;have:=qx.1;omega
     ·show hz[b]?=_
      by_cases hbl:b=l0
      ·subst hbl
       rw[q2 b (by rw[ezs];exact hl1) (by rw[hexI];exact .inl rfl),hL6,e2]
      ·rw[q3 b (by rw[hexI];rintro (h | h);exact hbl h;exact hb h),e3 b hbl];exact ezh b hb
     ·exact mI.keep (λb hb=>(hat b (I6 b hb)).2.symm) hgH
    have hgb':∀b∈mI.blocks,iM b:=λb hb=>hsub b (I6 b hb)
    have leave:Af e=some lc→J i (S5.norm [] fz).objs→∃v w',(Instr.endRound l0 (some lc)).run P w5=.ok v w'∧(∃b ai au zn H',Ending.returned v=.returned (.bool b)∧K b ai∧V2 zn∧zn.heap.size≤z.heap.size∧uJ iB zn H'∧H'.size=H.size∧(∀b,¬ VY b→H'[b]?=H[b]?)∧Rel jY iM ⟨H',zn.xs,zn.nx,zn.out⟩ ⟨[],ai⟩ au wR w'):=by
     intro _ hJ
     refine⟨_,_,run_endRound (some lc) hL5,?_⟩
     have hdone:({ rec .busy none with state:=if (some lc:Option Code).isNone then .ready else .done,pending:=some lc }:Loop)=rec .done (some lc):=by rw[hrec];rfl
     rw[hdone]
     obtain⟨w6,I7⟩:∃w6,w6=w5.putObj l0 (.loop (rec .done (some lc))):=⟨_,rfl⟩
     rw[←I7]
     have Og:∀(k:Nat) x,w5.heap[k]?=some x→iF x→w6.heap[k]?=some x:=by rw[I7];exact iZ hL5 (hnc _ _)
     have hs6:w6.heap.size=w5.heap.size:=by rw[I7];exact World.putObj_size
     obtain⟨zn,H',g1,g2,g3,g4,g5,g6,g7,g8,g9,g10,g11⟩:=fin .done (some lc) w6 I7 (W1.putObj l0 (.loop (rec .done (some lc)))).heap xA World.putObj_size (World.putObj_heap_same hl1) (λb hb=>World.putObj_heap_other hb)
     obtain⟨⟨gl,_,gA,gB⟩,gN⟩:=jJ i _ hJ
     have hk1:k+1<(S5.norm [] fz).objs.length:=by omega
     have aea:∀b,bA jY (S5.norm [] fz).objs QY b→bA jY (fT k (S5.norm [] fz).objs) (lW k QY) b:=λb h=>⟨h.1,BI hk1 h.2⟩
     have yw:cK jY iM (S5.norm [] fz).objs QY w6:=R6.objs.cells (le_of_eq hs6.symm) Og (λk o g h1 h2 h3 h4=>R6.objs.np k o g h1 h2 h3 (h23 g h4))
     have aeb:∀x,x∈pairs S'.tmps a.tmps∨x∈zf5.xs→x∈z5.xs:=λx hx=>by
      rw[ezx5]
      rcases hx with hx | hx
      ·exact mem_append_left _ (by rw[hxB];exact mem_cons_of_mem _ hx)
      ·exact mem_append_right _ hx
     have hltk:∀x,x∈pairs S'.tmps a.tmps∨x∈zf5.xs→x.1.lt k=true:=λx hx=>by
      rcases hx with hx | hx
      ·exact hltx x hx
      ·exact hnx zf5 hzf5 x hx (hxf5 x hx)
     have hcase:∀x∈zn.xs,x=(.aZ k 0,.bool false)∨(x∈pairs S'.tmps a.tmps∨x∈zf5.xs):=λx hx=>by
      rw[g2,hxA]at hx
      rcases List.mem_append.1 hx with hx | hx
      ·rcases List.mem_cons.1 hx with hx | hx
       ·exact .inl hx
       ·exact .inr (.inl hx)
      ·exact .inr (.inr hx)
     refine⟨false,fT k (S5.norm [] fz).objs,lW k QY,zn,H',rfl,hKf _ ⟨_,hJ,rfl⟩,by rw[hV2,hF1];exact .inr g1,g4,g5,g6,g7,?_⟩
     refine⟨.nil _ _,rfl,λt p hp=>by simp at hp,UW yw hk1 gN gA,λb hb=>by show b<H'.size;rw[g6];exact R2.pr b hb,g8,g9,R2.pb,λx hx=>?_,λx hx=>?_,g10,⟨g11,hgb'⟩⟩
     ·rcases hcase x hx with rfl | hx
      ·exact aav (Fw hk1)
      ·exact UU (hltk x hx) aea (gu (R6.ext x (aeb x hx)) (le_of_eq hs6.symm) Og)
     ·show x.1.lt zn.nx=true
      rw[g3,hNk]
      rcases hcase x hx with rfl | hx
      ·simp only[PV.lt,PV.qd,decide_eq_true_eq];omega
      ·exact ou (by omega) (hltk x hx)
    cases e with
    | normal=>
     refine⟨_,_,run_endRound none hL5,?_⟩
     have QX:({ rec .busy none with state:=if (none:Option Code).isNone then .ready else .done,pending:=none }:Loop)=rec .ready none:=by rw[hrec];rfl
     rw[QX]
     obtain⟨w6,I7⟩:∃w6,w6=w5.putObj l0 (.loop (rec .ready none)):=⟨_,rfl⟩
     rw[←I7]
     have Og:∀(k:Nat) x,w5.heap[k]?=some x→iF x→w6.heap[k]?=some x:=by rw[I7];exact iZ hL5 (hnc _ _)
     have hs6:w6.heap.size=w5.heap.size:=by rw[I7];exact World.putObj_size
     obtain⟨zn,H',g1,g2,g3,g4,g5,g6,g7,g8,g9,g10,g11⟩:=fin .ready none w6 I7 W1.heap xB rfl hL1 (λ_ _=>rfl)
     refine⟨true,(S5.norm [] fz).objs,QY,zn,H',rfl,hK _ he5,by rw[hV2,hF0];exact .inl g1,g4,g5,g6,g7,?_⟩
     have hxe:zn.xs=z5.xs:=by rw[g2,ezx5]
     refine⟨.nil _ _,rfl,λt p hp=>by simp at hp,R6.objs.cells (le_of_eq hs6.symm) Og (λk o g h1 h2 h3 h4=>R6.objs.np k o g h1 h2 h3 (h23 g h4)),λb hb=>by show b<H'.size;rw[g6];exact R2.pr b hb,g8,g9,R2.pb,λx hx=>?_,λx hx=>?_,g10,⟨g11,hgb'⟩⟩
     ·exact gu (R6.ext x (by rw[←hxe];exact hx)) (le_of_eq hs6.symm) Og
     ·have:=R5.Ab x (by rw[←hxe];exact hx)
      show x.1.lt zn.nx=true
      rw[g3,←ezn5];exact this
    | ret=>
     obtain⟨rfl,hJ⟩:=he5
     cases hlv
     exact leave rfl hJ
    | exit id=>
     obtain⟨rfl,hJ⟩:=he5
     cases hlv
     exact leave rfl hJ
    | _=>
     obtain⟨rfl,hJ⟩:=he5
     cases hlv
   | _=>exact he.elim
  have hlat:ow VY iB V2:=λb hb=>by
   rw[hexI]at hb
   rcases hb with rfl | hb
   ·refine⟨GD,λz hz=>?_⟩
    rw[hV2,hF0,hF1]at hz
    rcases hz with hz | hz<;>obtain⟨_,_,_,_,_,_,_,_,_,eh⟩:=hz
    ·exact⟨_,(eh b Q5).trans hL1⟩
    ·exact⟨_,(eh b Q5).trans (World.putObj_heap_same hl1)⟩
   ·obtain⟨h1,h2⟩:=Q0 b hb
    refine⟨Q6 b h1,λz hz=>?_⟩
    rw[hV2,hF0,hF1]at hz
    rcases hz with hz | hz<;>obtain⟨zf,YC,GA,_⟩:=hz
    all_goals
     obtain⟨r,hr⟩:=h2 zf YC
     exact⟨r,(GA.at' b h1).2.trans hr⟩
  refine Calls.mono (hgive I (λi O=>∃O',J i O'∧O=fT k O') base iB V2 VY l0 S'.objs Ag W1 vc abn hlat (λz hz=>by
   rw[hV2,hF0,hF1]at hz
   rcases hz with hz | hz<;>obtain⟨_,_,_,_,_,_,_,e,_⟩:=hz<;>rw[e,hN]<;>exact Nat.le_refl _) ⟨z0,by rw[hV2];exact .inl ad9,abm⟩ hI0 (λi O h=>⟨by rw[hGl];exact (jm i O h).1,(jm i O h).2.1⟩) (λi O h=>by
   obtain⟨O',h,rfl⟩:=h
   obtain⟨⟨q1,q2,_,_⟩,q5⟩:=jJ i O' h
   have hno:∀o∈fT k O',o.xs=[]∨o∈O':=λo ho=>by
    obtain⟨j,hj⟩:=List.mem_iff_getElem?.1 ho
    by_cases e2:j=k+1
    ·subst e2;rw[LK (by omega)]at hj;cases hj;exact .inl rfl
    ·by_cases e1:j=k
     ·subst e1;rw[Fw (by omega)]at hj;cases hj;exact .inl rfl
     ·rw[pW e1 e2]at hj;exact .inr (List.mem_of_getElem? hj)
   refine⟨by rw[Kt,hGl];exact q1,λo ho x hx c hc=>?_,λo ho x hx c hc=>?_⟩
   ·rw[Kt]
    rcases hno o ho with h0 | h0
    ·rw[h0]at hx;cases hx
    ·exact q2 o h0 x hx c hc
   ·rcases hno o ho with h0 | h0
    ·rw[h0]at hx;cases hx
    ·exact q5 o h0 x hx c hc) hcapR) ?_
  rintro e w3 ⟨ai,au,rfl,hIJ,z,hz,R3⟩
  rw[hV2]at hz
  have fin:∀(h1:Array Go.Obj) (xs1:List (PV×Value)) (st:LoopState) (pe:Option Code) (e':Exit),fam ah V ex0 w.heap.size h1 xs1 N z→(∀b,b≠l0→h1[b]?=W1.heap[b]?)→h1[l0]?=some (.loop (rec st pe))→st≠.busy→h1.size=W1.heap.size→(∀x∈pairs S'.tmps a.tmps,x∈xs1)→
      (∀Q':Exit→Act→World→Prop,∀aa ww,Q' e' aa ww→(match pe with | none=>Q' .normal aa ww | some c=>c.wpIn (Bp l) 0 P Q' aa ww))→
      ((e'=.normal∧I ys.length ai)∨(e'=lv∧∃i O,i<ys.length∧J i O∧ai=fT k O))→
      ∃jump w4,(Instr.endLoop l0).run P w3=.ok jump w4∧(match jump with
       | none=>(λe a' w'=>∃ai au,((e=.normal∧I ys.length ai)∨(e=lv∧∃i O,i<ys.length∧J i O∧ai=fT k O))∧jW base ah V ⟨S.tmps,ai⟩ au a' w') .normal { a with defers:=(Dn.map λb=>({ target:=.collected b,args:=#[] }:Deferred))++a.defers } w4
       | some c=>c.wpIn (Bp l) 0 P (λe a' w'=>∃ai au,((e=.normal∧I ys.length ai)∨(e=lv∧∃i O,i<ys.length∧J i O∧ai=fT k O))∧jW base ah V ⟨S.tmps,ai⟩ au a' w') { a with defers:=(Dn.map λb=>({ target:=.collected b,args:=#[] }:Deferred))++a.defers } w4):=by
   intro h1 xs1 st pe e' hz hoth acS hst hsize hzx hcode hend
   obtain⟨zf,YC,GA,hfM,hxf,hsf,ezx,ezn,ezs,ezh⟩:=hz
   have hL3:w3.heap[l0]?=some (.loop (rec st pe)):=(R3.fr l0 GD).trans ((ezh l0 Q5).trans acS)
   have hD3:∀b∈Dn,w3.heap[b]?=some (.deferred (some [])):=λb hb=>by
    have hbb:=UQ b hb
    refine (R3.fr b (hpD b hb)).trans ((ezh b (λhe=>?_)).trans ((hoth b (by omega)).trans hbb.2.2))
    have:=hpw b (Q0 b he).1;omega
   have hnc:¬ iF (.loop (rec st pe)):=by rintro (⟨c,t,y,h⟩ | ⟨es,n,h⟩ | ⟨_,_,_,_,h⟩)<;>cases h
   have acT:=run_endLoop (P:=P) hL3 (by rw[hrec];exact hst)
   refine⟨pe,w3.putObj l0 (.loop { rec st pe with state:=.exhausted }),by rw[acT,hrec],?_⟩
   have hcl:=iZ (o':=.loop { rec st pe with state:=.exhausted }) hL3 hnc
   have hsz:(w3.putObj l0 (.loop { rec st pe with state:=.exhausted })).heap.size=w3.heap.size:=World.putObj_size
   have hle:w.heap.size≤w3.heap.size:=by have:=R3.gr;rw[ezs,hsize]at this;have:=qx.1;omega
   have hother:∀k:Nat,k≠l0→(w3.putObj l0 (.loop { rec st pe with state:=.exhausted })).heap[k]?=w3.heap[k]?:=λk hk=>World.putObj_heap_other hk
   have hkeep:∀b,b<w.heap.size→aJ S'.objs Ag b→aJ ai au b:=by
    intro b hb hnb k o h1 h2 h3
    refine R3.objs.np k o b h1 h2 h3 ?_
    rw[hprot2];exact⟨by omega,hnb⟩
   have hsame:∀b,b<w.heap.size→aJ S'.objs Ag b→¬ ex0 b→(w3.putObj l0 (.loop { rec st pe with state:=.exhausted })).heap[b]?=w.heap[b]?:=by
    intro b hb hnb hne
    rw[hother b (by omega),R3.fr b (by rw[hprot2];exact⟨by omega,hnb⟩),ezh b hne,hoth b (by omega)]
    exact acN b hb
   have hpn:∀b,ah b→b<w.heap.size∧aJ S'.objs Ag b:=λb hb=>⟨lt_of_lt_of_le (RG.pr b hb) RG.gr,λk o h1 h2 h3=>RG.objs.np k o b h1 h2 h3 hb⟩
   have abr:∀k o g,ai[k]?=some o→o.live=true→au k=some g→¬ ah g:=λk o g h1 h2 h3 h4=>hkeep g (hpn g h4).1 (hpn g h4).2 k o h1 h2 h3
   refine hcode (λe a' w'=>∃ai au,((e=.normal∧I ys.length ai)∨(e=lv∧∃i O,i<ys.length∧J i O∧ai=fT k O))∧jW base ah V ⟨S.tmps,ai⟩ au a' w') _ _ ⟨ai,au,hend,zf,YC,?_,R.Fj,λt p hp=>?_,R3.objs.cells (le_of_eq hsz.symm) hcl abr,λb hb=>(GA.at' b hb).1,λb hb=>?_,by rw[hsz];omega,R.pb,λx hx=>?_,hxf,(hsf.trans R3.sm).trans ⟨rfl,rfl⟩,GA.gl⟩
   ·obtain⟨Ds,h1,h2,h3⟩:=RG.o7
    refine⟨Dn++Ds,by simp[h1],List.nodup_append.2 ⟨hDn,h2,λp hp q hq e=>?_⟩,λb hb=>?_⟩
    ·subst e
     have:=(Array.getElem?_eq_some_iff.1 (h3 _ hq).1).1;have:=(UQ p hp).1;omega
    ·rcases List.mem_append.1 hb with hb | hb
     ·refine⟨by rw[hother _ (by have:=(UQ b hb).2.1;omega)];exact hD3 b hb,⟨RG.bs _ (le_trans RG.gr (UQ b hb).1),λk o h1 h2 h3=>R3.objs.np k o _ h1 h2 h3 (hpD b hb)⟩,λhp=>by have:=(hpn _ hp).1;have:=(UQ b hb).1;omega⟩
     ·obtain⟨q1,q2,q3⟩:=h3 b hb
      have hbs:=(Array.getElem?_eq_some_iff.1 q1).1
      exact⟨by rw[hsame b hbs q2.2 (λhe=>q3 (Q0 b he).1)];exact q1,⟨q2.1,hkeep b hbs q2.2⟩,q3⟩
   ·exact gu (R3.ext (p,a.tmps.getD t undef) (by rw[ezx];exact mem_append_left _ (hzx _ (yH RG.Fj (by rw[hSt];exact hp))))) (le_of_eq hsz.symm) hcl
   ·rw[hother b (by have:=hpw b hb;omega),R3.fr b (Q6 b hb)];exact (GA.at' b hb).2
   ·exact gu (R3.ext x (by rw[ezx];exact mem_append_right _ hx)) (le_of_eq hsz.symm) hcl
  rcases hz with hz | hz
  ·rw[hF0]at hz
   obtain⟨ws,hxs⟩:∃ws,z.xs=xB++ws:=by obtain⟨_,_,_,_,_,_,e,_⟩:=hz;exact⟨_,e⟩
   have hI:I ys.length ai:=by
    refine hIJ.resolve_right λ⟨i,_,O,hJ,e⟩=>?_
    refine ghost (R3.ext (.aZ (k+1) 0,.bool false) (by rw[hxs,hxB];exact mem_append_left _ List.mem_cons_self)) ?_
    rw[e];exact LK (by have:=(jJ i O hJ).1.1;omega)
   exact fin W1.heap xB .ready none .normal hz (λ_ _=>rfl) hL1 (by simp) rfl (λx hx=>by rw[hxB];exact mem_cons_of_mem _ hx) (λQ' aa ww h=>h) (.inl ⟨rfl,hI⟩)
  ·rw[hF1]at hz
   obtain⟨ws,hxs⟩:∃ws,z.xs=xA++ws:=by obtain⟨_,_,_,_,_,_,e,_⟩:=hz;exact⟨_,e⟩
   have hJ:∃i O,i<ys.length∧J i O∧ai=fT k O:=by
    rcases hIJ with h | ⟨i,hi,O,hJ,e⟩
    ·exact (ghost (R3.ext (.aZ k 0,.bool false) (by rw[hxs,hxA];exact mem_append_left _ List.mem_cons_self)) (jm _ _ h).2.2.1).elim
    ·exact⟨i,O,hi,hJ,e⟩
   refine fin (W1.putObj l0 (.loop (rec .done (some lc)))).heap xA .done (some lc) lv hz (λb hb=>World.putObj_heap_other hb) (World.putObj_heap_same hl1) (by simp) World.putObj_size (λx hx=>by rw[hxA];exact mem_cons_of_mem _ hx) (λQ' aa ww h=>?_) (.inr ⟨rfl,hJ⟩)
   cases lv<;>simp only[Af,Option.some.injEq,reduceCtorEq]at hlv
   ·subst hlv;exact wpIn_exit h
   ·subst hlv;exact wpIn_ret h
end
structure tZ (P:Program) (l:Option Nat) (E:Env) (T:Know):Prop where
 fn:jX P T.fn
 y:∀base ah V,E base ah V→∃ex,I4 P ah V ex T.y T.Y
 nx:∀base ah V,E base ah V→∀w0,V w0→w0.nx≤T.nx
 top:T.top=true→∀l1,l=some l1→∀base ah V,E base ah V→∀w0,V w0→ah l1∧∃r,w0.heap[l1]?=some (.loop r)
 gives:∀g cap ys,T.gives g cap ys→Gives P g cap ys
 ge:∀g cap ys,T.ge g cap ys→qw P g cap ys
 b:∀base ah V,E base ah V→YA P ah V T
 gb:(∀g bargs ys,T.gb g bargs ys→fK P g bargs ys)∧∀f args objs K,T.fa f args objs K→jI P f args objs K
theorem tZ.inner {E:Env}(h:tZ P l E T)(n l0:Nat):tZ P (some l0) (E0 n l0) (T.inner n):=
 ⟨h.fn,λ_ _ _ _=>I4.none,λ_ _ _ hE w0 hw=>(hE w0 hw).1,λ_ _ e _ _ _ hE w0 hw=>by cases e;exact (hE w0 hw).2,h.gives,h.ge,λ_ _ _ _=>YA.none rfl,h.gb⟩
theorem E2.e0 {ah:Nat→Prop}{V:Wz→Prop}{ex:Nat→Prop}{tm:List PV}{k N l0:Nat}{jY dZ:Nat→Prop}{V3:Wz→Prop}(h:E2 ah V ex tm k N l0 jY dZ V3):E0 N l0 jY dZ V3:=h.1
theorem tZ.W9 {E:Env}(h:tZ P l E T)(n l0:Nat){ah:Nat→Prop}{V:Wz→Prop}{ex:Nat→Prop}{tm:List PV}{k:Nat}:tZ P (some l0) (E2 ah V ex tm k n l0) (T.inner n):=
 ⟨h.fn,λ_ _ _ _=>I4.none,λ_ _ _ hE w0 hw=>(hE.1 w0 hw).1,λ_ _ e _ _ _ hE w0 hw=>by cases e;exact (hE.1 w0 hw).2,h.gives,h.ge,λ_ _ _ _=>YA.none rfl,h.gb⟩
theorem tZ.oQ {E:Env}(h:tZ P l E T)(n l0:Nat){ah fB:Nat→Prop}{V V0:Wz→Prop}{ex:Nat→Prop}{tm:List PV}{k:Nat}(hY:I4 P fB V0 ex T.y T.YB)(hL:ow ex fB V0)(hW:ET ex fB V0 T.bn ah V)
  (hnx:∀z,V0 z→z.nx≤T.bn) (hk:T.bn≤k) (QN:∀p∈tm,p.ge T.bn=true):tZ P (some l0) (E2 ah V ex tm k n l0) (T.oQ n):=
 ⟨h.fn,λ_ _ _ _=>I4.none,λ_ _ _ hE w0 hw=>(hE.1 w0 hw).1,λ_ _ e _ _ _ hE w0 hw=>by cases e;exact (hE.1 w0 hw).2,h.gives,h.ge,λ_ _ _ hE _=>⟨ex,fB,V0,hY,hL,hE.2.2 T.bn fB V0 hk QN hnx hW,hnx,hE.2.1⟩,h.gb⟩
theorem kJ(hD:∀t,fI P t (D t))(hm:P.follows .mixedOrders=true):∀(C:LC) (T:Know) (l:Option Nat) (E:Env) (c:Code) (Q:Exit→St→Prop) (S:St),tZ P l E T→strip C=comp c→iT P D T C Q S→PW P l E c Q S:=by
 intro C
 induction C with
 | skip=>
  intro T l E c Q S hk he h
  cases c<;>simp only[comp,strip]at he<;>first | (cases he;done) | skip
  ·exact .skip h
  ·rename_i d;cases d<;>simp only[comp]at he<;>first | (cases he;done) | (cases hs:(dB _ _ && dV _)<;>rw[hs]at he<;>cases he)
 | ret=>
  intro T l E c Q S hk he h
  cases c<;>simp only[comp,strip]at he<;>first | (cases he;done) | skip
  ·rename_i d;cases d<;>simp only[comp]at he<;>first | (cases he;done) | (cases hs:(dB _ _ && dV _)<;>rw[hs]at he<;>cases he)
  ·exact .ret h
 | bad=>intro T l E c Q S hk he h;exact h.elim
 | exit id=>
  intro T l E c Q S hk he h
  cases c<;>simp only[comp,strip]at he<;>first | (cases he;done) | skip
  ·rename_i d;cases d<;>simp only[comp]at he<;>first | (cases he;done) | (cases hs:(dB _ _ && dV _)<;>rw[hs]at he<;>cases he)
  ·cases he;exact .exit h
 | weak x ihx=>
  intro T l E c Q S hk he h
  obtain⟨S',hw,h⟩:=h
  exact .weak hk.nx hw (ihx _ _ _ _ _ _ hk he h)
 | reg ss=>
  intro T l E c Q S hk he h
  cases c<;>simp only[comp,strip]at he<;>first | (cases he;done) | skip
  rename_i id ops d
  cases d<;>simp only[comp]at he
  ·simp only[LC.reg.injEq]at he
   have ht:ops=ops.toList.toArray:=by simp
   intro base ah V hE blk a w R
   refine wpIn_region ?_
   have:=BH (l:=l) (Qm:=λe a' w'=>∃S' au,Q e S'∧jW base ah V S' au a' w') hD hk.fn (hk.y base ah V hE) (hk.b base ah V hE) hk.gb ops.toList ss 0 S [] _ blk a w he (λj=>by simp) h R (λS' ts' au a' w' hK R'=>⟨S',au,hK,R'⟩)
   rw[List.range_eq_range']
   simpa using this
  ·cases hs:(dB _ _ && dV _)<;>rw[hs]at he<;>cases he
 | draw ss un=>
  intro T l E c Q S hk he h
  cases c<;>simp only[comp,strip]at he<;>first | (cases he;done) | skip
  rename_i id ops d
  cases d<;>simp only[comp]at he
  ·cases he
  ·cases hs:(dB ops.toList (masks ops.toList []) && dV ops.toList)<;>rw[hs]at he
   ·cases he
   ·simp only[cond_true,LC.draw.injEq]at he
    obtain⟨he,rfl⟩:=he
    have:ops=ops.toList.toArray:=by simp
    rw[this]
    refine PW.acA (λi=>((ss[i]?).map (·.own)).getD false) hD hm (uO (λS' ts hh=>?_) _ _ _ _ (q9 hk.fn ops.toList ss 0 S [] _ he (λj s hs=>by simp[hs]) h))
    exact⟨Km (Bool.and_eq_true _ _ ▸ hs).1 hh.1,hh.2⟩
 | N9 b ss un=>
  intro T l E c Q S hk he h
  cases c<;>simp only[comp,strip]at he<;>first | (cases he;done) | skip
  rename_i id ops d
  cases d<;>simp only[comp]at he
  ·cases he
  ·cases hs:(dB ops.toList (masks ops.toList []) && dV ops.toList)<;>rw[hs]at he
   ·cases he
   ·rw[Bool.and_eq_true]at hs
    obtain⟨hs,hgb⟩:=hs
    simp only[cond_true,LC.draw.injEq]at he
    obtain⟨he,rfl⟩:=he
    obtain⟨hch,h⟩:=h
    obtain⟨hb,hchain⟩:=WV hch
    have hops:ops=ops.toList.toArray:=by simp
    intro base ah V hE blk a w ⟨w0,hV,R⟩
    refine wpIn_region_any hm ?_
    rw[hops]
    have hlA:(ops.toList.take b).length=b:=by rw[List.length_take];omega
    have hA:=acz (l:=l) (ops:=ops.toList.take b) (λi=>(((ss.take b)[i]?).map (·.own)).getD false) hD (Q:=λe S'=>e=.normal∧LR P D T (ss.drop b) S' [] λQM _=>Q .normal QM)
     (uO (λS' ts hh=>by
      refine⟨Km (by rw[Gy _ hb];exact I5 hs hgb hb) (by rw[Gy _ hb,QT _ hb];exact hh.1),rfl,hh.2⟩) _ _ _ _
      (q9 hk.fn (ops.toList.take b) (ss.take b) 0 S [] _ (by rw[Oc hgb,List.map_take,he,List.map_take]) (λj s hs=>by simp[hs]) h)) ⟨w0,hV,R.grew (w':={ w with drawn:=w.drawn+1 }) (.same rfl)⟩
    have hsz:(ops.toList.take b).toArray.size=b:=by simp[hlA]
    rw[hsz]at hA
    have hcut:=Y7 (Q:=λe a' w'=>∃S' au,Q e S'∧jW base ah V S' au a' w') hb (Y_ hs) hchain (λi o hi ho j want hg=>Nat.lt_trans (qp hgb ho hg) hi)
     (λe a' w' hne ⟨S',au,⟨h1,_⟩,_⟩=>absurd h1 hne) (λa' w' ⟨S',au,⟨_,hL⟩,hR⟩=>by
      have:=BH (l:=l) (Qm:=λe a' w'=>∃S' au,Q e S'∧jW base ah V S' au a' w') hD hk.fn (hk.y base ah V hE) (hk.b base ah V hE) hk.gb (ops:=ops.toList) (ops.toList.drop b) (ss.drop b) b S' [] _ au a' w' (by rw[List.map_drop,he,List.map_drop]) (λj=>by rw[List.getElem?_drop]) hL hR (λQM ts' jk a'' w'' hK R'=>⟨QM,jk,hK,R'⟩)
      rw[List.length_drop]at this
      exact this) b (Array.replicate b false) (Array.replicate ops.toList.length false) a _ (by simp) (by simp) (λj hj=>?_) (λj hj=>?_) (λj hj hjt=>?_) hA
    ·have e:b+(ops.toList.length-b)=ops.toList.toArray.size:=by rw[List.size_toArray];omega
     rw[e]at hcut
     simpa using hcut
    ·rw[Array.getD_eq_getD_getElem?,Array.getD_eq_getD_getElem?,Array.getElem?_replicate,Array.getElem?_replicate,if_pos hj,if_pos (by omega)]
    ·rw[Array.getD_eq_getD_getElem?,Array.getElem?_replicate];split<;>rfl
    ·simp only[Array.getD_eq_getD_getElem?,Array.getElem?_replicate]at hjt;split at hjt<;>cases hjt
 | seq x y ihx ihy=>
  intro T l E c Q S hk he h
  cases c<;>simp only[comp,strip]at he<;>first | (cases he;done) | skip
  ·rename_i d;cases d<;>simp only[comp]at he<;>first | (cases he;done) | (cases hs:(dB _ _ && dV _)<;>rw[hs]at he<;>cases he)
  ·simp only[LC.seq.injEq]at he
   exact .seq ((ihx _ _ _ _ _ _ hk he.1 h).mono (nU λS' h'=>ihy _ _ _ _ _ _ hk he.2 h'))
 | cond o x y ihx ihy=>
  intro T l E c Q S hk he h
  cases c<;>simp only[comp,strip]at he<;>first | (cases he;done) | skip
  ·rename_i d;cases d<;>simp only[comp]at he<;>first | (cases he;done) | (cases hs:(dB _ _ && dV _)<;>rw[hs]at he<;>cases he)
  ·simp only[LC.cond.injEq]at he
   obtain⟨rfl,h1,h2⟩:=he
   refine .cond ?_
   unfold iT zK at h
   unfold zK
   split at h
   ·exact⟨λhb=>ihx _ _ _ _ _ _ hk h1 (h.1 hb),λhb=>ihy _ _ _ _ _ _ hk h2 (h.2 hb)⟩
   ·exact h.elim
 | block id x ihx=>
  intro T l E c Q S hk he h
  cases c<;>simp only[comp,strip]at he<;>first | (cases he;done) | skip
  ·rename_i d;cases d<;>simp only[comp]at he<;>first | (cases he;done) | (cases hs:(dB _ _ && dV _)<;>rw[hs]at he<;>cases he)
  ·simp only[LC.block.injEq]at he
   obtain⟨rfl,h1⟩:=he
   exact .block (ihx _ _ _ _ _ _ hk h1 h)
 | loop ks fz x ihx=>
  intro T l E c Q S hk he h
  cases c<;>simp only[comp,strip]at he<;>first | (cases he;done) | skip
  ·rename_i d;cases d<;>simp only[comp]at he<;>first | (cases he;done) | (cases hs:(dB _ _ && dV _)<;>rw[hs]at he<;>cases he)
  ·simp only[LC.loop.injEq,true_and]at he
   obtain⟨hfz,I,⟨S0,m,hw,hI⟩,hr⟩:=h
   refine .weak hk.nx hw ?_
   exact PW.acI hk.nx I hI λm S hS=>(ihx _ _ _ _ _ _ hk he (hr m S hS)).mono (nU λS' ⟨m',h1,h2⟩=>⟨S'.norm ks fz,m',Weak.norm ks fz hfz S',h2,h1⟩)
 | rf f ps fz x y ihx ihy=>
  intro T l E c Q S hk he h
  cases c<;>simp only[comp,strip]at he<;>first | (cases he;done) | skip
  ·rename_i d;cases d<;>simp only[comp]at he<;>first | (cases he;done) | (cases hs:(dB _ _ && dV _)<;>rw[hs]at he<;>cases he)
  ·rename_i f' ps' x' y'
   simp only[LC.rf.injEq,true_and]at he
   obtain⟨rfl,rfl,h1,h2⟩:=he
   have htop:=hk.top h.1
   replace h:=h.2
   intro base ah V hE blk a w ⟨w0,hV,R⟩
   have hl:∀l1,l=some l1→∃r,w.heap[l1]?=some (.loop r):=λl1 e=>by
    obtain⟨h1,r,h2⟩:=htop l1 e base ah V hE w0 hV
    exact⟨r,(R.fr l1 h1).trans h2⟩
   have hps:ps'.toList.toArray=ps':=by simp
   rcases h with ⟨g,cap,ys,hf,hcap,hg,hys,h⟩ | ⟨g,cap,ys,I,hf,hcap,hg,hys,hfz,hI0,jm,kS,hend⟩
   rotate_left
   ·have:=Od (l:=l) (x:=x') (y:=y') (hk.ge g cap ys hg) hys hI0 jm R hl hf hcap hfz λi args objs hi hy l0=>
      (ihx _ _ _ _ _ _ (hk.inner S.objs.length l0) h1 (kS i args objs hi hy)).mono (nU λS1 h'=>ihy _ _ _ _ _ _ (hk.inner S.objs.length l0) h2 h')
    rw[hps]at this
    refine wpIn_mono this ?_
    rintro e a' w' ⟨ai,au,rfl,hI,R'⟩
    exact⟨_,au,hend ai hI,w0,hV,R'⟩
   rcases h with ⟨I,hfz,hI0,jm,kS,hend⟩ | ⟨I,J,lv,lc,hlv,hfz,hI0,jm,jJ,kS,hend,hleave⟩ | ⟨hbb,hbn,hbt,hbx,I,J,lv,lc,hlv,hfz,hI0,jm,jJ,kS,hend,hleave⟩
   ·have:=Od (l:=l) (x:=x') (y:=y') (hk.gives g cap ys hg) hys hI0 jm R hl hf hcap hfz λi args objs hi hy l0=>
      (ihx _ _ _ _ _ _ (hk.inner S.objs.length l0) h1 (kS i args objs hi hy)).mono (nU λS1 h'=>ihy _ _ _ _ _ _ (hk.inner S.objs.length l0) h2 h')
    rw[hps]at this
    refine wpIn_mono this ?_
    rintro e a' w' ⟨ai,au,rfl,hI,R'⟩
    exact⟨_,au,hend ai hI,w0,hV,R'⟩
   ·have:=Ku (l:=l) (x:=x') (y:=y') (V:=λz=>z=w0) (ex0:=λ_=>False) (hk.gives g cap ys hg) hys hlv hI0 jm jJ rfl R hl (λ_ h=>h.elim) (λz hz x hx _=>by subst hz;exact uK (R.ext x hx)) hf hcap hfz λi args objs hi hy l0=>
      (ihx _ _ _ _ _ _ (hk.W9 (S.objs.length+2) l0) h1 (kS i args objs hi hy)).mono (nU λS1 h'=>ihy _ _ _ _ _ _ (hk.W9 (S.objs.length+2) l0) h2 h')
    rw[hps]at this
    refine wpIn_mono this ?_
    rintro e a' w' ⟨ai,au,h,_,rfl,R'⟩
    rcases h with ⟨rfl,hI⟩ | ⟨rfl,i,O,hi,hJ,rfl⟩
    ·exact⟨_,au,hend ai hI,_,hV,R'⟩
    ·exact⟨_,au,hleave i O hi hJ,_,hV,R'⟩
   ·obtain⟨ex,fB,V0,hY,hL,hW,hnx,hL2⟩:=hk.b base ah V hE hbb
    have:=Ku (l:=l) (x:=x') (y:=y') (V:=V) (ex0:=ex) (hk.gives g cap ys hg) hys hlv hI0 jm jJ hV R hl hL2 (λz hz x _ h=>ou (le_trans (hk.nx base ah V hE z hz) hbx) h) hf hcap hfz λi args objs hi hy l0=>
     (ihx _ _ _ _ _ _ (hk.oQ (S.objs.length+2) l0 hY hL hW hnx hbn hbt) h1 (kS i args objs hi hy)).mono (nU λS1 h'=>ihy _ _ _ _ _ _ (hk.oQ (S.objs.length+2) l0 hY hL hW hnx hbn hbt) h2 h')
    rw[hps]at this
    refine wpIn_mono this ?_
    rintro e a' w' ⟨ai,au,h,R'⟩
    rcases h with ⟨rfl,hI⟩ | ⟨rfl,i,O,hi,hJ,rfl⟩
    ·exact⟨_,au,hend ai hI,R'⟩
    ·exact⟨_,au,hleave i O hi hJ,R'⟩
end Lp
namespace Lp
open Go
variable {P:Program}{D:TypeId→aC}{T:Know}
def kX(D:TypeId→aC)(S:St):List ResultVar→(List PV→Prop)→Prop
 | [],K=>K []
 | .tmp t::rs,K=>kX D S rs λps=>K (S.tmps.getD t .dead::ps)
 | .cell a t::rs,K=>fq (D t) (S.tmps.getD a .dead) S.objs λp _ _=>kX D S rs λps=>K (p::ps)
def gJ:List PV→PV
 | [p]=>p
 | ps=>.bI ps
def UX(D:TypeId→aC)(d:Nat)(rs:List ResultVar)(r:PV)(e:Exit)(S:St):Prop:=
 (e=.normal∨e=.ret)∧kX D S rs λps=>r=gJ (ps.map (jP d 0 S.objs))
def Q7(d:Nat)(t:Nat)(o':Obj)(e:Exit)(S:St):Prop:=
 (e=.normal∨e=.ret)∧∃S' k ver o,Weak 0 S S'∧S'.tmps.getD t .dead=.aZ k ver∧S'.objs[k]?=some o∧o.live=true∧o.ver=ver∧{ fJ d (k+1) S'.objs o with ver:=0 }=o'∧bD [o']
section
variable {base ah:Nat→Prop}{w0:Wz}{S:St}{blk:Nat→Option Nat}{a:Act}{w:World}
theorem qy{ok:Nat→Prop}{p:PV}{v:Value}(h:aR w ok [] blk p v):cu w ok p v:=by
 have hS:∀(p:PV) (v:Value),aY w ok [] blk p v→cu w ok p v:=by
  intro p v h
  cases p<;>first | exact h | (obtain⟨_,o,ho,_⟩:=h;simp at ho)
 cases p
 case fn f x c=>obtain⟨va,vc,rfl,h1,h2⟩:=h;exact .fn _ _ _ va vc h1.1 h2.1 (λi p v a b=>hS _ _ (h1.2 i p v a b)) (λi p v a b=>hS _ _ (h2.2 i p v a b))
 case bI cs=>obtain⟨vs,rfl,h1⟩:=h;exact .bI _ vs h1.1 (λi p v a b=>hS _ _ (h1.2 i p v a b))
 case agg cs=>obtain⟨vs,rfl,h1⟩:=h;exact .agg _ vs h1.1 (λi p v a b=>hS _ _ (h1.2 i p v a b))
 all_goals exact hS _ _ h
theorem Zb(S:St)(d:Nat):(S.freeze d 0).objs=[]:=by simp[St.freeze]
theorem aec(R:Rel base ah w0 S blk a w)(d:Nat)(p:PV)(v:Value)(h:aR w (bA base S.objs blk) S.objs blk p v):cu w base (jP d 0 S.objs p) v:=by
 have:=Gs R d 0 p v h
 rw[Zb]at this
 exact (qy this).o_ λb _ h=>h.1
theorem UY(hD:∀t,fI P t (D t))(R:Rel base ah w0 S blk a w){t x:Nat}{K:KT}(h:fq (D t) (S.tmps.getD x .dead) S.objs K) :
  ∃p ad v τ,a.tmps.getD x undef=.pointer (some ad)∧(loadVar t ad).run P w=.ok v w∧K p S.objs τ∧aR w (bA base S.objs blk) S.objs blk p v:=by
 have hx:=R.ev (.tmp x)
 change aR w (bA base S.objs blk) S.objs blk (S.tmps.getD x .dead) (a.tmps.getD x undef) at hx
 unfold fq at h
 split at h
 ·rename_i p e
  rw[e]at hx
  obtain⟨hk,h1,h2,h3⟩:=h
  have hx':=hx.addr
  generalize hv:a.tmps.getD x undef=v at hx'
  cases hx' with
  | addr _ b off vs hok hcell hrep=>
   obtain⟨u,g1,g2⟩:=mJ (hD t) hk (At.zD vs hcell hrep) h1 h2
   exact⟨_,_,_,_,rfl,g1,h3,Br g2⟩
 ·rename_i k ver i f e
  rw[e]at hx
  obtain⟨ob,el,h1,h2,h3,h4,hk,h5,h6,h7,h8⟩:=h
  obtain⟨g,hb,hv,hty⟩:=hx.bq h1 h2 h3
  obtain⟨y1,y2⟩:=Qv R.objs h1 h2 h4 hb hty
  have hat:At (aY w (bA base S.objs blk) S.objs blk) w g (i*ob.sz) (.agg el.cells):=y2
  have hs:=At.sub hat f (D t).size (D t).agg h5 h6 (pU h7)
  obtain⟨c1,c2⟩:=J2 el.cells f _ _ h5 h6 h7
  obtain⟨u,g1,g2⟩:=mJ (hD t) hk hs c1 c2
  exact⟨_,_,_,_,hv,g1,h8,zF g2⟩
 ·exact h.elim
def Zc(tmps:Array Value):ResultVar→Sem Value
 | .tmp t=>pure (tmps.getD t undef)
 | .cell a t=>do loadVar t (←asAddr (tmps.getD a undef))
def GH(tmps:Array Value):List ResultVar→Sem (List Value)
 | []=>pure []
 | r::rs=>do
  let v ←Zc tmps r
  let vs ←GH tmps rs
  pure (v::vs)
theorem sP(hD:∀t,fI P t (D t))(R:Rel base ah w0 S blk a w):∀(rs:List ResultVar) (K:List PV→Prop),kX D S rs K→
  ∃vs ps,(GH a.tmps rs).run P w=.ok vs w∧K ps∧bG (aR w (bA base S.objs blk) S.objs blk) ps vs
 | [],K,h=>⟨[],[],rfl,h,rfl,λ_ _ _ h=>by simp at h⟩
 | .tmp t::rs,K,h=>by
  obtain⟨vs,ps,h1,h2,h3,h4⟩:=sP hD R rs _ h
  refine⟨a.tmps.getD t undef::vs,S.tmps.getD t .dead::ps,by simp[GH,Zc,h1],h2,by simpa using h3,λi p v hp hv=>?_⟩
  cases i with
  | zero=>
   simp only[List.getElem?_cons_zero,Option.some.injEq]at hp hv
   subst hp;subst hv;exact R.ev (.tmp t)
  | succ i=>exact h4 i p v (by simpa using hp) (by simpa using hv)
 | .cell x t::rs,K,h=>by
  obtain⟨p0,ad,v0,_,e1,e2,h,e3⟩:=UY hD R h
  obtain⟨vs,ps,h1,h2,h3,h4⟩:=sP hD R rs _ h
  refine⟨v0::vs,p0::ps,by simp[GH,Zc,e1,e2,h1,asAddr],h2,by simpa using h3,λi p v hp hv=>?_⟩
  cases i with
  | zero=>
   simp only[List.getElem?_cons_zero,Option.some.injEq]at hp hv
   subst hp;subst hv;exact e3
  | succ i=>exact h4 i p v (by simpa using hp) (by simpa using hv)
def EW:List Value→Value
 | [v]=>v
 | vs=>.tuple ⟨vs⟩
end
theorem run_bind_ok{α β:Type}{x:Sem α}{f:α→Sem β}{P:Program}{w w':World}{b:β}(h:(x >>=f).run P w=.ok b w'):∃c w1,x.run P w=.ok c w1∧(f c).run P w1=.ok b w':=by
 rw[Sem.run_bind]at h
 cases hx:x.run P w with
 | ok c w1=>rw[hx]at h;exact⟨c,w1,rfl,h⟩
 | halt o w1=>rw[hx]at h;cases h
theorem rq{fn:Func}{rs:List ResultVar}(h:fn.results=rs.toArray)(hl:rs.length≤3){tmps:Array Value}{vs:List Value}{P:Program}{w:World}
  (hr:(GH tmps rs).run P w=.ok vs w):(results fn tmps).run P w=.ok (EW vs) w:=by
 have hf:results fn tmps=(fn.results.mapM (Zc tmps) >>=λvs=>pure (if h:vs.size=1 then vs[0] else .tuple vs)):=by
  unfold results
  refine congrArg (λf:ResultVar→Sem Value=>(Array.mapM f fn.results >>=λvs=>pure (if h:vs.size=1 then vs[0] else Value.tuple vs):Sem Value)) ?_
  funext r
  cases r<;>rfl
 match rs,hl,h,hr with
 | [],_,h,hr=>
  simp only[GH,Sem.run_pure]at hr
  cases hr
  simp[results,h,EW]
 | [r1],_,h,hr=>
  simp only[GH]at hr
  obtain⟨v1,w1,h1,hr⟩:=run_bind_ok hr
  obtain⟨v2,w2,h2,hr⟩:=run_bind_ok hr
  simp only[Sem.run_pure]at hr h2
  cases h2;cases hr
  rw[hf,h]
  simp[h1,EW]
 | [r1,r2],_,h,hr=>
  simp only[GH]at hr
  obtain⟨v1,w1,h1,hr⟩:=run_bind_ok hr
  obtain⟨v2,w2,h2,hr⟩:=run_bind_ok hr
  obtain⟨v3,w3,h3,h2⟩:=run_bind_ok h2
  obtain⟨v4,w4,h4,h2⟩:=run_bind_ok h2
  simp only[Sem.run_pure]at hr h2 h4
  cases h4;cases h2;cases hr
  rw[hf,h]
  simp[h1,h3,EW]
 | [r1,r2,r3],_,h,hr=>
  simp only[GH]at hr
  obtain⟨v1,w1,h1,hr⟩:=run_bind_ok hr
  obtain⟨v2,w2,h2,hr⟩:=run_bind_ok hr
  obtain⟨v3,w3,h3,h2⟩:=run_bind_ok h2
  obtain⟨v4,w4,h4,h2⟩:=run_bind_ok h2
  obtain⟨v5,w5,h5,h4⟩:=run_bind_ok h4
  obtain⟨v6,w6,h6,h4⟩:=run_bind_ok h4
  simp only[Sem.run_pure]at hr h2 h4 h6
  cases h6;cases h4;cases h2;cases hr
  rw[hf,h]
  simp[h1,h3,h5,EW]
 | _::_::_::_::_,hl,_,_=>simp at hl
theorem wV{base ah:Nat→Prop}{blk:Nat→Option Nat}{w:World}:cK base ah [] blk w:=
 ⟨λ_ _ h=>by simp at h,λ_ _ _ _ _ _ h=>by simp at h,λ_ _ _ h=>by simp at h⟩
theorem Oh(w:World)(b:Nat)(o:Go.Obj)(k:Nat):(w.putObj b o).heap[k]?=if b=k∧b<w.heap.size then some o else w.heap[k]?:=by
 simp only[World.putObj,Array.getElem?_setIfInBounds]
 by_cases h:b=k
 ·subst h
  by_cases h':b<w.heap.size
  ·simp[h']
  ·simp[h']
 ·simp[h]
theorem Rel.takeD {base ah:Nat→Prop}{w0:Wz}{S:St}{blk:Nat→Option Nat}{a:Act}{w:World}(R:Rel base ah w0 S blk a w){b:Nat}{ds:List Deferred}(hd:a.defers={ target:=.collected b,args:=#[] }::ds) :
  w.heap[b]?=some (.deferred (some []))∧Rel base ah w0 S blk { a with defers:=ds } (w.putObj b (.deferred none)):=by
 obtain⟨Ds,h1,h2,h3⟩:=R.o7
 rw[hd]at h1
 cases Ds with
 | nil=>simp at h1
 | cons b' Ds=>
  simp only[List.map_cons,List.cons.injEq,Deferred.mk.injEq,Target.collected.injEq,and_true]at h1
  obtain⟨rfl,rfl⟩:=h1
  obtain⟨hb,aeB,hbp⟩:=h3 b List.mem_cons_self
  have hsz:(w.putObj b (.deferred none)).heap.size=w.heap.size:=by simp[World.putObj]
  have hne:∀k:Nat,k≠b→(w.putObj b (.deferred none)).heap[k]?=w.heap[k]?:=λk hk=>by rw[Oh,if_neg (λe=>hk e.1.symm)]
  have hc:∀(k:Nat) (x:Go.Obj),w.heap[k]?=some x→iF x→(w.putObj b (.deferred none)).heap[k]?=some x:=by
   rintro k x hk (⟨c,t,y,rfl⟩ | ⟨es,n,rfl⟩ | ⟨_,_,_,_,rfl⟩)
   ·rw[hne k (λe=>by subst e;rw[hb]at hk;cases hk),hk]
   ·rw[hne k (λe=>by subst e;rw[hb]at hk;cases hk),hk]
   ·rw[hne k (λe=>by subst e;rw[hb]at hk;cases hk),hk]
  have ho:nP w (w.putObj b (.deferred none)) S.objs S.objs blk blk:=λk o ho=>⟨o,ho,Nat.le_refl _,λhl _=>⟨hl,rfl,rfl,rfl,λ_=>rfl,λg c _ hg=>⟨c,hc g _ hg (.inl ⟨c,_,_,rfl⟩),rfl⟩⟩⟩
  refine⟨hb,⟨⟨Ds,rfl,(List.nodup_cons.1 h2).2,λk hk=>?_⟩,R.Fj,λt p hp=>(R.tm t p hp).qV (Nat.le_of_eq hsz.symm) (λ_ _ h=>h) (λk x _ hx hcx=>hc k x hx (.inl hcx)) ho,⟨λk o h1 h4=>?_,R.objs.Bd,R.objs.np⟩,R.pr,λk hk=>?_,by rw[hsz];exact R.gr,R.pb,λx hx=>(R.ext x hx).qV (Nat.le_of_eq hsz.symm) (λ_ _ h=>h) (λk x _ hx hcx=>hc k x hx (.inl hcx)) ho,R.Ab,R.sm.trans ⟨rfl,rfl⟩,R.gl⟩⟩
  ·have hkb:k≠b:=λe=>(List.nodup_cons.1 h2).1 (e ▸ hk)
   rw[hne k hkb]
   exact h3 k (List.mem_cons_of_mem _ hk)
  ·have hh:=R.objs.ob k o h1 h4
   unfold bE at hh ⊢
   cases hg:blk k with
   | none=>rw[hg]at hh;exact hh
   | some g=>
    rw[hg]at hh
    obtain⟨c,x1,x2,x3⟩:=hh
    refine⟨c,hc g _ x1 (uI _ _ _),x2,λi x hx=>⟨(x3 i x hx).1,λj p hp=>?_⟩⟩
    obtain⟨v,y1,y2⟩:=(x3 i x hx).2 j p hp
    exact⟨v,y1,y2.qV (Nat.le_of_eq hsz.symm) (λ_ _ h=>h) (λk x _ hx hcx=>hc k x hx (.inl hcx)) ho⟩
  ·rw[hne k (λe=>hbp (e ▸ hk))];exact R.fr k hk
theorem jr{base ah:Nat→Prop}{w0:Wz}{S:St}{blk:Nat→Option Nat}{P:Program}{fn:Func}{Q:Ending→World→Prop}{tm:Array Value}:∀(ds:List Deferred) (w:World),Rel base ah w0 S blk { tmps:=tm,defers:=ds } w→
  (∀w',Rel base ah w0 S blk { tmps:=tm,defers:=[] } w'→∃v,(results fn tm).run P w'=.ok v w'∧Q (.returned v) w')→LeavesInM (Bp none) 0 P fn tm Q ds .returning w
 | [],w,R,h=>h w R
 | d::ds,w,R,h=>by
  obtain⟨Ds,h1,_,_⟩:=R.o7
  cases Ds with
  | nil=>simp at h1
  | cons b Ds=>
   simp only[List.map_cons,List.cons.injEq]at h1
   obtain⟨rfl,rfl⟩:=h1
   obtain⟨hb,R'⟩:=R.takeD (b:=b) rfl
   exact⟨by simp,.inl ⟨b,_,rfl,run_takeDeferred hb,jr _ _ R' h⟩⟩
def sQ:Env:=λ_ _ V=>∀w0,V w0→w0.xs=[]∧w0.nx=0
theorem tZ.acU (h:jX P T.fn)(hy:T.Y=λ_ _ _=>False)(hg:∀g cap ys,T.gives g cap ys→Gives P g cap ys)(he:∀g cap ys,T.ge g cap ys→qw P g cap ys)(hb:T.bb=false)(hgb:∀g bargs ys,T.gb g bargs ys→fK P g bargs ys)(hfa:∀f args objs K,T.fa f args objs K→jI P f args objs K:=by exact λ_ _ _ _ h=>h.elim):tZ P none sQ T:=
 ⟨h,λ_ _ _ _=>by rw[hy];exact I4.none,λ_ _ _ hE w0 hw=>by rw[(hE w0 hw).2];exact Nat.zero_le _,(λ_ _ e=>by cases e),hg,he,λ_ _ _ _=>YA.none hb,hgb,hfa⟩
def a_(args:List PV)(n:Nat):St:=⟨args++List.replicate (n-args.length) .dead,[]⟩
theorem yI{base:Nat→Prop}{w:World}{blk:Nat→Option Nat}{args:List PV}{vs:List Value}(hb:mI.holds w.heap∧∀b,w.heap.size≤b→base b)(h:bG (aR w (bA base [] blk) [] blk) args vs)(n:Nat) :
  Rel base (λb=>b<w.heap.size∧aJ [] blk b) ⟨w.heap,[],0,w⟩ (a_ args n) blk { tmps:=(⟨vs⟩:Array Value)++Array.replicate (n-(⟨vs⟩:Array Value).size) undef,defers:=[] } w:=by
 have hl:=h.1
 refine⟨.nil _ _,?_,λt p hp=>?_,wV,λb hb=>hb.1,λ_ _=>rfl,Nat.le_refl _,λb hn=>hb.2 b ?_,λx hx=>by simp at hx,λx hx=>by simp at hx,.refl w,⟨hb.1,λb hg=>⟨mI.lt hb.1 b hg,dI _ _⟩⟩⟩
 ·simp[a_,hl]
 ·simp only[a_]at hp
  rw[List.getElem?_append]at hp
  split at hp
  ·rename_i ht
   obtain⟨v,hv⟩:∃v,vs[t]?=some v:=⟨vs[t]'(by omega),List.getElem?_eq_getElem (by omega)⟩
   have hg:((⟨vs⟩:Array Value)++Array.replicate (n-(⟨vs⟩:Array Value).size) undef).getD t undef=v:=by
    rw[Array.getD_eq_getD_getElem?,Array.getElem?_append,if_pos (by simpa using (by omega:t<vs.length))]
    simp[hv]
   rw[hg]
   exact h.2 t p v hp hv
  ·rw[List.getElem?_replicate]at hp
   split at hp
   ·cases hp;exact .dead _
   ·cases hp
 ·rcases Nat.lt_or_ge b w.heap.size with h1 | h1
  ·exact absurd ⟨h1,dI blk b⟩ hn
  ·exact h1
theorem Zd{w:World}{ok:Nat→Prop}{f:PV→PV}{ps:List PV}{vs:List Value}{R:PV→Value→Prop}(h:bG R ps vs)(hf:∀p v,R p v→cu w ok (f p) v):cu w ok (gJ (ps.map f)) (EW vs):=by
 obtain⟨hl,h⟩:=h
 match ps,vs,hl,h with
 | [p],[v],_,h=>exact hf p v (h 0 p v rfl rfl)
 | [],[],_,_=>exact .bI [] [] rfl (λ_ _ _ h=>by simp at h)
 | p::p'::ps,v::v'::vs,hl,h=>
  refine .bI _ _ (by simpa using hl) λi q u hq hu=>?_
  rw[←List.map_cons,List.getElem?_map]at hq
  cases hc:(p::p'::ps)[i]? with
  | none=>rw[hc]at hq;simp at hq
  | some q0=>
   rw[hc]at hq
   simp only[Option.map_some,Option.some.injEq]at hq
   subst hq
   exact hf q0 u (h i q0 u hc hu)
theorem av.mU {f:FuncId}{fn:Func}{c:Code}{C:LC}{args:List PV}{r:PV}(d:Nat){rs:List ResultVar}{n:Nat}(hD:∀t,fI P t (D t))(hT:tZ P none sQ T)(hm:P.follows .mixedOrders=true)
  (hf:P.funcs[f]?=some fn) (hname:(fn.name== "runtime.NumGoroutine")=false) (hb:fn.body=some c) (hn:fn.ntmps=n) (hr:fn.results=rs.toArray) (hl:rs.length≤3) (hC:strip C=comp c)
  (h:iT P D T C (UX D d rs r) (a_ args n)):av P f args [] r []:=by
 refine⟨⟨fn,hf,hname,by rw[hb];rfl⟩,λw blk vs base hbase _ hargs=>?_⟩
 have hpw:PW P none sQ c (UX D d rs r) (a_ args n):=kJ hD hm C _ _ _ c _ _ hT hC h
 have R:=yI hbase hargs n
 have hw:=hpw _ _ (λx=>(⟨w.heap,[],0,w⟩:Wz)=x) (by rintro z rfl;exact⟨rfl,rfl⟩) _ _ _ ⟨_,rfl,R⟩
 rw[←callsIn_wide (n:=0)]
 refine callsIn_of_wp_marks hf hb trivial ?_
 rw[hn]
 refine wpIn_mono hw ?_
 rintro e a' w' ⟨S',au,⟨he,ho⟩,_,rfl,R'⟩
 have key:∀w',Rel base (λb=>b<w.heap.size∧aJ [] blk b) ⟨w.heap,[],0,w⟩ S' au { a' with defers:=[] } w'→∃v,(results fn a'.tmps).run P w'=.ok v w'∧(∃v' au,Ending.returned v=.returned v'∧cK base (λb=>b<w.heap.size∧aJ [] blk b) [] au w'∧
     aR w' (bA base [] au) [] au r v'∧(∀b,b<w.heap.size→aJ [] blk b→w'.heap[b]?=w.heap[b]?)∧w.heap.size≤w'.heap.size∧Sm w w'):=by
  intro w' R'
  obtain⟨vs',ps,h1,h2,h3⟩:=sP hD R' rs _ ho
  refine⟨EW vs',rq hr hl h1,EW vs',au,rfl,wV,?_,λb hb1 hb2=>R'.fr b ⟨hb1,hb2⟩,R'.gr,R'.sm⟩
  rw[h2]
  exact .aI ((Zd h3 (λp v h=>aec R' d p v h)).o_ λb _ h=>⟨h,dI _ _⟩)
 rcases he with rfl | rfl<;>exact jr _ _ R' key
def jZ(d k:Nat)(S:St)(o:Obj):Obj:={ fJ d (k+1) S.objs o with ver:=0 }
theorem Dk{base ah:Nat→Prop}{w0:Wz}{S':St}{au:Nat→Option Nat}{a:Act}{w':World}{d k:Nat}{o:Obj}(R':Rel base ah w0 S' au a w')(ho:S'.objs[k]?=some o)(hlv:o.live=true)(hnr:bD [jZ d k S' o]) :
  cK base ah [jZ d k S' o] (λj=>if j=0 then au k else none) w'∧
  ∀v,aY w' (bA base S'.objs au) S'.objs au (.aZ k o.ver) v→aY w' (bA base [jZ d k S' o] (λj=>if j=0 then au k else none)) [jZ d k S' o] (λj=>if j=0 then au k else none) (.aZ 0 0) v:=by
 unfold jZ at hnr ⊢
 refine⟨⟨?_,?_,?_⟩,λv hx=>?_⟩
 ·intro j o1 hj hl1
  cases j with
  | succ j=>simp at hj
  | zero=>
   simp only[List.getElem?_cons_zero,Option.some.injEq]at hj
   subst hj
   have hb:=R'.objs.ob k o ho hlv
   unfold bE at hb ⊢
   simp only[if_true]
   cases hg:au k with
   | none=>rw[hg]at hb;simp[fJ,hb]
   | some g=>
    rw[hg]at hb
    obtain⟨c',hc,h7,h8⟩:=hb
    refine⟨c',hc,by simpa[fJ,fits] using h7,λi x hx=>?_⟩
    simp only[fJ,List.getElem?_map]at hx
    cases hx0:o.xs[i]? with
    | none=>rw[hx0]at hx;simp at hx
    | some x0=>
     rw[hx0]at hx
     simp only[Option.map_some,Option.some.injEq]at hx
     subst hx
     have e:=mQ (Tm d (k+1) S'.objs) x0
     refine⟨by rw[e,List.length_map];exact (h8 i x0 hx0).1,λj p hp=>?_⟩
     rw[e,List.getElem?_map]at hp
     cases hp0:x0.cells[j]? with
     | none=>rw[hp0]at hp;simp at hp
     | some p0=>
      rw[hp0]at hp
      simp only[Option.map_some,Option.some.injEq]at hp
      subst hp
      obtain⟨u,hu,hrr⟩:=(h8 i x0 hx0).2 j p0 hp0
      refine⟨u,hu,?_⟩
      have h9:=qo R' d (k+1) p0 u hrr
      have h10:(gq d (k+1) S'.objs p0).ref=false:=by
       refine hnr _ List.mem_cons_self (x0.bU (gq d (k+1) S'.objs)) ?_ _ ?_
       ·simp only[fJ,List.mem_map];exact⟨x0,List.mem_of_getElem? hx0,rfl⟩
       ·rw[e];exact List.mem_map.2 ⟨p0,List.mem_of_getElem? hp0,rfl⟩
      refine .aI ((h9.zD h10).o_ λb _ hb=>⟨hb.1,λk' o' hk' _=>?_⟩)
      cases k' with
      | succ k'=>simp at hk'
      | zero=>
       simp only[if_true]
       rw[←hg]
       refine hb.2 k (fJ d (k+1) S'.objs o) ?_ hlv
       simp[St.freeze,ho]
 ·intro j j' o1 o2 g hne h1 h2 h3 h4
  cases j<;>cases j'<;>simp at h1 h3
  exact absurd rfl hne
 ·intro j o1 g h1 h2 h3
  cases j with
  | succ j=>simp at h1
  | zero=>simp only[if_true]at h3;exact R'.objs.np k o g ho hlv h3
 ·obtain⟨h0,o1,h1,h2,h3⟩:=hx
  rw[ho]at h1
  cases h1
  obtain⟨hM,hh⟩:=h3 hlv rfl
  refine⟨h0,_,rfl,Nat.le_refl _,λ_ _=>⟨hM,?_⟩⟩
  unfold wB at hh ⊢
  simp only[if_true]
  cases hg:au k with
  | none=>rw[hg]at hh;exact⟨hh.1,by simp[fJ,hh.2]⟩
  | some g=>rw[hg]at hh;simpa[fJ] using hh
theorem av.UZ {f:FuncId}{fn:Func}{c:Code}{C:LC}{args:List PV}{o':Obj}(d:Nat){t n:Nat}(hD:∀t,fI P t (D t))(hT:tZ P none sQ T)(hm:P.follows .mixedOrders=true)
  (hf:P.funcs[f]?=some fn) (hname:(fn.name== "runtime.NumGoroutine")=false) (hb:fn.body=some c) (hn:fn.ntmps=n) (hr:fn.results=#[.tmp t]) (hC:strip C=comp c)
  (h:iT P D T C (Q7 d t o') (a_ args n)):av P f args [] (.aZ 0 0) [o']:=by
 refine⟨⟨fn,hf,hname,by rw[hb];rfl⟩,λw blk vs base hbase _ hargs=>?_⟩
 have hpw:PW P none sQ c (Q7 d t o') (a_ args n):=kJ hD hm C _ _ _ c _ _ hT hC h
 have R:=yI hbase hargs n
 have hw:=hpw _ _ (λx=>(⟨w.heap,[],0,w⟩:Wz)=x) (by rintro z rfl;exact⟨rfl,rfl⟩) _ _ _ ⟨_,rfl,R⟩
 rw[←callsIn_wide (n:=0)]
 refine callsIn_of_wp_marks hf hb trivial ?_
 rw[hn]
 refine wpIn_mono hw ?_
 rintro e a' w' ⟨S0,WS,⟨he,S',k,ver,o,hwk,ht,ho,hlv,hv,rfl,hnr⟩,_,rfl,R0⟩
 obtain⟨au,R'⟩:=hwk _ _ _ _ _ _ (Nat.le_refl _) R0
 have key:∀w',Rel base (λb=>b<w.heap.size∧aJ [] blk b) ⟨w.heap,[],0,w⟩ S' au { a' with defers:=[] } w'→∃v,(results fn a'.tmps).run P w'=.ok v w'∧(∃v' jk,Ending.returned v=.returned v'∧
     cK base (λb=>b<w.heap.size∧aJ [] blk b) [jZ d k S' o] jk w'∧
     aR w' (bA base [jZ d k S' o] jk) [jZ d k S' o] jk (.aZ 0 0) v'∧(∀b,b<w.heap.size→aJ [] blk b→w'.heap[b]?=w.heap[b]?)∧w.heap.size≤w'.heap.size∧Sm w w'):=by
  intro w' R'
  have hx:=R'.ev (.tmp t)
  change aR w' _ _ au (S'.tmps.getD t .dead) (a'.tmps.getD t undef) at hx
  rw[ht,←hv]at hx
  obtain⟨c1,c2⟩:=Dk (d:=d) R' ho hlv hnr
  exact⟨_,results_tmp hr _ _ _,a'.tmps.getD t undef,_,rfl,c1,c2 _ hx,λb hb1 hb2=>R'.fr b ⟨hb1,hb2⟩,R'.gr,R'.sm⟩
 rcases he with rfl | rfl<;>exact jr _ _ R' key
def Ze(D:TypeId→aC)(d:Nat)(rs:List ResultVar)(qs:List PV)(o':Obj)(e:Exit)(S:St):Prop:=
 (e=.normal∨e=.ret)∧∃S' k o,Weak 0 S S'∧kX D S' rs (λps=>ps=.aZ k o.ver::qs)∧S'.objs[k]?=some o∧o.live=true∧jZ d k S' o=o'∧bD [o']∧qs.all PV.atom=true
theorem av.Q8 {f:FuncId}{fn:Func}{c:Code}{C:LC}{args:List PV}{o':Obj}(d:Nat){rs:List ResultVar}{n:Nat}{qs:List PV}(hD:∀t,fI P t (D t))(hT:tZ P none sQ T)(hm:P.follows .mixedOrders=true)
  (hf:P.funcs[f]?=some fn) (hname:(fn.name== "runtime.NumGoroutine")=false) (hb:fn.body=some c) (hn:fn.ntmps=n) (hr:fn.results=rs.toArray) (hl:rs.length≤3) (hC:strip C=comp c)
  (h:iT P D T C (Ze D d rs qs o') (a_ args n)):av P f args [] (gJ (.aZ 0 0::qs)) [o']:=by
 refine⟨⟨fn,hf,hname,by rw[hb];rfl⟩,λw blk vs base hbase _ hargs=>?_⟩
 have hpw:PW P none sQ c (Ze D d rs qs o') (a_ args n):=kJ hD hm C _ _ _ c _ _ hT hC h
 have R:=yI hbase hargs n
 have hw:=hpw _ _ (λx=>(⟨w.heap,[],0,w⟩:Wz)=x) (by rintro z rfl;exact⟨rfl,rfl⟩) _ _ _ ⟨_,rfl,R⟩
 rw[←callsIn_wide (n:=0)]
 refine callsIn_of_wp_marks hf hb trivial ?_
 rw[hn]
 refine wpIn_mono hw ?_
 rintro e a' w' ⟨S0,WS,⟨he,S',k,o,hwk,hout,ho,hlv,rfl,hnr,hq⟩,_,rfl,R0⟩
 obtain⟨au,R'⟩:=hwk _ _ _ _ _ _ (Nat.le_refl _) R0
 have key:∀w',Rel base (λb=>b<w.heap.size∧aJ [] blk b) ⟨w.heap,[],0,w⟩ S' au { a' with defers:=[] } w'→∃v,(results fn a'.tmps).run P w'=.ok v w'∧(∃v' jk,Ending.returned v=.returned v'∧
     cK base (λb=>b<w.heap.size∧aJ [] blk b) [jZ d k S' o] jk w'∧
     aR w' (bA base [jZ d k S' o] jk) [jZ d k S' o] jk (gJ (.aZ 0 0::qs)) v'∧(∀b,b<w.heap.size→aJ [] blk b→w'.heap[b]?=w.heap[b]?)∧w.heap.size≤w'.heap.size∧Sm w w'):=by
  intro w' R'
  obtain⟨vs',ps,h1,h2,h3⟩:=sP hD R' rs _ hout
  subst h2
  obtain⟨c1,c2⟩:=Dk (d:=d) R' ho hlv hnr
  refine⟨EW vs',rq hr hl h1,EW vs',_,rfl,c1,?_,λb hb1 hb2=>R'.fr b ⟨hb1,hb2⟩,R'.gr,R'.sm⟩
  obtain⟨hl3,h3⟩:=h3
  match vs',qs,hl3,h3,hq with
  | [v],[],_,h3,_=>exact c2 v (h3 0 _ v rfl rfl)
  | v::v'::vs,q::qs,hl3,h3,hq=>
   refine⟨v::v'::vs,rfl,by simpa using hl3,λi p u hp hu=>?_⟩
   cases i with
   | zero=>cases hp;cases hu;exact c2 _ (h3 0 _ _ rfl rfl)
   | succ i=>
    have hp':(q::qs)[i]?=some p:=hp
    have ha:=List.all_eq_true.1 hq p (List.mem_of_getElem? hp')
    have h5:=h3 (i+1) p u hp hu
    refine Gd ha (w:=w') (ok:=bA base S'.objs au) (objs:=S'.objs) (blk:=au) ?_
    cases p<;>first | exact h5 | (simp[PV.atom]at ha)
 rcases he with rfl | rfl<;>exact jr _ _ R' key
def Oi(n:Nat)(I J:Nat→List Obj→Prop)(e:Exit)(S:St):Prop:=(e=.normal∨e=.ret)∧(I n S.objs∨∃i,i<n∧J i S.objs)
def BJ(fn:Np)(y:Nat)(Y:YT)(nx:Nat):Know:={ fn,y,Y,top:=false,gives:=λ_ _ _=>False,nx }
def nI(P:Program)(fn:Np)(y:Nat)(YB:YT)(n:Nat):Know:={ fn,y,Y:=λ_ _ _=>False,top:=true,gives:=Gives P,nx:=n,bb:=true,bn:=n,YB,gb:=fK P,ge:=qw P,fa:=jI P }
theorem tZ.nI {fnT:Np}(hT:jX P fnT){base ah:Nat→Prop}{V:Wz→Prop}{ex:Nat→Prop}{y n:Nat}{Y:YT}(hY:I4 P ah V ex y Y)(hL:ow ex ah V)(hnx:∀z,V z→z.nx≤n) :
  tZ P none (λbase' iM V'=>base'=base∧iM=ah∧V'=V) (Lp.nI P fnT y Y n):=
 ⟨hT,λ_ _ _ _=>I4.none,by rintro b p v ⟨rfl,rfl,rfl⟩;exact hnx,(λ_ _ e=>by cases e),λ_ _ _ h=>h,λ_ _ _ h=>h,by rintro b p v ⟨rfl,rfl,rfl⟩ _;exact⟨ex,_,_,hY,hL,ET.refl,hnx,hL⟩,λ_ _ _ h=>h,λ_ _ _ _ h=>h⟩
theorem GI{base ah:Nat→Prop}{w0:Wz}{objs:List Obj}{blk:Nat→Option Nat}{w:World}{args:List PV}{vs:List Value}(R:Rel base ah w0 ⟨[],objs⟩ blk wR w)(hargs:bG (cu w (bA base objs blk)) args vs)(n:Nat) :
  Rel base ah w0 ⟨(a_ args n).tmps,objs⟩ blk { tmps:=(⟨vs⟩:Array Value)++Array.replicate (n-(⟨vs⟩:Array Value).size) undef,defers:=[] } w:=by
 have hl:=hargs.1
 refine⟨.nil _ _,?_,λt p hp=>?_,R.objs,R.pr,R.fr,R.gr,R.pb,R.ext,R.Ab,R.sm,R.gl⟩
 ·simp[a_,hl]
 ·simp only[a_]at hp
  rw[List.getElem?_append]at hp
  split at hp
  ·rename_i ht
   obtain⟨v,hv⟩:∃v,vs[t]?=some v:=⟨_,List.getElem?_eq_getElem (by omega)⟩
   have hg:((⟨vs⟩:Array Value)++Array.replicate (n-(⟨vs⟩:Array Value).size) undef).getD t undef=v:=by
    rw[Array.getD_eq_getD_getElem?,Array.getElem?_append,if_pos (by simpa using (by omega:t<vs.length))]
    simp[hv]
   rw[hg]
   exact .aI (hargs.2 t p v hp hv)
  ·rw[List.getElem?_replicate]at hp
   split at hp
   ·cases hp;exact .dead _
   ·cases hp
theorem Gives.mU {f:FuncId}{fn:Func}{c:Code}{C:LC}{cap:List PV}{ys:List (List PV)}{n:Nat}{fnT:Np}(hD:∀t,fI P t (D t))(hT:jX P fnT)(hm:P.follows .mixedOrders=true)
  (hf:P.funcs[f]?=some fn) (hname:(fn.name== "runtime.NumGoroutine")=false) (hb:fn.body=some c) (hn:fn.ntmps=n) (hr:fn.results=#[]) (hC:strip C=comp c)
  (h:∀(I J:Nat→List Obj→Prop) (objs:List Obj) (y:Nat),I 0 objs→(∀i O,I i O→objs.length≤O.length∧bJ O)→(∀i O,J i O→objs.length≤O.length∧bJ O)→
   iT P D (BJ fnT y (IK ys I J) objs.length) C (Oi ys.length I J) ⟨(a_ (.qN y::cap) n).tmps,objs⟩):Gives P f cap ys:=by
 refine⟨⟨fn,hf,hname,by rw[hb];rfl⟩,λI J base ah V ex y objs blk w EU hY hL hnx hR hI0 jm jJ hcap=>?_⟩
 obtain⟨w0,hV,R⟩:=hR
 let E:Env:=λbase' iM V'=>base'=base∧iM=ah∧V'=V
 have hk:tZ P none E (BJ fnT y (IK ys I J) objs.length):=
  ⟨hT,by rintro b p v ⟨rfl,rfl,rfl⟩;exact⟨ex,hY⟩,by rintro b p v ⟨rfl,rfl,rfl⟩;exact hnx,(λh=>by cases h),λ_ _ _ h=>h.elim,λ_ _ _ h=>h.elim,λ_ _ _ _=>YA.none rfl,λ_ _ _ h=>h.elim,λ_ _ _ _ h=>h.elim⟩
 have hpw:PW P none E c (Oi ys.length I J) ⟨(a_ (.qN y::cap) n).tmps,objs⟩:=kJ hD hm C _ _ _ c _ _ hk hC (h I J objs y hI0 jm λi O h=>⟨(jJ i O h).1,(jJ i O h).2.1⟩)
 have hargs:bG (aR w (bA base objs blk) objs blk) (.qN y::cap) (.func (.yield y) #[] #[]::EU):=by
  refine⟨by simpa using hcap.1,λi p v hp hv=>?_⟩
  cases i with
  | zero=>
   simp only[List.getElem?_cons_zero,Option.some.injEq]at hp hv
   subst hp;subst hv
   exact .aI (.qN y)
  | succ i=>exact .aI (hcap.2 i p v (by simpa using hp) (by simpa using hv))
 have R1:Rel base ah w0 ⟨(a_ (.qN y::cap) n).tmps,objs⟩ blk { tmps:=(⟨.func (.yield y) #[] #[]::EU⟩:Array Value)++Array.replicate (n-(⟨.func (.yield y) #[] #[]::EU⟩:Array Value).size) undef,defers:=[] } w:=by
  have hl:=hargs.1
  refine⟨.nil _ _,?_,λt p hp=>?_,R.objs,R.pr,R.fr,R.gr,R.pb,R.ext,R.Ab,R.sm,R.gl⟩
  ·simp only[a_,Array.size_append,Array.size_replicate,List.length_append,List.length_replicate,hl]
   simp
  ·simp only[a_]at hp
   rw[List.getElem?_append]at hp
   split at hp
   ·rename_i ht
    obtain⟨v,hv⟩:∃v,(Value.func (.yield y) #[] #[]::EU)[t]?=some v:=⟨_,List.getElem?_eq_getElem (by omega)⟩
    have hg:((⟨.func (.yield y) #[] #[]::EU⟩:Array Value)++Array.replicate (n-(⟨.func (.yield y) #[] #[]::EU⟩:Array Value).size) undef).getD t undef=v:=by
     rw[Array.getD_eq_getD_getElem?,Array.getElem?_append,if_pos (by simpa using (by rw[←hl];exact ht:t<(Value.func (.yield y) #[] #[]::EU).length))]
     simp[hv]
    rw[hg]
    exact hargs.2 t p v hp hv
   ·rw[List.getElem?_replicate]at hp
    split at hp
    ·cases hp;exact .dead _
    ·cases hp
 have hw:=hpw base ah V ⟨rfl,rfl,rfl⟩ blk _ w ⟨w0,hV,R1⟩
 rw[←callsIn_wide (n:=0)]
 refine callsIn_of_wp_marks hf hb trivial ?_
 rw[hn]
 refine wpIn_mono hw ?_
 rintro e a' w' ⟨S',au,⟨he,hI⟩,w0',hV',R'⟩
 have key:∀w'',Rel base ah w0' S' au { a' with defers:=[] } w''→∃v,(results fn a'.tmps).run P w''=.ok v w''∧(∃ai jk,Ending.returned v=.returned (.tuple #[])∧(I ys.length ai∨∃i,i<ys.length∧J i ai)∧jW base ah V ⟨[],ai⟩ jk wR w''):=by
  intro w'' R''
  refine⟨_,results_none hr _ _ _,S'.objs,au,rfl,hI,w0',hV',.nil _ _,rfl,λt p hp=>by simp at hp,R''.objs,R''.pr,R''.fr,R''.gr,R''.pb,R''.ext,R''.Ab,R''.sm,R''.gl⟩
 rcases he with rfl | rfl<;>exact jr _ _ R' key
theorem qw.mU {f:FuncId}{fn:Func}{c:Code}{C:LC}{cap:List PV}{ys:List (List PV)}{n:Nat}{fnT:Np}(hD:∀t,fI P t (D t))(hT:jX P fnT)(hm:P.follows .mixedOrders=true)
  (hf:P.funcs[f]?=some fn) (hname:(fn.name== "runtime.NumGoroutine")=false) (hb:fn.body=some c) (hn:fn.ntmps=n) (hr:fn.results=#[]) (hC:strip C=comp c)
  (h:∀(I J:Nat→List Obj→Prop) (objs:List Obj) (y:Nat),I 0 objs→(∀i O,I i O→O.length=objs.length∧bJ O)→(∀i O,J i O→O.length=objs.length∧bJ O∧bD O)→
   iT P D (nI P fnT y (IK ys I J) objs.length) C (Oi ys.length I J) ⟨(a_ (.qN y::cap) n).tmps,objs⟩):qw P f cap ys:=by
 refine⟨⟨fn,hf,hname,by rw[hb];rfl⟩,λI J base ah V ex y objs blk w EU hY hL hnx hR hI0 jm jJ hcap=>?_⟩
 obtain⟨w0,hV,R⟩:=hR
 have hpw:=kJ hD hm C _ _ _ c _ _ (tZ.nI (base:=base) hT hY hL hnx) hC (h I J objs y hI0 (λi O h=>⟨(jm i O h).1.symm,(jm i O h).2⟩) (λi O h=>⟨(jJ i O h).1.symm,(jJ i O h).2⟩))
 have hargs:bG (cu w (bA base objs blk)) (.qN y::cap) (.func (.yield y) #[] #[]::EU):=wU (ps:=[.qN y]) (us:=[.func (.yield y) #[] #[]]) ⟨rfl,λi p v hp hv=>by
  cases i with
  | zero=>simp only[List.getElem?_cons_zero,Option.some.injEq]at hp hv;subst hp;subst hv;exact .qN y
  | succ i=>simp at hp⟩ hcap
 have hw:=hpw base ah V ⟨rfl,rfl,rfl⟩ blk _ w ⟨w0,hV,GI R hargs n⟩
 rw[←callsIn_wide (n:=0)]
 refine callsIn_of_wp_marks hf hb trivial ?_
 rw[hn]
 refine wpIn_mono hw ?_
 rintro e a' w' ⟨S',au,⟨he,hI⟩,w0',hV',R'⟩
 have key:∀w'',Rel base ah w0' S' au { a' with defers:=[] } w''→∃v,(results fn a'.tmps).run P w''=.ok v w''∧(∃ai jk,Ending.returned v=.returned (.tuple #[])∧(I ys.length ai∨∃i,i<ys.length∧J i ai)∧jW base ah V ⟨[],ai⟩ jk wR w''):=by
  intro w'' R''
  refine⟨_,results_none hr _ _ _,S'.objs,au,rfl,hI,w0',hV',.nil _ _,rfl,λt p hp=>by simp at hp,R''.objs,R''.pr,R''.fr,R''.gr,R''.pb,R''.ext,R''.Ab,R''.sm,R''.gl⟩
 rcases he with rfl | rfl<;>exact jr _ _ R' key
def aay(D:TypeId→aC)(rs:List ResultVar)(n len:Nat)(I J:Nat→List Obj→Prop)(e:Exit)(S:St):Prop:=
 (e=.normal∨e=.ret)∧∃b,kX D S rs (λps=>ps=[.bool b])∧((b=true∧I len (S.objs.take n))∨(b=false∧∃i,i<len∧J i (S.objs.take n)))
theorem fK.mU {f:FuncId}{fn:Func}{c:Code}{C:LC}{bargs:List PV}{ys:List (List PV)}{n:Nat}{rs:List ResultVar}{fnT:Np}(hD:∀t,fI P t (D t))(hT:jX P fnT)(hm:P.follows .mixedOrders=true)
  (hf:P.funcs[f]?=some fn) (hname:(fn.name== "runtime.NumGoroutine")=false) (hb:fn.body=some c) (hn:fn.ntmps=n) (hr:fn.results=rs.toArray) (hl:rs.length≤3) (hC:strip C=comp c)
  (h:∀(I J:Nat→List Obj→Prop) (objs:List Obj) (y:Nat),I 0 objs→(∀i O,I i O→O.length=objs.length∧bJ O)→(∀i O,J i O→O.length=objs.length∧bJ O∧bD O)→
   iT P D (nI P fnT y (IK ys I J) objs.length) C (aay D rs objs.length ys.length I J) ⟨(a_ (bargs++[.qN y]) n).tmps,objs⟩):fK P f bargs ys:=by
 refine⟨⟨fn,hf,hname,by rw[hb];rfl⟩,λI J base ah V ex y objs blk w vs hY hL hnx hR hI0 jm jJ hargs=>?_⟩
 obtain⟨w0,hV,R⟩:=hR
 have hpw:=kJ hD hm C _ _ _ c _ _ (tZ.nI (base:=base) hT hY hL hnx) hC (h I J objs y hI0 jm jJ)
 have hw:=hpw base ah V ⟨rfl,rfl,rfl⟩ blk _ w ⟨w0,hV,GI R hargs n⟩
 rw[←callsIn_wide (n:=0)]
 refine callsIn_of_wp_marks hf hb trivial ?_
 rw[hn]
 refine wpIn_mono hw ?_
 rintro e a' w' ⟨S',au,⟨he,b,hout,hI⟩,w0',hV',R'⟩
 have key:∀w'',Rel base ah w0' S' au { a' with defers:=[] } w''→∃v,(results fn a'.tmps).run P w''=.ok v w''∧(∃b ai jk,Ending.returned v=.returned (.bool b)∧((b=true∧I ys.length ai)∨(b=false∧∃i,i<ys.length∧J i ai))∧jW base ah V ⟨[],ai⟩ jk wR w''):=by
  intro w'' R''
  obtain⟨vs',ps,h1,h2,h3⟩:=sP hD R'' rs _ hout
  subst h2
  obtain⟨hl3,h3⟩:=h3
  obtain⟨v,rfl⟩:∃v,vs'=[v]:=by
   match vs',hl3 with
   | [v],_=>exact⟨v,rfl⟩
  have hv:=aR.bool (h3 0 _ v rfl rfl)
  subst hv
  have hc:(S'.objs.take objs.length).length=objs.length∧bJ (S'.objs.take objs.length):=by
   rcases hI with ⟨_,h⟩ | ⟨_,i,_,h⟩
   ·exact jm _ _ h
   ·exact⟨(jJ _ _ h).1,(jJ _ _ h).2.1⟩
  refine⟨EW [.bool b],rq hr hl h1,b,S'.objs.take objs.length,au,rfl,hI,w0',hV',R''.acB (hnx w0' hV') λo ho _ x hx p hp=>?_⟩
  have:=hc.2 o ho x hx p hp
  rwa[hc.1]at this
 rcases he with rfl | rfl<;>exact jr _ _ R' key
theorem U0{w:World}{ok:Nat→Prop}{sz:Nat}{xs:List PV}{v:Value}(h:cu w ok (.sl sz xs none) v):(xs=[]∧cu w ok (.sl sz xs (some true)) v)∨cu w ok (.sl sz xs (some false)) v:=by
 cases h with
 | slnil _ _ _=>exact .inl ⟨rfl,.slnil _ _ (by simp)⟩
 | FZ _ _ _ a cap hc=>exact .inr (.FZ _ _ (by simp) a cap hc)
 | sl _ _ _ _ b off cap vs h1 h2 h3 h4 h5 h6=>exact .inr (.sl _ _ _ (by simp) b off cap vs h1 h2 h3 h4 h5 h6)
theorem av.split {f:FuncId}{pre post:List PV}{sz:Nat}{xs:List PV}{r:PV}{os:List Obj}(h1:xs=[]→av P f (pre++.sl sz [] (some true)::post) [] r os)(h2:av P f (pre++.sl sz xs (some false)::post) [] r os) :
  av P f (pre++.sl sz xs none::post) [] r os:=by
 refine⟨h2.1,λw blk vs base hb ho hargs=>?_⟩
 have key:∀p:PV,(∀v,aR w (bA base [] blk) [] blk (.sl sz xs none) v→vs[pre.length]?=some v→aR w (bA base [] blk) [] blk p v)→bG (aR w (bA base [] blk) [] blk) (pre++p::post) vs:=by
  intro p hp
  refine⟨by have:=hargs.1;simpa using this,λi q u hq hu=>?_⟩
  rw[List.getElem?_append]at hq
  by_cases hi:i<pre.length
  ·rw[if_pos hi]at hq
   exact hargs.2 i q u (by rw[List.getElem?_append,if_pos hi];exact hq) hu
  ·rw[if_neg hi]at hq
   by_cases he:i=pre.length
   ·subst he
    simp only[Nat.sub_self,List.getElem?_cons_zero,Option.some.injEq]at hq
    subst hq
    exact hp u (hargs.2 pre.length _ u (by rw[List.getElem?_append,if_neg (by omega)];simp) hu) hu
   ·refine hargs.2 i q u ?_ hu
    rw[List.getElem?_append,if_neg hi]
    obtain⟨j,hj⟩:∃j,i-pre.length=j+1:=⟨i-pre.length-1,by omega⟩
    rw[hj]at hq ⊢
    simpa using hq
 have hlt:pre.length<vs.length:=by have:=hargs.1;simp at this;omega
 have hr:cu w (bA base [] blk) (.sl sz xs none) (vs[pre.length]):=hargs.2 pre.length (.sl sz xs none) _ (by simp) (List.getElem?_eq_getElem hlt)
 rcases U0 hr with ⟨rfl,hr⟩ | hr
 ·exact (h1 rfl).2 w blk vs base hb ho (key _ λv _ hv=>by rw[List.getElem?_eq_getElem hlt]at hv;cases hv;exact hr)
 ·exact h2.2 w blk vs base hb ho (key _ λv _ hv=>by rw[List.getElem?_eq_getElem hlt]at hv;cases hv;exact hr)
theorem av.W_ {f:FuncId}{args:List PV}{r r':PV}(h:av P f args [] r [])(hr:∀w ok v,cu w ok r v→cu w ok r' v):av P f args [] r' []:=by
 refine⟨h.1,λw blk vs base hb ho hargs=>Calls.mono (h.2 w blk vs base hb ho hargs) ?_⟩
 rintro e w' ⟨v,au,h1,h2,h3,h4,h5⟩
 exact⟨v,au,h1,h2,.aI (hr _ _ _ (qy h3)),h4,h5⟩
theorem LM{w:World}{ok:Nat→Prop}{s s':Nat}{q:Option Bool}{v:Value}(h:cu w ok (.sl s [] (some true)) v)(hq:q≠some false):cu w ok (.sl s' [] q) v:=by
 cases h with
 | slnil _ _ _=>exact .slnil _ _ hq
 | FZ _ _ hq'=>exact absurd rfl hq'
 | sl _ _ _ hq'=>exact absurd rfl hq'
end Lp
namespace Lp
open Go
def aW(P:Program)(f:FuncId)(n:Nat)(rs:List ResultVar)(C:LC):Prop:=
 ∃fn c,P.funcs[f]?=some fn∧(fn.name== "runtime.NumGoroutine")=false∧fn.body=some c∧fn.ntmps=n∧fn.results=rs.toArray∧strip C=comp c
abbrev eX:=List PV→List Obj→KT→Prop
def aQ(P:Program)(f:FuncId)(c:eX):Prop:=∀args objs K,c args objs K→∃r ai t,mO P f args objs r ai t∧K r ai t
def lH:List (FuncId×eX)→Np
 | [],_,_,_,_=>False
 | (g,c)::l,f,args,objs,K=>bif f==g then c args objs K else lH l f args objs K
def bg(P:Program)(l:List (FuncId×eX)):Know:={ fn:=lH l,y:=0,Y:=λ_ _ _=>False,top:=true,gives:=Gives P,nx:=0,ge:=qw P }
theorem ak{P:Program}:jX P (lH []):=λ_ _ _ _ h=>h.elim
theorem af{P:Program}{g:FuncId}{c:eX}{l:List (FuncId×eX)}(h:aQ P g c)(hl:jX P (lH l)):jX P (lH ((g,c)::l)):=by
 intro f args objs K hh
 unfold lH at hh
 cases he:f==g with
 | true=>
  rw[he]at hh
  have:f=g:=by simpa using he
  subst this
  exact h args objs K hh
 | false=>rw[he]at hh;exact hl f args objs K hh
theorem ay{P:Program}{l:List (FuncId×eX)}(h:jX P (lH l)):tZ P none sQ (bg P l):=.acU h rfl (λ_ _ _ h=>h) (λ_ _ _ h=>h) rfl λ_ _ _ h=>h.elim
variable {P:Program}{D:TypeId→aC}{T:Know}
theorem aW.pure {f:FuncId}{n:Nat}{rs:List ResultVar}{C:LC}{args:List PV}{r:PV}(h:aW P f n rs C)(d:Nat)(hD:∀t,fI P t (D t))(hT:tZ P none sQ T)(hm:P.follows .mixedOrders=true)(hl:rs.length≤3)
  (hw:iT P D T C (UX D d rs r) (a_ args n)):av P f args [] r []:=by
 obtain⟨fn,c,h1,h2,h3,h4,h5,h6⟩:=h
 exact av.mU d hD hT hm h1 h2 h3 h4 h5 hl h6 hw
theorem aW.made {f:FuncId}{n t:Nat}{C:LC}{args:List PV}{o':Obj}(h:aW P f n [.tmp t] C)(d:Nat)(hD:∀t,fI P t (D t))(hT:tZ P none sQ T)(hm:P.follows .mixedOrders=true)
  (hw:iT P D T C (Q7 d t o') (a_ args n)):av P f args [] (.aZ 0 0) [o']:=by
 obtain⟨fn,c,h1,h2,h3,h4,h5,h6⟩:=h
 exact av.UZ d hD hT hm h1 h2 h3 h4 h5 h6 hw
theorem aW.acV {f:FuncId}{n:Nat}{rs:List ResultVar}{C:LC}{args:List PV}{qs:List PV}{o':Obj}(h:aW P f n rs C)(d:Nat)(hD:∀t,fI P t (D t))(hT:tZ P none sQ T)(hm:P.follows .mixedOrders=true)(hl:rs.length≤3)
  (hw:iT P D T C (Ze D d rs qs o') (a_ args n)):av P f args [] (gJ (.aZ 0 0::qs)) [o']:=by
 obtain⟨fn,c,h1,h2,h3,h4,h5,h6⟩:=h
 exact av.Q8 d hD hT hm h1 h2 h3 h4 h5 hl h6 hw
theorem aW.gives {f:FuncId}{n:Nat}{C:LC}{cap:List PV}{ys:List (List PV)}{fnT:Np}(h:aW P f n [] C)(hD:∀t,fI P t (D t))(hT:jX P fnT)(hm:P.follows .mixedOrders=true)
  (hw:∀(I J:Nat→List Obj→Prop) (objs:List Obj) (y:Nat),I 0 objs→(∀i O,I i O→objs.length≤O.length∧bJ O)→(∀i O,J i O→objs.length≤O.length∧bJ O)→
   iT P D (BJ fnT y (IK ys I J) objs.length) C (Oi ys.length I J) ⟨(a_ (.qN y::cap) n).tmps,objs⟩):Gives P f cap ys:=by
 obtain⟨fn,c,h1,h2,h3,h4,h5,h6⟩:=h
 exact Gives.mU hD hT hm h1 h2 h3 h4 h5 h6 hw
theorem aW.abv {f:FuncId}{n:Nat}{C:LC}{cap:List PV}{ys:List (List PV)}{fnT:Np}(h:aW P f n [] C)(hD:∀t,fI P t (D t))(hT:jX P fnT)(hm:P.follows .mixedOrders=true)
  (hw:∀(I J:Nat→List Obj→Prop) (objs:List Obj) (y:Nat),I 0 objs→(∀i O,I i O→O.length=objs.length∧bJ O)→(∀i O,J i O→O.length=objs.length∧bJ O∧bD O)→
   iT P D (nI P fnT y (IK ys I J) objs.length) C (Oi ys.length I J) ⟨(a_ (.qN y::cap) n).tmps,objs⟩):qw P f cap ys:=by
 obtain⟨fn,c,h1,h2,h3,h4,h5,h6⟩:=h
 exact qw.mU hD hT hm h1 h2 h3 h4 h5 h6 hw
theorem aW.Xa {f:FuncId}{n:Nat}{rs:List ResultVar}{C:LC}{bargs:List PV}{ys:List (List PV)}{fnT:Np}(h:aW P f n rs C)(hD:∀t,fI P t (D t))(hT:jX P fnT)(hm:P.follows .mixedOrders=true)(hl:rs.length≤3)
  (hw:∀(I J:Nat→List Obj→Prop) (objs:List Obj) (y:Nat),I 0 objs→(∀i O,I i O→O.length=objs.length∧bJ O)→(∀i O,J i O→O.length=objs.length∧bJ O∧bD O)→
   iT P D (nI P fnT y (IK ys I J) objs.length) C (aay D rs objs.length ys.length I J) ⟨(a_ (bargs++[.qN y]) n).tmps,objs⟩):fK P f bargs ys:=by
 obtain⟨fn,c,h1,h2,h3,h4,h5,h6⟩:=h
 exact fK.mU hD hT hm h1 h2 h3 h4 h5 hl h6 hw
def mkT(n:Nat)(l:List (Nat×PV)):List PV:=l.foldl (λtm x=>tm.set x.1 x.2) (List.replicate n .dead)
def lI(v:PV)(d:Nat)(want:Bool)(S:St)(X Y:St→Prop):Prop:=
 match v with
 | .bool b=>(b=want→X { S with tmps:=S.tmps.set d (.bool want) })∧(b=!want→Y { S with tmps:=S.tmps.set d (.bool !want) })
 | .bI []=>Y S
 | _=>False
def noTwo:List Nat→Bool
 | []=>true
 | t::ts=>co t !=2 && noTwo ts
theorem Dl:∀(ts:List Nat) (i:Nat),noTwo ts=true→co (ts.getD i 0)≠2
 | [],i,_=>by simp[co]
 | t::ts,i,h=>by
  simp only[noTwo,Bool.and_eq_true,bne_iff_ne,ne_eq]at h
  cases i with
  | zero=>simpa using h.1
  | succ i=>simpa using Dl ts i h.2
theorem BK(un ts:List Nat):(jq un ts=true)=((noTwo ts || jq un ts)=true):=by
 cases h:noTwo ts with
 | false=>rfl
 | true=>
  have:lG un ts=true:=by
   unfold lG
   rw[List.all_eq_true]
   intro i _
   simp only[Bool.or_eq_true,List.all_eq_true]
   right
   intro j _
   have h1:=Dl ts i h
   have h2:=Dl ts j h
   simp only[beq_eq_false_iff_ne.2 h1,beq_eq_false_iff_ne.2 h2,Bool.false_and,Bool.or_false,Bool.not_false,or_true]
  simp[jq,this]
def ldK(P:Program)(D:TypeId→aC)(T:Know)(A B:List Step)(u:List Nat)(Q:Exit→St→Prop)(S:St):Prop:=
 LR P D T.QO A S [] λS' ts=>(noTwo ts || jq u ts)=true∧LR P D T B S' [] λQM _=>Q .normal QM
theorem abw(x z:Step)(A B:List Step)(m:Nat)(u:List Nat)(Q:Exit→St→Prop)(S:St):ldK P D T (x::A) (z::B) (m::u) Q S=
 LR P D T.QO (x::A) S [] λS' ts=>(noTwo ts || jq (m::u) ts)=true∧LR P D T (z::B) S' [] λQM _=>Q .normal QM:=rfl
theorem Nq :
  (∀(Q:Exit→St→Prop) S,iT P D T .skip Q S=Q .normal S)∧
  (∀(Q:Exit→St→Prop) S,iT P D T .ret Q S=Q .ret S)∧
  (∀id (Q:Exit→St→Prop) S,iT P D T (.exit id) Q S=Q (.exit id) S)∧
  (∀ss (Q:Exit→St→Prop) S,iT P D T (.reg ss) Q S=LR P D T ss S [] λS' _=>Q .normal S')∧
  (∀ss un (Q:Exit→St→Prop) S,iT P D T (.draw ss un) Q S=LR P D T.QO ss S [] λS' ts=>(noTwo ts || jq un ts)=true∧Q .normal S')∧
  (∀a b (Q:Exit→St→Prop) S,iT P D T (.seq a b) Q S=iT P D T a (thenS (λS'=>iT P D T b Q S') Q) S)∧
  (∀c a b (Q:Exit→St→Prop) S,iT P D T (.cond c a b) Q S=zK (S.ev c) (iT P D T a Q S) (iT P D T b Q S))∧
  (∀id c (Q:Exit→St→Prop) S,iT P D T (.block id c) Q S=iT P D T c (rU id Q) S)∧
  (∀b ss un (Q:Exit→St→Prop) S,iT P D T (.N9 b ss un) Q S=(Fv b un=true∧ldK P D T (ss.take b) (ss.drop b) (un.take b) Q S)):=by
 refine⟨λ_ _=>rfl,λ_ _=>rfl,λ_ _ _=>rfl,λ_ _ _=>rfl,λss un Q S=>?_,λ_ _ _ _=>rfl,λ_ _ _ _ _=>rfl,λ_ _ _ _=>rfl,λb ss un Q S=>?_⟩
 ·simp only[←BK]
  rfl
 ·simp only[ldK,←BK]
  rfl
theorem Kv :
  (∀(n:St→Prop) (Q:Exit→St→Prop) S,thenS n Q .normal S=n S)∧
  (∀(n:St→Prop) (Q:Exit→St→Prop) S,thenS n Q .ret S=Q .ret S)∧
  (∀(n:St→Prop) (Q:Exit→St→Prop) S id,thenS n Q (.exit id) S=Q (.exit id) S)∧
  (∀(Q:Exit→St→Prop) S id,rU id Q .normal S=Q .normal S)∧
  (∀(Q:Exit→St→Prop) S id,rU id Q .ret S=Q .ret S)∧
  (∀(Q:Exit→St→Prop) S id id',rU id Q (.exit id') S=if id'=id then Q .normal S else Q (.exit id') S)∧
  (∀b X Y,zK (.bool b) X Y=((b=true→X)∧(b=false→Y))):=
 ⟨λ_ _ _=>rfl,λ_ _ _=>rfl,λ_ _ _ _=>rfl,λ_ _ _=>rfl,λ_ _ _=>rfl,λ_ _ _ _=>rfl,λ_ _ _=>rfl⟩
theorem Qj :
  (∀S ts (K:St→List Nat→Prop),LR P D T [] S ts K=K S ts)∧
  (∀d o g w rest S ts (K:St→List Nat→Prop),LR P D T (⟨d,o,g,w⟩::rest) S ts K=wT g S
   (λS=>lg P D T w (S.tmps.all PV.pure) S.ev S.objs o λr ai t=>LR P D T rest (St.put ⟨S.tmps,ai⟩ d r) (ts++[t]) K)
   (λS=>LR P D T rest (S.put d (.bI [])) (ts++[0]) K)):=⟨λ_ _ _=>rfl,λ_ _ _ _ _ _ _ _=>rfl⟩
theorem Qk :
  (∀(S:St) (X Y:St→Prop),wT none S X Y=X S)∧
  (∀d w (S:St) (X Y:St→Prop),wT (some (some d,w)) S X Y=lI (S.tmps.getD d .dead) d w S X Y)∧
  (∀b d w (S:St) (X Y:St→Prop),lI (.bool b) d w S X Y=((b=w→X { S with tmps:=S.tmps.set d (.bool w) })∧(b=!w→Y { S with tmps:=S.tmps.set d (.bool !w) })))∧
  (∀d w (S:St) (X Y:St→Prop),lI (.bI []) d w S X Y=Y S):=⟨λ_ _ _=>rfl,λ_ _ _ _ _=>rfl,λ_ _ _ _ _ _=>rfl,λ_ _ _ _ _=>rfl⟩
theorem Kw :
  (∀tm ob d p,St.put ⟨tm,ob⟩ (some d) p=⟨tm.set d p,ob⟩)∧
  (∀tm ob p,St.put ⟨tm,ob⟩ none p=⟨tm,ob⟩)∧
  (∀tm ob t,St.ev ⟨tm,ob⟩ (.tmp t)=tm.getD t .dead)∧
  (∀(S:St) v,S.ev (.const v)=.yo v)∧
  (∀(S:St) f,S.ev (.func f)=.fn f [] [])∧
  (∀k n,PV.yo (.int k n)=.int k n)∧(∀b,PV.yo (.bool b)=.bool b)∧(∀l,PV.yo (.string ⟨⟨l⟩⟩)=.str l)∧
  (PV.yo (.slice none 0 0)=.sl 0 [] (some true))∧(PV.yo (.pointer none)=.Bo)∧(PV.yo .nilFunc=.C9)∧
  (∀args n,a_ args n=⟨args++List.replicate (n-args.length) .dead,[]⟩):=
 ⟨λ_ _ _ _=>rfl,λ_ _ _=>rfl,λ_ _ _=>rfl,λ_ _=>rfl,λ_ _=>rfl,
  λ_ _=>rfl,λ_=>rfl,λ_=>rfl,rfl,rfl,rfl,λ_ _=>rfl⟩
theorem zo(w pt:Bool)(ev:Operand→PV)(objs:List Obj)(K:KT) :
  (∀x,lg P D T w pt ev objs (.move x) K=K (ev x) objs 0)∧(∀x,lg P D T w pt ev objs (.assign x) K=K (ev x) objs 0)∧
  (∀c x y,lg P D T w pt ev objs (.pick c x y) K=vR (ev c) (ev x) (ev y) objs K)∧
  (∀t,lg P D T w pt ev objs (.alloc t) K=rT t (D t) objs K)∧
  (∀t x,lg P D T w pt ev objs (.box t x) K=Lb t (D t) (ev x) objs K)∧
  (∀t ps,lg P D T w pt ev objs (.build t ps) K=dH D t (ps.toList.map λx=>(x.1,ev x.2)) objs K)∧
  (∀t n ps,lg P D T w pt ev objs (.buildSlice t n ps) K=bM D w t n (ps.toList.map λx=>(x.1,ev x.2)) objs K)∧
  (∀t x,lg P D T w pt ev objs (.load t x) K=fq (D t) (ev x) objs K)∧
  (∀t x y,lg P D T w pt ev objs (.store t x y) K=jD (D t) (ev x) (ev y) objs K)∧
  (∀x,lg P D T w pt ev objs (.nilCheck x) K=dx (ev x) objs K)∧
  (∀b t x y t',lg P D T w pt ev objs (.binOp b t x y t') K=oM P (D t) t b (ev x) (ev y) λr=>K r objs 0)∧
  (∀u t x,lg P D T w pt ev objs (.unOp u t x) K=Nn u (ev x) λr=>K r objs 0)∧
  (∀s t x,lg P D T w pt ev objs (.convert s t x) K=qX D s t (ev x) objs K)∧
  (∀f first cap,lg P D T w pt ev objs (.makeFunc (.func f) first cap) K=kG f (first.toList.map ev) (cap.toList.map ev) objs K)∧
  (∀t l c,lg P D T w pt ev objs (.makeSlice t l c) K=fe D t (ev l) (ev c) objs K)∧
  (∀t x lo hi,lg P D T w pt ev objs (.slice t x lo hi none) K=iK D t (ev x) (lo.map ev) (hi.map ev) objs K)∧
  (∀t x f,lg P D T w pt ev objs (.fieldAddr t x f) K=aV D t (ev x) f objs K)∧
  (∀t x f,lg P D T w pt ev objs (.field t x f) K=oN D t (ev x) f objs K)∧
  (∀t x i,lg P D T w pt ev objs (.indexAddr t x i) K=bF D t (ev x) (ev i) objs K)∧
  (∀t x i,lg P D T w pt ev objs (.index t x i) K=lC D t (ev x) (ev i) objs K)∧
  (∀x i,lg P D T w pt ev objs (.extract x i) K=bT (ev x) i objs K)∧
  (∀t x at',lg P D T w pt ev objs (.call { callee:=.builtin .len,args:=⟨[x]⟩,argTypes:=⟨t::at'⟩ }) K=eY D .len (t::at') [x] ev objs K)∧
  (∀b args ats,lg P D T w pt ev objs (.call { callee:=.builtin b,args:=args,argTypes:=ats }) K=eY D b ats.toList args.toList ev objs K):=
 ⟨λ_=>rfl,λ_=>rfl,λ_ _ _=>rfl,λ_=>rfl,λ_ _=>rfl,λ_ _=>rfl,λ_ _ _=>rfl,λ_ _=>rfl,λ_ _ _=>rfl,λ_=>rfl,λ_ _ _ _ _=>rfl,λ_ _ _=>rfl,λ_ _ _=>rfl,
  λ_ _ _=>rfl,λ_ _ _=>rfl,λ_ _ _ _=>rfl,λ_ _ _=>rfl,λ_ _ _=>rfl,λ_ _ _=>rfl,λ_ _ _=>rfl,λ_ _=>rfl,λ_ _ _=>rfl,λ_ _ _=>rfl⟩
structure U1 (K:KT):Type where
def Ky(T:Know)(ev:Operand→PV)(f:PV)(args:List PV)(objs:List Obj){K:KT}(_h:U1 K):Prop:=aas T ev f args objs K∨aat T f args objs K
theorem vY(P:Program)(D:TypeId→aC)(T:Know)(pt:Bool)(ev:Operand→PV)(objs:List Obj)(K:KT) :
  (∀f args ats,lg P D T false pt ev objs (.call { callee:=.value f,args:=args,argTypes:=ats }) K=pu T pt (ev f) (args.toList.map ev) objs K)∧
  (∀f args ats,lg P D T true pt ev objs (.call { callee:=.value f,args:=args,argTypes:=ats }) K=Ky T ev (ev f) (args.toList.map ev) objs (U1.mk:U1 K)):=⟨λ_ _ _=>rfl,λ_ _ _=>rfl⟩
theorem caR :
  (∀pt g first cap args objs (K:KT),pu T pt (.fn g first cap) args objs K=T.fn g (first++args++cap) objs K)∧
  (∀pt l args objs (K:KT),pu T pt (.qN l) args objs K=(l=T.y∧pt=true∧args.all PV.pure=true∧T.Y args objs λb o=>K (.bool b) o 2)):=
 ⟨λ_ _ _ _ _ _ _=>rfl,λ_ _ _ _ _=>rfl⟩
theorem U2(l:List (FuncId×eX)):((bg P l).QO.fn=lH l)∧((bg P l).rg=true)∧((bg P l).fn=lH l)∧((bg P l).nx=0)∧((bg P l).top=true)∧((bg P l).gives=Gives P):=⟨rfl,rfl,rfl,rfl,rfl,rfl⟩
theorem kiR(fn:Np)(y:Nat)(Y:YT)(nx:Nat):((BJ fn y Y nx).fn=fn)∧((BJ fn y Y nx).QO.fn=fn)∧((BJ fn y Y nx).rg=true)∧((BJ fn y Y nx).y=y)∧((BJ fn y Y nx).Y=Y)∧((BJ fn y Y nx).nx=nx):=⟨rfl,rfl,rfl,rfl,rfl,rfl⟩
theorem taR(g f:FuncId)(c:eX)(l:List (FuncId×eX))(args:List PV)(objs:List Obj)(K:KT):lH ((g,c)::l) f args objs K=bif f==g then c args objs K else lH l f args objs K:=rfl
def kindOf:TypeDesc→TK
 | .string=>.str
 | .bool=>.bool
 | .int k=>.int k
 | .slice e=>.slice e
 | .array n e=>.array n e
 | .struct fl=>.struct (fl.toList.map λf=>(f.offset,f.type))
 | .map k e=>.map k e
 | _=>.other
theorem abx{P:Program}{t:TypeId}{k:TK}{sz by':Nat}{z:Value}(h1:(P.info? t).map (λi=>(i.size,i.bytes,i.zero))=some (sz,by',some z))(h2:(P.underlying t).map kindOf=some k)(h3:Nat.beq t MT=false):fI P t ⟨k,sz,by',z⟩:=by
 cases hi:P.info? t with
 | none=>rw[hi]at h1;simp at h1
 | some i=>
  rw[hi]at h1
  simp only[Option.map_some,Option.some.injEq,Prod.mk.injEq]at h1
  cases hu:P.underlying t with
  | none=>rw[hu]at h2;simp at h2
  | some d=>
   rw[hu]at h2
   simp only[Option.map_some,Option.some.injEq]at h2
   subst h2
   refine .inr ⟨⟨i,hi,h1.1,h1.2.1,h1.2.2,λe=>by rw[e]at h3;exact absurd h3 (by decide)⟩,?_⟩
   cases d<;>simp only[kindOf]<;>first
    | exact hu
    | exact⟨_,hu,rfl⟩
theorem LP{P:Program}{t:TypeId}:fI P t aC.off:=.inl rfl
end Lp
