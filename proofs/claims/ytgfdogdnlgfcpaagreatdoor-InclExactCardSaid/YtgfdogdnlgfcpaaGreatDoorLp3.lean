/-
  Part 3 of what the statement rests on: LpN, LpNb, LpO, LpP, LpT, LpQ, LpR, LpS, LpGen, LpI1, LpC1, LpC2, LpC4, LpC5, LpC6, LpY, LpU, LpZ, LpEq, LpU2. No condition.
-/
import Derived.Test.YtgfdogdnlgfcpaaGreatDoorLp2
import Derived.RangeFuncRecord
import Derived.RangeFuncLeaves
import Derived.KernelRfl
import Derived.Test.YtgfdogdnlgfcpaaGreatDoorProg
import Derived.Laws.StructEq

set_option linter.all false
set_option maxHeartbeats 8000000
set_option maxRecDepth 100000
namespace Lp
open Go
open Option (bind_some getD_some map_some)
variable {P:Program}{D:TypeId→aH}{l:Option Nat}
structure KG where
 r:PV
 objs:List Obj
 t:Nat
 deriving Inhabited
def jE(ops:List Oper)(g:Option (Nat×Bool))(tmps:List PV):Option Bool:=
 match g with
 | none=>some true
 | some (j,want)=>
  match (ops[j]?).bind (·.dst) with
  | none=>none
  | some d=>
   match tmps.getD d .dead with
   | .bool b=>some (b==want)
   | .bY []=>some false
   | _=>none
theorem E5{ops:List Oper}{g:Option (Nat×Bool)}{S:St}{X Y:St→Prop}(h:qb ops g S X Y) :
  (jE ops g S.tmps=some true∧X S)∨(jE ops g S.tmps=some false∧Y S):=by
 unfold qb at h
 unfold jE
 split at h
 ·exact .inl ⟨rfl,h⟩
 ·rename_i j want
  simp only[]
  split at h
  ·exact h.elim
  ·rename_i d hd
   rw[hd]
   simp only[]
   split at h
   ·rename_i b hb
    rw[hb]
    by_cases hbw:b=want
    ·left
     have:=h.1 hbw
     rw[CK (by rw[hb,hbw]) (by simp)]at this
     exact⟨by simp[hbw],this⟩
    ·right
     have hbn:b=!want:=by cases b<;>cases want<;>simp_all
     have:=h.2 hbn
     rw[CK (by rw[hb,hbn]) (by simp)]at this
     exact⟨by simp[hbn],this⟩
   ·rename_i hb
    rw[hb]
    exact .inr ⟨rfl,h⟩
   ·exact h.elim
theorem E8{ops:List Oper}{g:Option (Nat×Bool)}{S:St}{b:Bool}(h:jE ops g S.tmps=some b) :
  qb ops g S (λ_=>b=true) (λ_=>b=false):=by
 unfold jE at h
 unfold qb
 split at h
 ·simpa using h.symm
 ·rename_i j want
  simp only[]
  split at h
  ·cases h
  ·rename_i d hd
   rw[hd]
   simp only[]
   split at h
   ·rename_i b0 hb
    rw[hb]
    simp only[Option.some.injEq]at h
    subst h
    exact⟨λe=>by simp[e],λe=>by simp[e]⟩
   ·rename_i hb
    rw[hb]
    simpa using h.symm
   ·cases h
theorem qy{ops:List Oper}{base av:Nat→Prop}{w0:Wz}{S:St}{blk:Nat→Option Nat}{a:Act}{w:World}{b:Bool}{o:Oper}
  (R:Rel base av w0 S blk a w) (h:jE ops o.guard S.tmps=some b):Region.wanted o (yielded ops.toArray a.tmps)=b:=by
 rcases xX R (E8 h) o rfl with ⟨h1,h2⟩ | ⟨h1,h2⟩<;>rw[h1,h2]
def tV(P:Program)(D:TypeId→aH)(own:Bool)(ops:List Oper)(o:Oper)(S:St)(e:KG):Prop:=
 (jE ops o.guard S.tmps=some true∧(co e.t≠2→e.objs=S.objs)∧(∀K:KT,K e.r e.objs e.t→KF P D own S.ev S.objs o.op K)∧
  (e.t=0→∀(eF:List Obj) (K:KT),K e.r eF 0→KF P D own S.ev eF o.op K)∧adj (λob K=>KF P D own S.ev ob o.op K) S.objs e.r e.objs e.t)∨
 (jE ops o.guard S.tmps=some false∧e.r=.bY []∧e.objs=S.objs∧e.t=0)
def Trace(P:Program)(D:TypeId→aH)(own:Nat→Bool)(ops:List Oper):List Oper→Nat→St→List KG→St→Prop
 | [],_,S,tr,S'=>tr=[]∧S'=S
 | o::rest,i,S,tr,S'=>∃e tr',tr=e::tr'∧tV P D (own i) ops o S e∧Trace P D own ops rest (i+1) (St.put ⟨S.tmps,e.objs⟩ o.dst e.r) tr' S'
theorem nK{own:Nat→Bool}{ops:List Oper}:∀(sw:List Oper) (i:Nat) (S:St) (ts:List Nat) (K:St→List Nat→Prop),rz P D own ops sw i S ts K→
  ∃tr S',Trace P D own ops sw i S tr S'∧K S' (ts++tr.map (·.t))
 | [],i,S,ts,K,h=>⟨[],S,⟨rfl,rfl⟩,by simpa[rz] using h⟩
 | o::rest,i,S,ts,K,h=>by
  unfold rz at h
  rcases E5 h with ⟨hw,hx⟩ | ⟨hw,hy⟩
  ·obtain⟨r,ob,t,h1,h2,h3,h4,h4b⟩:=Xo hx
   obtain⟨tr,S',h5,h6⟩:=nK rest _ _ _ K h1
   refine⟨⟨r,ob,t⟩::tr,S',⟨_,_,rfl,.inl ⟨hw,h2,h3,h4,h4b⟩,h5⟩,by simpa using h6⟩
  ·obtain⟨tr,S',h5,h6⟩:=nK rest _ _ _ K hy
   refine⟨⟨.bY [],S.objs,0⟩::tr,S',⟨_,_,rfl,.inr ⟨hw,rfl,rfl,rfl⟩,?_⟩,by simpa using h6⟩
   exact h5
def qz(dst:Option Nat)(r:PV)(tm:List PV):List PV:=
 match dst with
 | some d=>tm.set d r
 | none=>tm
section
variable (dst:Nat→Option Nat) (en:Nat→KG)
def Jg(X:Nat→Bool):Nat→List PV→List PV
 | 0,tm=>tm
 | n+1,tm=>if X n then qz (dst n) (en n).r (Jg X n tm) else Jg X n tm
def p9(X:Nat→Bool):Nat→List Obj→List Obj
 | 0,ob=>ob
 | n+1,ob=>if X n && co (en n).t==2 then (en n).objs else p9 X n ob
def upd(X:Nat→Bool)(i:Nat)(j:Nat):Bool:=X j || j==i
variable {dst en}
theorem oJ{X Y:Nat→Bool}:∀(n:Nat) (tm:List PV),(∀j,j<n→X j=Y j)→Jg dst en X n tm=Jg dst en Y n tm
 | 0,_,_=>rfl
 | n+1,tm,h=>by simp only[Jg];rw[h n (by omega),oJ n tm (λj hj=>h j (by omega))]
theorem qN{X Y:Nat→Bool}:∀(n:Nat) (ob:List Obj),(∀j,j<n→co (en j).t=2→X j=Y j)→p9 en X n ob=p9 en Y n ob
 | 0,_,_=>rfl
 | n+1,ob,h=>by
  simp only[p9]
  rw[qN n ob (λj hj=>h j (by omega))]
  by_cases ht:co (en n).t=2
  ·rw[h n (by omega) ht]
  ·simp[ht]
theorem Q5(d:Option Nat)(r:PV)(tm:List PV):(qz d r tm).length=tm.length:=by cases d<;>simp[qz]
theorem Bj(X:Nat→Bool):∀(n:Nat) (tm:List PV),(Jg dst en X n tm).length=tm.length
 | 0,_=>rfl
 | n+1,tm=>by simp only[Jg];split<;>simp[Q5,Bj X n tm]
theorem CO{d:Option Nat}{x:Nat}(h:d≠some x)(r:PV)(tm:List PV):(qz d r tm).getD x .dead=tm.getD x .dead:=by
 cases d with
 | none=>rfl
 | some d=>
  have:d≠x:=λe=>h (by rw[e])
  simp[qz,List.getD_eq_getElem?_getD,List.getElem?_set_ne this]
theorem G7{d:Option Nat}{x:Nat}{r:PV}{tm tm':List PV}(hl:tm.length=tm'.length)(h:tm.getD x .dead=tm'.getD x .dead):(qz d r tm).getD x .dead=(qz d r tm').getD x .dead:=by
 cases d with
 | none=>exact h
 | some d=>
  by_cases hd:d=x
  ·subst hd
   simp[qz,List.getD_eq_getElem?_getD,List.getElem?_set,hl]
  ·simpa[qz,List.getD_eq_getElem?_getD,List.getElem?_set_ne hd] using h
theorem Jh{X Y:Nat→Bool}{x:Nat}:∀(n:Nat) (tm:List PV),(∀j,j<n→dst j=some x→X j=Y j)→(Jg dst en X n tm).getD x .dead=(Jg dst en Y n tm).getD x .dead
 | 0,_,_=>rfl
 | n+1,tm,h=>by
  have ih:=Jh (X:=X) (Y:=Y) (x:=x) n tm (λj hj=>h j (by omega))
  simp only[Jg]
  by_cases hd:dst n=some x
  ·rw[h n (by omega) hd]
   split
   ·exact G7 (by rw[Bj,Bj]) ih
   ·exact ih
  ·split<;>split<;> (try rw[CO hd])<;> (try rw[CO hd])<;>exact ih
theorem YP{d d':Option Nat}{r r':PV}{tm:List PV}(h:∀x,d=some x→d'≠some x):qz d r (qz d' r' tm)=qz d' r' (qz d r tm):=by
 cases d with
 | none=>rfl
 | some x=>
  cases d' with
  | none=>rfl
  | some y=>
   have hxy:y≠x:=λe=>h x rfl (by rw[e])
   simp only[qz]
   exact List.set_comm _ _ hxy
theorem NT{X:Nat→Bool}{i:Nat}:∀(n:Nat) (tm:List PV),i<n→X i=false→(∀j,i<j→j<n→X j=true→∀x,dst i=some x→dst j≠some x)→
  qz (dst i) (en i).r (Jg dst en X n tm)=Jg dst en (upd X i) n tm
 | 0,_,h,_,_=>by omega
 | n+1,tm,hi,hx,hd=>by
  simp only[Jg]
  by_cases hin:i=n
  ·subst hin
   simp only[hx,upd,beq_self_eq_true,Bool.or_true,if_true,Bool.false_eq_true,if_false]
   rw[oJ (Y:=upd X i) i tm (λj hj=>by simp[upd];omega)]
  ·have ih:=NT (X:=X) n tm (by omega) hx (λj h1 h2=>hd j h1 (by omega))
   have hu:upd X i n=X n:=by simp[upd];omega
   rw[hu]
   split
   ·rename_i hn
    rw[←ih,YP (λx hx'=>hd n (by omega) (by omega) hn x hx')]
   ·exact ih
theorem NU{X:Nat→Bool}{i:Nat}:∀(n:Nat) (ob:List Obj),i<n→co (en i).t=2→(∀j,i<j→j<n→X j=true→co (en j).t≠2)→p9 en (upd X i) n ob=(en i).objs
 | 0,_,h,_,_=>by omega
 | n+1,ob,hi,ht,hd=>by
  simp only[p9]
  by_cases hin:i=n
  ·subst hin
   simp[upd,ht]
  ·have hu:upd X i n=X n:=by simp[upd];omega
   rw[hu]
   cases hn:X n with
   | false=>simpa using NU n ob (by omega) ht (λj h1 h2=>hd j h1 (by omega))
   | true=>
    have:=hd n (by omega) (by omega) hn
    simpa[this] using NU n ob (by omega) ht (λj h1 h2=>hd j h1 (by omega))
def cnt(X:Nat→Bool):Nat→Nat
 | 0=>0
 | n+1=>cnt X n+if X n then 0 else 1
theorem MX{X Y:Nat→Bool}:∀(n:Nat),(∀j,j<n→X j=Y j)→cnt X n=cnt Y n
 | 0,_=>rfl
 | n+1,h=>by simp only[cnt];rw[h n (by omega),MX n (λj hj=>h j (by omega))]
theorem NV{X:Nat→Bool}{i:Nat}:∀(n:Nat),i<n→X i=false→cnt (upd X i) n+1=cnt X n
 | 0,h,_=>by omega
 | n+1,hi,hx=>by
  simp only[cnt]
  by_cases hin:i=n
  ·subst hin
   rw[MX (Y:=upd X i) (X:=X) i (λj hj=>by simp[upd];omega)]
   simp[upd,hx]
  ·have:=NV (X:=X) n (by omega) hx
   have hu:upd X i n=X n:=by simp[upd];omega
   rw[hu];omega
theorem Ji{X:Nat→Bool}:∀(n:Nat),cnt X n=0→∀j,j<n→X j=true
 | 0,_,j,h=>by omega
 | n+1,h,j,hj=>by
  simp only[cnt]at h
  by_cases hjn:j=n
  ·subst hjn
   cases hx:X j with
   | true=>rfl
   | false=>simp[hx]at h
  ·exact Ji n (by omega) j (by omega)
end
def jS(ops:List Oper)(o:Oper):List Nat:=
 (o.op.operands.toList.filterMap λ| .tmp t=>some t | _=>none)++
 (match o.guard with
  | some (g,_)=>((ops[g]?).bind (·.dst)).toList
  | none=>[])
def E9(acc:List Nat)(o:Oper):Nat:=
 o.after.toList.foldl (λm e=>if Region.binds .any e then (m ||| (1 <<<e.on)) ||| acc.getD e.on 0 else m) 0
def masks:List Oper→List Nat→List Nat
 | [],acc=>acc
 | o::rest,acc=>masks rest (acc++[E9 acc o])
def clash(dj di:Option Nat)(lj li:List Nat)(tj ti:Nat):Bool:=
 (match dj with
  | some d=>li.contains d || di==some d
  | none=>false) ||
 (match di with
  | some d=>lj.contains d
  | none=>false) ||
 (tj==2 && ti !=0) || (ti==2 && tj !=0)
def vZ(ops:List Oper)(ts:List Nat):Bool:=
 let ms:=masks ops []
 let ls:=ops.map (jS ops)
 (List.range ops.length).all λi=>
  match ops[i]? with
  | none=>true
  | some o=>
   (o.after.toList.all λe=>!Region.binds .any e || decide (e.on<i)) &&
   (ms.getD i 0 &&& E9 ms o==ms.getD i 0) &&
   (List.range i).all λj=>
    !clash ((ops[j]?).bind (·.dst)) o.dst (ls.getD j []) (ls.getD i []) (co (ts.getD j 0)) (co (ts.getD i 0)) || (ms.getD i 0).testBit j
theorem Jj{acc:List Nat}{o:Oper}{j:Nat}(h:(E9 acc o).testBit j=true) :
  ∃e∈o.after.toList,Region.binds .any e=true∧(j=e.on∨(acc.getD e.on 0).testBit j=true):=by
 unfold E9 at h
 have key:∀(es:List Edge) (m:Nat),(es.foldl (λm e=>if Region.binds .any e then (m ||| (1 <<<e.on)) ||| acc.getD e.on 0 else m) m).testBit j=true→
     m.testBit j=true∨∃e∈es,Region.binds .any e=true∧(j=e.on∨(acc.getD e.on 0).testBit j=true):=by
  intro es
  induction es with
  | nil=>intro m h;exact .inl h
  | cons e es ih=>
   intro m h
   rw[List.foldl_cons]at h
   rcases ih _ h with h | ⟨e',h1,h2⟩
   ·split at h
    ·rename_i hb
     rw[Nat.testBit_or,Nat.testBit_or]at h
     simp only[Bool.or_eq_true]at h
     rcases h with (h | h) | h
     ·exact .inl h
     ·rw[Nat.one_shiftLeft,Nat.testBit_two_pow]at h
      exact .inr ⟨e,List.mem_cons_self,hb,.inl (of_decide_eq_true h).symm⟩
     ·exact .inr ⟨e,List.mem_cons_self,hb,.inr h⟩
    ·exact .inl h
   ·exact .inr ⟨e',List.mem_cons_of_mem _ h1,h2⟩
 rcases key _ _ h with h | h
 ·simp at h
 ·exact h
structure UI (ops:List Oper) (ts:List Nat) (ms:List Nat):Prop where
 back:∀(i:Nat) (o:Oper),ops[i]?=some o→∀e∈o.after.toList,Region.binds .any e=true→e.on<i
 mask:∀(i:Nat) (o:Oper),ops[i]?=some o→∀j,(ms.getD i 0).testBit j=true→∃e∈o.after.toList,Region.binds .any e=true∧(j=e.on∨(ms.getD e.on 0).testBit j=true)
 ord:∀(i:Nat) (o:Oper) (j:Nat) (p:Oper),ops[i]?=some o→ops[j]?=some p→j<i→clash p.dst o.dst (jS ops p) (jS ops o) (co (ts.getD j 0)) (co (ts.getD i 0))=true→(ms.getD i 0).testBit j=true
theorem F9{ops:List Oper}{ts:List Nat}(h:vZ ops ts=true):UI ops ts (masks ops []):=by
 unfold vZ at h
 simp only[List.all_eq_true,List.mem_range]at h
 have hh:∀i o,ops[i]?=some o→_:=λi o ho=>by
  have:=h i (List.getElem?_eq_some_iff.1 ho).1
  rw[ho]at this
  simp only[Bool.and_eq_true,List.all_eq_true,List.mem_range,beq_iff_eq]at this
  exact this
 refine⟨λi o ho e he hb=>by simpa[hb] using (hh i o ho).1.1 e he,λi o ho j hj=>?_,λi o j p ho hp hji hc=>?_⟩
 ·refine Jj ?_
  have h2:=(hh i o ho).1.2
  rw[←h2,Nat.testBit_and]at hj
  simp only[Bool.and_eq_true]at hj
  exact hj.2
 ·have h3:=(hh i o ho).2 j hji
  have hlt:=(List.getElem?_eq_some_iff.1 hp).1
  have e1:(ops.map (jS ops)).getD j []=jS ops p:=by rw[List.getD_eq_getElem?_getD,List.getElem?_map,hp];rfl
  have e2:(ops.map (jS ops)).getD i []=jS ops o:=by rw[List.getD_eq_getElem?_getD,List.getElem?_map,ho];rfl
  rw[e1,e2,hp]at h3
  simp only[bind_some,hc,Bool.not_true,Bool.false_or]at h3
  exact h3
def rC(ops:List Oper)(i:Nat):Option Nat:=(ops[i]?).bind (·.dst)
def aU(tr:List KG)(i:Nat):KG:=tr.getD i default
def ng(ops:List Oper)(tr:List KG)(S:St)(X:Nat→Bool)(n:Nat):St:=⟨Jg (rC ops) (aU tr) X n S.tmps,p9 (aU tr) X n S.objs⟩
theorem xZ{own:Nat→Bool}{ops:List Oper}{S0:St}{tr0:List KG}:∀(sw:List Oper) (k:Nat) (S:St) (tr:List KG) (S':St),Trace P D own ops sw k S tr S'→
  (∀j,sw[j]?=ops[k+j]?)→(∀j,tr[j]?=tr0[k+j]?)→S=ng ops tr0 S0 (λ_=>true) k→
  (∀i o,k≤i→ops[i]?=some o→tV P D (own i) ops o (ng ops tr0 S0 (λ_=>true) i) (aU tr0 i))∧S'=ng ops tr0 S0 (λ_=>true) (k+sw.length)
 | [],k,S,tr,S',h,hl,ht,hs=>by
  refine⟨λi o hi ho=>?_,by rw[h.2,hs];rfl⟩
  have:=hl (i-k)
  rw[show k+(i-k)=i by omega,ho]at this
  simp at this
 | o::rest,k,S,tr,S',h,hl,ht,hs=>by
  obtain⟨e,tr',rfl,h1,h2⟩:=h
  have ho:ops[k]?=some o:=by simpa using (hl 0).symm
  have he:aU tr0 k=e:=by
   have:=ht 0
   simp only[List.getElem?_cons_zero,Nat.add_zero]at this
   simp[aU,List.getD_eq_getElem?_getD,←this]
  have hst:St.put ⟨S.tmps,e.objs⟩ o.dst e.r=ng ops tr0 S0 (λ_=>true) (k+1):=by
   have e1:(ng ops tr0 S0 (λ_=>true) (k+1)).tmps=qz o.dst e.r S.tmps:=by
    simp only[ng,Jg,if_true,he,rC,ho,bind_some]
    rw[hs];rfl
   have e2:(ng ops tr0 S0 (λ_=>true) (k+1)).objs=e.objs:=by
    simp only[ng,p9,he,Bool.true_and]
    have hso:S.objs=p9 (aU tr0) (λ_=>true) k S0.objs:=by rw[hs];rfl
    split
    ·rfl
    ·rename_i hne
     have hne:co e.t≠2:=by simpa using hne
     rcases h1 with ⟨_,h1,_⟩ | ⟨_,_,h1,_⟩
     ·rw[h1 hne,hso]
     ·rw[h1,hso]
   cases hd:o.dst with
   | none=>rw[hd]at e1;simp only[St.put,qz]at e1 ⊢;rw[←e1,←e2]
   | some d=>rw[hd]at e1;simp only[St.put,qz]at e1 ⊢;rw[←e1,←e2]
  obtain⟨h3,h4⟩:=xZ rest (k+1) _ tr' S' h2 (λj=>by have:=hl (j+1);simpa[Nat.add_assoc,Nat.add_comm 1 j] using this)
   (λj=>by have:=ht (j+1);simpa[Nat.add_assoc,Nat.add_comm 1 j] using this) hst
  refine⟨λi o' hi ho'=>?_,by rw[h4,List.length_cons];congr 1;omega⟩
  by_cases hik:i=k
  ·subst hik
   rw[ho]at ho'
   cases ho'
   rw[he,←hs];exact h1
  ·exact h3 i o' (by omega) ho'
theorem E_{dst:Nat→Option Nat}{en:Nat→KG}{i:Nat}:∀(n:Nat) (tm:List PV),i≤n→Jg dst en (λj=>decide (j<i)) n tm=Jg dst en (λ_=>true) i tm
 | 0,_,h=>by have:i=0:=by omega
             subst this;rfl
 | n+1,tm,h=>by
  by_cases hi:i=n+1
  ·subst hi
   exact oJ (n+1) tm λj hj=>by simp[hj]
  ·simp only[Jg]
   rw[if_neg (by simp;omega)]
   exact E_ n tm (by omega)
theorem MZ{en:Nat→KG}{i:Nat}:∀(n:Nat) (ob:List Obj),i≤n→p9 en (λj=>decide (j<i)) n ob=p9 en (λ_=>true) i ob
 | 0,_,h=>by have:i=0:=by omega
             subst this;rfl
 | n+1,tm,h=>by
  by_cases hi:i=n+1
  ·subst hi
   exact qN (n+1) tm λj hj _=>by simp[hj]
  ·simp only[p9]
   rw[if_neg (by simp;omega)]
   exact MZ n tm (by omega)
theorem Jk{dj di:Option Nat}{lj li:List Nat}{tj ti x:Nat}(h:dj=some x)(hx:x∈li):clash dj di lj li tj ti=true:=by simp[clash,h,hx]
theorem F_{dj di:Option Nat}{lj li:List Nat}{tj ti x:Nat}(h:di=some x)(hx:x∈lj):clash dj di lj li tj ti=true:=by simp[clash,h,hx]
theorem M0{dj di:Option Nat}{lj li:List Nat}{tj ti x:Nat}(h:dj=some x)(hx:di=some x):clash dj di lj li tj ti=true:=by simp[clash,h,hx]
theorem Xp{dj di:Option Nat}{lj li:List Nat}{tj ti:Nat}(h:tj=2)(hx:ti≠0):clash dj di lj li tj ti=true:=by simp[clash,h,hx]
theorem aa0{dj di:Option Nat}{lj li:List Nat}{tj ti:Nat}(h:ti=2)(hx:tj≠0):clash dj di lj li tj ti=true:=by simp[clash,h,hx]
theorem NW{own:Bool}{ops:List Oper}{o:Oper}{S S':St}{e:KG}(h:tV P D own ops o S e)(hx:∀x∈jS ops o,S.tmps.getD x .dead=S'.tmps.getD x .dead)(ho:e.t≠0→S.objs=S'.objs) :
  (jE ops o.guard S'.tmps=some true∧(co e.t≠2→e.t≠0→e.objs=S'.objs)∧KF P D own S'.ev S'.objs o.op (λr objs' t=>r=e.r∧t=e.t∧(e.t=0→objs'=S'.objs)∧(e.t≠0→objs'=e.objs)))∨
  (jE ops o.guard S'.tmps=some false∧e.r=.bY []∧e.t=0):=by
 have hev:∀x∈o.op.operands,S.ev x=S'.ev x:=by
  intro x hm
  cases x with
  | tmp t=>exact hx t (List.mem_append_left _ (List.mem_filterMap.2 ⟨.tmp t,by simpa using hm,rfl⟩))
  | _=>rfl
 have hg:jE ops o.guard S.tmps=jE ops o.guard S'.tmps:=by
  cases hgd:o.guard with
  | none=>rfl
  | some g=>
   obtain⟨j,want⟩:=g
   simp only[jE]
   cases hd:(ops[j]?).bind (·.dst) with
   | none=>rfl
   | some d=>
    simp only[]
    rw[hx d (List.mem_append_right _ (by rw[hgd];simp[hd]))]
 rcases h with ⟨h1,h2,h3,h4,_⟩ | ⟨h1,h2,h3,h4⟩
 ·left
  refine⟨hg ▸ h1,λa b=>by rw[h2 a,ho b],?_⟩
  by_cases ht:e.t=0
  ·exact zq hev (h4 ht S'.objs _ ⟨rfl,ht.symm,λ_=>rfl,λc=>absurd ht c⟩)
  ·have:=zq hev (h3 (λr objs' t=>r=e.r∧t=e.t∧(e.t=0→objs'=S'.objs)∧(e.t≠0→objs'=e.objs)) ⟨rfl,rfl,λc=>absurd c ht,λ_=>rfl⟩)
   rw[ho ht]at this
   exact this
 ·exact .inr ⟨hg ▸ h1,h2,h4⟩
theorem YQ{own:Nat→Bool}{ops:List Oper}{ts:List Nat}{ms:List Nat}{tr:List KG}{S0:St}(hD:∀t,je P t (D t))(hok:UI ops ts ms)
  (hts:∀i,i<ops.length→ts.getD i 0=(aU tr i).t)
  (hst:∀i o,ops[i]?=some o→tV P D (own i) ops o (ng ops tr S0 (λ_=>true) i) (aU tr i))
  {X:Nat→Bool}{i:Nat}{o:Oper}(ho:ops[i]?=some o) (hX:X i=false) (hcl:∀j,j<ops.length→X j=true→∀x,(ms.getD j 0).testBit x=true→X x=true)
  (hrd:∀x,(ms.getD i 0).testBit x=true→X x=true)
  {base av:Nat→Prop}{w0:Wz}{blk:Nat→Option Nat}{a:Act}{w:World}(R:Rel base av w0 (ng ops tr S0 X ops.length) blk a w)
  {Q:Exit→Act→World→Prop}{K:Act→World→Prop}(hK:∀aA a' w',Rel base av w0 (ng ops tr S0 (upd X i) ops.length) aA a' w'→K a' w') :
  wpOpIn (GZ l) 0 P ops.toArray Q i K a w:=by
 have hi:i<ops.length:=(List.getElem?_eq_some_iff.1 ho).1
 have hdst:rC ops i=o.dst:=by simp[rC,ho]
 have NY:∀j,j<ops.length→∃p,ops[j]?=some p∧rC ops j=p.dst:=λj hj=>⟨ops[j],List.getElem?_eq_getElem hj,by simp[rC,List.getElem?_eq_getElem hj]⟩
 have before:∀j p,ops[j]?=some p→j<i→clash p.dst o.dst (jS ops p) (jS ops o) (co (ts.getD j 0)) (co (ts.getD i 0))=true→X j=true:=
  λj p hp hj hc=>hrd j (hok.ord i o j p ho hp hj hc)
 have behind:∀j p,ops[j]?=some p→i<j→clash o.dst p.dst (jS ops o) (jS ops p) (co (ts.getD i 0)) (co (ts.getD j 0))=true→X j=false:=λj p hp hj hc=>by
  cases hx:X j with
  | false=>rfl
  | true=>
   have:=hcl j (List.getElem?_eq_some_iff.1 hp).1 hx i (hok.ord j p i o hp ho hj hc)
   rw[hX]at this;cases this
 have Xq:∀x∈jS ops o,(ng ops tr S0 (λ_=>true) i).tmps.getD x .dead=(ng ops tr S0 X ops.length).tmps.getD x .dead:=by
  intro x hx
  simp only[ng]
  rw[←E_ (dst:=rC ops) ops.length S0.tmps (Nat.le_of_lt hi)]
  refine Jh _ _ λj hj hd=>?_
  obtain⟨p,hp,hpd⟩:=NY j hj
  rw[hpd]at hd
  rcases Nat.lt_trichotomy j i with hji | hji | hji
  ·rw[before j p hp hji (Jk hd hx)];simp[hji]
  ·subst hji;rw[hX];simp
  ·rw[behind j p hp hji (F_ hd hx)];simp;omega
 have oG:(aU tr i).t≠0→(ng ops tr S0 (λ_=>true) i).objs=(ng ops tr S0 X ops.length).objs:=by
  intro ht
  simp only[ng]
  rw[←MZ ops.length S0.objs (Nat.le_of_lt hi)]
  refine qN _ _ λj hj h2=>?_
  obtain⟨p,hp,hpd⟩:=NY j hj
  rcases Nat.lt_trichotomy j i with hji | hji | hji
  ·rw[before j p hp hji (Xp (by rw[hts j hj];exact h2) (by rw[hts i hi];exact Xn ht))];simp[hji]
  ·subst hji;rw[hX];simp
  ·rw[behind j p hp hji (aa0 (by rw[hts j hj];exact h2) (by rw[hts i hi];exact Xn ht))];simp;omega
 have hadd:qz o.dst (aU tr i).r (ng ops tr S0 X ops.length).tmps=(ng ops tr S0 (upd X i) ops.length).tmps:=by
  simp only[ng]
  rw[←hdst]
  refine NT _ _ hi hX λj hj hjn hxj x hx hd=>?_
  obtain⟨p,hp,hpd⟩:=NY j hjn
  rw[hpd]at hd
  rw[hdst]at hx
  have:=behind j p hp hj (M0 hx hd)
  rw[this]at hxj;cases hxj
 have aej:(ng ops tr S0 (upd X i) ops.length).objs=if co (aU tr i).t=2 then (aU tr i).objs else (ng ops tr S0 X ops.length).objs:=by
  simp only[ng]
  split
  ·rename_i ht
   refine NU _ _ hi ht λj hj hjn hxj hj2=>?_
   obtain⟨p,hp,hpd⟩:=NY j hjn
   have:=behind j p hp hj (Xp (by rw[hts i hi];exact ht) (by rw[hts j hjn,hj2];decide))
   rw[this]at hxj;cases hxj
  ·rename_i ht
   refine qN _ _ λj hj h2=>?_
   have hne:j≠i:=λe=>ht (e ▸ h2)
   simp[upd,hne]
 have hput:∀objs',(objs'=(ng ops tr S0 (upd X i) ops.length).objs)→St.put ⟨(ng ops tr S0 X ops.length).tmps,objs'⟩ o.dst (aU tr i).r=ng ops tr S0 (upd X i) ops.length:=by
  rintro objs' rfl
  cases hd:o.dst with
  | none=>rw[hd]at hadd;simp only[qz]at hadd;simp only[St.put];rw[hadd]
  | some d=>rw[hd]at hadd;simp only[qz]at hadd;simp only[St.put];rw[hadd]
 unfold wpOpIn
 have h0:ops.toArray[i]?=some o:=by simpa using ho
 rw[h0]
 simp only[]
 rcases NW (hst i o ho) Xq oG with ⟨h1,h2,h3⟩ | ⟨h1,h2,h3⟩
 ·rw[if_pos (qy R h1)]
  refine CJ l hD R h3 λr objs' t v w' aA hr R' hv=>?_
  obtain⟨rfl,rfl,e0,e1⟩:=hr
  have:=R'.put hv o.dst
  rw[hput objs' (by
   rw[aej]
   split
   ·rename_i ht;exact e1 (λhz=>by rw[hz]at ht;exact absurd ht (by decide))
   ·rename_i ht
    by_cases hz:(aU tr i).t=0
    ·exact e0 hz
    ·rw[e1 hz];exact h2 ht hz)]at this
  exact hK _ _ _ this
 ·rw[if_neg (by rw[qy R h1];simp)]
  refine⟨λ_ _=>trivial,?_⟩
  have:=R.put (zu w _ _ blk) o.dst
  rw[←h2]at this
  have hs:=hput (ng ops tr S0 X ops.length).objs (by rw[aej,if_neg (by rw[h3];decide)])
  rw[show (ng ops tr S0 X ops.length).put o.dst (aU tr i).r=St.put ⟨(ng ops tr S0 X ops.length).tmps,(ng ops tr S0 X ops.length).objs⟩ o.dst (aU tr i).r from rfl,hs]at this
  exact hK _ _ _ this
theorem Jl{own:Nat→Bool}{ops:List Oper}{ts:List Nat}{ms:List Nat}{tr:List KG}{S0:St}(hD:∀t,je P t (D t))(hok:UI ops ts ms)
  (hts:∀i,i<ops.length→ts.getD i 0=(aU tr i).t)
  (hst:∀i o,ops[i]?=some o→tV P D (own i) ops o (ng ops tr S0 (λ_=>true) i) (aU tr i))
  {base av:Nat→Prop}{w0:Wz}{Q:Exit→Act→World→Prop}
  (hQ:∀aA a' w',Rel base av w0 (ng ops tr S0 (λ_=>true) ops.length) aA a' w'→Q .normal a' w') :
  ∀(fuel:Nat) (L:Array Bool) (blk:Nat→Option Nat) (a:Act) (w:World),L.size=ops.length→
   (∀j,j<ops.length→L.getD j false=true→∀x,(ms.getD j 0).testBit x=true→L.getD x false=true)→cnt (λj=>L.getD j false) ops.length≤fuel→
   Rel base av w0 (ng ops tr S0 (λj=>L.getD j false) ops.length) blk a w→wpAnyIn (GZ l) 0 P .any ops.toArray Q fuel L a w:=by
 have full:∀(L:Array Bool),L.size=ops.length→Region.ready .any ops.toArray L=[]→∀i,i<ops.length→L.getD i false=true:=by
  intro L hsz hr i
  induction i using Nat.strongRecOn with
  | _ i ih=>
   intro hi
   cases hx:L.getD i false with
   | true=>rfl
   | false=>
    have hmem:i∈Region.ready .any ops.toArray L:=by
     simp only[Region.ready,List.mem_filter,List.mem_range,Bool.and_eq_true]
     refine⟨by simpa using hi,?_,?_⟩
     ·have hil:i<L.size:=by omega
      rw[Array.getD_eq_getD_getElem?,Array.getElem?_eq_getElem hil,getD_some]at hx ⊢
      rw[hx];rfl
     ·have ho:ops.toArray[i]?=some ops[i]:=by simp[hi]
      rw[ho]
      simp only[map_some,getD_some]
      rw[Array.all_eq_true']
      intro e he
      cases hbd:Region.binds .any e with
      | false=>simp
      | true=>
       have hb:=hok.back i ops[i] (List.getElem?_eq_getElem hi) e (by simpa using he) hbd
       rw[ih e.on hb (by omega)];simp
    rw[hr]at hmem
    simp at hmem
 have step:∀(L:Array Bool) (i:Nat),L.size=ops.length→i∈Region.ready .any ops.toArray L→∃o,ops[i]?=some o∧L.getD i false=false∧∀e∈o.after.toList,Region.binds .any e=true→L.getD e.on false=true:=by
  intro L i hsz hm
  simp only[Region.ready,List.mem_filter,List.mem_range,Bool.and_eq_true]at hm
  obtain⟨hi,h1,h2⟩:=hm
  have hi:i<ops.length:=by simpa using hi
  have ho:ops.toArray[i]?=some ops[i]:=by simp[hi]
  rw[ho]at h2
  simp only[map_some,getD_some]at h2
  rw[Array.all_eq_true']at h2
  refine⟨ops[i],List.getElem?_eq_getElem hi,?_,λe he hb=>?_⟩
  ·have hil:i<L.size:=by omega
   rw[Array.getD_eq_getD_getElem?,Array.getElem?_eq_getElem hil,getD_some]at h1 ⊢
   simpa using h1
  ·have:=h2 e (by simpa using he)
   rw[hb]at this
   simpa using this
 intro fuel
 induction fuel with
 | zero=>
  intro L blk a w hsz hcl hc R
  have hall:=Ji (X:=λj=>L.getD j false) ops.length (by omega)
  have hst':ng ops tr S0 (λj=>L.getD j false) ops.length=ng ops tr S0 (λ_=>true) ops.length:=by
   simp only[ng];rw[oJ ops.length _ hall,qN ops.length _ λj hj _=>hall j hj]
  refine⟨?_,hQ blk a w (hst' ▸ R)⟩
  cases hr:Region.ready .any ops.toArray L with
  | nil=>rfl
  | cons i is=>
   obtain⟨o,ho,hx,_⟩:=step L i hsz (by rw[hr];exact List.mem_cons_self)
   rw[hall i (List.getElem?_eq_some_iff.1 ho).1]at hx
   cases hx
 | succ fuel ih=>
  intro L blk a w hsz hcl hc R
  refine⟨λhr=>?_,λi hm=>?_⟩
  ·have hall:=full L hsz hr
   have hst':ng ops tr S0 (λj=>L.getD j false) ops.length=ng ops tr S0 (λ_=>true) ops.length:=by
    simp only[ng];rw[oJ ops.length _ hall,qN ops.length _ λj hj _=>hall j hj]
   exact hQ blk a w (hst' ▸ R)
  ·obtain⟨o,ho,hx,hrd⟩:=step L i hsz hm
   have hi:i<ops.length:=(List.getElem?_eq_some_iff.1 ho).1
   have aa1:∀x,(ms.getD i 0).testBit x=true→L.getD x false=true:=by
    intro x hb
    obtain⟨e,h1,h2,h3⟩:=hok.mask i o ho x hb
    have he:=hrd e h1 h2
    rcases h3 with rfl | h3
    ·exact he
    ·exact hcl e.on (by have:=hok.back i o ho e h1 h2;omega) he x h3
   have aa2:∀j,(L.setIfInBounds i true).getD j false=upd (λj=>L.getD j false) i j:=by
    intro j
    rw[Array.getD_eq_getD_getElem?,Array.getElem?_setIfInBounds]
    simp only[upd]
    by_cases hij:i=j
    ·subst hij
     rw[if_pos rfl,if_pos (by omega)];simp
    ·rw[if_neg hij,Array.getD_eq_getD_getElem?]
     have:(j==i)=false:=by simp;omega
     rw[this,Bool.or_false]
   have hfun:(λj=>(L.setIfInBounds i true).getD j false)=upd (λj=>L.getD j false) i:=funext aa2
   refine YQ (X:=λj=>L.getD j false) hD hok hts hst ho hx hcl aa1 R λaA a' w' R'=>?_
   refine ih _ aA a' w' (by simpa using hsz) ?_ ?_ (by rw[hfun];exact R')
   ·intro j hj hb x hbx
    rw[aa2]at hb ⊢
    simp only[upd,Bool.or_eq_true,beq_iff_eq]at hb ⊢
    rcases hb with hb | rfl
    ·exact .inl (hcl j hj hb x hbx)
    ·exact .inl (aa1 x hbx)
   ·rw[hfun]
    have:=NV (X:=λj=>L.getD j false) ops.length hi hx
    omega
theorem PW.draw {E:Env}{id:Nat}{ops:List Oper}{Q:Exit→St→Prop}{S:St}(own:Nat→Bool)(hD:∀t,je P t (D t))(hm:P.follows .mixedOrders=true)
  (h:rz P D own ops ops 0 S [] λS' ts=>vZ ops ts=true∧Q .normal S'):PW P l E (.region id ops.toArray true) Q S:=by
 intro base av V hE blk a w ⟨w0,hV,R⟩
 obtain⟨tr,S',h1,h2,h3⟩:=nK _ _ _ _ _ h
 obtain⟨h4,h5⟩:=xZ (S0:=S) (tr0:=tr) ops 0 S tr S' h1 (λj=>by simp) (λj=>by simp) rfl
 refine wpIn_region_any hm ?_
 have R':Rel base av w0 S blk a { w with drawn:=w.drawn+1 }:=R.grew (.same rfl)
 have hR:∀(L:Array Bool),(∀j,L.getD j false=false)→ng ops tr S (λj=>L.getD j false) ops.length=S:=by
  intro L hL
  have e1:∀n tm,Jg (rC ops) (aU tr) (λj=>L.getD j false) n tm=tm:=by
   intro n tm
   induction n with
   | zero=>rfl
   | succ n ih=>simp only[Jg];rw[if_neg (by rw[hL n];simp)];exact ih
  have e2:∀n ob,p9 (aU tr) (λj=>L.getD j false) n ob=ob:=by
   intro n ob
   induction n with
   | zero=>rfl
   | succ n ih=>simp only[p9];rw[if_neg (by rw[hL n];simp)];exact ih
  simp only[ng,e1,e2]
 have hcn:∀(X:Nat→Bool) n,cnt X n≤n:=by
  intro X n
  induction n with
  | zero=>exact Nat.le_refl _
  | succ n ih=>simp only[cnt];split<;>omega
 have hrep:∀j,(Array.replicate ops.toArray.size false).getD j false=false:=by
  intro j
  rw[Array.getD_eq_getD_getElem?,Array.getElem?_replicate]
  split<;>rfl
 have hts:∀i,i<ops.length→(tr.map (·.t)).getD i 0=(aU tr i).t:=by
  intro i hi
  have hl:tr.length=ops.length:=by
   clear h2 h3 h4 h5 h
   have:∀(sw:List Oper) (k:Nat) (S:St) (tr:List KG) (S':St),Trace P D own ops sw k S tr S'→tr.length=sw.length:=by
    intro sw
    induction sw with
    | nil=>rintro k S tr S' ⟨rfl,_⟩;rfl
    | cons o sw ih=>
     rintro k S tr S' ⟨e,tr',rfl,_,h⟩
     simp[ih _ _ _ _ h]
   exact this _ _ _ _ _ h1
  have hil:i<tr.length:=by omega
  simp[aU,List.getD_eq_getElem?_getD,List.getElem?_map,List.getElem?_eq_getElem hil]
 rw[Nat.zero_add]at h5
 subst h5
 have hc:=hcn (λj=>(Array.replicate ops.toArray.size false).getD j false) ops.length
 have hsz:ops.toArray.size=ops.length:=by simp
 have hrs:(Array.replicate ops.toArray.size false).size=ops.length:=by simp
 have hQ:∀aA a' w',Rel base av w0 (ng ops tr S (λ_=>true) ops.length) aA a' w'→∃S' nL,Q .normal S'∧sF base av V S' nL a' w':=
  λaA a' w' R''=>⟨_,aA,h3,w0,hV,R''⟩
 have R1:Rel base av w0 (ng ops tr S (λj=>(Array.replicate ops.toArray.size false).getD j false) ops.length) blk a { w with drawn:=w.drawn+1 }:=by rw[hR _ hrep];exact R'
 have hcl:∀j,j<ops.length→(Array.replicate ops.toArray.size false).getD j false=true→∀x,((masks ops []).getD j 0).testBit x=true→(Array.replicate ops.toArray.size false).getD x false=true:=by
  intro j _ hb
  rw[hrep]at hb;cases hb
 have h2':vZ ops (tr.map (·.t))=true:=h2
 generalize Array.replicate ops.toArray.size false=L at *
 exact Jl (Q:=λe a' w'=>∃S' aA,Q e S'∧sF base av V S' aA a' w') hD (F9 h2') hts (λi o ho=>h4 i o (Nat.zero_le _) ho) hQ ops.toArray.size L blk a _ hrs hcl (by rw[hsz];exact hc) R1
end Lp
namespace Lp
open Go
open List (all_eq_true mem_range)
open Bool (and_eq_true or_eq_true)
open Option (getD_some map_some)
variable {P:Program}{D:TypeId→aH}{l:Option Nat}
def hole:Obj:=⟨0,0,[],false,0⟩
section
variable {base av:Nat→Prop}{w0:Wz}{blk:Nat→Option Nat}{a:Act}{w:World}
theorem CP{ok:Nat→Prop}{objs:List Obj}{cs:List PV}{vs:List Value}(h:dB (bJ w ok objs blk) cs vs):cs.all (PV.xG objs.length)=true:=by
 rw[all_eq_true]
 intro p hp
 obtain⟨i,hi,rfl⟩:=List.getElem_of_mem hp
 exact pO (h.2 i _ _ (List.getElem?_eq_getElem hi) (List.getElem?_eq_getElem (by rw[←h.1];exact hi)))
theorem Q6{ok:Nat→Prop}{objs:List Obj}{p:PV}{v:Value}(h:aY w ok objs blk p v):p.lt objs.length=true:=by
 cases p with
 | fn f a c=>obtain⟨_,_,_,h1,h2⟩:=h;simp only[PV.lt,CP h1,CP h2,Bool.and_self]
 | bY cs=>obtain⟨_,_,h1⟩:=h;simp only[PV.lt,CP h1]
 | agg cs=>obtain⟨_,_,h1⟩:=h;simp only[PV.lt,CP h1]
 | bO k ver=>exact pO (w:=w) (ok:=ok) (p:=.bO k ver) (v:=v) h
 | bP k ver i f=>exact pO (w:=w) (ok:=ok) (p:=.bP k ver i f) (v:=v) h
 | mD k ver=>exact pO (w:=w) (ok:=ok) (p:=.mD k ver) (v:=v) h
 | _=>rfl
theorem Rel.holes {S:St}(R:Rel base av w0 S blk a w):∀n:Nat,∃aA,Rel base av w0 ⟨S.tmps,S.objs++List.replicate n hole⟩ aA a w
 | 0=>⟨blk,by simpa using R⟩
 | n+1=>by
  obtain⟨aA,R'⟩:=R.holes n
  have h:=R'.EY (o1:=hole) (gb:=none) (lS.refl w) (λg hg=>by cases hg) λ_=>by
   unfold dA aI
   rw[if_pos rfl]
   rfl
  rw[List.replicate_succ',←List.append_assoc]
  exact⟨_,h⟩
theorem Rel.fill {tm:List PV}{O:List Obj}{o1:Obj}{k:Nat}{w':World}{aA:Nat→Option Nat}(R:Rel base av w0 ⟨tm,O⟩ blk a w)(hk:O[k]?=some hole)(hl:o1.live=true)(hv:o1.ver=1)
  (R':Rel base av w0 ⟨tm,O++[o1]⟩ aA a w') (hn:F3 O (O++[o1])){mk:Nat→PV}(hm:Mk mk){v:Value}(hr:aY w' (bZ base (O++[o1]) aA) (O++[o1]) aA (mk O.length) v) :
  ∃jr,Rel base av w0 ⟨tm,O.set k o1⟩ jr a w'∧aY w' (bZ base (O.set k o1) jr) (O.set k o1) jr (mk k) v:=by
 have hkl:=(List.getElem?_eq_some_iff.1 hk).1
 obtain⟨jr,hb2⟩:∃jr:Nat→Option Nat,jr=λj=>if j=k then aA O.length else aA j:=⟨_,rfl⟩
 have bk:jr k=aA O.length:=by rw[hb2];simp
 have bo:∀j,j≠k→jr j=aA j:=λj hj=>by rw[hb2];simp[hj]
 have adl:(O++[o1])[O.length]?=some o1:=by simp
 have ahE:∀j o,O[j]?=some o→(O++[o1])[j]?=some o:=λj o h=>by
  rw[List.getElem?_append_left (List.getElem?_eq_some_iff.1 h).1];exact h
 have gk:(O.set k o1)[k]?=some o1:=by rw[List.getElem?_set];simp[hkl]
 have go:∀j,j≠k→(O.set k o1)[j]?=O[j]?:=λj hj=>by rw[List.getElem?_set,if_neg (λe=>hj e.symm)]
 have hlive:∀(j:Nat) (o:Obj),(O.set k o1)[j]?=some o→o.live=true→∃j',(O++[o1])[j']?=some o∧aA j'=jr j∧((j=k∧j'=O.length)∨(j≠k∧j'=j∧j<O.length)):=by
  intro j o h1 h2
  by_cases hj:j=k
  ·subst hj
   rw[gk]at h1;cases h1
   exact⟨O.length,adl,bk.symm,.inl ⟨rfl,rfl⟩⟩
  ·rw[go j hj]at h1
   exact⟨j,ahE j o h1,(bo j hj).symm,.inr ⟨hj,rfl,(List.getElem?_eq_some_iff.1 h1).1⟩⟩
 have hnl:∀b,aZ (O++[o1]) aA b→aZ (O.set k o1) jr b:=by
  intro b h j o h1 h2 h3
  obtain⟨j',g1,g2,_⟩:=hlive j o h1 h2
  exact h j' o g1 h2 (by rw[g2];exact h3)
 have hok:∀b,bZ base (O++[o1]) aA b→bZ base (O.set k o1) jr b:=λb h=>⟨h.1,hnl b h.2⟩
 have hS:∀(p:PV) (u:Value),p.xG O.length=true→bJ w' (bZ base (O++[o1]) aA) (O++[o1]) aA p u→bJ w' (bZ base (O.set k o1) jr) (O.set k o1) jr p u:=by
  intro p u hp h
  have hm':∀q:PV,dM w' (bZ base (O++[o1]) aA) q u→dM w' (bZ base (O.set k o1) jr) q u:=λq hq=>hq.mono (Nat.le_refl _) (λb _ hb=>hok b hb) (λ_ _ _ h=>h)
  cases p with
  | bO j ver=>
   have hj:j<O.length:=by simpa[PV.xG] using hp
   obtain⟨h0,o,g1,g2,g3⟩:=h
   rw[List.getElem?_append_left hj]at g1
   by_cases hjk:j=k
   ·subst hjk
    rw[hk]at g1;cases g1
    refine⟨h0,o1,gk,by rw[hv];exact Nat.le_trans g2 (by decide),λ_ e=>?_⟩
    have:ver≤0:=g2
    omega
   ·refine⟨h0,o,by rw[go j hjk];exact g1,g2,λe1 e2=>?_⟩
    obtain⟨hM,this⟩:=g3 e1 e2
    refine⟨hM,?_⟩
    unfold Ab at this ⊢
    rw[bo j hjk];exact this
  | bP j ver i f=>
   have hj:j<O.length:=by simpa[PV.xG] using hp
   obtain⟨h0,o,g1,g2,g3⟩:=h
   rw[List.getElem?_append_left hj]at g1
   by_cases hjk:j=k
   ·subst hjk
    rw[hk]at g1;cases g1
    refine⟨h0,o1,gk,by rw[hv];exact Nat.le_trans g2 (by decide),λ_ e=>?_⟩
    have:ver≤0:=g2
    omega
   ·refine⟨h0,o,by rw[go j hjk];exact g1,g2,λe1 e2=>?_⟩
    rw[bo j hjk];exact g3 e1 e2
  | mD j ver=>
   have hj:j<O.length:=by simpa[PV.xG] using hp
   obtain⟨h0,o,g1,g2,g3⟩:=h
   rw[List.getElem?_append_left hj]at g1
   by_cases hjk:j=k
   ·subst hjk
    rw[hk]at g1;cases g1
    refine⟨h0,o1,gk,by rw[hv];exact Nat.le_trans g2 (by decide),λ_ e=>?_⟩
    have:ver≤0:=g2
    omega
   ·refine⟨h0,o,by rw[go j hjk];exact g1,g2,λe1 e2=>?_⟩
    rw[bo j hjk];exact g3 e1 e2
  | _=>exact hm' _ h
 have hLs:∀(cs:List PV) (us:List Value),cs.all (PV.xG O.length)=true→dB (bJ w' (bZ base (O++[o1]) aA) (O++[o1]) aA) cs us→dB (bJ w' (bZ base (O.set k o1) jr) (O.set k o1) jr) cs us:=
  λcs us hc h=>⟨h.1,λi p u h1 h2=>hS p u (all_eq_true.1 hc p (List.mem_of_getElem? h1)) (h.2 i p u h1 h2)⟩
 have hT:∀(p:PV) (u:Value),p.lt O.length=true→aY w' (bZ base (O++[o1]) aA) (O++[o1]) aA p u→aY w' (bZ base (O.set k o1) jr) (O.set k o1) jr p u:=by
  intro p u hp h
  cases p with
  | fn f a c=>
   simp only[PV.lt,and_eq_true]at hp
   obtain⟨va,vc,rfl,h1,h2⟩:=h
   exact⟨va,vc,rfl,hLs _ _ hp.1 h1,hLs _ _ hp.2 h2⟩
  | bY cs=>obtain⟨us,rfl,h1⟩:=h;exact⟨us,rfl,hLs _ _ hp h1⟩
  | agg cs=>obtain⟨us,rfl,h1⟩:=h;exact⟨us,rfl,hLs _ _ hp h1⟩
  | bO j ver=>exact hS (.bO j ver) u hp h
  | bP j ver i f=>exact hS (.bP j ver i f) u hp h
  | mD j ver=>exact hS (.mD j ver) u hp h
  | _=>exact .lQ (hS _ u rfl (by exact h))
 have H8:∀(j j':Nat) (o:Obj),dA w' (bZ base (O++[o1]) aA) (O++[o1]) aA j' o→aA j'=jr j→(∀x∈o.xs,∀p∈x.cells,∀u,bJ w' (bZ base (O++[o1]) aA) (O++[o1]) aA p u→bJ w' (bZ base (O.set k o1) jr) (O.set k o1) jr p u)→
     dA w' (bZ base (O.set k o1) jr) (O.set k o1) jr j o:=by
  intro j j' o h e ht
  unfold dA at h ⊢
  rw[←e]
  cases hb:aA j' with
  | none=>rw[hb]at h;exact h
  | some g=>
   rw[hb]at h
   obtain⟨c,x1,x2,x3⟩:=h
   refine⟨c,x1,x2,λi x hx=>⟨(x3 i x hx).1,λq p hp=>?_⟩⟩
   obtain⟨u,y1,y2⟩:=(x3 i x hx).2 q p hp
   exact⟨u,y1,ht x (List.mem_of_getElem? hx) p (List.mem_of_getElem? hp) u y2⟩
 refine⟨jr,⟨R'.pJ.mono (λb _ h=>⟨hok b h.1,h.2⟩) (λ_ _ _ h=>h),R'.EU,λt p hp=>hT p _ (Q6 (R.tm t p hp)) (R'.tm t p hp),⟨?_,?_,?_⟩,R'.pr,R'.fr,R'.gr,R'.pb,λx hx=>hT _ _ (Q6 (R.ext x hx)) (R'.ext x hx),R'.MJ,R'.sm,R'.gl⟩,?_⟩
 ·intro j o h1 h2
  obtain⟨j',g1,g2,hc⟩:=hlive j o h1 h2
  have h3:=R'.objs.ob j' o g1 h2
  refine H8 j j' o h3 g2 λx hx p hp u hu=>?_
  rcases hc with ⟨rfl,rfl⟩ | ⟨hj,_,hjl⟩
  ·rw[gk]at h1;cases h1
   exact hS p u (hn o1 rfl x hx p hp) hu
  ·
   rw[go j hj]at h1
   have h4:=R.objs.ob j o h1 h2
   have hlt:p.xG O.length=true:=by
    obtain⟨i,hi,rfl⟩:=List.getElem_of_mem hx
    obtain⟨q,hq,rfl⟩:=List.getElem_of_mem hp
    unfold dA at h4
    cases hb:blk j with
    | none=>rw[hb]at h4;simp[h4]at hi
    | some g=>
     rw[hb]at h4
     obtain⟨c,_,_,x3⟩:=h4
     obtain⟨u',_,y2⟩:=(x3 i _ (List.getElem?_eq_getElem hi)).2 q _ (List.getElem?_eq_getElem hq)
     exact pO y2
   exact hS p u hlt hu
 ·intro j1 j2 q1 q2 g hne h1 h2 h3 h4 h5
  obtain⟨i1,a1,a2,a3⟩:=hlive j1 q1 h1 h2
  obtain⟨i2,b1,b2,b3⟩:=hlive j2 q2 h3 h4
  rw[←a2]at h5
  rw[←b2]
  refine R'.objs.KL i1 i2 q1 q2 g ?_ a1 h2 b1 h4 h5
  rcases a3 with ⟨rfl,rfl⟩ | ⟨_,rfl,_⟩<;>rcases b3 with ⟨rfl,rfl⟩ | ⟨_,rfl,_⟩<;>first | exact absurd rfl hne | omega
 ·intro j o g h1 h2 h3
  obtain⟨j',g1,g2,_⟩:=hlive j o h1 h2
  rw[←g2]at h3
  exact R'.objs.np j' o g g1 h2 h3
 ·rcases hm with rfl | rfl | rfl
  ·obtain⟨h0,o,g1,g2,g3⟩:=hr
   rw[adl]at g1;cases g1
   refine⟨h0,o1,gk,g2,λe1 e2=>?_⟩
   obtain⟨hM,this⟩:=g3 e1 e2
   refine⟨hM,?_⟩
   unfold Ab at this ⊢
   rw[bk];exact this
  ·obtain⟨h0,o,g1,g2,g3⟩:=hr
   rw[adl]at g1;cases g1
   refine⟨h0,o1,gk,g2,λe1 e2=>?_⟩
   rw[bk];exact g3 e1 e2
  ·obtain⟨h0,o,g1,g2,g3⟩:=hr
   rw[adl]at g1;cases g1
   refine⟨h0,o1,gk,g2,λe1 e2=>?_⟩
   rw[bk];exact g3 e1 e2
end
def NZ(t:Nat):Option Nat:=if 5≤t∧t % 2=1 then some ((t-5) / 2) else none
theorem UJ(k:Nat):NZ (5+2*k)=some k:=by
 unfold NZ;rw[if_pos (by omega)];congr 1;omega
theorem aa3(k:Nat):NZ (4+2*k)=none:=by unfold NZ;rw[if_neg (by omega)]
theorem Q7:NZ 0=none:=rfl
def Bl(tj ti:Nat):Bool:=decide (4≤tj) && decide (4≤ti) && (tj-4) / 2==(ti-4) / 2 && (tj % 2==1 || ti % 2==1)
theorem Fa{tj ti k:Nat}(h:(NZ tj=some k∧(ti=4+2*k∨ti=5+2*k))∨(NZ ti=some k∧(tj=4+2*k∨tj=5+2*k))):Bl tj ti=true:=by
 have key:∀t,NZ t=some k→t=5+2*k:=by
  intro t ht
  unfold NZ at ht
  split at ht
  ·simp only[Option.some.injEq]at ht;omega
  ·cases ht
 unfold Bl
 simp only[and_eq_true,decide_eq_true_eq,or_eq_true,beq_iff_eq]
 rcases h with ⟨h1,h2 | h2⟩ | ⟨h1,h2 | h2⟩<;>have:=key _ h1<;>omega
def CQ(t:Nat):Bool:=t==0 || decide (4≤t)
theorem Ga{t:Nat}(h:CQ t=true):t=0∨(∃k,t=4+2*k)∨∃k,t=5+2*k:=by
 simp only[CQ,or_eq_true,beq_iff_eq,decide_eq_true_eq]at h
 rcases h with h | h
 ·exact .inl h
 ·rcases Nat.mod_two_eq_zero_or_one t with e | e
  ·exact .inr (.inl ⟨(t-4) / 2,by omega⟩)
  ·exact .inr (.inr ⟨(t-5) / 2,by omega⟩)
structure N7 (ops:List Oper) (ts:List Nat) (ms:List Nat) (b:Nat):Prop where
 fine:∀i,i<ops.length→i<b→CQ (ts.getD i 0)=true
 bl:b≤ops.length
 two:b<ops.length→ts.getD b 0=2
 bar:b<ops.length→∀j,j<b→ts.getD j 0≠0→(ms.getD b 0).testBit j=true
 rest:∀i,i<ops.length→b<i→ts.getD i 0=0
 back:∀(i:Nat) (o:Oper),ops[i]?=some o→∀e∈o.after.toList,Region.binds .any e=true→e.on<i
 mask:∀(i:Nat) (o:Oper),ops[i]?=some o→∀j,(ms.getD i 0).testBit j=true→∃e∈o.after.toList,Region.binds .any e=true∧(j=e.on∨(ms.getD e.on 0).testBit j=true)
 ord:∀(i:Nat) (o:Oper) (j:Nat) (p:Oper),ops[i]?=some o→ops[j]?=some p→j<i→(clash p.dst o.dst (jS ops p) (jS ops o) 0 0 || Bl (ts.getD j 0) (ts.getD i 0))=true→(ms.getD i 0).testBit j=true
section
variable {en:Nat→KG}
def CR(en:Nat→KG)(X:Nat→Bool):Nat→List Obj→List Obj
 | 0,ob=>ob
 | n+1,ob=>if X n then (match NZ (en n).t with
  | some k=>(CR en X n ob).set k ((en n).objs.getD k hole)
  | none=>CR en X n ob) else CR en X n ob
theorem rD(X:Nat→Bool):∀(n:Nat) (ob:List Obj),(CR en X n ob).length=ob.length
 | 0,_=>rfl
 | n+1,ob=>by
  simp only[CR]
  split
  ·split
   ·rw[List.length_set,rD X n ob]
   ·exact rD X n ob
  ·exact rD X n ob
theorem uL{X Y:Nat→Bool}:∀(n:Nat) (ob:List Obj),(∀j,j<n→X j=Y j)→CR en X n ob=CR en Y n ob
 | 0,_,_=>rfl
 | n+1,ob,h=>by simp only[CR];rw[h n (by omega),uL n ob (λj hj=>h j (by omega))]
theorem N8{X Y:Nat→Bool}{k:Nat}:∀(n:Nat) (ob:List Obj),(∀j,j<n→NZ (en j).t=some k→X j=Y j)→(CR en X n ob)[k]?=(CR en Y n ob)[k]?
 | 0,_,_=>rfl
 | n+1,ob,h=>by
  have ih:=N8 (X:=X) (Y:=Y) (k:=k) n ob (λj hj=>h j (by omega))
  have hl:(CR en X n ob).length=(CR en Y n ob).length:=by rw[rD,rD]
  simp only[CR]
  cases hw:NZ (en n).t with
  | none=>simp only[];split<;>split<;>exact ih
  | some k'=>
   simp only[]
   by_cases hk:k'=k
   ·subst hk
    rw[h n (by omega) hw]
    split
    ·rw[List.getElem?_set,List.getElem?_set];simp[hl]
    ·exact ih
   ·split<;>split<;> (try rw[List.getElem?_set,if_neg hk])<;> (try rw[List.getElem?_set,if_neg hk])<;>exact ih
theorem M4{i:Nat}:∀(n:Nat) (ob:List Obj),i≤n→CR en (λj=>decide (j<i)) n ob=CR en (λ_=>true) i ob
 | 0,_,h=>by have:i=0:=by omega
             subst this;rfl
 | n+1,ob,h=>by
  by_cases hi:i=n+1
  ·subst hi
   exact uL (n+1) ob λj hj=>by simp[hj]
  ·simp only[CR]
   rw[if_neg (by simp;omega)]
   exact M4 n ob (by omega)
theorem Xr{X:Nat→Bool}{i k:Nat}:∀(n:Nat) (ob:List Obj),i<n→X i=false→NZ (en i).t=some k→(∀j,i<j→j<n→X j=true→NZ (en j).t≠some k)→
  CR en (upd X i) n ob=(CR en X n ob).set k ((en i).objs.getD k hole)
 | 0,_,h,_,_,_=>by omega
 | n+1,ob,hi,hx,hw,hd=>by
  simp only[CR]
  by_cases hin:i=n
  ·subst hin
   simp only[hx,upd,beq_self_eq_true,Bool.or_true,if_true,Bool.false_eq_true,if_false,hw]
   rw[uL (en:=en) (X:=upd X i) (Y:=X) i ob (λj hj=>by simp[upd];omega)]
  ·have hu:upd X i n=X n:=by simp[upd];omega
   rw[hu]
   have ih:=Xr (X:=X) n ob (by omega) hx hw (λj h1 h2=>hd j h1 (by omega))
   split
   ·rename_i hn
    have:=hd n (by omega) (by omega) hn
    split
    ·rename_i k' hk'
     rw[hk']at this
     have hne:k≠k':=λe=>this (by rw[e])
     rw[ih,List.set_comm _ _ hne]
    ·exact ih
   ·exact ih
theorem Q8{X:Nat→Bool}{i:Nat}:∀(n:Nat) (ob:List Obj),NZ (en i).t=none→CR en (upd X i) n ob=CR en X n ob
 | 0,_,_=>rfl
 | n+1,ob,hw=>by
  have ih:=Q8 (X:=X) n ob hw
  simp only[CR]
  by_cases hin:n=i
  ·subst hin
   rw[hw,ih]
   simp
  ·have hu:upd X i n=X n:=by simp[upd,hin]
   rw[hu,ih]
end
def uM(ops:List Oper)(tr:List KG)(S:St)(A b:Nat)(X:Nat→Bool):St:=⟨Jg (rC ops) (aU tr) X ops.length S.tmps,if (decide (b<ops.length) && X b)=true then (aU tr b).objs else CR (aU tr) X b (S.objs++List.replicate A hole)⟩
theorem Xt{own:Nat→Bool}{ops:List Oper}{tr:List KG}{S0:St}(hst:∀i o,ops[i]?=some o→tV P D (own i) ops o (ng ops tr S0 (λ_=>true) i) (aU tr i))
  {b:Nat}(hbl:b≤ops.length) (hf:∀i,i<ops.length→i<b→CQ (aU tr i).t=true):∀i,i<b→(p9 (aU tr) (λ_=>true) i S0.objs).length≤(p9 (aU tr) (λ_=>true) (i+1) S0.objs).length∧
   ((NZ (aU tr i).t=none∧p9 (aU tr) (λ_=>true) (i+1) S0.objs=p9 (aU tr) (λ_=>true) i S0.objs)∨
    ∃k o1,NZ (aU tr i).t=some k∧(aU tr i).objs.getD k hole=o1∧
     ((k<(p9 (aU tr) (λ_=>true) i S0.objs).length∧p9 (aU tr) (λ_=>true) (i+1) S0.objs=(p9 (aU tr) (λ_=>true) i S0.objs).set k o1)∨
      (k=(p9 (aU tr) (λ_=>true) i S0.objs).length∧p9 (aU tr) (λ_=>true) (i+1) S0.objs=p9 (aU tr) (λ_=>true) i S0.objs++[o1]))):=by
 intro i hib
 have hi:i<ops.length:=by omega
 have h:=hst i ops[i] (List.getElem?_eq_getElem hi)
 have hfi:=hf i hi hib
 have oG:(ng ops tr S0 (λ_=>true) i).objs=p9 (aU tr) (λ_=>true) i S0.objs:=rfl
 have hX:p9 (aU tr) (λ_=>true) (i+1) S0.objs=if co (aU tr i).t=2 then (aU tr i).objs else p9 (aU tr) (λ_=>true) i S0.objs:=by
  simp only[p9,Bool.true_and,beq_iff_eq]
 rcases h with ⟨_,_,_,_,AR⟩ | ⟨_,_,_,h4⟩
 ·rw[oG]at AR
  rcases Ga hfi with h0 | ⟨k,hk⟩ | ⟨k,hk⟩
  ·rw[hX,h0,if_neg (by decide)]
   exact⟨Nat.le_refl _,.inl ⟨Q7,rfl⟩⟩
  ·rw[hX,hk,agl,if_neg (by decide)]
   exact⟨Nat.le_refl _,.inl ⟨aa3 k,rfl⟩⟩
  ·rw[hX,if_pos (by rw[hk];exact Xm k)]
   rcases AR.wr k hk with ⟨o1,g1,g2,_⟩ | ⟨g1,o1,mk,_,_,g2,_⟩
   ·rw[g2]
    refine⟨by simp,.inr ⟨k,o1,by rw[hk];exact UJ k,?_,.inl ⟨g1,rfl⟩⟩⟩
    rw[List.getD_eq_getElem?_getD,List.getElem?_set];simp[g1]
   ·rw[g2]
    refine⟨by simp,.inr ⟨k,o1,by rw[hk];exact UJ k,?_,.inr ⟨g1,rfl⟩⟩⟩
    rw[List.getD_eq_getElem?_getD,g1];simp
 ·rw[hX,h4,if_neg (by decide)]
  exact⟨Nat.le_refl _,.inl ⟨Q7,rfl⟩⟩
theorem Xu{own:Nat→Bool}{ops:List Oper}{tr:List KG}{S0:St}{A:Nat}(hst:∀i o,ops[i]?=some o→tV P D (own i) ops o (ng ops tr S0 (λ_=>true) i) (aU tr i))
  {b:Nat}(hbl:b≤ops.length) (hf:∀i,i<ops.length→i<b→CQ (aU tr i).t=true) (hA:(p9 (aU tr) (λ_=>true) b S0.objs).length=S0.objs.length+A) :
  ∀i,i≤b→(p9 (aU tr) (λ_=>true) i S0.objs).length≤S0.objs.length+A∧
   CR (aU tr) (λ_=>true) i (S0.objs++List.replicate A hole)=p9 (aU tr) (λ_=>true) i S0.objs++List.replicate (S0.objs.length+A-(p9 (aU tr) (λ_=>true) i S0.objs).length) hole:=by
 have one:=Xt hst hbl hf
 have mono:∀d i,i+d=b→(p9 (aU tr) (λ_=>true) i S0.objs).length≤S0.objs.length+A:=by
  intro d
  induction d with
  | zero=>intro i hi;rw[Nat.add_zero]at hi;rw[hi,hA];exact Nat.le_refl _
  | succ d ih=>intro i hi;exact Nat.le_trans (one i (by omega)).1 (ih (i+1) (by omega))
 intro i
 induction i with
 | zero=>intro _;exact⟨by simp[p9],by simp[CR,p9]⟩
 | succ i ih=>
  intro hi
  obtain⟨h1,h2⟩:=ih (by omega)
  have hle:=mono (b-(i+1)) (i+1) (by omega)
  refine⟨hle,?_⟩
  simp only[CR,if_true]
  rcases (one i (by omega)).2 with ⟨g1,g2⟩ | ⟨k,o1,g1,g0,⟨g2,g3⟩ | ⟨g2,g3⟩⟩
  ·rw[g1,g2];exact h2
  ·rw[g1]
   simp only[]
   rw[g0,h2,g3,List.set_append_left _ _ g2,List.length_set]
  ·rw[g1]
   simp only[]
   rw[g3,List.length_append,List.length_singleton]at hle
   rw[g0,h2,g3,List.set_append_right _ _ (by omega),List.length_append,List.length_singleton]
   have:S0.objs.length+A-(p9 (aU tr) (λ_=>true) i S0.objs).length=(S0.objs.length+A-((p9 (aU tr) (λ_=>true) i S0.objs).length+1))+1:=by omega
   rw[this,List.replicate_succ,g2,Nat.sub_self,List.set_cons_zero,List.append_assoc]
   rfl
theorem UK{own:Nat→Bool}{ops:List Oper}{ts:List Nat}{ms:List Nat}{b:Nat}{tr:List KG}{S0:St}{A:Nat}(hD:∀t,je P t (D t))(hok:N7 ops ts ms b)
  (hts:∀i,i<ops.length→ts.getD i 0=(aU tr i).t)
  (hst:∀i o,ops[i]?=some o→tV P D (own i) ops o (ng ops tr S0 (λ_=>true) i) (aU tr i))
  (hA:(p9 (aU tr) (λ_=>true) b S0.objs).length=S0.objs.length+A)
  {X:Nat→Bool}{i:Nat}{o:Oper}(ho:ops[i]?=some o) (hX:X i=false) (hcl:∀j,j<ops.length→X j=true→∀x,(ms.getD j 0).testBit x=true→X x=true)
  (hrd:∀x,(ms.getD i 0).testBit x=true→X x=true)
  {base av:Nat→Prop}{w0:Wz}{blk:Nat→Option Nat}{a:Act}{w:World}(R:Rel base av w0 (uM ops tr S0 A b X) blk a w)
  {Q:Exit→Act→World→Prop}{K:Act→World→Prop}(hK:∀aA a' w',Rel base av w0 (uM ops tr S0 A b (upd X i)) aA a' w'→K a' w') :
  wpOpIn (GZ l) 0 P ops.toArray Q i K a w:=by
 have hi:i<ops.length:=(List.getElem?_eq_some_iff.1 ho).1
 have hbl:=hok.bl
 have hdst:rC ops i=o.dst:=by simp[rC,ho]
 have NY:∀j,j<ops.length→∃p,ops[j]?=some p∧rC ops j=p.dst:=λj hj=>⟨ops[j],List.getElem?_eq_getElem hj,by simp[rC,List.getElem?_eq_getElem hj]⟩
 have hf:∀j,j<ops.length→j<b→CQ (aU tr j).t=true:=λj hj hb=>by rw[←hts j hj];exact hok.fine j hj hb
 have before:∀j p,ops[j]?=some p→j<i→(clash p.dst o.dst (jS ops p) (jS ops o) 0 0 || Bl (aU tr j).t (aU tr i).t)=true→X j=true:=
  λj p hp hj hc=>hrd j (hok.ord i o j p ho hp hj (by rw[hts j (List.getElem?_eq_some_iff.1 hp).1,hts i hi];exact hc))
 have behind:∀j p,ops[j]?=some p→i<j→(clash o.dst p.dst (jS ops o) (jS ops p) 0 0 || Bl (aU tr i).t (aU tr j).t)=true→X j=false:=λj p hp hj hc=>by
  cases hx:X j with
  | false=>rfl
  | true=>
   have hjl:=(List.getElem?_eq_some_iff.1 hp).1
   have:=hcl j hjl hx i (hok.ord j p i o hp ho hj (by rw[hts j hjl,hts i hi];exact hc))
   rw[hX]at this;cases this
 have Xq:∀x∈jS ops o,(ng ops tr S0 (λ_=>true) i).tmps.getD x .dead=(uM ops tr S0 A b X).tmps.getD x .dead:=by
  intro x hx
  simp only[ng,uM]
  rw[←E_ (dst:=rC ops) ops.length S0.tmps (Nat.le_of_lt hi)]
  refine Jh _ _ λj hj hd=>?_
  obtain⟨p,hp,hpd⟩:=NY j hj
  rw[hpd]at hd
  rcases Nat.lt_trichotomy j i with hji | hji | hji
  ·rw[before j p hp hji (by rw[Jk hd hx];rfl)];simp[hji]
  ·subst hji;rw[hX];simp
  ·rw[behind j p hp hji (by rw[F_ hd hx];rfl)];simp;omega
 have hadd:qz o.dst (aU tr i).r (uM ops tr S0 A b X).tmps=(uM ops tr S0 A b (upd X i)).tmps:=by
  simp only[uM]
  rw[←hdst]
  refine NT _ _ hi hX λj hj hjn hxj x hx hd=>?_
  obtain⟨p,hp,hpd⟩:=NY j hjn
  rw[hpd]at hd
  rw[hdst]at hx
  have:=behind j p hp hj (by rw[M0 hx hd];rfl)
  rw[this]at hxj;cases hxj
 obtain⟨T,hT⟩:∃T,T=p9 (aU tr) (λ_=>true) i S0.objs:=⟨_,rfl⟩
 obtain⟨B,hB⟩:∃B,B=(uM ops tr S0 A b X).objs:=⟨_,rfl⟩
 have hnb:(aU tr i).t=0∨i<b→i≠b:=λh e=>by
  rcases h with h | h
  ·have:=hok.two (by omega)
   rw[←e,hts i hi,h]at this;cases this
  ·omega
 have aa4:i≠b→NZ (aU tr i).t=none→(uM ops tr S0 A b (upd X i)).objs=B:=λhne hw=>by
  rw[hB]
  have hu:upd X i b=X b:=by simp[upd];omega
  simp only[uM,hu,Q8 _ _ hw]
 have hput:∀objs',(objs'=(uM ops tr S0 A b (upd X i)).objs)→St.put ⟨(uM ops tr S0 A b X).tmps,objs'⟩ o.dst (aU tr i).r=uM ops tr S0 A b (upd X i):=by
  rintro objs' rfl
  cases hd:o.dst with
  | none=>rw[hd]at hadd;simp only[qz]at hadd;simp only[St.put];rw[hadd]
  | some d=>rw[hd]at hadd;simp only[qz]at hadd;simp only[St.put];rw[hadd]
 have Q9:(uM ops tr S0 A b X).objs=B:=hB.symm
 have hTo:(ng ops tr S0 (λ_=>true) i).objs=T:=hT.symm
 have hev:∀x∈o.op.operands,(ng ops tr S0 (λ_=>true) i).ev x=(uM ops tr S0 A b X).ev x:=by
  intro x hm
  cases x with
  | tmp t=>exact Xq t (List.mem_append_left _ (List.mem_filterMap.2 ⟨.tmp t,by simpa using hm,rfl⟩))
  | _=>rfl
 have hg:jE ops o.guard (ng ops tr S0 (λ_=>true) i).tmps=jE ops o.guard (uM ops tr S0 A b X).tmps:=by
  cases hgd:o.guard with
  | none=>rfl
  | some g=>
   obtain⟨j,want⟩:=g
   simp only[jE]
   cases hd:(ops[j]?).bind (·.dst) with
   | none=>rfl
   | some d=>
    simp only[]
    rw[Xq d (List.mem_append_right _ (by rw[hgd];simp[hd]))]
 unfold wpOpIn
 have h0:ops.toArray[i]?=some o:=by simpa using ho
 rw[h0]
 simp only[]
 rcases hst i o ho with ⟨h1,_,hall,h4,AR⟩ | ⟨h1,h2,_,h3⟩
 ·rw[hg]at h1
  rw[if_pos (qy R h1)]
  rw[hTo]at AR hall
  have run:∀(O2:List Obj) (r2:PV),(∀K:KT,(∀t,K r2 O2 t)→KF P D (own i) (ng ops tr S0 (λ_=>true) i).ev B o.op K)→r2=(aU tr i).r→O2=(uM ops tr S0 A b (upd X i)).objs→
      o.wpIn (GZ l) 0 P a w K Q:=by
   intro O2 r2 hop hr2 hO2
   have h5:=zq hev (hop (λr objs' _=>r=r2∧objs'=O2) (λ_=>⟨rfl,rfl⟩))
   rw[←Q9]at h5
   refine CJ l hD R h5 λr objs' t v w' aA hr R' hv=>?_
   obtain⟨rfl,rfl⟩:=hr
   have:=R'.put hv o.dst
   rw[hr2,hput objs' hO2]at this
   exact hK _ _ _ this
  have zero:(aU tr i).t=0→o.wpIn (GZ l) 0 P a w K Q:=λht=>run B _ (λK hk=>h4 ht B K (hk 0)) rfl (aa4 (hnb (.inl ht)) (by rw[ht];rfl)).symm
  rcases Nat.lt_trichotomy i b with hib | hib | hib
  rotate_left 1
  ·
   subst hib
   have hBT:B=T:=by
    rw[hB]
    simp only[uM,hX,Bool.and_false,Bool.false_eq_true,if_false]
    obtain⟨_,aa5⟩:=Xu hst hbl hf hA i (Nat.le_refl _)
    rw[hA,Nat.sub_self,List.replicate_zero,List.append_nil]at aa5
    rw[hT,←aa5]
    refine List.ext_getElem? λk=>N8 _ _ λj hj hw=>?_
    refine hrd j (hok.bar hi j hj λhz=>?_)
    rw[hts j (by omega)]at hz
    rw[hz]at hw;cases hw
   refine run (aU tr i).objs _ (λK hk=>by rw[hBT];exact hall K (hk _)) rfl ?_
   simp[uM,upd,hi]
  ·exact zero (by rw[←hts i hi];exact hok.rest i hi hib)
  by_cases hXb:(decide (b<ops.length) && X b)=true
  ·
   refine zero (Decidable.of_not_not λhz=>?_)
   simp only[and_eq_true,decide_eq_true_eq]at hXb
   have:=hcl b hXb.1 hXb.2 i (hok.bar hXb.1 i hib (by rw[hts i hi];exact hz))
   rw[hX]at this;cases this
  have hBe:B=CR (aU tr) X b (S0.objs++List.replicate A hole):=by
   rw[hB];simp only[uM];rw[if_neg hXb]
  obtain⟨hle,aa5⟩:=Xu hst hbl hf hA i (Nat.le_of_lt hib)
  rw[←hT]at hle aa5
  have slot:∀k,((aU tr i).t=4+2*k∨(aU tr i).t=5+2*k)→B[k]?=(T++List.replicate (S0.objs.length+A-T.length) hole)[k]?:=by
   intro k hk
   rw[hBe,←aa5,←M4 b _ (Nat.le_of_lt hib)]
   refine N8 _ _ λj hj hw=>?_
   obtain⟨p,hp,hpd⟩:=NY j (by omega)
   rcases Nat.lt_trichotomy j i with hji | hji | hji
   ·rw[before j p hp hji (by rw[Fa (.inl ⟨hw,hk⟩),Bool.or_true])];simp[hji]
   ·subst hji;rw[hX];simp
   ·rw[behind j p hp hji (by rw[Fa (.inr ⟨hw,hk⟩),Bool.or_true])];simp;omega
  have hwr:∀k,NZ (aU tr i).t=some k→((aU tr i).t=4+2*k∨(aU tr i).t=5+2*k)→(uM ops tr S0 A b (upd X i)).objs=B.set k ((aU tr i).objs.getD k hole):=by
   intro k hw hk
   have hu:upd X i b=X b:=by simp[upd];omega
   simp only[uM,hu]
   rw[if_neg hXb,hBe]
   refine Xr _ _ hib hX hw λj hj hjn hxj hwj=>?_
   obtain⟨p,hp,hpd⟩:=NY j (by omega)
   have:=behind j p hp hj (by rw[Fa (.inr ⟨hwj,hk⟩),Bool.or_true])
   rw[this]at hxj;cases hxj
  rcases Ga (hf i hi hib) with ht | ⟨k,hk⟩ | ⟨k,hk⟩
  ·exact zero ht
  ·obtain⟨_,g1,g2⟩:=AR.rd k hk
   have hs:=slot k (.inl hk)
   rw[List.getElem?_append_left g1]at hs
   exact run B _ (λK hk'=>g2 B K hs (hk' _)) rfl (aa4 (by omega) (by rw[hk];exact aa3 k)).symm
  ·have hs:=slot k (.inr hk)
   have hw:=hwr k (by rw[hk];exact UJ k) (.inr hk)
   rcases AR.wr k hk with ⟨o1,g1,g2,g3⟩ | ⟨g1,o1,mk,hm,gr,g2,hl1,hv1,g3⟩
   ·rw[List.getElem?_append_left g1]at hs
    have hc:(aU tr i).objs.getD k hole=o1:=by
     rw[g2,List.getD_eq_getElem?_getD,List.getElem?_set];simp[g1]
    exact run (B.set k o1) _ (λK hk'=>g3 B K hs (hk' _)) rfl (by rw[hw,hc])
   ·have hc:(aU tr i).objs.getD k hole=o1:=by
      rw[g2,List.getD_eq_getElem?_getD,g1];simp
    have hlen:(p9 (aU tr) (λ_=>true) (i+1) S0.objs).length≤S0.objs.length+A:=(Xu hst hbl hf hA (i+1) hib).1
    have hX1:p9 (aU tr) (λ_=>true) (i+1) S0.objs=T++[o1]:=by
     simp only[p9,Bool.true_and,beq_iff_eq]
     rw[if_pos (by rw[hk];exact Xm k),g2]
    rw[hX1,List.length_append,List.length_singleton]at hlen
    have agm:B[k]?=some hole:=by
     rw[hs,g1,List.getElem?_append_right (Nat.le_refl _),Nat.sub_self,List.getElem?_replicate,if_pos (by omega)]
    have h5:=zq hev (g3 B (λr objs' _=>r=mk B.length∧objs'=B++[o1]) ⟨rfl,rfl⟩)
    rw[←Q9]at h5
    refine MW l hD R h5 λr objs' t v w' aA hr R' hv hn=>?_
    obtain⟨rfl,rfl⟩:=hr
    rw[Q9]at R' hv hn
    have R0:Rel base av w0 ⟨(uM ops tr S0 A b X).tmps,B⟩ blk a w:=by rw[←Q9];exact R
    obtain⟨jr,R2,hv2⟩:=R0.fill agm hl1 hv1 R' hn hm hv
    have:=R2.put hv2 o.dst
    rw[←gr,hput _ (by rw[hw,hc])]at this
    exact hK _ _ _ this
 ·rw[hg]at h1
  rw[if_neg (by rw[qy R h1];simp)]
  refine⟨λ_ _=>trivial,?_⟩
  have:=R.put (zu w _ _ blk) o.dst
  rw[←h2]at this
  have hs:=hput (uM ops tr S0 A b X).objs (by rw[Q9,aa4 (hnb (.inl h3)) (by rw[h3];rfl)])
  rw[show (uM ops tr S0 A b X).put o.dst (aU tr i).r=St.put ⟨(uM ops tr S0 A b X).tmps,(uM ops tr S0 A b X).objs⟩ o.dst (aU tr i).r from rfl,hs]at this
  exact hK _ _ _ this
theorem Q_{own:Nat→Bool}{ops:List Oper}{ts:List Nat}{ms:List Nat}{b:Nat}{tr:List KG}{S0:St}{A:Nat}(hD:∀t,je P t (D t))(hok:N7 ops ts ms b)
  (hts:∀i,i<ops.length→ts.getD i 0=(aU tr i).t)
  (hst:∀i o,ops[i]?=some o→tV P D (own i) ops o (ng ops tr S0 (λ_=>true) i) (aU tr i))
  (hA:(p9 (aU tr) (λ_=>true) b S0.objs).length=S0.objs.length+A)
  {base av:Nat→Prop}{w0:Wz}{Q:Exit→Act→World→Prop}
  (hQ:∀aA a' w',Rel base av w0 (uM ops tr S0 A b (λ_=>true)) aA a' w'→Q .normal a' w') :
  ∀(fuel:Nat) (L:Array Bool) (blk:Nat→Option Nat) (a:Act) (w:World),L.size=ops.length→
   (∀j,j<ops.length→L.getD j false=true→∀x,(ms.getD j 0).testBit x=true→L.getD x false=true)→cnt (λj=>L.getD j false) ops.length≤fuel→
   Rel base av w0 (uM ops tr S0 A b (λj=>L.getD j false)) blk a w→wpAnyIn (GZ l) 0 P .any ops.toArray Q fuel L a w:=by
 have full:∀(L:Array Bool),L.size=ops.length→Region.ready .any ops.toArray L=[]→∀i,i<ops.length→L.getD i false=true:=by
  intro L hsz hr i
  induction i using Nat.strongRecOn with
  | _ i ih=>
   intro hi
   cases hx:L.getD i false with
   | true=>rfl
   | false=>
    have hmem:i∈Region.ready .any ops.toArray L:=by
     simp only[Region.ready,List.mem_filter,mem_range,and_eq_true]
     refine⟨by simpa using hi,?_,?_⟩
     ·have hil:i<L.size:=by omega
      rw[Array.getD_eq_getD_getElem?,Array.getElem?_eq_getElem hil,getD_some]at hx ⊢
      rw[hx];rfl
     ·have ho:ops.toArray[i]?=some ops[i]:=by simp[hi]
      rw[ho]
      simp only[map_some,getD_some]
      rw[Array.all_eq_true']
      intro e he
      cases hbd:Region.binds .any e with
      | false=>simp
      | true=>
       have hb:=hok.back i ops[i] (List.getElem?_eq_getElem hi) e (by simpa using he) hbd
       rw[ih e.on hb (by omega)];simp
    rw[hr]at hmem
    simp at hmem
 have step:∀(L:Array Bool) (i:Nat),L.size=ops.length→i∈Region.ready .any ops.toArray L→∃o,ops[i]?=some o∧L.getD i false=false∧∀e∈o.after.toList,Region.binds .any e=true→L.getD e.on false=true:=by
  intro L i hsz hm
  simp only[Region.ready,List.mem_filter,mem_range,and_eq_true]at hm
  obtain⟨hi,h1,h2⟩:=hm
  have hi:i<ops.length:=by simpa using hi
  have ho:ops.toArray[i]?=some ops[i]:=by simp[hi]
  rw[ho]at h2
  simp only[map_some,getD_some]at h2
  rw[Array.all_eq_true']at h2
  refine⟨ops[i],List.getElem?_eq_getElem hi,?_,λe he hb=>?_⟩
  ·have hil:i<L.size:=by omega
   rw[Array.getD_eq_getD_getElem?,Array.getElem?_eq_getElem hil,getD_some]at h1 ⊢
   simpa using h1
  ·have:=h2 e (by simpa using he)
   rw[hb]at this
   simpa using this
 intro fuel
 induction fuel with
 | zero=>
  intro L blk a w hsz hcl hc R
  have hall:=Ji (X:=λj=>L.getD j false) ops.length (by omega)
  have hst':uM ops tr S0 A b (λj=>L.getD j false)=uM ops tr S0 A b (λ_=>true):=by
   have hbl:=hok.bl
   simp only[uM]
   rw[oJ ops.length _ hall,uL b _ λj hj=>hall j (by omega)]
   by_cases hbb:b<ops.length
   ·have e:L.getD b false=true:=hall b hbb
    simp only[e]
   ·simp[hbb]
  refine⟨?_,hQ blk a w (hst' ▸ R)⟩
  cases hr:Region.ready .any ops.toArray L with
  | nil=>rfl
  | cons i is=>
   obtain⟨o,ho,hx,_⟩:=step L i hsz (by rw[hr];exact List.mem_cons_self)
   rw[hall i (List.getElem?_eq_some_iff.1 ho).1]at hx
   cases hx
 | succ fuel ih=>
  intro L blk a w hsz hcl hc R
  refine⟨λhr=>?_,λi hm=>?_⟩
  ·have hall:=full L hsz hr
   have hst':uM ops tr S0 A b (λj=>L.getD j false)=uM ops tr S0 A b (λ_=>true):=by
    have hbl:=hok.bl
    simp only[uM]
    rw[oJ ops.length _ hall,uL b _ λj hj=>hall j (by omega)]
    by_cases hbb:b<ops.length
    ·have e:L.getD b false=true:=hall b hbb
     simp only[e]
    ·simp[hbb]
   exact hQ blk a w (hst' ▸ R)
  ·obtain⟨o,ho,hx,hrd⟩:=step L i hsz hm
   have hi:i<ops.length:=(List.getElem?_eq_some_iff.1 ho).1
   have aa1:∀x,(ms.getD i 0).testBit x=true→L.getD x false=true:=by
    intro x hb
    obtain⟨e,h1,h2,h3⟩:=hok.mask i o ho x hb
    have he:=hrd e h1 h2
    rcases h3 with rfl | h3
    ·exact he
    ·exact hcl e.on (by have:=hok.back i o ho e h1 h2;omega) he x h3
   have aa2:∀j,(L.setIfInBounds i true).getD j false=upd (λj=>L.getD j false) i j:=by
    intro j
    rw[Array.getD_eq_getD_getElem?,Array.getElem?_setIfInBounds]
    simp only[upd]
    by_cases hij:i=j
    ·subst hij
     rw[if_pos rfl,if_pos (by omega)];simp
    ·rw[if_neg hij,Array.getD_eq_getD_getElem?]
     have:(j==i)=false:=by simp;omega
     rw[this,Bool.or_false]
   have hfun:(λj=>(L.setIfInBounds i true).getD j false)=upd (λj=>L.getD j false) i:=funext aa2
   refine UK (X:=λj=>L.getD j false) hD hok hts hst hA ho hx hcl aa1 R λaA a' w' R'=>?_
   refine ih _ aA a' w' (by simpa using hsz) ?_ ?_ (by rw[hfun];exact R')
   ·intro j hj hb x hbx
    rw[aa2]at hb ⊢
    simp only[upd,or_eq_true,beq_iff_eq]at hb ⊢
    rcases hb with hb | rfl
    ·exact .inl (hcl j hj hb x hbx)
    ·exact .inl (aa1 x hbx)
   ·rw[hfun]
    have:=NV (X:=λj=>L.getD j false) ops.length hi hx
    omega
def zw(ops:List Oper)(ts:List Nat)(b:Nat):Bool:=
 let ms:=masks ops []
 let ls:=ops.map (jS ops)
 ((List.range ops.length).all λi=>if i<b then CQ (ts.getD i 0) else if i=b then ts.getD i 0==2 else ts.getD i 0==0) &&
 decide (b≤ops.length) &&
 (decide (b=ops.length) || (List.range b).all λj=>ts.getD j 0==0 || (ms.getD b 0).testBit j) &&
 (List.range ops.length).all λi=>
  match ops[i]? with
  | none=>true
  | some o=>
   (o.after.toList.all λe=>!Region.binds .any e || decide (e.on<i)) &&
   (ms.getD i 0 &&& E9 ms o==ms.getD i 0) &&
   (List.range i).all λj=>
    !(clash ((ops[j]?).bind (·.dst)) o.dst (ls.getD j []) (ls.getD i []) 0 0 || Bl (ts.getD j 0) (ts.getD i 0)) || (ms.getD i 0).testBit j
theorem N9{ops:List Oper}{ts:List Nat}{b:Nat}(h:zw ops ts b=true):N7 ops ts (masks ops []) b:=by
 unfold zw at h
 simp only[and_eq_true,all_eq_true,mem_range]at h
 obtain⟨⟨⟨AR,hbl⟩,hbar⟩,h⟩:=h
 have hbl:=of_decide_eq_true hbl
 have hh:∀i o,ops[i]?=some o→_:=λi o ho=>by
  have:=h i (List.getElem?_eq_some_iff.1 ho).1
  rw[ho]at this
  simp only[and_eq_true,all_eq_true,mem_range,beq_iff_eq]at this
  exact this
 refine⟨λi hi hb=>?_,hbl,λhb=>?_,λhb j hj hz=>?_,λi hi hb=>?_,λi o ho e he hb=>by simpa[hb] using (hh i o ho).1.1 e he,λi o ho j hj=>?_,λi o j p ho hp hji hc=>?_⟩
 ·have:=AR i hi;rwa[if_pos hb]at this
 ·have:=AR b hb
  rw[if_neg (by omega),if_pos rfl]at this
  simpa using this
 ·simp only[or_eq_true,decide_eq_true_eq,all_eq_true,mem_range,beq_iff_eq]at hbar
  rcases hbar with hbar | hbar
  ·omega
  ·rcases hbar j hj with h1 | h1
   ·exact absurd h1 hz
   ·exact h1
 ·have:=AR i hi
  rw[if_neg (by omega),if_neg (by omega)]at this
  simpa using this
 ·refine Jj ?_
  have h2:=(hh i o ho).1.2
  rw[←h2,Nat.testBit_and]at hj
  simp only[and_eq_true]at hj
  exact hj.2
 ·have h3:=(hh i o ho).2 j hji
  have hlt:=(List.getElem?_eq_some_iff.1 hp).1
  have e1:(ops.map (jS ops)).getD j []=jS ops p:=by rw[List.getD_eq_getElem?_getD,List.getElem?_map,hp];rfl
  have e2:(ops.map (jS ops)).getD i []=jS ops o:=by rw[List.getD_eq_getElem?_getD,List.getElem?_map,ho];rfl
  rw[e1,e2,hp]at h3
  simp only[Option.bind_some,hc,Bool.not_true,Bool.false_or]at h3
  exact h3
theorem PW.agn {E:Env}{id:Nat}{ops:List Oper}{Q:Exit→St→Prop}{S:St}(own:Nat→Bool)(hD:∀t,je P t (D t))(hm:P.follows .mixedOrders=true)
  (h:rz P D own ops ops 0 S [] λS' ts=>(vZ ops ts=true∨∃b,zw ops ts b=true)∧Q .normal S'):PW P l E (.region id ops.toArray true) Q S:=by
 intro base av V hE blk a w ⟨w0,hV,R⟩
 obtain⟨tr,S',h1,h2,h3⟩:=nK _ _ _ _ _ h
 obtain⟨h4,h5⟩:=xZ (S0:=S) (tr0:=tr) ops 0 S tr S' h1 (λj=>by simp) (λj=>by simp) rfl
 refine wpIn_region_any hm ?_
 have R':Rel base av w0 S blk a { w with drawn:=w.drawn+1 }:=R.grew (.same rfl)
 have hcn:∀(X:Nat→Bool) n,cnt X n≤n:=by
  intro X n
  induction n with
  | zero=>exact Nat.le_refl _
  | succ n ih=>simp only[cnt];split<;>omega
 have hrep:∀j,(Array.replicate ops.toArray.size false).getD j false=false:=by
  intro j
  rw[Array.getD_eq_getD_getElem?,Array.getElem?_replicate]
  split<;>rfl
 have htr:tr.length=ops.length:=by
  clear h2 h3 h4 h5 h
  have:∀(sw:List Oper) (k:Nat) (S:St) (tr:List KG) (S':St),Trace P D own ops sw k S tr S'→tr.length=sw.length:=by
   intro sw
   induction sw with
   | nil=>rintro k S tr S' ⟨rfl,_⟩;rfl
   | cons o sw ih=>
    rintro k S tr S' ⟨e,tr',rfl,_,h⟩
    simp[ih _ _ _ _ h]
  exact this _ _ _ _ _ h1
 have hts:∀i,i<ops.length→(tr.map (·.t)).getD i 0=(aU tr i).t:=by
  intro i hi
  have hil:i<tr.length:=by omega
  simp[aU,List.getD_eq_getElem?_getD,List.getElem?_map,List.getElem?_eq_getElem hil]
 rw[Nat.zero_add]at h5
 subst h5
 have hst:∀i o,ops[i]?=some o→tV P D (own i) ops o (ng ops tr S (λ_=>true) i) (aU tr i):=λi o ho=>h4 i o (Nat.zero_le _) ho
 have hc:=hcn (λj=>(Array.replicate ops.toArray.size false).getD j false) ops.length
 have hsz:ops.toArray.size=ops.length:=by simp
 have hrs:(Array.replicate ops.toArray.size false).size=ops.length:=by simp
 have hQ:∀aA a' w',Rel base av w0 (ng ops tr S (λ_=>true) ops.length) aA a' w'→∃S' nL,Q .normal S'∧sF base av V S' nL a' w':=
  λaA a' w' R''=>⟨_,aA,h3,w0,hV,R''⟩
 have hcl:∀j,j<ops.length→(Array.replicate ops.toArray.size false).getD j false=true→∀x,((masks ops []).getD j 0).testBit x=true→(Array.replicate ops.toArray.size false).getD x false=true:=by
  intro j _ hb
  rw[hrep]at hb;cases hb
 have e1:∀(L:Array Bool),(∀j,L.getD j false=false)→∀n tm,Jg (rC ops) (aU tr) (λj=>L.getD j false) n tm=tm:=by
  intro L hL n tm
  induction n with
  | zero=>rfl
  | succ n ih=>simp only[Jg];rw[if_neg (by rw[hL n];simp)];exact ih
 rcases h2 with h2 | ⟨b,h2⟩
 ·have hR:∀(L:Array Bool),(∀j,L.getD j false=false)→ng ops tr S (λj=>L.getD j false) ops.length=S:=by
    intro L hL
    have e2:∀n ob,p9 (aU tr) (λj=>L.getD j false) n ob=ob:=by
     intro n ob
     induction n with
     | zero=>rfl
     | succ n ih=>simp only[p9];rw[if_neg (by rw[hL n];simp)];exact ih
    simp only[ng,e1 L hL,e2]
  have R1:Rel base av w0 (ng ops tr S (λj=>(Array.replicate ops.toArray.size false).getD j false) ops.length) blk a { w with drawn:=w.drawn+1 }:=by rw[hR _ hrep];exact R'
  have h2':vZ ops (tr.map (·.t))=true:=h2
  generalize Array.replicate ops.toArray.size false=L at *
  exact Jl (Q:=λe a' w'=>∃S' aA,Q e S'∧sF base av V S' aA a' w') hD (F9 h2') hts hst hQ ops.toArray.size L blk a _ hrs hcl (by rw[hsz];exact hc) R1
 ·have h2':=N9 h2
  have hbl:=h2'.bl
  have hf:∀i,i<ops.length→i<b→CQ (aU tr i).t=true:=λi hi hb=>by rw[←hts i hi];exact h2'.fine i hi hb
  have mono:∀i,i≤b→S.objs.length≤(p9 (aU tr) (λ_=>true) i S.objs).length:=by
   intro i
   induction i with
   | zero=>intro _;exact Nat.le_refl _
   | succ i ih=>intro hi;exact Nat.le_trans (ih (by omega)) (Xt hst hbl hf i (by omega)).1
  obtain⟨A,hA⟩:∃A,(p9 (aU tr) (λ_=>true) b S.objs).length=S.objs.length+A:=⟨(p9 (aU tr) (λ_=>true) b S.objs).length-S.objs.length,by have:=mono b (Nat.le_refl _);omega⟩
  obtain⟨aa6,R0⟩:=R'.holes A
  have hR:∀(L:Array Bool),(∀j,L.getD j false=false)→uM ops tr S A b (λj=>L.getD j false)=⟨S.tmps,S.objs++List.replicate A hole⟩:=by
   intro L hL
   have e2:∀n ob,CR (aU tr) (λj=>L.getD j false) n ob=ob:=by
    intro n ob
    induction n with
    | zero=>rfl
    | succ n ih=>simp only[CR];rw[if_neg (by rw[hL n];simp)];exact ih
   simp only[uM,e1 L hL,e2,hL b,Bool.and_false,Bool.false_eq_true,if_false]
  have R1:Rel base av w0 (uM ops tr S A b (λj=>(Array.replicate ops.toArray.size false).getD j false)) aa6 a { w with drawn:=w.drawn+1 }:=by rw[hR _ hrep];exact R0
  have hend:uM ops tr S A b (λ_=>true)=ng ops tr S (λ_=>true) ops.length:=by
   have h1:=(Xu hst hbl hf hA b (Nat.le_refl _)).2
   rw[hA,Nat.sub_self,List.replicate_zero,List.append_nil]at h1
   have up:∀d n,b+1≤n→n+d=ops.length→p9 (aU tr) (λ_=>true) ops.length S.objs=p9 (aU tr) (λ_=>true) n S.objs:=by
    intro d
    induction d with
    | zero=>intro n _ hd;rw[←hd];rfl
    | succ d ih=>
     intro n hn hd
     rw[ih (n+1) (by omega) (by omega)]
     have hz:(aU tr n).t=0:=by rw[←hts n (by omega)];exact h2'.rest n (by omega) (by omega)
     simp only[p9,hz]
     rw[if_neg (by decide)]
   simp only[uM,ng,Bool.and_true,decide_eq_true_eq]
   by_cases hbb:b<ops.length
   ·rw[if_pos hbb,up (ops.length-(b+1)) (b+1) (Nat.le_refl _) (by omega)]
    have h22:(aU tr b).t=2:=by rw[←hts b hbb];exact h2'.two hbb
    simp only[p9,h22]
    rw[if_pos (by decide)]
   ·have:b=ops.length:=by omega
    subst this
    rw[if_neg hbb,h1]
  have hQ2:∀aA a' w',Rel base av w0 (uM ops tr S A b (λ_=>true)) aA a' w'→∃S' nL,Q .normal S'∧sF base av V S' nL a' w':=
   λaA a' w' R''=>hQ aA a' w' (hend ▸ R'')
  generalize Array.replicate ops.toArray.size false=L at *
  exact Q_ (Q:=λe a' w'=>∃S' aA,Q e S'∧sF base av V S' aA a' w') hD h2' hts hst hA hQ2 ops.toArray.size L aa6 a _ hrs hcl (by rw[hsz];exact hc) R1
end Lp
namespace Lp
open Go
open List (map_congr_left map_id)
open Option (map_some)
def PV.bL (f:PV→PV):PV→PV
 | .agg cs=>.agg (cs.map f)
 | p=>f p
theorem CS{p:PV}(h:p.isAgg=false):p.cells=[p]:=by cases p<;>first | rfl | (simp[PV.isAgg]at h)
theorem nM{f:PV→PV}(hf:∀p,p.isAgg=false→(f p).isAgg=false)(x:PV):(x.bL f).cells=x.cells.map f:=by
 cases hx:x.isAgg with
 | true=>
  cases x<;>simp[PV.isAgg]at hx
  rfl
 | false=>
  have:x.bL f=f x:=by cases x<;>first | rfl | (simp[PV.isAgg]at hx)
  rw[this,CS hx,CS (hf x hx)]
  rfl
def gX:Nat→Nat→List Obj→PV→PV
 | 0,_,_,.bO ..=>.dead
 | 0,_,_,.bP ..=>.dead
 | _,_,_,.mD ..=>.dead
 | d+1,n,objs,.bO k ver=>
  match objs[k]? with
  | some o=>if decide (n≤k) && o.live && o.ver==ver then .sl o.sz (o.xs.map (PV.bL (gX d n objs))) none else .dead
  | none=>.dead
 | d+1,n,objs,.bP k ver i f=>
  match objs[k]? with
  | some o=>if decide (n≤k) && o.live && o.ver==ver && f==0 then (match o.xs[i]? with | some x=>.addr (x.bL (gX d n objs)) | none=>.dead) else .dead
  | none=>.dead
 | _,_,_,p=>p
def eZ(d n:Nat)(objs:List Obj):PV→PV
 | .bO k ver=>if k<n then .bO k ver else gX d n objs (.bO k ver)
 | .bP k ver i f=>if k<n then .bP k ver i f else gX d n objs (.bP k ver i f)
 | .mD k ver=>if k<n then .mD k ver else .dead
 | p=>p
def iB(d n:Nat)(objs:List Obj):PV→PV
 | .fn f a c=>.fn f (a.map (eZ d n objs)) (c.map (eZ d n objs))
 | .bY cs=>.bY (cs.map (eZ d n objs))
 | .agg cs=>.agg (cs.map (eZ d n objs))
 | p=>eZ d n objs p
def f_(d n:Nat)(objs:List Obj)(o:Obj):Obj:={ o with xs:=o.xs.map (PV.bL (eZ d n objs)) }
def St.freeze (d n:Nat)(S:St):St:=⟨S.tmps.map (iB d n S.objs),(S.objs.take n).map (f_ d n S.objs)⟩
theorem Jm(d n:Nat)(objs:List Obj)(p:PV)(h:p.isAgg=false):(gX d n objs p).isAgg=false:=by
 cases d<;>cases p<;>simp only[gX]<;>first | rfl | exact h | (split<;>first | rfl | (split<;>first | rfl | (split<;>rfl)))
theorem Xv(d n:Nat)(objs:List Obj)(p:PV)(h:p.isAgg=false):(eZ d n objs p).isAgg=false:=by
 cases p<;>simp only[eZ]<;>first | rfl | exact h | (split<;>first | rfl | (exact Jm _ _ _ _ rfl))
section
variable {base av:Nat→Prop}{w0:Wz}{S:St}{blk:Nat→Option Nat}{a:Act}{w:World}
theorem oK{d n k:Nat}{o':Obj}(h:(S.freeze d n).objs[k]?=some o'):k<n∧∃o,S.objs[k]?=some o∧o'=f_ d n S.objs o:=by
 simp only[St.freeze,List.getElem?_map,List.getElem?_take]at h
 split at h
 ·rename_i hk
  cases ho:S.objs[k]? with
  | none=>rw[ho]at h;simp at h
  | some o=>rw[ho]at h;exact⟨hk,o,rfl,by simpa using h.symm⟩
 ·simp at h
theorem Jo{d n b:Nat}(h:aZ S.objs blk b):aZ (S.freeze d n).objs blk b:=by
 intro k o' ho' hl
 obtain⟨_,o,ho,rfl⟩:=oK ho'
 exact h k o ho hl
theorem zx{d n b:Nat}(h:bZ base S.objs blk b):bZ base (S.freeze d n).objs blk b:=⟨h.1,Jo h.2⟩
theorem CU(R:Rel base av w0 S blk a w){d n k g:Nat}{o:Obj}(hk:n≤k)(ho:S.objs[k]?=some o)(hl:o.live=true)(hg:blk k=some g):bZ base (S.freeze d n).objs blk g:=by
 refine⟨R.pb g (R.objs.np k o g ho hl hg),λk' o' ho' hl'=>?_⟩
 obtain⟨hk',o1,ho1,rfl⟩:=oK ho'
 exact R.objs.KL k k' o o1 g (by omega) ho hl ho1 hl' hg
theorem Ra(R:Rel base av w0 S blk a w)(d' n:Nat):∀(d:Nat) (p:PV) (v:Value),bJ w (bZ base S.objs blk) S.objs blk p v→dM w (bZ base (S.freeze d' n).objs blk) (gX d n S.objs p) v:=by
 intro d
 induction d with
 | zero=>
  intro p v h
  have hm:∀q:PV,dM w (bZ base S.objs blk) q v→dM w (bZ base (S.freeze d' n).objs blk) q v:=λq hq=>hq.mono (Nat.le_refl _) (λb _ h=>zx h) (λ_ _ _ h=>h)
  cases p<;>simp only[gX]<;>first | exact .dead v | exact hm _ h
 | succ d ih=>
  intro p v h
  have hm:∀q:PV,dM w (bZ base S.objs blk) q v→dM w (bZ base (S.freeze d' n).objs blk) q v:=λq hq=>hq.mono (Nat.le_refl _) (λb _ h=>zx h) (λ_ _ _ h=>h)
  cases p
  case bO k ver=>
   obtain⟨_,o,ho,_,h3⟩:=h
   simp only[gX,ho]
   split
   ·rename_i hc
    simp only[Bool.and_eq_true,decide_eq_true_eq,beq_iff_eq]at hc
    obtain⟨⟨hn,hl⟩,hv⟩:=hc
    obtain⟨hM,hh⟩:=h3 hl hv
    have hb:=R.objs.ob k o ho hl
    unfold Ab at hh
    unfold dA at hb
    cases hg:blk k with
    | none=>
     rw[hg]at hh
     obtain⟨rfl,hx⟩:=hh
     rw[hx]
     exact .slnil _ _ (by simp)
    | some g=>
     rw[hg]at hh hb
     obtain⟨cap,c,rfl,hc,h4,h5,h6⟩:=hh
     obtain⟨c',hc',h7,h8⟩:=hb
     rw[mE hM,hc]at hc'
     cases hc'
     have hlen:(o.xs.map (PV.bL (gX d n S.objs))).length=o.xs.length:=by simp
     rw[←hlen]
     have hel:∀(i:Nat) (x:PV),(o.xs.map (PV.bL (gX d n S.objs)))[i]?=some x→∃x0,o.xs[i]?=some x0∧x.cells=x0.cells.map (gX d n S.objs):=by
      intro i x hx
      rw[List.getElem?_map]at hx
      cases h0:o.xs[i]? with
      | none=>rw[h0]at hx;simp at hx
      | some x0=>
       rw[h0]at hx
       simp only[map_some,Option.some.injEq]at hx
       subst hx
       exact⟨x0,rfl,nM (Jm _ _ _) x0⟩
     have hgl:g<w.heap.size:=(Array.getElem?_eq_some_iff.1 hc).1
     refine .sl _ _ _ (by simp) g 0 cap (λi j=>c.getD (i*o.sz+j) undef) (λ_=>⟨CU R hn ho hl hg,hgl⟩) (by rw[hlen];exact h4) h5 ?_ ?_ ?_
     ·intro i x hx
      obtain⟨x0,hx0,e⟩:=hel i x hx
      rw[e,List.length_map];exact (h8 i x0 hx0).1
     ·intro i x j p hx hp
      obtain⟨x0,hx0,e⟩:=hel i x hx
      rw[e,List.getElem?_map]at hp
      cases hp0:x0.cells[j]? with
      | none=>rw[hp0]at hp;simp at hp
      | some p0=>
       obtain⟨u,hu,_⟩:=(h8 i x0 hx0).2 j p0 hp0
       have:0+i*o.sz+j=i*o.sz+j:=by omega
       unfold World.cell?
       simp only[hc,this]
       rw[Array.getD_eq_getD_getElem?,hu]
       rfl
     ·intro i x j p hx hp
      obtain⟨x0,hx0,e⟩:=hel i x hx
      rw[e,List.getElem?_map]at hp
      cases hp0:x0.cells[j]? with
      | none=>rw[hp0]at hp;simp at hp
      | some p0=>
       rw[hp0]at hp
       simp only[map_some,Option.some.injEq]at hp
       subst hp
       obtain⟨u,hu,hr⟩:=(h8 i x0 hx0).2 j p0 hp0
       rw[Array.getD_eq_getD_getElem?,hu]
       exact ih p0 u hr
   ·exact .dead v
  case bP k ver i f=>
   obtain⟨_,o,ho,_,h3⟩:=h
   simp only[gX,ho]
   split
   ·rename_i hc
    simp only[Bool.and_eq_true,decide_eq_true_eq,beq_iff_eq]at hc
    obtain⟨⟨⟨hn,hl⟩,hv⟩,rfl⟩:=hc
    obtain⟨hM,g,hg,rfl⟩:=h3 hl hv
    have hb:=R.objs.ob k o ho hl
    unfold dA at hb
    rw[hg]at hb
    obtain⟨c,hc,h7,h8⟩:=hb
    rw[mE hM]at hc
    have hgl:g<w.heap.size:=(Array.getElem?_eq_some_iff.1 hc).1
    cases hx:o.xs[i]? with
    | none=>exact .dead _
    | some x0=>
     have e:=nM (Jm d n S.objs) x0
     refine .addr _ g (i*o.sz+0) (λj=>c.getD (i*o.sz+j) undef) ⟨CU R hn ho hl hg,hgl⟩ ?_ ?_
     ·intro j p hp
      rw[e,List.getElem?_map]at hp
      cases hp0:x0.cells[j]? with
      | none=>rw[hp0]at hp;simp at hp
      | some p0=>
       obtain⟨u,hu,_⟩:=(h8 i x0 hx).2 j p0 hp0
       unfold World.cell?
       simp only[hc,Nat.add_zero]
       rw[Array.getD_eq_getD_getElem?,hu]
       rfl
     ·intro j p hp
      rw[e,List.getElem?_map]at hp
      cases hp0:x0.cells[j]? with
      | none=>rw[hp0]at hp;simp at hp
      | some p0=>
       rw[hp0]at hp
       simp only[map_some,Option.some.injEq]at hp
       subst hp
       obtain⟨u,hu,hr⟩:=(h8 i x0 hx).2 j p0 hp0
       rw[Array.getD_eq_getD_getElem?,hu]
       exact ih p0 u hr
   ·exact .dead _
  case mD k ver=>simp only[gX];exact .dead v
  all_goals (simp only[gX];exact hm _ h)
theorem rE(R:Rel base av w0 S blk a w)(d n:Nat)(p:PV)(v:Value)(h:bJ w (bZ base S.objs blk) S.objs blk p v) :
  bJ w (bZ base (S.freeze d n).objs blk) (S.freeze d n).objs blk (eZ d n S.objs p) v:=by
 have hm:∀q:PV,dM w (bZ base S.objs blk) q v→dM w (bZ base (S.freeze d n).objs blk) q v:=λq hq=>hq.mono (Nat.le_refl _) (λb _ h=>zx h) (λ_ _ _ h=>h)
 have hget:∀k o,k<n→S.objs[k]?=some o→(S.freeze d n).objs[k]?=some (f_ d n S.objs o):=by
  intro k o hk ho
  simp only[St.freeze,List.getElem?_map,List.getElem?_take,if_pos hk,ho,map_some]
 cases p
 case bO k ver=>
  simp only[eZ]
  split
  ·rename_i hk
   obtain⟨h0,o,ho,h2,h3⟩:=h
   refine⟨h0,_,hget k o hk ho,h2,λhl hv=>?_⟩
   obtain⟨hM,hh⟩:=h3 hl hv
   refine⟨hM,?_⟩
   unfold Ab at hh ⊢
   cases hg:blk k with
   | none=>rw[hg]at hh;exact⟨hh.1,by simp[f_,hh.2]⟩
   | some g=>rw[hg]at hh;simpa[f_] using hh
  ·exact .aM (Ra R d n d _ v h)
 case bP k ver i f=>
  simp only[eZ]
  split
  ·rename_i hk
   obtain⟨h0,o,ho,h2,h3⟩:=h
   exact⟨h0,_,hget k o hk ho,h2,h3⟩
  ·exact .aM (Ra R d n d _ v h)
 case mD k ver=>
  simp only[eZ]
  split
  ·rename_i hk
   obtain⟨h0,o,ho,h2,h3⟩:=h
   exact⟨h0,_,hget k o hk ho,h2,h3⟩
  ·exact .aM (.dead v)
 all_goals (simp only[eZ];exact .aM (hm _ h))
theorem zy{R R':PV→Value→Prop}{f:PV→PV}{cs:List PV}{vs:List Value}(h:dB R cs vs)(hf:∀p v,R p v→R' (f p) v):dB R' (cs.map f) vs:=by
 refine⟨by simpa using h.1,λi p v hp hv=>?_⟩
 rw[List.getElem?_map]at hp
 cases hc:cs[i]? with
 | none=>rw[hc]at hp;simp at hp
 | some p0=>
  rw[hc]at hp
  simp only[map_some,Option.some.injEq]at hp
  subst hp
  exact hf p0 v (h.2 i p0 v hc hv)
theorem Jp(R:Rel base av w0 S blk a w)(d n:Nat)(p:PV)(v:Value)(h:aY w (bZ base S.objs blk) S.objs blk p v) :
  aY w (bZ base (S.freeze d n).objs blk) (S.freeze d n).objs blk (iB d n S.objs p) v:=by
 have hS:bJ w (bZ base S.objs blk) S.objs blk p v→aY w (bZ base (S.freeze d n).objs blk) (S.freeze d n).objs blk (eZ d n S.objs p) v:=λh=>.lQ (rE R d n p v h)
 cases p
 case fn f a c=>
  obtain⟨va,vc,rfl,h1,h2⟩:=h
  exact⟨va,vc,rfl,zy h1 (rE R d n),zy h2 (rE R d n)⟩
 case bY cs=>obtain⟨vs,rfl,h1⟩:=h;exact⟨vs,rfl,zy h1 (rE R d n)⟩
 case agg cs=>obtain⟨vs,rfl,h1⟩:=h;exact⟨vs,rfl,zy h1 (rE R d n)⟩
 all_goals exact hS h
theorem N_{d n:Nat}{objs:List Obj}{p:PV}(h:p.xG n=true):eZ d n objs p=p:=by
 cases p<;>simp only[eZ]<;> (try rfl)<;> (simp only[PV.xG,decide_eq_true_eq]at h;rw[if_pos h])
theorem Ia{d n:Nat}{objs:List Obj}{cs:List PV}(h:cs.all (PV.xG n)=true):cs.map (eZ d n objs)=cs:=by
 conv=>rhs;rw[←map_id cs]
 exact map_congr_left λp hp=>N_ (List.all_eq_true.1 h p hp)
theorem adm{d n:Nat}{objs:List Obj}{p:PV}(h:p.lt n=true):iB d n objs p=p:=by
 cases p<;>simp only[iB]<;>simp only[PV.lt,Bool.and_eq_true]at h
 case fn f a c=>rw[Ia h.1,Ia h.2]
 case bY cs=>rw[Ia h]
 case agg cs=>rw[Ia h]
 all_goals exact N_ h
theorem Jq{n m:Nat}(h:n≤m){p:PV}(hp:p.xG n=true):p.xG m=true:=by
 cases p<;>simp only[PV.xG,decide_eq_true_eq]at hp ⊢<;>omega
theorem qA{n m:Nat}(h:n≤m){cs:List PV}(hp:cs.all (PV.xG n)=true):cs.all (PV.xG m)=true:=by
 rw[List.all_eq_true]at hp ⊢
 exact λp hm=>Jq h (hp p hm)
theorem Xw{n m:Nat}(h:n≤m){p:PV}(hp:p.lt n=true):p.lt m=true:=by
 cases p<;>simp only[PV.lt,Bool.and_eq_true]at hp ⊢
 case fn f a c=>exact⟨qA h hp.1,qA h hp.2⟩
 case bY cs=>exact qA h hp
 case agg cs=>exact qA h hp
 all_goals exact Jq h hp
theorem Rel.freeze (R:Rel base av w0 S blk a w)(d n:Nat)(hn:w0.nx≤n):Rel base av w0 (S.freeze d n) blk a w:=by
 refine⟨R.pJ.mono (λb _ h=>⟨zx h.1,h.2⟩) (λ_ _ _ h=>h),by simpa[St.freeze] using R.EU,λt p hp=>?_,⟨λk o' ho' hl=>?_,?_,?_⟩,R.pr,R.fr,R.gr,R.pb,λx hx=>(adm (d:=d) (objs:=S.objs) (Xw hn (R.MJ x hx))) ▸ Jp R d n x.1 x.2 (R.ext x hx),R.MJ,R.sm,R.gl⟩
 ·simp only[St.freeze,List.getElem?_map]at hp
  cases ht:S.tmps[t]? with
  | none=>rw[ht]at hp;simp at hp
  | some p0=>
   rw[ht]at hp
   simp only[map_some,Option.some.injEq]at hp
   subst hp
   exact Jp R d n p0 _ (R.tm t p0 ht)
 ·obtain⟨hk,o,ho,rfl⟩:=oK ho'
  have hb:=R.objs.ob k o ho hl
  unfold dA at hb ⊢
  cases hg:blk k with
  | none=>rw[hg]at hb;simp[f_,hb]
  | some g=>
   rw[hg]at hb
   obtain⟨c,hc,h7,h8⟩:=hb
   refine⟨c,hc,by simpa[f_,fits] using h7,λi x hx=>?_⟩
   simp only[f_,List.getElem?_map]at hx
   cases hx0:o.xs[i]? with
   | none=>rw[hx0]at hx;simp at hx
   | some x0=>
    rw[hx0]at hx
    simp only[map_some,Option.some.injEq]at hx
    subst hx
    have e:=nM (Xv d n S.objs) x0
    refine⟨by rw[e,List.length_map];exact (h8 i x0 hx0).1,λj p hp=>?_⟩
    rw[e,List.getElem?_map]at hp
    cases hp0:x0.cells[j]? with
    | none=>rw[hp0]at hp;simp at hp
    | some p0=>
     rw[hp0]at hp
     simp only[map_some,Option.some.injEq]at hp
     subst hp
     obtain⟨u,hu,hr⟩:=(h8 i x0 hx0).2 j p0 hp0
     exact⟨u,hu,rE R d n p0 u hr⟩
 ·intro k k' o o' g hne h1 h2 h3 h4 h5
  obtain⟨_,o1,ho1,rfl⟩:=oK h1
  obtain⟨_,o2,ho2,rfl⟩:=oK h3
  exact R.objs.KL k k' o1 o2 g hne ho1 h2 ho2 h4 h5
 ·intro k o g h1 h2 h3
  obtain⟨_,o1,ho1,rfl⟩:=oK h1
  exact R.objs.np k o1 g ho1 h2 h3
def Ae:List Bool→List PV→List PV
 | _,[]=>[]
 | [],p::ps=>.dead::Ae [] ps
 | true::ks,p::ps=>p::Ae ks ps
 | false::ks,_::ps=>.dead::Ae ks ps
theorem oL:∀(ks:List Bool) (ps:List PV),(Ae ks ps).length=ps.length
 | ks,[]=>by cases ks<;>simp[Ae]
 | [],_::ps=>by simp[Ae,oL [] ps]
 | true::ks,p::ps=>by simp[Ae,oL ks ps]
 | false::ks,p::ps=>by simp[Ae,oL ks ps]
theorem Ib:∀(ks:List Bool) (ps:List PV) (t:Nat) (p:PV),(Ae ks ps)[t]?=some p→p=.dead∨ps[t]?=some p
 | ks,[],_,_,h=>by cases ks<;>simp[Ae]at h
 | [],q::ps,0,p,h=>by simp only[Ae,List.getElem?_cons_zero,Option.some.injEq]at h;exact .inl h.symm
 | [],q::ps,t+1,p,h=>by simp only[Ae,List.getElem?_cons_succ]at h ⊢;exact Ib [] ps t p h
 | true::ks,q::ps,0,p,h=>by simp only[Ae,List.getElem?_cons_zero,Option.some.injEq]at h;exact .inr (by simpa using h)
 | true::ks,q::ps,t+1,p,h=>by simp only[Ae,List.getElem?_cons_succ]at h ⊢;exact Ib ks ps t p h
 | false::ks,q::ps,0,p,h=>by simp only[Ae,List.getElem?_cons_zero,Option.some.injEq]at h;exact .inl h.symm
 | false::ks,q::ps,t+1,p,h=>by simp only[Ae,List.getElem?_cons_succ]at h ⊢;exact Ib ks ps t p h
def St.forget (ks:List Bool)(S:St):St:=⟨Ae ks S.tmps,S.objs⟩
theorem aY.dead {ok:Nat→Prop}{objs:List Obj}(v:Value):aY w ok objs blk .dead v:=.aM (.dead v)
theorem Rel.forget (R:Rel base av w0 S blk a w)(ks:List Bool):Rel base av w0 (S.forget ks) blk a w:=by
 refine⟨R.pJ,by simpa[St.forget,oL] using R.EU,λt p hp=>?_,R.objs,R.pr,R.fr,R.gr,R.pb,R.ext,R.MJ,R.sm,R.gl⟩
 rcases Ib ks S.tmps t p hp with rfl | h
 ·exact .dead _
 ·exact R.tm t p h
def St.Gb (t ty sz:Nat)(S:St):St:=
 match S.tmps[t]? with
 | some (.sl _ [] _)=>⟨S.tmps.set t (.bO S.objs.length 0),S.objs++[⟨ty,sz,[],true,0⟩]⟩
 | _=>S
end
theorem Weak.refl (m:Nat)(S:St):Weak m S S:=λ_ _ _ blk _ _ _ R=>⟨blk,R⟩
theorem Weak.trans {m:Nat}{S S' S'':St}(h:Weak m S S')(h':Weak m S' S''):Weak m S S'':=λbase av w0 blk a w hm R=>let ⟨aA,R'⟩:=h base av w0 blk a w hm R;h' base av w0 aA a w hm R'
theorem Weak.freeze {m:Nat}(d n:Nat)(hn:m≤n)(S:St):Weak m S (S.freeze d n):=λ_ _ _ blk _ _ hm R=>⟨blk,R.freeze d n (Nat.le_trans hm hn)⟩
theorem Weak.forget (m:Nat)(ks:List Bool)(S:St):Weak m S (S.forget ks):=λ_ _ _ blk _ _ _ R=>⟨blk,R.forget ks⟩
def St.norm (ks:List Bool)(fz:Option (Nat×Nat))(S:St):St:=
 match fz with
 | none=>S.forget ks
 | some (d,n)=>(S.forget ks).freeze d n
def KW(m:Nat):Option (Nat×Nat)→Prop
 | none=>True
 | some (_,n)=>m≤n
theorem Weak.norm {m:Nat}(ks:List Bool)(fz:Option (Nat×Nat))(h:KW m fz)(S:St):Weak m S (S.norm ks fz):=by
 cases fz with
 | none=>exact .forget m ks S
 | some x=>exact (Weak.forget m ks S).trans (Weak.freeze _ _ h _)
theorem Rel.Gb {base av:Nat→Prop}{w0:Wz}{S:St}{blk:Nat→Option Nat}{a:Act}{w:World}(R:Rel base av w0 S blk a w){t sz ty:Nat}{sz':Nat}(h:S.tmps[t]?=some (.sl sz' [] (some true)))(hM:ty≠MT) :
  Rel base av w0 ⟨S.tmps.set t (.bO S.objs.length 0),S.objs++[⟨ty,sz,[],true,0⟩]⟩ (aI blk S.objs.length none) a w:=by
 have h1:=R.EY (o1:=⟨ty,sz,[],true,0⟩) (gb:=none) (lS.refl w) (λg hg=>by cases hg) λ_=>by
  unfold dA aI
  rw[if_pos rfl]
 refine⟨h1.pJ,by simpa using h1.EU,λt' p hp=>?_,h1.objs,h1.pr,h1.fr,h1.gr,h1.pb,h1.ext,h1.MJ,h1.sm,h1.gl⟩
 simp only[List.getElem?_set]at hp
 split at hp
 ·rename_i ht
  subst ht
  split at hp
  ·cases hp
   have hx:=R.tm t _ h
   have hx':dM w (bZ base S.objs blk) (.sl sz' [] (some true)) (a.tmps.getD t undef):=hx
   generalize hv:a.tmps.getD t undef=v at hx'
   cases hx' with
   | slnil _ _ _=>
    refine⟨rfl,⟨ty,sz,[],true,0⟩,adi _ _,Nat.le_refl _,λ_ _=>⟨hM,?_⟩⟩
    unfold Ab aI
    rw[if_pos rfl]
    exact⟨rfl,rfl⟩
   | MH _ _ hq=>exact absurd rfl hq
   | sl _ _ _ hq=>exact absurd rfl hq
  ·cases hp
 ·exact h1.tm t' p hp
theorem Weak.Gb {m:Nat}{tm:List PV}{objs:List Obj}(t ty sz:Nat){sz':Nat}(h:tm[t]?=some (.sl sz' [] (some true)))(hM:ty≠MT:=by decide) :
  Weak m ⟨tm,objs⟩ ⟨tm.set t (.bO objs.length 0),objs++[⟨ty,sz,[],true,0⟩]⟩:=
 λ_ _ _ _ _ _ _ R=>⟨_,Rel.Gb (S:=⟨tm,objs⟩) R h hM⟩
def kL(objs:List Obj):Prop:=∀o∈objs,∀x∈o.xs,∀c∈x.cells,c.xG objs.length=true
theorem Rb{f:PV→PV}{x:PV}(h:∀c∈x.cells,f c=c):x.bL f=x:=by
 cases x<;>simp only[PV.bL]<;>simp only[PV.cells]at h
 case agg cs=>congr 1;conv=>rhs;rw[←map_id cs]
              exact map_congr_left λc hc=>h c hc
 all_goals exact h _ List.mem_cons_self
theorem Ic{d:Nat}{objs objs':List Obj}(h:kL objs):objs.map (f_ d objs.length objs')=objs:=by
 conv=>rhs;rw[←map_id objs]
 refine map_congr_left λo ho=>?_
 have hx:o.xs.map (PV.bL (eZ d objs.length objs'))=o.xs:=by
  conv=>rhs;rw[←map_id o.xs]
  exact map_congr_left λx hx=>Rb λc hc=>N_ (h o ho x hx c hc)
 simp only[f_,hx,id]
end Lp
namespace Lp
open Go
open List (all_eq_true mem_range)
structure Step where
 dst:Option Nat
 op:Op
 g:Option (Option Nat×Bool)
 own:Bool
inductive LC where
 | skip
 | ret
 | bad
 | reg (ss:List Step)
 | draw (ss:List Step) (un:List Nat)
 | seq (a b:LC)
 | cond (c:Operand) (a b:LC)
 | block (id:Nat) (c:LC)
 | loop (ks:List Bool) (fz:Option (Nat×Nat)) (c:LC)
 | exit (id:Nat)
 | weak (c:LC)
 | rf (f:Operand) (ps:List Nat) (fz:Option (Nat×Nat)) (a b:LC)
def qj(ops:List Oper)(ms:List Nat):List Nat:=
 (List.range ops.length).map λi=>(List.range i).foldl (λu j=>if (ms.getD i 0).testBit j then u else u ||| (1 <<<j)) 0
def gL(ops:List Oper)(ms:List Nat):Bool:=
 let ls:=ops.map (jS ops)
 let zs:=ops.map λ_=>0
 (List.range ops.length).all λi=>
  match ops[i]? with
  | none=>true
  | some o=>
   (o.after.toList.all λe=>!Region.binds .any e || decide (e.on<i)) &&
   (ms.getD i 0 &&& E9 ms o==ms.getD i 0) &&
   (List.range i).all λj=>
    (ms.getD i 0).testBit j || !clash ((ops[j]?).bind (·.dst)) o.dst (ls.getD j []) (ls.getD i []) (zs.getD j 0) (zs.getD i 0)
def rF(un ts:List Nat):Bool:=
 (List.range un.length).all λi=>co (ts.getD i 0)==0 || (List.range i).all λj=>!(un.getD i 0).testBit j || !((co (ts.getD j 0)==2 && co (ts.getD i 0) !=0) || (co (ts.getD i 0)==2 && co (ts.getD j 0) !=0))
def Bn(un ts:List Nat)(b:Nat):Bool:=
 ((List.range un.length).all λi=>if i<b then CQ (ts.getD i 0) else if i=b then ts.getD i 0==2 else ts.getD i 0==0) && decide (b≤un.length) &&
 (decide (b=un.length) || (List.range b).all λj=>ts.getD j 0==0 || !(un.getD b 0).testBit j) &&
 (List.range un.length).all λi=>(List.range i).all λj=>!(un.getD i 0).testBit j || !Bl (ts.getD j 0) (ts.getD i 0)
def oM(un ts:List Nat):Bool:=rF un ts || Bn un ts (ts.findIdx (·==2))
def stepOf(ops:List Oper)(o:Oper):Step:=⟨o.dst,o.op,match o.guard with
 | none=>none
 | some (j,b)=>some ((ops[j]?).bind (·.dst),b),false⟩
def comp:Code→LC
 | .skip=>.skip
 | .ret=>.ret
 | .exit id=>.exit id
 | .region _ ops false=>.reg (ops.toList.map (stepOf ops.toList))
 | .region _ ops true=>bif gL ops.toList (masks ops.toList []) then .draw (ops.toList.map (stepOf ops.toList)) (qj ops.toList (masks ops.toList [])) else .bad
 | .seq a b=>.seq (comp a) (comp b)
 | .cond c a b=>.cond c (comp a) (comp b)
 | .block id c=>.block id (comp c)
 | .loop c=>.loop [] none (comp c)
 | .rangeFunc f ps a b=>.rf f ps.toList none (comp a) (comp b)
 | _=>.bad
def Bo(s:Step):Step:={ s with own:=false }
def strip:LC→LC
 | .reg ss=>.reg (ss.map Bo)
 | .draw ss un=>.draw (ss.map Bo) un
 | .seq a b=>.seq (strip a) (strip b)
 | .cond c a b=>.cond c (strip a) (strip b)
 | .block id c=>.block id (strip c)
 | .loop _ _ c=>.loop [] none (strip c)
 | .weak c=>strip c
 | .rf f ps _ a b=>.rf f ps none (strip a) (strip b)
 | c=>c
abbrev Tab:=FuncId→List PV→List Obj→KT→Prop
abbrev YT:=List PV→List Obj→(Bool→List Obj→Prop)→Prop
structure Know where
 fn:Tab
 y:Nat
 Y:YT
 top:Bool
 gives:FuncId→List PV→List (List PV)→Prop
 nx:Nat
 rg:Bool:=true
def ow(T:Know)(pt:Bool)(f:PV)(args:List PV)(objs:List Obj)(K:KT):Prop:=
 match f with
 | .fn g first cap=>T.fn g (first++args++cap) objs K
 | .H7 l=>l=T.y∧pt=true∧args.all PV.pure=true∧T.Y args objs λb o=>K (.bool b) o 2
 | _=>False
def Know.noY (T:Know):Know:={ T with Y:=λ_ _ _=>False,rg:=false }
def Know.inner (T:Know)(n:Nat):Know:={ T with top:=false,Y:=λ_ _ _=>False,nx:=n }
def mg(P:Program)(D:TypeId→aH)(T:Know)(own pt:Bool)(ev:Operand→PV)(objs:List Obj)(op:Op)(K:KT):Prop:=
 match op with
 | .call { callee:=.value f,args,.. }=>ow T pt (ev f) (args.toList.map ev) objs K
 | .next x false=>T.rg=true∧nextR (ev x) objs K
 | op=>KF P D own ev objs op K
def x9(g:Option (Option Nat×Bool))(S:St)(X Y:St→Prop):Prop:=
 match g with
 | none=>X S
 | some (none,_)=>False
 | some (some d,want)=>
  match S.tmps.getD d .dead with
  | .bool b=>(b=want→X { S with tmps:=S.tmps.set d (.bool want) })∧(b=!want→Y { S with tmps:=S.tmps.set d (.bool !want) })
  | .bY []=>Y S
  | _=>False
def LR(P:Program)(D:TypeId→aH)(T:Know):List Step→St→List Nat→(St→List Nat→Prop)→Prop
 | [],S,ts,K=>K S ts
 | s::rest,S,ts,K=>
  x9 s.g S
   (λS=>mg P D T s.own (S.tmps.all PV.pure) S.ev S.objs s.op λr objs' t=>LR P D T rest (St.put ⟨S.tmps,objs'⟩ s.dst r) (ts++[t]) K)
   (λS=>LR P D T rest (S.put s.dst (.bY [])) (ts++[0]) K)
def UL(fz:Option (Nat×Nat))(I:List Obj→Prop):Exit→St→Prop
 | .normal,S=>I (S.norm [] fz).objs
 | _,_=>False
def rG:List Nat→List PV→List PV→List PV
 | p::ps,y::ys,tm=>rG ps ys (tm.set p y)
 | _,_,tm=>tm
def xN:Obj:=⟨0,0,[],true,0⟩
def jh(k:Nat)(O:List Obj):List Obj:=(O.set k hole).set (k+1) xN
def Gh(k:Nat)(O:List Obj):Prop:=k+2≤O.length∧kL O∧O[k]?=some xN∧O[k+1]?=some hole
def Jr:Exit→Option Code
 | .ret=>some .ret
 | .exit id=>some (.exit id)
 | _=>none
def Oa(fz:Option (Nat×Nat))(I:List Obj→Prop)(lv:Exit)(J:List Obj→Prop):Exit→St→Prop
 | .normal,S=>I (S.norm [] fz).objs
 | e,S=>e=lv∧J (S.norm [] fz).objs
def l7(P:Program)(D:TypeId→aH):Know→LC→(Exit→St→Prop)→St→Prop
 | _,.skip,Q,S=>Q .normal S
 | _,.ret,Q,S=>Q .ret S
 | _,.bad,_,_=>False
 | T,.reg ss,Q,S=>LR P D T ss S [] λS' _=>Q .normal S'
 | T,.draw ss un,Q,S=>LR P D T.noY ss S [] λS' ts=>oM un ts=true∧Q .normal S'
 | T,.seq a b,Q,S=>l7 P D T a (thenS (λS'=>l7 P D T b Q S') Q) S
 | T,.cond c a b,Q,S=>AQ (S.ev c) (l7 P D T a Q S) (l7 P D T b Q S)
 | T,.block id c,Q,S=>l7 P D T c (tT id Q) S
 | T,.loop ks fz c,Q,S=>KW T.nx fz∧∃I:Nat→St→Prop,(∃S0 m,Weak T.nx S S0∧I m S0)∧
   ∀m S,I m S→l7 P D T c (thenS (λS'=>∃m',m'<m∧I m' (S'.norm ks fz)) Q) S
 | _,.exit id,Q,S=>Q (.exit id) S
 | T,.weak c,Q,S=>∃S',Weak T.nx S S'∧l7 P D T c Q S'
 | T,.rf f ps fz x y,Q,S=>T.top=true∧∃(g:FuncId) (cap:List PV) (ys:List (List PV)),
   S.ev f=.fn g [] cap∧cap.all PV.pure=true∧T.gives g cap ys∧(∀y∈ys,y.length=ps.length)∧
   ((∃I:Nat→List Obj→Prop,KW S.objs.length fz∧I 0 S.objs∧(∀i objs,I i objs→S.objs.length≤objs.length∧kL objs)∧
    (∀i args objs,I i objs→ys[i]?=some args→l7 P D (T.inner S.objs.length) x (thenS (λS1=>l7 P D (T.inner S.objs.length) y (UL fz (I (i+1))) S1) (λ_ _=>False)) ⟨rG ps args S.tmps,objs⟩)∧
    ∀objs,I ys.length objs→Q .normal ⟨S.tmps,objs⟩)∨
   (∃(I J:Nat→List Obj→Prop) (lv:Exit) (lc:Code),Jr lv=some lc∧KW (S.objs.length+2) fz∧I 0 (S.objs++[xN,hole])∧(∀i objs,I i objs→Gh S.objs.length objs)∧(∀i objs,J i objs→Gh S.objs.length objs∧fI objs)∧
    (∀i args objs,I i objs→ys[i]?=some args→l7 P D (T.inner (S.objs.length+2)) x (thenS (λS1=>l7 P D (T.inner (S.objs.length+2)) y (Oa fz (I (i+1)) lv (J i)) S1) (λ_ _=>False)) ⟨rG ps args S.tmps,objs⟩)∧
    (∀objs,I ys.length objs→Q .normal ⟨S.tmps,objs⟩)∧∀i objs,i<ys.length→J i objs→Q lv ⟨S.tmps,jh S.objs.length objs⟩))
def xh(P:Program)(T:Tab):Prop:=∀f args objs K,T f args objs K→∃r objs' t,nJ P f args objs r objs' t∧K r objs' t
def YOk(P:Program)(l:Option Nat)(base av:Nat→Prop)(V:Wz→Prop)(T:Know):Prop:=
 ∀(S:St) (blk:Nat→Option Nat) (a:Act) (w:World) (args:List PV) (vs:List Value) (K:Bool→List Obj→Prop),sF base av V S blk a w→S.tmps.all PV.pure=true→
  dB (dM w (bZ base S.objs blk)) args vs→T.Y args S.objs K→
  ∃r:Loop,w.heap[T.y]?=some (.loop r)∧vs.length=r.params.size∧
   RoundIn (GZ l) 0 P T.y r.fn ((r.params.zip (⟨vs⟩:Array Value)).foldl (λt (p,v)=>t.setIfInBounds p v) r.tmps) r.assign r.body w
    (λe w'=>∃b objs' aA,e=.returned (.bool b)∧K b objs'∧sF base av V ⟨S.tmps,objs'⟩ aA a w')
variable {P:Program}{D:TypeId→aH}{T:Know}{l:Option Nat}
theorem YR(hT:xh P T.fn){own pt:Bool}{ev:Operand→PV}{objs:List Obj}{op:Op}{K:KT}(h:mg P D T.noY own pt ev objs op K):KF P D own ev objs op K:=by
 unfold mg at h
 split at h
 ·unfold ow at h
  split at h
  ·rename_i e
   simp only[KF,Jc,e]
   exact hT _ _ _ _ h
  ·exact h.2.2.2.elim
  ·exact h.elim
 ·exact absurd h.1 Bool.false_ne_true
 ·exact h
theorem adn{base av:Nat→Prop}{V:Wz→Prop}{S:St}{blk:Nat→Option Nat}{a:Act}{w:World}{own:Bool}{o:Oper}{K:KT}{next:Act→World→Prop}{Q:Exit→Act→World→Prop}
  (hD:∀t,je P t (D t)) (hT:xh P T.fn) (hY:YOk P l base av V T) (R:sF base av V S blk a w) (h:mg P D T own (S.tmps.all PV.pure) S.ev S.objs o.op K)
  (hn:∀r objs' t v w' aA,K r objs' t→sF base av V ⟨S.tmps,objs'⟩ aA a w'→aY w' (bZ base objs' aA) objs' aA r v→next (a.put o.dst v) w') :
  o.wpIn (GZ l) 0 P a w next Q:=by
 obtain⟨w0,hV,R0⟩:=R
 have M5:KF P D own S.ev S.objs o.op K→o.wpIn (GZ l) 0 P a w next Q:=λh=>
  CJ l hD R0 h λr objs' t v w' aA h1 h2 h3=>hn r objs' t v w' aA h1 ⟨w0,hV,h2⟩ h3
 unfold mg at h
 split at h
 ·rename_i f args argTypes ho
  unfold ow at h
  split at h
  ·rename_i e
   refine M5 ?_
   simp only[ho,KF,Jc,e]
   exact hT _ _ _ _ h
  ·rename_i y e
   obtain⟨rfl,hpt,hpure,hy⟩:=h
   have hf:=R0.ev f
   rw[e]at hf
   have hf':dM w (bZ base S.objs blk) (.H7 T.y) (a.eval f):=hf
   have hv:a.eval f=.func (.yield T.y) #[] #[]:=by
    generalize a.eval f=v at hf'
    cases hf'
    rfl
   have hargs:dB (dM w (bZ base S.objs blk)) (args.toList.map S.ev) (args.toList.map a.eval):=by
    have h0:dB (aY w (bZ base S.objs blk) S.objs blk) (args.toList.map S.ev) (args.toList.map a.eval):=CG _ λx _=>R0.ev x
    exact⟨h0.1,λi p v hp hv=>(h0.2 i p v hp hv).Ct (all_eq_true.1 hpure p (List.mem_of_getElem? hp))⟩
   obtain⟨r,hr,hsz,tX⟩:=hY S blk a w _ _ _ ⟨w0,hV,R0⟩ hpt hargs hy
   refine⟨λ_ _=>trivial,?_⟩
   rw[Oper.semAt_eq _ _ _ (by rw[ho];simp)]
   have e1:args.map a.eval=Array.mk (args.toList.map a.eval):=by apply Array.ext';simp
   have hrun:(execOp a.eval o).run P w=.ok (.round T.y r.fn ((r.params.zip (⟨args.toList.map a.eval⟩:Array Value)).foldl (λt (p,v)=>t.setIfInBounds p v) r.tmps) r.assign r.body) w:=by
    simp only[execOp,ho,resolve,hv,Deferred.ofValue,Sem.run_bind,Sem.run_pure,Result.andThen_ok,invoke]
    rw[e1]
    rw[Array.empty_append]
    exact run_yield (args:=Array.mk (args.toList.map a.eval)) hr (by simpa using hsz)
   rw[hrun]
   refine⟨(λh=>by cases h),?_⟩
   refine RoundIn.mono tX λe w' ⟨b,objs',aA,h1,h2,h3⟩=>?_
   subst h1
   exact hn _ _ _ _ _ _ h2 h3 (.aM (.bool b))
  ·exact h.elim
 ·rename_i x ho
  obtain⟨v,w',r,objs',t,aA,h1,h2,h3,h4,_⟩:=aaP ho R0 h.2
  exact F4 (by rw[ho];simp) h1 (hn r objs' t v w' aA h2 ⟨w0,hV,h3⟩ h4)
 ·exact M5 h
theorem Rc{own:Bool}{ev:Operand→PV}{objs:List Obj}{op:Op}{K K':KT}(h:KF P D own ev objs op K)(hk:∀r o t,K r o t→K' r o t):KF P D own ev objs op K':=by
 obtain⟨r,o,t,h1,_,h2,_,_⟩:=Xo h
 exact h2 _ (hk _ _ _ h1)
theorem Js{ops:List Oper}{g:Option (Nat×Bool)}{S:St}{X Y:St→Prop}
  (h:x9 (match g with | none=>none | some (j,b)=>some ((ops[j]?).bind (·.dst),b)) S X Y):qb ops g S X Y:=by
 unfold x9 at h
 unfold qb
 cases g with
 | none=>exact h
 | some g=>
  obtain⟨j,want⟩:=g
  simp only[]at h ⊢
  cases hd:(ops[j]?).bind (·.dst) with
  | none=>rw[hd]at h;exact h
  | some d=>rw[hd]at h;exact h
theorem Gc{ops:List Oper}{g:Option (Nat×Bool)}{S:St}{X X' Y Y':St→Prop}(h:qb ops g S X Y)(hx:∀S',S'.tmps.length=S.tmps.length→X S'→X' S')
  (hy:∀S',S'.tmps.length=S.tmps.length→Y S'→Y' S'):qb ops g S X' Y':=by
 cases g with
 | none=>exact hx _ rfl h
 | some g=>
  obtain⟨j,want⟩:=g
  simp only[qb]at h ⊢
  cases hd:(ops[j]?).bind (·.dst) with
  | none=>rw[hd]at h;exact h
  | some d=>
   rw[hd]at h
   simp only[]at h ⊢
   generalize hv:S.tmps.getD d .dead=v at h ⊢
   cases v
   case bool b=>exact⟨λhb=>hx _ (by simp) (h.1 hb),λhb=>hy _ (by simp) (h.2 hb)⟩
   case bY cs=>
    cases cs with
    | nil=>exact hy _ rfl h
    | cons c cs=>exact h
   all_goals exact h
theorem x_(hT:xh P T.fn){ops:List Oper}{own:Nat→Bool}:∀(sw:List Oper) (ss:List Step) (i:Nat) (S:St) (ts:List Nat) (K:St→List Nat→Prop),
  ss.map Bo=sw.map (stepOf ops)→(∀j s,ss[j]?=some s→own (i+j)=s.own)→LR P D T.noY ss S ts K→rz P D own ops sw i S ts K
 | [],ss,i,S,ts,K,he,ho,h=>by
  have:ss=[]:=by simpa using he
  subst this
  exact h
 | o::sw,ss,i,S,ts,K,he,ho,h=>by
  cases ss with
  | nil=>simp at he
  | cons s ss=>
   simp only[List.map_cons,List.cons.injEq]at he
   obtain⟨he1,he2⟩:=he
   have hd:s.dst=o.dst:=congrArg (λx:Step=>x.dst) he1
   have hop:s.op=o.op:=congrArg (λx:Step=>x.op) he1
   have hg:s.g=(stepOf ops o).g:=(congrArg (λx:Step=>x.g) he1:(Bo s).g=(stepOf ops o).g)
   have hown:own i=s.own:=ho 0 s rfl
   unfold LR at h
   unfold rz
   rw[hg]at h
   refine Gc (Js h) ?_ ?_
   ·intro S' hS' hx
    rw[hown,←hop]
    refine Rc (YR hT hx) ?_
    intro r objs' t hk
    rw[←hd]
    exact x_ hT sw ss (i+1) _ _ K he2 (λj s' hs'=>by rw[show i+1+j=i+(j+1) by omega];exact ho (j+1) s' hs') hk
   ·intro S' hS' hy
    rw[←hd]
    exact x_ hT sw ss (i+1) _ _ K he2 (λj s' hs'=>by rw[show i+1+j=i+(j+1) by omega];exact ho (j+1) s' hs') hy
theorem Bp{ops:List Oper}{own:Nat→Bool}{K K':St→List Nat→Prop}(hk:∀S ts,K S ts→K' S ts):∀(sw:List Oper) (i:Nat) (S:St) (ts:List Nat),rz P D own ops sw i S ts K→rz P D own ops sw i S ts K'
 | [],_,_,_,h=>hk _ _ h
 | o::sw,i,S,ts,h=>by
  unfold rz at h ⊢
  exact Gc h (λS' _ hx=>Rc hx λr o' t hh=>Bp hk sw _ _ _ hh) (λS' _ hy=>Bp hk sw _ _ _ hy)
theorem PW.agp {E:Env}{c:Code}{Q:Exit→St→Prop}{S:St}{m nx:Nat}(hE:∀base av V,E base av V→∀w0,V w0→w0.nx≤nx)(I:Nat→St→Prop)(h0:I m S)
  (round:∀m S,I m S→PW P l E c (thenS (λS'=>∃S'' m',Weak nx S' S''∧I m' S''∧m'<m) Q) S):PW P l E (.loop c) Q S:=by
 intro base av V Xx blk a w R b k cs hro hb hroom
 have hE':=hE base av V Xx
 have key:∀n S blk a w,I n S→sF base av V S blk a w→
     ∃e a' w',(∃S' aA,Q e S'∧sF base av V S' aA a' w')∧ArrivesIn (Machine.fenced P (GZ l)) P (lone (b.atR a (.code c::.inLoop c::k)) cs w) b k cs e a' w':=by
  intro n
  induction n using Nat.strongRecOn with
  | _ n ih=>
   intro S blk a w hI R
   obtain⟨e,a₁,w₁,⟨S₁,blk₁,h1,R₁⟩,harr⟩:=round n S hI base av V Xx blk a w R b (.inLoop c::k) cs hro hb hroom
   cases e with
   | normal=>
    obtain⟨S₂,m',hw,hI₂,hlt⟩:=h1
    obtain⟨w0,hV,R₁⟩:=R₁
    obtain⟨ahF,R₂⟩:=hw base av w0 blk₁ a₁ w₁ (hE' w0 hV) R₁
    obtain⟨e₂,a₂,w₂,hq₂,harr₂⟩:=ih m' hlt S₂ ahF a₁ w₁ hI₂ ⟨w0,hV,R₂⟩
    exact⟨e₂,a₂,w₂,hq₂,.of_steps (StepsIn.trans harr (.one (fenced_calm hb hroom rfl) stepR_inLoop)) harr₂⟩
   | exit id=>exact⟨_,a₁,w₁,⟨S₁,blk₁,h1,R₁⟩,.pass (x:=.inLoop c) rfl (λ_ _=>.inl (by simp)) harr⟩
   | goto t=>exact⟨_,a₁,w₁,⟨S₁,blk₁,h1,R₁⟩,.pass (x:=.inLoop c) rfl (λ_ _=>.inl (by simp)) harr⟩
   | ret=>exact⟨_,a₁,w₁,⟨S₁,blk₁,h1,R₁⟩,.pass (x:=.inLoop c) rfl (λ_ _=>.inl (by simp)) harr⟩
   | panic ch=>exact⟨_,a₁,w₁,⟨S₁,blk₁,h1,R₁⟩,.pass (x:=.inLoop c) rfl (λ_ _=>.inl (by simp)) harr⟩
   | outgrown=>exact⟨_,a₁,w₁,⟨S₁,blk₁,h1,R₁⟩,.pass (x:=.inLoop c) rfl (λ_ _=>.inl (by simp)) harr⟩
 obtain⟨e,a',w',hq,harr⟩:=key m S blk a w h0 R
 exact⟨e,a',w',hq,.of_steps (.one (fenced_calm hb hroom rfl) stepR_loop) harr⟩
theorem v_{next next':St→Prop}{Q:Exit→St→Prop}(h:∀S,next S→next' S):∀e S,thenS next Q e S→thenS next' Q e S:=by
 intro e S hh
 cases e<;>first | exact h _ hh | exact hh
theorem yc{n:Nat}{f:Nat→Bool}(h:(List.range n).all f=true){i:Nat}(hi:i<n):f i=true:=by
 rw[all_eq_true]at h
 exact h i (mem_range.2 hi)
theorem Fb{m:Nat}{i:Nat}:∀(n:Nat),i<n→((List.range n).foldl (λu j=>if m.testBit j then u else u ||| (1 <<<j)) 0).testBit i=!m.testBit i:=by
 have key:∀(n:Nat) (j:Nat),((List.range n).foldl (λu j=>if m.testBit j then u else u ||| (1 <<<j)) 0).testBit j=(decide (j<n) && !m.testBit j):=by
  intro n
  induction n with
  | zero=>intro j;simp
  | succ n ih=>
   intro j
   rw[List.range_succ,List.foldl_append,List.foldl_cons,List.foldl_nil]
   split
   ·rename_i hm
    rw[ih j]
    by_cases hj:j=n
    ·subst hj;simp[hm]
    ·have:decide (j<n+1)=decide (j<n):=by congr 1;apply propext;omega
     rw[this]
   ·rename_i hm
    rw[Nat.testBit_or,ih j,Nat.one_shiftLeft,Nat.testBit_two_pow]
    by_cases hj:n=j
    ·subst hj;simp[hm]
    ·have:decide (j<n+1)=decide (j<n):=by congr 1;apply propext;omega
     rw[this];simp[hj]
 intro n hi
 rw[key n i];simp[hi]
theorem UM{ops:List Oper}{ts:List Nat}(h1:gL ops (masks ops [])=true)(h2:rF (qj ops (masks ops [])) ts=true):vZ ops ts=true:=by
 unfold vZ
 unfold gL at h1
 unfold rF at h2
 generalize masks ops []=ms at *
 simp only[all_eq_true,mem_range]at h1 ⊢
 intro i hi
 have h1:=h1 i hi
 rw[List.getElem?_eq_getElem hi]at h1 ⊢
 simp only[Bool.and_eq_true,all_eq_true,mem_range]at h1 ⊢
 refine⟨⟨h1.1.1,h1.1.2⟩,λj hj=>?_⟩
 have hz:=h1.2 j hj
 cases hb:(ms.getD i 0).testBit j with
 | true=>simp
 | false=>
  rw[hb]at hz
  have hzz:∀k,(ops.map λ_=>0).getD k 0=0:=by
   intro k
   rw[List.getD_eq_getElem?_getD,List.getElem?_map]
   cases ops[k]?<;>rfl
  rw[hzz,hzz]at hz
  simp only[Bool.false_or,Bool.not_eq_true',Bool.or_false]at hz ⊢
  have hlen:(qj ops ms).length=ops.length:=by simp[qj]
  have h2:=yc h2 (i:=i) (by omega)
  have hun:(qj ops ms).getD i 0=(List.range i).foldl (λu j=>if (ms.getD i 0).testBit j then u else u ||| (1 <<<j)) 0:=by
   rw[List.getD_eq_getElem?_getD,qj,List.getElem?_map,List.getElem?_range hi]
   rfl
  have ht:((co (ts.getD j 0)==2 && co (ts.getD i 0) !=0) || (co (ts.getD i 0)==2 && co (ts.getD j 0) !=0))=false:=by
   simp only[Bool.or_eq_true]at h2
   rcases h2 with h2 | h2
   ·have:co (ts.getD i 0)=0:=by simpa using h2
    rw[this];simp
   ·have:=yc h2 hj
    rw[hun,Fb i hj,hb]at this
    simp only[Bool.not_false,Bool.not_true,Bool.false_or,Bool.not_eq_true']at this
    exact this
  unfold clash at hz ⊢
  simp only[Bool.or_eq_false_iff]at hz ht ⊢
  exact⟨⟨⟨hz.1.1.1,hz.1.1.2⟩,ht.1⟩,ht.2⟩
theorem UN{ops:List Oper}{ts:List Nat}(h1:gL ops (masks ops [])=true){b:Nat}(h2:Bn (qj ops (masks ops [])) ts b=true):zw ops ts b=true:=by
 unfold zw
 unfold gL at h1
 unfold Bn at h2
 generalize masks ops []=ms at *
 have hlen:(qj ops ms).length=ops.length:=by simp[qj]
 simp only[Bool.and_eq_true,all_eq_true,mem_range,hlen]at h1 h2 ⊢
 obtain⟨⟨⟨g1,g2⟩,g3⟩,h2⟩:=h2
 have hbu:∀i,i<ops.length→(qj ops ms).getD i 0=(List.range i).foldl (λu j=>if (ms.getD i 0).testBit j then u else u ||| (1 <<<j)) 0:=λi hi=>by
  rw[List.getD_eq_getElem?_getD,qj,List.getElem?_map,List.getElem?_range hi]
  rfl
 refine⟨⟨⟨g1,g2⟩,?_⟩,λi hi=>?_⟩
 ·have g2:=of_decide_eq_true g2
  rcases Nat.lt_or_ge b ops.length with hb | hb
  ·simp only[Bool.or_eq_true,decide_eq_true_eq,all_eq_true,mem_range]at g3 ⊢
   rcases g3 with g3 | g3
   ·exact .inl g3
   ·refine .inr λj hj=>?_
    rcases g3 j hj with g | g
    ·exact .inl g
    ·rw[hbu b hb,Fb b hj]at g
     exact .inr (by simpa using g)
  ·have:b=ops.length:=by omega
   simp[this]
 have h1:=h1 i hi
 rw[List.getElem?_eq_getElem hi]at h1 ⊢
 simp only[Bool.and_eq_true,all_eq_true,mem_range]at h1 ⊢
 refine⟨⟨h1.1.1,h1.1.2⟩,λj hj=>?_⟩
 have hz:=h1.2 j hj
 cases hb:(ms.getD i 0).testBit j with
 | true=>simp
 | false=>
  rw[hb]at hz
  have hzz:∀k,(ops.map λ_=>0).getD k 0=0:=by
   intro k
   rw[List.getD_eq_getElem?_getD,List.getElem?_map]
   cases ops[k]?<;>rfl
  rw[hzz,hzz]at hz
  simp only[Bool.false_or,Bool.not_eq_true',Bool.or_false]at hz ⊢
  have hun:(qj ops ms).getD i 0=(List.range i).foldl (λu j=>if (ms.getD i 0).testBit j then u else u ||| (1 <<<j)) 0:=by
   rw[List.getD_eq_getElem?_getD,qj,List.getElem?_map,List.getElem?_range hi]
   rfl
  have:=h2 i hi j hj
  rw[hun,Fb i hj,hb]at this
  simp only[Bool.not_false,Bool.not_true,Bool.false_or,Bool.not_eq_true']at this
  rw[this,Bool.or_false]
  exact hz
theorem YS{ops:List Oper}{ts:List Nat}(h1:gL ops (masks ops [])=true)(h2:oM (qj ops (masks ops [])) ts=true):vZ ops ts=true∨∃b,zw ops ts b=true:=by
 unfold oM at h2
 rcases Bool.or_eq_true _ _ ▸ h2 with h2 | h2
 ·exact .inl (UM h1 h2)
 ·exact .inr ⟨_,UN h1 h2⟩
theorem Jt{base av:Nat→Prop}{V:Wz→Prop}{ops:List Oper}{Qm:Exit→Act→World→Prop}(hD:∀t,je P t (D t))(hT:xh P T.fn)(hY:YOk P l base av V T) :
  ∀(sw:List Oper) (ss:List Step) (k:Nat) (S:St) (ts:List Nat) (K:St→List Nat→Prop) (blk:Nat→Option Nat) (a:Act) (w:World),ss.map Bo=sw.map (stepOf ops)→(∀j,sw[j]?=ops[k+j]?)→
   LR P D T ss S ts K→sF base av V S blk a w→(∀S' ts' aA a' w',K S' ts'→sF base av V S' aA a' w'→Qm .normal a' w')→wpOpsIn (GZ l) 0 P ops.toArray Qm (List.range' k sw.length) a w
 | [],ss,k,S,ts,K,blk,a,w,he,_,h,R,hq=>by
  have:ss=[]:=by simpa using he
  subst this
  exact hq S ts blk a w h R
 | o::sw,ss,k,S,ts,K,blk,a,w,he,hl,h,R,hq=>by
  cases ss with
  | nil=>simp at he
  | cons s ss=>
   simp only[List.map_cons,List.cons.injEq]at he
   obtain⟨he1,he2⟩:=he
   have hd:s.dst=o.dst:=congrArg (λx:Step=>x.dst) he1
   have hop:s.op=o.op:=congrArg (λx:Step=>x.op) he1
   have hg:s.g=(stepOf ops o).g:=(congrArg (λx:Step=>x.g) he1:(Bo s).g=(stepOf ops o).g)
   have h0:ops.toArray[k]?=some o:=by simpa using (hl 0).symm
   have hl':∀j,sw[j]?=ops[k+1+j]?:=λj=>by have:=hl (j+1);simpa[Nat.add_assoc,Nat.add_comm 1 j] using this
   simp only[List.length_cons,List.range'_succ,wpOpsIn,h0]
   unfold LR at h
   rw[hg]at h
   rcases xX R.choose_spec.2 (Js h) o rfl with ⟨hw,hx⟩ | ⟨hw,hy⟩
   ·rw[if_pos hw]
    rw[hop]at hx
    refine adn hD hT hY R hx λr objs' t v w' aA hK R' hr=>?_
    rw[hd]at hK
    obtain⟨w0,hV,R0⟩:=R'
    exact Jt hD hT hY sw ss (k+1) _ _ K aA _ w' he2 hl' hK ⟨w0,hV,R0.put hr o.dst⟩ hq
   ·rw[if_neg (by rw[hw];simp)]
    rw[hd]at hy
    obtain⟨w0,hV,R0⟩:=R
    exact⟨λ_ _=>trivial,Jt hD hT hY sw ss (k+1) _ _ K blk _ w he2 hl' hy ⟨w0,hV,R0.put (zu _ _ _ _) o.dst⟩ hq⟩
theorem YOk.noY {base av:Nat→Prop}{V:Wz→Prop}:YOk P l base av V T.noY:=λ_ _ _ _ _ _ _ _ _ _ h=>h.elim
theorem YOk.inner {base av:Nat→Prop}{V:Wz→Prop}{n:Nat}:YOk P l base av V (T.inner n):=λ_ _ _ _ _ _ _ _ _ _ h=>h.elim
end Lp
namespace Lp
open Go
open Nat (le_of_eq le_trans lt_of_lt_of_le)
variable {P:Program}{D:TypeId→aH}{T:Know}{l:Option Nat}
def Yof(ys:List (List PV))(I J:Nat→List Obj→Prop):YT:=λargs objs K=>∃i,I i objs∧ys[i]?=some args∧(∀objs',I (i+1) objs'→K true objs')∧∀objs',J i objs'→K false objs'
def aa7:Act:={ tmps:=#[],defers:=[] }
def Rf(y:Nat)(Y:YT):Know:=⟨λ_ _ _ _=>False,y,Y,false,λ_ _ _=>False,0,true⟩
def Gives(P:Program)(g:FuncId)(cap:List PV)(ys:List (List PV)):Prop:=
 Enters P g∧
 ∀(I J:Nat→List Obj→Prop) (base av:Nat→Prop) (V:Wz→Prop) (y:Nat) (objs:List Obj) (blk:Nat→Option Nat) (w:World) (KX:List Value),
  YOk P none base av V (Rf y (Yof ys I J))→(∀w0,V w0→w0.nx≤objs.length)→sF base av V ⟨[],objs⟩ blk aa7 w→I 0 objs→(∀i O,I i O→objs.length≤O.length∧kL O)→(∀i O,J i O→objs.length≤O.length∧kL O)→dB (dM w (bZ base objs blk)) cap KX→
  Calls P g ⟨.func (.yield y) #[] #[]::KX⟩ w λe w'=>∃objs' aA,e=.returned (.tuple #[])∧(I ys.length objs'∨∃i,i<ys.length∧J i objs')∧sF base av V ⟨[],objs'⟩ aA aa7 w'
def jF(x:Go.Obj):Prop:=(∃c t y,x=.cells c t y)∨(∃es n,x=.map es n)∨∃a b c d,x=.mapIter a b c d
theorem CV(ty:TypeId)(sz:Nat)(c:Array Value):jF (oG ty sz c):=by
 unfold oG
 split
 ·split
  ·exact .inr (.inl ⟨_,_,rfl⟩)
  ·exact .inr (.inr ⟨_,_,_,_,rfl⟩)
 ·exact .inl ⟨_,_,_,rfl⟩
section
variable {base av:Nat→Prop}{w0:Wz}{S:St}{blk:Nat→Option Nat}{a:Act}{w:World}
theorem oI.cells {w w':World}(h:∀(k:Nat) x,w.heap[k]?=some x→jF x→w'.heap[k]?=some x)(objs:List Obj)(blk:Nat→Option Nat):oI w w' objs objs blk blk:=
 λ_ o ho=>⟨o,ho,Nat.le_refl _,λhl _=>⟨hl,rfl,rfl,rfl,λ_=>rfl,λg c _ hc=>⟨c,h g _ hc (.inl ⟨c,_,_,rfl⟩),rfl⟩⟩⟩
theorem dP.cells {objs:List Obj}{w w':World}{AO:Nat→Prop}(R:dP base av objs blk w)(hs:w.heap.size≤w'.heap.size)(h:∀(k:Nat) x,w.heap[k]?=some x→jF x→w'.heap[k]?=some x)
  (hnp:∀k o g,objs[k]?=some o→o.live=true→blk k=some g→¬ AO g):dP base AO objs blk w':=by
 refine⟨λk o h1 h4=>?_,R.KL,hnp⟩
 have hh:=R.ob k o h1 h4
 unfold dA at hh ⊢
 cases hg:blk k with
 | none=>rw[hg]at hh;exact hh
 | some g=>
  rw[hg]at hh
  obtain⟨c,x1,x2,x3⟩:=hh
  refine⟨c,h g _ x1 (CV _ _ _),x2,λi x hx=>⟨(x3 i x hx).1,λj p hp=>?_⟩⟩
  obtain⟨v,y1,y2⟩:=(x3 i x hx).2 j p hp
  exact⟨v,y1,y2.uH hs (λ_ _ h=>h) (λk x _ hx hcx=>h k x hx (.inl hcx)) (.cells h _ _)⟩
theorem gY{ok:Nat→Prop}{objs:List Obj}{w w':World}{p:PV}{v:Value}(R:aY w ok objs blk p v)(hs:w.heap.size≤w'.heap.size)(h:∀(k:Nat) x,w.heap[k]?=some x→jF x→w'.heap[k]?=some x) :
  aY w' ok objs blk p v:=R.uH hs (λ_ _ h=>h) (λk x _ hx hcx=>h k x hx (.inl hcx)) (.cells h _ _)
theorem Xy{ok:Nat→Prop}{objs:List Obj}{p:PV}{v:Value}(h:bJ w ok objs blk p v):p.xG objs.length=true:=by
 cases p<;>simp only[PV.xG,decide_eq_true_eq]<;> (obtain⟨_,o,ho,_⟩:=h;exact (List.getElem?_eq_some_iff.1 ho).1)
theorem Ie{ok:Nat→Prop}{objs:List Obj}{cs:List PV}{vs:List Value}(h:dB (bJ w ok objs blk) cs vs):cs.all (PV.xG objs.length)=true:=by
 rw[List.all_eq_true]
 intro p hp
 obtain⟨i,hi,rfl⟩:=List.mem_iff_getElem.1 hp
 exact Xy (h.2 i cs[i] (vs[i]'(by rw[←h.1];exact hi)) (List.getElem?_eq_getElem hi) (List.getElem?_eq_getElem _))
theorem Ig{ok:Nat→Prop}{objs:List Obj}{p:PV}{v:Value}(h:aY w ok objs blk p v):p.lt objs.length=true:=by
 have hS:bJ w ok objs blk p v→p.xG objs.length=true:=Xy
 cases p
 case fn f a c=>obtain⟨va,vc,rfl,h1,h2⟩:=h;simp only[PV.lt,Ie h1,Ie h2,Bool.and_self]
 case bY cs=>obtain⟨vs,rfl,h1⟩:=h;exact Ie h1
 case agg cs=>obtain⟨vs,rfl,h1⟩:=h;exact Ie h1
 all_goals exact hS h
theorem Xz{p:PV}{n:Nat}(h:p.pure=true):p.lt n=true:=by
 have hS:∀p:PV,(!p.ref)=true→p.xG n=true:=λp h=>by cases p<;>first | rfl | (simp[PV.ref]at h)
 cases p<;>simp only[PV.pure,Bool.and_eq_true,List.all_eq_true]at h<;>simp only[PV.lt,Bool.and_eq_true,List.all_eq_true]<;>first
  | rfl
  | exact⟨λq hq=>hS q (h.1 q hq),λq hq=>hS q (h.2 q hq)⟩
  | exact λq hq=>hS q (h q hq)
  | cases h
def pairs(tm:List PV)(vs:Array Value):List (PV×Value):=tm.zip vs.toList
theorem mX{tm:List PV}{vs:Array Value}{x:PV×Value}(h:x∈pairs tm vs):∃t:Nat,tm[t]?=some x.1∧vs.getD t undef=x.2:=by
 obtain⟨i,hi⟩:=List.mem_iff_getElem?.1 h
 rw[pairs,List.getElem?_zip_eq_some]at hi
 refine⟨i,hi.1,?_⟩
 rw[Array.getD_eq_getD_getElem?,←Array.getElem?_toList,hi.2]
 rfl
theorem oN{tm:List PV}{vs:Array Value}(hl:vs.size=tm.length){t:Nat}{p:PV}(h:tm[t]?=some p):(p,vs.getD t undef)∈pairs tm vs:=by
 refine List.mem_iff_getElem?.2 ⟨t,?_⟩
 rw[pairs,List.getElem?_zip_eq_some]
 have hlt:t<vs.size:=by rw[hl];exact (List.getElem?_eq_some_iff.1 h).1
 refine⟨h,?_⟩
 rw[Array.getD_eq_getD_getElem?,Array.getElem?_toList,Array.getElem?_eq_getElem hlt]
 rfl
theorem Ju{R:PV→Value→Prop}(agq:∀v,R .dead v):∀(ps:List Nat) (args:List PV) (vs:List Value) (tm:List PV) (xs:Array Value),args.length=vs.length→xs.size=tm.length→
  (∀(t:Nat) (p:PV),tm[t]?=some p→R p (xs.getD t undef))→(∀(i:Nat) (p:PV) (v:Value),args[i]?=some p→vs[i]?=some v→R p v)→
  ((ps.zip vs).foldl (λt (p,v)=>t.setIfInBounds p v) xs).size=(rG ps args tm).length∧∀(t:Nat) (p:PV),(rG ps args tm)[t]?=some p→R p (((ps.zip vs).foldl (λt (p,v)=>t.setIfInBounds p v) xs).getD t undef)
 | [],args,vs,tm,xs,_,hs,h,_=>by cases args<;>exact⟨hs,h⟩
 | p::ps,[],vs,tm,xs,hl,hs,h,_=>by
  have:vs=[]:=by cases vs<;>simp_all
  subst this
  exact⟨hs,h⟩
 | p::ps,q::args,[],tm,xs,hl,hs,h,_=>by simp at hl
 | p::ps,q::args,v::vs,tm,xs,hl,hs,h,ha=>by
  simp only[rG,List.zip_cons_cons,List.foldl_cons]
  refine Ju agq ps args vs (tm.set p q) (xs.setIfInBounds p v) (by simpa using hl) (by simpa using hs) (λt r hr=>?_) (λi r u h1 h2=>ha (i+1) r u (by simpa using h1) (by simpa using h2))
  rw[qX]
  rw[List.getElem?_set]at hr
  by_cases hpt:p=t
  ·subst hpt
   rw[if_pos rfl]at hr
   split at hr
   ·cases hr
    rename_i hlt
    rw[if_pos ⟨rfl,by omega⟩]
    exact ha 0 q v rfl rfl
   ·cases hr
  ·rw[if_neg hpt]at hr
   rw[if_neg (λe=>hpt e.1)]
   exact h t r hr
theorem jY{w:World}{k:Nat}{o o':Go.Obj}(ho:w.heap[k]?=some o)(hn:¬ jF o):∀(j:Nat) x,w.heap[j]?=some x→jF x→(w.putObj k o').heap[j]?=some x:=by
 intro j x hx hc
 rw[World.putObj_heap_other (λe=>hn (by subst e;rw[ho]at hx;cases hx;exact hc))]
 exact hx
def E0(n:Nat):Env:=λ_ _ V=>∀w0,V w0→w0.nx≤n
theorem aa8{f:Operand}{ps:List Nat}{x y:Code}{fz:Option (Nat×Nat)}{g:FuncId}{cap:List PV}{ys:List (List PV)}{I:Nat→List Obj→Prop}
  (hg:Gives P g cap ys) (hys:∀y∈ys,y.length=ps.length) (hI0:I 0 S.objs) (KY:∀i objs,I i objs→S.objs.length≤objs.length∧kL objs) (R:Rel base av w0 S blk a w) (hx:w0.xs=[]) (hf:S.ev f=.fn g [] cap) (hcap:cap.all PV.pure=true) (hfz:KW S.objs.length fz)
  (tX:∀i args objs,I i objs→ys[i]?=some args→∀l0,PW P (some l0) (E0 S.objs.length) x (thenS (λS1=>PW P (some l0) (E0 S.objs.length) y (UL fz (I (i+1))) S1) (λ_ _=>False)) ⟨rG ps args S.tmps,objs⟩) :
  (Code.rangeFunc f ps.toArray x y).wpIn (GZ none) 0 P (λe a' w'=>∃objs' aA,e=.normal∧I ys.length objs'∧Rel base av w0 ⟨S.tmps,objs'⟩ aA a' w') a w:=by
 refine wpIn_rangeFunc λfn _=>?_
 have hff:=R.ev f
 rw[hf]at hff
 obtain⟨va,vc,hv,r1,r2⟩:=hff
 have hva:va=[]:=List.eq_nil_of_length_eq_zero r1.1.symm
 subst hva
 obtain⟨rec,hrec⟩:∃rec:LoopState→Loop,rec=λst=>{ state:=st,pending:=none,fn,tmps:=a.tmps,params:=ps.toArray,assign:=x,body:=y,defers:=w.heap.size }:=⟨_,rfl⟩
 obtain⟨W1,hW1⟩:∃W1,(w.alloc (.deferred (some []))).alloc (.loop (rec .ready))=W1:=⟨_,rfl⟩
 have hL1:W1.heap[w.heap.size+1]?=some (.loop (rec .ready)):=by
  rw[←hW1];have:=World.alloc_heap_new (w.alloc (.deferred (some []))) (.loop (rec .ready));rwa[World.size_alloc]at this
 have hK1:W1.heap[w.heap.size]?=some (.deferred (some [])):=by
  rw[←hW1];exact (lS.push (w:=w.alloc (.deferred (some []))) (w':=(w.alloc (.deferred (some []))).alloc (.loop (rec .ready))) rfl).2.1 _ _ (World.alloc_heap_new w _)
 have hs1:W1.heap.size=w.heap.size+2:=by rw[←hW1,World.size_alloc,World.size_alloc]
 have yg:lS w W1:=by
  rw[←hW1]
  exact (lS.push (w':=w.alloc (.deferred (some []))) rfl).trans (lS.push rfl)
 have hnl:∀k,w.heap.size≤k→aZ S.objs blk k:=λk hk j o h1 h2 h3=>by
  have:=H9 R.objs h1 h2 h3;omega
 obtain⟨⟨fng,hfn,hname,hbody⟩,hgive⟩:=hg
 refine⟨w.heap.size+1,[{ target:=.collected w.heap.size,args:=#[] }],W1,{ target:=.fn (.func g) ⟨vc⟩,args:=#[.func (.yield (w.heap.size+1)) #[] #[]] },W1,g,
  ⟨.func (.yield (w.heap.size+1)) #[] #[]::vc⟩,W1,?_,?_,λ_ _=>trivial,?_,(λh=>by cases h),?_⟩
 ·rw[←hW1,hrec];exact run_enterLoop_outer _ _ _ _ _
 ·simp only[resolve,hv]
  simp[go_sem]
 ·have e1:(#[.func (.yield (w.heap.size+1)) #[] #[]]:Array Value)++Array.mk vc=Array.mk (.func (.yield (w.heap.size+1)) #[] #[]::vc):=by apply Array.ext';simp
  simp only[invoke,callFunc,run_program,Sem.run_bind,Result.andThen_ok,hfn,hname,hbody,Bool.false_eq_true,if_false,Sem.run_pure]
  rw[e1]
 ·rw[show (0-1:Nat)=0 from rfl]
  refine callsIn_wide.2 ?_
  obtain⟨l0,hl0⟩:∃l0,l0=w.heap.size+1:=⟨_,rfl⟩
  rw[←hl0]at hL1 ⊢
  obtain⟨kD,hprot2⟩:∃kD:Nat→Prop,kD=λb=>b<W1.heap.size∧aZ S.objs blk b:=⟨_,rfl⟩
  obtain⟨V2,hV2⟩:∃V2:Wz→Prop,V2=λz=>z=⟨W1.heap,pairs S.tmps a.tmps,S.objs.length,w⟩:=⟨_,rfl⟩
  have Rh:kD l0:=by rw[hprot2];exact⟨by omega,hnl _ (by omega)⟩
  have hpD:kD w.heap.size:=by rw[hprot2];exact⟨by omega,hnl _ (Nat.le_refl _)⟩
  have hR1:=R.grew yg
  have afg:∀b,¬ kD b→base b:=by
   intro b hb
   rw[hprot2]at hb
   by_cases h:av b
   ·exact absurd ⟨lt_of_lt_of_le (R.pr b h) (le_trans R.gr (by omega)),λk o h1 h2 h3=>R.objs.np k o b h1 h2 h3 h⟩ hb
   ·exact R.pb b h
  have afh:∀k o g,S.objs[k]?=some o→o.live=true→blk k=some g→¬ kD g:=by
   intro k o g h1 h2 h3 h4
   rw[hprot2]at h4
   exact h4.2 k o h1 h2 h3
  have hext:∀x∈pairs S.tmps a.tmps,aY W1 (bZ base S.objs blk) S.objs blk x.1 x.2:=by
   intro x hx
   obtain⟨t,h1,h2⟩:=mX hx
   rw[←h2]
   exact hR1.tm t x.1 h1
  have YU:∀b∈tO.blocks,b<w.heap.size:=λb hb=>lt_of_lt_of_le (R.pr b (R.gl.2 b hb)) R.gr
  have Ri:∀b∈tO.blocks,kD b:=λb hb=>by
   rw[hprot2];exact⟨by have:=YU b hb;omega,λk o h1 h2 h3=>R.objs.np k o b h1 h2 h3 (R.gl.2 b hb)⟩
  have afi:Rel base kD ⟨W1.heap,pairs S.tmps a.tmps,S.objs.length,w⟩ ⟨[],S.objs⟩ blk aa7 W1:=by
   refine⟨.nil _ _,rfl,λt p hp=>by simp at hp,⟨hR1.objs.ob,R.objs.KL,afh⟩,λb hb=>by rw[hprot2]at hb;exact hb.1,λ_ _=>rfl,Nat.le_refl _,afg,hext,λx hx=>Ig (hext x hx),yg.2.2,⟨hR1.oH,Ri⟩⟩
  have hcapR:dB (dM W1 (bZ base S.objs blk)) cap vc:=by
   refine⟨r2.1,λi p v hp hv=>?_⟩
   have hpp:=List.all_eq_true.1 hcap p (List.mem_of_getElem? hp)
   have h1:aY w (bZ base S.objs blk) S.objs blk p v:=.lQ (r2.2 i p v hp hv)
   exact (h1.Ct hpp).mono yg.1 (λ_ _ h=>h) (λb x _ h=>yg.2.1 b x h)
  have afj:YOk P none base kD V2 (Rf l0 (Yof ys I λ_ _=>False)):=by
   rintro S2 jr a2 w2 args vs K ⟨z,hz,R2⟩ hpt hargs ⟨i,hIi,hyi,hK,_⟩
   rw[hV2]at hz
   subst hz
   have hL2:w2.heap[l0]?=some (.loop (rec .ready)):=(R2.fr l0 Rh).trans hL1
   have hlen:args.length=ps.length:=hys args (List.mem_of_getElem? hyi)
   refine⟨rec .ready,hL2,by rw[hrec];simp[←hargs.1,hlen],?_⟩
   rw[show (Rf l0 (Yof ys I λ_ _=>False)).y=l0 from rfl]
   refine roundIn_of_wpIn trivial ?_
   have hlt2:l0<w2.heap.size:=(Array.getElem?_eq_some_iff.1 hL2).1
   obtain⟨gM,hprot3⟩:∃gM:Nat→Prop,gM=λb=>b<w2.heap.size∧aZ S2.objs jr b:=⟨_,rfl⟩
   obtain⟨Jv,hxs3⟩:∃Jv,Jv=pairs S.tmps a.tmps++pairs S2.tmps a2.tmps:=⟨_,rfl⟩
   have h23:∀b,kD b→gM b:=by
    intro b hb
    rw[hprot3]
    exact⟨lt_of_lt_of_le (R2.pr b hb) R2.gr,λk o h1 h2 h3=>R2.objs.np k o b h1 h2 h3 hb⟩
   have aa9:∀b,¬ gM b→base b:=λb hb=>R2.pb b λh=>hb (h23 b h)
   have afk:∀k o g,S2.objs[k]?=some o→o.live=true→jr k=some g→¬ gM g:=by
    intro k o g h1 h2 h3 h4
    rw[hprot3]at h4
    exact h4.2 k o h1 h2 h3
   have aa_:∀x∈Jv,aY w2 (bZ base S2.objs jr) S2.objs jr x.1 x.2:=by
    intro x hx
    rw[hxs3]at hx
    rcases List.mem_append.1 hx with hx | hx
    ·exact R2.ext x hx
    ·obtain⟨t,h1,h2⟩:=mX hx
     rw[←h2]
     exact R2.tm t x.1 h1
   have abb:∀x∈Jv,x.1.lt S.objs.length=true:=by
    intro x hx
    rw[hxs3]at hx
    rcases List.mem_append.1 hx with hx | hx
    ·exact R2.MJ x hx
    ·obtain⟨t,h1,_⟩:=mX hx
     exact Xz (List.all_eq_true.1 hpt x.1 (List.mem_of_getElem? h1))
   obtain⟨tm0,htm0⟩:∃tm0,tm0=(((rec .ready).params.zip (⟨vs⟩:Array Value)).foldl (λt (p,v)=>t.setIfInBounds p v) (rec .ready).tmps):=⟨_,rfl⟩
   rw[←htm0]
   have Rj:tm0=(ps.zip vs).foldl (λt (p,v)=>t.setIfInBounds p v) a.tmps:=by
    rw[htm0,hrec]
    simp only[]
    rw[←Array.foldl_toList]
    simp
   have hset:=Ju (R:=aY w2 (bZ base S2.objs jr) S2.objs jr) (λv=>.dead v) ps args vs S.tmps a.tmps hargs.1 R.EU
    (λt p hp=>R2.ext (p,a.tmps.getD t undef) (oN R.EU hp)) (λi p v h1 h2=>.aM (hargs.2 i p v h1 h2))
   have Rr:Rel base gM ⟨w2.heap,Jv,S.objs.length,w⟩ ⟨rG ps args S.tmps,S2.objs⟩ jr { tmps:=tm0,defers:=[] } w2:=by
    refine⟨.nil _ _,by rw[Rj];exact hset.1,λt p hp=>by rw[Rj];exact hset.2 t p hp,⟨R2.objs.ob,R2.objs.KL,afk⟩,λb hb=>by rw[hprot3]at hb;exact hb.1,λ_ _=>rfl,Nat.le_refl _,aa9,aa_,abb,R2.sm,⟨R2.oH,λb hb=>h23 b (Ri b hb)⟩⟩
   have Ob:=tX i args S2.objs hIi hyi l0 base gM (λz=>z=⟨w2.heap,Jv,S.objs.length,w⟩) (by rintro z rfl;exact Nat.le_refl _) jr _ w2 ⟨_,rfl,Rr⟩
   rw[show (rec .ready).assign=x by rw[hrec],show (rec .ready).body=y by rw[hrec]]
   change x.wpIn (GZ (some l0)) 0 P _ _ _
   refine wpIn_mono Ob ?_
   rintro e a3 w3 ⟨S3,abd,he,z,rfl,R3⟩
   cases e with
   | normal=>
    have hp3:gM l0:=h23 l0 Rh
    have hL3:w3.heap[l0]?=some (.loop (rec .ready)):=(R3.fr l0 hp3).trans hL2
    refine⟨_,run_beginRound hL3 (by rw[hrec]),?_⟩
    have abe:({ rec .ready with state:=.busy }:Loop)=rec .busy:=by rw[hrec]
    rw[abe]
    obtain⟨w4,hw4⟩:∃w4,w4=w3.putObj l0 (.loop (rec .busy)):=⟨_,rfl⟩
    rw[←hw4]
    have hnc:∀st,¬ jF (.loop (rec st)):=by rintro st (⟨c,t,y,h⟩ | ⟨es,n,h⟩ | ⟨_,_,_,_,h⟩)<;>cases h
    have UO:∀(k:Nat) x,w3.heap[k]?=some x→jF x→w4.heap[k]?=some x:=by rw[hw4];exact jY hL3 (hnc _)
    have hs4:w4.heap.size=w3.heap.size:=by rw[hw4];exact World.putObj_size
    have ho4:∀k:Nat,k≠l0→w4.heap[k]?=w3.heap[k]?:=λk hk=>by rw[hw4];exact World.putObj_heap_other hk
    have afl:l0<w3.heap.size:=(Array.getElem?_eq_some_iff.1 hL3).1
    have hL4:w4.heap[l0]?=some (.loop (rec .busy)):=by rw[hw4];exact World.putObj_heap_same afl
    have afm:∀b,gM b→b<w2.heap.size:=λb hb=>by rw[hprot3]at hb;exact hb.1
    have ahG:w2.heap.size≤w3.heap.size:=R3.gr
    have R4:Rel base gM ⟨w4.heap,Jv,S.objs.length,w⟩ S3 abd a3 w4:=by
     refine⟨?_,R3.EU,λt p hp=>gY (R3.tm t p hp) (le_of_eq hs4.symm) UO,R3.objs.cells (le_of_eq hs4.symm) UO R3.objs.np,λb hb=>?_,λ_ _=>rfl,Nat.le_refl _,aa9,λx hx=>gY (R3.ext x hx) (le_of_eq hs4.symm) UO,R3.MJ,R3.sm.trans (by rw[hw4];exact⟨rfl,rfl⟩),⟨tO.keep (λb hb=>ho4 b (by have:=YU b hb;omega)) R3.oH,λb hb=>h23 b (Ri b hb)⟩⟩
     ·obtain⟨Ds,h1,h2,h3⟩:=R3.pJ
      refine⟨Ds,h1,h2,λb hb=>?_⟩
      rw[ho4 b (λe=>(h3 b hb).2.2 (e ▸ hp3))]
      exact h3 b hb
     ·have:=afm b hb;show b<w4.heap.size;omega
    have hbody:=he base gM (λz=>z=⟨w4.heap,Jv,S.objs.length,w⟩) (by rintro z rfl;exact Nat.le_refl _) abd a3 w4 ⟨_,rfl,R4⟩
    refine wpIn_mono hbody ?_
    rintro e a5 w5 ⟨S5,blk5,he5,z,rfl,R5⟩
    cases e with
    | normal=>
     have hL5:w5.heap[l0]?=some (.loop (rec .busy)):=(R5.fr l0 hp3).trans hL4
     refine⟨_,_,run_endRound none hL5,?_⟩
     have UQ:({ rec .busy with state:=if (none:Option Code).isNone then .ready else .done,pending:=none }:Loop)=rec .ready:=by rw[hrec];rfl
     rw[UQ]
     obtain⟨w6,hw6⟩:∃w6,w6=w5.putObj l0 (.loop (rec .ready)):=⟨_,rfl⟩
     rw[←hw6]
     obtain⟨Jw,R6⟩:=Weak.norm (m:=S.objs.length) [] fz hfz S5 base gM _ blk5 a5 w5 (Nat.le_refl _) R5
     have Jy:∀(k:Nat) x,w5.heap[k]?=some x→jF x→w6.heap[k]?=some x:=by rw[hw6];exact jY hL5 (hnc _)
     have hs6:w6.heap.size=w5.heap.size:=by rw[hw6];exact World.putObj_size
     have ho6:∀k:Nat,k≠l0→w6.heap[k]?=w5.heap[k]?:=λk hk=>by rw[hw6];exact World.putObj_heap_other hk
     have hl5:l0<w5.heap.size:=(Array.getElem?_eq_some_iff.1 hL5).1
     have agr:w4.heap.size≤w5.heap.size:=R5.gr
     have hall:∀b,gM b→w6.heap[b]?=w2.heap[b]?:=by
      intro b hb
      by_cases hbl:b=l0
      ·subst hbl
       rw[hL2,hw6,World.putObj_heap_same hl5]
      ·rw[ho6 b hbl,R5.fr b hb]
       show w4.heap[b]?=_
       rw[ho4 b hbl]
       exact R3.fr b hb
     have abf:∀b,gM b→aZ (S5.norm [] fz).objs Jw b:=λb hb k o h1 h2 h3=>R6.objs.np k o b h1 h2 h3 hb
     refine⟨true,(S5.norm [] fz).objs,Jw,rfl,hK _ he5,⟨W1.heap,pairs S.tmps a.tmps,S.objs.length,w⟩,by rw[hV2],?_⟩
     have abg:∀x∈pairs S.tmps a.tmps,x∈Jv:=λx hx=>by rw[hxs3];exact List.mem_append_left _ hx
     have abh:∀x∈pairs S2.tmps a2.tmps,x∈Jv:=λx hx=>by rw[hxs3];exact List.mem_append_right _ hx
     refine⟨?_,R2.EU,λt p hp=>?_,R6.objs.cells (le_of_eq hs6.symm) Jy (λk o g h1 h2 h3 h4=>R6.objs.np k o g h1 h2 h3 (h23 g h4)),R2.pr,λb hb=>?_,?_,R2.pb,λx hx=>gY (R6.ext x (abg x hx)) (le_of_eq hs6.symm) Jy,R2.MJ,R6.sm.trans (by rw[hw6];exact⟨rfl,rfl⟩),R2.gl⟩
     ·obtain⟨Ds,h1,h2,h3⟩:=R2.pJ
      refine⟨Ds,h1,h2,λb hb=>?_⟩
      obtain⟨q1,q2,q3⟩:=h3 b hb
      have hb3:gM b:=by rw[hprot3];exact⟨(Array.getElem?_eq_some_iff.1 q1).1,q2.2⟩
      exact⟨by rw[hall b hb3];exact q1,⟨q2.1,abf b hb3⟩,q3⟩
     ·exact gY (R6.ext (p,a2.tmps.getD t undef) (abh _ (oN R2.EU hp))) (le_of_eq hs6.symm) Jy
     ·rw[hall b (h23 b hb)];exact R2.fr b hb
     ·have:=R2.gr;show W1.heap.size≤w6.heap.size;simp only at this;omega
    | _=>exact he5.elim
   | _=>exact he.elim
  refine Calls.mono (hgive I (λ_ _=>False) base kD V2 l0 S.objs blk W1 vc afj (λz hz=>by rw[hV2]at hz;rw[hz];exact Nat.le_refl _) ⟨_,by rw[hV2],afi⟩ hI0 KY (λ_ _ h=>h.elim) hcapR) ?_
  rintro e w3 ⟨objs',aA,rfl,hIJ,z,hz,R3⟩
  have hI:I ys.length objs':=hIJ.resolve_right λ⟨_,_,h⟩=>h
  rw[hV2]at hz
  subst hz
  have hL3:w3.heap[l0]?=some (.loop (rec .ready)):=(R3.fr l0 Rh).trans hL1
  have hD3:w3.heap[w.heap.size]?=some (.deferred (some [])):=(R3.fr _ hpD).trans hK1
  have hnc:¬ jF (.loop (rec .ready)):=by rintro (⟨c,t,y,h⟩ | ⟨es,n,h⟩ | ⟨_,_,_,_,h⟩)<;>cases h
  have hend:=run_endLoop (P:=P) hL3 (by rw[hrec];simp)
  refine⟨none,w3.putObj l0 (.loop { rec .ready with state:=.exhausted }),by rw[hend,hrec],?_⟩
  simp only[]
  have hcl:=jY (o':=.loop { rec .ready with state:=.exhausted }) hL3 hnc
  have hsz:(w3.putObj l0 (.loop { rec .ready with state:=.exhausted })).heap.size=w3.heap.size:=World.putObj_size
  have hle:w.heap.size≤w3.heap.size:=by have:=R3.gr;simp only at this;omega
  have hother:∀k:Nat,k≠l0→(w3.putObj l0 (.loop { rec .ready with state:=.exhausted })).heap[k]?=w3.heap[k]?:=λk hk=>World.putObj_heap_other hk
  have hkeep:∀b,b<w.heap.size→aZ S.objs blk b→aZ objs' aA b:=by
   intro b hb hnb k o h1 h2 h3
   refine R3.objs.np k o b h1 h2 h3 ?_
   rw[hprot2];exact⟨by omega,hnb⟩
  have hsame:∀b,b<w.heap.size→aZ S.objs blk b→(w3.putObj l0 (.loop { rec .ready with state:=.exhausted })).heap[b]?=w.heap[b]?:=by
   intro b hb hnb
   rw[hother b (by omega),R3.fr b (by rw[hprot2];exact⟨by omega,hnb⟩)]
   have hbx:w.heap[b]?=some (w.heap[b]):=Array.getElem?_eq_getElem hb
   rw[yg.2.1 b _ hbx,hbx]
  have hpn:∀b,av b→b<w.heap.size∧aZ S.objs blk b:=λb hb=>⟨lt_of_lt_of_le (R.pr b hb) R.gr,λk o h1 h2 h3=>R.objs.np k o b h1 h2 h3 hb⟩
  have afn:∀k o g,objs'[k]?=some o→o.live=true→aA k=some g→¬ av g:=λk o g h1 h2 h3 h4=>hkeep g (hpn g h4).1 (hpn g h4).2 k o h1 h2 h3
  refine⟨objs',aA,trivial,hI,?_,R.EU,λt p hp=>?_,R3.objs.cells (le_of_eq hsz.symm) hcl afn,R.pr,λb hb=>?_,le_trans R.gr (by rw[hsz];exact hle),R.pb,(by rw[hx];intro x h;simp at h),R.MJ,(R.sm.trans R3.sm).trans ⟨rfl,rfl⟩,R.gl⟩
  ·obtain⟨Ds,h1,h2,h3⟩:=R.pJ
   refine⟨w.heap.size::Ds,by simp[h1],List.nodup_cons.2 ⟨λhm=>?_,h2⟩,λb hb=>?_⟩
   ·have:=(Array.getElem?_eq_some_iff.1 (h3 _ hm).1).1;omega
   ·rcases List.mem_cons.1 hb with rfl | hb
    ·refine⟨by rw[hother _ (by omega)];exact hD3,⟨R.bs _ R.gr,λk o h1 h2 h3=>R3.objs.np k o _ h1 h2 h3 hpD⟩,λhp=>by have:=(hpn _ hp).1;omega⟩
    ·obtain⟨q1,q2,q3⟩:=h3 b hb
     have hbs:=(Array.getElem?_eq_some_iff.1 q1).1
     exact⟨by rw[hsame b hbs q2.2];exact q1,⟨q2.1,hkeep b hbs q2.2⟩,q3⟩
  ·exact gY (R3.ext (p,a.tmps.getD t undef) (oN R.EU hp)) (le_of_eq hsz.symm) hcl
  ·rw[hsame b (hpn b hb).1 (hpn b hb).2];exact R.fr b hb
theorem M6(k:Nat)(O:List Obj):(jh k O).length=O.length:=by simp[jh]
theorem qO{k j:Nat}{O:List Obj}(h1:j≠k)(h2:j≠k+1):(jh k O)[j]?=O[j]?:=by
 unfold jh
 rw[List.getElem?_set,if_neg (λe=>h2 e.symm),List.getElem?_set,if_neg (λe=>h1 e.symm)]
theorem Ih{k:Nat}{O:List Obj}(h:k+1<O.length):(jh k O)[k]?=some hole:=by
 unfold jh
 rw[List.getElem?_set,if_neg (by omega),List.getElem?_set];simp;omega
theorem Oc{k:Nat}{O:List Obj}(h:k+1<O.length):(jh k O)[k+1]?=some xN:=by
 unfold jh
 rw[List.getElem?_set];simp;omega
def mh(k:Nat)(blk:Nat→Option Nat):Nat→Option Nat:=λj=>if j=k+1 then none else blk j
theorem wh{k b:Nat}{O:List Obj}{bl:Nat→Option Nat}(hk:k+1<O.length)(h:aZ O bl b):aZ (jh k O) (mh k bl) b:=by
 intro j o h1 h2 h3
 by_cases e2:j=k+1
 ·subst e2;simp[mh]at h3
 ·by_cases e1:j=k
  ·subst e1;rw[Ih hk]at h1;cases h1;cases h2
  ·rw[qO e1 e2]at h1
   refine h j o h1 h2 ?_
   simpa[mh,e2] using h3
theorem uN{k:Nat}{O:List Obj}{bl:Nat→Option Nat}{p:PV}{v:Value}{ok ok':Nat→Prop}(hp:p.xG k=true)(hok:∀b,ok b→ok' b)(h:bJ w ok O bl p v):bJ w ok' (jh k O) (mh k bl) p v:=by
 have hm:∀q:PV,dM w ok q v→dM w ok' q v:=λq hq=>hq.mono (Nat.le_refl _) (λb _ h=>hok b h) (λ_ _ _ h=>h)
 cases p with
 | bO j ver=>
  have hj:j<k:=by simpa[PV.xG] using hp
  obtain⟨h0,o,h1,h2,h3⟩:=h
  refine⟨h0,o,by rw[qO (by omega) (by omega)];exact h1,h2,λe1 e2=>?_⟩
  obtain⟨hM,hh⟩:=h3 e1 e2
  refine⟨hM,?_⟩
  unfold Ab at hh ⊢
  rw[show mh k bl j=bl j by simp[mh];omega]
  exact hh
 | bP j ver i f=>
  have hj:j<k:=by simpa[PV.xG] using hp
  obtain⟨h0,o,h1,h2,h3⟩:=h
  refine⟨h0,o,by rw[qO (by omega) (by omega)];exact h1,h2,λe1 e2=>?_⟩
  rw[show mh k bl j=bl j by simp[mh];omega]
  exact h3 e1 e2
 | mD j ver=>
  have hj:j<k:=by simpa[PV.xG] using hp
  obtain⟨h0,o,h1,h2,h3⟩:=h
  refine⟨h0,o,by rw[qO (by omega) (by omega)];exact h1,h2,λe1 e2=>?_⟩
  rw[show mh k bl j=bl j by simp[mh];omega]
  exact h3 e1 e2
 | _=>exact hm _ h
theorem YV{k:Nat}{O:List Obj}{bl:Nat→Option Nat}{p:PV}{v:Value}{ok ok':Nat→Prop}(hp:p.lt k=true)(hok:∀b,ok b→ok' b)(h:aY w ok O bl p v):aY w ok' (jh k O) (mh k bl) p v:=by
 have hl:∀(cs:List PV) (vs:List Value),cs.all (PV.xG k)=true→dB (bJ w ok O bl) cs vs→dB (bJ w ok' (jh k O) (mh k bl)) cs vs:=
  λcs vs hc h=>⟨h.1,λi p u h1 h2=>uN (List.all_eq_true.1 hc p (List.mem_of_getElem? h1)) hok (h.2 i p u h1 h2)⟩
 cases p with
 | fn f a c=>
  simp only[PV.lt,Bool.and_eq_true]at hp
  obtain⟨va,vc,rfl,h1,h2⟩:=h
  exact⟨va,vc,rfl,hl _ _ hp.1 h1,hl _ _ hp.2 h2⟩
 | bY cs=>obtain⟨us,rfl,h1⟩:=h;exact⟨us,rfl,hl _ _ hp h1⟩
 | agg cs=>obtain⟨us,rfl,h1⟩:=h;exact⟨us,rfl,hl _ _ hp h1⟩
 | bO j ver=>exact uN (p:=.bO j ver) hp hok h
 | bP j ver i f=>exact uN (w:=w) (p:=.bP j ver i f) hp hok h
 | mD j ver=>exact uN (w:=w) (p:=.mD j ver) hp hok h
 | _=>exact .lQ (uN rfl hok (by exact h))
theorem YW{k:Nat}{O:List Obj}{bl:Nat→Option Nat}{AO:Nat→Prop}(R:dP base AO O bl w)(hk:k+1<O.length)(hn:fI O)(hA:O[k]?=some xN) :
  dP base AO (jh k O) (mh k bl) w:=by
 have hok:∀b,bZ base O bl b→bZ base (jh k O) (mh k bl) b:=λb h=>⟨h.1,wh hk h.2⟩
 have get:∀(j:Nat) (o:Obj),(jh k O)[j]?=some o→o.live=true→(j=k+1∧o=xN)∨(j≠k∧j≠k+1∧O[j]?=some o∧mh k bl j=bl j):=by
  intro j o h1 h2
  by_cases e2:j=k+1
  ·subst e2;rw[Oc hk]at h1;cases h1;exact .inl ⟨rfl,rfl⟩
  ·by_cases e1:j=k
   ·subst e1;rw[Ih hk]at h1;cases h1;cases h2
   ·rw[qO e1 e2]at h1;exact .inr ⟨e1,e2,h1,by simp[mh,e2]⟩
 have hB:mh k bl (k+1)=none:=by simp[mh]
 refine⟨λj o h1 h2=>?_,λj j' o o' g hne h1 h2 h3 h4 h5 h6=>?_,λj o g h1 h2 h3=>?_⟩
 ·rcases get j o h1 h2 with ⟨rfl,rfl⟩ | ⟨e1,e2,h1',hb⟩
  ·unfold dA;rw[hB];rfl
  ·have hh:=R.ob j o h1' h2
   unfold dA at hh ⊢
   rw[hb]
   cases hbj:bl j with
   | none=>rw[hbj]at hh;exact hh
   | some g=>
    rw[hbj]at hh
    obtain⟨c,x1,x2,x3⟩:=hh
    refine⟨c,x1,x2,λi x hx=>⟨(x3 i x hx).1,λq p hp=>?_⟩⟩
    obtain⟨u,y1,y2⟩:=(x3 i x hx).2 q p hp
    exact⟨u,y1,.aM ((y2.Ct (hn o (List.mem_of_getElem? h1') x (List.mem_of_getElem? hx) p (List.mem_of_getElem? hp))).qi λb _ hb=>hok b hb)⟩
 ·rcases get j o h1 h2 with ⟨rfl,rfl⟩ | ⟨_,_,h1',hb⟩
  ·rw[hB]at h5;cases h5
  ·rcases get j' o' h3 h4 with ⟨rfl,rfl⟩ | ⟨_,_,h3',hb'⟩
   ·rw[hB]at h6;cases h6
   ·rw[hb]at h5;rw[hb']at h6
    exact R.KL j j' o o' g hne h1' h2 h3' h4 h5 h6
 ·rcases get j o h1 h2 with ⟨rfl,rfl⟩ | ⟨_,_,h1',hb⟩
  ·rw[hB]at h3;cases h3
  ·rw[hb]at h3;exact R.np j o g h1' h2 h3
theorem YX{f:Operand}{ps:List Nat}{x y:Code}{fz:Option (Nat×Nat)}{g:FuncId}{cap:List PV}{ys:List (List PV)}{I J:Nat→List Obj→Prop}{lv:Exit}{lc:Code}
  (hg:Gives P g cap ys) (hys:∀y∈ys,y.length=ps.length) (hlv:Jr lv=some lc) (hI0:I 0 (S.objs++[xN,hole])) (KY:∀i objs,I i objs→Gh S.objs.length objs) (hJl:∀i objs,J i objs→Gh S.objs.length objs∧fI objs) (R:Rel base av w0 S blk a w) (hx:w0.xs=[]) (hf:S.ev f=.fn g [] cap) (hcap:cap.all PV.pure=true) (hfz:KW (S.objs.length+2) fz)
  (tX:∀i args objs,I i objs→ys[i]?=some args→∀l0,PW P (some l0) (E0 (S.objs.length+2)) x (thenS (λS1=>PW P (some l0) (E0 (S.objs.length+2)) y (Oa fz (I (i+1)) lv (J i)) S1) (λ_ _=>False)) ⟨rG ps args S.tmps,objs⟩) :
  (Code.rangeFunc f ps.toArray x y).wpIn (GZ none) 0 P (λe a' w'=>∃objs' aA,((e=.normal∧I ys.length objs')∨(e=lv∧∃i O,i<ys.length∧J i O∧objs'=jh S.objs.length O))∧Rel base av w0 ⟨S.tmps,objs'⟩ aA a' w') a w:=by
 refine wpIn_rangeFunc λfn _=>?_
 have afo:∀t:Nat,∀p,S.tmps[t]?=some p→p.lt S.objs.length=true:=λt p hp=>Ig (R.tm t p hp)
 obtain⟨k,hk⟩:∃k,k=S.objs.length:=⟨_,rfl⟩
 have hff:=R.ev f
 rw[hf]at hff
 obtain⟨va,vc,hv,r1,r2⟩:=hff
 have hva:va=[]:=List.eq_nil_of_length_eq_zero r1.1.symm
 subst hva
 obtain⟨xI,RG,ags⟩:∃xI,Rel base av w0 ⟨S.tmps,S.objs++[xN,hole]⟩ xI a w∧∀b,aZ S.objs blk b→aZ (S.objs++[xN,hole]) xI b:=by
  have g1:=R.EY (o1:=xN) (gb:=none) (lS.refl w) (λg hg=>by cases hg) λ_=>by
   unfold dA aI;rw[if_pos rfl];rfl
  have g2:=g1.EY (o1:=hole) (gb:=none) (lS.refl w) (λg hg=>by cases hg) λ_=>by
   unfold dA aI;rw[if_pos rfl];rfl
  have e1:(S.objs++[xN]).length=S.objs.length+1:=by simp
  have e2:S.objs++[xN]++[hole]=S.objs++[xN,hole]:=by simp
  simp only[e1,e2]at g2
  refine⟨_,g2,λb hn j o h1 h2 h3=>?_⟩
  have hj:j<S.objs.length+2:=by have:=(List.getElem?_eq_some_iff.1 h1).1;simpa using this
  unfold aI at h3
  split at h3
  ·cases h3
  ·split at h3
   ·cases h3
   ·rw[List.getElem?_append_left (by omega)]at h1
    exact hn j o h1 h2 h3
 have hAg:(S.objs++[xN,hole])[S.objs.length]?=some xN:=by simp
 have hBg:(S.objs++[xN,hole])[S.objs.length+1]?=some hole:=by simp
 have hGl:(S.objs++[xN,hole]).length=S.objs.length+2:=by simp
 obtain⟨S',hS'⟩:∃S':St,S'=⟨S.tmps,S.objs++[xN,hole]⟩:=⟨_,rfl⟩
 have hSt:S'.tmps=S.tmps:=by rw[hS']
 have hSo:S'.objs=S.objs++[xN,hole]:=by rw[hS']
 rw[←hS']at RG
 rw[←hSo]at hAg hBg hGl hI0 ags
 rw[←hk]at hAg hBg hGl hfz tX KY hJl afo ⊢
 obtain⟨rec,hrec⟩:∃rec:LoopState→Option Code→Loop,rec=λst pe=>{ state:=st,pending:=pe,fn,tmps:=a.tmps,params:=ps.toArray,assign:=x,body:=y,defers:=w.heap.size }:=⟨_,rfl⟩
 obtain⟨W1,hW1⟩:∃W1,(w.alloc (.deferred (some []))).alloc (.loop (rec .ready none))=W1:=⟨_,rfl⟩
 have hL1:W1.heap[w.heap.size+1]?=some (.loop (rec .ready none)):=by
  rw[←hW1];have:=World.alloc_heap_new (w.alloc (.deferred (some []))) (.loop (rec .ready none));rwa[World.size_alloc]at this
 have hK1:W1.heap[w.heap.size]?=some (.deferred (some [])):=by
  rw[←hW1];exact (lS.push (w:=w.alloc (.deferred (some []))) (w':=(w.alloc (.deferred (some []))).alloc (.loop (rec .ready none))) rfl).2.1 _ _ (World.alloc_heap_new w _)
 have hs1:W1.heap.size=w.heap.size+2:=by rw[←hW1,World.size_alloc,World.size_alloc]
 have yg:lS w W1:=by
  rw[←hW1]
  exact (lS.push (w':=w.alloc (.deferred (some []))) rfl).trans (lS.push rfl)
 have hnl:∀k,w.heap.size≤k→aZ S'.objs xI k:=λk hk j o h1 h2 h3=>by
  have:=H9 RG.objs h1 h2 h3;omega
 obtain⟨⟨fng,hfn,hname,hbody⟩,hgive⟩:=hg
 refine⟨w.heap.size+1,[{ target:=.collected w.heap.size,args:=#[] }],W1,{ target:=.fn (.func g) ⟨vc⟩,args:=#[.func (.yield (w.heap.size+1)) #[] #[]] },W1,g,
  ⟨.func (.yield (w.heap.size+1)) #[] #[]::vc⟩,W1,?_,?_,λ_ _=>trivial,?_,(λh=>by cases h),?_⟩
 ·rw[←hW1,hrec];exact run_enterLoop_outer _ _ _ _ _
 ·simp only[resolve,hv]
  simp[go_sem]
 ·have e1:(#[.func (.yield (w.heap.size+1)) #[] #[]]:Array Value)++Array.mk vc=Array.mk (.func (.yield (w.heap.size+1)) #[] #[]::vc):=by apply Array.ext';simp
  simp only[invoke,callFunc,run_program,Sem.run_bind,Result.andThen_ok,hfn,hname,hbody,Bool.false_eq_true,if_false,Sem.run_pure]
  rw[e1]
 ·rw[show (0-1:Nat)=0 from rfl]
  refine callsIn_wide.2 ?_
  obtain⟨l0,hl0⟩:∃l0,l0=w.heap.size+1:=⟨_,rfl⟩
  rw[←hl0]at hL1 ⊢
  obtain⟨kD,hprot2⟩:∃kD:Nat→Prop,kD=λb=>b<W1.heap.size∧aZ S'.objs xI b:=⟨_,rfl⟩
  obtain⟨z0,hz0⟩:∃z0:Wz,z0=⟨W1.heap,(.bO (k+1) 0,.bool false)::pairs S'.tmps a.tmps,S'.objs.length,w⟩:=⟨_,rfl⟩
  obtain⟨z1,hz1⟩:∃z1:Wz,z1=⟨(W1.putObj l0 (.loop (rec .done (some lc)))).heap,(.bO k 0,.bool false)::pairs S'.tmps a.tmps,S'.objs.length,w⟩:=⟨_,rfl⟩
  obtain⟨V2,hV2⟩:∃V2:Wz→Prop,V2=λz=>z=z0∨z=z1:=⟨_,rfl⟩
  have ghost:∀{ww:World}{ok:Nat→Prop}{O:List Obj}{bl:Nat→Option Nat}{j:Nat},aY ww ok O bl (.bO j 0) (.bool false)→O[j]?=some xN→False:=by
   intro ww ok O bl j h h1
   have:=h.bO h1 rfl rfl
   unfold Ab at this
   split at this
   ·cases this.1
   ·obtain⟨_,_,h,_⟩:=this;cases h
  have aek:∀{ww:World}{ok:Nat→Prop}{O:List Obj}{bl:Nat→Option Nat}{j:Nat},O[j]?=some hole→aY ww ok O bl (.bO j 0) (.bool false):=
   λh=>⟨rfl,_,h,Nat.le_refl _,λhl=>by cases hl⟩
  have Rh:kD l0:=by rw[hprot2];exact⟨by omega,hnl _ (by omega)⟩
  have hpD:kD w.heap.size:=by rw[hprot2];exact⟨by omega,hnl _ (Nat.le_refl _)⟩
  have hR1:=RG.grew yg
  have afg:∀b,¬ kD b→base b:=by
   intro b hb
   rw[hprot2]at hb
   by_cases h:av b
   ·exact absurd ⟨lt_of_lt_of_le (RG.pr b h) (le_trans RG.gr (by omega)),λk o h1 h2 h3=>RG.objs.np k o b h1 h2 h3 h⟩ hb
   ·exact RG.pb b h
  have afh:∀k o g,S'.objs[k]?=some o→o.live=true→xI k=some g→¬ kD g:=by
   intro k o g h1 h2 h3 h4
   rw[hprot2]at h4
   exact h4.2 k o h1 h2 h3
  have hext:∀x∈pairs S'.tmps a.tmps,aY W1 (bZ base S'.objs xI) S'.objs xI x.1 x.2:=by
   intro x hx
   obtain⟨t,h1,h2⟩:=mX hx
   rw[←h2]
   exact hR1.tm t x.1 h1
  have ael:∀x∈z0.xs,aY W1 (bZ base S'.objs xI) S'.objs xI x.1 x.2:=by
   intro x hx
   rw[hz0]at hx
   rcases List.mem_cons.1 hx with rfl | hx
   ·exact aek hBg
   ·exact hext x hx
  have YU:∀b∈tO.blocks,b<w.heap.size:=λb hb=>lt_of_lt_of_le (R.pr b (R.gl.2 b hb)) R.gr
  have Ri:∀b∈tO.blocks,kD b:=λb hb=>by
   rw[hprot2];exact⟨by have:=YU b hb;omega,λk o h1 h2 h3=>RG.objs.np k o b h1 h2 h3 (R.gl.2 b hb)⟩
  have afi:Rel base kD z0 ⟨[],S'.objs⟩ xI aa7 W1:=by
   refine⟨.nil _ _,rfl,λt p hp=>by simp at hp,⟨hR1.objs.ob,RG.objs.KL,afh⟩,λb hb=>by rw[hprot2]at hb;rw[hz0];exact hb.1,λ_ _=>by rw[hz0],by rw[hz0];exact Nat.le_refl _,afg,ael,λx hx=>?_,by rw[hz0];exact yg.2.2,by rw[hz0];exact⟨hR1.oH,Ri⟩⟩
   have:=Ig (ael x hx)
   rw[hz0];exact this
  have ahH:∀b,b<w.heap.size→bZ base S.objs blk b→bZ base S'.objs xI b:=by
   intro b _ h
   refine⟨h.1,λj o h1 h2 h3=>?_⟩
   exact ags b h.2 j o h1 h2 h3
  have hcapR:dB (dM W1 (bZ base S'.objs xI)) cap vc:=by
   refine⟨r2.1,λi p v hp hv=>?_⟩
   have hpp:=List.all_eq_true.1 hcap p (List.mem_of_getElem? hp)
   have h1:aY w (bZ base S.objs blk) S.objs blk p v:=.lQ (r2.2 i p v hp hv)
   have h2:dM w (bZ base S'.objs xI) p v:=(h1.Ct hpp).qi ahH
   exact h2.mono yg.1 (λ_ _ h=>h) (λb x _ h=>yg.2.1 b x h)
  have afj:YOk P none base kD V2 (Rf l0 (Yof ys I λi O=>∃O',J i O'∧O=jh k O')):=by
   rintro S2 jr a2 w2 args vs K ⟨z,hz,R2⟩ hpt hargs ⟨i,hIi,hyi,hK,hKf⟩
   rw[hV2]at hz
   have hz:z=z0:=by
    rcases hz with hz | hz
    ·exact hz
    ·exfalso
     refine ghost (R2.ext (.bO k 0,.bool false) ?_) (KY i _ hIi).2.2.1
     rw[hz,hz1];exact List.mem_cons_self
   subst hz
   have hzh:z.heap=W1.heap:=by rw[hz0]
   have hzx:z.xs=(.bO (k+1) 0,.bool false)::pairs S'.tmps a.tmps:=by rw[hz0]
   have hzn:z.nx=S'.objs.length:=by rw[hz0]
   have hzo:z.out=w:=by rw[hz0]
   have hL2:w2.heap[l0]?=some (.loop (rec .ready none)):=(R2.fr l0 Rh).trans (by rw[hzh];exact hL1)
   have hlen:args.length=ps.length:=hys args (List.mem_of_getElem? hyi)
   refine⟨rec .ready none,hL2,by rw[hrec];simp[←hargs.1,hlen],?_⟩
   rw[show (Rf l0 (Yof ys I λi O=>∃O',J i O'∧O=jh k O')).y=l0 from rfl]
   refine roundIn_of_wpIn trivial ?_
   have hlt2:l0<w2.heap.size:=(Array.getElem?_eq_some_iff.1 hL2).1
   obtain⟨gM,hprot3⟩:∃gM:Nat→Prop,gM=λb=>b<w2.heap.size∧aZ S2.objs jr b:=⟨_,rfl⟩
   obtain⟨Jv,hxs3⟩:∃Jv,Jv=z.xs++pairs S2.tmps a2.tmps:=⟨_,rfl⟩
   have h23:∀b,kD b→gM b:=by
    intro b hb
    rw[hprot3]
    exact⟨lt_of_lt_of_le (R2.pr b hb) R2.gr,λk o h1 h2 h3=>R2.objs.np k o b h1 h2 h3 hb⟩
   have aa9:∀b,¬ gM b→base b:=λb hb=>R2.pb b λh=>hb (h23 b h)
   have afk:∀k o g,S2.objs[k]?=some o→o.live=true→jr k=some g→¬ gM g:=by
    intro k o g h1 h2 h3 h4
    rw[hprot3]at h4
    exact h4.2 k o h1 h2 h3
   have aa_:∀x∈Jv,aY w2 (bZ base S2.objs jr) S2.objs jr x.1 x.2:=by
    intro x hx
    rw[hxs3]at hx
    rcases List.mem_append.1 hx with hx | hx
    ·exact R2.ext x hx
    ·obtain⟨t,h1,h2⟩:=mX hx
     rw[←h2]
     exact R2.tm t x.1 h1
   have abb:∀x∈Jv,x.1.lt S'.objs.length=true:=by
    intro x hx
    rw[hxs3]at hx
    rcases List.mem_append.1 hx with hx | hx
    ·rw[←hzn];exact R2.MJ x hx
    ·obtain⟨t,h1,_⟩:=mX hx
     exact Xz (List.all_eq_true.1 hpt x.1 (List.mem_of_getElem? h1))
   obtain⟨tm0,htm0⟩:∃tm0,tm0=(((rec .ready none).params.zip (⟨vs⟩:Array Value)).foldl (λt (p,v)=>t.setIfInBounds p v) (rec .ready none).tmps):=⟨_,rfl⟩
   rw[←htm0]
   have Rj:tm0=(ps.zip vs).foldl (λt (p,v)=>t.setIfInBounds p v) a.tmps:=by
    rw[htm0,hrec]
    simp only[]
    rw[←Array.foldl_toList]
    simp
   have hset:=Ju (R:=aY w2 (bZ base S2.objs jr) S2.objs jr) (λv=>.dead v) ps args vs S'.tmps a.tmps hargs.1 RG.EU
    (λt p hp=>R2.ext (p,a.tmps.getD t undef) (by rw[hzx];exact List.mem_cons_of_mem _ (oN RG.EU hp))) (λi p v h1 h2=>.aM (hargs.2 i p v h1 h2))
   have Rr:Rel base gM ⟨w2.heap,Jv,S'.objs.length,w⟩ ⟨rG ps args S.tmps,S2.objs⟩ jr { tmps:=tm0,defers:=[] } w2:=by
    refine⟨.nil _ _,by rw[Rj,←hSt];exact hset.1,λt p hp=>by rw[←hSt]at hp;rw[Rj];exact hset.2 t p hp,⟨R2.objs.ob,R2.objs.KL,afk⟩,λb hb=>by rw[hprot3]at hb;exact hb.1,λ_ _=>rfl,Nat.le_refl _,aa9,aa_,abb,by rw[←hzo];exact R2.sm,⟨R2.oH,λb hb=>h23 b (Ri b hb)⟩⟩
   have Ob:=tX i args S2.objs hIi hyi l0 base gM (λz=>z=⟨w2.heap,Jv,S'.objs.length,w⟩) (by rintro z rfl;rw[←hGl];exact Nat.le_refl _) jr _ w2 ⟨_,rfl,Rr⟩
   rw[show (rec .ready none).assign=x by rw[hrec],show (rec .ready none).body=y by rw[hrec]]
   change x.wpIn (GZ (some l0)) 0 P _ _ _
   refine wpIn_mono Ob ?_
   rintro e a3 w3 ⟨S3,abd,he,zz,rfl,R3⟩
   cases e with
   | normal=>
    have hp3:gM l0:=h23 l0 Rh
    have hL3:w3.heap[l0]?=some (.loop (rec .ready none)):=(R3.fr l0 hp3).trans hL2
    refine⟨_,run_beginRound hL3 (by rw[hrec]),?_⟩
    have abe:({ rec .ready none with state:=.busy }:Loop)=rec .busy none:=by rw[hrec]
    rw[abe]
    obtain⟨w4,hw4⟩:∃w4,w4=w3.putObj l0 (.loop (rec .busy none)):=⟨_,rfl⟩
    rw[←hw4]
    have hnc:∀st pe,¬ jF (.loop (rec st pe)):=by rintro st pe (⟨c,t,y,h⟩ | ⟨es,n,h⟩ | ⟨_,_,_,_,h⟩)<;>cases h
    have UO:∀(k:Nat) x,w3.heap[k]?=some x→jF x→w4.heap[k]?=some x:=by rw[hw4];exact jY hL3 (hnc _ _)
    have hs4:w4.heap.size=w3.heap.size:=by rw[hw4];exact World.putObj_size
    have ho4:∀k:Nat,k≠l0→w4.heap[k]?=w3.heap[k]?:=λk hk=>by rw[hw4];exact World.putObj_heap_other hk
    have afl:l0<w3.heap.size:=(Array.getElem?_eq_some_iff.1 hL3).1
    have hL4:w4.heap[l0]?=some (.loop (rec .busy none)):=by rw[hw4];exact World.putObj_heap_same afl
    have afm:∀b,gM b→b<w2.heap.size:=λb hb=>by rw[hprot3]at hb;exact hb.1
    have ahG:w2.heap.size≤w3.heap.size:=R3.gr
    have R4:Rel base gM ⟨w4.heap,Jv,S'.objs.length,w⟩ S3 abd a3 w4:=by
     refine⟨?_,R3.EU,λt p hp=>gY (R3.tm t p hp) (le_of_eq hs4.symm) UO,R3.objs.cells (le_of_eq hs4.symm) UO R3.objs.np,λb hb=>?_,λ_ _=>rfl,Nat.le_refl _,aa9,λx hx=>gY (R3.ext x hx) (le_of_eq hs4.symm) UO,R3.MJ,R3.sm.trans (by rw[hw4];exact⟨rfl,rfl⟩),⟨tO.keep (λb hb=>ho4 b (by have:=YU b hb;omega)) R3.oH,λb hb=>h23 b (Ri b hb)⟩⟩
     ·obtain⟨Ds,h1,h2,h3⟩:=R3.pJ
      refine⟨Ds,h1,h2,λb hb=>?_⟩
      rw[ho4 b (λe=>(h3 b hb).2.2 (e ▸ hp3))]
      exact h3 b hb
     ·have:=afm b hb;show b<w4.heap.size;omega
    have hbody:=he base gM (λz=>z=⟨w4.heap,Jv,S'.objs.length,w⟩) (by rintro z rfl;rw[←hGl];exact Nat.le_refl _) abd a3 w4 ⟨_,rfl,R4⟩
    refine wpIn_mono hbody ?_
    rintro e a5 w5 ⟨S5,blk5,he5,zz,rfl,R5⟩
    have leave:Jr e=some lc→J i (S5.norm [] fz).objs→∃v w',(Instr.endRound l0 (some lc)).run P w5=.ok v w'∧(∃b objs' aA,Ending.returned v=.returned (.bool b)∧K b objs'∧sF base kD V2 ⟨S2.tmps,objs'⟩ aA a2 w'):=by
     intro _ hJ
     have hL5:w5.heap[l0]?=some (.loop (rec .busy none)):=(R5.fr l0 hp3).trans hL4
     refine⟨_,_,run_endRound (some lc) hL5,?_⟩
     have hdone:({ rec .busy none with state:=if (some lc:Option Code).isNone then .ready else .done,pending:=some lc }:Loop)=rec .done (some lc):=by rw[hrec];rfl
     rw[hdone]
     obtain⟨w6,hw6⟩:∃w6,w6=w5.putObj l0 (.loop (rec .done (some lc))):=⟨_,rfl⟩
     rw[←hw6]
     obtain⟨Jw,R6⟩:=Weak.norm (m:=S'.objs.length) [] fz (by rw[hGl];exact hfz) S5 base gM _ blk5 a5 w5 (Nat.le_refl _) R5
     have Jy:∀(k:Nat) x,w5.heap[k]?=some x→jF x→w6.heap[k]?=some x:=by rw[hw6];exact jY hL5 (hnc _ _)
     have hs6:w6.heap.size=w5.heap.size:=by rw[hw6];exact World.putObj_size
     have ho6:∀k:Nat,k≠l0→w6.heap[k]?=w5.heap[k]?:=λk hk=>by rw[hw6];exact World.putObj_heap_other hk
     have hl5:l0<w5.heap.size:=(Array.getElem?_eq_some_iff.1 hL5).1
     have agr:w4.heap.size≤w5.heap.size:=R5.gr
     have hl1:l0<W1.heap.size:=(Array.getElem?_eq_some_iff.1 hL1).1
     have hall:∀b,gM b→b≠l0→w6.heap[b]?=w2.heap[b]?:=by
      intro b hb hbl
      rw[ho6 b hbl,R5.fr b hb]
      show w4.heap[b]?=_
      rw[ho4 b hbl]
      exact R3.fr b hb
     obtain⟨⟨gl,_,gA,gB⟩,gN⟩:=hJl i _ hJ
     have hk1:k+1<(S5.norm [] fz).objs.length:=by omega
     have agt:∀b,bZ base (S5.norm [] fz).objs Jw b→bZ base (jh k (S5.norm [] fz).objs) (mh k Jw) b:=λb h=>⟨h.1,wh hk1 h.2⟩
     have abf:∀b,gM b→aZ (jh k (S5.norm [] fz).objs) (mh k Jw) b:=λb hb=>wh hk1 λk o h1 h2 h3=>R6.objs.np k o b h1 h2 h3 hb
     have abg:∀x∈pairs S'.tmps a.tmps,x∈Jv:=λx hx=>by rw[hxs3,hzx];exact List.mem_append_left _ (List.mem_cons_of_mem _ hx)
     have abh:∀x∈pairs S2.tmps a2.tmps,x∈Jv:=λx hx=>by rw[hxs3];exact List.mem_append_right _ hx
     have H8:dP base kD (S5.norm [] fz).objs Jw w6:=R6.objs.cells (le_of_eq hs6.symm) Jy (λk o g h1 h2 h3 h4=>R6.objs.np k o g h1 h2 h3 (h23 g h4))
     refine⟨false,jh k (S5.norm [] fz).objs,mh k Jw,rfl,hKf _ ⟨_,hJ,rfl⟩,z1,by rw[hV2];exact .inr rfl,?_⟩
     refine⟨?_,R2.EU,λt p hp=>?_,YW H8 hk1 gN gA,λb hb=>?_,λb hb=>?_,?_,R2.pb,λx hx=>?_,λx hx=>?_,?_,by rw[hz1];exact⟨tO.keep (λb hb=>World.putObj_heap_other (by have:=YU b hb;omega)) hR1.oH,Ri⟩⟩
     ·obtain⟨Ds,h1,h2,h3⟩:=R2.pJ
      refine⟨Ds,h1,h2,λb hb=>?_⟩
      obtain⟨q1,q2,q3⟩:=h3 b hb
      have hb3:gM b:=by rw[hprot3];exact⟨(Array.getElem?_eq_some_iff.1 q1).1,q2.2⟩
      exact⟨by rw[hall b hb3 (λe=>q3 (e ▸ Rh))];exact q1,⟨q2.1,abf b hb3⟩,q3⟩
     ·have hpp:p.pure=true:=List.all_eq_true.1 hpt p (List.mem_of_getElem? hp)
      have h1:=gY (R6.ext (p,a2.tmps.getD t undef) (abh _ (oN R2.EU hp))) (le_of_eq hs6.symm) Jy
      exact .aM ((h1.Ct hpp).qi λb _ hb=>agt b hb)
     ·rw[hprot2]at hb;rw[hz1];show b<(W1.putObj l0 _).heap.size;rw[World.putObj_size];exact hb.1
     ·rw[hz1]
      show w6.heap[b]?=(W1.putObj l0 (.loop (rec .done (some lc)))).heap[b]?
      by_cases hbl:b=l0
      ·subst hbl
       rw[hw6,World.putObj_heap_same hl5,World.putObj_heap_same hl1]
      ·rw[hall b (h23 b hb) hbl,World.putObj_heap_other hbl,R2.fr b hb,hzh]
     ·rw[hz1]
      show (W1.putObj l0 _).heap.size≤w6.heap.size
      rw[World.putObj_size]
      have:=R2.gr
      rw[hzh]at this
      omega
     ·rw[hz1]at hx
      rcases List.mem_cons.1 hx with rfl | hx
      ·exact aek (Ih hk1)
      ·have h1:=gY (R6.ext x (abg x hx)) (le_of_eq hs6.symm) Jy
       obtain⟨t,ht,_⟩:=mX hx
       exact YV (afo t x.1 (by rw[←hSt];exact ht)) agt h1
     ·rw[hz1]at hx ⊢
      show x.1.lt S'.objs.length=true
      rcases List.mem_cons.1 hx with rfl | hx
      ·simp[PV.lt,PV.xG,hGl]
      ·obtain⟨t,ht,_⟩:=mX hx
       exact Xw (by rw[hGl];omega) (afo t x.1 (by rw[←hSt];exact ht))
     ·rw[hz1];exact R6.sm.trans (by rw[hw6];exact⟨rfl,rfl⟩)
    cases e with
    | normal=>
     have hL5:w5.heap[l0]?=some (.loop (rec .busy none)):=(R5.fr l0 hp3).trans hL4
     refine⟨_,_,run_endRound none hL5,?_⟩
     have UQ:({ rec .busy none with state:=if (none:Option Code).isNone then .ready else .done,pending:=none }:Loop)=rec .ready none:=by rw[hrec];rfl
     rw[UQ]
     obtain⟨w6,hw6⟩:∃w6,w6=w5.putObj l0 (.loop (rec .ready none)):=⟨_,rfl⟩
     rw[←hw6]
     obtain⟨Jw,R6⟩:=Weak.norm (m:=S'.objs.length) [] fz (by rw[hGl];exact hfz) S5 base gM _ blk5 a5 w5 (Nat.le_refl _) R5
     have Jy:∀(k:Nat) x,w5.heap[k]?=some x→jF x→w6.heap[k]?=some x:=by rw[hw6];exact jY hL5 (hnc _ _)
     have hs6:w6.heap.size=w5.heap.size:=by rw[hw6];exact World.putObj_size
     have ho6:∀k:Nat,k≠l0→w6.heap[k]?=w5.heap[k]?:=λk hk=>by rw[hw6];exact World.putObj_heap_other hk
     have hl5:l0<w5.heap.size:=(Array.getElem?_eq_some_iff.1 hL5).1
     have agr:w4.heap.size≤w5.heap.size:=R5.gr
     have hall:∀b,gM b→w6.heap[b]?=w2.heap[b]?:=by
      intro b hb
      by_cases hbl:b=l0
      ·subst hbl
       rw[hL2,hw6,World.putObj_heap_same hl5]
      ·rw[ho6 b hbl,R5.fr b hb]
       show w4.heap[b]?=_
       rw[ho4 b hbl]
       exact R3.fr b hb
     have abf:∀b,gM b→aZ (S5.norm [] fz).objs Jw b:=λb hb k o h1 h2 h3=>R6.objs.np k o b h1 h2 h3 hb
     refine⟨true,(S5.norm [] fz).objs,Jw,rfl,hK _ he5,z,by rw[hV2];exact .inl rfl,?_⟩
     have abg:∀x∈z.xs,x∈Jv:=λx hx=>by rw[hxs3];exact List.mem_append_left _ hx
     have abh:∀x∈pairs S2.tmps a2.tmps,x∈Jv:=λx hx=>by rw[hxs3];exact List.mem_append_right _ hx
     refine⟨?_,R2.EU,λt p hp=>?_,R6.objs.cells (le_of_eq hs6.symm) Jy (λk o g h1 h2 h3 h4=>R6.objs.np k o g h1 h2 h3 (h23 g h4)),R2.pr,λb hb=>?_,?_,R2.pb,λx hx=>gY (R6.ext x (abg x hx)) (le_of_eq hs6.symm) Jy,R2.MJ,by rw[hzo];exact R6.sm.trans (by rw[hw6];exact⟨rfl,rfl⟩),R2.gl⟩
     ·obtain⟨Ds,h1,h2,h3⟩:=R2.pJ
      refine⟨Ds,h1,h2,λb hb=>?_⟩
      obtain⟨q1,q2,q3⟩:=h3 b hb
      have hb3:gM b:=by rw[hprot3];exact⟨(Array.getElem?_eq_some_iff.1 q1).1,q2.2⟩
      exact⟨by rw[hall b hb3];exact q1,⟨q2.1,abf b hb3⟩,q3⟩
     ·exact gY (R6.ext (p,a2.tmps.getD t undef) (abh _ (oN R2.EU hp))) (le_of_eq hs6.symm) Jy
     ·rw[hall b (h23 b hb)];exact R2.fr b hb
     ·have:=R2.gr;rw[hzh]at this ⊢;omega
    | ret=>
     obtain⟨rfl,hJ⟩:=he5
     cases hlv
     exact leave rfl hJ
    | exit id=>
     obtain⟨rfl,hJ⟩:=he5
     cases hlv
     exact leave rfl hJ
    | _=>
     obtain⟨rfl,hJ⟩:=he5
     cases hlv
   | _=>exact he.elim
  refine Calls.mono (hgive I (λi O=>∃O',J i O'∧O=jh k O') base kD V2 l0 S'.objs xI W1 vc afj (λz hz=>by
   rw[hV2]at hz
   rcases hz with rfl | rfl
   ·rw[hz0];exact Nat.le_refl _
   ·rw[hz1];exact Nat.le_refl _) ⟨_,by rw[hV2];exact .inl rfl,afi⟩ hI0 (λi O h=>⟨by rw[hGl];exact (KY i O h).1,(KY i O h).2.1⟩) (λi O h=>by
   obtain⟨O',h,rfl⟩:=h
   obtain⟨⟨q1,q2,_,_⟩,q5⟩:=hJl i O' h
   refine⟨by rw[M6,hGl];exact q1,λo ho x hx c hc=>?_⟩
   obtain⟨j,hj⟩:=List.mem_iff_getElem?.1 ho
   rw[M6]
   have hno:o.xs=[]∨o∈O':=by
    by_cases e2:j=k+1
    ·subst e2;rw[Oc (by omega)]at hj;cases hj;exact .inl rfl
    ·by_cases e1:j=k
     ·subst e1;rw[Ih (by omega)]at hj;cases hj;exact .inl rfl
     ·rw[qO e1 e2]at hj;exact .inr (List.mem_of_getElem? hj)
   rcases hno with h0 | h0
   ·rw[h0]at hx;cases hx
   ·exact q2 o h0 x hx c hc) hcapR) ?_
  rintro e w3 ⟨objs',aA,rfl,hIJ,z,hz,R3⟩
  rw[hV2]at hz
  have fin:∀(hp:Array Go.Obj) (st:LoopState) (pe:Option Code) (e':Exit),z.heap=hp→(∀b,b≠l0→hp[b]?=W1.heap[b]?)→hp[l0]?=some (.loop (rec st pe))→st≠.busy→hp.size=W1.heap.size→z.out=w→(∀x∈pairs S'.tmps a.tmps,x∈z.xs)→
      (∀Q':Exit→Act→World→Prop,∀aa ww,Q' e' aa ww→(match pe with | none=>Q' .normal aa ww | some c=>c.wpIn (GZ none) 0 P Q' aa ww))→
      ((e'=.normal∧I ys.length objs')∨(e'=lv∧∃i O,i<ys.length∧J i O∧objs'=jh k O))→
      ∃jump w4,(Instr.endLoop l0).run P w3=.ok jump w4∧(match jump with
       | none=>(λe a' w'=>∃objs' aA,((e=.normal∧I ys.length objs')∨(e=lv∧∃i O,i<ys.length∧J i O∧objs'=jh k O))∧Rel base av w0 ⟨S.tmps,objs'⟩ aA a' w') .normal { a with defers:=[{ target:=.collected w.heap.size,args:=#[] }]++a.defers } w4
       | some c=>c.wpIn (GZ none) 0 P (λe a' w'=>∃objs' aA,((e=.normal∧I ys.length objs')∨(e=lv∧∃i O,i<ys.length∧J i O∧objs'=jh k O))∧Rel base av w0 ⟨S.tmps,objs'⟩ aA a' w') { a with defers:=[{ target:=.collected w.heap.size,args:=#[] }]++a.defers } w4):=by
   intro hp st pe e' hzh hoth agu hst hsize hzo hzx hcode hend
   have hL3:w3.heap[l0]?=some (.loop (rec st pe)):=(R3.fr l0 Rh).trans (by rw[hzh];exact agu)
   have hD3:w3.heap[w.heap.size]?=some (.deferred (some [])):=(R3.fr _ hpD).trans (by rw[hzh,hoth _ (by omega)];exact hK1)
   have hnc:¬ jF (.loop (rec st pe)):=by rintro (⟨c,t,y,h⟩ | ⟨es,n,h⟩ | ⟨_,_,_,_,h⟩)<;>cases h
   have agv:=run_endLoop (P:=P) hL3 (by rw[hrec];exact hst)
   refine⟨pe,w3.putObj l0 (.loop { rec st pe with state:=.exhausted }),by rw[agv,hrec],?_⟩
   have hcl:=jY (o':=.loop { rec st pe with state:=.exhausted }) hL3 hnc
   have hsz:(w3.putObj l0 (.loop { rec st pe with state:=.exhausted })).heap.size=w3.heap.size:=World.putObj_size
   have hle:w.heap.size≤w3.heap.size:=by have:=R3.gr;rw[hzh,hsize]at this;omega
   have hother:∀k:Nat,k≠l0→(w3.putObj l0 (.loop { rec st pe with state:=.exhausted })).heap[k]?=w3.heap[k]?:=λk hk=>World.putObj_heap_other hk
   have hkeep:∀b,b<w.heap.size→aZ S'.objs xI b→aZ objs' aA b:=by
    intro b hb hnb k o h1 h2 h3
    refine R3.objs.np k o b h1 h2 h3 ?_
    rw[hprot2];exact⟨by omega,hnb⟩
   have hsame:∀b,b<w.heap.size→aZ S'.objs xI b→(w3.putObj l0 (.loop { rec st pe with state:=.exhausted })).heap[b]?=w.heap[b]?:=by
    intro b hb hnb
    rw[hother b (by omega),R3.fr b (by rw[hprot2];exact⟨by omega,hnb⟩),hzh,hoth b (by omega)]
    have hbx:w.heap[b]?=some (w.heap[b]):=Array.getElem?_eq_getElem hb
    rw[yg.2.1 b _ hbx,hbx]
   have hpn:∀b,av b→b<w.heap.size∧aZ S'.objs xI b:=λb hb=>⟨lt_of_lt_of_le (RG.pr b hb) RG.gr,λk o h1 h2 h3=>RG.objs.np k o b h1 h2 h3 hb⟩
   have afn:∀k o g,objs'[k]?=some o→o.live=true→aA k=some g→¬ av g:=λk o g h1 h2 h3 h4=>hkeep g (hpn g h4).1 (hpn g h4).2 k o h1 h2 h3
   refine hcode (λe a' w'=>∃objs' aA,((e=.normal∧I ys.length objs')∨(e=lv∧∃i O,i<ys.length∧J i O∧objs'=jh k O))∧Rel base av w0 ⟨S.tmps,objs'⟩ aA a' w') _ _ ⟨objs',aA,hend,?_,R.EU,λt p hp=>?_,R3.objs.cells (le_of_eq hsz.symm) hcl afn,R.pr,λb hb=>?_,le_trans R.gr (by rw[hsz];exact hle),R.pb,(by rw[hx];intro x h;simp at h),R.MJ,(R.sm.trans (by rw[←hzo];exact R3.sm)).trans ⟨rfl,rfl⟩,R.gl⟩
   ·obtain⟨Ds,h1,h2,h3⟩:=RG.pJ
    refine⟨w.heap.size::Ds,by simp[h1],List.nodup_cons.2 ⟨λhm=>?_,h2⟩,λb hb=>?_⟩
    ·have:=(Array.getElem?_eq_some_iff.1 (h3 _ hm).1).1;omega
    ·rcases List.mem_cons.1 hb with rfl | hb
     ·refine⟨by rw[hother _ (by omega)];exact hD3,⟨RG.bs _ RG.gr,λk o h1 h2 h3=>R3.objs.np k o _ h1 h2 h3 hpD⟩,λhp=>by have:=(hpn _ hp).1;omega⟩
     ·obtain⟨q1,q2,q3⟩:=h3 b hb
      have hbs:=(Array.getElem?_eq_some_iff.1 q1).1
      exact⟨by rw[hsame b hbs q2.2];exact q1,⟨q2.1,hkeep b hbs q2.2⟩,q3⟩
   ·exact gY (R3.ext (p,a.tmps.getD t undef) (hzx _ (oN RG.EU (by rw[hSt];exact hp)))) (le_of_eq hsz.symm) hcl
   ·rw[hsame b (hpn b hb).1 (hpn b hb).2];exact R.fr b hb
  rcases hz with rfl | rfl
  ·have hI:I ys.length objs':=by
     refine hIJ.resolve_right λ⟨i,_,O,hJ,e⟩=>?_
     refine ghost (R3.ext (.bO (k+1) 0,.bool false) (by rw[hz0];exact List.mem_cons_self)) ?_
     rw[e];exact Oc (by have:=(hJl i O hJ).1.1;omega)
   exact fin W1.heap .ready none .normal (by rw[hz0]) (λ_ _=>rfl) hL1 (by simp) rfl (by rw[hz0]) (λx hx=>by rw[hz0];exact List.mem_cons_of_mem _ hx) (λQ' aa ww h=>h) (.inl ⟨rfl,hI⟩)
  ·have hJ:∃i O,i<ys.length∧J i O∧objs'=jh k O:=by
     rcases hIJ with h | ⟨i,hi,O,hJ,e⟩
     ·exact (ghost (R3.ext (.bO k 0,.bool false) (by rw[hz1];exact List.mem_cons_self)) (KY _ _ h).2.2.1).elim
     ·exact⟨i,O,hi,hJ,e⟩
   have hl1:l0<W1.heap.size:=(Array.getElem?_eq_some_iff.1 hL1).1
   refine fin (W1.putObj l0 (.loop (rec .done (some lc)))).heap .done (some lc) lv (by rw[hz1]) (λb hb=>World.putObj_heap_other hb) (World.putObj_heap_same hl1) (by simp) World.putObj_size (by rw[hz1]) (λx hx=>by rw[hz1];exact List.mem_cons_of_mem _ hx) (λQ' aa ww h=>?_) (.inr ⟨rfl,hJ⟩)
   cases lv<;>simp only[Jr,Option.some.injEq,reduceCtorEq]at hlv
   ·subst hlv;exact wpIn_exit h
   ·subst hlv;exact wpIn_ret h
end
structure Ii (P:Program) (l:Option Nat) (E:Env) (T:Know):Prop where
 fn:xh P T.fn
 y:∀base av V,E base av V→YOk P l base av V T
 nx:∀base av V,E base av V→∀w0,V w0→w0.nx≤T.nx
 top:T.top=true→l=none∧∀base av V,E base av V→∀w0,V w0→w0.xs=[]
 gives:∀g cap ys,T.gives g cap ys→Gives P g cap ys
theorem Ii.inner {E:Env}(h:Ii P l E T)(n l0:Nat):Ii P (some l0) (E0 n) (T.inner n):=
 ⟨h.fn,λ_ _ _ _=>YOk.inner,λ_ _ _ hE w0 hw=>hE w0 hw,(λh=>by cases h),h.gives⟩
theorem qP(hD:∀t,je P t (D t))(hm:P.follows .mixedOrders=true):∀(C:LC) (T:Know) (l:Option Nat) (E:Env) (c:Code) (Q:Exit→St→Prop) (S:St),Ii P l E T→strip C=comp c→l7 P D T C Q S→PW P l E c Q S:=by
 intro C
 induction C with
 | skip=>
  intro T l E c Q S hk he h
  cases c<;>simp only[comp,strip]at he<;>first | (cases he;done) | skip
  ·exact .skip h
  ·rename_i d;cases d<;>simp only[comp]at he<;>first | (cases he;done) | (cases hs:gL _ _<;>rw[hs]at he<;>cases he)
 | ret=>
  intro T l E c Q S hk he h
  cases c<;>simp only[comp,strip]at he<;>first | (cases he;done) | skip
  ·rename_i d;cases d<;>simp only[comp]at he<;>first | (cases he;done) | (cases hs:gL _ _<;>rw[hs]at he<;>cases he)
  ·exact .ret h
 | bad=>intro T l E c Q S hk he h;exact h.elim
 | exit id=>
  intro T l E c Q S hk he h
  cases c<;>simp only[comp,strip]at he<;>first | (cases he;done) | skip
  ·rename_i d;cases d<;>simp only[comp]at he<;>first | (cases he;done) | (cases hs:gL _ _<;>rw[hs]at he<;>cases he)
  ·cases he;exact .exit h
 | weak x ihx=>
  intro T l E c Q S hk he h
  obtain⟨S',hw,h⟩:=h
  exact .weak hk.nx hw (ihx _ _ _ _ _ _ hk he h)
 | reg ss=>
  intro T l E c Q S hk he h
  cases c<;>simp only[comp,strip]at he<;>first | (cases he;done) | skip
  rename_i id ops d
  cases d<;>simp only[comp]at he
  ·simp only[LC.reg.injEq]at he
   have ht:ops=ops.toList.toArray:=by simp
   intro base av V hE blk a w R
   refine wpIn_region ?_
   have:=Jt (Qm:=λe a' w'=>∃S' aA,Q e S'∧sF base av V S' aA a' w') hD hk.fn (hk.y base av V hE) ops.toList ss 0 S [] _ blk a w he (λj=>by simp) h R (λS' ts' aA a' w' hK R'=>⟨S',aA,hK,R'⟩)
   rw[List.range_eq_range']
   simpa using this
  ·cases hs:gL _ _<;>rw[hs]at he<;>cases he
 | draw ss un=>
  intro T l E c Q S hk he h
  cases c<;>simp only[comp,strip]at he<;>first | (cases he;done) | skip
  rename_i id ops d
  cases d<;>simp only[comp]at he
  ·cases he
  ·cases hs:gL ops.toList (masks ops.toList [])<;>rw[hs]at he
   ·cases he
   ·simp only[cond_true,LC.draw.injEq]at he
    obtain⟨he,rfl⟩:=he
    have:ops=ops.toList.toArray:=by simp
    rw[this]
    refine PW.agn (λi=>((ss[i]?).map (·.own)).getD false) hD hm (Bp (λS' ts hh=>?_) _ _ _ _ (x_ hk.fn ops.toList ss 0 S [] _ he (λj s hs=>by simp[hs]) h))
    exact⟨YS hs hh.1,hh.2⟩
 | seq x y ihx ihy=>
  intro T l E c Q S hk he h
  cases c<;>simp only[comp,strip]at he<;>first | (cases he;done) | skip
  ·rename_i d;cases d<;>simp only[comp]at he<;>first | (cases he;done) | (cases hs:gL _ _<;>rw[hs]at he<;>cases he)
  ·simp only[LC.seq.injEq]at he
   exact .seq ((ihx _ _ _ _ _ _ hk he.1 h).mono (v_ λS' h'=>ihy _ _ _ _ _ _ hk he.2 h'))
 | cond o x y ihx ihy=>
  intro T l E c Q S hk he h
  cases c<;>simp only[comp,strip]at he<;>first | (cases he;done) | skip
  ·rename_i d;cases d<;>simp only[comp]at he<;>first | (cases he;done) | (cases hs:gL _ _<;>rw[hs]at he<;>cases he)
  ·simp only[LC.cond.injEq]at he
   obtain⟨rfl,h1,h2⟩:=he
   refine .cond ?_
   unfold l7 AQ at h
   unfold AQ
   split at h
   ·exact⟨λhb=>ihx _ _ _ _ _ _ hk h1 (h.1 hb),λhb=>ihy _ _ _ _ _ _ hk h2 (h.2 hb)⟩
   ·exact h.elim
 | block id x ihx=>
  intro T l E c Q S hk he h
  cases c<;>simp only[comp,strip]at he<;>first | (cases he;done) | skip
  ·rename_i d;cases d<;>simp only[comp]at he<;>first | (cases he;done) | (cases hs:gL _ _<;>rw[hs]at he<;>cases he)
  ·simp only[LC.block.injEq]at he
   obtain⟨rfl,h1⟩:=he
   exact .block (ihx _ _ _ _ _ _ hk h1 h)
 | loop ks fz x ihx=>
  intro T l E c Q S hk he h
  cases c<;>simp only[comp,strip]at he<;>first | (cases he;done) | skip
  ·rename_i d;cases d<;>simp only[comp]at he<;>first | (cases he;done) | (cases hs:gL _ _<;>rw[hs]at he<;>cases he)
  ·simp only[LC.loop.injEq,true_and]at he
   obtain⟨hfz,I,⟨S0,m,hw,hI⟩,hr⟩:=h
   refine .weak hk.nx hw ?_
   exact PW.agp hk.nx I hI λm S hS=>(ihx _ _ _ _ _ _ hk he (hr m S hS)).mono (v_ λS' ⟨m',h1,h2⟩=>⟨S'.norm ks fz,m',Weak.norm ks fz hfz S',h2,h1⟩)
 | rf f ps fz x y ihx ihy=>
  intro T l E c Q S hk he h
  cases c<;>simp only[comp,strip]at he<;>first | (cases he;done) | skip
  ·rename_i d;cases d<;>simp only[comp]at he<;>first | (cases he;done) | (cases hs:gL _ _<;>rw[hs]at he<;>cases he)
  ·rename_i f' ps' x' y'
   simp only[LC.rf.injEq,true_and]at he
   obtain⟨rfl,rfl,h1,h2⟩:=he
   obtain⟨htop,g,cap,ys,hf,hcap,hg,hys,h⟩:=h
   obtain⟨rfl,hxs⟩:=hk.top htop
   intro base av V hE blk a w ⟨w0,hV,R⟩
   have hps:ps'.toList.toArray=ps':=by simp
   rcases h with ⟨I,hfz,hI0,KY,tX,hend⟩ | ⟨I,J,lv,lc,hlv,hfz,hI0,KY,hJl,tX,hend,hleave⟩
   ·have:=aa8 (x:=x') (y:=y') (hk.gives g cap ys hg) hys hI0 KY R (hxs base av V hE w0 hV) hf hcap hfz λi args objs hi hy l0=>
      (ihx _ _ _ _ _ _ (hk.inner S.objs.length l0) h1 (tX i args objs hi hy)).mono (v_ λS1 h'=>ihy _ _ _ _ _ _ (hk.inner S.objs.length l0) h2 h')
    rw[hps]at this
    refine wpIn_mono this ?_
    rintro e a' w' ⟨objs',aA,rfl,hI,R'⟩
    exact⟨_,aA,hend objs' hI,w0,hV,R'⟩
   ·have:=YX (x:=x') (y:=y') (hk.gives g cap ys hg) hys hlv hI0 KY hJl R (hxs base av V hE w0 hV) hf hcap hfz λi args objs hi hy l0=>
      (ihx _ _ _ _ _ _ (hk.inner (S.objs.length+2) l0) h1 (tX i args objs hi hy)).mono (v_ λS1 h'=>ihy _ _ _ _ _ _ (hk.inner (S.objs.length+2) l0) h2 h')
    rw[hps]at this
    refine wpIn_mono this ?_
    rintro e a' w' ⟨objs',aA,h,R'⟩
    rcases h with ⟨rfl,hI⟩ | ⟨rfl,i,O,hi,hJ,rfl⟩
    ·exact⟨_,aA,hend objs' hI,w0,hV,R'⟩
    ·exact⟨_,aA,hleave i O hi hJ,w0,hV,R'⟩
end Lp
namespace Lp
open Go
variable {P:Program}{D:TypeId→aH}{T:Know}
def jZ(D:TypeId→aH)(S:St):List ResultVar→(List PV→Prop)→Prop
 | [],K=>K []
 | .tmp t::rs,K=>jZ D S rs λps=>K (S.tmps.getD t .dead::ps)
 | .cell a t::rs,K=>fQ (D t) (S.tmps.getD a .dead) S.objs λp _ _=>jZ D S rs λps=>K (p::ps)
def fU:List PV→PV
 | [p]=>p
 | ps=>.bY ps
def YZ(D:TypeId→aH)(d:Nat)(rs:List ResultVar)(r:PV)(e:Exit)(S:St):Prop:=
 (e=.normal∨e=.ret)∧jZ D S rs λps=>r=fU (ps.map (iB d 0 S.objs))
def UR(d:Nat)(t:Nat)(o':Obj)(e:Exit)(S:St):Prop:=
 (e=.normal∨e=.ret)∧∃S' k ver o,Weak 0 S S'∧S'.tmps.getD t .dead=.bO k ver∧S'.objs[k]?=some o∧o.live=true∧o.ver=ver∧{ f_ d (k+1) S'.objs o with ver:=0 }=o'∧fI [o']
section
variable {base av:Nat→Prop}{w0:Wz}{S:St}{blk:Nat→Option Nat}{a:Act}{w:World}
theorem yh{ok:Nat→Prop}{p:PV}{v:Value}(h:aY w ok [] blk p v):dM w ok p v:=by
 have hS:∀(p:PV) (v:Value),bJ w ok [] blk p v→dM w ok p v:=by
  intro p v h
  cases p<;>first | exact h | (obtain⟨_,o,ho,_⟩:=h;simp at ho)
 cases p
 case fn f x c=>obtain⟨va,vc,rfl,h1,h2⟩:=h;exact .fn _ _ _ va vc h1.1 h2.1 (λi p v a b=>hS _ _ (h1.2 i p v a b)) (λi p v a b=>hS _ _ (h2.2 i p v a b))
 case bY cs=>obtain⟨vs,rfl,h1⟩:=h;exact .bY _ vs h1.1 (λi p v a b=>hS _ _ (h1.2 i p v a b))
 case agg cs=>obtain⟨vs,rfl,h1⟩:=h;exact .agg _ vs h1.1 (λi p v a b=>hS _ _ (h1.2 i p v a b))
 all_goals exact hS _ _ h
theorem ado(S:St)(d:Nat):(S.freeze d 0).objs=[]:=by simp[St.freeze]
theorem ahI(R:Rel base av w0 S blk a w)(d:Nat)(p:PV)(v:Value)(h:aY w (bZ base S.objs blk) S.objs blk p v):dM w base (iB d 0 S.objs p) v:=by
 have:=Jp R d 0 p v h
 rw[ado]at this
 exact (yh this).qi λb _ h=>h.1
theorem Y0(hD:∀t,je P t (D t))(R:Rel base av w0 S blk a w){t x:Nat}{K:KT}(h:fQ (D t) (S.tmps.getD x .dead) S.objs K) :
  ∃p ad v τ,a.tmps.getD x undef=.pointer (some ad)∧(loadVar t ad).run P w=.ok v w∧K p S.objs τ∧aY w (bZ base S.objs blk) S.objs blk p v:=by
 have hx:=R.ev (.tmp x)
 change aY w (bZ base S.objs blk) S.objs blk (S.tmps.getD x .dead) (a.tmps.getD x undef) at hx
 unfold fQ at h
 split at h
 ·rename_i p e
  rw[e]at hx
  obtain⟨hk,h1,h2,h3⟩:=h
  have hx':=hx.addr
  generalize hv:a.tmps.getD x undef=v at hx'
  cases hx' with
  | addr _ b off vs hok hcell hrep=>
   obtain⟨u,g1,g2⟩:=nG (hD t) hk (At.Ct vs hcell hrep) h1 h2
   exact⟨_,_,_,_,rfl,g1,h3,CB g2⟩
 ·rename_i k ver i f e
  rw[e]at hx
  obtain⟨ob,el,h1,h2,h3,h4,hk,h5,h6,h7,h8⟩:=h
  obtain⟨g,hb,hv,hty⟩:=hx.bP h1 h2 h3
  obtain⟨y1,y2⟩:=Ux R.objs h1 h2 h4 hb hty
  have hat:At (bJ w (bZ base S.objs blk) S.objs blk) w g (i*ob.sz) (.agg el.cells):=y2
  have hs:=At.sub hat f (D t).size (D t).agg h5 h6 (qM h7)
  obtain⟨c1,c2⟩:=MN el.cells f _ _ h5 h6 h7
  obtain⟨u,g1,g2⟩:=nG (hD t) hk hs c1 c2
  exact⟨_,_,_,_,hv,g1,h8,AA g2⟩
 ·exact h.elim
def adp(tmps:Array Value):ResultVar→Sem Value
 | .tmp t=>pure (tmps.getD t undef)
 | .cell a t=>do loadVar t (←asAddr (tmps.getD a undef))
def Od(tmps:Array Value):List ResultVar→Sem (List Value)
 | []=>pure []
 | r::rs=>do
  let v ←adp tmps r
  let vs ←Od tmps rs
  pure (v::vs)
theorem CW(hD:∀t,je P t (D t))(R:Rel base av w0 S blk a w):∀(rs:List ResultVar) (K:List PV→Prop),jZ D S rs K→
  ∃vs ps,(Od a.tmps rs).run P w=.ok vs w∧K ps∧dB (aY w (bZ base S.objs blk) S.objs blk) ps vs
 | [],K,h=>⟨[],[],rfl,h,rfl,λ_ _ _ h=>by simp at h⟩
 | .tmp t::rs,K,h=>by
  obtain⟨vs,ps,h1,h2,h3,h4⟩:=CW hD R rs _ h
  refine⟨a.tmps.getD t undef::vs,S.tmps.getD t .dead::ps,by simp[Od,adp,h1],h2,by simpa using h3,λi p v hp hv=>?_⟩
  cases i with
  | zero=>
   simp only[List.getElem?_cons_zero,Option.some.injEq]at hp hv
   subst hp;subst hv;exact R.ev (.tmp t)
  | succ i=>exact h4 i p v (by simpa using hp) (by simpa using hv)
 | .cell x t::rs,K,h=>by
  obtain⟨p0,ad,v0,_,e1,e2,h,e3⟩:=Y0 hD R h
  obtain⟨vs,ps,h1,h2,h3,h4⟩:=CW hD R rs _ h
  refine⟨v0::vs,p0::ps,by simp[Od,adp,e1,e2,h1,asAddr],h2,by simpa using h3,λi p v hp hv=>?_⟩
  cases i with
  | zero=>
   simp only[List.getElem?_cons_zero,Option.some.injEq]at hp hv
   subst hp;subst hv;exact e3
  | succ i=>exact h4 i p v (by simpa using hp) (by simpa using hv)
def KZ:List Value→Value
 | [v]=>v
 | vs=>.tuple ⟨vs⟩
end
theorem run_bind_ok{α β:Type}{x:Sem α}{f:α→Sem β}{P:Program}{w w':World}{b:β}(h:(x >>=f).run P w=.ok b w'):∃c w1,x.run P w=.ok c w1∧(f c).run P w1=.ok b w':=by
 rw[Sem.run_bind]at h
 cases hx:x.run P w with
 | ok c w1=>rw[hx]at h;exact⟨c,w1,rfl,h⟩
 | halt o w1=>rw[hx]at h;cases h
theorem Gd{fn:Func}{rs:List ResultVar}(h:fn.results=rs.toArray)(hl:rs.length≤3){tmps:Array Value}{vs:List Value}{P:Program}{w:World}
  (hr:(Od tmps rs).run P w=.ok vs w):(results fn tmps).run P w=.ok (KZ vs) w:=by
 have hf:results fn tmps=(fn.results.mapM (adp tmps) >>=λvs=>pure (if h:vs.size=1 then vs[0] else .tuple vs)):=by
  unfold results
  refine congrArg (λf:ResultVar→Sem Value=>(Array.mapM f fn.results >>=λvs=>pure (if h:vs.size=1 then vs[0] else Value.tuple vs):Sem Value)) ?_
  funext r
  cases r<;>rfl
 match rs,hl,h,hr with
 | [],_,h,hr=>
  simp only[Od,Sem.run_pure]at hr
  cases hr
  simp[results,h,KZ]
 | [r1],_,h,hr=>
  simp only[Od]at hr
  obtain⟨v1,w1,h1,hr⟩:=run_bind_ok hr
  obtain⟨v2,w2,h2,hr⟩:=run_bind_ok hr
  simp only[Sem.run_pure]at hr h2
  cases h2;cases hr
  rw[hf,h]
  simp[h1,KZ]
 | [r1,r2],_,h,hr=>
  simp only[Od]at hr
  obtain⟨v1,w1,h1,hr⟩:=run_bind_ok hr
  obtain⟨v2,w2,h2,hr⟩:=run_bind_ok hr
  obtain⟨v3,w3,h3,h2⟩:=run_bind_ok h2
  obtain⟨v4,w4,h4,h2⟩:=run_bind_ok h2
  simp only[Sem.run_pure]at hr h2 h4
  cases h4;cases h2;cases hr
  rw[hf,h]
  simp[h1,h3,KZ]
 | [r1,r2,r3],_,h,hr=>
  simp only[Od]at hr
  obtain⟨v1,w1,h1,hr⟩:=run_bind_ok hr
  obtain⟨v2,w2,h2,hr⟩:=run_bind_ok hr
  obtain⟨v3,w3,h3,h2⟩:=run_bind_ok h2
  obtain⟨v4,w4,h4,h2⟩:=run_bind_ok h2
  obtain⟨v5,w5,h5,h4⟩:=run_bind_ok h4
  obtain⟨v6,w6,h6,h4⟩:=run_bind_ok h4
  simp only[Sem.run_pure]at hr h2 h4 h6
  cases h6;cases h4;cases h2;cases hr
  rw[hf,h]
  simp[h1,h3,h5,KZ]
 | _::_::_::_::_,hl,_,_=>simp at hl
theorem yj{base av:Nat→Prop}{blk:Nat→Option Nat}{w:World}:dP base av [] blk w:=
 ⟨λ_ _ h=>by simp at h,λ_ _ _ _ _ _ h=>by simp at h,λ_ _ _ h=>by simp at h⟩
theorem Rk(w:World)(b:Nat)(o:Go.Obj)(k:Nat):(w.putObj b o).heap[k]?=if b=k∧b<w.heap.size then some o else w.heap[k]?:=by
 simp only[World.putObj,Array.getElem?_setIfInBounds]
 by_cases h:b=k
 ·subst h
  by_cases h':b<w.heap.size
  ·simp[h']
  ·simp[h']
 ·simp[h]
theorem Rel.takeD {base av:Nat→Prop}{w0:Wz}{S:St}{blk:Nat→Option Nat}{a:Act}{w:World}(R:Rel base av w0 S blk a w){b:Nat}{ds:List Deferred}(hd:a.defers={ target:=.collected b,args:=#[] }::ds) :
  w.heap[b]?=some (.deferred (some []))∧Rel base av w0 S blk { a with defers:=ds } (w.putObj b (.deferred none)):=by
 obtain⟨Ds,h1,h2,h3⟩:=R.pJ
 rw[hd]at h1
 cases Ds with
 | nil=>simp at h1
 | cons b' Ds=>
  simp only[List.map_cons,List.cons.injEq,Deferred.mk.injEq,Target.collected.injEq,and_true]at h1
  obtain⟨rfl,rfl⟩:=h1
  obtain⟨hb,aik,hbp⟩:=h3 b List.mem_cons_self
  have hsz:(w.putObj b (.deferred none)).heap.size=w.heap.size:=by simp[World.putObj]
  have hne:∀k:Nat,k≠b→(w.putObj b (.deferred none)).heap[k]?=w.heap[k]?:=λk hk=>by rw[Rk,if_neg (λe=>hk e.1.symm)]
  have hc:∀(k:Nat) (x:Go.Obj),w.heap[k]?=some x→jF x→(w.putObj b (.deferred none)).heap[k]?=some x:=by
   rintro k x hk (⟨c,t,y,rfl⟩ | ⟨es,n,rfl⟩ | ⟨_,_,_,_,rfl⟩)
   ·rw[hne k (λe=>by subst e;rw[hb]at hk;cases hk),hk]
   ·rw[hne k (λe=>by subst e;rw[hb]at hk;cases hk),hk]
   ·rw[hne k (λe=>by subst e;rw[hb]at hk;cases hk),hk]
  have ho:oI w (w.putObj b (.deferred none)) S.objs S.objs blk blk:=λk o ho=>⟨o,ho,Nat.le_refl _,λhl _=>⟨hl,rfl,rfl,rfl,λ_=>rfl,λg c _ hg=>⟨c,hc g _ hg (.inl ⟨c,_,_,rfl⟩),rfl⟩⟩⟩
  refine⟨hb,⟨⟨Ds,rfl,(List.nodup_cons.1 h2).2,λk hk=>?_⟩,R.EU,λt p hp=>(R.tm t p hp).uH (Nat.le_of_eq hsz.symm) (λ_ _ h=>h) (λk x _ hx hcx=>hc k x hx (.inl hcx)) ho,⟨λk o h1 h4=>?_,R.objs.KL,R.objs.np⟩,R.pr,λk hk=>?_,by rw[hsz];exact R.gr,R.pb,λx hx=>(R.ext x hx).uH (Nat.le_of_eq hsz.symm) (λ_ _ h=>h) (λk x _ hx hcx=>hc k x hx (.inl hcx)) ho,R.MJ,R.sm.trans ⟨rfl,rfl⟩,R.gl⟩⟩
  ·have hkb:k≠b:=λe=>(List.nodup_cons.1 h2).1 (e ▸ hk)
   rw[hne k hkb]
   exact h3 k (List.mem_cons_of_mem _ hk)
  ·have hh:=R.objs.ob k o h1 h4
   unfold dA at hh ⊢
   cases hg:blk k with
   | none=>rw[hg]at hh;exact hh
   | some g=>
    rw[hg]at hh
    obtain⟨c,x1,x2,x3⟩:=hh
    refine⟨c,hc g _ x1 (CV _ _ _),x2,λi x hx=>⟨(x3 i x hx).1,λj p hp=>?_⟩⟩
    obtain⟨v,y1,y2⟩:=(x3 i x hx).2 j p hp
    exact⟨v,y1,y2.uH (Nat.le_of_eq hsz.symm) (λ_ _ h=>h) (λk x _ hx hcx=>hc k x hx (.inl hcx)) ho⟩
  ·rw[hne k (λe=>hbp (e ▸ hk))];exact R.fr k hk
theorem oO{base av:Nat→Prop}{w0:Wz}{S:St}{blk:Nat→Option Nat}{P:Program}{fn:Func}{Q:Ending→World→Prop}{tm:Array Value}:∀(ds:List Deferred) (w:World),Rel base av w0 S blk { tmps:=tm,defers:=ds } w→
  (∀w',Rel base av w0 S blk { tmps:=tm,defers:=[] } w'→∃v,(results fn tm).run P w'=.ok v w'∧Q (.returned v) w')→LeavesInM (GZ none) 0 P fn tm Q ds .returning w
 | [],w,R,h=>h w R
 | d::ds,w,R,h=>by
  obtain⟨Ds,h1,_,_⟩:=R.pJ
  cases Ds with
  | nil=>simp at h1
  | cons b Ds=>
   simp only[List.map_cons,List.cons.injEq]at h1
   obtain⟨rfl,rfl⟩:=h1
   obtain⟨hb,R'⟩:=R.takeD (b:=b) rfl
   exact⟨by simp,.inl ⟨b,_,rfl,run_takeDeferred hb,oO _ _ R' h⟩⟩
def tY:Env:=λ_ _ V=>∀w0,V w0→w0.xs=[]∧w0.nx=0
theorem Ii.ahJ (h:xh P T.fn)(hy:T.Y=λ_ _ _=>False)(hg:∀g cap ys,T.gives g cap ys→Gives P g cap ys):Ii P none tY T:=
 ⟨h,λ_ _ _ _ _ _ _ _ _ _ _ _ _ _ h=>by rw[hy]at h;exact h.elim,λ_ _ _ hE w0 hw=>by rw[(hE w0 hw).2];exact Nat.zero_le _,λ_=>⟨rfl,λ_ _ _ hE w0 hw=>(hE w0 hw).1⟩,hg⟩
def cK(args:List PV)(n:Nat):St:=⟨args++List.replicate (n-args.length) .dead,[]⟩
theorem zA{base:Nat→Prop}{w:World}{blk:Nat→Option Nat}{args:List PV}{vs:List Value}(hb:tO.holds w.heap∧∀b,w.heap.size≤b→base b)(h:dB (aY w (bZ base [] blk) [] blk) args vs)(n:Nat) :
  Rel base (λb=>b<w.heap.size∧aZ [] blk b) ⟨w.heap,[],0,w⟩ (cK args n) blk { tmps:=(⟨vs⟩:Array Value)++Array.replicate (n-(⟨vs⟩:Array Value).size) undef,defers:=[] } w:=by
 have hl:=h.1
 refine⟨.nil _ _,?_,λt p hp=>?_,yj,λb hb=>hb.1,λ_ _=>rfl,Nat.le_refl _,λb hn=>hb.2 b ?_,λx hx=>by simp at hx,λx hx=>by simp at hx,.refl w,⟨hb.1,λb hg=>⟨tO.lt hb.1 b hg,eD _ _⟩⟩⟩
 ·simp[cK,hl]
 ·simp only[cK]at hp
  rw[List.getElem?_append]at hp
  split at hp
  ·rename_i ht
   obtain⟨v,hv⟩:∃v,vs[t]?=some v:=⟨vs[t]'(by omega),List.getElem?_eq_getElem (by omega)⟩
   have hg:((⟨vs⟩:Array Value)++Array.replicate (n-(⟨vs⟩:Array Value).size) undef).getD t undef=v:=by
    rw[Array.getD_eq_getD_getElem?,Array.getElem?_append,if_pos (by simpa using (by omega:t<vs.length))]
    simp[hv]
   rw[hg]
   exact h.2 t p v hp hv
  ·rw[List.getElem?_replicate]at hp
   split at hp
   ·cases hp;exact .dead _
   ·cases hp
 ·rcases Nat.lt_or_ge b w.heap.size with h1 | h1
  ·exact absurd ⟨h1,eD blk b⟩ hn
  ·exact h1
theorem adq{w:World}{ok:Nat→Prop}{f:PV→PV}{ps:List PV}{vs:List Value}{R:PV→Value→Prop}(h:dB R ps vs)(hf:∀p v,R p v→dM w ok (f p) v):dM w ok (fU (ps.map f)) (KZ vs):=by
 obtain⟨hl,h⟩:=h
 match ps,vs,hl,h with
 | [p],[v],_,h=>exact hf p v (h 0 p v rfl rfl)
 | [],[],_,_=>exact .bY [] [] rfl (λ_ _ _ h=>by simp at h)
 | p::p'::ps,v::v'::vs,hl,h=>
  refine .bY _ _ (by simpa using hl) λi q u hq hu=>?_
  rw[←List.map_cons,List.getElem?_map]at hq
  cases hc:(p::p'::ps)[i]? with
  | none=>rw[hc]at hq;simp at hq
  | some q0=>
   rw[hc]at hq
   simp only[Option.map_some,Option.some.injEq]at hq
   subst hq
   exact hf q0 u (h i q0 u hc hu)
theorem ai.Ij {f:FuncId}{fn:Func}{c:Code}{C:LC}{args:List PV}{r:PV}(d:Nat){rs:List ResultVar}{n:Nat}(hD:∀t,je P t (D t))(hT:Ii P none tY T)(hm:P.follows .mixedOrders=true)
  (hf:P.funcs[f]?=some fn) (hname:(fn.name== "runtime.NumGoroutine")=false) (hb:fn.body=some c) (hn:fn.ntmps=n) (hr:fn.results=rs.toArray) (hl:rs.length≤3) (hC:strip C=comp c)
  (h:l7 P D T C (YZ D d rs r) (cK args n)):ai P f args [] r []:=by
 refine⟨⟨fn,hf,hname,by rw[hb];rfl⟩,λw blk vs base hbase _ hargs=>?_⟩
 have hpw:PW P none tY c (YZ D d rs r) (cK args n):=qP hD hm C _ _ _ c _ _ hT hC h
 have R:=zA hbase hargs n
 have hw:=hpw _ _ (λx=>(⟨w.heap,[],0,w⟩:Wz)=x) (by rintro z rfl;exact⟨rfl,rfl⟩) _ _ _ ⟨_,rfl,R⟩
 rw[←callsIn_wide (n:=0)]
 refine callsIn_of_wp_marks hf hb trivial ?_
 rw[hn]
 refine wpIn_mono hw ?_
 rintro e a' w' ⟨S',aA,⟨he,ho⟩,_,rfl,R'⟩
 have key:∀w',Rel base (λb=>b<w.heap.size∧aZ [] blk b) ⟨w.heap,[],0,w⟩ S' aA { a' with defers:=[] } w'→∃v,(results fn a'.tmps).run P w'=.ok v w'∧(∃v' aA,Ending.returned v=.returned v'∧dP base (λb=>b<w.heap.size∧aZ [] blk b) [] aA w'∧
     aY w' (bZ base [] aA) [] aA r v'∧(∀b,b<w.heap.size→aZ [] blk b→w'.heap[b]?=w.heap[b]?)∧w.heap.size≤w'.heap.size∧Sm w w'):=by
  intro w' R'
  obtain⟨vs',ps,h1,h2,h3⟩:=CW hD R' rs _ ho
  refine⟨KZ vs',Gd hr hl h1,KZ vs',aA,rfl,yj,?_,λb hb1 hb2=>R'.fr b ⟨hb1,hb2⟩,R'.gr,R'.sm⟩
  rw[h2]
  exact .aM ((adq h3 (λp v h=>ahI R' d p v h)).qi λb _ h=>⟨h,eD _ _⟩)
 rcases he with rfl | rfl<;>exact oO _ _ R' key
def mY(d k:Nat)(S:St)(o:Obj):Obj:={ f_ d (k+1) S.objs o with ver:=0 }
theorem Fe{base av:Nat→Prop}{w0:Wz}{S':St}{aA:Nat→Option Nat}{a:Act}{w':World}{d k:Nat}{o:Obj}(R':Rel base av w0 S' aA a w')(ho:S'.objs[k]?=some o)(hlv:o.live=true)(hnr:fI [mY d k S' o]) :
  dP base av [mY d k S' o] (λj=>if j=0 then aA k else none) w'∧
  ∀v,bJ w' (bZ base S'.objs aA) S'.objs aA (.bO k o.ver) v→bJ w' (bZ base [mY d k S' o] (λj=>if j=0 then aA k else none)) [mY d k S' o] (λj=>if j=0 then aA k else none) (.bO 0 0) v:=by
 unfold mY at hnr ⊢
 refine⟨⟨?_,?_,?_⟩,λv hx=>?_⟩
 ·intro j o1 hj hl1
  cases j with
  | succ j=>simp at hj
  | zero=>
   simp only[List.getElem?_cons_zero,Option.some.injEq]at hj
   subst hj
   have hb:=R'.objs.ob k o ho hlv
   unfold dA at hb ⊢
   simp only[if_true]
   cases hg:aA k with
   | none=>rw[hg]at hb;simp[f_,hb]
   | some g=>
    rw[hg]at hb
    obtain⟨c',hc,h7,h8⟩:=hb
    refine⟨c',hc,by simpa[f_,fits] using h7,λi x hx=>?_⟩
    simp only[f_,List.getElem?_map]at hx
    cases hx0:o.xs[i]? with
    | none=>rw[hx0]at hx;simp at hx
    | some x0=>
     rw[hx0]at hx
     simp only[Option.map_some,Option.some.injEq]at hx
     subst hx
     have e:=nM (Xv d (k+1) S'.objs) x0
     refine⟨by rw[e,List.length_map];exact (h8 i x0 hx0).1,λj p hp=>?_⟩
     rw[e,List.getElem?_map]at hp
     cases hp0:x0.cells[j]? with
     | none=>rw[hp0]at hp;simp at hp
     | some p0=>
      rw[hp0]at hp
      simp only[Option.map_some,Option.some.injEq]at hp
      subst hp
      obtain⟨u,hu,hrr⟩:=(h8 i x0 hx0).2 j p0 hp0
      refine⟨u,hu,?_⟩
      have h9:=rE R' d (k+1) p0 u hrr
      have h10:(eZ d (k+1) S'.objs p0).ref=false:=by
       refine hnr _ List.mem_cons_self (x0.bL (eZ d (k+1) S'.objs)) ?_ _ ?_
       ·simp only[f_,List.mem_map];exact⟨x0,List.mem_of_getElem? hx0,rfl⟩
       ·rw[e];exact List.mem_map.2 ⟨p0,List.mem_of_getElem? hp0,rfl⟩
      refine .aM ((h9.Ct h10).qi λb _ hb=>⟨hb.1,λk' o' hk' _=>?_⟩)
      cases k' with
      | succ k'=>simp at hk'
      | zero=>
       simp only[if_true]
       rw[←hg]
       refine hb.2 k (f_ d (k+1) S'.objs o) ?_ hlv
       simp[St.freeze,ho]
 ·intro j j' o1 o2 g hne h1 h2 h3 h4
  cases j<;>cases j'<;>simp at h1 h3
  exact absurd rfl hne
 ·intro j o1 g h1 h2 h3
  cases j with
  | succ j=>simp at h1
  | zero=>simp only[if_true]at h3;exact R'.objs.np k o g ho hlv h3
 ·obtain⟨h0,o1,h1,h2,h3⟩:=hx
  rw[ho]at h1
  cases h1
  obtain⟨hM,hh⟩:=h3 hlv rfl
  refine⟨h0,_,rfl,Nat.le_refl _,λ_ _=>⟨hM,?_⟩⟩
  unfold Ab at hh ⊢
  simp only[if_true]
  cases hg:aA k with
  | none=>rw[hg]at hh;exact⟨hh.1,by simp[f_,hh.2]⟩
  | some g=>rw[hg]at hh;simpa[f_] using hh
theorem ai.Y1 {f:FuncId}{fn:Func}{c:Code}{C:LC}{args:List PV}{o':Obj}(d:Nat){t n:Nat}(hD:∀t,je P t (D t))(hT:Ii P none tY T)(hm:P.follows .mixedOrders=true)
  (hf:P.funcs[f]?=some fn) (hname:(fn.name== "runtime.NumGoroutine")=false) (hb:fn.body=some c) (hn:fn.ntmps=n) (hr:fn.results=#[.tmp t]) (hC:strip C=comp c)
  (h:l7 P D T C (UR d t o') (cK args n)):ai P f args [] (.bO 0 0) [o']:=by
 refine⟨⟨fn,hf,hname,by rw[hb];rfl⟩,λw blk vs base hbase _ hargs=>?_⟩
 have hpw:PW P none tY c (UR d t o') (cK args n):=qP hD hm C _ _ _ c _ _ hT hC h
 have R:=zA hbase hargs n
 have hw:=hpw _ _ (λx=>(⟨w.heap,[],0,w⟩:Wz)=x) (by rintro z rfl;exact⟨rfl,rfl⟩) _ _ _ ⟨_,rfl,R⟩
 rw[←callsIn_wide (n:=0)]
 refine callsIn_of_wp_marks hf hb trivial ?_
 rw[hn]
 refine wpIn_mono hw ?_
 rintro e a' w' ⟨S0,aa6,⟨he,S',k,ver,o,hwk,ht,ho,hlv,hv,rfl,hnr⟩,_,rfl,R0⟩
 obtain⟨aA,R'⟩:=hwk _ _ _ _ _ _ (Nat.le_refl _) R0
 have key:∀w',Rel base (λb=>b<w.heap.size∧aZ [] blk b) ⟨w.heap,[],0,w⟩ S' aA { a' with defers:=[] } w'→∃v,(results fn a'.tmps).run P w'=.ok v w'∧(∃v' nL,Ending.returned v=.returned v'∧
     dP base (λb=>b<w.heap.size∧aZ [] blk b) [mY d k S' o] nL w'∧
     aY w' (bZ base [mY d k S' o] nL) [mY d k S' o] nL (.bO 0 0) v'∧(∀b,b<w.heap.size→aZ [] blk b→w'.heap[b]?=w.heap[b]?)∧w.heap.size≤w'.heap.size∧Sm w w'):=by
  intro w' R'
  have hx:=R'.ev (.tmp t)
  change aY w' _ _ aA (S'.tmps.getD t .dead) (a'.tmps.getD t undef) at hx
  rw[ht,←hv]at hx
  obtain⟨c1,c2⟩:=Fe (d:=d) R' ho hlv hnr
  exact⟨_,results_tmp hr _ _ _,a'.tmps.getD t undef,_,rfl,c1,c2 _ hx,λb hb1 hb2=>R'.fr b ⟨hb1,hb2⟩,R'.gr,R'.sm⟩
 rcases he with rfl | rfl<;>exact oO _ _ R' key
def adr(D:TypeId→aH)(d:Nat)(rs:List ResultVar)(qs:List PV)(o':Obj)(e:Exit)(S:St):Prop:=
 (e=.normal∨e=.ret)∧∃S' k o,Weak 0 S S'∧jZ D S' rs (λps=>ps=.bO k o.ver::qs)∧S'.objs[k]?=some o∧o.live=true∧mY d k S' o=o'∧fI [o']∧qs.all PV.atom=true
theorem ai.UU {f:FuncId}{fn:Func}{c:Code}{C:LC}{args:List PV}{o':Obj}(d:Nat){rs:List ResultVar}{n:Nat}{qs:List PV}(hD:∀t,je P t (D t))(hT:Ii P none tY T)(hm:P.follows .mixedOrders=true)
  (hf:P.funcs[f]?=some fn) (hname:(fn.name== "runtime.NumGoroutine")=false) (hb:fn.body=some c) (hn:fn.ntmps=n) (hr:fn.results=rs.toArray) (hl:rs.length≤3) (hC:strip C=comp c)
  (h:l7 P D T C (adr D d rs qs o') (cK args n)):ai P f args [] (fU (.bO 0 0::qs)) [o']:=by
 refine⟨⟨fn,hf,hname,by rw[hb];rfl⟩,λw blk vs base hbase _ hargs=>?_⟩
 have hpw:PW P none tY c (adr D d rs qs o') (cK args n):=qP hD hm C _ _ _ c _ _ hT hC h
 have R:=zA hbase hargs n
 have hw:=hpw _ _ (λx=>(⟨w.heap,[],0,w⟩:Wz)=x) (by rintro z rfl;exact⟨rfl,rfl⟩) _ _ _ ⟨_,rfl,R⟩
 rw[←callsIn_wide (n:=0)]
 refine callsIn_of_wp_marks hf hb trivial ?_
 rw[hn]
 refine wpIn_mono hw ?_
 rintro e a' w' ⟨S0,aa6,⟨he,S',k,o,hwk,hout,ho,hlv,rfl,hnr,hq⟩,_,rfl,R0⟩
 obtain⟨aA,R'⟩:=hwk _ _ _ _ _ _ (Nat.le_refl _) R0
 have key:∀w',Rel base (λb=>b<w.heap.size∧aZ [] blk b) ⟨w.heap,[],0,w⟩ S' aA { a' with defers:=[] } w'→∃v,(results fn a'.tmps).run P w'=.ok v w'∧(∃v' nL,Ending.returned v=.returned v'∧
     dP base (λb=>b<w.heap.size∧aZ [] blk b) [mY d k S' o] nL w'∧
     aY w' (bZ base [mY d k S' o] nL) [mY d k S' o] nL (fU (.bO 0 0::qs)) v'∧(∀b,b<w.heap.size→aZ [] blk b→w'.heap[b]?=w.heap[b]?)∧w.heap.size≤w'.heap.size∧Sm w w'):=by
  intro w' R'
  obtain⟨vs',ps,h1,h2,h3⟩:=CW hD R' rs _ hout
  subst h2
  obtain⟨c1,c2⟩:=Fe (d:=d) R' ho hlv hnr
  refine⟨KZ vs',Gd hr hl h1,KZ vs',_,rfl,c1,?_,λb hb1 hb2=>R'.fr b ⟨hb1,hb2⟩,R'.gr,R'.sm⟩
  obtain⟨hl3,h3⟩:=h3
  match vs',qs,hl3,h3,hq with
  | [v],[],_,h3,_=>exact c2 v (h3 0 _ v rfl rfl)
  | v::v'::vs,q::qs,hl3,h3,hq=>
   refine⟨v::v'::vs,rfl,by simpa using hl3,λi p u hp hu=>?_⟩
   cases i with
   | zero=>cases hp;cases hu;exact c2 _ (h3 0 _ _ rfl rfl)
   | succ i=>
    have hp':(q::qs)[i]?=some p:=hp
    have ha:=List.all_eq_true.1 hq p (List.mem_of_getElem? hp')
    have h5:=h3 (i+1) p u hp hu
    refine Jd ha (w:=w') (ok:=bZ base S'.objs aA) (objs:=S'.objs) (blk:=aA) ?_
    cases p<;>first | exact h5 | (simp[PV.atom]at ha)
 rcases he with rfl | rfl<;>exact oO _ _ R' key
def abj(n:Nat)(I J:Nat→List Obj→Prop)(e:Exit)(S:St):Prop:=(e=.normal∨e=.ret)∧(I n S.objs∨∃i,i<n∧J i S.objs)
def CX(fn:Tab)(y:Nat)(Y:YT)(nx:Nat):Know:=⟨fn,y,Y,false,λ_ _ _=>False,nx,true⟩
theorem Gives.Ij {f:FuncId}{fn:Func}{c:Code}{C:LC}{cap:List PV}{ys:List (List PV)}{n:Nat}{fnT:Tab}(hD:∀t,je P t (D t))(hT:xh P fnT)(hm:P.follows .mixedOrders=true)
  (hf:P.funcs[f]?=some fn) (hname:(fn.name== "runtime.NumGoroutine")=false) (hb:fn.body=some c) (hn:fn.ntmps=n) (hr:fn.results=#[]) (hC:strip C=comp c)
  (h:∀(I J:Nat→List Obj→Prop) (objs:List Obj) (y:Nat),I 0 objs→(∀i O,I i O→objs.length≤O.length∧kL O)→(∀i O,J i O→objs.length≤O.length∧kL O)→
   l7 P D (CX fnT y (Yof ys I J) objs.length) C (abj ys.length I J) ⟨(cK (.H7 y::cap) n).tmps,objs⟩):Gives P f cap ys:=by
 refine⟨⟨fn,hf,hname,by rw[hb];rfl⟩,λI J base av V y objs blk w KX hY hnx hR hI0 KY hJl hcap=>?_⟩
 obtain⟨w0,hV,R⟩:=hR
 let E:Env:=λbase' AO V'=>base'=base∧AO=av∧V'=V
 have hk:Ii P none E (CX fnT y (Yof ys I J) objs.length):=
  ⟨hT,by rintro b p v ⟨rfl,rfl,rfl⟩;exact hY,by rintro b p v ⟨rfl,rfl,rfl⟩;exact hnx,(λh=>by cases h),λ_ _ _ h=>h.elim⟩
 have hpw:PW P none E c (abj ys.length I J) ⟨(cK (.H7 y::cap) n).tmps,objs⟩:=qP hD hm C _ _ _ c _ _ hk hC (h I J objs y hI0 KY hJl)
 have hargs:dB (aY w (bZ base objs blk) objs blk) (.H7 y::cap) (.func (.yield y) #[] #[]::KX):=by
  refine⟨by simpa using hcap.1,λi p v hp hv=>?_⟩
  cases i with
  | zero=>
   simp only[List.getElem?_cons_zero,Option.some.injEq]at hp hv
   subst hp;subst hv
   exact .aM (.H7 y)
  | succ i=>exact .aM (hcap.2 i p v (by simpa using hp) (by simpa using hv))
 have R1:Rel base av w0 ⟨(cK (.H7 y::cap) n).tmps,objs⟩ blk { tmps:=(⟨.func (.yield y) #[] #[]::KX⟩:Array Value)++Array.replicate (n-(⟨.func (.yield y) #[] #[]::KX⟩:Array Value).size) undef,defers:=[] } w:=by
  have hl:=hargs.1
  refine⟨.nil _ _,?_,λt p hp=>?_,R.objs,R.pr,R.fr,R.gr,R.pb,R.ext,R.MJ,R.sm,R.gl⟩
  ·simp only[cK,Array.size_append,Array.size_replicate,List.length_append,List.length_replicate,hl]
   simp
  ·simp only[cK]at hp
   rw[List.getElem?_append]at hp
   split at hp
   ·rename_i ht
    obtain⟨v,hv⟩:∃v,(Value.func (.yield y) #[] #[]::KX)[t]?=some v:=⟨_,List.getElem?_eq_getElem (by omega)⟩
    have hg:((⟨.func (.yield y) #[] #[]::KX⟩:Array Value)++Array.replicate (n-(⟨.func (.yield y) #[] #[]::KX⟩:Array Value).size) undef).getD t undef=v:=by
     rw[Array.getD_eq_getD_getElem?,Array.getElem?_append,if_pos (by simpa using (by rw[←hl];exact ht:t<(Value.func (.yield y) #[] #[]::KX).length))]
     simp[hv]
    rw[hg]
    exact hargs.2 t p v hp hv
   ·rw[List.getElem?_replicate]at hp
    split at hp
    ·cases hp;exact .dead _
    ·cases hp
 have hw:=hpw base av V ⟨rfl,rfl,rfl⟩ blk _ w ⟨w0,hV,R1⟩
 rw[←callsIn_wide (n:=0)]
 refine callsIn_of_wp_marks hf hb trivial ?_
 rw[hn]
 refine wpIn_mono hw ?_
 rintro e a' w' ⟨S',aA,⟨he,hI⟩,w0',hV',R'⟩
 have key:∀w'',Rel base av w0' S' aA { a' with defers:=[] } w''→∃v,(results fn a'.tmps).run P w''=.ok v w''∧(∃objs' nL,Ending.returned v=.returned (.tuple #[])∧(I ys.length objs'∨∃i,i<ys.length∧J i objs')∧sF base av V ⟨[],objs'⟩ nL aa7 w''):=by
  intro w'' R''
  refine⟨_,results_none hr _ _ _,S'.objs,aA,rfl,hI,w0',hV',.nil _ _,rfl,λt p hp=>by simp at hp,R''.objs,R''.pr,R''.fr,R''.gr,R''.pb,R''.ext,R''.MJ,R''.sm,R''.gl⟩
 rcases he with rfl | rfl<;>exact oO _ _ R' key
theorem Y2{w:World}{ok:Nat→Prop}{sz:Nat}{xs:List PV}{v:Value}(h:dM w ok (.sl sz xs none) v):(xs=[]∧dM w ok (.sl sz xs (some true)) v)∨dM w ok (.sl sz xs (some false)) v:=by
 cases h with
 | slnil _ _ _=>exact .inl ⟨rfl,.slnil _ _ (by simp)⟩
 | MH _ _ _ a cap hc=>exact .inr (.MH _ _ (by simp) a cap hc)
 | sl _ _ _ _ b off cap vs h1 h2 h3 h4 h5 h6=>exact .inr (.sl _ _ _ (by simp) b off cap vs h1 h2 h3 h4 h5 h6)
theorem ai.split {f:FuncId}{pre post:List PV}{sz:Nat}{xs:List PV}{r:PV}{os:List Obj}(h1:xs=[]→ai P f (pre++.sl sz [] (some true)::post) [] r os)(h2:ai P f (pre++.sl sz xs (some false)::post) [] r os) :
  ai P f (pre++.sl sz xs none::post) [] r os:=by
 refine⟨h2.1,λw blk vs base hb ho hargs=>?_⟩
 have key:∀p:PV,(∀v,aY w (bZ base [] blk) [] blk (.sl sz xs none) v→vs[pre.length]?=some v→aY w (bZ base [] blk) [] blk p v)→dB (aY w (bZ base [] blk) [] blk) (pre++p::post) vs:=by
  intro p hp
  refine⟨by have:=hargs.1;simpa using this,λi q u hq hu=>?_⟩
  rw[List.getElem?_append]at hq
  by_cases hi:i<pre.length
  ·rw[if_pos hi]at hq
   exact hargs.2 i q u (by rw[List.getElem?_append,if_pos hi];exact hq) hu
  ·rw[if_neg hi]at hq
   by_cases he:i=pre.length
   ·subst he
    simp only[Nat.sub_self,List.getElem?_cons_zero,Option.some.injEq]at hq
    subst hq
    exact hp u (hargs.2 pre.length _ u (by rw[List.getElem?_append,if_neg (by omega)];simp) hu) hu
   ·refine hargs.2 i q u ?_ hu
    rw[List.getElem?_append,if_neg hi]
    obtain⟨j,hj⟩:∃j,i-pre.length=j+1:=⟨i-pre.length-1,by omega⟩
    rw[hj]at hq ⊢
    simpa using hq
 have hlt:pre.length<vs.length:=by have:=hargs.1;simp at this;omega
 have hr:dM w (bZ base [] blk) (.sl sz xs none) (vs[pre.length]):=hargs.2 pre.length (.sl sz xs none) _ (by simp) (List.getElem?_eq_getElem hlt)
 rcases Y2 hr with ⟨rfl,hr⟩ | hr
 ·exact (h1 rfl).2 w blk vs base hb ho (key _ λv _ hv=>by rw[List.getElem?_eq_getElem hlt]at hv;cases hv;exact hr)
 ·exact h2.2 w blk vs base hb ho (key _ λv _ hv=>by rw[List.getElem?_eq_getElem hlt]at hv;cases hv;exact hr)
theorem ai.abk {f:FuncId}{args:List PV}{r r':PV}(h:ai P f args [] r [])(hr:∀w ok v,dM w ok r v→dM w ok r' v):ai P f args [] r' []:=by
 refine⟨h.1,λw blk vs base hb ho hargs=>Calls.mono (h.2 w blk vs base hb ho hargs) ?_⟩
 rintro e w' ⟨v,aA,h1,h2,h3,h4,h5⟩
 exact⟨v,aA,h1,h2,.aM (hr _ _ _ (yh h3)),h4,h5⟩
theorem Oe{w:World}{ok:Nat→Prop}{s s':Nat}{q:Option Bool}{v:Value}(h:dM w ok (.sl s [] (some true)) v)(hq:q≠some false):dM w ok (.sl s' [] q) v:=by
 cases h with
 | slnil _ _ _=>exact .slnil _ _ hq
 | MH _ _ hq'=>exact absurd rfl hq'
 | sl _ _ _ hq'=>exact absurd rfl hq'
end Lp
namespace Lp
open Go
def aO(P:Program)(f:FuncId)(n:Nat)(rs:List ResultVar)(C:LC):Prop:=
 ∃fn c,P.funcs[f]?=some fn∧(fn.name== "runtime.NumGoroutine")=false∧fn.body=some c∧fn.ntmps=n∧fn.results=rs.toArray∧strip C=comp c
abbrev dD:=List PV→List Obj→KT→Prop
def aC(P:Program)(f:FuncId)(c:dD):Prop:=∀args objs K,c args objs K→∃r objs' t,nJ P f args objs r objs' t∧K r objs' t
def uO:List (FuncId×dD)→Tab
 | [],_,_,_,_=>False
 | (g,c)::l,f,args,objs,K=>bif f==g then c args objs K else uO l f args objs K
def aR(P:Program)(l:List (FuncId×dD)):Know:=⟨uO l,0,λ_ _ _=>False,true,Gives P,0,true⟩
theorem ah{P:Program}:xh P (uO []):=λ_ _ _ _ h=>h.elim
theorem af{P:Program}{g:FuncId}{c:dD}{l:List (FuncId×dD)}(h:aC P g c)(hl:xh P (uO l)):xh P (uO ((g,c)::l)):=by
 intro f args objs K hh
 unfold uO at hh
 cases he:f==g with
 | true=>
  rw[he]at hh
  have:f=g:=by simpa using he
  subst this
  exact h args objs K hh
 | false=>rw[he]at hh;exact hl f args objs K hh
theorem aj{P:Program}{l:List (FuncId×dD)}(h:xh P (uO l)):Ii P none tY (aR P l):=.ahJ h rfl λ_ _ _ h=>h
variable {P:Program}{D:TypeId→aH}{T:Know}
theorem aO.pure {f:FuncId}{n:Nat}{rs:List ResultVar}{C:LC}{args:List PV}{r:PV}(h:aO P f n rs C)(d:Nat)(hD:∀t,je P t (D t))(hT:Ii P none tY T)(hm:P.follows .mixedOrders=true)(hl:rs.length≤3)
  (hw:l7 P D T C (YZ D d rs r) (cK args n)):ai P f args [] r []:=by
 obtain⟨fn,c,h1,h2,h3,h4,h5,h6⟩:=h
 exact ai.Ij d hD hT hm h1 h2 h3 h4 h5 hl h6 hw
theorem aO.made {f:FuncId}{n t:Nat}{C:LC}{args:List PV}{o':Obj}(h:aO P f n [.tmp t] C)(d:Nat)(hD:∀t,je P t (D t))(hT:Ii P none tY T)(hm:P.follows .mixedOrders=true)
  (hw:l7 P D T C (UR d t o') (cK args n)):ai P f args [] (.bO 0 0) [o']:=by
 obtain⟨fn,c,h1,h2,h3,h4,h5,h6⟩:=h
 exact ai.Y1 d hD hT hm h1 h2 h3 h4 h5 h6 hw
theorem aO.M7 {f:FuncId}{n:Nat}{rs:List ResultVar}{C:LC}{args:List PV}{qs:List PV}{o':Obj}(h:aO P f n rs C)(d:Nat)(hD:∀t,je P t (D t))(hT:Ii P none tY T)(hm:P.follows .mixedOrders=true)(hl:rs.length≤3)
  (hw:l7 P D T C (adr D d rs qs o') (cK args n)):ai P f args [] (fU (.bO 0 0::qs)) [o']:=by
 obtain⟨fn,c,h1,h2,h3,h4,h5,h6⟩:=h
 exact ai.UU d hD hT hm h1 h2 h3 h4 h5 hl h6 hw
theorem aO.gives {f:FuncId}{n:Nat}{C:LC}{cap:List PV}{ys:List (List PV)}{fnT:Tab}(h:aO P f n [] C)(hD:∀t,je P t (D t))(hT:xh P fnT)(hm:P.follows .mixedOrders=true)
  (hw:∀(I J:Nat→List Obj→Prop) (objs:List Obj) (y:Nat),I 0 objs→(∀i O,I i O→objs.length≤O.length∧kL O)→(∀i O,J i O→objs.length≤O.length∧kL O)→
   l7 P D (CX fnT y (Yof ys I J) objs.length) C (abj ys.length I J) ⟨(cK (.H7 y::cap) n).tmps,objs⟩):Gives P f cap ys:=by
 obtain⟨fn,c,h1,h2,h3,h4,h5,h6⟩:=h
 exact Gives.Ij hD hT hm h1 h2 h3 h4 h5 h6 hw
def mkT(n:Nat)(l:List (Nat×PV)):List PV:=l.foldl (λtm x=>tm.set x.1 x.2) (List.replicate n .dead)
def mK(v:PV)(d:Nat)(want:Bool)(S:St)(X Y:St→Prop):Prop:=
 match v with
 | .bool b=>(b=want→X { S with tmps:=S.tmps.set d (.bool want) })∧(b=!want→Y { S with tmps:=S.tmps.set d (.bool !want) })
 | .bY []=>Y S
 | _=>False
def noTwo:List Nat→Bool
 | []=>true
 | t::ts=>co t !=2 && noTwo ts
theorem Ff:∀(ts:List Nat) (i:Nat),noTwo ts=true→co (ts.getD i 0)≠2
 | [],i,_=>by simp[co]
 | t::ts,i,h=>by
  simp only[noTwo,Bool.and_eq_true,bne_iff_ne,ne_eq]at h
  cases i with
  | zero=>simpa using h.1
  | succ i=>simpa using Ff ts i h.2
theorem Og(un ts:List Nat):(oM un ts=true)=((noTwo ts || oM un ts)=true):=by
 cases h:noTwo ts with
 | false=>rfl
 | true=>
  have:rF un ts=true:=by
   unfold rF
   rw[List.all_eq_true]
   intro i _
   simp only[Bool.or_eq_true,List.all_eq_true]
   right
   intro j _
   have h1:=Ff ts i h
   have h2:=Ff ts j h
   simp only[beq_eq_false_iff_ne.2 h1,beq_eq_false_iff_ne.2 h2,Bool.false_and,Bool.or_false,Bool.not_false,or_true]
  simp[oM,this]
theorem Bq :
  (∀(Q:Exit→St→Prop) S,l7 P D T .skip Q S=Q .normal S)∧
  (∀(Q:Exit→St→Prop) S,l7 P D T .ret Q S=Q .ret S)∧
  (∀id (Q:Exit→St→Prop) S,l7 P D T (.exit id) Q S=Q (.exit id) S)∧
  (∀ss (Q:Exit→St→Prop) S,l7 P D T (.reg ss) Q S=LR P D T ss S [] λS' _=>Q .normal S')∧
  (∀ss un (Q:Exit→St→Prop) S,l7 P D T (.draw ss un) Q S=LR P D T.noY ss S [] λS' ts=>(noTwo ts || oM un ts)=true∧Q .normal S')∧
  (∀a b (Q:Exit→St→Prop) S,l7 P D T (.seq a b) Q S=l7 P D T a (thenS (λS'=>l7 P D T b Q S') Q) S)∧
  (∀c a b (Q:Exit→St→Prop) S,l7 P D T (.cond c a b) Q S=AQ (S.ev c) (l7 P D T a Q S) (l7 P D T b Q S))∧
  (∀id c (Q:Exit→St→Prop) S,l7 P D T (.block id c) Q S=l7 P D T c (tT id Q) S):=by
 refine⟨λ_ _=>rfl,λ_ _=>rfl,λ_ _ _=>rfl,λ_ _ _=>rfl,λss un Q S=>?_,λ_ _ _ _=>rfl,λ_ _ _ _ _=>rfl,λ_ _ _ _=>rfl⟩
 simp only[←Og]
 rfl
theorem Af :
  (∀(n:St→Prop) (Q:Exit→St→Prop) S,thenS n Q .normal S=n S)∧
  (∀(n:St→Prop) (Q:Exit→St→Prop) S,thenS n Q .ret S=Q .ret S)∧
  (∀(n:St→Prop) (Q:Exit→St→Prop) S id,thenS n Q (.exit id) S=Q (.exit id) S)∧
  (∀(Q:Exit→St→Prop) S id,tT id Q .normal S=Q .normal S)∧
  (∀(Q:Exit→St→Prop) S id,tT id Q .ret S=Q .ret S)∧
  (∀(Q:Exit→St→Prop) S id id',tT id Q (.exit id') S=if id'=id then Q .normal S else Q (.exit id') S)∧
  (∀b X Y,AQ (.bool b) X Y=((b=true→X)∧(b=false→Y))):=
 ⟨λ_ _ _=>rfl,λ_ _ _=>rfl,λ_ _ _ _=>rfl,λ_ _ _=>rfl,λ_ _ _=>rfl,λ_ _ _ _=>rfl,λ_ _ _=>rfl⟩
theorem CY :
  (∀S ts (K:St→List Nat→Prop),LR P D T [] S ts K=K S ts)∧
  (∀d o g w rest S ts (K:St→List Nat→Prop),LR P D T (⟨d,o,g,w⟩::rest) S ts K=x9 g S
   (λS=>mg P D T w (S.tmps.all PV.pure) S.ev S.objs o λr objs' t=>LR P D T rest (St.put ⟨S.tmps,objs'⟩ d r) (ts++[t]) K)
   (λS=>LR P D T rest (S.put d (.bY [])) (ts++[0]) K)):=⟨λ_ _ _=>rfl,λ_ _ _ _ _ _ _ _=>rfl⟩
theorem CZ :
  (∀(S:St) (X Y:St→Prop),x9 none S X Y=X S)∧
  (∀d w (S:St) (X Y:St→Prop),x9 (some (some d,w)) S X Y=mK (S.tmps.getD d .dead) d w S X Y)∧
  (∀b d w (S:St) (X Y:St→Prop),mK (.bool b) d w S X Y=((b=w→X { S with tmps:=S.tmps.set d (.bool w) })∧(b=!w→Y { S with tmps:=S.tmps.set d (.bool !w) })))∧
  (∀d w (S:St) (X Y:St→Prop),mK (.bY []) d w S X Y=Y S):=⟨λ_ _ _=>rfl,λ_ _ _ _ _=>rfl,λ_ _ _ _ _ _=>rfl,λ_ _ _ _ _=>rfl⟩
theorem Ag :
  (∀tm ob d p,St.put ⟨tm,ob⟩ (some d) p=⟨tm.set d p,ob⟩)∧
  (∀tm ob p,St.put ⟨tm,ob⟩ none p=⟨tm,ob⟩)∧
  (∀tm ob t,St.ev ⟨tm,ob⟩ (.tmp t)=tm.getD t .dead)∧
  (∀(S:St) v,S.ev (.const v)=.xH v)∧
  (∀(S:St) f,S.ev (.func f)=.fn f [] [])∧
  (∀k n,PV.xH (.int k n)=.int k n)∧(∀b,PV.xH (.bool b)=.bool b)∧(∀l,PV.xH (.string ⟨⟨l⟩⟩)=.str l)∧
  (PV.xH (.slice none 0 0)=.sl 0 [] (some true))∧(PV.xH (.pointer none)=.Cx)∧(PV.xH .nilFunc=.ET)∧
  (∀args n,cK args n=⟨args++List.replicate (n-args.length) .dead,[]⟩):=
 ⟨λ_ _ _ _=>rfl,λ_ _ _=>rfl,λ_ _ _=>rfl,λ_ _=>rfl,λ_ _=>rfl,
  λ_ _=>rfl,λ_=>rfl,λ_=>rfl,rfl,rfl,rfl,λ_ _=>rfl⟩
theorem nN(w pt:Bool)(ev:Operand→PV)(objs:List Obj)(K:KT) :
  (∀x,mg P D T w pt ev objs (.move x) K=K (ev x) objs 0)∧(∀x,mg P D T w pt ev objs (.assign x) K=K (ev x) objs 0)∧
  (∀c x y,mg P D T w pt ev objs (.pick c x y) K=sP (ev c) (ev x) (ev y) objs K)∧
  (∀t,mg P D T w pt ev objs (.alloc t) K=tQ t (D t) objs K)∧
  (∀t x,mg P D T w pt ev objs (.box t x) K=KN t (D t) (ev x) objs K)∧
  (∀t ps,mg P D T w pt ev objs (.build t ps) K=bM D t (ps.toList.map λx=>(x.1,ev x.2)) objs K)∧
  (∀t n ps,mg P D T w pt ev objs (.buildSlice t n ps) K=bW D w t n (ps.toList.map λx=>(x.1,ev x.2)) objs K)∧
  (∀t x,mg P D T w pt ev objs (.load t x) K=fQ (D t) (ev x) objs K)∧
  (∀t x y,mg P D T w pt ev objs (.store t x y) K=kK (D t) (ev x) (ev y) objs K)∧
  (∀x,mg P D T w pt ev objs (.nilCheck x) K=dU (ev x) objs K)∧
  (∀b t x y t',mg P D T w pt ev objs (.binOp b t x y t') K=pM P (D t) t b (ev x) (ev y) λr=>K r objs 0)∧
  (∀u t x,mg P D T w pt ev objs (.unOp u t x) K=Qu u (ev x) λr=>K r objs 0)∧
  (∀s t x,mg P D T w pt ev objs (.convert s t x) K=kZ D s t (ev x) objs K)∧
  (∀f first cap,mg P D T w pt ev objs (.makeFunc (.func f) first cap) K=kH f (first.toList.map ev) (cap.toList.map ev) objs K)∧
  (∀t l c,mg P D T w pt ev objs (.makeSlice t l c) K=fZ D t (ev l) (ev c) objs K)∧
  (∀t x lo hi,mg P D T w pt ev objs (.slice t x lo hi none) K=jJ D t (ev x) (lo.map ev) (hi.map ev) objs K)∧
  (∀t x f,mg P D T w pt ev objs (.fieldAddr t x f) K=aK D t (ev x) f objs K)∧
  (∀t x f,mg P D T w pt ev objs (.field t x f) K=qa D t (ev x) f objs K)∧
  (∀t x i,mg P D T w pt ev objs (.indexAddr t x i) K=bC D t (ev x) (ev i) objs K)∧
  (∀t x i,mg P D T w pt ev objs (.index t x i) K=mH D t (ev x) (ev i) objs K)∧
  (∀x i,mg P D T w pt ev objs (.extract x i) K=bq (ev x) i objs K)∧
  (∀t x at',mg P D T w pt ev objs (.call { callee:=.builtin .len,args:=⟨[x]⟩,argTypes:=⟨t::at'⟩ }) K=fT D .len (t::at') [x] ev objs K)∧
  (∀b args ats,mg P D T w pt ev objs (.call { callee:=.builtin b,args:=args,argTypes:=ats }) K=fT D b ats.toList args.toList ev objs K)∧
  (∀f args ats,mg P D T w pt ev objs (.call { callee:=.value f,args:=args,argTypes:=ats }) K=ow T pt (ev f) (args.toList.map ev) objs K):=
 ⟨λ_=>rfl,λ_=>rfl,λ_ _ _=>rfl,λ_=>rfl,λ_ _=>rfl,λ_ _=>rfl,λ_ _ _=>rfl,λ_ _=>rfl,λ_ _ _=>rfl,λ_=>rfl,λ_ _ _ _ _=>rfl,λ_ _ _=>rfl,λ_ _ _=>rfl,
  λ_ _ _=>rfl,λ_ _ _=>rfl,λ_ _ _ _=>rfl,λ_ _ _=>rfl,λ_ _ _=>rfl,λ_ _ _=>rfl,λ_ _ _=>rfl,λ_ _=>rfl,λ_ _ _=>rfl,λ_ _ _=>rfl,λ_ _ _=>rfl⟩
theorem caR :
  (∀pt g first cap args objs (K:KT),ow T pt (.fn g first cap) args objs K=T.fn g (first++args++cap) objs K)∧
  (∀pt l args objs (K:KT),ow T pt (.H7 l) args objs K=(l=T.y∧pt=true∧args.all PV.pure=true∧T.Y args objs λb o=>K (.bool b) o 2)):=
 ⟨λ_ _ _ _ _ _ _=>rfl,λ_ _ _ _ _=>rfl⟩
theorem Gf(l:List (FuncId×dD)):((aR P l).noY.fn=uO l)∧((aR P l).rg=true)∧((aR P l).fn=uO l)∧((aR P l).nx=0)∧((aR P l).top=true)∧((aR P l).gives=Gives P):=⟨rfl,rfl,rfl,rfl,rfl,rfl⟩
theorem kiR(fn:Tab)(y:Nat)(Y:YT)(nx:Nat):((CX fn y Y nx).fn=fn)∧((CX fn y Y nx).noY.fn=fn)∧((CX fn y Y nx).rg=true)∧((CX fn y Y nx).y=y)∧((CX fn y Y nx).Y=Y)∧((CX fn y Y nx).nx=nx):=⟨rfl,rfl,rfl,rfl,rfl,rfl⟩
theorem taR(g f:FuncId)(c:dD)(l:List (FuncId×dD))(args:List PV)(objs:List Obj)(K:KT):uO ((g,c)::l) f args objs K=bif f==g then c args objs K else uO l f args objs K:=rfl
def kindOf:TypeDesc→TK
 | .string=>.str
 | .bool=>.bool
 | .int k=>.int k
 | .slice e=>.slice e
 | .array n e=>.array n e
 | .struct fl=>.struct (fl.toList.map λf=>(f.offset,f.type))
 | .map k e=>.map k e
 | _=>.other
theorem afp{P:Program}{t:TypeId}{k:TK}{sz by':Nat}{z:Value}(h1:(P.info? t).map (λi=>(i.size,i.bytes,i.zero))=some (sz,by',some z))(h2:(P.underlying t).map kindOf=some k)(h3:Nat.beq t MT=false):je P t ⟨k,sz,by',z⟩:=by
 cases hi:P.info? t with
 | none=>rw[hi]at h1;simp at h1
 | some i=>
  rw[hi]at h1
  simp only[Option.map_some,Option.some.injEq,Prod.mk.injEq]at h1
  cases hu:P.underlying t with
  | none=>rw[hu]at h2;simp at h2
  | some d=>
   rw[hu]at h2
   simp only[Option.map_some,Option.some.injEq]at h2
   subst h2
   refine .inr ⟨⟨i,hi,h1.1,h1.2.1,h1.2.2,λe=>by rw[e]at h3;exact absurd h3 (by decide)⟩,?_⟩
   cases d<;>simp only[kindOf]<;>first
    | exact hu
    | exact⟨_,hu,rfl⟩
theorem Oh{P:Program}{t:TypeId}:je P t aH.off:=.inl rfl
end Lp
namespace Lp
open Go
variable {P:Program}{D:TypeId→aH}{T:Know}{objs objs':List Obj}{K:KT}
@[congr] theorem agw{ss:List Step}{S S':St}{ts ts':List Nat}{K:St→List Nat→Prop}(h:S=S')(h':ts=ts'):LR P D T ss S ts K=LR P D T ss S' ts' K:=by rw[h,h']
@[congr] theorem ads{v v':PV}{d:Nat}{w:Bool}{S:St}{X Y:St→Prop}(h:v=v'):mK v d w S X Y=mK v' d w S X Y:=by rw[h]
@[congr] theorem aem{v v':PV}{X Y:Prop}(h:v=v'):AQ v X Y=AQ v' X Y:=by rw[h]
@[congr] theorem aen{c c' x x' y y':PV}(h1:c=c')(h2:x=x')(h3:y=y')(ho:objs=objs'):sP c x y objs K=sP c' x' y' objs' K:=by rw[h1,h2,h3,ho]
@[congr] theorem adt{t:TypeId}{ti XA:aH}(h:ti=XA)(ho:objs=objs'):tQ t ti objs K=tQ t XA objs' K:=by rw[h,ho]
@[congr] theorem afq{t:TypeId}{ti XA:aH}{v v':PV}(h:ti=XA)(h1:v=v')(ho:objs=objs'):KN t ti v objs K=KN t XA v' objs' K:=by rw[h,h1,ho]
@[congr] theorem adu{t:TypeId}{ps ps':List (Nat×PV)}(h:ps=ps')(ho:objs=objs'):bM D t ps objs K=bM D t ps' objs' K:=by rw[h,ho]
@[congr] theorem XB{own:Bool}{t:TypeId}{n:Nat}{ps ps':List (Nat×PV)}(h:ps=ps')(ho:objs=objs'):bW D own t n ps objs K=bW D own t n ps' objs' K:=by rw[h,ho]
@[congr] theorem aeo{ti XA:aH}{p p':PV}(h:ti=XA)(h1:p=p')(ho:objs=objs'):fQ ti p objs K=fQ XA p' objs' K:=by rw[h,h1,ho]
@[congr] theorem adv{ti XA:aH}{p p' v v':PV}(h:ti=XA)(h1:p=p')(h2:v=v')(ho:objs=objs'):kK ti p v objs K=kK XA p' v' objs' K:=by rw[h,h1,h2,ho]
@[congr] theorem aax{x x':PV}(h:x=x')(ho:objs=objs'):dU x objs K=dU x' objs' K:=by rw[h,ho]
@[congr] theorem afr{ti XA:aH}{t:TypeId}{b:BinOp}{x x' y y':PV}{K:PV→Prop}(h:ti=XA)(h1:x=x')(h2:y=y'):pM P ti t b x y K=pM P XA t b x' y' K:=by rw[h,h1,h2]
@[congr] theorem af_{u:UnOp}{x x':PV}{K:PV→Prop}(h:x=x'):Qu u x K=Qu u x' K:=by rw[h]
@[congr] theorem aep{s s' d d':aH}{x x':PV}{K:PV→Prop}(h:s=s')(h1:d=d')(h2:x=x'):ou s d x K=ou s' d' x' K:=by rw[h,h1,h2]
@[congr] theorem aay{f:FuncId}{a a' c c':List PV}(h:a=a')(h1:c=c')(ho:objs=objs'):kH f a c objs K=kH f a' c' objs' K:=by rw[h,h1,ho]
@[congr] theorem Y3{t:TypeId}{l l' c c':PV}(h:l=l')(h1:c=c')(ho:objs=objs'):fZ D t l c objs K=fZ D t l' c' objs' K:=by rw[h,h1,ho]
@[congr] theorem adw{t:TypeId}{x x':PV}{lo lo' hi hi':Option PV}(h:x=x')(h1:lo=lo')(h2:hi=hi')(ho:objs=objs'):jJ D t x lo hi objs K=jJ D t x' lo' hi' objs' K:=by rw[h,h1,h2,ho]
@[congr] theorem Y4{t:TypeId}{x x':PV}{f:Nat}(h:x=x')(ho:objs=objs'):aK D t x f objs K=aK D t x' f objs' K:=by rw[h,ho]
@[congr] theorem adx{t:TypeId}{x x':PV}{f:Nat}(h:x=x')(ho:objs=objs'):qa D t x f objs K=qa D t x' f objs' K:=by rw[h,ho]
@[congr] theorem Y5{t:TypeId}{x x' i i':PV}(h:x=x')(h1:i=i')(ho:objs=objs'):bC D t x i objs K=bC D t x' i' objs' K:=by rw[h,h1,ho]
@[congr] theorem ady{t:TypeId}{x x' i i':PV}(h:x=x')(h1:i=i')(ho:objs=objs'):mH D t x i objs K=mH D t x' i' objs' K:=by rw[h,h1,ho]
@[congr] theorem abl{x x':PV}{i:Nat}(h:x=x')(ho:objs=objs'):bq x i objs K=bq x' i objs' K:=by rw[h,ho]
@[congr] theorem afs{t:TypeId}{x x':PV}(h:x=x')(ho:objs=objs'):qZ D t x objs K=qZ D t x' objs' K:=by rw[h,ho]
@[congr] theorem acY{t u:TypeId}{s s' x x':PV}(h:s=s')(h1:x=x')(ho:objs=objs'):eB D t u s x objs K=eB D t u s' x' objs' K:=by rw[h,h1,ho]
@[congr] theorem acZ{b:Bool}{xs xs':List PV}{K:PV→Prop}(h:xs=xs'):jf b xs K=jf b xs' K:=by rw[h]
@[congr] theorem aer{pt pt':Bool}{f f':PV}{args args':List PV}(hp:pt=pt')(h:f=f')(h1:args=args')(ho:objs=objs'):ow T pt f args objs K=ow T pt' f' args' objs' K:=by rw[hp,h,h1,ho]
@[congr] theorem aes{pl:Nat→Option (Nat×Nat)}{cs cs':List PV}{ps:List (Nat×PV)}{K:List PV→Prop}(h:cs=cs'):nD pl cs ps K=nD pl cs' ps K:=by rw[h]
@[congr] theorem adz{x x':Option PV}{d d':Int}{K:Int→Prop}(h:x=x')(h1:d=d'):dJ x d K=dJ x' d' K:=by rw[h,h1]
@[congr] theorem aga{C:LC}{Q:Exit→St→Prop}{S S':St}(h:S=S'):l7 P D T C Q S=l7 P D T C Q S':=by rw[h]
theorem aF{ks:List Bool}{fz:Option (Nat×Nat)}{c:LC}{Q:Exit→St→Prop}{S:St}(I:Nat→St→Prop)(m:Nat)(h0:I m (S.norm ks fz))
  (hr:∀m S,I m S→l7 P D T c (thenS (λS'=>∃m',m'<m∧I m' (S'.norm ks fz)) Q) S) (hz:KW T.nx fz:=by exact trivial):l7 P D T (.loop ks fz c) Q S:=⟨hz,I,⟨_,m,Weak.norm ks fz hz S,h0⟩,hr⟩
theorem M8{ks:List Bool}{fz:Option (Nat×Nat)}{c:LC}{Q:Exit→St→Prop}{S:St}(S0:St)(I:Nat→St→Prop)(m:Nat)(hw:Weak T.nx (S.norm ks fz) S0)(h0:I m S0)
  (hr:∀m S,I m S→l7 P D T c (thenS (λS'=>∃m',m'<m∧I m' (S'.norm ks fz)) Q) S) (hz:KW T.nx fz:=by exact trivial):l7 P D T (.loop ks fz c) Q S:=⟨hz,I,⟨S0,m,(Weak.norm ks fz hz S).trans hw,h0⟩,hr⟩
theorem aN{c:LC}{Q:Exit→St→Prop}{S:St}(S':St)(hw:Weak T.nx S S')(h:l7 P D T c Q S'):l7 P D T (.weak c) Q S:=⟨S',hw,h⟩
theorem UW{f:Operand}{ps:List Nat}{fz:Option (Nat×Nat)}{x y:LC}{Q:Exit→St→Prop}{S:St}(g:FuncId)(cap:List PV)(ys:List (List PV))(I:Nat→List Obj→Prop)(ht:T.top=true)
  (hf:S.ev f=.fn g [] cap) (hc:cap.all PV.pure=true) (hz:KW S.objs.length fz) (hg:T.gives g cap ys) (hy:∀y∈ys,y.length=ps.length) (h0:I 0 S.objs) (hl:∀i objs,I i objs→S.objs.length≤objs.length∧kL objs)
  (hr:∀i args objs,I i objs→ys[i]?=some args→l7 P D (T.inner S.objs.length) x (thenS (λS1=>l7 P D (T.inner S.objs.length) y (UL fz (I (i+1))) S1) (λ_ _=>False)) ⟨rG ps args S.tmps,objs⟩)
  (he:∀objs,I ys.length objs→Q .normal ⟨S.tmps,objs⟩):l7 P D T (.rf f ps fz x y) Q S:=⟨ht,g,cap,ys,hf,hc,hg,hy,.inl ⟨I,hz,h0,hl,hr,he⟩⟩
theorem XC{f:Operand}{ps:List Nat}{fz:Option (Nat×Nat)}{x y:LC}{Q:Exit→St→Prop}{S:St}(g:FuncId)(cap:List PV)(ys:List (List PV))(I J:Nat→List Obj→Prop)(lv:Exit){lc:Code}(hlv:Jr lv=some lc)(ht:T.top=true)
  (hf:S.ev f=.fn g [] cap) (hc:cap.all PV.pure=true) (hz:KW (S.objs.length+2) fz) (hg:T.gives g cap ys) (hy:∀y∈ys,y.length=ps.length) (h0:I 0 (S.objs++[xN,hole])) (hl:∀i objs,I i objs→Gh S.objs.length objs)
  (hj:∀i objs,J i objs→Gh S.objs.length objs∧fI objs)
  (hr:∀i args objs,I i objs→ys[i]?=some args→l7 P D (T.inner (S.objs.length+2)) x (thenS (λS1=>l7 P D (T.inner (S.objs.length+2)) y (Oa fz (I (i+1)) lv (J i)) S1) (λ_ _=>False)) ⟨rG ps args S.tmps,objs⟩)
  (he:∀objs,I ys.length objs→Q .normal ⟨S.tmps,objs⟩) (hv:∀i objs,i<ys.length→J i objs→Q lv ⟨S.tmps,jh S.objs.length objs⟩):l7 P D T (.rf f ps fz x y) Q S:=
 ⟨ht,g,cap,ys,hf,hc,hg,hy,.inr ⟨I,J,lv,lc,hlv,hz,h0,hl,hj,hr,he,hv⟩⟩
theorem Fg(d n:Nat)(objs:List Obj) :
  (∀k m,iB d n objs (.int k m)=.int k m)∧(∀b,iB d n objs (.bool b)=.bool b)∧(∀s,iB d n objs (.str s)=.str s)∧(∀sz xs q,iB d n objs (.sl sz xs q)=.sl sz xs q)∧(∀x,iB d n objs (.addr x)=.addr x)∧
  (iB d n objs .dead=.dead)∧
  (∀cs,iB d n objs (.agg cs)=.agg (cs.map (eZ d n objs)))∧(∀cs,iB d n objs (.bY cs)=.bY (cs.map (eZ d n objs)))∧
  (∀k m,eZ d n objs (.int k m)=.int k m)∧(∀b,eZ d n objs (.bool b)=.bool b)∧(∀s,eZ d n objs (.str s)=.str s)∧(∀sz xs q,eZ d n objs (.sl sz xs q)=.sl sz xs q)∧(∀x,eZ d n objs (.addr x)=.addr x)∧(eZ d n objs .dead=.dead):=
 ⟨λ_ _=>rfl,λ_=>rfl,λ_=>rfl,λ_ _ _=>rfl,λ_=>rfl,rfl,λ_=>rfl,λ_=>rfl,λ_ _=>rfl,λ_=>rfl,λ_=>rfl,λ_ _ _=>rfl,λ_=>rfl,rfl⟩
theorem oh(d:Nat)(rs:List ResultVar)(r:PV)(S:St) :
  (YZ D d rs r .ret S=jZ D S rs λps=>r=fU (ps.map (iB d 0 S.objs)))∧(YZ D d rs r .normal S=jZ D S rs λps=>r=fU (ps.map (iB d 0 S.objs))):=by
 constructor<;>simp[YZ]
theorem Gg(d t:Nat)(o:Obj)(S:St) :
  (UR d t o .ret S=∃S' k ver o0,Weak 0 S S'∧S'.tmps.getD t .dead=.bO k ver∧S'.objs[k]?=some o0∧o0.live=true∧o0.ver=ver∧{ f_ d (k+1) S'.objs o0 with ver:=0 }=o∧fI [o])∧
  (UR d t o .normal S=∃S' k ver o0,Weak 0 S S'∧S'.tmps.getD t .dead=.bO k ver∧S'.objs[k]?=some o0∧o0.live=true∧o0.ver=ver∧{ f_ d (k+1) S'.objs o0 with ver:=0 }=o∧fI [o]):=by
 constructor<;>simp[UR]
theorem sG:(∀(x p:PV) l n,(x::l).set (n+1) p=x::l.set n p)∧(∀(x p:PV) l,(x::l).set 0 p=p::l)∧(∀(x:PV) l n d,(x::l).getD (n+1) d=l.getD n d)∧(∀(x:PV) l d,(x::l).getD 0 d=x)∧
  (∀(x:PV) l m,(x::l)++m=x::(l++m))∧(∀m:List PV,[]++m=m)∧(∀n (x:PV),List.replicate (n+1) x=x::List.replicate n x)∧(∀(x:PV),List.replicate 0 x=[])∧(∀(x:PV) l,(x::l).length=l.length+1)∧(([]:List PV).length=0)∧
  (∀(f:Operand→PV) x l,(x::l).map f=f x::l.map f)∧(∀(f:Operand→PV),[].map f=[])∧
  (∀(f:Nat×Operand→Nat×PV) x l,(x::l).map f=f x::l.map f)∧(∀(f:Nat×Operand→Nat×PV),[].map f=[])∧
  (∀(f:PV→PV) x l,(x::l).map f=f x::l.map f)∧(∀(f:PV→PV),[].map f=[])∧
  (∀(f:Operand→PV) x,(some x).map f=some (f x))∧(∀(f:Operand→PV),none.map f=none)∧
  (∀(x:Nat) l m,(x::l)++m=x::(l++m))∧(∀m:List Nat,[]++m=m)∧
  (∀n l,mkT n l=l.foldl (λtm x=>tm.set x.1 x.2) (List.replicate n .dead))∧
  (∀(f:List PV→Nat×PV→List PV) x l i,(x::l).foldl f i=l.foldl f (f i x))∧(∀(f:List PV→Nat×PV→List PV) i,[].foldl f i=i):=
 ⟨λ_ _ _ _=>rfl,λ_ _ _=>rfl,λ_ _ _ _=>rfl,λ_ _ _=>rfl,λ_ _ _=>rfl,λ_=>rfl,λ_ _=>rfl,λ_=>rfl,λ_ _=>rfl,rfl,λ_ _ _=>rfl,λ_=>rfl,
  λ_ _ _=>rfl,λ_=>rfl,λ_ _ _=>rfl,λ_=>rfl,λ_ _=>rfl,λ_=>rfl,λ_ _ _=>rfl,λ_=>rfl,λ_ _=>rfl,λ_ _ _ _=>rfl,λ_ _=>rfl⟩
theorem Uq:(∀ks x (l:List PV),Ae (true::ks) (x::l)=x::Ae ks l)∧(∀ks x (l:List PV),Ae (false::ks) (x::l)=.dead::Ae ks l)∧(∀ks,Ae ks []=[])∧(∀ks (S:St),S.norm ks none=S.forget ks)∧(∀ks tm ob,St.forget ks ⟨tm,ob⟩=⟨Ae ks tm,ob⟩):=
 ⟨λ_ _ _=>rfl,λ_ _ _=>rfl,λks=>by cases ks<;>rfl,λ_ _=>rfl,λ_ _ _=>rfl⟩
theorem Ik(ti:aH)(t:TypeId)(K:PV→Prop) :
  (∀b k x y,pM P ti t b (.int k x) (.int k y) K=p_ b k k x y K)∧
  (∀b x y,pM P ti t b (.str x) (.str y) K=jI b x y K)∧
  (∀x y,pM P ti t .eql (.bool x) (.bool y) K=(ti.kind=.bool∧K (.bool (x==y))))∧
  (∀x y,pM P ti t .neq (.bool x) (.bool y) K=(ti.kind=.bool∧K (.bool (!(x==y)))))∧
  (∀x y,pM P ti t .eql (.agg x) (.agg y) K=(Cy P t x y∧∃r,Ac x y=some r∧K (.bool r)))∧
  (∀x y,pM P ti t .neq (.agg x) (.agg y) K=(Cy P t x y∧∃r,Ac x y=some r∧K (.bool (!r))))∧
  (∀s x q s' x',pM P ti t .eql (.sl s x (some q)) (.sl s' x' (some true)) K=((∃e,ti.kind=.slice e)∧K (.bool q)))∧
  (∀s x q s' x',pM P ti t .neq (.sl s x (some q)) (.sl s' x' (some true)) K=((∃e,ti.kind=.slice e)∧K (.bool (!q)))):=
 ⟨λ_ _ _ _=>rfl,λ_ _ _=>rfl,λ_ _=>rfl,λ_ _=>rfl,λ_ _=>rfl,λ_ _=>rfl,λ_ _ _ _ _=>rfl,λ_ _ _ _ _=>rfl⟩
theorem Il(k:IntKind)(a b:Int)(K:PV→Prop) :
  (p_ .add k k a b K=(KM k (a+b)∧K (.int k (a+b))))∧(p_ .sub k k a b K=(KM k (a-b)∧K (.int k (a-b))))∧(p_ .mul k k a b K=(KM k (a*b)∧K (.int k (a*b))))∧
  (p_ .quo k k a b K=(b≠0∧KM k (a.tdiv b)∧K (.int k (a.tdiv b))))∧(p_ .rem k k a b K=(b≠0∧K (.int k (a.tmod b))))∧
  (p_ .eql k k a b K=K (.bool (decide (a=b))))∧(p_ .neq k k a b K=K (.bool (!decide (a=b))))∧(p_ .lss k k a b K=K (.bool (decide (a<b))))∧(p_ .leq k k a b K=K (.bool (decide (a≤b))))∧
  (p_ .gtr k k a b K=K (.bool (decide (b<a))))∧(p_ .geq k k a b K=K (.bool (decide (b≤a)))):=by
 refine⟨?_,?_,?_,?_,?_,?_,?_,?_,?_,?_,?_⟩<;>simp[p_]
theorem yo(a:Int):(KM .i64 a=(-9223372036854775808≤a∧a≤9223372036854775807))∧(KM .u8 a=(0≤a∧a≤255)):=⟨rfl,rfl⟩
theorem eP(ev:Operand→PV):(∀t x,fT D .len [t] [x] ev objs K=qZ D t (ev x) objs K)∧(∀t u s x,fT D .append [t,u] [s,x] ev objs K=eB D t u (ev s) (ev x) objs K)∧
  (∀ts xs,fT D .max ts xs ev objs K=jf true (xs.map ev) λr=>K r objs 0)∧(∀ts xs,fT D .min ts xs ev objs K=jf false (xs.map ev) λr=>K r objs 0):=
 ⟨λ_ _=>rfl,λ_ _ _ _=>rfl,λ_ _=>rfl,λ_ _=>rfl⟩
theorem AU{α:Type}(l:List α)(f:α→PV)(n:Nat)(q:PV→Prop):(∃y,(l.map f)[n]?=some y∧q y)=∃x,l[n]?=some x∧q (f x):=by
 apply propext
 constructor
 ·rintro⟨y,h,hq⟩
  rw[List.getElem?_map]at h
  cases hx:l[n]? with
  | none=>rw[hx]at h;simp at h
  | some x=>rw[hx]at h;simp only[Option.map_some,Option.some.injEq]at h;exact⟨x,rfl,h ▸ hq⟩
 ·rintro⟨x,h,hq⟩
  exact⟨f x,by rw[List.getElem?_map,h];rfl,hq⟩
theorem M9{α:Type}(a:α)(l:List α)(q:α→Prop):((∃x,(a::l)[0]?=some x∧q x)=q a)∧(∀n,(∃x,(a::l)[n+1]?=some x∧q x)=∃x,l[n]?=some x∧q x):=by
 refine⟨propext ⟨?_,λh=>⟨a,rfl,h⟩⟩,λn=>rfl⟩
 rintro⟨x,h,hq⟩
 simp only[List.getElem?_cons_zero,Option.some.injEq]at h
 exact h ▸ hq
theorem KH:(∀s b z,aH.agg ⟨.str,s,b,z⟩=false)∧(∀k s b z,aH.agg ⟨.int k,s,b,z⟩=false)∧(∀s b z,aH.agg ⟨.bool,s,b,z⟩=false)∧(∀e s b z,aH.agg ⟨.slice e,s,b,z⟩=false)∧(∀s b z,aH.agg ⟨.other,s,b,z⟩=false)∧
  (∀fs s b z,aH.agg ⟨.struct fs,s,b,z⟩=true)∧(∀n e s b z,aH.agg ⟨.array n e,s,b,z⟩=true):=⟨λ_ _ _=>rfl,λ_ _ _ _=>rfl,λ_ _ _=>rfl,λ_ _ _ _=>rfl,λ_ _ _=>rfl,λ_ _ _ _=>rfl,λ_ _ _ _ _=>rfl⟩
theorem uP(cs:List PV)(o n:Nat):(sub cs o n false=cs.getD o .dead)∧(sub cs o n true=.agg ((cs.drop o).take n)):=⟨rfl,rfl⟩
theorem G8:(∀k n,PV.isAgg (.int k n)=false)∧(∀b,PV.isAgg (.bool b)=false)∧(∀s,PV.isAgg (.str s)=false)∧(∀s x q,PV.isAgg (.sl s x q)=false)∧(∀cs,PV.isAgg (.agg cs)=true)∧(∀k v,PV.isAgg (.bO k v)=false)∧(∀k v i f,PV.isAgg (.bP k v i f)=false)∧(∀x,PV.isAgg (.addr x)=false)∧(PV.isAgg .Cx=false)∧
  (∀k n,PV.cells (.int k n)=[.int k n])∧(∀b,PV.cells (.bool b)=[.bool b])∧(∀s,PV.cells (.str s)=[.str s])∧(∀s x q,PV.cells (.sl s x q)=[.sl s x q])∧(∀cs,PV.cells (.agg cs)=cs)∧(∀k v,PV.cells (.bO k v)=[.bO k v])∧(∀k v i f,PV.cells (.bP k v i f)=[.bP k v i f])∧(∀x,PV.cells (.addr x)=[.addr x]):=
 ⟨λ_ _=>rfl,λ_=>rfl,λ_=>rfl,λ_ _ _=>rfl,λ_=>rfl,λ_ _=>rfl,λ_ _ _ _=>rfl,λ_=>rfl,rfl,λ_ _=>rfl,λ_=>rfl,λ_=>rfl,λ_ _ _=>rfl,λ_=>rfl,λ_ _=>rfl,λ_ _ _ _=>rfl,λ_=>rfl⟩
theorem Jz:(∀(f:PV→Bool) x l,(x::l).all f=(f x && l.all f))∧(∀f:PV→Bool,[].all f=true)∧(∀(x:PV) l n,(x::l).take (n+1)=x::l.take n)∧(∀l:List PV,l.take 0=[])∧(∀(x:PV) l n,(x::l).drop (n+1)=l.drop n)∧(∀l:List PV,l.drop 0=l)∧(∀n,([]:List PV).take n=[])∧(∀n,([]:List PV).drop n=[]):=
 ⟨λ_ _ _=>rfl,λ_=>rfl,λ_ _ _=>rfl,λ_=>by simp,λ_ _ _=>rfl,λ_=>rfl,λ_=>by simp,λ_=>by simp⟩
theorem fzR(d n:Nat)(objs:List Obj):(∀k v,iB d n objs (.bO k v)=eZ d n objs (.bO k v))∧(∀k v i f,iB d n objs (.bP k v i f)=eZ d n objs (.bP k v i f))∧(∀l,iB d n objs (.H7 l)=.H7 l)∧
  (∀f a c,iB d n objs (.fn f a c)=.fn f (a.map (eZ d n objs)) (c.map (eZ d n objs))):=⟨λ_ _=>rfl,λ_ _ _ _=>rfl,λ_=>rfl,λ_ _ _=>rfl⟩
theorem puR:(∀k n,PV.pure (.int k n)=true)∧(∀b,PV.pure (.bool b)=true)∧(∀s,PV.pure (.str s)=true)∧(∀s x q,PV.pure (.sl s x q)=true)∧(∀x,PV.pure (.addr x)=true)∧(PV.pure .dead=true)∧(∀l,PV.pure (.H7 l)=true):=
 ⟨λ_ _=>rfl,λ_=>rfl,λ_=>rfl,λ_ _ _=>rfl,λ_=>rfl,rfl,λ_=>rfl⟩
theorem AV{d n:Nat}{objs:List Obj}{k v i f:Nat}(h:n≤k):(eZ d n objs (.bP k v i f)).pure=true:=by
 simp only[eZ,if_neg (Nat.not_lt.2 h)]
 cases d<;>simp only[gX]
 ·rfl
 ·split
  ·split
   ·split<;>rfl
   ·rfl
  ·rfl
theorem JA{α β:Type}(a:α)(l:List α)(q:α→β→Prop):((∃x y,(a::l)[0]?=some x∧q x y)=∃y,q a y)∧(∀n,(∃x y,(a::l)[n+1]?=some x∧q x y)=∃x y,l[n]?=some x∧q x y):=by
 refine⟨propext ⟨?_,λ⟨y,h⟩=>⟨a,y,rfl,h⟩⟩,λn=>rfl⟩
 rintro⟨x,y,h,hq⟩
 simp only[List.getElem?_cons_zero,Option.some.injEq]at h
 exact⟨y,h ▸ hq⟩
theorem obR:(∀(x p:Obj) l n,(x::l).set (n+1) p=x::l.set n p)∧(∀(x p:Obj) l,(x::l).set 0 p=p::l)∧(∀(x:Obj) l m,(x::l)++m=x::(l++m))∧(∀m:List Obj,[]++m=m)∧(∀(x:Obj) l,(x::l).length=l.length+1)∧(([]:List Obj).length=0):=
 ⟨λ_ _ _ _=>rfl,λ_ _ _=>rfl,λ_ _ _=>rfl,λ_=>rfl,λ_ _=>rfl,rfl⟩
end Lp
namespace Lp
open Go
def ahK(ops:List Oper)(j:Nat):Option Nat:=(ops[j]?).bind (·.dst)
def aft(l:List Nat)(x:Nat):Bool:=l.any (Nat.beq x)
def ahL(own:List Nat):Option Nat→Bool
 | some d=>aft own d
 | none=>false
def stepG(own:List Nat)(ops:List Oper)(o:Oper):Step:=⟨o.dst,o.op,match o.guard with
 | none=>none
 | some (j,b)=>some (ahK ops j,b),ahL own o.dst⟩
abbrev LpH:=Nat×Option (Nat×Nat)
def ahM(nt m:Nat):List Bool:=(List.range nt).map (Nat.testBit m)
def yt(nt:Nat)(own wk:List Nat):Code→List LpH→LC×List LpH
 | .skip,k=>(.skip,k)
 | .ret,k=>(.ret,k)
 | .exit id,k=>(.exit id,k)
 | .region id ops false,k=>(bif aft wk id then .weak (.reg (ops.toList.map (stepG own ops.toList))) else .reg (ops.toList.map (stepG own ops.toList)),k)
 | .region id ops true,k=>(bif aft wk id then .weak (.draw (ops.toList.map (stepG own ops.toList)) (qj ops.toList (masks ops.toList []))) else .draw (ops.toList.map (stepG own ops.toList)) (qj ops.toList (masks ops.toList [])),k)
 | .seq a b,k=>
  match yt nt own wk a k with
  | (x,k')=>match yt nt own wk b k' with
   | (y,k'')=>(.seq x y,k'')
 | .cond c a b,k=>
  match yt nt own wk a k with
  | (x,k')=>match yt nt own wk b k' with
   | (y,k'')=>(.cond c x y,k'')
 | .block id b,k=>
  match yt nt own wk b k with
  | (x,k')=>(.block id x,k')
 | .loop b,k=>
  match yt nt own wk b k.tail with
  | (x,k')=>(.loop (ahM nt (k.headD (0,none)).1) (k.headD (0,none)).2 x,k')
 | .rangeFunc f ps a b,k=>
  match yt nt own wk a k.tail with
  | (x,k')=>match yt nt own wk b k' with
   | (y,k'')=>(.rf f ps.toList (k.headD (0,none)).2 x y,k'')
 | _,k=>(.bad,k)
def gen(own:List Nat)(lps:List LpH)(wk:List Nat)(f:Func):LC:=
 match f.body with
 | some c=>(yt f.ntmps own wk c lps).1
 | none=>.bad
def jG:Code→Bool
 | .region _ ops true=>gL ops.toList (masks ops.toList [])
 | .seq a b=>jG a && jG b
 | .cond _ a b=>jG a && jG b
 | .block _ c=>jG c
 | .loop c=>jG c
 | .rangeFunc _ _ a b=>jG a && jG b
 | _=>true
theorem Gi(own:List Nat)(ops l:List Oper):(l.map (stepG own ops)).map Bo=l.map (stepOf ops):=by
 rw[List.map_map]
 exact List.map_congr_left λo _=>rfl
theorem C8(b:Bool)(c:LC):strip (bif b then .weak c else c)=strip c:=by cases b<;>rfl
theorem j3(nt:Nat)(own wk:List Nat):∀(c:Code),jG c=true→∀(k:List LpH),strip (yt nt own wk c k).1=comp c
 | .skip,_,_=>rfl
 | .ret,_,_=>rfl
 | .exit _,_,_=>rfl
 | .region id ops false,_,_=>by
  simp only[yt,C8,strip,Gi,comp]
 | .region id ops true,h,_=>by
  simp only[jG]at h
  simp only[yt,C8,strip,Gi,comp,h,cond_true]
 | .seq a b,h,k=>by
  simp only[jG,Bool.and_eq_true]at h
  simp only[yt,strip,comp,j3 nt own wk a h.1,j3 nt own wk b h.2]
 | .cond c a b,h,k=>by
  simp only[jG,Bool.and_eq_true]at h
  simp only[yt,strip,comp,j3 nt own wk a h.1,j3 nt own wk b h.2]
 | .block id c,h,k=>by
  simp only[jG]at h
  simp only[yt,strip,comp,j3 nt own wk c h]
 | .loop c,h,k=>by
  simp only[jG]at h
  simp only[yt,strip,comp,j3 nt own wk c h]
 | .rangeFunc f ps a b,h,k=>by
  simp only[jG,Bool.and_eq_true]at h
  simp only[yt,strip,comp,j3 nt own wk a h.1,j3 nt own wk b h.2]
 | .scope _,_,_=>rfl
 | .label _,_,_=>rfl
 | .goto _,_,_=>rfl
 | .refuse _,_,_=>rfl
def okF(f:Func)(n:Nat):Bool:=!(f.name== "runtime.NumGoroutine") && Nat.beq f.ntmps n && match f.body with | some c=>jG c | none=>false
theorem a_{P:Program}{f:FuncId}{fn:Func}{n:Nat}{rs:List ResultVar}{own wk:List Nat}{lps:List LpH}(h:P.funcs[f]?=some fn)(hr:fn.results=rs.toArray)(hk:okF fn n=true):aO P f n rs (gen own lps wk fn):=by
 unfold okF at hk
 rw[Bool.and_eq_true,Bool.and_eq_true]at hk
 obtain⟨⟨h1,h2⟩,h3⟩:=hk
 cases hb:fn.body with
 | none=>rw[hb]at h3;cases h3
 | some c=>
  rw[hb]at h3
  refine⟨fn,c,h,by simpa using h1,hb,Nat.eq_of_beq_eq_true h2,hr,?_⟩
  unfold gen
  rw[hb]
  exact j3 _ _ _ _ h3 _
def abm(P:Program)(t:TypeId):aH:=
 match P.info? t,P.underlying t with
 | some i,some d=>match i.zero with
  | some z=>bif Nat.beq t MT then aH.off else ⟨kindOf d,i.size,i.bytes,z⟩
  | none=>aH.off
 | _,_=>aH.off
theorem abn{P:Program}(t:TypeId):je P t (abm P t):=by
 unfold abm
 split
 ·rename_i i d hi hu
  split
  ·rename_i z hz
   cases hm:Nat.beq t MT with
   | true=>exact Oh
   | false=>exact afp (by rw[hi,Option.map_some,hz]) (by rw[hu];rfl) hm
  ·exact Oh
 ·exact Oh
end Lp
namespace Lp
open Go Go.Proofs
noncomputable def D:TypeId→aH:=abm Tryz.prog
theorem hD(t:TypeId):je Tryz.prog t (D t):=abn t
theorem aV:Tryz.prog.follows .mixedOrders=true:=by kernel_rfl
theorem bS:D 3=⟨(.int .i64),1,8,.int .i64 0⟩∧D 4=⟨.bool,1,1,.bool false⟩∧D 5=⟨(.int .u8),1,1,.int .u8 0⟩∧D 9=⟨.str,1,16,.string ⟨⟨[]⟩⟩⟩∧D 21=⟨(.int .i32),1,4,.int .i32 0⟩∧D 22=⟨(.slice 51),1,24,.slice none 0 0⟩∧D 23=⟨(.slice 51),1,24,.slice none 0 0⟩∧D 25=⟨(.slice 61),1,24,.slice none 0 0⟩∧D 27=⟨(.struct [(0,3),(1,3),(2,9),(3,9),(4,4),(5,3)]),6,64,.agg ⟨[.int .i64 0,.int .i64 0,.string ⟨⟨[]⟩⟩,.string ⟨⟨[]⟩⟩,.bool false,.int .i64 0]⟩⟩∧D 29=⟨(.struct [(0,3),(1,27)]),7,72,.agg ⟨[.int .i64 0,.int .i64 0,.int .i64 0,.string ⟨⟨[]⟩⟩,.string ⟨⟨[]⟩⟩,.bool false,.int .i64 0]⟩⟩∧D 34=⟨(.int .i64),1,8,.int .i64 0⟩∧D 40=⟨(.slice 27),1,24,.slice none 0 0⟩∧D 41=⟨(.slice 27),1,24,.slice none 0 0⟩∧D 43=⟨(.struct [(0,23),(1,25),(2,29),(9,41)]),10,144,.agg ⟨[.slice none 0 0,.slice none 0 0,.int .i64 0,.int .i64 0,.int .i64 0,.string ⟨⟨[]⟩⟩,.string ⟨⟨[]⟩⟩,.bool false,.int .i64 0,.slice none 0 0]⟩⟩∧D 51=⟨(.struct [(0,3),(1,3),(2,9),(3,9),(4,3),(5,27)]),11,120,.agg ⟨[.int .i64 0,.int .i64 0,.string ⟨⟨[]⟩⟩,.string ⟨⟨[]⟩⟩,.int .i64 0,.int .i64 0,.int .i64 0,.string ⟨⟨[]⟩⟩,.string ⟨⟨[]⟩⟩,.bool false,.int .i64 0]⟩⟩∧D 52=⟨(.slice 3),1,24,.slice none 0 0⟩∧D 54=⟨(.slice 23),1,24,.slice none 0 0⟩∧D 55=⟨(.array 2 3),2,16,.agg ⟨[.int .i64 0,.int .i64 0]⟩⟩∧D 56=⟨(.slice 29),1,24,.slice none 0 0⟩∧D 61=⟨(.struct [(0,4),(1,9),(2,3)]),3,32,.agg ⟨[.bool false,.string ⟨⟨[]⟩⟩,.int .i64 0]⟩⟩∧D 80=⟨(.slice 41),1,24,.slice none 0 0⟩∧D 91=⟨(.slice 9),1,24,.slice none 0 0⟩∧D 117=⟨(.map 9 23),1,8,.map none⟩∧D 131=⟨(.map 3 3),1,8,.map none⟩∧D 140=⟨(.slice 4),1,24,.slice none 0 0⟩∧D 146=⟨(.slice 5),1,24,.slice none 0 0⟩∧D 167=⟨(.struct [(0,3),(1,3),(2,4),(3,9)]),4,40,.agg ⟨[.int .i64 0,.int .i64 0,.bool false,.string ⟨⟨[]⟩⟩]⟩⟩∧D 168=⟨(.slice 167),1,24,.slice none 0 0⟩:=by (repeat' constructor)<;>kernel_rfl
end Lp
namespace Lp
open Go Go.Proofs
theorem Fh:aO Tryz.prog 15 34 [.tmp 4] (gen [] [(33,none)] [] Tryz.f15):=a_ Tryz.func15 rfl (by kernel_rfl)
theorem Rl:aO Tryz.prog 128 60 [.tmp 4] (gen [] [] [] Tryz.f128):=a_ Tryz.func128 rfl (by kernel_rfl)
theorem Fj:aO Tryz.prog 51 82 [.tmp 4] (gen [] [] [] Tryz.f51):=a_ Tryz.func51 rfl (by kernel_rfl)
theorem Br:aO Tryz.prog 48 21 [.tmp 2] (gen [] [(9,none)] [] Tryz.f48):=a_ Tryz.func48 rfl (by kernel_rfl)
theorem C9:aO Tryz.prog 76 26 [.tmp 4] (gen [] [(35,none)] [] Tryz.f76):=a_ Tryz.func76 rfl (by kernel_rfl)
theorem Fp:aO Tryz.prog 25 17 [.tmp 2] (gen [] [(9,none)] [] Tryz.f25):=a_ Tryz.func25 rfl (by kernel_rfl)
theorem Bt:aO Tryz.prog 36 39 [.tmp 2] (gen [] [(9,none)] [] Tryz.f36):=a_ Tryz.func36 rfl (by kernel_rfl)
theorem Bu:aO Tryz.prog 145 20 [.tmp 4] (gen [] [] [] Tryz.f145):=a_ Tryz.func145 rfl (by kernel_rfl)
theorem Y6:aO Tryz.prog 146 30 [.tmp 4] (gen [] [] [1] Tryz.f146):=a_ Tryz.func146 rfl (by kernel_rfl)
theorem xJ:aO Tryz.prog 147 20 [.tmp 4] (gen [] [] [] Tryz.f147):=a_ Tryz.func147 rfl (by kernel_rfl)
theorem ni:aO Tryz.prog 148 36 [.tmp 4] (gen [] [(3587,none)] [] Tryz.f148):=a_ Tryz.func148 rfl (by kernel_rfl)
theorem Rm:aO Tryz.prog 149 19 [.tmp 2] (gen [] [(0,none)] [] Tryz.f149):=a_ Tryz.func149 rfl (by kernel_rfl)
theorem gK:aO Tryz.prog 150 39 [.tmp 6] (gen [] [(14343,none)] [] Tryz.f150):=a_ Tryz.func150 rfl (by kernel_rfl)
theorem Rn:aO Tryz.prog 151 15 [.tmp 2] (gen [] [(0,none)] [] Tryz.f151):=a_ Tryz.func151 rfl (by kernel_rfl)
theorem C_:aO Tryz.prog 78 7 [.tmp 4] (gen [] [] [] Tryz.f78):=a_ Tryz.func78 rfl (by kernel_rfl)
theorem Fq:aO Tryz.prog 79 56 [.tmp 4] (gen [] [(172,none)] [1] Tryz.f79):=a_ Tryz.func79 rfl (by kernel_rfl)
theorem Da:aO Tryz.prog 80 42 [.tmp 4] (gen [] [(35,none)] [] Tryz.f80):=a_ Tryz.func80 rfl (by kernel_rfl)
theorem Bv:aO Tryz.prog 42 28 [.tmp 2] (gen [7] [(57,none)] [] Tryz.f42):=a_ Tryz.func42 rfl (by kernel_rfl)
theorem Bw:aO Tryz.prog 81 48 [.tmp 4] (gen [] [(35,none)] [] Tryz.f81):=a_ Tryz.func81 rfl (by kernel_rfl)
theorem Bz:aO Tryz.prog 82 34 [.tmp 2] (gen [6] [(57,none)] [] Tryz.f82):=a_ Tryz.func82 rfl (by kernel_rfl)
noncomputable def sV:LC:=(gen [] [] [] Tryz.f62)
theorem Db:aO Tryz.prog 62 109 [.tmp 4] sV:=a_ Tryz.func62 rfl (by kernel_rfl)
theorem Dc:aO Tryz.prog 68 41 [.tmp 4] (gen [] [(35,none)] [] Tryz.f68):=a_ Tryz.func68 rfl (by kernel_rfl)
theorem BA:aO Tryz.prog 69 48 [.tmp 2] (gen [] [] [] Tryz.f69):=a_ Tryz.func69 rfl (by kernel_rfl)
theorem Ah:aO Tryz.prog 70 75 [.tmp 4] (gen [] [(99,none)] [] Tryz.f70):=a_ Tryz.func70 rfl (by kernel_rfl)
theorem Fs:aO Tryz.prog 171 6 [.tmp 2] (gen [] [] [] Tryz.f171):=a_ Tryz.func171 rfl (by kernel_rfl)
theorem UX:aO Tryz.prog 172 42 [.tmp 4] (gen [] [] [1] Tryz.f172):=a_ Tryz.func172 rfl (by kernel_rfl)
theorem Ai:aO Tryz.prog 173 6 [.tmp 2] (gen [] [] [] Tryz.f173):=a_ Tryz.func173 rfl (by kernel_rfl)
theorem UY:aO Tryz.prog 174 4 [.tmp 2] (gen [] [] [] Tryz.f174):=a_ Tryz.func174 rfl (by kernel_rfl)
theorem G9:aO Tryz.prog 100 30 [.tmp 4] (gen [] [] [1] Tryz.f100):=a_ Tryz.func100 rfl (by kernel_rfl)
theorem Fu:aO Tryz.prog 74 23 [.tmp 6] (gen [9] [] [] Tryz.f74):=a_ Tryz.func74 rfl (by kernel_rfl)
theorem Df:aO Tryz.prog 92 21 [.tmp 4] (gen [] [] [] Tryz.f92):=a_ Tryz.func92 rfl (by kernel_rfl)
theorem BB:aO Tryz.prog 97 72 [.tmp 2] (gen [] [] [1] Tryz.f97):=a_ Tryz.func97 rfl (by kernel_rfl)
theorem Oi:aO Tryz.prog 186 34 [] (gen [] [(1547,none)] [6] Tryz.f186):=a_ Tryz.func186 rfl (by kernel_rfl)
theorem Oj:aO Tryz.prog 187 19 [.tmp 4] (gen [] [(35,none)] [] Tryz.f187):=a_ Tryz.func187 rfl (by kernel_rfl)
theorem ji:aO Tryz.prog 188 8 [.tmp 2] (gen [5] [] [] Tryz.f188):=a_ Tryz.func188 rfl (by kernel_rfl)
theorem yu:aO Tryz.prog 108 20 [.tmp 2] (gen [] [(9,none)] [] Tryz.f108):=a_ Tryz.func108 rfl (by kernel_rfl)
end Lp
namespace Lp
open Go Go.Proofs
end Lp
namespace Lp
open Go Go.Proofs
end Lp
namespace Lp
open Go Go.Proofs
theorem K3:aO Tryz.prog 141 48 [.tmp 2] (gen [] [] [2] Tryz.f141):=a_ Tryz.func141 rfl (by kernel_rfl)
theorem Ro:aO Tryz.prog 168 54 [.tmp 2] (gen [] [] [1] Tryz.f168):=a_ Tryz.func168 rfl (by kernel_rfl)
theorem K4:aO Tryz.prog 134 17 [.tmp 4] (gen [] [] [] Tryz.f134):=a_ Tryz.func134 rfl (by kernel_rfl)
theorem G_:aO Tryz.prog 131 6 [.tmp 2] (gen [] [] [] Tryz.f131):=a_ Tryz.func131 rfl (by kernel_rfl)
theorem Rp:aO Tryz.prog 127 123 [.tmp 2] (gen [9] [(7177,some (1,1)),(7209,none)] [19] Tryz.f127):=a_ Tryz.func127 rfl (by kernel_rfl)
theorem K5:aO Tryz.prog 144 6 [.tmp 2] (gen [] [] [] Tryz.f144):=a_ Tryz.func144 rfl (by kernel_rfl)
theorem j4:aO Tryz.prog 143 9 [.tmp 4] (gen [] [] [] Tryz.f143):=a_ Tryz.func143 rfl (by kernel_rfl)
theorem kU:aO Tryz.prog 170 19 [.tmp 4] (gen [] [(387,none)] [] Tryz.f170):=a_ Tryz.func170 rfl (by kernel_rfl)
end Lp
namespace Lp
open Go Go.Proofs
theorem gH:aO Tryz.prog 104 19 [.tmp 4] (gen [] [(387,none)] [] Tryz.f104):=a_ Tryz.func104 rfl (by kernel_rfl)
theorem fJ:aO Tryz.prog 86 9 [.tmp 4] (gen [] [] [] Tryz.f86):=a_ Tryz.func86 rfl (by kernel_rfl)
theorem JB:aO Tryz.prog 115 11 [.tmp 2] (gen [] [] [1] Tryz.f115):=a_ Tryz.func115 rfl (by kernel_rfl)
theorem Ol:aO Tryz.prog 117 36 [.tmp 4] (gen [] [] [1] Tryz.f117):=a_ Tryz.func117 rfl (by kernel_rfl)
theorem K6:aO Tryz.prog 103 22 [.tmp 6] (gen [] [] [1] Tryz.f103):=a_ Tryz.func103 rfl (by kernel_rfl)
theorem He:aO Tryz.prog 116 8 [.tmp 3] (gen [] [] [1] Tryz.f116):=a_ Tryz.func116 rfl (by kernel_rfl)
theorem Rq:aO Tryz.prog 89 9 [.tmp 2] (gen [] [] [] Tryz.f89):=a_ Tryz.func89 rfl (by kernel_rfl)
theorem Y7:aO Tryz.prog 124 31 [.tmp 2] (gen [] [] [] Tryz.f124):=a_ Tryz.func124 rfl (by kernel_rfl)
theorem Rs:aO Tryz.prog 125 25 [.tmp 2] (gen [] [] [] Tryz.f125):=a_ Tryz.func125 rfl (by kernel_rfl)
theorem K7:aO Tryz.prog 114 63 [.cell 4 27,.tmp 5] (gen [] [] [] Tryz.f114):=a_ Tryz.func114 rfl (by kernel_rfl)
theorem Dg:aO Tryz.prog 102 4 [.tmp 2] (gen [] [] [1] Tryz.f102):=a_ Tryz.func102 rfl (by kernel_rfl)
theorem Aj:aO Tryz.prog 113 90 [] (gen [18] [(3670027,none),(120262754347,none),(2017612633061982217,none),(4231240368651202111471617,none)] [6,12,13,20,21,24] Tryz.f113):=a_ Tryz.func113 rfl (by kernel_rfl)
theorem Om:aO Tryz.prog 85 16 [.cell 4 27,.cell 5 4] (gen [] [(0,some (1,6))] [] Tryz.f85):=a_ Tryz.func85 rfl (by kernel_rfl)
theorem UZ:aO Tryz.prog 123 50 [.cell 6 27,.tmp 7] (gen [] [] [] Tryz.f123):=a_ Tryz.func123 rfl (by kernel_rfl)
theorem Dh:aO Tryz.prog 50 28 [.tmp 4] (gen [] [] [] Tryz.f50):=a_ Tryz.func50 rfl (by kernel_rfl)
theorem BD:aO Tryz.prog 26 11 [.tmp 2] (gen [] [] [1] Tryz.f26):=a_ Tryz.func26 rfl (by kernel_rfl)
theorem BF:aO Tryz.prog 9 16 [.tmp 2] (gen [] [] [1] Tryz.f9):=a_ Tryz.func9 rfl (by kernel_rfl)
theorem BG:aO Tryz.prog 19 14 [.tmp 4] (gen [] [] [1] Tryz.f19):=a_ Tryz.func19 rfl (by kernel_rfl)
theorem Di:aO Tryz.prog 73 16 [.tmp 4] (gen [] [(35,none)] [] Tryz.f73):=a_ Tryz.func73 rfl (by kernel_rfl)
theorem Ak:aO Tryz.prog 40 31 [.tmp 6] (gen [] [(162,none)] [1] Tryz.f40):=a_ Tryz.func40 rfl (by kernel_rfl)
end Lp
namespace Lp
open Go
def BH(b:Bool)(X Y:Prop):Prop:=(b=true→X)∧(b=false→Y)
@[congr] theorem agb{b b':Bool}{X Y:Prop}(h:b=b'):BH b X Y=BH b' X Y:=by rw[h]
theorem ifR :
  (∀X Y,BH true X Y=X)∧(∀X Y,BH false X Y=Y)∧
  (∀(p:Prop) [Decidable p] X Y,BH (decide p) X Y=((p→X)∧(¬ p→Y)))∧
  (∀b X Y,BH (!b) X Y=BH b Y X)∧
  (∀a b X Y,BH (a && b) X Y=BH a (BH b X Y) Y)∧
  (∀a b X Y,BH (a || b) X Y=BH a X (BH b X Y))∧
  (∀(x y:List UInt8) X Y,BH (x==y) X Y=((x=y→X)∧(x≠y→Y)))∧
  (∀(x y:Bool) X Y,BH (x==y) X Y=((x=y→X)∧(x≠y→Y))):=by
 refine⟨λX Y=>?_,λX Y=>?_,λp _ X Y=>?_,λb X Y=>?_,λa b X Y=>?_,λa b X Y=>?_,λx y X Y=>?_,λx y X Y=>?_⟩
 ·simp[BH]
 ·simp[BH]
 ·simp[BH]
 ·cases b<;>simp[BH]
 ·cases a<;>simp[BH]
 ·cases a<;>simp[BH]
 ·simp[BH]
 ·simp[BH]
theorem agx :
  (∀(n:St→Prop) (Q:Exit→St→Prop) S,thenS n Q .normal S=n S)∧
  (∀(n:St→Prop) (Q:Exit→St→Prop) S,thenS n Q .ret S=Q .ret S)∧
  (∀(n:St→Prop) (Q:Exit→St→Prop) S id,thenS n Q (.exit id) S=Q (.exit id) S)∧
  (∀(Q:Exit→St→Prop) S id,tT id Q .normal S=Q .normal S)∧
  (∀(Q:Exit→St→Prop) S id,tT id Q .ret S=Q .ret S)∧
  (∀(Q:Exit→St→Prop) S id id',tT id Q (.exit id') S=if id'=id then Q .normal S else Q (.exit id') S)∧
  (∀b X Y,AQ (.bool b) X Y=BH b X Y):=
 ⟨λ_ _ _=>rfl,λ_ _ _=>rfl,λ_ _ _ _=>rfl,λ_ _ _=>rfl,λ_ _ _=>rfl,λ_ _ _ _=>rfl,λ_ _ _=>rfl⟩
theorem agy :
  (∀(S:St) (X Y:St→Prop),x9 none S X Y=X S)∧
  (∀d w (S:St) (X Y:St→Prop),x9 (some (some d,w)) S X Y=mK (S.tmps.getD d .dead) d w S X Y)∧
  (∀b d (S:St) (X Y:St→Prop),mK (.bool b) d true S X Y=BH b (X { S with tmps:=S.tmps.set d (.bool true) }) (Y { S with tmps:=S.tmps.set d (.bool false) }))∧
  (∀b d (S:St) (X Y:St→Prop),mK (.bool b) d false S X Y=BH b (Y { S with tmps:=S.tmps.set d (.bool true) }) (X { S with tmps:=S.tmps.set d (.bool false) }))∧
  (∀d w (S:St) (X Y:St→Prop),mK (.bY []) d w S X Y=Y S):=
 ⟨λ_ _ _=>rfl,λ_ _ _ _ _=>rfl,λ_ _ _ _ _=>rfl,λb _ _ _ _=>by cases b<;>simp[mK,BH],λ_ _ _ _ _=>rfl⟩
structure HQ (C:LC) (Q:Exit→St→Prop):Type where
def afu(P:Program)(D:TypeId→aH)(T:Know){C:LC}{Q:Exit→St→Prop}(_h:HQ C Q)(S:St):Prop:=l7 P D T C Q S
theorem hoR(P:Program)(D:TypeId→aH)(T:Know) :
  (∀ks fz c (Q:Exit→St→Prop) S,l7 P D T (.loop ks fz c) Q S=afu P D T (HQ.mk:HQ (.loop ks fz c) Q) S)∧
  (∀c (Q:Exit→St→Prop) S,l7 P D T (.weak c) Q S=afu P D T (HQ.mk:HQ (.weak c) Q) S)∧
  (∀f ps fz x y (Q:Exit→St→Prop) S,l7 P D T (.rf f ps fz x y) Q S=afu P D T (HQ.mk:HQ (.rf f ps fz x y) Q) S):=
 ⟨λ_ _ _ _ _=>rfl,λ_ _ _=>rfl,λ_ _ _ _ _ _ _=>rfl⟩
def nu:List (Nat×PV)→Nat→PV
 | [],_=>.dead
 | (j,p)::l,i=>if i=j then p else nu l i
def dG(n:Nat)(l:List (Nat×PV)):List PV:=(List.range n).map (nu l)
theorem oP(n:Nat)(l:List (Nat×PV)):(dG n l).length=n:=by simp[dG]
theorem wm(n:Nat)(l:List (Nat×PV))(i:Nat):(dG n l)[i]?=if i<n then some (nu l i) else none:=by
 simp only[dG,List.getElem?_map]
 split
 ·rename_i h;rw[List.getElem?_range h];rfl
 ·rename_i h;rw[List.getElem?_eq_none (by simpa using h)];rfl
theorem zB{n:Nat}{l:List (Nat×PV)}{m:List PV}(hm:m.length=n)(h:∀i,i<n→m[i]?=some (nu l i)):m=dG n l:=by
 refine List.ext_getElem? λi=>?_
 rw[wm]
 split
 ·rename_i hi;exact h i hi
 ·rename_i hi;exact List.getElem?_eq_none (by omega)
def Ru(d n:Nat)(objs:List Obj):List (Nat×PV)→List (Nat×PV)
 | []=>[]
 | (j,p)::l=>(j,iB d n objs p)::Ru d n objs l
def fgA(ks:List Bool):List (Nat×PV)→List (Nat×PV)
 | []=>[]
 | (j,p)::l=>if ks[j]?=some true then (j,p)::fgA ks l else fgA ks l
theorem XD(d n:Nat)(objs:List Obj):∀(l:List (Nat×PV)) i,nu (Ru d n objs l) i=iB d n objs (nu l i)
 | [],i=>by simp[nu,Ru,iB,eZ]
 | (j,p)::l,i=>by
  simp only[nu,Ru]
  split
  ·rfl
  ·exact XD d n objs l i
theorem abo(ks:List Bool):∀(l:List (Nat×PV)) i,nu (fgA ks l) i=if ks[i]?=some true then nu l i else .dead
 | [],i=>by simp[nu,fgA]
 | (j,p)::l,i=>by
  have ih:=abo ks l i
  simp only[fgA]
  split
  ·rename_i h
   simp only[nu]
   by_cases hij:i=j
   ·subst hij;simp[h]
   ·simp only[hij,if_false,ih]
  ·rename_i h
   rw[ih]
   by_cases hij:i=j
   ·subst hij;simp[h]
   ·simp[nu,hij]
theorem yw:∀(ks:List Bool) (l:List PV) (i:Nat),(Ae ks l)[i]?=l[i]?.map λp=>if ks[i]?=some true then p else .dead
 | ks,[],i=>by cases ks<;>simp[Ae]
 | [],p::ps,0=>by simp[Ae]
 | [],p::ps,i+1=>by simpa[Ae] using yw [] ps i
 | true::ks,p::ps,0=>by simp[Ae]
 | false::ks,p::ps,0=>by simp[Ae]
 | true::ks,p::ps,i+1=>by simpa[Ae] using yw ks ps i
 | false::ks,p::ps,i+1=>by simpa[Ae] using yw ks ps i
theorem lJ :
  (∀i p l,nu ((i,p)::l) i=p)∧(∀i j p l,(i==j)=false→nu ((j,p)::l) i=nu l i)∧(∀i,nu [] i=.dead):=by
 refine⟨λi p l=>by simp[nu],λi j p l h=>?_,λ_=>rfl⟩
 simp only[nu]
 rw[if_neg (by simpa using h)]
theorem tZ :
  (∀n l i p,(dG n l).set i p=dG n ((i,p)::l))∧
  (∀n l i,i<n→(dG n l).getD i .dead=nu l i)∧
  (∀n l d k objs,(dG n l).map (iB d k objs)=dG n (Ru d k objs l))∧
  (∀ks n l,Ae ks (dG n l)=dG n (fgA ks l))∧
  (∀d n objs,Ru d n objs []=[])∧(∀d n objs j p l,Ru d n objs ((j,p)::l)=(j,iB d n objs p)::Ru d n objs l):=by
 refine⟨λn l i p=>?_,λn l i h=>?_,λn l d k objs=>?_,λks n l=>?_,λ_ _ _=>rfl,λ_ _ _ _ _ _=>rfl⟩
 ·refine zB (by simp[oP]) λk hk=>?_
  rw[List.getElem?_set]
  simp only[nu]
  split
  ·rename_i h;subst h;simp[oP,hk]
  ·rename_i h;rw[wm,if_pos hk,if_neg (λh'=>h h'.symm)]
 ·rw[List.getD_eq_getElem?_getD,wm,if_pos h];rfl
 ·refine zB (by simp[oP]) λi hi=>?_
  rw[List.getElem?_map,wm,if_pos hi,XD];rfl
 ·refine zB (by simp[oL,oP]) λi hi=>?_
  rw[yw,wm,if_pos hi,abo];rfl
theorem abp :
  (∀n,cK [] n=⟨dG n [],[]⟩)∧
  (∀a n,1≤n→cK [a] n=⟨dG n [(0,a)],[]⟩)∧
  (∀a b n,2≤n→cK [a,b] n=⟨dG n [(0,a),(1,b)],[]⟩)∧
  (∀a b c n,3≤n→cK [a,b,c] n=⟨dG n [(0,a),(1,b),(2,c)],[]⟩)∧
  (∀a b c d n,4≤n→cK [a,b,c,d] n=⟨dG n [(0,a),(1,b),(2,c),(3,d)],[]⟩)∧
  (∀a b c d e n,5≤n→cK [a,b,c,d,e] n=⟨dG n [(0,a),(1,b),(2,c),(3,d),(4,e)],[]⟩):=by
 have key:∀(args:List PV) (n:Nat) (l:List (Nat×PV)),args.length≤n→(∀i,i<n→args.getD i .dead=nu l i)→cK args n=⟨dG n l,[]⟩:=by
  intro args n l h1 h2
  have:args++List.replicate (n-args.length) PV.dead=dG n l:=by
   refine zB (by simp;omega) λi hi=>?_
   rw[←h2 i hi,List.getElem?_append,List.getD_eq_getElem?_getD]
   split
   ·rename_i h;rw[List.getElem?_eq_getElem h];rfl
   ·rename_i h;rw[List.getElem?_replicate,if_pos (by omega),List.getElem?_eq_none (by omega)];rfl
  rw[cK,this]
 refine⟨λn=>key _ _ _ (by simp) ?_,λa n h=>key _ _ _ h ?_,λa b n h=>key _ _ _ h ?_,λa b c n h=>key _ _ _ h ?_,λa b c d n h=>key _ _ _ h ?_,λa b c d e n h=>key _ _ _ h ?_⟩
 all_goals
  intro i _
  match i with
  | 0=>rfl
  | 1=>rfl
  | 2=>rfl
  | 3=>rfl
  | 4=>rfl
  | i+5=>simp[nu]
theorem afv :
  (∀tm ob d p,St.put ⟨tm,ob⟩ (some d) p=⟨tm.set d p,ob⟩)∧
  (∀tm ob p,St.put ⟨tm,ob⟩ none p=⟨tm,ob⟩)∧
  (∀tm ob t,St.ev ⟨tm,ob⟩ (.tmp t)=tm.getD t .dead)∧
  (∀(S:St) v,S.ev (.const v)=.xH v)∧
  (∀(S:St) f,S.ev (.func f)=.fn f [] [])∧
  (∀k n,PV.xH (.int k n)=.int k n)∧(∀b,PV.xH (.bool b)=.bool b)∧(∀l,PV.xH (.string ⟨⟨l⟩⟩)=.str l)∧
  (PV.xH (.slice none 0 0)=.sl 0 [] (some true))∧(PV.xH (.pointer none)=.Cx)∧(PV.xH .nilFunc=.ET):=
 ⟨λ_ _ _ _=>rfl,λ_ _ _=>rfl,λ_ _ _=>rfl,λ_ _=>rfl,λ_ _=>rfl,
  λ_ _=>rfl,λ_=>rfl,λ_=>rfl,rfl,rfl,rfl⟩
end Lp
namespace Lp
open Go
def aB(n:Nd):PV:=.agg [.int .i64 n.kind,.int .i64 n.many,.str n.name,.str n.s,.bool n.neg,.int .i64 n.e]
def aJ(v:Vl):PV:=.sl 6 (v.map aB) none
end Lp
namespace Lp
open Go
structure HK {α:Type}(K:α→Prop):Type where
def atO{α:Type}{K:α→Prop}(o:Option α)(_h:HK K):Prop:=∃x,o=some x∧K x
theorem atR{α:Type}(K:α→Prop):(∀x,atO (some x) (HK.mk:HK K)=K x)∧(∀(a:α) l,(a::l)[0]?=some a)∧(∀(a:α) l (n:Nat),(a::l)[n+1]?=l[n]?):=
 ⟨λx=>by simp[atO],λ_ _=>rfl,λ_ _ _=>by simp⟩
def M_(k:TK)(K:TypeId→Prop):Prop:=match k with
 | .slice e=>K e
 | _=>False
def arK(k:TK)(K:Nat→TypeId→Prop):Prop:=match k with
 | .array n e=>K n e
 | _=>False
def Oo(k:TK)(X:Prop):Prop:=match k with
 | .str=>X
 | _=>False
@[congr] theorem agc{k k':TK}{K:TypeId→Prop}(h:k=k'):M_ k K=M_ k' K:=by rw[h]
@[congr] theorem agd{k k':TK}{K:Nat→TypeId→Prop}(h:k=k'):arK k K=arK k' K:=by rw[h]
@[congr] theorem afw{k k':TK}{X:Prop}(h:k=k'):Oo k X=Oo k' X:=by rw[h]
theorem skR:(∀e K,M_ (.slice e) K=K e)∧(∀n e K,arK (.array n e) K=K n e)∧(∀X,Oo .str X=X):=⟨λ_ _=>rfl,λ_ _ _=>rfl,λ_=>rfl⟩
theorem abq(D:TypeId→aH)(objs:List Obj)(K:KT) :
  (∀t sz xs q k n,bC D t (.sl sz xs q) (.int k n) objs K=M_ (D t).kind λe=>(D e).kind≠.none∧0≤n∧(D e).size=sz∧atO xs[n.toNat]? (HK.mk:HK λy=>K (.addr y) objs 0))∧
  (∀t k ver k' n,bC D t (.bO k ver) (.int k' n) objs K=M_ (D t).kind λe=>(D e).kind≠.none∧0≤n∧∃o,objs[k]?=some o∧o.live=true∧o.ver=ver∧n<o.xs.length∧(D e).size=o.sz∧K (.bP k ver n.toNat 0) objs (4+2*k))∧
  (∀t cs k n,bC D t (.addr (.agg cs)) (.int k n) objs K=arK (D t).kind λm e=>(D e).kind≠.none∧0≤n∧n<m∧(n.toNat+1)*(D e).size≤cs.length∧((D e).agg=false→(D e).size=1)∧cs.all (λc=>!c.isAgg)=true∧
   K (.addr (sub cs (n.toNat*(D e).size) (D e).size (D e).agg)) objs 0)∧
  (∀t k ver i f k' n,bC D t (.bP k ver i f) (.int k' n) objs K=arK (D t).kind λm e=>(D e).kind≠.none∧0≤n∧n<m∧∃o,objs[k]?=some o∧o.live=true∧o.ver=ver∧K (.bP k ver i (f+n.toNat*(D e).size)) objs (4+2*k))∧
  (∀t s k n,mH D t (.str s) (.int k n) objs K=Oo (D t).kind (0≤n∧atO s[n.toNat]? (HK.mk:HK λb=>K (.int .u8 b.toNat) objs 0)))∧
  (∀t cs k n,mH D t (.agg cs) (.int k n) objs K=arK (D t).kind λm e=>(D e).kind≠.none∧0≤n∧n<m∧(n.toNat+1)*(D e).size≤cs.length∧(D e).size≠0∧K (sub cs (n.toNat*(D e).size) (D e).size (D e).agg) objs 0)∧
  (∀t cs f,aK D t (.addr (.agg cs)) f objs K=eu D t f λoff ti=>off+ti.size≤cs.length∧(ti.agg=false→ti.size=1)∧cs.all (λc=>!c.isAgg)=true∧K (.addr (sub cs off ti.size ti.agg)) objs 0)∧
  (∀t k ver i f' f,aK D t (.bP k ver i f') f objs K=∃o,objs[k]?=some o∧o.live=true∧o.ver=ver∧eu D t f λoff _=>K (.bP k ver i (f'+off)) objs (4+2*k))∧
  (∀t cs f,qa D t (.agg cs) f objs K=eu D t f λoff ti=>off+ti.size≤cs.length∧K (sub cs off ti.size ti.agg) objs 0)∧
  (∀t s,qZ D t (.str s) objs K=Oo (D t).kind (K (.int .i64 s.length) objs 0))∧
  (∀t sz xs q,qZ D t (.sl sz xs q) objs K=M_ (D t).kind λ_=>K (.int .i64 xs.length) objs 0)∧
  (∀t k ver,qZ D t (.bO k ver) objs K=M_ (D t).kind λ_=>∃o,objs[k]?=some o∧o.live=true∧o.ver=ver∧K (.int .i64 o.xs.length) objs (4+2*k))∧
  (∀t s lo hi,jJ D t (.str s) lo hi objs K=Oo (D t).kind (dJ lo 0 λl=>dJ hi s.length λh=>0≤l∧l≤h∧h≤s.length∧K (.str ((s.take h.toNat).drop l.toNat)) objs 0))∧
  (∀t sz xs q lo hi,jJ D t (.sl sz xs q) lo hi objs K=M_ (D t).kind λe=>(D e).kind≠.none∧(xs=[]∨(D e).size=sz)∧dJ lo 0 λl=>dJ hi xs.length λh=>0≤l∧l≤h∧h≤xs.length∧
   K (.sl sz ((xs.take h.toNat).drop l.toNat) q) objs 0)∧
  (∀t k ver lo hi,jJ D t (.bO k ver) lo hi objs K=M_ (D t).kind λe=>(D e).kind≠.none∧∃o,objs[k]?=some o∧o.live=true∧o.ver=ver∧(D e).size=o.sz∧lo=none∧dJ hi o.xs.length λh=>0≤h∧h≤o.xs.length∧
   K (.bO k (ver+1)) (objs.set k { o with xs:=o.xs.take h.toNat,ver:=ver+1 }) (5+2*k)):=by
 refine⟨λt sz xs q k n=>?_,λt k ver k' n=>?_,λt cs k n=>?_,λt k ver i f k' n=>?_,λt s k n=>?_,λt cs k n=>?_,λ_ _ _=>rfl,λ_ _ _ _ _ _=>rfl,λ_ _ _=>rfl,λt s=>?_,λt sz xs q=>?_,λt k ver=>?_,λt s lo hi=>?_,λt sz xs q lo hi=>?_,λt k ver lo hi=>?_⟩
 all_goals try simp only[bC,mH,qZ,jJ]
 all_goals cases (D t).kind<;>simp only[M_,arK,Oo,atO]
 apply propext
 constructor
 ·rintro⟨h1,h2,y,h3,h4,h5⟩;exact⟨h1,h2,h4,y,h3,h5⟩
 ·rintro⟨h1,h2,h4,y,h3,h5⟩;exact⟨h1,h2,y,h3,h4,h5⟩
theorem ldR(objs:List Obj)(K:KT) :
  (∀ti x,fQ ti (.addr x) objs K=(ti.kind≠.none∧x.cells.length=ti.size∧x.isAgg=ti.agg∧K x objs 0))∧
  (∀ti k ver i f,fQ ti (.bP k ver i f) objs K=∃o e,objs[k]?=some o∧o.live=true∧o.ver=ver∧o.xs[i]?=some e∧ti.kind≠.none∧f+ti.size≤e.cells.length∧
   (ti.agg=false→ti.size=1)∧e.cells.all (λc=>!c.isAgg)=true∧K (sub e.cells f ti.size ti.agg) objs (4+2*k)):=⟨λ_ _=>rfl,λ_ _ _ _ _=>rfl⟩
theorem abr(D:TypeId→aH)(objs:List Obj)(K:List PV→Bool→Prop) :
  (∀t sz xs q,nE D t (.sl sz xs q) objs K=M_ (D t).kind λ_=>K xs false)∧
  (∀t k ver,nE D t (.bO k ver) objs K=M_ (D t).kind λ_=>∃o,objs[k]?=some o∧o.live=true∧o.ver=ver∧K o.xs true)∧
  (∀t s,nE D t (.str s) objs K=Oo (D t).kind (K (s.map λb=>.int .u8 b.toNat) false)):=by
 refine⟨λt sz xs q=>?_,λt k ver=>?_,λt s=>?_⟩
 all_goals simp only[nE]
 all_goals cases (D t).kind<;>simp only[M_,Oo]
@[congr] theorem afx{D:TypeId→aH}{t:TypeId}{x x':PV}{objs objs':List Obj}{K:List PV→Bool→Prop}(h:x=x')(ho:objs=objs'):nE D t x objs K=nE D t x' objs' K:=by rw[h,ho]
theorem ntR:noTwo []=true∧(∀l,noTwo (0::l)=noTwo l)∧(∀l,noTwo (1::l)=noTwo l)∧(∀l,noTwo (4::l)=noTwo l)∧(∀l,noTwo (6::l)=noTwo l)∧(∀l,noTwo (8::l)=noTwo l)∧(∀l,noTwo (10::l)=noTwo l):=
 ⟨rfl,λ_=>rfl,λ_=>rfl,λ_=>rfl,λ_=>rfl,λ_=>rfl,λ_=>rfl⟩
theorem uQ{α:Type}{E:List α→PV}{sz:Nat}{enc:α→PV}(hE:∀l,E l=.sl sz (l.map enc) none)(D:TypeId→aH)(objs:List Obj)(K:KT) :
  (∀t l k n,bC D t (E l) (.int k n) objs K=M_ (D t).kind λe=>(D e).kind≠.none∧0≤n∧(D e).size=sz∧atO l[n.toNat]? (HK.mk:HK λy=>K (.addr (enc y)) objs 0))∧
  (∀t l,qZ D t (E l) objs K=M_ (D t).kind λ_=>K (.int .i64 l.length) objs 0)∧
  (∀t l lo hi,jJ D t (E l) lo hi objs K=M_ (D t).kind λe=>(D e).kind≠.none∧(l=[]∨(D e).size=sz)∧dJ lo 0 λa=>dJ hi l.length λh=>0≤a∧a≤h∧h≤l.length∧
   K (E ((l.take h.toNat).drop a.toNat)) objs 0):=by
 refine⟨λt l k n=>?_,λt l=>?_,λt l lo hi=>?_⟩
 all_goals simp only[hE,(abq D objs K).1,(abq D objs K).2.2.2.2.2.2.2.2.2.2.1,(abq D objs K).2.2.2.2.2.2.2.2.2.2.2.2.2.1]
 all_goals cases (D t).kind<;>simp only[M_,atO,List.length_map,List.map_eq_nil_iff,List.map_drop,List.map_take]
 apply propext
 constructor
 ·rintro⟨h1,h2,h4,y,h3,h5⟩
  rw[List.getElem?_map]at h3
  cases hx:l[n.toNat]? with
  | none=>rw[hx]at h3;simp at h3
  | some x=>rw[hx]at h3;simp only[Option.map_some,Option.some.injEq]at h3;exact⟨h1,h2,h4,x,rfl,h3 ▸ h5⟩
 ·rintro⟨h1,h2,h4,y,h3,h5⟩
  exact⟨h1,h2,h4,enc y,by rw[List.getElem?_map,h3];rfl,h5⟩
theorem kE{α:Type}{E:List α→PV}{sz:Nat}{enc:α→PV}(hE:∀l,E l=.sl sz (l.map enc) none)(D:TypeId→aH)(objs:List Obj)(K:List PV→Bool→Prop) :
  (∀t l,nE D t (E l) objs K=M_ (D t).kind λ_=>K (l.map enc) false):=by
 intro t l
 rw[hE]
 exact (abr D objs K).1 ..
theorem uR{α:Type}{E:List α→PV}{sz:Nat}{enc:α→PV}(hE:∀l,E l=.sl sz (l.map enc) none) :
  (∀l,(E l).cells=[E l])∧(∀l,(E l).isAgg=false)∧(∀l,(E l).pure=true)∧(∀l,(E l).ref=false)∧(∀l,(E l).mV=true)∧(∀l,(E l).storable=true)∧
  (∀d n O l,eZ d n O (E l)=E l)∧(∀d n O l,iB d n O (E l)=E l):=by
 refine⟨λl=>?_,λl=>?_,λl=>?_,λl=>?_,λl=>?_,λl=>?_,λ_ _ _ l=>?_,λ_ _ _ l=>?_⟩
 all_goals rw[hE];rfl
def dZ{α:Type}(E:α→PV){K:α→Prop}(x:PV)(_h:HK K):Prop:=∃v,x=E v∧K v
theorem aW{α:Type}{E:α→PV}(hE:∀a b,E a=E b→a=b)(K:α→Prop)(v:α):dZ E (E v) (HK.mk:HK K)=K v:=
 propext ⟨λ⟨w,h,hk⟩=>hE v w h ▸ hk,λhk=>⟨v,rfl,hk⟩⟩
theorem o5{α:Type}{E:List α→PV}{sz:Nat}{enc:α→PV}(hE:∀l,E l=.sl sz (l.map enc) none)(he:∀a b,enc a=enc b→a=b):∀a b,E a=E b→a=b:=by
 intro a b h
 rw[hE,hE]at h
 injection h with _ h _
 induction a generalizing b with
 | nil=>cases b with
  | nil=>rfl
  | cons y ys=>simp at h
 | cons x xs ih=>cases b with
  | nil=>simp at h
  | cons y ys=>
   simp only[List.map_cons,List.cons.injEq]at h
   rw[he x y h.1,ih ys h.2]
theorem exS{α:Type}(a:α)(q:α→Prop):(∃o,some a=some o∧q o)=q a:=by simp
theorem agz:(∀k n,PV.storable (.int k n)=true)∧(∀b,PV.storable (.bool b)=true)∧(∀s,PV.storable (.str s)=true)∧(∀z xs q,PV.storable (.sl z xs q)=true)∧
  (∀k v,PV.storable (.bO k v)=true)∧(∀k v i f,PV.storable (.bP k v i f)=true)∧(∀x,PV.storable (.addr x)=true):=
 ⟨λ_ _=>rfl,λ_=>rfl,λ_=>rfl,λ_ _ _=>rfl,λ_ _=>rfl,λ_ _ _ _=>rfl,λ_=>rfl⟩
theorem abt{α β:Type}(f:α→β)(l m:List α):l.map f++m.map f=(l++m).map f:=by simp
def xk{α:Type}(enc:α→PV):Prop:=∀d n objs x,PV.bL (gX d n objs) (enc x)=enc x
theorem jv{α:Type}{E:List α→PV}{sz:Nat}{enc:α→PV}(hE:∀l,E l=.sl sz (l.map enc) none)(h:xk enc) :
  (∀d ty l v rest,eZ (d+1) 0 (⟨ty,sz,l.map enc,true,v⟩::rest) (.bO 0 v)=E l)∧
  (∀d ty l v o rest,eZ (d+1) 0 (o::⟨ty,sz,l.map enc,true,v⟩::rest) (.bO 1 v)=E l)∧
  (∀d ty l v o o' rest,eZ (d+1) 0 (o::o'::⟨ty,sz,l.map enc,true,v⟩::rest) (.bO 2 v)=E l):=by
 have key:∀d ty l v objs k,objs[k]?=some ⟨ty,sz,l.map enc,true,v⟩→eZ (d+1) 0 objs (.bO k v)=E l:=by
  intro d ty l v objs k hk
  simp only[eZ,Nat.not_lt_zero,if_false,gX,hk,Nat.zero_le,decide_true,Bool.and_self,BEq.rfl,if_true]
  rw[hE]
  congr 1
  rw[List.map_map]
  exact List.map_congr_left λx _=>h d 0 objs x
 exact⟨λd ty l v rest=>key d ty l v _ 0 rfl,λd ty l v o rest=>key d ty l v _ 1 rfl,λd ty l v o o' rest=>key d ty l v _ 2 rfl⟩
theorem t_{α:Type}{enc:α→PV}{sz:Nat}(h1:∀x,(enc x).cells.length=sz)(h2:∀x,(enc x).cells.all PV.storable=true)(l:List α) :
  (∀y,y∈l.map enc→y.cells.length=sz∧y.cells.all PV.storable=true)=True:=by
 refine eq_true λy hy=>?_
 obtain⟨x,_,rfl⟩:=List.mem_map.1 hy
 exact⟨h1 x,h2 x⟩
theorem aeu(y0:PV)(sz:Nat):(∀y,y∈[y0]→y.cells.length=sz∧y.cells.all PV.storable=true)=(y0.cells.length=sz∧y0.cells.all PV.storable=true):=by simp
theorem Na(E:PV)(h:E.ref=false)(k:Nat):(∀k' v':Nat,E=.bO k' v'→¬ k'=k)=True:=by
 refine eq_true λk' v' he=>?_
 rw[he]at h;cases h
def sW:List Bool→Nat→List (Nat×PV)→List (Nat×PV)
 | [],_,_=>[]
 | true::ks,i,l=>(i,nu l i)::sW ks (i+1) l
 | false::ks,i,l=>sW ks (i+1) l
theorem JC:∀(ks:List Bool) (j:Nat) (l:List (Nat×PV)) (i:Nat),nu (sW ks j l) i=if j≤i∧ks[i-j]?=some true then nu l i else .dead
 | [],j,l,i=>by simp[sW,nu]
 | true::ks,j,l,i=>by
  simp only[sW,nu]
  by_cases h:i=j
  ·subst h;simp
  ·rw[if_neg h,JC ks (j+1) l i]
   by_cases hj:j+1≤i
   ·have e:i-j=(i-(j+1))+1:=by omega
    simp only[e,List.getElem?_cons_succ,hj,true_and,show j≤i by omega]
   ·rw[if_neg (by omega),if_neg (by omega)]
 | false::ks,j,l,i=>by
  simp only[sW]
  rw[JC ks (j+1) l i]
  by_cases h:i=j
  ·subst h;rw[if_neg (by omega),if_neg (by simp)]
  ·by_cases hj:j+1≤i
   ·have e:i-j=(i-(j+1))+1:=by omega
    simp only[e,List.getElem?_cons_succ,hj,true_and,show j≤i by omega]
   ·rw[if_neg (by omega),if_neg (by omega)]
theorem Rv(ks:List Bool)(n:Nat)(l:List (Nat×PV)):Ae ks (dG n l)=dG n (sW ks 0 l):=by
 refine zB (by simp[oL,oP]) λi hi=>?_
 rw[yw,wm,if_pos hi,JC]
 simp
theorem bN :
  (∀ks n l ob,St.norm ks none ⟨dG n l,ob⟩=⟨dG n (sW ks 0 l),ob⟩)∧
  (∀ks d k n l ob,St.norm ks (some (d,k)) ⟨dG n l,ob⟩=St.freeze d k ⟨dG n (sW ks 0 l),ob⟩):=by
 refine⟨λks n l ob=>?_,λks d k n l ob=>?_⟩
 ·simp only[St.norm,St.forget,Rv]
 ·simp only[St.norm,St.forget,Rv]
theorem keepR:(∀i l,sW [] i l=[])∧(∀ks i l,sW (true::ks) i l=(i,nu l i)::sW ks (i+1) l)∧(∀ks i l,sW (false::ks) i l=sW ks (i+1) l):=
 ⟨λ_ _=>rfl,λ_ _ _=>rfl,λ_ _ _=>rfl⟩
theorem agA(T:Know)(K:KT)(objs:List Obj)(pt:Bool) :
  (∀g args,ow T pt (.fn g [] []) args objs K=T.fn g args objs K)∧
  (∀g c,ow T pt (.fn g [] [c]) [] objs K=T.fn g [c] objs K)∧
  (∀g c a,ow T pt (.fn g [] [c]) [a] objs K=T.fn g [a,c] objs K)∧
  (∀g c a b,ow T pt (.fn g [] [c]) [a,b] objs K=T.fn g [a,b,c] objs K)∧
  (∀g c d a,ow T pt (.fn g [] [c,d]) [a] objs K=T.fn g [a,c,d] objs K)∧
  (∀g c d a b,ow T pt (.fn g [] [c,d]) [a,b] objs K=T.fn g [a,b,c,d] objs K)∧
  (∀l args,ow T pt (.H7 l) args objs K=(l=T.y∧pt=true∧args.all PV.pure=true∧T.Y args objs λb o=>K (.bool b) o 2)):=by
 refine⟨λg args=>?_,λ_ _=>rfl,λ_ _ _=>rfl,λ_ _ _ _=>rfl,λ_ _ _ _=>rfl,λ_ _ _ _ _=>rfl,λ_ _=>rfl⟩
 simp[ow]
theorem adA(K:KT)(objs:List Obj)(args:List PV)(c:dD)(l:List (FuncId×dD))(f:FuncId) :
  (uO ((f,c)::l) f args objs K=c args objs K)∧(∀g,(f==g)=false→uO ((g,c)::l) f args objs K=uO l f args objs K):=by
 refine⟨by simp[uO],λg h=>?_⟩
 rw[taR,h];rfl
@[congr] theorem abu{D:TypeId→aH}{b:Builtin}{ats agB:List TypeId}{args args':List Operand}{ev:Operand→PV}{objs:List Obj}{K:KT}(h:ats=agB)(h1:args=args'):fT D b ats args ev objs K=fT D b agB args' ev objs K:=by rw[h,h1]
theorem aev(P:Program)(D:TypeId→aH)(T:Know)(w pt:Bool)(ev:Operand→PV)(objs:List Obj)(K:KT) :
  (∀x,mg P D T w pt ev objs (.move x) K=K (ev x) objs 0)∧(∀x,mg P D T w pt ev objs (.assign x) K=K (ev x) objs 0)∧
  (∀c x y,mg P D T w pt ev objs (.pick c x y) K=sP (ev c) (ev x) (ev y) objs K)∧
  (∀t,mg P D T w pt ev objs (.alloc t) K=tQ t (D t) objs K)∧
  (∀t x,mg P D T w pt ev objs (.box t x) K=KN t (D t) (ev x) objs K)∧
  (∀t ps,mg P D T w pt ev objs (.build t ps) K=bM D t (ps.toList.map λx=>(x.1,ev x.2)) objs K)∧
  (∀t n ps,mg P D T w pt ev objs (.buildSlice t n ps) K=bW D w t n (ps.toList.map λx=>(x.1,ev x.2)) objs K)∧
  (∀t x,mg P D T w pt ev objs (.load t x) K=fQ (D t) (ev x) objs K)∧
  (∀t x y,mg P D T w pt ev objs (.store t x y) K=kK (D t) (ev x) (ev y) objs K)∧
  (∀x,mg P D T w pt ev objs (.nilCheck x) K=dU (ev x) objs K)∧
  (∀b t x y t',mg P D T w pt ev objs (.binOp b t x y t') K=pM P (D t) t b (ev x) (ev y) λr=>K r objs 0)∧
  (∀u t x,mg P D T w pt ev objs (.unOp u t x) K=Qu u (ev x) λr=>K r objs 0)∧
  (∀s t x,mg P D T w pt ev objs (.convert s t x) K=kZ D s t (ev x) objs K)∧
  (∀f first cap,mg P D T w pt ev objs (.makeFunc (.func f) first cap) K=kH f (first.toList.map ev) (cap.toList.map ev) objs K)∧
  (∀t l c,mg P D T w pt ev objs (.makeSlice t l c) K=fZ D t (ev l) (ev c) objs K)∧
  (∀t x lo hi,mg P D T w pt ev objs (.slice t x lo hi none) K=jJ D t (ev x) (lo.map ev) (hi.map ev) objs K)∧
  (∀t x f,mg P D T w pt ev objs (.fieldAddr t x f) K=aK D t (ev x) f objs K)∧
  (∀t x f,mg P D T w pt ev objs (.field t x f) K=qa D t (ev x) f objs K)∧
  (∀t x i,mg P D T w pt ev objs (.indexAddr t x i) K=bC D t (ev x) (ev i) objs K)∧
  (∀t x i,mg P D T w pt ev objs (.index t x i) K=mH D t (ev x) (ev i) objs K)∧
  (∀x i,mg P D T w pt ev objs (.extract x i) K=bq (ev x) i objs K)∧
  (∀t x,mg P D T w pt ev objs (.call { callee:=.builtin .len,args:=⟨[x]⟩,argTypes:=⟨[t]⟩ }) K=qZ D t (ev x) objs K)∧
  (∀t u s x,mg P D T w pt ev objs (.call { callee:=.builtin .append,args:=⟨[s,x]⟩,argTypes:=⟨[t,u]⟩ }) K=eB D t u (ev s) (ev x) objs K)∧
  (∀x y ats,mg P D T w pt ev objs (.call { callee:=.builtin .max,args:=⟨[x,y]⟩,argTypes:=ats }) K=jf true [ev x,ev y] λr=>K r objs 0)∧
  (∀x y ats,mg P D T w pt ev objs (.call { callee:=.builtin .min,args:=⟨[x,y]⟩,argTypes:=ats }) K=jf false [ev x,ev y] λr=>K r objs 0)∧
  (∀f args ats,mg P D T w pt ev objs (.call { callee:=.value f,args:=args,argTypes:=ats }) K=ow T pt (ev f) (args.toList.map ev) objs K):=
 ⟨λ_=>rfl,λ_=>rfl,λ_ _ _=>rfl,λ_=>rfl,λ_ _=>rfl,λ_ _=>rfl,λ_ _ _=>rfl,λ_ _=>rfl,λ_ _ _=>rfl,λ_=>rfl,λ_ _ _ _ _=>rfl,λ_ _ _=>rfl,λ_ _ _=>rfl,
  λ_ _ _=>rfl,λ_ _ _=>rfl,λ_ _ _ _=>rfl,λ_ _ _=>rfl,λ_ _ _=>rfl,λ_ _ _=>rfl,λ_ _ _=>rfl,λ_ _=>rfl,λ_ _=>rfl,λ_ _ _ _=>rfl,λ_ _ _=>rfl,λ_ _ _=>rfl,λ_ _ _=>rfl⟩
theorem agC{α β:Type}(a:α)(q:α→β→Prop):(∃o e,some a=some o∧q o e)=∃e,q a e:=by simp
theorem setRow{α:Type}{enc:α→PV}(h:∀x y:α,(enc x).putCells 0 (enc y).cells=enc y)(l:List α)(i:Nat)(x y:α):(l.map enc).set i ((enc x).putCells 0 (enc y).cells)=(l.set i y).map enc:=by
 rw[h,List.map_set]
theorem agD(P:Program)(D:TypeId→aH)(T:Know) :
  (∀S ts (K:St→List Nat→Prop),LR P D T [] S ts K=K S ts)∧
  (∀d o w rest n l ob ts (K:St→List Nat→Prop),LR P D T (⟨some d,o,none,w⟩::rest) ⟨dG n l,ob⟩ ts K=
   mg P D T w ((dG n l).all PV.pure) (St.ev ⟨dG n l,ob⟩) ob o λr objs' t=>LR P D T rest ⟨dG n ((d,r)::l),objs'⟩ (ts++[t]) K)∧
  (∀o w rest n l ob ts (K:St→List Nat→Prop),LR P D T (⟨none,o,none,w⟩::rest) ⟨dG n l,ob⟩ ts K=
   mg P D T w ((dG n l).all PV.pure) (St.ev ⟨dG n l,ob⟩) ob o λr objs' t=>LR P D T rest ⟨dG n l,objs'⟩ (ts++[t]) K)∧
  (∀d o g v w rest n l ob ts (K:St→List Nat→Prop),LR P D T (⟨some d,o,some (some g,v),w⟩::rest) ⟨dG n l,ob⟩ ts K=
   mK ((dG n l).getD g .dead) g v ⟨dG n l,ob⟩ (λS=>LR P D T (⟨some d,o,none,w⟩::rest) S ts K) (λS=>LR P D T rest (S.put (some d) (.bY [])) (ts++[0]) K))∧
  (∀o g v w rest n l ob ts (K:St→List Nat→Prop),LR P D T (⟨none,o,some (some g,v),w⟩::rest) ⟨dG n l,ob⟩ ts K=
   mK ((dG n l).getD g .dead) g v ⟨dG n l,ob⟩ (λS=>LR P D T (⟨none,o,none,w⟩::rest) S ts K) (λS=>LR P D T rest S (ts++[0]) K)):=by
 refine⟨λ_ _ _=>rfl,λd o w rest n l ob ts K=>?_,λo w rest n l ob ts K=>rfl,λd o g v w rest n l ob ts K=>rfl,λo g v w rest n l ob ts K=>rfl⟩
 simp only[←tZ.1]
 rfl
theorem adB :
  (∀b d n l ob (X Y:St→Prop),mK (.bool b) d true ⟨dG n l,ob⟩ X Y=BH b (X ⟨dG n ((d,.bool true)::l),ob⟩) (Y ⟨dG n ((d,.bool false)::l),ob⟩))∧
  (∀b d n l ob (X Y:St→Prop),mK (.bool b) d false ⟨dG n l,ob⟩ X Y=BH b (Y ⟨dG n ((d,.bool true)::l),ob⟩) (X ⟨dG n ((d,.bool false)::l),ob⟩))∧
  (∀d w (S:St) (X Y:St→Prop),mK (.bY []) d w S X Y=Y S):=by
 refine⟨λb d n l ob X Y=>?_,λb d n l ob X Y=>?_,λ_ _ _ _ _=>rfl⟩
 ·simp only[agy,tZ.1]
 ·simp only[agy,tZ.1]
theorem aew:(∀n l ob d p,St.put ⟨dG n l,ob⟩ (some d) p=⟨dG n ((d,p)::l),ob⟩):=λn l ob d p=>by
 rw[←tZ.1];rfl
theorem aO.aX {P:Program}{D:TypeId→aH}{T:Know}{f:FuncId}{n t:Nat}{C:LC}{args:List PV}{r:PV}(h:aO P f n [.tmp t] C)(d:Nat)(hD:∀t,je P t (D t))(hT:Ii P none tY T)(hm:P.follows .mixedOrders=true)(ht:t<n)
  (hw:∀Q:Exit→St→Prop,(∀l ob,Q .ret ⟨dG n l,ob⟩=(r=iB d 0 ob (nu l t)))→l7 P D T C Q (cK args n)):ai P f args [] r []:=by
 refine h.pure d hD hT hm (by simp) (hw _ λl ob=>?_)
 simp only[oh,jZ,tZ.2.1 n l t ht,List.map_cons,List.map_nil,fU]
theorem aO.wo {P:Program}{D:TypeId→aH}{T:Know}{f:FuncId}{n t u:Nat}{C:LC}{args:List PV}{r:PV}(h:aO P f n [.tmp t,.tmp u] C)(d:Nat)(hD:∀t,je P t (D t))(hT:Ii P none tY T)(hm:P.follows .mixedOrders=true)(ht:t<n)(hu:u<n)
  (hw:∀Q:Exit→St→Prop,(∀l ob,Q .ret ⟨dG n l,ob⟩=(r=.bY [iB d 0 ob (nu l t),iB d 0 ob (nu l u)]))→l7 P D T C Q (cK args n)):ai P f args [] r []:=by
 refine h.pure d hD hT hm (by simp) (hw _ λl ob=>?_)
 simp only[oh,jZ,tZ.2.1 n l t ht,tZ.2.1 n l u hu,List.map_cons,List.map_nil,fU]
theorem pkR(x y:PV)(objs:List Obj)(K:KT):(sP (.bool true) x y objs K=K x objs 0)∧(sP (.bool false) x y objs K=K y objs 0):=⟨rfl,rfl⟩
theorem abv(P:Program)(D:TypeId→aH)(T:Know)(w pt:Bool)(ev:Operand→PV)(objs:List Obj)(K:KT) :
  (∀x,mg P D T w pt ev objs (.next x false) K=(T.rg=true∧nextR (ev x) objs K))∧(∀t x,mg P D T w pt ev objs (.range t x) K=vW D t (ev x) objs K)∧(∀x,mg P D T w pt ev objs (.entry x) K=vX (ev x) objs K):=
 ⟨λ_=>rfl,λ_ _=>rfl,λ_=>rfl⟩
theorem agE :
  type_of% @Bq∧
  type_of% @Gf∧
  type_of% @kiR∧
  type_of% @agD∧
  type_of% @agx∧
  type_of% @adB∧
  type_of% @aew∧
  type_of% @hoR∧
  type_of% @ifR∧
  type_of% @aev∧
  type_of% @adA∧
  type_of% @eP∧
  type_of% @Il∧
  type_of% @AU∧
  type_of% @M9∧
  type_of% @JA∧
  type_of% @abr∧
  type_of% @skR∧
  type_of% @atR∧
  type_of% @exS∧
  type_of% @agC:=
 ⟨@Bq,@Gf,@kiR,@agD,@agx,@adB,@aew,@hoR,@ifR,@aev,@adA,@eP,@Il,@AU,@M9,@JA,@abr,@skR,@atR,@exS,@agC⟩
theorem aex :
  type_of% @Gf∧
  type_of% @kiR∧
  type_of% @lJ∧
  type_of% @tZ∧
  type_of% @abp∧
  type_of% @adB∧
  type_of% @ifR∧
  type_of% @afv∧
  type_of% @oh∧
  type_of% @Gg∧
  type_of% @Fg∧
  type_of% @fzR∧
  type_of% @sG∧
  type_of% @bN∧
  type_of% @keepR∧
  type_of% @agA∧
  type_of% @adA∧
  type_of% @eP∧
  type_of% @pkR∧
  type_of% @Ik∧
  type_of% @Il∧
  type_of% @yo∧
  type_of% @obR∧
  type_of% @KH∧
  type_of% @uP∧
  type_of% @G8∧
  type_of% @Jz∧
  type_of% @abq∧
  type_of% @ldR∧
  type_of% @abr∧
  type_of% @skR∧
  type_of% @ntR∧
  type_of% @atR∧
  type_of% @agz∧
  type_of% @puR∧
  type_of% @abt∧
  type_of% @aeu:=
 ⟨@Gf,@kiR,@lJ,@tZ,@abp,@adB,@ifR,@afv,@oh,@Gg,@Fg,@fzR,@sG,@bN,@keepR,@agA,@adA,@eP,@pkR,@Ik,@Il,@yo,@obR,@KH,@uP,@G8,@Jz,@abq,@ldR,@abr,@skR,@ntR,@atR,@agz,@puR,@abt,@aeu⟩
theorem aey :
  type_of% @decide_true∧
  type_of% @decide_false∧
  type_of% @not_true_eq_false∧
  type_of% @not_false_eq_true∧
  type_of% @false_and∧
  type_of% @and_false∧
  type_of% @cond_true.{1}∧
  type_of% @cond_false.{1}∧
  type_of% @List.take_zero.{0}∧
  type_of% @ne_eq.{1}∧
  type_of% @true_and∧
  type_of% @PV.bool.injEq∧
  type_of% @Int.toNat_natCast∧
  type_of% @Int.toNat_zero∧
  type_of% @Bool.not_false∧
  type_of% @Bool.not_true∧
  type_of% @Bool.and_self∧
  type_of% @Bool.false_eq_true∧
  type_of% @Bool.true_eq_false∧
  type_of% @forall_const.{1}∧
  type_of% @false_implies∧
  type_of% @true_implies∧
  type_of% @and_true∧
  type_of% @implies_true.{1}∧
  type_of% @implies_true.{0}∧
  type_of% @forall_const.{0}∧
  type_of% @Nat.zero_add∧
  type_of% @List.length_map.{0,0}∧
  type_of% @List.length_cons.{0}∧
  type_of% @List.length_nil.{0}∧
  type_of% @List.nil_append.{0}∧
  type_of% @List.map_cons.{0,0}∧
  type_of% @List.map_nil.{0,0}∧
  type_of% @Bool.true_or∧
  type_of% @List.getElem?_cons_zero.{0}∧
  type_of% @List.getElem?_cons_succ.{0}∧
  type_of% @Option.map_some.{0,0}∧
  type_of% @or_true∧
  type_of% @List.getElem?_map.{0,0}∧
  type_of% @List.length_replicate.{0}∧
  type_of% @List.all_cons.{0}∧
  type_of% @List.all_nil.{0}∧
  type_of% @Bool.and_true∧
  type_of% @Bool.true_and∧
  type_of% @Bool.false_or∧
  type_of% @Bool.or_false∧
  type_of% @Nat.le_refl∧
  type_of% @Nat.lt_add_one∧
  type_of% @List.length_append.{0}:=
 ⟨@decide_true,@decide_false,@not_true_eq_false,@not_false_eq_true,@false_and,@and_false,@cond_true.{1},@cond_false.{1},@List.take_zero.{0},@ne_eq.{1},@true_and,@PV.bool.injEq,@Int.toNat_natCast,@Int.toNat_zero,@Bool.not_false,@Bool.not_true,@Bool.and_self,@Bool.false_eq_true,@Bool.true_eq_false,@forall_const.{1},@false_implies,@true_implies,@and_true,@implies_true.{1},@implies_true.{0},@forall_const.{0},@Nat.zero_add,@List.length_map.{0,0},@List.length_cons.{0},@List.length_nil.{0},@List.nil_append.{0},@List.map_cons.{0,0},@List.map_nil.{0,0},@Bool.true_or,@List.getElem?_cons_zero.{0},@List.getElem?_cons_succ.{0},@Option.map_some.{0,0},@or_true,@List.getElem?_map.{0,0},@List.length_replicate.{0},@List.all_cons.{0},@List.all_nil.{0},@Bool.and_true,@Bool.true_and,@Bool.false_or,@Bool.or_false,@Nat.le_refl,@Nat.lt_add_one,@List.length_append.{0}⟩
theorem aez{D:TypeId→aH}{t:TypeId}{k k':IntKind}{n m:Int}{objs:List Obj}{K:KT}:fZ D t (.int k n) (.int k' m) objs K=
  M_ (D t).kind λe=>(D e).kind≠.none∧(aL (D e)).cells.length=(D e).size∧(D e).size≠0∧(aL (D e)).cells.all PV.storable=true∧0≤n∧n≤m∧m≤9223372036854775807∧(D e).bytes*m≤281474976710656∧
   K (.bO objs.length 1) (newObj objs e (D e).size (List.replicate n.toNat (aL (D e)))) (5+2*objs.length):=by
 unfold fZ M_
 cases (D t).kind<;>rfl
theorem agF:type_of% @jI.eq_1∧type_of% @jI.eq_2∧type_of% @jI.eq_3∧type_of% @jI.eq_4∧type_of% @jI.eq_5∧type_of% @jI.eq_6∧type_of% @jI.eq_7∧type_of% @jI.eq_8∧type_of% @dJ.eq_1∧type_of% @dJ.eq_2∧type_of% @dJ.eq_3∧type_of% @eu.eq_1:=⟨@jI.eq_1,@jI.eq_2,@jI.eq_3,@jI.eq_4,@jI.eq_5,@jI.eq_6,@jI.eq_7,@jI.eq_8,@dJ.eq_1,@dJ.eq_2,@dJ.eq_3,@eu.eq_1⟩
theorem agG:type_of% @Qu.eq_1∧type_of% @Qu.eq_2∧type_of% @Qu.eq_3∧type_of% @jZ.eq_1∧type_of% @jZ.eq_2∧type_of% @jZ.eq_3∧type_of% @fU.eq_1∧type_of% @fU.eq_2∧type_of% @jI.eq_1∧type_of% @jI.eq_2∧type_of% @jI.eq_3∧type_of% @jI.eq_4∧type_of% @jI.eq_5∧type_of% @jI.eq_6∧type_of% @jI.eq_7∧type_of% @jI.eq_8∧type_of% @dJ.eq_1∧type_of% @dJ.eq_2∧type_of% @dJ.eq_3∧type_of% @eu.eq_1∧type_of% @KN.eq_1∧type_of% @tQ.eq_1∧type_of% @newObj.eq_1∧type_of% @aL.eq_1∧type_of% @bW.eq_1∧type_of% @eB.eq_1∧type_of% @jq.eq_1∧type_of% @jq.eq_2∧type_of% @kK.eq_1∧type_of% @kK.eq_2∧type_of% @St.freeze.eq_1∧type_of% @aez∧type_of% @jf.eq_1∧type_of% @jf.eq_2∧type_of% @kH.eq_1:=⟨@Qu.eq_1,@Qu.eq_2,@Qu.eq_3,@jZ.eq_1,@jZ.eq_2,@jZ.eq_3,@fU.eq_1,@fU.eq_2,@jI.eq_1,@jI.eq_2,@jI.eq_3,@jI.eq_4,@jI.eq_5,@jI.eq_6,@jI.eq_7,@jI.eq_8,@dJ.eq_1,@dJ.eq_2,@dJ.eq_3,@eu.eq_1,@KN.eq_1,@tQ.eq_1,@newObj.eq_1,@aL.eq_1,@bW.eq_1,@eB.eq_1,@jq.eq_1,@jq.eq_2,@kK.eq_1,@kK.eq_2,@St.freeze.eq_1,@aez,@jf.eq_1,@jf.eq_2,@kH.eq_1⟩
end Lp
namespace Lp
open Go
variable {P:Program}
def Y8:Option TypeDesc→PV→PV→Bool
 | some (.int k),.int k1 _,.int k2 _=>decide (k1=k2)
 | some .bool,.bool _,.bool _=>true
 | some .string,.str _,.str _=>true
 | _,_,_=>false
def yx(P:Program):Nat→List Field→List PV→List PV→Bool
 | _,[],[],[]=>true
 | k,f::fs,p::aa,q::bs=>(f.name != "_") && f.offset==k && Y8 (P.underlying f.type) p q && yx P (k+1) fs aa bs
 | _,_,_,_=>false
theorem yA{w:World}{t:TypeId}{xs:Array Value}{o:Nat}{v:Value}{d:TypeDesc}(hu:P.underlying t=some d)(hd:(∃k,d=.int k)∨d=.bool∨d=.string)(hv:xs[o]?=some v):(part t xs o).run P w=.ok v w:=by
 rcases hd with ⟨k,rfl⟩ | rfl | rfl
 all_goals simp[part,isAgg,run_underlying hu,hv]
theorem abw{w:World}{d:Nat}{t:TypeId}{p q:PV}{v u:Value}{ok:Nat→Prop}(hf:Y8 (P.underlying t) p q=true)(hv:dM w ok p v)(hu:dM w ok q u) :
  ∃b,eqS p q=some b∧(Op.equalIn (d+1) t v u).run P w=.ok b w∧∃e,P.underlying t=some e∧((∃k,e=.int k)∨e=.bool∨e=.string):=by
 unfold Y8 at hf
 split at hf
 ·rename_i k k1 a k2 b hk
  have:k1=k2:=by simpa using hf
  subst this
  cases hv;cases hu
  exact⟨decide (a=b),by simp[eqS],by rw[run_equalIn_int w d t k1 k a b hk];rfl,_,hk,.inl ⟨_,rfl⟩⟩
 ·rename_i a b hk
  cases hv;cases hu
  exact⟨a==b,rfl,run_equalIn_bool' w d t a b hk,_,hk,.inr (.inl rfl)⟩
 ·rename_i a b hk
  cases hv;cases hu
  refine⟨decide (a=b),rfl,?_,_,hk,.inr (.inr rfl)⟩
  rw[run_equalIn_string w d t _ _ hk]
  congr 1
  simp only[ByteArray.toList_eq]
  by_cases h:a=b
  ·simp[h]
  ·simp[h]
 ·cases hf
theorem Oq{w:World}{d:Nat}{ok:Nat→Prop}{xs ys:Array Value}:∀(fs:List Field) (k:Nat) (aa bs:List PV) (r:Bool),yx P k fs aa bs=true→Ac aa bs=some r→
  (∀i p,aa[i]?=some p→∃v,xs[k+i]?=some v∧dM w ok p v)→(∀i p,bs[i]?=some p→∃v,ys[k+i]?=some v∧dM w ok p v)→
  (Op.eqFields (d+1) xs ys fs).run P w=.ok r w
 | [],k,aa,bs,r,hf,he,_,_=>by
  cases aa<;>cases bs<;>simp[yx]at hf
  simp only[Ac,Option.some.injEq]at he
  subst he
  rfl
 | f::fs,k,aa,bs,r,hf,he,ha,hb=>by
  cases aa with
  | nil=>cases bs<;>simp[yx]at hf
  | cons p aa=>
   cases bs with
   | nil=>simp[yx]at hf
   | cons q bs=>
    simp only[yx,Bool.and_eq_true,beq_iff_eq,bne_iff_ne]at hf
    obtain⟨⟨⟨hn,ho⟩,ht⟩,hr⟩:=hf
    obtain⟨v,hv,rv⟩:=ha 0 p rfl
    obtain⟨u,hu,ru⟩:=hb 0 q rfl
    obtain⟨b,hb1,hb2,e,he1,he2⟩:=abw (d:=d) ht rv ru
    simp only[Ac,hb1]at he
    cases hq:Ac aa bs with
    | none=>rw[hq]at he;simp at he
    | some r'=>
     rw[hq]at he
     simp only[Option.some.injEq]at he
     subst he
     have ih:=Oq (w:=w) (d:=d) (ok:=ok) (xs:=xs) (ys:=ys) fs (k+1) aa bs r' hr hq (λi p h=>by have:=ha (i+1) p (by simpa using h);rwa[show k+(i+1)=k+1+i by omega]at this) (λi p h=>by have:=hb (i+1) p (by simpa using h);rwa[show k+(i+1)=k+1+i by omega]at this)
     have p1:=yA (w:=w) (xs:=xs) (o:=f.offset) he1 he2 (by rw[ho];simpa using hv)
     have p2:=yA (w:=w) (xs:=ys) (o:=f.offset) he1 he2 (by rw[ho];simpa using hu)
     simp only[Op.eqFields,ne_eq,hn,not_false_eq_true,if_true,Sem.run_bind,p1,Result.andThen_ok,p2,hb2]
     cases b
     ·simp
     ·simpa using ih
theorem adC{t:TypeId}{aa bs:List PV}(hg:P.eqGuardType P.depth t=false)(ht:P.underlying t=some (.struct (P.fieldsOf t)))(hp:P.stoodInHeld t=false)(hf:yx P 0 (P.fieldsOf t).toList aa bs=true):Cy P t aa bs:=by
 refine⟨hg,λw ok vs us r hr h1 h2=>?_⟩
 have e:Op.equal t (.agg ⟨vs⟩) (.agg ⟨us⟩)=Op.equalIn (9999+1) t (.agg ⟨vs⟩) (.agg ⟨us⟩):=rfl
 rw[e,run_equalIn_struct w 9999 t _ _ ht hp]
 refine Oq (d:=9998) (ok:=ok) _ 0 aa bs r hf hr ?_ ?_
 ·intro i p hi
  have hlt:=(List.getElem?_eq_some_iff.1 hi).1
  have hv:vs[i]?=some (vs[i]'(by rw[←h1.1];exact hlt)):=List.getElem?_eq_getElem _
  exact⟨_,by simpa using hv,h1.2 i p _ hi hv⟩
 ·intro i p hi
  have hlt:=(List.getElem?_eq_some_iff.1 hi).1
  have hv:us[i]?=some (us[i]'(by rw[←h2.1];exact hlt)):=List.getElem?_eq_getElem _
  exact⟨_,by simpa using hv,h2.2 i p _ hi hv⟩
end Lp
namespace Lp
open Go Go.Proofs
def jQ(l:List (List UInt8)):PV:=.sl 1 (l.map .str) none
def iq(l:List Vl):PV:=.sl 1 (l.map aJ) none
def encI(l:List Int):PV:=.sl 1 (l.map (.int .i64)) none
def Rw(l:List (List Int)):PV:=.sl 1 (l.map encI) none
theorem hV:∀l,aJ l=.sl 6 (l.map aB) none:=λ_=>rfl
theorem hT:∀l,jQ l=.sl 1 (l.map .str) none:=λ_=>rfl
theorem hL:∀l,iq l=.sl 1 (l.map aJ) none:=λ_=>rfl
theorem hI:∀l,encI l=.sl 1 (l.map (.int .i64)) none:=λ_=>rfl
theorem hG:∀l,Rw l=.sl 1 (l.map encI) none:=λ_=>rfl
theorem yB:∀a b,aB a=aB b→a=b:=by
 intro a b h
 cases a;cases b
 simp only[aB,PV.agg.injEq,List.cons.injEq,PV.int.injEq,PV.str.injEq,PV.bool.injEq,true_and,and_true]at h
 obtain⟨rfl,rfl,rfl,rfl,rfl,rfl⟩:=h
 rfl
theorem yC:∀a b,aJ a=aJ b→a=b:=o5 hV yB
theorem yD:∀a b,jQ a=jQ b→a=b:=o5 hT λ_ _ h=>by injection h
theorem yE:∀a b,encI a=encI b→a=b:=o5 hI λ_ _ h=>by injection h
theorem Dj:∀a b,iq a=iq b→a=b:=o5 hL yC
theorem Dk:∀a b,Rw a=Rw b→a=b:=o5 hG yE
theorem aeA(objs:List Obj)(K:KT) :
  (∀n,aK D 27 (.addr (aB n)) 0 objs K=K (.addr (.int .i64 n.kind)) objs 0)∧
  (∀n,aK D 27 (.addr (aB n)) 1 objs K=K (.addr (.int .i64 n.many)) objs 0)∧
  (∀n,aK D 27 (.addr (aB n)) 2 objs K=K (.addr (.str n.name)) objs 0)∧
  (∀n,aK D 27 (.addr (aB n)) 3 objs K=K (.addr (.str n.s)) objs 0)∧
  (∀n,aK D 27 (.addr (aB n)) 4 objs K=K (.addr (.bool n.neg)) objs 0)∧
  (∀n,aK D 27 (.addr (aB n)) 5 objs K=K (.addr (.int .i64 n.e)) objs 0):=by
 refine⟨λn=>?_,λn=>?_,λn=>?_,λn=>?_,λn=>?_,λn=>?_⟩
 all_goals
  simp only[aB,aK,eu,bS,↓M9,KH,uP,sG,G8,Jz,ne_eq,reduceCtorEq,not_false_eq_true,true_and,Bool.not_false,Bool.and_self,Nat.reduceAdd,Nat.reduceLeDiff,forall_const]
theorem aeB :
  (∀n,(aB n).cells=[.int .i64 n.kind,.int .i64 n.many,.str n.name,.str n.s,.bool n.neg,.int .i64 n.e])∧
  (∀n,(aB n).isAgg=true)∧(∀n,(aB n).pure=true)∧(∀d m O n,eZ d m O (aB n)=aB n)∧(∀d m O n,iB d m O (aB n)=aB n):=
 ⟨λ_=>rfl,λ_=>rfl,λ_=>rfl,λ_ _ _ _=>rfl,λ_ _ _ _=>rfl⟩
theorem abx(a b:Nd):Cy Tryz.prog 27 (aB a).cells (aB b).cells:=
 adC (by kernel_rfl) (by kernel_rfl) (by kernel_rfl) (by
  have h:(Tryz.prog.fieldsOf 27).toList.map (λf=>(f.name != "_",f.offset,Tryz.prog.underlying f.type))=[(true,0,some (.int .i64)),(true,1,some (.int .i64)),(true,2,some .string),(true,3,some .string),(true,4,some .bool),(true,5,some (.int .i64))]:=by kernel_rfl
  generalize (Tryz.prog.fieldsOf 27).toList=fs at h
  obtain _ | ⟨f0,_ | ⟨f1,_ | ⟨f2,_ | ⟨f3,_ | ⟨f4,_ | ⟨f5,_ | ⟨f6,fr⟩⟩⟩⟩⟩⟩⟩:=fs
  all_goals simp only[List.map_cons,List.map_nil,List.cons.injEq,Prod.mk.injEq,and_true,reduceCtorEq,and_false]at h
  obtain⟨⟨a0,b0,c0⟩,⟨a1,b1,c1⟩,⟨a2,b2,c2⟩,⟨a3,b3,c3⟩,⟨a4,b4,c4⟩,⟨a5,b5,c5⟩⟩:=h
  simp only[yx,Y8,aB,PV.cells,a0,b0,c0,a1,b1,c1,a2,b2,c2,a3,b3,c3,a4,b4,c4,a5,b5,c5,Bool.and_true,BEq.rfl,decide_true,Nat.zero_add,Nat.reduceAdd])
theorem agH(a b:Nd):Ac (aB a).cells (aB b).cells=some (decide (a=b)):=by
 cases a;cases b
 simp only[aB,PV.cells,Ac,eqS,if_true,Bool.and_true,Nd.mk.injEq,Option.some.injEq]
 rw[Bool.eq_iff_iff]
 simp
theorem aby(ti:aH)(K:PV→Prop) :
  (∀a b,pM Tryz.prog ti 27 .eql (aB a) (aB b) K=K (.bool (decide (a=b))))∧
  (∀a b,pM Tryz.prog ti 27 .neq (aB a) (aB b) K=K (.bool (!decide (a=b))))∧
  (∀a k m x y g e,pM Tryz.prog ti 27 .eql (aB a) (.agg [.int .i64 k,.int .i64 m,.str x,.str y,.bool g,.int .i64 e]) K=K (.bool (decide (a=⟨k,m,x,y,g,e⟩)))):=by
 have h:∀a b,pM Tryz.prog ti 27 .eql (aB a) (aB b) K=K (.bool (decide (a=b))):=λa b=>by
  show (Cy Tryz.prog 27 (aB a).cells (aB b).cells∧∃r,Ac (aB a).cells (aB b).cells=some r∧K (.bool r))=_
  rw[agH]
  simp[abx]
 refine⟨h,λa b=>?_,λa k m x y g e=>h a ⟨k,m,x,y,g,e⟩⟩
 show (Cy Tryz.prog 27 (aB a).cells (aB b).cells∧∃r,Ac (aB a).cells (aB b).cells=some r∧K (.bool (!r)))=_
 rw[agH]
 simp[abx]
theorem aeC(n:Nd) :
  (∀x,(aB n).putCells 0 [.int .i64 x]=aB { n with kind:=x })∧(∀x,(aB n).putCells 1 [.int .i64 x]=aB { n with many:=x })∧
  (∀x,(aB n).putCells 2 [.str x]=aB { n with name:=x })∧(∀x,(aB n).putCells 3 [.str x]=aB { n with s:=x })∧
  (∀x,(aB n).putCells 4 [.bool x]=aB { n with neg:=x })∧(∀x,(aB n).putCells 5 [.int .i64 x]=aB { n with e:=x }):=
 ⟨λ_=>rfl,λ_=>rfl,λ_=>rfl,λ_=>rfl,λ_=>rfl,λ_=>rfl⟩
theorem aeD(k m:Int)(x y:List UInt8)(g:Bool)(e:Int):PV.agg [.int .i64 k,.int .i64 m,.str x,.str y,.bool g,.int .i64 e]=aB ⟨k,m,x,y,g,e⟩:=rfl
theorem aeE(objs:List Obj)(K:KT) :
  (∀k,bM D 27 [(0,.int .i64 k)] objs K=K (aB ⟨k,0,[],[],false,0⟩) objs 0)∧
  (∀k m,bM D 27 [(0,.int .i64 k),(1,.int .i64 m)] objs K=K (aB ⟨k,m,[],[],false,0⟩) objs 0)∧
  (∀k s,bM D 27 [(0,.int .i64 k),(3,.str s)] objs K=K (aB ⟨k,0,[],s,false,0⟩) objs 0)∧
  (∀k s g e,bM D 27 [(0,.int .i64 k),(3,.str s),(4,.bool g),(5,.int .i64 e)] objs K=K (aB ⟨k,0,[],s,g,e⟩) objs 0):=by
 have z:aL (D 27)=aB ⟨0,0,[],[],false,0⟩:=by kernel_rfl
 have a:(D 27).agg=true:=by kernel_rfl
 simp only[bS]at z a
 refine⟨λk=>?_,λk m=>?_,λk s=>?_,λk s g e=>?_⟩
 all_goals
  simp[bM,mI,a,z,bS,nD,aB,PV.isAgg,q9,PV.cells,PV.storable,PV.mV,PV.pure]
theorem aeF :
  (∀n0,PV.sl 6 [aB n0] none=aJ [n0])∧
  (∀n0 n1,PV.sl 6 [aB n0,aB n1] none=aJ [n0,n1])∧
  (∀n0 n1 n2,PV.sl 6 [aB n0,aB n1,aB n2] none=aJ [n0,n1,n2])∧
  (∀s0,PV.sl 1 [PV.str s0] none=jQ [s0])∧
  (∀s0 s1,PV.sl 1 [PV.str s0,PV.str s1] none=jQ [s0,s1])∧
  (∀s0 s1 s2,PV.sl 1 [PV.str s0,PV.str s1,PV.str s2] none=jQ [s0,s1,s2])∧
  (∀i0,PV.sl 1 [PV.int .i64 i0] none=encI [i0])∧
  (∀i0 i1,PV.sl 1 [PV.int .i64 i0,PV.int .i64 i1] none=encI [i0,i1])∧
  (∀i0 i1 i2,PV.sl 1 [PV.int .i64 i0,PV.int .i64 i1,PV.int .i64 i2] none=encI [i0,i1,i2])∧
  (∀v0,PV.sl 1 [aJ v0] none=iq [v0])∧
  (∀v0 v1,PV.sl 1 [aJ v0,aJ v1] none=iq [v0,v1])∧
  (∀v0 v1 v2,PV.sl 1 [aJ v0,aJ v1,aJ v2] none=iq [v0,v1,v2])∧
  (∀g0,PV.sl 1 [encI g0] none=Rw [g0])∧
  (∀g0 g1,PV.sl 1 [encI g0,encI g1] none=Rw [g0,g1])∧
  (∀g0 g1 g2,PV.sl 1 [encI g0,encI g1,encI g2] none=Rw [g0,g1,g2]):=
 ⟨λ_=>rfl,λ_ _=>rfl,λ_ _ _=>rfl,λ_=>rfl,λ_ _=>rfl,λ_ _ _=>rfl,λ_=>rfl,λ_ _=>rfl,λ_ _ _=>rfl,λ_=>rfl,λ_ _=>rfl,λ_ _ _=>rfl,λ_=>rfl,λ_ _=>rfl,λ_ _ _=>rfl⟩
theorem inN:xk aB:=by intro d n o x;cases d<;>rfl
theorem inV:xk aJ:=by intro d n o x;cases d<;>rfl
theorem inS:xk PV.str:=by intro d n o x;cases d<;>rfl
theorem inI:xk (PV.int .i64):=by intro d n o x;cases d<;>rfl
theorem inG:xk encI:=by intro d n o x;cases d<;>rfl
theorem agI :
  type_of% (kE hV)∧
  type_of% (kE hT)∧
  type_of% (kE hL)∧
  type_of% (kE hI)∧
  type_of% (kE hG)∧
  type_of% (aW yB)∧
  type_of% (aW yC)∧
  type_of% (aW yD)∧
  type_of% (aW Dj)∧
  type_of% (aW yE)∧
  type_of% (aW Dk):=
 ⟨kE hV,kE hT,kE hL,kE hI,kE hG,aW yB,aW yC,aW yD,aW Dj,aW yE,aW Dk⟩
theorem aeG :
  type_of% (aeA)∧
  type_of% (aeB)∧
  type_of% (aby)∧
  type_of% (aeC)∧
  type_of% (aeD)∧
  type_of% (aeE)∧
  type_of% (aeF)∧
  type_of% (uQ hV)∧
  type_of% (uQ hT)∧
  type_of% (uQ hL)∧
  type_of% (uQ hI)∧
  type_of% (uQ hG)∧
  type_of% (kE hV)∧
  type_of% (kE hT)∧
  type_of% (kE hL)∧
  type_of% (kE hI)∧
  type_of% (kE hG)∧
  type_of% (uR hV)∧
  type_of% (uR hT)∧
  type_of% (uR hL)∧
  type_of% (uR hI)∧
  type_of% (uR hG)∧
  type_of% (aW yB)∧
  type_of% (aW yC)∧
  type_of% (aW yD)∧
  type_of% (aW Dj)∧
  type_of% (aW yE)∧
  type_of% (aW Dk)∧
  type_of% (jv hV inN)∧
  type_of% (jv hT inS)∧
  type_of% (jv hL inV)∧
  type_of% (jv hI inI)∧
  type_of% (jv hG inG)∧
  type_of% (t_ (enc:=aB) (sz:=6) (λ_=>rfl) (λ_=>rfl))∧
  type_of% (t_ (enc:=aJ) (sz:=1) (λ_=>rfl) (λ_=>rfl))∧
  type_of% (t_ (enc:=PV.str) (sz:=1) (λ_=>rfl) (λ_=>rfl))∧
  type_of% (t_ (enc:=(PV.int .i64)) (sz:=1) (λ_=>rfl) (λ_=>rfl))∧
  type_of% (t_ (enc:=encI) (sz:=1) (λ_=>rfl) (λ_=>rfl))∧
  type_of% (t_ (enc:=PV.bool) (sz:=1) (λ_=>rfl) (λ_=>rfl))∧
  type_of% (λ(l:Vl) (k:Nat)=>Na (aJ l) rfl k)∧
  type_of% (λ(l:List (List UInt8)) (k:Nat)=>Na (jQ l) rfl k)∧
  type_of% (λ(l:List Vl) (k:Nat)=>Na (iq l) rfl k)∧
  type_of% (λ(l:List Int) (k:Nat)=>Na (encI l) rfl k)∧
  type_of% (λ(l:List (List Int)) (k:Nat)=>Na (Rw l) rfl k)∧
  type_of% (λ(z:Nat) (xs:List PV) (q:Option Bool) (k:Nat)=>Na (.sl z xs q) rfl k):=
 ⟨aeA,aeB,aby,aeC,aeD,aeE,aeF,uQ hV,uQ hT,uQ hL,uQ hI,uQ hG,kE hV,kE hT,kE hL,kE hI,kE hG,uR hV,uR hT,uR hL,uR hI,uR hG,aW yB,aW yC,aW yD,aW Dj,aW yE,aW Dk,jv hV inN,jv hT inS,jv hL inV,jv hI inI,jv hG inG,t_ (enc:=aB) (sz:=6) (λ_=>rfl) (λ_=>rfl),t_ (enc:=aJ) (sz:=1) (λ_=>rfl) (λ_=>rfl),t_ (enc:=PV.str) (sz:=1) (λ_=>rfl) (λ_=>rfl),t_ (enc:=(PV.int .i64)) (sz:=1) (λ_=>rfl) (λ_=>rfl),t_ (enc:=encI) (sz:=1) (λ_=>rfl) (λ_=>rfl),t_ (enc:=PV.bool) (sz:=1) (λ_=>rfl) (λ_=>rfl),λ(l:Vl) (k:Nat)=>Na (aJ l) rfl k,λ(l:List (List UInt8)) (k:Nat)=>Na (jQ l) rfl k,λ(l:List Vl) (k:Nat)=>Na (iq l) rfl k,λ(l:List Int) (k:Nat)=>Na (encI l) rfl k,λ(l:List (List Int)) (k:Nat)=>Na (Rw l) rfl k,λ(z:Nat) (xs:List PV) (q:Option Bool) (k:Nat)=>Na (.sl z xs q) rfl k⟩
theorem aS:type_of% @agE∧type_of% @agI∧type_of% @agF:=⟨@agE,@agI,@agF⟩
theorem aT:type_of% @aex∧type_of% @aey∧type_of% @aeG∧type_of% bS∧type_of% @agG:=⟨@aex,@aey,@aeG,bS,@agG⟩
end Lp
