/-
  Part 3 of what the statement rests on: LpN, LpNb, LpO, LpHid, LpCut, LpP, LpT, LpQ, LpR. No condition.
-/
import Derived.Test.YthmobaehdbiljaaGreatDoorLp2
import Derived.RangeFuncRecord
import Derived.RangeFuncLeaves
import Derived.KernelRfl

set_option linter.all false
set_option maxHeartbeats 8000000
set_option maxRecDepth 100000
namespace Lp
open Go
open Option (bind_some getD_some map_some)
variable {P:Program}{D:TypeId→aD}{l:Option Nat}
structure Ip where
 r:PV
 objs:List Obj
 t:Nat
 deriving Inhabited
def ic(ops:List Oper)(g:Option (Nat×Bool))(tmps:List PV):Option Bool:=
 match g with
 | none=>some true
 | some (j,want)=>
  match (ops[j]?).bind (·.dst) with
  | none=>none
  | some d=>
   match tmps.getD d .dead with
   | .bool b=>some (b==want)
   | .bY []=>some false
   | _=>none
theorem CW{ops:List Oper}{g:Option (Nat×Bool)}{S:St}{X Y:St→Prop}(h:oU ops g S X Y) :
  (ic ops g S.tmps=some true∧X S)∨(ic ops g S.tmps=some false∧Y S):=by
 unfold oU at h
 unfold ic
 split at h
 ·exact .inl ⟨rfl,h⟩
 ·rename_i j want
  simp only[]
  split at h
  ·exact h.elim
  ·rename_i d hd
   rw[hd]
   simp only[]
   split at h
   ·rename_i b hb
    rw[hb]
    by_cases hbw:b=want
    ·left
     have:=h.1 hbw
     rw[Bf (by rw[hb,hbw]) (by simp)]at this
     exact⟨by simp[hbw],this⟩
    ·right
     have hbn:b=!want:=by cases b<;>cases want<;>simp_all
     have:=h.2 hbn
     rw[Bf (by rw[hb,hbn]) (by simp)]at this
     exact⟨by simp[hbn],this⟩
   ·rename_i hb
    rw[hb]
    exact .inr ⟨rfl,h⟩
   ·exact h.elim
theorem CX{ops:List Oper}{g:Option (Nat×Bool)}{S:St}{b:Bool}(h:ic ops g S.tmps=some b) :
  oU ops g S (λ_=>b=true) (λ_=>b=false):=by
 unfold ic at h
 unfold oU
 split at h
 ·simpa using h.symm
 ·rename_i j want
  simp only[]
  split at h
  ·cases h
  ·rename_i d hd
   rw[hd]
   simp only[]
   split at h
   ·rename_i b0 hb
    rw[hb]
    simp only[Option.some.injEq]at h
    subst h
    exact⟨λe=>by simp[e],λe=>by simp[e]⟩
   ·rename_i hb
    rw[hb]
    simpa using h.symm
   ·cases h
theorem pG{ops:List Oper}{base ah:Nat→Prop}{w0:Wz}{S:St}{blk:Nat→Option Nat}{a:Act}{w:World}{b:Bool}{o:Oper}
  (R:Rel base ah w0 S blk a w) (h:ic ops o.guard S.tmps=some b):Region.wanted o (yielded ops.toArray a.tmps)=b:=by
 rcases wo R (CX h) o rfl with ⟨h1,h2⟩ | ⟨h1,h2⟩<;>rw[h1,h2]
def rO(P:Program)(D:TypeId→aD)(own:Bool)(ops:List Oper)(o:Oper)(S:St)(e:Ip):Prop:=
 (ic ops o.guard S.tmps=some true∧(co e.t≠2→e.objs=S.objs)∧(∀K:KT,K e.r e.objs e.t→Io P D own S.ev S.objs o.op K)∧
  (e.t=0→∀(bO:List Obj) (K:KT),K e.r bO 0→Io P D own S.ev bO o.op K)∧Zc (λob K=>Io P D own S.ev ob o.op K) S.objs e.r e.objs e.t)∨
 (ic ops o.guard S.tmps=some false∧e.r=.bY []∧e.objs=S.objs∧e.t=0)
def Trace(P:Program)(D:TypeId→aD)(own:Nat→Bool)(ops:List Oper):List Oper→Nat→St→List Ip→St→Prop
 | [],_,S,tr,S'=>tr=[]∧S'=S
 | o::rest,i,S,tr,S'=>∃e tr',tr=e::tr'∧rO P D (own i) ops o S e∧Trace P D own ops rest (i+1) (St.put ⟨S.tmps,e.objs⟩ o.dst e.r) tr' S'
theorem mJ{own:Nat→Bool}{ops:List Oper}:∀(qJ:List Oper) (i:Nat) (S:St) (ts:List Nat) (K:St→List Nat→Prop),pq P D own ops qJ i S ts K→
  ∃tr S',Trace P D own ops qJ i S tr S'∧K S' (ts++tr.map (·.t))
 | [],i,S,ts,K,h=>⟨[],S,⟨rfl,rfl⟩,by simpa[pq] using h⟩
 | o::rest,i,S,ts,K,h=>by
  unfold pq at h
  rcases CW h with ⟨hw,hx⟩ | ⟨hw,hy⟩
  ·obtain⟨r,ob,t,h1,h2,h3,h4,h4b⟩:=Tk hx
   obtain⟨tr,S',h5,h6⟩:=mJ rest _ _ _ K h1
   refine⟨⟨r,ob,t⟩::tr,S',⟨_,_,rfl,.inl ⟨hw,h2,h3,h4,h4b⟩,h5⟩,by simpa using h6⟩
  ·obtain⟨tr,S',h5,h6⟩:=mJ rest _ _ _ K hy
   refine⟨⟨.bY [],S.objs,0⟩::tr,S',⟨_,_,rfl,.inr ⟨hw,rfl,rfl,rfl⟩,?_⟩,by simpa using h6⟩
   exact h5
def pI(dst:Option Nat)(r:PV)(tm:List PV):List PV:=
 match dst with
 | some d=>tm.set d r
 | none=>tm
section
variable (dst:Nat→Option Nat) (en:Nat→Ip)
def F5(X:Nat→Bool):Nat→List PV→List PV
 | 0,tm=>tm
 | n+1,tm=>if X n then pI (dst n) (en n).r (F5 X n tm) else F5 X n tm
def oN(X:Nat→Bool):Nat→List Obj→List Obj
 | 0,ob=>ob
 | n+1,ob=>if X n && co (en n).t==2 then (en n).objs else oN X n ob
def upd(X:Nat→Bool)(i:Nat)(j:Nat):Bool:=X j || j==i
variable {dst en}
theorem nO{X Y:Nat→Bool}:∀(n:Nat) (tm:List PV),(∀j,j<n→X j=Y j)→F5 dst en X n tm=F5 dst en Y n tm
 | 0,_,_=>rfl
 | n+1,tm,h=>by simp only[F5];rw[h n (by omega),nO n tm (λj hj=>h j (by omega))]
theorem pX{X Y:Nat→Bool}:∀(n:Nat) (ob:List Obj),(∀j,j<n→co (en j).t=2→X j=Y j)→oN en X n ob=oN en Y n ob
 | 0,_,_=>rfl
 | n+1,ob,h=>by
  simp only[oN]
  rw[pX n ob (λj hj=>h j (by omega))]
  by_cases ht:co (en n).t=2
  ·rw[h n (by omega) ht]
  ·simp[ht]
theorem NP(d:Option Nat)(r:PV)(tm:List PV):(pI d r tm).length=tm.length:=by cases d<;>simp[pI]
theorem zW(X:Nat→Bool):∀(n:Nat) (tm:List PV),(F5 dst en X n tm).length=tm.length
 | 0,_=>rfl
 | n+1,tm=>by simp only[F5];split<;>simp[NP,zW X n tm]
theorem Bg{d:Option Nat}{x:Nat}(h:d≠some x)(r:PV)(tm:List PV):(pI d r tm).getD x .dead=tm.getD x .dead:=by
 cases d with
 | none=>rfl
 | some d=>
  have:d≠x:=λe=>h (by rw[e])
  simp[pI,List.getD_eq_getElem?_getD,List.getElem?_set_ne this]
theorem EF{d:Option Nat}{x:Nat}{r:PV}{tm tm':List PV}(hl:tm.length=tm'.length)(h:tm.getD x .dead=tm'.getD x .dead):(pI d r tm).getD x .dead=(pI d r tm').getD x .dead:=by
 cases d with
 | none=>exact h
 | some d=>
  by_cases hd:d=x
  ·subst hd
   simp[pI,List.getD_eq_getElem?_getD,List.getElem?_set,hl]
  ·simpa[pI,List.getD_eq_getElem?_getD,List.getElem?_set_ne hd] using h
theorem F6{X Y:Nat→Bool}{x:Nat}:∀(n:Nat) (tm:List PV),(∀j,j<n→dst j=some x→X j=Y j)→(F5 dst en X n tm).getD x .dead=(F5 dst en Y n tm).getD x .dead
 | 0,_,_=>rfl
 | n+1,tm,h=>by
  have ih:=F6 (X:=X) (Y:=Y) (x:=x) n tm (λj hj=>h j (by omega))
  simp only[F5]
  by_cases hd:dst n=some x
  ·rw[h n (by omega) hd]
   split
   ·exact EF (by rw[zW,zW]) ih
   ·exact ih
  ·split<;>split<;> (try rw[Bg hd])<;> (try rw[Bg hd])<;>exact ih
theorem UW{d d':Option Nat}{r r':PV}{tm:List PV}(h:∀x,d=some x→d'≠some x):pI d r (pI d' r' tm)=pI d' r' (pI d r tm):=by
 cases d with
 | none=>rfl
 | some x=>
  cases d' with
  | none=>rfl
  | some y=>
   have hxy:y≠x:=λe=>h x rfl (by rw[e])
   simp only[pI]
   exact List.set_comm _ _ hxy
theorem Lb{X:Nat→Bool}{i:Nat}:∀(n:Nat) (tm:List PV),i<n→X i=false→(∀j,i<j→j<n→X j=true→∀x,dst i=some x→dst j≠some x)→
  pI (dst i) (en i).r (F5 dst en X n tm)=F5 dst en (upd X i) n tm
 | 0,_,h,_,_=>by omega
 | n+1,tm,hi,hx,hd=>by
  simp only[F5]
  by_cases hin:i=n
  ·subst hin
   simp only[hx,upd,beq_self_eq_true,Bool.or_true,if_true,Bool.false_eq_true,if_false]
   rw[nO (Y:=upd X i) i tm (λj hj=>by simp[upd];omega)]
  ·have ih:=Lb (X:=X) n tm (by omega) hx (λj h1 h2=>hd j h1 (by omega))
   have hu:upd X i n=X n:=by simp[upd];omega
   rw[hu]
   split
   ·rename_i hn
    rw[←ih,UW (λx hx'=>hd n (by omega) (by omega) hn x hx')]
   ·exact ih
theorem Lc{X:Nat→Bool}{i:Nat}:∀(n:Nat) (ob:List Obj),i<n→co (en i).t=2→(∀j,i<j→j<n→X j=true→co (en j).t≠2)→oN en (upd X i) n ob=(en i).objs
 | 0,_,h,_,_=>by omega
 | n+1,ob,hi,ht,hd=>by
  simp only[oN]
  by_cases hin:i=n
  ·subst hin
   simp[upd,ht]
  ·have hu:upd X i n=X n:=by simp[upd];omega
   rw[hu]
   cases hn:X n with
   | false=>simpa using Lc n ob (by omega) ht (λj h1 h2=>hd j h1 (by omega))
   | true=>
    have:=hd n (by omega) (by omega) hn
    simpa[this] using Lc n ob (by omega) ht (λj h1 h2=>hd j h1 (by omega))
def cnt(X:Nat→Bool):Nat→Nat
 | 0=>0
 | n+1=>cnt X n+if X n then 0 else 1
theorem JZ{X Y:Nat→Bool}:∀(n:Nat),(∀j,j<n→X j=Y j)→cnt X n=cnt Y n
 | 0,_=>rfl
 | n+1,h=>by simp only[cnt];rw[h n (by omega),JZ n (λj hj=>h j (by omega))]
theorem Ld{X:Nat→Bool}{i:Nat}:∀(n:Nat),i<n→X i=false→cnt (upd X i) n+1=cnt X n
 | 0,h,_=>by omega
 | n+1,hi,hx=>by
  simp only[cnt]
  by_cases hin:i=n
  ·subst hin
   rw[JZ (Y:=upd X i) (X:=X) i (λj hj=>by simp[upd];omega)]
   simp[upd,hx]
  ·have:=Ld (X:=X) n (by omega) hx
   have hu:upd X i n=X n:=by simp[upd];omega
   rw[hu];omega
theorem F7{X:Nat→Bool}:∀(n:Nat),cnt X n=0→∀j,j<n→X j=true
 | 0,_,j,h=>by omega
 | n+1,h,j,hj=>by
  simp only[cnt]at h
  by_cases hjn:j=n
  ·subst hjn
   cases hx:X j with
   | true=>rfl
   | false=>simp[hx]at h
  ·exact F7 n (by omega) j (by omega)
end
def fO(ops:List Oper)(o:Oper):List Nat:=
 (o.op.operands.toList.filterMap λ| .tmp t=>some t | _=>none)++
 (match o.guard with
  | some (g,_)=>((ops[g]?).bind (·.dst)).toList
  | none=>[])
def qi(acc:List Nat)(o:Oper):Nat:=
 o.after.toList.foldl (λm e=>if Region.binds .any e then (m ||| (1 <<<e.on)) ||| acc.getD e.on 0 else m) 0
def masks:List Oper→List Nat→List Nat
 | [],acc=>acc
 | o::rest,acc=>masks rest (acc++[qi acc o])
def clash(dj di:Option Nat)(lj li:List Nat)(tj ti:Nat):Bool:=
 (match dj with
  | some d=>li.contains d || di==some d
  | none=>false) ||
 (match di with
  | some d=>lj.contains d
  | none=>false) ||
 (tj==2 && ti !=0) || (ti==2 && tj !=0)
def rP(ops:List Oper)(ts:List Nat):Bool:=
 let ms:=masks ops []
 let ls:=ops.map (fO ops)
 (List.range ops.length).all λi=>
  match ops[i]? with
  | none=>true
  | some o=>
   (o.after.toList.all λe=>!Region.binds .any e || decide (e.on<i)) &&
   (ms.getD i 0 &&& qi ms o==ms.getD i 0) &&
   (List.range i).all λj=>
    !clash ((ops[j]?).bind (·.dst)) o.dst (ls.getD j []) (ls.getD i []) (co (ts.getD j 0)) (co (ts.getD i 0)) || (ms.getD i 0).testBit j
theorem F8{acc:List Nat}{o:Oper}{j:Nat}(h:(qi acc o).testBit j=true) :
  ∃e∈o.after.toList,Region.binds .any e=true∧(j=e.on∨(acc.getD e.on 0).testBit j=true):=by
 unfold qi at h
 have key:∀(es:List Edge) (m:Nat),(es.foldl (λm e=>if Region.binds .any e then (m ||| (1 <<<e.on)) ||| acc.getD e.on 0 else m) m).testBit j=true→
     m.testBit j=true∨∃e∈es,Region.binds .any e=true∧(j=e.on∨(acc.getD e.on 0).testBit j=true):=by
  intro es
  induction es with
  | nil=>intro m h;exact .inl h
  | cons e es ih=>
   intro m h
   rw[List.foldl_cons]at h
   rcases ih _ h with h | ⟨e',h1,h2⟩
   ·split at h
    ·rename_i hb
     rw[Nat.testBit_or,Nat.testBit_or]at h
     simp only[Bool.or_eq_true]at h
     rcases h with (h | h) | h
     ·exact .inl h
     ·rw[Nat.one_shiftLeft,Nat.testBit_two_pow]at h
      exact .inr ⟨e,List.mem_cons_self,hb,.inl (of_decide_eq_true h).symm⟩
     ·exact .inr ⟨e,List.mem_cons_self,hb,.inr h⟩
    ·exact .inl h
   ·exact .inr ⟨e',List.mem_cons_of_mem _ h1,h2⟩
 rcases key _ _ h with h | h
 ·simp at h
 ·exact h
structure QR (ops:List Oper) (ts:List Nat) (ms:List Nat):Prop where
 back:∀(i:Nat) (o:Oper),ops[i]?=some o→∀e∈o.after.toList,Region.binds .any e=true→e.on<i
 mask:∀(i:Nat) (o:Oper),ops[i]?=some o→∀j,(ms.getD i 0).testBit j=true→∃e∈o.after.toList,Region.binds .any e=true∧(j=e.on∨(ms.getD e.on 0).testBit j=true)
 ord:∀(i:Nat) (o:Oper) (j:Nat) (p:Oper),ops[i]?=some o→ops[j]?=some p→j<i→clash p.dst o.dst (fO ops p) (fO ops o) (co (ts.getD j 0)) (co (ts.getD i 0))=true→(ms.getD i 0).testBit j=true
theorem wz{ops:List Oper}{ts:List Nat}(h:rP ops ts=true):QR ops ts (masks ops []):=by
 unfold rP at h
 simp only[List.all_eq_true,List.mem_range]at h
 have hh:∀i o,ops[i]?=some o→_:=λi o ho=>by
  have:=h i (List.getElem?_eq_some_iff.1 ho).1
  rw[ho]at this
  simp only[Bool.and_eq_true,List.all_eq_true,List.mem_range,beq_iff_eq]at this
  exact this
 refine⟨λi o ho e he hb=>by simpa[hb] using (hh i o ho).1.1 e he,λi o ho j hj=>?_,λi o j p ho hp hji hc=>?_⟩
 ·refine F8 ?_
  have h2:=(hh i o ho).1.2
  rw[←h2,Nat.testBit_and]at hj
  simp only[Bool.and_eq_true]at hj
  exact hj.2
 ·have h3:=(hh i o ho).2 j hji
  have hlt:=(List.getElem?_eq_some_iff.1 hp).1
  have e1:(ops.map (fO ops)).getD j []=fO ops p:=by rw[List.getD_eq_getElem?_getD,List.getElem?_map,hp];rfl
  have e2:(ops.map (fO ops)).getD i []=fO ops o:=by rw[List.getD_eq_getElem?_getD,List.getElem?_map,ho];rfl
  rw[e1,e2,hp]at h3
  simp only[bind_some,hc,Bool.not_true,Bool.false_or]at h3
  exact h3
def qj(ops:List Oper)(i:Nat):Option Nat:=(ops[i]?).bind (·.dst)
def aP(tr:List Ip)(i:Nat):Ip:=tr.getD i default
def l7(ops:List Oper)(tr:List Ip)(S:St)(X:Nat→Bool)(n:Nat):St:=⟨F5 (qj ops) (aP tr) X n S.tmps,oN (aP tr) X n S.objs⟩
theorem wB{own:Nat→Bool}{ops:List Oper}{S0:St}{tr0:List Ip}:∀(qJ:List Oper) (k:Nat) (S:St) (tr:List Ip) (S':St),Trace P D own ops qJ k S tr S'→
  (∀j,qJ[j]?=ops[k+j]?)→(∀j,tr[j]?=tr0[k+j]?)→S=l7 ops tr0 S0 (λ_=>true) k→
  (∀i o,k≤i→ops[i]?=some o→rO P D (own i) ops o (l7 ops tr0 S0 (λ_=>true) i) (aP tr0 i))∧S'=l7 ops tr0 S0 (λ_=>true) (k+qJ.length)
 | [],k,S,tr,S',h,hl,ht,hs=>by
  refine⟨λi o hi ho=>?_,by rw[h.2,hs];rfl⟩
  have:=hl (i-k)
  rw[show k+(i-k)=i by omega,ho]at this
  simp at this
 | o::rest,k,S,tr,S',h,hl,ht,hs=>by
  obtain⟨e,tr',rfl,h1,h2⟩:=h
  have ho:ops[k]?=some o:=by simpa using (hl 0).symm
  have he:aP tr0 k=e:=by
   have:=ht 0
   simp only[List.getElem?_cons_zero,Nat.add_zero]at this
   simp[aP,List.getD_eq_getElem?_getD,←this]
  have hst:St.put ⟨S.tmps,e.objs⟩ o.dst e.r=l7 ops tr0 S0 (λ_=>true) (k+1):=by
   have e1:(l7 ops tr0 S0 (λ_=>true) (k+1)).tmps=pI o.dst e.r S.tmps:=by
    simp only[l7,F5,if_true,he,qj,ho,bind_some]
    rw[hs];rfl
   have e2:(l7 ops tr0 S0 (λ_=>true) (k+1)).objs=e.objs:=by
    simp only[l7,oN,he,Bool.true_and]
    have hso:S.objs=oN (aP tr0) (λ_=>true) k S0.objs:=by rw[hs];rfl
    split
    ·rfl
    ·rename_i hne
     have hne:co e.t≠2:=by simpa using hne
     rcases h1 with ⟨_,h1,_⟩ | ⟨_,_,h1,_⟩
     ·rw[h1 hne,hso]
     ·rw[h1,hso]
   cases hd:o.dst with
   | none=>rw[hd]at e1;simp only[St.put,pI]at e1 ⊢;rw[←e1,←e2]
   | some d=>rw[hd]at e1;simp only[St.put,pI]at e1 ⊢;rw[←e1,←e2]
  obtain⟨h3,h4⟩:=wB rest (k+1) _ tr' S' h2 (λj=>by have:=hl (j+1);simpa[Nat.add_assoc,Nat.add_comm 1 j] using this)
   (λj=>by have:=ht (j+1);simpa[Nat.add_assoc,Nat.add_comm 1 j] using this) hst
  refine⟨λi o' hi ho'=>?_,by rw[h4,List.length_cons];congr 1;omega⟩
  by_cases hik:i=k
  ·subst hik
   rw[ho]at ho'
   cases ho'
   rw[he,←hs];exact h1
  ·exact h3 i o' (by omega) ho'
theorem CY{dst:Nat→Option Nat}{en:Nat→Ip}{i:Nat}:∀(n:Nat) (tm:List PV),i≤n→F5 dst en (λj=>decide (j<i)) n tm=F5 dst en (λ_=>true) i tm
 | 0,_,h=>by have:i=0:=by omega
             subst this;rfl
 | n+1,tm,h=>by
  by_cases hi:i=n+1
  ·subst hi
   exact nO (n+1) tm λj hj=>by simp[hj]
  ·simp only[F5]
   rw[if_neg (by simp;omega)]
   exact CY n tm (by omega)
theorem J2{en:Nat→Ip}{i:Nat}:∀(n:Nat) (ob:List Obj),i≤n→oN en (λj=>decide (j<i)) n ob=oN en (λ_=>true) i ob
 | 0,_,h=>by have:i=0:=by omega
             subst this;rfl
 | n+1,tm,h=>by
  by_cases hi:i=n+1
  ·subst hi
   exact pX (n+1) tm λj hj _=>by simp[hj]
  ·simp only[oN]
   rw[if_neg (by simp;omega)]
   exact J2 n tm (by omega)
theorem F9{dj di:Option Nat}{lj li:List Nat}{tj ti x:Nat}(h:dj=some x)(hx:x∈li):clash dj di lj li tj ti=true:=by simp[clash,h,hx]
theorem D9{dj di:Option Nat}{lj li:List Nat}{tj ti x:Nat}(h:di=some x)(hx:x∈lj):clash dj di lj li tj ti=true:=by simp[clash,h,hx]
theorem J3{dj di:Option Nat}{lj li:List Nat}{tj ti x:Nat}(h:dj=some x)(hx:di=some x):clash dj di lj li tj ti=true:=by simp[clash,h,hx]
theorem Tm{dj di:Option Nat}{lj li:List Nat}{tj ti:Nat}(h:tj=2)(hx:ti≠0):clash dj di lj li tj ti=true:=by simp[clash,h,hx]
theorem WV{dj di:Option Nat}{lj li:List Nat}{tj ti:Nat}(h:ti=2)(hx:tj≠0):clash dj di lj li tj ti=true:=by simp[clash,h,hx]
theorem Lf{own:Bool}{ops:List Oper}{o:Oper}{S S':St}{e:Ip}(h:rO P D own ops o S e)(hx:∀x∈fO ops o,S.tmps.getD x .dead=S'.tmps.getD x .dead)(ho:e.t≠0→S.objs=S'.objs) :
  (ic ops o.guard S'.tmps=some true∧(co e.t≠2→e.t≠0→e.objs=S'.objs)∧Io P D own S'.ev S'.objs o.op (λr ai t=>r=e.r∧t=e.t∧(e.t=0→ai=S'.objs)∧(e.t≠0→ai=e.objs)))∨
  (ic ops o.guard S'.tmps=some false∧e.r=.bY []∧e.t=0):=by
 have hev:∀x∈o.op.operands,S.ev x=S'.ev x:=by
  intro x hm
  cases x with
  | tmp t=>exact hx t (List.mem_append_left _ (List.mem_filterMap.2 ⟨.tmp t,by simpa using hm,rfl⟩))
  | _=>rfl
 have hg:ic ops o.guard S.tmps=ic ops o.guard S'.tmps:=by
  cases hgd:o.guard with
  | none=>rfl
  | some g=>
   obtain⟨j,want⟩:=g
   simp only[ic]
   cases hd:(ops[j]?).bind (·.dst) with
   | none=>rfl
   | some d=>
    simp only[]
    rw[hx d (List.mem_append_right _ (by rw[hgd];simp[hd]))]
 rcases h with ⟨h1,h2,h3,h4,_⟩ | ⟨h1,h2,h3,h4⟩
 ·left
  refine⟨hg ▸ h1,λa b=>by rw[h2 a,ho b],?_⟩
  by_cases ht:e.t=0
  ·exact xQ hev (h4 ht S'.objs _ ⟨rfl,ht.symm,λ_=>rfl,λc=>absurd ht c⟩)
  ·have:=xQ hev (h3 (λr ai t=>r=e.r∧t=e.t∧(e.t=0→ai=S'.objs)∧(e.t≠0→ai=e.objs)) ⟨rfl,rfl,λc=>absurd c ht,λ_=>rfl⟩)
   rw[ho ht]at this
   exact this
 ·exact .inr ⟨hg ▸ h1,h2,h4⟩
theorem UX{own:Nat→Bool}{ops:List Oper}{ts:List Nat}{ms:List Nat}{tr:List Ip}{S0:St}(hD:∀t,fB P t (D t))(hok:QR ops ts ms)
  (hts:∀i,i<ops.length→ts.getD i 0=(aP tr i).t)
  (hst:∀i o,ops[i]?=some o→rO P D (own i) ops o (l7 ops tr S0 (λ_=>true) i) (aP tr i))
  {X:Nat→Bool}{i:Nat}{o:Oper}(ho:ops[i]?=some o) (hX:X i=false) (hcl:∀j,j<ops.length→X j=true→∀x,(ms.getD j 0).testBit x=true→X x=true)
  (hrd:∀x,(ms.getD i 0).testBit x=true→X x=true)
  {base ah:Nat→Prop}{w0:Wz}{blk:Nat→Option Nat}{a:Act}{w:World}(R:Rel base ah w0 (l7 ops tr S0 X ops.length) blk a w)
  {Q:Exit→Act→World→Prop}{K:Act→World→Prop}(hK:∀ak a' w',Rel base ah w0 (l7 ops tr S0 (upd X i) ops.length) ak a' w'→K a' w') :
  wpOpIn (Ba l) 0 P ops.toArray Q i K a w:=by
 have hi:i<ops.length:=(List.getElem?_eq_some_iff.1 ho).1
 have hdst:qj ops i=o.dst:=by simp[qj,ho]
 have Lg:∀j,j<ops.length→∃p,ops[j]?=some p∧qj ops j=p.dst:=λj hj=>⟨ops[j],List.getElem?_eq_getElem hj,by simp[qj,List.getElem?_eq_getElem hj]⟩
 have before:∀j p,ops[j]?=some p→j<i→clash p.dst o.dst (fO ops p) (fO ops o) (co (ts.getD j 0)) (co (ts.getD i 0))=true→X j=true:=
  λj p hp hj hc=>hrd j (hok.ord i o j p ho hp hj hc)
 have behind:∀j p,ops[j]?=some p→i<j→clash o.dst p.dst (fO ops o) (fO ops p) (co (ts.getD i 0)) (co (ts.getD j 0))=true→X j=false:=λj p hp hj hc=>by
  cases hx:X j with
  | false=>rfl
  | true=>
   have:=hcl j (List.getElem?_eq_some_iff.1 hp).1 hx i (hok.ord j p i o hp ho hj hc)
   rw[hX]at this;cases this
 have Tn:∀x∈fO ops o,(l7 ops tr S0 (λ_=>true) i).tmps.getD x .dead=(l7 ops tr S0 X ops.length).tmps.getD x .dead:=by
  intro x hx
  simp only[l7]
  rw[←CY (dst:=qj ops) ops.length S0.tmps (Nat.le_of_lt hi)]
  refine F6 _ _ λj hj hd=>?_
  obtain⟨p,hp,WW⟩:=Lg j hj
  rw[WW]at hd
  rcases Nat.lt_trichotomy j i with hji | hji | hji
  ·rw[before j p hp hji (F9 hd hx)];simp[hji]
  ·subst hji;rw[hX];simp
  ·rw[behind j p hp hji (D9 hd hx)];simp;omega
 have m_:(aP tr i).t≠0→(l7 ops tr S0 (λ_=>true) i).objs=(l7 ops tr S0 X ops.length).objs:=by
  intro ht
  simp only[l7]
  rw[←J2 ops.length S0.objs (Nat.le_of_lt hi)]
  refine pX _ _ λj hj h2=>?_
  obtain⟨p,hp,WW⟩:=Lg j hj
  rcases Nat.lt_trichotomy j i with hji | hji | hji
  ·rw[before j p hp hji (Tm (by rw[hts j hj];exact h2) (by rw[hts i hi];exact Tj ht))];simp[hji]
  ·subst hji;rw[hX];simp
  ·rw[behind j p hp hji (WV (by rw[hts j hj];exact h2) (by rw[hts i hi];exact Tj ht))];simp;omega
 have hadd:pI o.dst (aP tr i).r (l7 ops tr S0 X ops.length).tmps=(l7 ops tr S0 (upd X i) ops.length).tmps:=by
  simp only[l7]
  rw[←hdst]
  refine Lb _ _ hi hX λj hj hjn hxj x hx hd=>?_
  obtain⟨p,hp,WW⟩:=Lg j hjn
  rw[WW]at hd
  rw[hdst]at hx
  have:=behind j p hp hj (J3 hx hd)
  rw[this]at hxj;cases hxj
 have aaF:(l7 ops tr S0 (upd X i) ops.length).objs=if co (aP tr i).t=2 then (aP tr i).objs else (l7 ops tr S0 X ops.length).objs:=by
  simp only[l7]
  split
  ·rename_i ht
   refine Lc _ _ hi ht λj hj hjn hxj hj2=>?_
   obtain⟨p,hp,WW⟩:=Lg j hjn
   have:=behind j p hp hj (Tm (by rw[hts i hi];exact ht) (by rw[hts j hjn,hj2];decide))
   rw[this]at hxj;cases hxj
  ·rename_i ht
   refine pX _ _ λj hj h2=>?_
   have hne:j≠i:=λe=>ht (e ▸ h2)
   simp[upd,hne]
 have hput:∀ai,(ai=(l7 ops tr S0 (upd X i) ops.length).objs)→St.put ⟨(l7 ops tr S0 X ops.length).tmps,ai⟩ o.dst (aP tr i).r=l7 ops tr S0 (upd X i) ops.length:=by
  rintro ai rfl
  cases hd:o.dst with
  | none=>rw[hd]at hadd;simp only[pI]at hadd;simp only[St.put];rw[hadd]
  | some d=>rw[hd]at hadd;simp only[pI]at hadd;simp only[St.put];rw[hadd]
 unfold wpOpIn
 have h0:ops.toArray[i]?=some o:=by simpa using ho
 rw[h0]
 simp only[]
 rcases Lf (hst i o ho) Tn m_ with ⟨h1,h2,h3⟩ | ⟨h1,h2,h3⟩
 ·rw[if_pos (pG R h1)]
  refine Be l hD R h3 λr ai t v w' ak hr R' hv=>?_
  obtain⟨rfl,rfl,e0,e1⟩:=hr
  have:=R'.put hv o.dst
  rw[hput ai (by
   rw[aaF]
   split
   ·rename_i ht;exact e1 (λhz=>by rw[hz]at ht;exact absurd ht (by decide))
   ·rename_i ht
    by_cases hz:(aP tr i).t=0
    ·exact e0 hz
    ·rw[e1 hz];exact h2 ht hz)]at this
  exact hK _ _ _ this
 ·rw[if_neg (by rw[pG R h1];simp)]
  refine⟨λ_ _=>trivial,?_⟩
  have:=R.put (xR w _ _ blk) o.dst
  rw[←h2]at this
  have hs:=hput (l7 ops tr S0 X ops.length).objs (by rw[aaF,if_neg (by rw[h3];decide)])
  rw[show (l7 ops tr S0 X ops.length).put o.dst (aP tr i).r=St.put ⟨(l7 ops tr S0 X ops.length).tmps,(l7 ops tr S0 X ops.length).objs⟩ o.dst (aP tr i).r from rfl,hs]at this
  exact hK _ _ _ this
theorem F_{own:Nat→Bool}{ops:List Oper}{ts:List Nat}{ms:List Nat}{tr:List Ip}{S0:St}(hD:∀t,fB P t (D t))(hok:QR ops ts ms)
  (hts:∀i,i<ops.length→ts.getD i 0=(aP tr i).t)
  (hst:∀i o,ops[i]?=some o→rO P D (own i) ops o (l7 ops tr S0 (λ_=>true) i) (aP tr i))
  {base ah:Nat→Prop}{w0:Wz}{Q:Exit→Act→World→Prop}
  (hQ:∀ak a' w',Rel base ah w0 (l7 ops tr S0 (λ_=>true) ops.length) ak a' w'→Q .normal a' w') :
  ∀(fuel:Nat) (L:Array Bool) (blk:Nat→Option Nat) (a:Act) (w:World),L.size=ops.length→
   (∀j,j<ops.length→L.getD j false=true→∀x,(ms.getD j 0).testBit x=true→L.getD x false=true)→cnt (λj=>L.getD j false) ops.length≤fuel→
   Rel base ah w0 (l7 ops tr S0 (λj=>L.getD j false) ops.length) blk a w→wpAnyIn (Ba l) 0 P .any ops.toArray Q fuel L a w:=by
 have full:∀(L:Array Bool),L.size=ops.length→Region.ready .any ops.toArray L=[]→∀i,i<ops.length→L.getD i false=true:=by
  intro L hsz hr i
  induction i using Nat.strongRecOn with
  | _ i ih=>
   intro hi
   cases hx:L.getD i false with
   | true=>rfl
   | false=>
    have hmem:i∈Region.ready .any ops.toArray L:=by
     simp only[Region.ready,List.mem_filter,List.mem_range,Bool.and_eq_true]
     refine⟨by simpa using hi,?_,?_⟩
     ·have hil:i<L.size:=by omega
      rw[Array.getD_eq_getD_getElem?,Array.getElem?_eq_getElem hil,getD_some]at hx ⊢
      rw[hx];rfl
     ·have ho:ops.toArray[i]?=some ops[i]:=by simp[hi]
      rw[ho]
      simp only[map_some,getD_some]
      rw[Array.all_eq_true']
      intro e he
      cases hbd:Region.binds .any e with
      | false=>simp
      | true=>
       have hb:=hok.back i ops[i] (List.getElem?_eq_getElem hi) e (by simpa using he) hbd
       rw[ih e.on hb (by omega)];simp
    rw[hr]at hmem
    simp at hmem
 have step:∀(L:Array Bool) (i:Nat),L.size=ops.length→i∈Region.ready .any ops.toArray L→∃o,ops[i]?=some o∧L.getD i false=false∧∀e∈o.after.toList,Region.binds .any e=true→L.getD e.on false=true:=by
  intro L i hsz hm
  simp only[Region.ready,List.mem_filter,List.mem_range,Bool.and_eq_true]at hm
  obtain⟨hi,h1,h2⟩:=hm
  have hi:i<ops.length:=by simpa using hi
  have ho:ops.toArray[i]?=some ops[i]:=by simp[hi]
  rw[ho]at h2
  simp only[map_some,getD_some]at h2
  rw[Array.all_eq_true']at h2
  refine⟨ops[i],List.getElem?_eq_getElem hi,?_,λe he hb=>?_⟩
  ·have hil:i<L.size:=by omega
   rw[Array.getD_eq_getD_getElem?,Array.getElem?_eq_getElem hil,getD_some]at h1 ⊢
   simpa using h1
  ·have:=h2 e (by simpa using he)
   rw[hb]at this
   simpa using this
 intro fuel
 induction fuel with
 | zero=>
  intro L blk a w hsz hcl hc R
  have hall:=F7 (X:=λj=>L.getD j false) ops.length (by omega)
  have hst':l7 ops tr S0 (λj=>L.getD j false) ops.length=l7 ops tr S0 (λ_=>true) ops.length:=by
   simp only[l7];rw[nO ops.length _ hall,pX ops.length _ λj hj _=>hall j hj]
  refine⟨?_,hQ blk a w (hst' ▸ R)⟩
  cases hr:Region.ready .any ops.toArray L with
  | nil=>rfl
  | cons i is=>
   obtain⟨o,ho,hx,_⟩:=step L i hsz (by rw[hr];exact List.mem_cons_self)
   rw[hall i (List.getElem?_eq_some_iff.1 ho).1]at hx
   cases hx
 | succ fuel ih=>
  intro L blk a w hsz hcl hc R
  refine⟨λhr=>?_,λi hm=>?_⟩
  ·have hall:=full L hsz hr
   have hst':l7 ops tr S0 (λj=>L.getD j false) ops.length=l7 ops tr S0 (λ_=>true) ops.length:=by
    simp only[l7];rw[nO ops.length _ hall,pX ops.length _ λj hj _=>hall j hj]
   exact hQ blk a w (hst' ▸ R)
  ·obtain⟨o,ho,hx,hrd⟩:=step L i hsz hm
   have hi:i<ops.length:=(List.getElem?_eq_some_iff.1 ho).1
   have WX:∀x,(ms.getD i 0).testBit x=true→L.getD x false=true:=by
    intro x hb
    obtain⟨e,h1,h2,h3⟩:=hok.mask i o ho x hb
    have he:=hrd e h1 h2
    rcases h3 with rfl | h3
    ·exact he
    ·exact hcl e.on (by have:=hok.back i o ho e h1 h2;omega) he x h3
   have WY:∀j,(L.setIfInBounds i true).getD j false=upd (λj=>L.getD j false) i j:=by
    intro j
    rw[Array.getD_eq_getD_getElem?,Array.getElem?_setIfInBounds]
    simp only[upd]
    by_cases hij:i=j
    ·subst hij
     rw[if_pos rfl,if_pos (by omega)];simp
    ·rw[if_neg hij,Array.getD_eq_getD_getElem?]
     have:(j==i)=false:=by simp;omega
     rw[this,Bool.or_false]
   have hfun:(λj=>(L.setIfInBounds i true).getD j false)=upd (λj=>L.getD j false) i:=funext WY
   refine UX (X:=λj=>L.getD j false) hD hok hts hst ho hx hcl WX R λak a' w' R'=>?_
   refine ih _ ak a' w' (by simpa using hsz) ?_ ?_ (by rw[hfun];exact R')
   ·intro j hj hb x hbx
    rw[WY]at hb ⊢
    simp only[upd,Bool.or_eq_true,beq_iff_eq]at hb ⊢
    rcases hb with hb | rfl
    ·exact .inl (hcl j hj hb x hbx)
    ·exact .inl (WX x hbx)
   ·rw[hfun]
    have:=Ld (X:=λj=>L.getD j false) ops.length hi hx
    omega
theorem PW.draw {E:Env}{id:Nat}{ops:List Oper}{Q:Exit→St→Prop}{S:St}(own:Nat→Bool)(hD:∀t,fB P t (D t))(hm:P.follows .mixedOrders=true)
  (h:pq P D own ops ops 0 S [] λS' ts=>rP ops ts=true∧Q .normal S'):PW P l E (.region id ops.toArray true) Q S:=by
 intro base ah V hE blk a w ⟨w0,hV,R⟩
 obtain⟨tr,S',h1,h2,h3⟩:=mJ _ _ _ _ _ h
 obtain⟨h4,h5⟩:=wB (S0:=S) (tr0:=tr) ops 0 S tr S' h1 (λj=>by simp) (λj=>by simp) rfl
 refine wpIn_region_any hm ?_
 have R':Rel base ah w0 S blk a { w with drawn:=w.drawn+1 }:=R.grew (.same rfl)
 have hR:∀(L:Array Bool),(∀j,L.getD j false=false)→l7 ops tr S (λj=>L.getD j false) ops.length=S:=by
  intro L hL
  have e1:∀n tm,F5 (qj ops) (aP tr) (λj=>L.getD j false) n tm=tm:=by
   intro n tm
   induction n with
   | zero=>rfl
   | succ n ih=>simp only[F5];rw[if_neg (by rw[hL n];simp)];exact ih
  have e2:∀n ob,oN (aP tr) (λj=>L.getD j false) n ob=ob:=by
   intro n ob
   induction n with
   | zero=>rfl
   | succ n ih=>simp only[oN];rw[if_neg (by rw[hL n];simp)];exact ih
  simp only[l7,e1,e2]
 have hcn:∀(X:Nat→Bool) n,cnt X n≤n:=by
  intro X n
  induction n with
  | zero=>exact Nat.le_refl _
  | succ n ih=>simp only[cnt];split<;>omega
 have hrep:∀j,(Array.replicate ops.toArray.size false).getD j false=false:=by
  intro j
  rw[Array.getD_eq_getD_getElem?,Array.getElem?_replicate]
  split<;>rfl
 have hts:∀i,i<ops.length→(tr.map (·.t)).getD i 0=(aP tr i).t:=by
  intro i hi
  have hl:tr.length=ops.length:=by
   clear h2 h3 h4 h5 h
   have:∀(qJ:List Oper) (k:Nat) (S:St) (tr:List Ip) (S':St),Trace P D own ops qJ k S tr S'→tr.length=qJ.length:=by
    intro qJ
    induction qJ with
    | nil=>rintro k S tr S' ⟨rfl,_⟩;rfl
    | cons o qJ ih=>
     rintro k S tr S' ⟨e,tr',rfl,_,h⟩
     simp[ih _ _ _ _ h]
   exact this _ _ _ _ _ h1
  have hil:i<tr.length:=by omega
  simp[aP,List.getD_eq_getElem?_getD,List.getElem?_map,List.getElem?_eq_getElem hil]
 rw[Nat.zero_add]at h5
 subst h5
 have hc:=hcn (λj=>(Array.replicate ops.toArray.size false).getD j false) ops.length
 have hsz:ops.toArray.size=ops.length:=by simp
 have hrs:(Array.replicate ops.toArray.size false).size=ops.length:=by simp
 have hQ:∀ak a' w',Rel base ah w0 (l7 ops tr S (λ_=>true) ops.length) ak a' w'→∃S' jc,Q .normal S'∧jO base ah V S' jc a' w':=
  λak a' w' R''=>⟨_,ak,h3,w0,hV,R''⟩
 have R1:Rel base ah w0 (l7 ops tr S (λj=>(Array.replicate ops.toArray.size false).getD j false) ops.length) blk a { w with drawn:=w.drawn+1 }:=by rw[hR _ hrep];exact R'
 have hcl:∀j,j<ops.length→(Array.replicate ops.toArray.size false).getD j false=true→∀x,((masks ops []).getD j 0).testBit x=true→(Array.replicate ops.toArray.size false).getD x false=true:=by
  intro j _ hb
  rw[hrep]at hb;cases hb
 have h2':rP ops (tr.map (·.t))=true:=h2
 generalize Array.replicate ops.toArray.size false=L at *
 exact F_ (Q:=λe a' w'=>∃S' ak,Q e S'∧jO base ah V S' ak a' w') hD (wz h2') hts (λi o ho=>h4 i o (Nat.zero_le _) ho) hQ ops.toArray.size L blk a _ hrs hcl (by rw[hsz];exact hc) R1
end Lp
namespace Lp
open Go
open List (all_eq_true mem_range)
open Nat (le_of_lt le_trans sub_self)
open Bool (and_eq_true or_eq_true)
open Option (getD_some map_some)
variable {P:Program}{D:TypeId→aD}{l:Option Nat}
def hole:Obj:=⟨0,0,[],false,0⟩
section
variable {base ah:Nat→Prop}{w0:Wz}{blk:Nat→Option Nat}{a:Act}{w:World}
theorem Bh{ok:Nat→Prop}{objs:List Obj}{cs:List PV}{vs:List Value}(h:bG (aV w ok objs blk) cs vs):cs.all (PV.mE objs.length)=true:=by
 rw[all_eq_true]
 intro p hp
 obtain⟨i,hi,rfl⟩:=List.getElem_of_mem hp
 exact oF (h.2 i _ _ (List.getElem?_eq_getElem hi) (List.getElem?_eq_getElem (by rw[←h.1];exact hi)))
theorem NQ{ok:Nat→Prop}{objs:List Obj}{p:PV}{v:Value}(h:aO w ok objs blk p v):p.lt objs.length=true:=by
 cases p with
 | fn f a c=>obtain⟨_,_,_,h1,h2⟩:=h;simp only[PV.lt,Bh h1,Bh h2,Bool.and_self]
 | bY cs=>obtain⟨_,_,h1⟩:=h;simp only[PV.lt,Bh h1]
 | agg cs=>obtain⟨_,_,h1⟩:=h;simp only[PV.lt,Bh h1]
 | aS k ver=>exact oF (w:=w) (ok:=ok) (p:=.aS k ver) (v:=v) h
 | bf k ver i f=>exact oF (w:=w) (ok:=ok) (p:=.bf k ver i f) (v:=v) h
 | fM k ver=>exact oF (w:=w) (ok:=ok) (p:=.fM k ver) (v:=v) h
 | _=>rfl
theorem Rel.holes {S:St}(R:Rel base ah w0 S blk a w):∀n:Nat,∃ak,Rel base ah w0 ⟨S.tmps,S.objs++List.replicate n hole⟩ ak a w
 | 0=>⟨blk,by simpa using R⟩
 | n+1=>by
  obtain⟨ak,R'⟩:=R.holes n
  have h:=R'.CS (o1:=hole) (gb:=none) (kr.refl w) (λg hg=>by cases hg) λ_=>by
   unfold bB aF
   rw[if_pos rfl]
   rfl
  rw[List.replicate_succ',←List.append_assoc]
  exact⟨_,h⟩
theorem Rel.fill {tm:List PV}{O:List Obj}{o1:Obj}{k:Nat}{w':World}{ak:Nat→Option Nat}(R:Rel base ah w0 ⟨tm,O⟩ blk a w)(hk:O[k]?=some hole)(hl:o1.live=true)(hv:o1.ver=1)
  (R':Rel base ah w0 ⟨tm,O++[o1]⟩ ak a w') (hn:DY O (O++[o1])){mk:Nat→PV}(hm:Mk mk){v:Value}(hr:aO w' (aZ base (O++[o1]) ak) (O++[o1]) ak (mk O.length) v) :
  ∃dI,Rel base ah w0 ⟨tm,O.set k o1⟩ dI a w'∧aO w' (aZ base (O.set k o1) dI) (O.set k o1) dI (mk k) v:=by
 have hkl:=(List.getElem?_eq_some_iff.1 hk).1
 obtain⟨dI,hb2⟩:∃dI:Nat→Option Nat,dI=λj=>if j=k then ak O.length else ak j:=⟨_,rfl⟩
 have bk:dI k=ak O.length:=by rw[hb2];simp
 have bo:∀j,j≠k→dI j=ak j:=λj hj=>by rw[hb2];simp[hj]
 have IE:(O++[o1])[O.length]?=some o1:=by simp
 have UY:∀j o,O[j]?=some o→(O++[o1])[j]?=some o:=λj o h=>by
  rw[List.getElem?_append_left (List.getElem?_eq_some_iff.1 h).1];exact h
 have gk:(O.set k o1)[k]?=some o1:=by rw[List.getElem?_set];simp[hkl]
 have go:∀j,j≠k→(O.set k o1)[j]?=O[j]?:=λj hj=>by rw[List.getElem?_set,if_neg (λe=>hj e.symm)]
 have hlive:∀(j:Nat) (o:Obj),(O.set k o1)[j]?=some o→o.live=true→∃j',(O++[o1])[j']?=some o∧ak j'=dI j∧((j=k∧j'=O.length)∨(j≠k∧j'=j∧j<O.length)):=by
  intro j o h1 h2
  by_cases hj:j=k
  ·subst hj
   rw[gk]at h1;cases h1
   exact⟨O.length,IE,bk.symm,.inl ⟨rfl,rfl⟩⟩
  ·rw[go j hj]at h1
   exact⟨j,UY j o h1,(bo j hj).symm,.inr ⟨hj,rfl,(List.getElem?_eq_some_iff.1 h1).1⟩⟩
 have hnl:∀b,aK (O++[o1]) ak b→aK (O.set k o1) dI b:=by
  intro b h j o h1 h2 h3
  obtain⟨j',g1,g2,_⟩:=hlive j o h1 h2
  exact h j' o g1 h2 (by rw[g2];exact h3)
 have hok:∀b,aZ base (O++[o1]) ak b→aZ base (O.set k o1) dI b:=λb h=>⟨h.1,hnl b h.2⟩
 have hS:∀(p:PV) (u:Value),p.mE O.length=true→aV w' (aZ base (O++[o1]) ak) (O++[o1]) ak p u→aV w' (aZ base (O.set k o1) dI) (O.set k o1) dI p u:=by
  intro p u hp h
  have hm':∀q:PV,cu w' (aZ base (O++[o1]) ak) q u→cu w' (aZ base (O.set k o1) dI) q u:=λq hq=>hq.mono (Nat.le_refl _) (λb _ hb=>hok b hb) (λ_ _ _ h=>h)
  cases p with
  | aS j ver=>
   have hj:j<O.length:=by simpa[PV.mE] using hp
   obtain⟨h0,o,g1,g2,g3⟩:=h
   rw[List.getElem?_append_left hj]at g1
   by_cases hjk:j=k
   ·subst hjk
    rw[hk]at g1;cases g1
    refine⟨h0,o1,gk,by rw[hv];exact le_trans g2 (by decide),λ_ e=>?_⟩
    have:ver≤0:=g2
    omega
   ·refine⟨h0,o,by rw[go j hjk];exact g1,g2,λe1 e2=>?_⟩
    obtain⟨hM,this⟩:=g3 e1 e2
    refine⟨hM,?_⟩
    unfold vL at this ⊢
    rw[bo j hjk];exact this
  | bf j ver i f=>
   have hj:j<O.length:=by simpa[PV.mE] using hp
   obtain⟨h0,o,g1,g2,g3⟩:=h
   rw[List.getElem?_append_left hj]at g1
   by_cases hjk:j=k
   ·subst hjk
    rw[hk]at g1;cases g1
    refine⟨h0,o1,gk,by rw[hv];exact le_trans g2 (by decide),λ_ e=>?_⟩
    have:ver≤0:=g2
    omega
   ·refine⟨h0,o,by rw[go j hjk];exact g1,g2,λe1 e2=>?_⟩
    rw[bo j hjk];exact g3 e1 e2
  | fM j ver=>
   have hj:j<O.length:=by simpa[PV.mE] using hp
   obtain⟨h0,o,g1,g2,g3⟩:=h
   rw[List.getElem?_append_left hj]at g1
   by_cases hjk:j=k
   ·subst hjk
    rw[hk]at g1;cases g1
    refine⟨h0,o1,gk,by rw[hv];exact le_trans g2 (by decide),λ_ e=>?_⟩
    have:ver≤0:=g2
    omega
   ·refine⟨h0,o,by rw[go j hjk];exact g1,g2,λe1 e2=>?_⟩
    rw[bo j hjk];exact g3 e1 e2
  | _=>exact hm' _ h
 have Ze:∀(cs:List PV) (us:List Value),cs.all (PV.mE O.length)=true→bG (aV w' (aZ base (O++[o1]) ak) (O++[o1]) ak) cs us→bG (aV w' (aZ base (O.set k o1) dI) (O.set k o1) dI) cs us:=
  λcs us hc h=>⟨h.1,λi p u h1 h2=>hS p u (all_eq_true.1 hc p (List.mem_of_getElem? h1)) (h.2 i p u h1 h2)⟩
 have hT:∀(p:PV) (u:Value),p.lt O.length=true→aO w' (aZ base (O++[o1]) ak) (O++[o1]) ak p u→aO w' (aZ base (O.set k o1) dI) (O.set k o1) dI p u:=by
  intro p u hp h
  cases p with
  | fn f a c=>
   simp only[PV.lt,and_eq_true]at hp
   obtain⟨va,vc,rfl,h1,h2⟩:=h
   exact⟨va,vc,rfl,Ze _ _ hp.1 h1,Ze _ _ hp.2 h2⟩
  | bY cs=>obtain⟨us,rfl,h1⟩:=h;exact⟨us,rfl,Ze _ _ hp h1⟩
  | agg cs=>obtain⟨us,rfl,h1⟩:=h;exact⟨us,rfl,Ze _ _ hp h1⟩
  | aS j ver=>exact hS (.aS j ver) u hp h
  | bf j ver i f=>exact hS (.bf j ver i f) u hp h
  | fM j ver=>exact hS (.fM j ver) u hp h
  | _=>exact .dS (hS _ u rfl (by exact h))
 have tZ:∀(j j':Nat) (o:Obj),bB w' (aZ base (O++[o1]) ak) (O++[o1]) ak j' o→ak j'=dI j→(∀x∈o.xs,∀p∈x.cells,∀u,aV w' (aZ base (O++[o1]) ak) (O++[o1]) ak p u→aV w' (aZ base (O.set k o1) dI) (O.set k o1) dI p u)→
     bB w' (aZ base (O.set k o1) dI) (O.set k o1) dI j o:=by
  intro j j' o h e ht
  unfold bB at h ⊢
  rw[←e]
  cases hb:ak j' with
  | none=>rw[hb]at h;exact h
  | some g=>
   rw[hb]at h
   obtain⟨c,x1,x2,x3⟩:=h
   refine⟨c,x1,x2,λi x hx=>⟨(x3 i x hx).1,λq p hp=>?_⟩⟩
   obtain⟨u,y1,y2⟩:=(x3 i x hx).2 q p hp
   exact⟨u,y1,ht x (List.mem_of_getElem? hx) p (List.mem_of_getElem? hp) u y2⟩
 refine⟨dI,⟨R'.oC.mono (λb _ h=>⟨hok b h.1,h.2⟩) (λ_ _ _ h=>h),R'.EB,λt p hp=>hT p _ (NQ (R.tm t p hp)) (R'.tm t p hp),⟨?_,?_,?_⟩,R'.pr,R'.fr,R'.gr,R'.pb,λx hx=>hT _ _ (NQ (R.ext x hx)) (R'.ext x hx),R'.yQ,R'.sm,R'.gl⟩,?_⟩
 ·intro j o h1 h2
  obtain⟨j',g1,g2,hc⟩:=hlive j o h1 h2
  have h3:=R'.objs.ob j' o g1 h2
  refine tZ j j' o h3 g2 λx hx p hp u hu=>?_
  rcases hc with ⟨rfl,rfl⟩ | ⟨hj,_,hjl⟩
  ·rw[gk]at h1;cases h1
   exact hS p u (hn o1 rfl x hx p hp) hu
  ·
   rw[go j hj]at h1
   have h4:=R.objs.ob j o h1 h2
   have hlt:p.mE O.length=true:=by
    obtain⟨i,hi,rfl⟩:=List.getElem_of_mem hx
    obtain⟨q,hq,rfl⟩:=List.getElem_of_mem hp
    unfold bB at h4
    cases hb:blk j with
    | none=>rw[hb]at h4;simp[h4]at hi
    | some g=>
     rw[hb]at h4
     obtain⟨c,_,_,x3⟩:=h4
     obtain⟨u',_,y2⟩:=(x3 i _ (List.getElem?_eq_getElem hi)).2 q _ (List.getElem?_eq_getElem hq)
     exact oF y2
   exact hS p u hlt hu
 ·intro j1 j2 q1 q2 g hne h1 h2 h3 h4 h5
  obtain⟨i1,a1,a2,a3⟩:=hlive j1 q1 h1 h2
  obtain⟨i2,b1,b2,b3⟩:=hlive j2 q2 h3 h4
  rw[←a2]at h5
  rw[←b2]
  refine R'.objs.zV i1 i2 q1 q2 g ?_ a1 h2 b1 h4 h5
  rcases a3 with ⟨rfl,rfl⟩ | ⟨_,rfl,_⟩<;>rcases b3 with ⟨rfl,rfl⟩ | ⟨_,rfl,_⟩<;>first | exact absurd rfl hne | omega
 ·intro j o g h1 h2 h3
  obtain⟨j',g1,g2,_⟩:=hlive j o h1 h2
  rw[←g2]at h3
  exact R'.objs.np j' o g g1 h2 h3
 ·rcases hm with rfl | rfl | rfl
  ·obtain⟨h0,o,g1,g2,g3⟩:=hr
   rw[IE]at g1;cases g1
   refine⟨h0,o1,gk,g2,λe1 e2=>?_⟩
   obtain⟨hM,this⟩:=g3 e1 e2
   refine⟨hM,?_⟩
   unfold vL at this ⊢
   rw[bk];exact this
  ·obtain⟨h0,o,g1,g2,g3⟩:=hr
   rw[IE]at g1;cases g1
   refine⟨h0,o1,gk,g2,λe1 e2=>?_⟩
   rw[bk];exact g3 e1 e2
  ·obtain⟨h0,o,g1,g2,g3⟩:=hr
   rw[IE]at g1;cases g1
   refine⟨h0,o1,gk,g2,λe1 e2=>?_⟩
   rw[bk];exact g3 e1 e2
end
def Lh(t:Nat):Option Nat:=if 5≤t∧t % 2=1 then some ((t-5) / 2) else none
theorem QS(k:Nat):Lh (5+2*k)=some k:=by
 unfold Lh;rw[if_pos (by omega)];congr 1;omega
theorem WZ(k:Nat):Lh (4+2*k)=none:=by unfold Lh;rw[if_neg (by omega)]
theorem NR:Lh 0=none:=rfl
def zX(tj ti:Nat):Bool:=decide (4≤tj) && decide (4≤ti) && (tj-4) / 2==(ti-4) / 2 && (tj % 2==1 || ti % 2==1)
theorem CZ{tj ti k:Nat}(h:(Lh tj=some k∧(ti=4+2*k∨ti=5+2*k))∨(Lh ti=some k∧(tj=4+2*k∨tj=5+2*k))):zX tj ti=true:=by
 have key:∀t,Lh t=some k→t=5+2*k:=by
  intro t ht
  unfold Lh at ht
  split at ht
  ·simp only[Option.some.injEq]at ht;omega
  ·cases ht
 unfold zX
 simp only[and_eq_true,decide_eq_true_eq,or_eq_true,beq_iff_eq]
 rcases h with ⟨h1,h2 | h2⟩ | ⟨h1,h2 | h2⟩<;>have:=key _ h1<;>omega
def Bj(t:Nat):Bool:=t==0 || decide (4≤t)
theorem D_{t:Nat}(h:Bj t=true):t=0∨(∃k,t=4+2*k)∨∃k,t=5+2*k:=by
 simp only[Bj,or_eq_true,beq_iff_eq,decide_eq_true_eq]at h
 rcases h with h | h
 ·exact .inl h
 ·rcases Nat.mod_two_eq_zero_or_one t with e | e
  ·exact .inr (.inl ⟨(t-4) / 2,by omega⟩)
  ·exact .inr (.inr ⟨(t-5) / 2,by omega⟩)
structure Li (ops:List Oper) (ts:List Nat) (ms:List Nat) (b:Nat):Prop where
 fine:∀i,i<ops.length→i<b→Bj (ts.getD i 0)=true
 bl:b≤ops.length
 two:b<ops.length→ts.getD b 0=2
 bar:b<ops.length→∀j,j<b→ts.getD j 0≠0→(ms.getD b 0).testBit j=true
 rest:∀i,i<ops.length→b<i→ts.getD i 0=0
 back:∀(i:Nat) (o:Oper),ops[i]?=some o→∀e∈o.after.toList,Region.binds .any e=true→e.on<i
 mask:∀(i:Nat) (o:Oper),ops[i]?=some o→∀j,(ms.getD i 0).testBit j=true→∃e∈o.after.toList,Region.binds .any e=true∧(j=e.on∨(ms.getD e.on 0).testBit j=true)
 ord:∀(i:Nat) (o:Oper) (j:Nat) (p:Oper),ops[i]?=some o→ops[j]?=some p→j<i→(clash p.dst o.dst (fO ops p) (fO ops o) 0 0 || zX (ts.getD j 0) (ts.getD i 0))=true→(ms.getD i 0).testBit j=true
section
variable {en:Nat→Ip}
def Bl(en:Nat→Ip)(X:Nat→Bool):Nat→List Obj→List Obj
 | 0,ob=>ob
 | n+1,ob=>if X n then (match Lh (en n).t with
  | some k=>(Bl en X n ob).set k ((en n).objs.getD k hole)
  | none=>Bl en X n ob) else Bl en X n ob
theorem ql(X:Nat→Bool):∀(n:Nat) (ob:List Obj),(Bl en X n ob).length=ob.length
 | 0,_=>rfl
 | n+1,ob=>by
  simp only[Bl]
  split
  ·split
   ·rw[List.length_set,ql X n ob]
   ·exact ql X n ob
  ·exact ql X n ob
theorem sD{X Y:Nat→Bool}:∀(n:Nat) (ob:List Obj),(∀j,j<n→X j=Y j)→Bl en X n ob=Bl en Y n ob
 | 0,_,_=>rfl
 | n+1,ob,h=>by simp only[Bl];rw[h n (by omega),sD n ob (λj hj=>h j (by omega))]
theorem Lj{X Y:Nat→Bool}{k:Nat}:∀(n:Nat) (ob:List Obj),(∀j,j<n→Lh (en j).t=some k→X j=Y j)→(Bl en X n ob)[k]?=(Bl en Y n ob)[k]?
 | 0,_,_=>rfl
 | n+1,ob,h=>by
  have ih:=Lj (X:=X) (Y:=Y) (k:=k) n ob (λj hj=>h j (by omega))
  have hl:(Bl en X n ob).length=(Bl en Y n ob).length:=by rw[ql,ql]
  simp only[Bl]
  cases hw:Lh (en n).t with
  | none=>simp only[];split<;>split<;>exact ih
  | some k'=>
   simp only[]
   by_cases hk:k'=k
   ·subst hk
    rw[h n (by omega) hw]
    split
    ·rw[List.getElem?_set,List.getElem?_set];simp[hl]
    ·exact ih
   ·split<;>split<;> (try rw[List.getElem?_set,if_neg hk])<;> (try rw[List.getElem?_set,if_neg hk])<;>exact ih
theorem J4{i:Nat}:∀(n:Nat) (ob:List Obj),i≤n→Bl en (λj=>decide (j<i)) n ob=Bl en (λ_=>true) i ob
 | 0,_,h=>by have:i=0:=by omega
             subst this;rfl
 | n+1,ob,h=>by
  by_cases hi:i=n+1
  ·subst hi
   exact sD (n+1) ob λj hj=>by simp[hj]
  ·simp only[Bl]
   rw[if_neg (by simp;omega)]
   exact J4 n ob (by omega)
theorem Tp{X:Nat→Bool}{i k:Nat}:∀(n:Nat) (ob:List Obj),i<n→X i=false→Lh (en i).t=some k→(∀j,i<j→j<n→X j=true→Lh (en j).t≠some k)→
  Bl en (upd X i) n ob=(Bl en X n ob).set k ((en i).objs.getD k hole)
 | 0,_,h,_,_,_=>by omega
 | n+1,ob,hi,hx,hw,hd=>by
  simp only[Bl]
  by_cases hin:i=n
  ·subst hin
   simp only[hx,upd,beq_self_eq_true,Bool.or_true,if_true,Bool.false_eq_true,if_false,hw]
   rw[sD (en:=en) (X:=upd X i) (Y:=X) i ob (λj hj=>by simp[upd];omega)]
  ·have hu:upd X i n=X n:=by simp[upd];omega
   rw[hu]
   have ih:=Tp (X:=X) n ob (by omega) hx hw (λj h1 h2=>hd j h1 (by omega))
   split
   ·rename_i hn
    have:=hd n (by omega) (by omega) hn
    split
    ·rename_i k' hk'
     rw[hk']at this
     have hne:k≠k':=λe=>this (by rw[e])
     rw[ih,List.set_comm _ _ hne]
    ·exact ih
   ·exact ih
theorem NS{X:Nat→Bool}{i:Nat}:∀(n:Nat) (ob:List Obj),Lh (en i).t=none→Bl en (upd X i) n ob=Bl en X n ob
 | 0,_,_=>rfl
 | n+1,ob,hw=>by
  have ih:=NS (X:=X) n ob hw
  simp only[Bl]
  by_cases hin:n=i
  ·subst hin
   rw[hw,ih]
   simp
  ·have hu:upd X i n=X n:=by simp[upd,hin]
   rw[hu,ih]
end
def sF(ops:List Oper)(tr:List Ip)(S:St)(A b:Nat)(X:Nat→Bool):St:=⟨F5 (qj ops) (aP tr) X ops.length S.tmps,if (decide (b<ops.length) && X b)=true then (aP tr b).objs else Bl (aP tr) X b (S.objs++List.replicate A hole)⟩
theorem Tq{own:Nat→Bool}{ops:List Oper}{tr:List Ip}{S0:St}(hst:∀i o,ops[i]?=some o→rO P D (own i) ops o (l7 ops tr S0 (λ_=>true) i) (aP tr i))
  {b:Nat}(hbl:b≤ops.length) (hf:∀i,i<ops.length→i<b→Bj (aP tr i).t=true):∀i,i<b→(oN (aP tr) (λ_=>true) i S0.objs).length≤(oN (aP tr) (λ_=>true) (i+1) S0.objs).length∧
   ((Lh (aP tr i).t=none∧oN (aP tr) (λ_=>true) (i+1) S0.objs=oN (aP tr) (λ_=>true) i S0.objs)∨
    ∃k o1,Lh (aP tr i).t=some k∧(aP tr i).objs.getD k hole=o1∧
     ((k<(oN (aP tr) (λ_=>true) i S0.objs).length∧oN (aP tr) (λ_=>true) (i+1) S0.objs=(oN (aP tr) (λ_=>true) i S0.objs).set k o1)∨
      (k=(oN (aP tr) (λ_=>true) i S0.objs).length∧oN (aP tr) (λ_=>true) (i+1) S0.objs=oN (aP tr) (λ_=>true) i S0.objs++[o1]))):=by
 intro i hib
 have hi:i<ops.length:=by omega
 have h:=hst i ops[i] (List.getElem?_eq_getElem hi)
 have hfi:=hf i hi hib
 have m_:(l7 ops tr S0 (λ_=>true) i).objs=oN (aP tr) (λ_=>true) i S0.objs:=rfl
 have hX:oN (aP tr) (λ_=>true) (i+1) S0.objs=if co (aP tr i).t=2 then (aP tr i).objs else oN (aP tr) (λ_=>true) i S0.objs:=by
  simp only[oN,Bool.true_and,beq_iff_eq]
 rcases h with ⟨_,_,_,_,zC⟩ | ⟨_,_,_,h4⟩
 ·rw[m_]at zC
  rcases D_ hfi with h0 | ⟨k,hk⟩ | ⟨k,hk⟩
  ·rw[hX,h0,if_neg (by decide)]
   exact⟨Nat.le_refl _,.inl ⟨NR,rfl⟩⟩
  ·rw[hX,hk,aaD,if_neg (by decide)]
   exact⟨Nat.le_refl _,.inl ⟨WZ k,rfl⟩⟩
  ·rw[hX,if_pos (by rw[hk];exact Ti k)]
   rcases zC.wr k hk with ⟨o1,g1,g2,_⟩ | ⟨g1,o1,mk,_,_,g2,_⟩
   ·rw[g2]
    refine⟨by simp,.inr ⟨k,o1,by rw[hk];exact QS k,?_,.inl ⟨g1,rfl⟩⟩⟩
    rw[List.getD_eq_getElem?_getD,List.getElem?_set];simp[g1]
   ·rw[g2]
    refine⟨by simp,.inr ⟨k,o1,by rw[hk];exact QS k,?_,.inr ⟨g1,rfl⟩⟩⟩
    rw[List.getD_eq_getElem?_getD,g1];simp
 ·rw[hX,h4,if_neg (by decide)]
  exact⟨Nat.le_refl _,.inl ⟨NR,rfl⟩⟩
theorem Tt{own:Nat→Bool}{ops:List Oper}{tr:List Ip}{S0:St}{A:Nat}(hst:∀i o,ops[i]?=some o→rO P D (own i) ops o (l7 ops tr S0 (λ_=>true) i) (aP tr i))
  {b:Nat}(hbl:b≤ops.length) (hf:∀i,i<ops.length→i<b→Bj (aP tr i).t=true) (hA:(oN (aP tr) (λ_=>true) b S0.objs).length=S0.objs.length+A) :
  ∀i,i≤b→(oN (aP tr) (λ_=>true) i S0.objs).length≤S0.objs.length+A∧
   Bl (aP tr) (λ_=>true) i (S0.objs++List.replicate A hole)=oN (aP tr) (λ_=>true) i S0.objs++List.replicate (S0.objs.length+A-(oN (aP tr) (λ_=>true) i S0.objs).length) hole:=by
 have one:=Tq hst hbl hf
 have mono:∀d i,i+d=b→(oN (aP tr) (λ_=>true) i S0.objs).length≤S0.objs.length+A:=by
  intro d
  induction d with
  | zero=>intro i hi;rw[Nat.add_zero]at hi;rw[hi,hA];exact Nat.le_refl _
  | succ d ih=>intro i hi;exact le_trans (one i (by omega)).1 (ih (i+1) (by omega))
 intro i
 induction i with
 | zero=>intro _;exact⟨by simp[oN],by simp[Bl,oN]⟩
 | succ i ih=>
  intro hi
  obtain⟨h1,h2⟩:=ih (by omega)
  have hle:=mono (b-(i+1)) (i+1) (by omega)
  refine⟨hle,?_⟩
  simp only[Bl,if_true]
  rcases (one i (by omega)).2 with ⟨g1,g2⟩ | ⟨k,o1,g1,g0,⟨g2,g3⟩ | ⟨g2,g3⟩⟩
  ·rw[g1,g2];exact h2
  ·rw[g1]
   simp only[]
   rw[g0,h2,g3,List.set_append_left _ _ g2,List.length_set]
  ·rw[g1]
   simp only[]
   rw[g3,List.length_append,List.length_singleton]at hle
   rw[g0,h2,g3,List.set_append_right _ _ (by omega),List.length_append,List.length_singleton]
   have:S0.objs.length+A-(oN (aP tr) (λ_=>true) i S0.objs).length=(S0.objs.length+A-((oN (aP tr) (λ_=>true) i S0.objs).length+1))+1:=by omega
   rw[this,List.replicate_succ,g2,sub_self,List.set_cons_zero,List.append_assoc]
   rfl
theorem QT{own:Nat→Bool}{ops:List Oper}{ts:List Nat}{ms:List Nat}{b:Nat}{tr:List Ip}{S0:St}{A:Nat}(hD:∀t,fB P t (D t))(hok:Li ops ts ms b)
  (hts:∀i,i<ops.length→ts.getD i 0=(aP tr i).t)
  (hst:∀i o,ops[i]?=some o→rO P D (own i) ops o (l7 ops tr S0 (λ_=>true) i) (aP tr i))
  (hA:(oN (aP tr) (λ_=>true) b S0.objs).length=S0.objs.length+A)
  {X:Nat→Bool}{i:Nat}{o:Oper}(ho:ops[i]?=some o) (hX:X i=false) (hcl:∀j,j<ops.length→X j=true→∀x,(ms.getD j 0).testBit x=true→X x=true)
  (hrd:∀x,(ms.getD i 0).testBit x=true→X x=true)
  {base ah:Nat→Prop}{w0:Wz}{blk:Nat→Option Nat}{a:Act}{w:World}(R:Rel base ah w0 (sF ops tr S0 A b X) blk a w)
  {Q:Exit→Act→World→Prop}{K:Act→World→Prop}(hK:∀ak a' w',Rel base ah w0 (sF ops tr S0 A b (upd X i)) ak a' w'→K a' w') :
  wpOpIn (Ba l) 0 P ops.toArray Q i K a w:=by
 have hi:i<ops.length:=(List.getElem?_eq_some_iff.1 ho).1
 have hbl:=hok.bl
 have hdst:qj ops i=o.dst:=by simp[qj,ho]
 have Lg:∀j,j<ops.length→∃p,ops[j]?=some p∧qj ops j=p.dst:=λj hj=>⟨ops[j],List.getElem?_eq_getElem hj,by simp[qj,List.getElem?_eq_getElem hj]⟩
 have hf:∀j,j<ops.length→j<b→Bj (aP tr j).t=true:=λj hj hb=>by rw[←hts j hj];exact hok.fine j hj hb
 have before:∀j p,ops[j]?=some p→j<i→(clash p.dst o.dst (fO ops p) (fO ops o) 0 0 || zX (aP tr j).t (aP tr i).t)=true→X j=true:=
  λj p hp hj hc=>hrd j (hok.ord i o j p ho hp hj (by rw[hts j (List.getElem?_eq_some_iff.1 hp).1,hts i hi];exact hc))
 have behind:∀j p,ops[j]?=some p→i<j→(clash o.dst p.dst (fO ops o) (fO ops p) 0 0 || zX (aP tr i).t (aP tr j).t)=true→X j=false:=λj p hp hj hc=>by
  cases hx:X j with
  | false=>rfl
  | true=>
   have hjl:=(List.getElem?_eq_some_iff.1 hp).1
   have:=hcl j hjl hx i (hok.ord j p i o hp ho hj (by rw[hts j hjl,hts i hi];exact hc))
   rw[hX]at this;cases this
 have Tn:∀x∈fO ops o,(l7 ops tr S0 (λ_=>true) i).tmps.getD x .dead=(sF ops tr S0 A b X).tmps.getD x .dead:=by
  intro x hx
  simp only[l7,sF]
  rw[←CY (dst:=qj ops) ops.length S0.tmps (le_of_lt hi)]
  refine F6 _ _ λj hj hd=>?_
  obtain⟨p,hp,WW⟩:=Lg j hj
  rw[WW]at hd
  rcases Nat.lt_trichotomy j i with hji | hji | hji
  ·rw[before j p hp hji (by rw[F9 hd hx];rfl)];simp[hji]
  ·subst hji;rw[hX];simp
  ·rw[behind j p hp hji (by rw[D9 hd hx];rfl)];simp;omega
 have hadd:pI o.dst (aP tr i).r (sF ops tr S0 A b X).tmps=(sF ops tr S0 A b (upd X i)).tmps:=by
  simp only[sF]
  rw[←hdst]
  refine Lb _ _ hi hX λj hj hjn hxj x hx hd=>?_
  obtain⟨p,hp,WW⟩:=Lg j hjn
  rw[WW]at hd
  rw[hdst]at hx
  have:=behind j p hp hj (by rw[J3 hx hd];rfl)
  rw[this]at hxj;cases hxj
 obtain⟨T,hT⟩:∃T,T=oN (aP tr) (λ_=>true) i S0.objs:=⟨_,rfl⟩
 obtain⟨B,hB⟩:∃B,B=(sF ops tr S0 A b X).objs:=⟨_,rfl⟩
 have hnb:(aP tr i).t=0∨i<b→i≠b:=λh e=>by
  rcases h with h | h
  ·have:=hok.two (by omega)
   rw[←e,hts i hi,h]at this;cases this
  ·omega
 have W9:i≠b→Lh (aP tr i).t=none→(sF ops tr S0 A b (upd X i)).objs=B:=λhne hw=>by
  rw[hB]
  have hu:upd X i b=X b:=by simp[upd];omega
  simp only[sF,hu,NS _ _ hw]
 have hput:∀ai,(ai=(sF ops tr S0 A b (upd X i)).objs)→St.put ⟨(sF ops tr S0 A b X).tmps,ai⟩ o.dst (aP tr i).r=sF ops tr S0 A b (upd X i):=by
  rintro ai rfl
  cases hd:o.dst with
  | none=>rw[hd]at hadd;simp only[pI]at hadd;simp only[St.put];rw[hadd]
  | some d=>rw[hd]at hadd;simp only[pI]at hadd;simp only[St.put];rw[hadd]
 have NT:(sF ops tr S0 A b X).objs=B:=hB.symm
 have hTo:(l7 ops tr S0 (λ_=>true) i).objs=T:=hT.symm
 have hev:∀x∈o.op.operands,(l7 ops tr S0 (λ_=>true) i).ev x=(sF ops tr S0 A b X).ev x:=by
  intro x hm
  cases x with
  | tmp t=>exact Tn t (List.mem_append_left _ (List.mem_filterMap.2 ⟨.tmp t,by simpa using hm,rfl⟩))
  | _=>rfl
 have hg:ic ops o.guard (l7 ops tr S0 (λ_=>true) i).tmps=ic ops o.guard (sF ops tr S0 A b X).tmps:=by
  cases hgd:o.guard with
  | none=>rfl
  | some g=>
   obtain⟨j,want⟩:=g
   simp only[ic]
   cases hd:(ops[j]?).bind (·.dst) with
   | none=>rfl
   | some d=>
    simp only[]
    rw[Tn d (List.mem_append_right _ (by rw[hgd];simp[hd]))]
 unfold wpOpIn
 have h0:ops.toArray[i]?=some o:=by simpa using ho
 rw[h0]
 simp only[]
 rcases hst i o ho with ⟨h1,_,hall,h4,zC⟩ | ⟨h1,h2,_,h3⟩
 ·rw[hg]at h1
  rw[if_pos (pG R h1)]
  rw[hTo]at zC hall
  have run:∀(O2:List Obj) (r2:PV),(∀K:KT,(∀t,K r2 O2 t)→Io P D (own i) (l7 ops tr S0 (λ_=>true) i).ev B o.op K)→r2=(aP tr i).r→O2=(sF ops tr S0 A b (upd X i)).objs→
      o.wpIn (Ba l) 0 P a w K Q:=by
   intro O2 r2 hop hr2 hO2
   have h5:=xQ hev (hop (λr ai _=>r=r2∧ai=O2) (λ_=>⟨rfl,rfl⟩))
   rw[←NT]at h5
   refine Be l hD R h5 λr ai t v w' ak hr R' hv=>?_
   obtain⟨rfl,rfl⟩:=hr
   have:=R'.put hv o.dst
   rw[hr2,hput ai hO2]at this
   exact hK _ _ _ this
  have zero:(aP tr i).t=0→o.wpIn (Ba l) 0 P a w K Q:=λht=>run B _ (λK hk=>h4 ht B K (hk 0)) rfl (W9 (hnb (.inl ht)) (by rw[ht];rfl)).symm
  rcases Nat.lt_trichotomy i b with hib | hib | hib
  rotate_left 1
  ·
   subst hib
   have hBT:B=T:=by
    rw[hB]
    simp only[sF,hX,Bool.and_false,Bool.false_eq_true,if_false]
    obtain⟨_,W_⟩:=Tt hst hbl hf hA i (Nat.le_refl _)
    rw[hA,sub_self,List.replicate_zero,List.append_nil]at W_
    rw[hT,←W_]
    refine List.ext_getElem? λk=>Lj _ _ λj hj hw=>?_
    refine hrd j (hok.bar hi j hj λhz=>?_)
    rw[hts j (by omega)]at hz
    rw[hz]at hw;cases hw
   refine run (aP tr i).objs _ (λK hk=>by rw[hBT];exact hall K (hk _)) rfl ?_
   simp[sF,upd,hi]
  ·exact zero (by rw[←hts i hi];exact hok.rest i hi hib)
  by_cases hXb:(decide (b<ops.length) && X b)=true
  ·
   refine zero (Decidable.of_not_not λhz=>?_)
   simp only[and_eq_true,decide_eq_true_eq]at hXb
   have:=hcl b hXb.1 hXb.2 i (hok.bar hXb.1 i hib (by rw[hts i hi];exact hz))
   rw[hX]at this;cases this
  have hBe:B=Bl (aP tr) X b (S0.objs++List.replicate A hole):=by
   rw[hB];simp only[sF];rw[if_neg hXb]
  obtain⟨hle,W_⟩:=Tt hst hbl hf hA i (le_of_lt hib)
  rw[←hT]at hle W_
  have slot:∀k,((aP tr i).t=4+2*k∨(aP tr i).t=5+2*k)→B[k]?=(T++List.replicate (S0.objs.length+A-T.length) hole)[k]?:=by
   intro k hk
   rw[hBe,←W_,←J4 b _ (le_of_lt hib)]
   refine Lj _ _ λj hj hw=>?_
   obtain⟨p,hp,WW⟩:=Lg j (by omega)
   rcases Nat.lt_trichotomy j i with hji | hji | hji
   ·rw[before j p hp hji (by rw[CZ (.inl ⟨hw,hk⟩),Bool.or_true])];simp[hji]
   ·subst hji;rw[hX];simp
   ·rw[behind j p hp hji (by rw[CZ (.inr ⟨hw,hk⟩),Bool.or_true])];simp;omega
  have hwr:∀k,Lh (aP tr i).t=some k→((aP tr i).t=4+2*k∨(aP tr i).t=5+2*k)→(sF ops tr S0 A b (upd X i)).objs=B.set k ((aP tr i).objs.getD k hole):=by
   intro k hw hk
   have hu:upd X i b=X b:=by simp[upd];omega
   simp only[sF,hu]
   rw[if_neg hXb,hBe]
   refine Tp _ _ hib hX hw λj hj hjn hxj hwj=>?_
   obtain⟨p,hp,WW⟩:=Lg j (by omega)
   have:=behind j p hp hj (by rw[CZ (.inr ⟨hwj,hk⟩),Bool.or_true])
   rw[this]at hxj;cases hxj
  rcases D_ (hf i hi hib) with ht | ⟨k,hk⟩ | ⟨k,hk⟩
  ·exact zero ht
  ·obtain⟨_,g1,g2⟩:=zC.rd k hk
   have hs:=slot k (.inl hk)
   rw[List.getElem?_append_left g1]at hs
   exact run B _ (λK hk'=>g2 B K hs (hk' _)) rfl (W9 (by omega) (by rw[hk];exact WZ k)).symm
  ·have hs:=slot k (.inr hk)
   have hw:=hwr k (by rw[hk];exact QS k) (.inr hk)
   rcases zC.wr k hk with ⟨o1,g1,g2,g3⟩ | ⟨g1,o1,mk,hm,gr,g2,hl1,hv1,g3⟩
   ·rw[List.getElem?_append_left g1]at hs
    have hc:(aP tr i).objs.getD k hole=o1:=by
     rw[g2,List.getD_eq_getElem?_getD,List.getElem?_set];simp[g1]
    exact run (B.set k o1) _ (λK hk'=>g3 B K hs (hk' _)) rfl (by rw[hw,hc])
   ·have hc:(aP tr i).objs.getD k hole=o1:=by
      rw[g2,List.getD_eq_getElem?_getD,g1];simp
    have hlen:(oN (aP tr) (λ_=>true) (i+1) S0.objs).length≤S0.objs.length+A:=(Tt hst hbl hf hA (i+1) hib).1
    have hX1:oN (aP tr) (λ_=>true) (i+1) S0.objs=T++[o1]:=by
     simp only[oN,Bool.true_and,beq_iff_eq]
     rw[if_pos (by rw[hk];exact Ti k),g2]
    rw[hX1,List.length_append,List.length_singleton]at hlen
    have acK:B[k]?=some hole:=by
     rw[hs,g1,List.getElem?_append_right (Nat.le_refl _),sub_self,List.getElem?_replicate,if_pos (by omega)]
    have h5:=xQ hev (g3 B (λr ai _=>r=mk B.length∧ai=B++[o1]) ⟨rfl,rfl⟩)
    rw[←NT]at h5
    refine JY l hD R h5 λr ai t v w' ak hr R' hv hn=>?_
    obtain⟨rfl,rfl⟩:=hr
    rw[NT]at R' hv hn
    have R0:Rel base ah w0 ⟨(sF ops tr S0 A b X).tmps,B⟩ blk a w:=by rw[←NT];exact R
    obtain⟨dI,R2,hv2⟩:=R0.fill acK hl1 hv1 R' hn hm hv
    have:=R2.put hv2 o.dst
    rw[←gr,hput _ (by rw[hw,hc])]at this
    exact hK _ _ _ this
 ·rw[hg]at h1
  rw[if_neg (by rw[pG R h1];simp)]
  refine⟨λ_ _=>trivial,?_⟩
  have:=R.put (xR w _ _ blk) o.dst
  rw[←h2]at this
  have hs:=hput (sF ops tr S0 A b X).objs (by rw[NT,W9 (hnb (.inl h3)) (by rw[h3];rfl)])
  rw[show (sF ops tr S0 A b X).put o.dst (aP tr i).r=St.put ⟨(sF ops tr S0 A b X).tmps,(sF ops tr S0 A b X).objs⟩ o.dst (aP tr i).r from rfl,hs]at this
  exact hK _ _ _ this
theorem NU{own:Nat→Bool}{ops:List Oper}{ts:List Nat}{ms:List Nat}{b:Nat}{tr:List Ip}{S0:St}{A:Nat}(hD:∀t,fB P t (D t))(hok:Li ops ts ms b)
  (hts:∀i,i<ops.length→ts.getD i 0=(aP tr i).t)
  (hst:∀i o,ops[i]?=some o→rO P D (own i) ops o (l7 ops tr S0 (λ_=>true) i) (aP tr i))
  (hA:(oN (aP tr) (λ_=>true) b S0.objs).length=S0.objs.length+A)
  {base ah:Nat→Prop}{w0:Wz}{Q:Exit→Act→World→Prop}
  (hQ:∀ak a' w',Rel base ah w0 (sF ops tr S0 A b (λ_=>true)) ak a' w'→Q .normal a' w') :
  ∀(fuel:Nat) (L:Array Bool) (blk:Nat→Option Nat) (a:Act) (w:World),L.size=ops.length→
   (∀j,j<ops.length→L.getD j false=true→∀x,(ms.getD j 0).testBit x=true→L.getD x false=true)→cnt (λj=>L.getD j false) ops.length≤fuel→
   Rel base ah w0 (sF ops tr S0 A b (λj=>L.getD j false)) blk a w→wpAnyIn (Ba l) 0 P .any ops.toArray Q fuel L a w:=by
 have full:∀(L:Array Bool),L.size=ops.length→Region.ready .any ops.toArray L=[]→∀i,i<ops.length→L.getD i false=true:=by
  intro L hsz hr i
  induction i using Nat.strongRecOn with
  | _ i ih=>
   intro hi
   cases hx:L.getD i false with
   | true=>rfl
   | false=>
    have hmem:i∈Region.ready .any ops.toArray L:=by
     simp only[Region.ready,List.mem_filter,mem_range,and_eq_true]
     refine⟨by simpa using hi,?_,?_⟩
     ·have hil:i<L.size:=by omega
      rw[Array.getD_eq_getD_getElem?,Array.getElem?_eq_getElem hil,getD_some]at hx ⊢
      rw[hx];rfl
     ·have ho:ops.toArray[i]?=some ops[i]:=by simp[hi]
      rw[ho]
      simp only[map_some,getD_some]
      rw[Array.all_eq_true']
      intro e he
      cases hbd:Region.binds .any e with
      | false=>simp
      | true=>
       have hb:=hok.back i ops[i] (List.getElem?_eq_getElem hi) e (by simpa using he) hbd
       rw[ih e.on hb (by omega)];simp
    rw[hr]at hmem
    simp at hmem
 have step:∀(L:Array Bool) (i:Nat),L.size=ops.length→i∈Region.ready .any ops.toArray L→∃o,ops[i]?=some o∧L.getD i false=false∧∀e∈o.after.toList,Region.binds .any e=true→L.getD e.on false=true:=by
  intro L i hsz hm
  simp only[Region.ready,List.mem_filter,mem_range,and_eq_true]at hm
  obtain⟨hi,h1,h2⟩:=hm
  have hi:i<ops.length:=by simpa using hi
  have ho:ops.toArray[i]?=some ops[i]:=by simp[hi]
  rw[ho]at h2
  simp only[map_some,getD_some]at h2
  rw[Array.all_eq_true']at h2
  refine⟨ops[i],List.getElem?_eq_getElem hi,?_,λe he hb=>?_⟩
  ·have hil:i<L.size:=by omega
   rw[Array.getD_eq_getD_getElem?,Array.getElem?_eq_getElem hil,getD_some]at h1 ⊢
   simpa using h1
  ·have:=h2 e (by simpa using he)
   rw[hb]at this
   simpa using this
 intro fuel
 induction fuel with
 | zero=>
  intro L blk a w hsz hcl hc R
  have hall:=F7 (X:=λj=>L.getD j false) ops.length (by omega)
  have hst':sF ops tr S0 A b (λj=>L.getD j false)=sF ops tr S0 A b (λ_=>true):=by
   have hbl:=hok.bl
   simp only[sF]
   rw[nO ops.length _ hall,sD b _ λj hj=>hall j (by omega)]
   by_cases hbb:b<ops.length
   ·have e:L.getD b false=true:=hall b hbb
    simp only[e]
   ·simp[hbb]
  refine⟨?_,hQ blk a w (hst' ▸ R)⟩
  cases hr:Region.ready .any ops.toArray L with
  | nil=>rfl
  | cons i is=>
   obtain⟨o,ho,hx,_⟩:=step L i hsz (by rw[hr];exact List.mem_cons_self)
   rw[hall i (List.getElem?_eq_some_iff.1 ho).1]at hx
   cases hx
 | succ fuel ih=>
  intro L blk a w hsz hcl hc R
  refine⟨λhr=>?_,λi hm=>?_⟩
  ·have hall:=full L hsz hr
   have hst':sF ops tr S0 A b (λj=>L.getD j false)=sF ops tr S0 A b (λ_=>true):=by
    have hbl:=hok.bl
    simp only[sF]
    rw[nO ops.length _ hall,sD b _ λj hj=>hall j (by omega)]
    by_cases hbb:b<ops.length
    ·have e:L.getD b false=true:=hall b hbb
     simp only[e]
    ·simp[hbb]
   exact hQ blk a w (hst' ▸ R)
  ·obtain⟨o,ho,hx,hrd⟩:=step L i hsz hm
   have hi:i<ops.length:=(List.getElem?_eq_some_iff.1 ho).1
   have WX:∀x,(ms.getD i 0).testBit x=true→L.getD x false=true:=by
    intro x hb
    obtain⟨e,h1,h2,h3⟩:=hok.mask i o ho x hb
    have he:=hrd e h1 h2
    rcases h3 with rfl | h3
    ·exact he
    ·exact hcl e.on (by have:=hok.back i o ho e h1 h2;omega) he x h3
   have WY:∀j,(L.setIfInBounds i true).getD j false=upd (λj=>L.getD j false) i j:=by
    intro j
    rw[Array.getD_eq_getD_getElem?,Array.getElem?_setIfInBounds]
    simp only[upd]
    by_cases hij:i=j
    ·subst hij
     rw[if_pos rfl,if_pos (by omega)];simp
    ·rw[if_neg hij,Array.getD_eq_getD_getElem?]
     have:(j==i)=false:=by simp;omega
     rw[this,Bool.or_false]
   have hfun:(λj=>(L.setIfInBounds i true).getD j false)=upd (λj=>L.getD j false) i:=funext WY
   refine QT (X:=λj=>L.getD j false) hD hok hts hst hA ho hx hcl WX R λak a' w' R'=>?_
   refine ih _ ak a' w' (by simpa using hsz) ?_ ?_ (by rw[hfun];exact R')
   ·intro j hj hb x hbx
    rw[WY]at hb ⊢
    simp only[upd,or_eq_true,beq_iff_eq]at hb ⊢
    rcases hb with hb | rfl
    ·exact .inl (hcl j hj hb x hbx)
    ·exact .inl (WX x hbx)
   ·rw[hfun]
    have:=Ld (X:=λj=>L.getD j false) ops.length hi hx
    omega
def uq(ops:List Oper)(ts:List Nat)(b:Nat):Bool:=
 let ms:=masks ops []
 let ls:=ops.map (fO ops)
 ((List.range ops.length).all λi=>if i<b then Bj (ts.getD i 0) else if i=b then ts.getD i 0==2 else ts.getD i 0==0) &&
 decide (b≤ops.length) &&
 (decide (b=ops.length) || (List.range b).all λj=>ts.getD j 0==0 || (ms.getD b 0).testBit j) &&
 (List.range ops.length).all λi=>
  match ops[i]? with
  | none=>true
  | some o=>
   (o.after.toList.all λe=>!Region.binds .any e || decide (e.on<i)) &&
   (ms.getD i 0 &&& qi ms o==ms.getD i 0) &&
   (List.range i).all λj=>
    !(clash ((ops[j]?).bind (·.dst)) o.dst (ls.getD j []) (ls.getD i []) 0 0 || zX (ts.getD j 0) (ts.getD i 0)) || (ms.getD i 0).testBit j
theorem Ll{ops:List Oper}{ts:List Nat}{b:Nat}(h:uq ops ts b=true):Li ops ts (masks ops []) b:=by
 unfold uq at h
 simp only[and_eq_true,all_eq_true,mem_range]at h
 obtain⟨⟨⟨zC,hbl⟩,hbar⟩,h⟩:=h
 have hbl:=of_decide_eq_true hbl
 have hh:∀i o,ops[i]?=some o→_:=λi o ho=>by
  have:=h i (List.getElem?_eq_some_iff.1 ho).1
  rw[ho]at this
  simp only[and_eq_true,all_eq_true,mem_range,beq_iff_eq]at this
  exact this
 refine⟨λi hi hb=>?_,hbl,λhb=>?_,λhb j hj hz=>?_,λi hi hb=>?_,λi o ho e he hb=>by simpa[hb] using (hh i o ho).1.1 e he,λi o ho j hj=>?_,λi o j p ho hp hji hc=>?_⟩
 ·have:=zC i hi;rwa[if_pos hb]at this
 ·have:=zC b hb
  rw[if_neg (by omega),if_pos rfl]at this
  simpa using this
 ·simp only[or_eq_true,decide_eq_true_eq,all_eq_true,mem_range,beq_iff_eq]at hbar
  rcases hbar with hbar | hbar
  ·omega
  ·rcases hbar j hj with h1 | h1
   ·exact absurd h1 hz
   ·exact h1
 ·have:=zC i hi
  rw[if_neg (by omega),if_neg (by omega)]at this
  simpa using this
 ·refine F8 ?_
  have h2:=(hh i o ho).1.2
  rw[←h2,Nat.testBit_and]at hj
  simp only[and_eq_true]at hj
  exact hj.2
 ·have h3:=(hh i o ho).2 j hji
  have hlt:=(List.getElem?_eq_some_iff.1 hp).1
  have e1:(ops.map (fO ops)).getD j []=fO ops p:=by rw[List.getD_eq_getElem?_getD,List.getElem?_map,hp];rfl
  have e2:(ops.map (fO ops)).getD i []=fO ops o:=by rw[List.getD_eq_getElem?_getD,List.getElem?_map,ho];rfl
  rw[e1,e2,hp]at h3
  simp only[Option.bind_some,hc,Bool.not_true,Bool.false_or]at h3
  exact h3
theorem acL{ops:List Oper}{Q:Exit→St→Prop}{S:St}(own:Nat→Bool)(hD:∀t,fB P t (D t))
  (h:pq P D own ops ops 0 S [] λS' ts=>(rP ops ts=true∨∃b,uq ops ts b=true)∧Q .normal S'){base ah:Nat→Prop}{V:Wz→Prop}{blk:Nat→Option Nat}{a:Act}{w:World}(hR:jO base ah V S blk a w) :
  wpAnyIn (Ba l) 0 P .any ops.toArray (λe a' w'=>∃S' ak,Q e S'∧jO base ah V S' ak a' w') ops.toArray.size (Array.replicate ops.toArray.size false) a w:=by
 obtain⟨w0,hV,R'⟩:=hR
 obtain⟨tr,S',h1,h2,h3⟩:=mJ _ _ _ _ _ h
 obtain⟨h4,h5⟩:=wB (S0:=S) (tr0:=tr) ops 0 S tr S' h1 (λj=>by simp) (λj=>by simp) rfl
 have hcn:∀(X:Nat→Bool) n,cnt X n≤n:=by
  intro X n
  induction n with
  | zero=>exact Nat.le_refl _
  | succ n ih=>simp only[cnt];split<;>omega
 have hrep:∀j,(Array.replicate ops.toArray.size false).getD j false=false:=by
  intro j
  rw[Array.getD_eq_getD_getElem?,Array.getElem?_replicate]
  split<;>rfl
 have htr:tr.length=ops.length:=by
  clear h2 h3 h4 h5 h
  have:∀(qJ:List Oper) (k:Nat) (S:St) (tr:List Ip) (S':St),Trace P D own ops qJ k S tr S'→tr.length=qJ.length:=by
   intro qJ
   induction qJ with
   | nil=>rintro k S tr S' ⟨rfl,_⟩;rfl
   | cons o qJ ih=>
    rintro k S tr S' ⟨e,tr',rfl,_,h⟩
    simp[ih _ _ _ _ h]
  exact this _ _ _ _ _ h1
 have hts:∀i,i<ops.length→(tr.map (·.t)).getD i 0=(aP tr i).t:=by
  intro i hi
  have hil:i<tr.length:=by omega
  simp[aP,List.getD_eq_getElem?_getD,List.getElem?_map,List.getElem?_eq_getElem hil]
 rw[Nat.zero_add]at h5
 subst h5
 have hst:∀i o,ops[i]?=some o→rO P D (own i) ops o (l7 ops tr S (λ_=>true) i) (aP tr i):=λi o ho=>h4 i o (Nat.zero_le _) ho
 have hc:=hcn (λj=>(Array.replicate ops.toArray.size false).getD j false) ops.length
 have hsz:ops.toArray.size=ops.length:=by simp
 have hrs:(Array.replicate ops.toArray.size false).size=ops.length:=by simp
 have hQ:∀ak a' w',Rel base ah w0 (l7 ops tr S (λ_=>true) ops.length) ak a' w'→∃S' jc,Q .normal S'∧jO base ah V S' jc a' w':=
  λak a' w' R''=>⟨_,ak,h3,w0,hV,R''⟩
 have hcl:∀j,j<ops.length→(Array.replicate ops.toArray.size false).getD j false=true→∀x,((masks ops []).getD j 0).testBit x=true→(Array.replicate ops.toArray.size false).getD x false=true:=by
  intro j _ hb
  rw[hrep]at hb;cases hb
 have e1:∀(L:Array Bool),(∀j,L.getD j false=false)→∀n tm,F5 (qj ops) (aP tr) (λj=>L.getD j false) n tm=tm:=by
  intro L hL n tm
  induction n with
  | zero=>rfl
  | succ n ih=>simp only[F5];rw[if_neg (by rw[hL n];simp)];exact ih
 rcases h2 with h2 | ⟨b,h2⟩
 ·have hR:∀(L:Array Bool),(∀j,L.getD j false=false)→l7 ops tr S (λj=>L.getD j false) ops.length=S:=by
    intro L hL
    have e2:∀n ob,oN (aP tr) (λj=>L.getD j false) n ob=ob:=by
     intro n ob
     induction n with
     | zero=>rfl
     | succ n ih=>simp only[oN];rw[if_neg (by rw[hL n];simp)];exact ih
    simp only[l7,e1 L hL,e2]
  have R1:Rel base ah w0 (l7 ops tr S (λj=>(Array.replicate ops.toArray.size false).getD j false) ops.length) blk a w:=by rw[hR _ hrep];exact R'
  have h2':rP ops (tr.map (·.t))=true:=h2
  generalize Array.replicate ops.toArray.size false=L at *
  exact F_ (Q:=λe a' w'=>∃S' ak,Q e S'∧jO base ah V S' ak a' w') hD (wz h2') hts hst hQ ops.toArray.size L blk a _ hrs hcl (by rw[hsz];exact hc) R1
 ·have h2':=Ll h2
  have hbl:=h2'.bl
  have hf:∀i,i<ops.length→i<b→Bj (aP tr i).t=true:=λi hi hb=>by rw[←hts i hi];exact h2'.fine i hi hb
  have mono:∀i,i≤b→S.objs.length≤(oN (aP tr) (λ_=>true) i S.objs).length:=by
   intro i
   induction i with
   | zero=>intro _;exact Nat.le_refl _
   | succ i ih=>intro hi;exact le_trans (ih (by omega)) (Tq hst hbl hf i (by omega)).1
  obtain⟨A,hA⟩:∃A,(oN (aP tr) (λ_=>true) b S.objs).length=S.objs.length+A:=⟨(oN (aP tr) (λ_=>true) b S.objs).length-S.objs.length,by have:=mono b (Nat.le_refl _);omega⟩
  obtain⟨Xa,R0⟩:=R'.holes A
  have hR:∀(L:Array Bool),(∀j,L.getD j false=false)→sF ops tr S A b (λj=>L.getD j false)=⟨S.tmps,S.objs++List.replicate A hole⟩:=by
   intro L hL
   have e2:∀n ob,Bl (aP tr) (λj=>L.getD j false) n ob=ob:=by
    intro n ob
    induction n with
    | zero=>rfl
    | succ n ih=>simp only[Bl];rw[if_neg (by rw[hL n];simp)];exact ih
   simp only[sF,e1 L hL,e2,hL b,Bool.and_false,Bool.false_eq_true,if_false]
  have R1:Rel base ah w0 (sF ops tr S A b (λj=>(Array.replicate ops.toArray.size false).getD j false)) Xa a w:=by rw[hR _ hrep];exact R0
  have hend:sF ops tr S A b (λ_=>true)=l7 ops tr S (λ_=>true) ops.length:=by
   have h1:=(Tt hst hbl hf hA b (Nat.le_refl _)).2
   rw[hA,sub_self,List.replicate_zero,List.append_nil]at h1
   have up:∀d n,b+1≤n→n+d=ops.length→oN (aP tr) (λ_=>true) ops.length S.objs=oN (aP tr) (λ_=>true) n S.objs:=by
    intro d
    induction d with
    | zero=>intro n _ hd;rw[←hd];rfl
    | succ d ih=>
     intro n hn hd
     rw[ih (n+1) (by omega) (by omega)]
     have hz:(aP tr n).t=0:=by rw[←hts n (by omega)];exact h2'.rest n (by omega) (by omega)
     simp only[oN,hz]
     rw[if_neg (by decide)]
   simp only[sF,l7,Bool.and_true,decide_eq_true_eq]
   by_cases hbb:b<ops.length
   ·rw[if_pos hbb,up (ops.length-(b+1)) (b+1) (Nat.le_refl _) (by omega)]
    have h22:(aP tr b).t=2:=by rw[←hts b hbb];exact h2'.two hbb
    simp only[oN,h22]
    rw[if_pos (by decide)]
   ·have:b=ops.length:=by omega
    subst this
    rw[if_neg hbb,h1]
  have hQ2:∀ak a' w',Rel base ah w0 (sF ops tr S A b (λ_=>true)) ak a' w'→∃S' jc,Q .normal S'∧jO base ah V S' jc a' w':=
   λak a' w' R''=>hQ ak a' w' (hend ▸ R'')
  generalize Array.replicate ops.toArray.size false=L at *
  exact NU (Q:=λe a' w'=>∃S' ak,Q e S'∧jO base ah V S' ak a' w') hD h2' hts hst hA hQ2 ops.toArray.size L Xa a _ hrs hcl (by rw[hsz];exact hc) R1
theorem PW.acM {E:Env}{id:Nat}{ops:List Oper}{Q:Exit→St→Prop}{S:St}(own:Nat→Bool)(hD:∀t,fB P t (D t))(hm:P.follows .mixedOrders=true)
  (h:pq P D own ops ops 0 S [] λS' ts=>(rP ops ts=true∨∃b,uq ops ts b=true)∧Q .normal S'):PW P l E (.region id ops.toArray true) Q S:=by
 intro base ah V hE blk a w ⟨w0,hV,R⟩
 exact wpIn_region_any hm (acL own hD h ⟨w0,hV,R.grew (.same rfl)⟩)
end Lp
namespace Lp
open Go
open List (map_congr_left map_id)
open Option (map_some)
def PV.bJ (f:PV→PV):PV→PV
 | .agg cs=>.agg (cs.map f)
 | p=>f p
theorem Bn{p:PV}(h:p.isAgg=false):p.cells=[p]:=by cases p<;>first | rfl | (simp[PV.isAgg]at h)
theorem mK{f:PV→PV}(hf:∀p,p.isAgg=false→(f p).isAgg=false)(x:PV):(x.bJ f).cells=x.cells.map f:=by
 cases hx:x.isAgg with
 | true=>
  cases x<;>simp[PV.isAgg]at hx
  rfl
 | false=>
  have:x.bJ f=f x:=by cases x<;>first | rfl | (simp[PV.isAgg]at hx)
  rw[this,Bn hx,Bn (hf x hx)]
  rfl
def kD:Nat→Nat→List Obj→PV→PV
 | 0,_,_,.aS ..=>.dead
 | 0,_,_,.bf ..=>.dead
 | _,_,_,.fM ..=>.dead
 | d+1,n,objs,.aS k ver=>
  match objs[k]? with
  | some o=>if decide (n≤k) && o.live && o.ver==ver then .sl o.sz (o.xs.map (PV.bJ (kD d n objs))) none else .dead
  | none=>.dead
 | d+1,n,objs,.bf k ver i f=>
  match objs[k]? with
  | some o=>if decide (n≤k) && o.live && o.ver==ver && f==0 then (match o.xs[i]? with | some x=>.addr (x.bJ (kD d n objs)) | none=>.dead) else .dead
  | none=>.dead
 | _,_,_,p=>p
def fA(d n:Nat)(objs:List Obj):PV→PV
 | .aS k ver=>if k<n then .aS k ver else kD d n objs (.aS k ver)
 | .bf k ver i f=>if k<n then .bf k ver i f else kD d n objs (.bf k ver i f)
 | .fM k ver=>if k<n then .fM k ver else .dead
 | p=>p
def jG(d n:Nat)(objs:List Obj):PV→PV
 | .fn f a c=>.fn f (a.map (fA d n objs)) (c.map (fA d n objs))
 | .bY cs=>.bY (cs.map (fA d n objs))
 | .agg cs=>.agg (cs.map (fA d n objs))
 | p=>fA d n objs p
def eO(d n:Nat)(objs:List Obj)(o:Obj):Obj:={ o with xs:=o.xs.map (PV.bJ (fA d n objs)) }
def St.freeze (d n:Nat)(S:St):St:=⟨S.tmps.map (jG d n S.objs),(S.objs.take n).map (eO d n S.objs)⟩
theorem Ga(d n:Nat)(objs:List Obj)(p:PV)(h:p.isAgg=false):(kD d n objs p).isAgg=false:=by
 cases d<;>cases p<;>simp only[kD]<;>first | rfl | exact h | (split<;>first | rfl | (split<;>first | rfl | (split<;>rfl)))
theorem Tv(d n:Nat)(objs:List Obj)(p:PV)(h:p.isAgg=false):(fA d n objs p).isAgg=false:=by
 cases p<;>simp only[fA]<;>first | rfl | exact h | (split<;>first | rfl | (exact Ga _ _ _ _ rfl))
section
variable {base ah:Nat→Prop}{w0:Wz}{S:St}{blk:Nat→Option Nat}{a:Act}{w:World}
theorem nP{d n k:Nat}{o':Obj}(h:(S.freeze d n).objs[k]?=some o'):k<n∧∃o,S.objs[k]?=some o∧o'=eO d n S.objs o:=by
 simp only[St.freeze,List.getElem?_map,List.getElem?_take]at h
 split at h
 ·rename_i hk
  cases ho:S.objs[k]? with
  | none=>rw[ho]at h;simp at h
  | some o=>rw[ho]at h;exact⟨hk,o,rfl,by simpa using h.symm⟩
 ·simp at h
theorem Gb{d n b:Nat}(h:aK S.objs blk b):aK (S.freeze d n).objs blk b:=by
 intro k o' ho' hl
 obtain⟨_,o,ho,rfl⟩:=nP ho'
 exact h k o ho hl
theorem xS{d n b:Nat}(h:aZ base S.objs blk b):aZ base (S.freeze d n).objs blk b:=⟨h.1,Gb h.2⟩
theorem Bo(R:Rel base ah w0 S blk a w){d n k g:Nat}{o:Obj}(hk:n≤k)(ho:S.objs[k]?=some o)(hl:o.live=true)(hg:blk k=some g):aZ base (S.freeze d n).objs blk g:=by
 refine⟨R.pb g (R.objs.np k o g ho hl hg),λk' o' ho' hl'=>?_⟩
 obtain⟨hk',o1,ho1,rfl⟩:=nP ho'
 exact R.objs.zV k k' o o1 g (by omega) ho hl ho1 hl' hg
theorem NV(R:Rel base ah w0 S blk a w)(d' n:Nat):∀(d:Nat) (p:PV) (v:Value),aV w (aZ base S.objs blk) S.objs blk p v→cu w (aZ base (S.freeze d' n).objs blk) (kD d n S.objs p) v:=by
 intro d
 induction d with
 | zero=>
  intro p v h
  have hm:∀q:PV,cu w (aZ base S.objs blk) q v→cu w (aZ base (S.freeze d' n).objs blk) q v:=λq hq=>hq.mono (Nat.le_refl _) (λb _ h=>xS h) (λ_ _ _ h=>h)
  cases p<;>simp only[kD]<;>first | exact .dead v | exact hm _ h
 | succ d ih=>
  intro p v h
  have hm:∀q:PV,cu w (aZ base S.objs blk) q v→cu w (aZ base (S.freeze d' n).objs blk) q v:=λq hq=>hq.mono (Nat.le_refl _) (λb _ h=>xS h) (λ_ _ _ h=>h)
  cases p
  case aS k ver=>
   obtain⟨_,o,ho,_,h3⟩:=h
   simp only[kD,ho]
   split
   ·rename_i hc
    simp only[Bool.and_eq_true,decide_eq_true_eq,beq_iff_eq]at hc
    obtain⟨⟨hn,hl⟩,hv⟩:=hc
    obtain⟨hM,hh⟩:=h3 hl hv
    have hb:=R.objs.ob k o ho hl
    unfold vL at hh
    unfold bB at hb
    cases hg:blk k with
    | none=>
     rw[hg]at hh
     obtain⟨rfl,hx⟩:=hh
     rw[hx]
     exact .slnil _ _ (by simp)
    | some g=>
     rw[hg]at hh hb
     obtain⟨cap,c,rfl,hc,h4,h5,h6⟩:=hh
     obtain⟨c',hc',h7,h8⟩:=hb
     rw[jv hM,hc]at hc'
     cases hc'
     have hlen:(o.xs.map (PV.bJ (kD d n S.objs))).length=o.xs.length:=by simp
     rw[←hlen]
     have hel:∀(i:Nat) (x:PV),(o.xs.map (PV.bJ (kD d n S.objs)))[i]?=some x→∃x0,o.xs[i]?=some x0∧x.cells=x0.cells.map (kD d n S.objs):=by
      intro i x hx
      rw[List.getElem?_map]at hx
      cases h0:o.xs[i]? with
      | none=>rw[h0]at hx;simp at hx
      | some x0=>
       rw[h0]at hx
       simp only[map_some,Option.some.injEq]at hx
       subst hx
       exact⟨x0,rfl,mK (Ga _ _ _) x0⟩
     have hgl:g<w.heap.size:=(Array.getElem?_eq_some_iff.1 hc).1
     refine .sl _ _ _ (by simp) g 0 cap (λi j=>c.getD (i*o.sz+j) undef) (λ_=>⟨Bo R hn ho hl hg,hgl⟩) (by rw[hlen];exact h4) h5 ?_ ?_ ?_
     ·intro i x hx
      obtain⟨x0,hx0,e⟩:=hel i x hx
      rw[e,List.length_map];exact (h8 i x0 hx0).1
     ·intro i x j p hx hp
      obtain⟨x0,hx0,e⟩:=hel i x hx
      rw[e,List.getElem?_map]at hp
      cases hp0:x0.cells[j]? with
      | none=>rw[hp0]at hp;simp at hp
      | some p0=>
       obtain⟨u,hu,_⟩:=(h8 i x0 hx0).2 j p0 hp0
       have:0+i*o.sz+j=i*o.sz+j:=by omega
       unfold World.cell?
       simp only[hc,this]
       rw[Array.getD_eq_getD_getElem?,hu]
       rfl
     ·intro i x j p hx hp
      obtain⟨x0,hx0,e⟩:=hel i x hx
      rw[e,List.getElem?_map]at hp
      cases hp0:x0.cells[j]? with
      | none=>rw[hp0]at hp;simp at hp
      | some p0=>
       rw[hp0]at hp
       simp only[map_some,Option.some.injEq]at hp
       subst hp
       obtain⟨u,hu,hr⟩:=(h8 i x0 hx0).2 j p0 hp0
       rw[Array.getD_eq_getD_getElem?,hu]
       exact ih p0 u hr
   ·exact .dead v
  case bf k ver i f=>
   obtain⟨_,o,ho,_,h3⟩:=h
   simp only[kD,ho]
   split
   ·rename_i hc
    simp only[Bool.and_eq_true,decide_eq_true_eq,beq_iff_eq]at hc
    obtain⟨⟨⟨hn,hl⟩,hv⟩,rfl⟩:=hc
    obtain⟨hM,g,hg,rfl⟩:=h3 hl hv
    have hb:=R.objs.ob k o ho hl
    unfold bB at hb
    rw[hg]at hb
    obtain⟨c,hc,h7,h8⟩:=hb
    rw[jv hM]at hc
    have hgl:g<w.heap.size:=(Array.getElem?_eq_some_iff.1 hc).1
    cases hx:o.xs[i]? with
    | none=>exact .dead _
    | some x0=>
     have e:=mK (Ga d n S.objs) x0
     refine .addr _ g (i*o.sz+0) (λj=>c.getD (i*o.sz+j) undef) ⟨Bo R hn ho hl hg,hgl⟩ ?_ ?_
     ·intro j p hp
      rw[e,List.getElem?_map]at hp
      cases hp0:x0.cells[j]? with
      | none=>rw[hp0]at hp;simp at hp
      | some p0=>
       obtain⟨u,hu,_⟩:=(h8 i x0 hx).2 j p0 hp0
       unfold World.cell?
       simp only[hc,Nat.add_zero]
       rw[Array.getD_eq_getD_getElem?,hu]
       rfl
     ·intro j p hp
      rw[e,List.getElem?_map]at hp
      cases hp0:x0.cells[j]? with
      | none=>rw[hp0]at hp;simp at hp
      | some p0=>
       rw[hp0]at hp
       simp only[map_some,Option.some.injEq]at hp
       subst hp
       obtain⟨u,hu,hr⟩:=(h8 i x0 hx).2 j p0 hp0
       rw[Array.getD_eq_getD_getElem?,hu]
       exact ih p0 u hr
   ·exact .dead _
  case fM k ver=>simp only[kD];exact .dead v
  all_goals (simp only[kD];exact hm _ h)
theorem qm(R:Rel base ah w0 S blk a w)(d n:Nat)(p:PV)(v:Value)(h:aV w (aZ base S.objs blk) S.objs blk p v) :
  aV w (aZ base (S.freeze d n).objs blk) (S.freeze d n).objs blk (fA d n S.objs p) v:=by
 have hm:∀q:PV,cu w (aZ base S.objs blk) q v→cu w (aZ base (S.freeze d n).objs blk) q v:=λq hq=>hq.mono (Nat.le_refl _) (λb _ h=>xS h) (λ_ _ _ h=>h)
 have hget:∀k o,k<n→S.objs[k]?=some o→(S.freeze d n).objs[k]?=some (eO d n S.objs o):=by
  intro k o hk ho
  simp only[St.freeze,List.getElem?_map,List.getElem?_take,if_pos hk,ho,map_some]
 cases p
 case aS k ver=>
  simp only[fA]
  split
  ·rename_i hk
   obtain⟨h0,o,ho,h2,h3⟩:=h
   refine⟨h0,_,hget k o hk ho,h2,λhl hv=>?_⟩
   obtain⟨hM,hh⟩:=h3 hl hv
   refine⟨hM,?_⟩
   unfold vL at hh ⊢
   cases hg:blk k with
   | none=>rw[hg]at hh;exact⟨hh.1,by simp[eO,hh.2]⟩
   | some g=>rw[hg]at hh;simpa[eO] using hh
  ·exact .aI (NV R d n d _ v h)
 case bf k ver i f=>
  simp only[fA]
  split
  ·rename_i hk
   obtain⟨h0,o,ho,h2,h3⟩:=h
   exact⟨h0,_,hget k o hk ho,h2,h3⟩
  ·exact .aI (NV R d n d _ v h)
 case fM k ver=>
  simp only[fA]
  split
  ·rename_i hk
   obtain⟨h0,o,ho,h2,h3⟩:=h
   exact⟨h0,_,hget k o hk ho,h2,h3⟩
  ·exact .aI (.dead v)
 all_goals (simp only[fA];exact .aI (hm _ h))
theorem xU{R R':PV→Value→Prop}{f:PV→PV}{cs:List PV}{vs:List Value}(h:bG R cs vs)(hf:∀p v,R p v→R' (f p) v):bG R' (cs.map f) vs:=by
 refine⟨by simpa using h.1,λi p v hp hv=>?_⟩
 rw[List.getElem?_map]at hp
 cases hc:cs[i]? with
 | none=>rw[hc]at hp;simp at hp
 | some p0=>
  rw[hc]at hp
  simp only[map_some,Option.some.injEq]at hp
  subst hp
  exact hf p0 v (h.2 i p0 v hc hv)
theorem Gc(R:Rel base ah w0 S blk a w)(d n:Nat)(p:PV)(v:Value)(h:aO w (aZ base S.objs blk) S.objs blk p v) :
  aO w (aZ base (S.freeze d n).objs blk) (S.freeze d n).objs blk (jG d n S.objs p) v:=by
 have hS:aV w (aZ base S.objs blk) S.objs blk p v→aO w (aZ base (S.freeze d n).objs blk) (S.freeze d n).objs blk (fA d n S.objs p) v:=λh=>.dS (qm R d n p v h)
 cases p
 case fn f a c=>
  obtain⟨va,vc,rfl,h1,h2⟩:=h
  exact⟨va,vc,rfl,xU h1 (qm R d n),xU h2 (qm R d n)⟩
 case bY cs=>obtain⟨vs,rfl,h1⟩:=h;exact⟨vs,rfl,xU h1 (qm R d n)⟩
 case agg cs=>obtain⟨vs,rfl,h1⟩:=h;exact⟨vs,rfl,xU h1 (qm R d n)⟩
 all_goals exact hS h
theorem Lm{d n:Nat}{objs:List Obj}{p:PV}(h:p.mE n=true):fA d n objs p=p:=by
 cases p<;>simp only[fA]<;> (try rfl)<;> (simp only[PV.mE,decide_eq_true_eq]at h;rw[if_pos h])
theorem EY{d n:Nat}{objs:List Obj}{cs:List PV}(h:cs.all (PV.mE n)=true):cs.map (fA d n objs)=cs:=by
 conv=>rhs;rw[←map_id cs]
 exact map_congr_left λp hp=>Lm (List.all_eq_true.1 h p hp)
theorem Zf{d n:Nat}{objs:List Obj}{p:PV}(h:p.lt n=true):jG d n objs p=p:=by
 cases p<;>simp only[jG]<;>simp only[PV.lt,Bool.and_eq_true]at h
 case fn f a c=>rw[EY h.1,EY h.2]
 case bY cs=>rw[EY h]
 case agg cs=>rw[EY h]
 all_goals exact Lm h
theorem Gd{n m:Nat}(h:n≤m){p:PV}(hp:p.mE n=true):p.mE m=true:=by
 cases p<;>simp only[PV.mE,decide_eq_true_eq]at hp ⊢<;>omega
theorem pJ{n m:Nat}(h:n≤m){cs:List PV}(hp:cs.all (PV.mE n)=true):cs.all (PV.mE m)=true:=by
 rw[List.all_eq_true]at hp ⊢
 exact λp hm=>Gd h (hp p hm)
theorem mM{n m:Nat}(h:n≤m){p:PV}(hp:p.lt n=true):p.lt m=true:=by
 cases p<;>simp only[PV.lt,Bool.and_eq_true]at hp ⊢
 case fn f a c=>exact⟨pJ h hp.1,pJ h hp.2⟩
 case bY cs=>exact pJ h hp
 case agg cs=>exact pJ h hp
 all_goals exact Gd h hp
theorem Rel.freeze (R:Rel base ah w0 S blk a w)(d n:Nat)(hn:w0.nx≤n):Rel base ah w0 (S.freeze d n) blk a w:=by
 refine⟨R.oC.mono (λb _ h=>⟨xS h.1,h.2⟩) (λ_ _ _ h=>h),by simpa[St.freeze] using R.EB,λt p hp=>?_,⟨λk o' ho' hl=>?_,?_,?_⟩,R.pr,R.fr,R.gr,R.pb,λx hx=>(Zf (d:=d) (objs:=S.objs) (mM hn (R.yQ x hx))) ▸ Gc R d n x.1 x.2 (R.ext x hx),R.yQ,R.sm,R.gl⟩
 ·simp only[St.freeze,List.getElem?_map]at hp
  cases ht:S.tmps[t]? with
  | none=>rw[ht]at hp;simp at hp
  | some p0=>
   rw[ht]at hp
   simp only[map_some,Option.some.injEq]at hp
   subst hp
   exact Gc R d n p0 _ (R.tm t p0 ht)
 ·obtain⟨hk,o,ho,rfl⟩:=nP ho'
  have hb:=R.objs.ob k o ho hl
  unfold bB at hb ⊢
  cases hg:blk k with
  | none=>rw[hg]at hb;simp[eO,hb]
  | some g=>
   rw[hg]at hb
   obtain⟨c,hc,h7,h8⟩:=hb
   refine⟨c,hc,by simpa[eO,fits] using h7,λi x hx=>?_⟩
   simp only[eO,List.getElem?_map]at hx
   cases hx0:o.xs[i]? with
   | none=>rw[hx0]at hx;simp at hx
   | some x0=>
    rw[hx0]at hx
    simp only[map_some,Option.some.injEq]at hx
    subst hx
    have e:=mK (Tv d n S.objs) x0
    refine⟨by rw[e,List.length_map];exact (h8 i x0 hx0).1,λj p hp=>?_⟩
    rw[e,List.getElem?_map]at hp
    cases hp0:x0.cells[j]? with
    | none=>rw[hp0]at hp;simp at hp
    | some p0=>
     rw[hp0]at hp
     simp only[map_some,Option.some.injEq]at hp
     subst hp
     obtain⟨u,hu,hr⟩:=(h8 i x0 hx0).2 j p0 hp0
     exact⟨u,hu,qm R d n p0 u hr⟩
 ·intro k k' o o' g hne h1 h2 h3 h4 h5
  obtain⟨_,o1,ho1,rfl⟩:=nP h1
  obtain⟨_,o2,ho2,rfl⟩:=nP h3
  exact R.objs.zV k k' o1 o2 g hne ho1 h2 ho2 h4 h5
 ·intro k o g h1 h2 h3
  obtain⟨_,o1,ho1,rfl⟩:=nP h1
  exact R.objs.np k o1 g ho1 h2 h3
def yR:List Bool→List PV→List PV
 | _,[]=>[]
 | [],p::ps=>.dead::yR [] ps
 | true::ks,p::ps=>p::yR ks ps
 | false::ks,_::ps=>.dead::yR ks ps
theorem nQ:∀(ks:List Bool) (ps:List PV),(yR ks ps).length=ps.length
 | ks,[]=>by cases ks<;>simp[yR]
 | [],_::ps=>by simp[yR,nQ [] ps]
 | true::ks,p::ps=>by simp[yR,nQ ks ps]
 | false::ks,p::ps=>by simp[yR,nQ ks ps]
theorem EZ:∀(ks:List Bool) (ps:List PV) (t:Nat) (p:PV),(yR ks ps)[t]?=some p→p=.dead∨ps[t]?=some p
 | ks,[],_,_,h=>by cases ks<;>simp[yR]at h
 | [],q::ps,0,p,h=>by simp only[yR,List.getElem?_cons_zero,Option.some.injEq]at h;exact .inl h.symm
 | [],q::ps,t+1,p,h=>by simp only[yR,List.getElem?_cons_succ]at h ⊢;exact EZ [] ps t p h
 | true::ks,q::ps,0,p,h=>by simp only[yR,List.getElem?_cons_zero,Option.some.injEq]at h;exact .inr (by simpa using h)
 | true::ks,q::ps,t+1,p,h=>by simp only[yR,List.getElem?_cons_succ]at h ⊢;exact EZ ks ps t p h
 | false::ks,q::ps,0,p,h=>by simp only[yR,List.getElem?_cons_zero,Option.some.injEq]at h;exact .inl h.symm
 | false::ks,q::ps,t+1,p,h=>by simp only[yR,List.getElem?_cons_succ]at h ⊢;exact EZ ks ps t p h
def St.forget (ks:List Bool)(S:St):St:=⟨yR ks S.tmps,S.objs⟩
theorem aO.dead {ok:Nat→Prop}{objs:List Obj}(v:Value):aO w ok objs blk .dead v:=.aI (.dead v)
theorem Rel.forget (R:Rel base ah w0 S blk a w)(ks:List Bool):Rel base ah w0 (S.forget ks) blk a w:=by
 refine⟨R.oC,by simpa[St.forget,nQ] using R.EB,λt p hp=>?_,R.objs,R.pr,R.fr,R.gr,R.pb,R.ext,R.yQ,R.sm,R.gl⟩
 rcases EZ ks S.tmps t p hp with rfl | h
 ·exact .dead _
 ·exact R.tm t p h
def St.J5 (t ty sz:Nat)(S:St):St:=
 match S.tmps[t]? with
 | some (.sl _ [] _)=>⟨S.tmps.set t (.aS S.objs.length 0),S.objs++[⟨ty,sz,[],true,0⟩]⟩
 | _=>S
end
theorem Weak.refl (m:Nat)(S:St):Weak m S S:=λ_ _ _ blk _ _ _ R=>⟨blk,R⟩
theorem Weak.trans {m:Nat}{S S' QU:St}(h:Weak m S S')(h':Weak m S' QU):Weak m S QU:=λbase ah w0 blk a w hm R=>let ⟨ak,R'⟩:=h base ah w0 blk a w hm R;h' base ah w0 ak a w hm R'
theorem Weak.freeze {m:Nat}(d n:Nat)(hn:m≤n)(S:St):Weak m S (S.freeze d n):=λ_ _ _ blk _ _ hm R=>⟨blk,R.freeze d n (Nat.le_trans hm hn)⟩
theorem Weak.forget (m:Nat)(ks:List Bool)(S:St):Weak m S (S.forget ks):=λ_ _ _ blk _ _ _ R=>⟨blk,R.forget ks⟩
def St.norm (ks:List Bool)(fz:Option (Nat×Nat))(S:St):St:=
 match fz with
 | none=>S.forget ks
 | some (d,n)=>(S.forget ks).freeze d n
def C8(m:Nat):Option (Nat×Nat)→Prop
 | none=>True
 | some (_,n)=>m≤n
theorem Weak.norm {m:Nat}(ks:List Bool)(fz:Option (Nat×Nat))(h:C8 m fz)(S:St):Weak m S (S.norm ks fz):=by
 cases fz with
 | none=>exact .forget m ks S
 | some x=>exact (Weak.forget m ks S).trans (Weak.freeze _ _ h _)
theorem Rel.J5 {base ah:Nat→Prop}{w0:Wz}{S:St}{blk:Nat→Option Nat}{a:Act}{w:World}(R:Rel base ah w0 S blk a w){t sz ty:Nat}{sz':Nat}(h:S.tmps[t]?=some (.sl sz' [] (some true)))(hM:ty≠MT) :
  Rel base ah w0 ⟨S.tmps.set t (.aS S.objs.length 0),S.objs++[⟨ty,sz,[],true,0⟩]⟩ (aF blk S.objs.length none) a w:=by
 have h1:=R.CS (o1:=⟨ty,sz,[],true,0⟩) (gb:=none) (kr.refl w) (λg hg=>by cases hg) λ_=>by
  unfold bB aF
  rw[if_pos rfl]
 refine⟨h1.oC,by simpa using h1.EB,λt' p hp=>?_,h1.objs,h1.pr,h1.fr,h1.gr,h1.pb,h1.ext,h1.yQ,h1.sm,h1.gl⟩
 simp only[List.getElem?_set]at hp
 split at hp
 ·rename_i ht
  subst ht
  split at hp
  ·cases hp
   have hx:=R.tm t _ h
   have hx':cu w (aZ base S.objs blk) (.sl sz' [] (some true)) (a.tmps.getD t undef):=hx
   generalize hv:a.tmps.getD t undef=v at hx'
   cases hx' with
   | slnil _ _ _=>
    refine⟨rfl,⟨ty,sz,[],true,0⟩,Zb _ _,Nat.le_refl _,λ_ _=>⟨hM,?_⟩⟩
    unfold vL aF
    rw[if_pos rfl]
    exact⟨rfl,rfl⟩
   | FL _ _ hq=>exact absurd rfl hq
   | sl _ _ _ hq=>exact absurd rfl hq
  ·cases hp
 ·exact h1.tm t' p hp
theorem Weak.J5 {m:Nat}{tm:List PV}{objs:List Obj}(t ty sz:Nat){sz':Nat}(h:tm[t]?=some (.sl sz' [] (some true)))(hM:ty≠MT:=by decide) :
  Weak m ⟨tm,objs⟩ ⟨tm.set t (.aS objs.length 0),objs++[⟨ty,sz,[],true,0⟩]⟩:=
 λ_ _ _ _ _ _ _ R=>⟨_,Rel.J5 (S:=⟨tm,objs⟩) R h hM⟩
def bI(objs:List Obj):Prop:=∀o∈objs,∀x∈o.xs,∀c∈x.cells,c.mE objs.length=true
theorem NW{f:PV→PV}{x:PV}(h:∀c∈x.cells,f c=c):x.bJ f=x:=by
 cases x<;>simp only[PV.bJ]<;>simp only[PV.cells]at h
 case agg cs=>congr 1;conv=>rhs;rw[←map_id cs]
              exact map_congr_left λc hc=>h c hc
 all_goals exact h _ List.mem_cons_self
theorem Zg{d:Nat}{objs ai:List Obj}(h:bI objs):objs.map (eO d objs.length ai)=objs:=by
 conv=>rhs;rw[←map_id objs]
 refine map_congr_left λo ho=>?_
 have hx:o.xs.map (PV.bJ (fA d objs.length ai))=o.xs:=by
  conv=>rhs;rw[←map_id o.xs]
  exact map_congr_left λx hx=>NW λc hc=>Lm (h o ho x hx c hc)
 simp only[eO,hx,id]
end Lp
namespace Lp
open Go
def ig(x:Go.Obj):Prop:=(∃c t y,x=.cells c t y)∨(∃es n,x=.map es n)∨∃a b c d,x=.mapIter a b c d
theorem uw(ty:TypeId)(sz:Nat)(c:Array Value):ig (m_ ty sz c):=by
 unfold m_
 split
 ·split
  ·exact .inr (.inl ⟨_,_,rfl⟩)
  ·exact .inr (.inr ⟨_,_,_,_,rfl⟩)
 ·exact .inl ⟨_,_,_,rfl⟩
def PV.Ea (n:Nat):PV→Bool
 | .aS k _=>decide (n≤k)
 | .bf k _ _ _=>decide (n≤k)
 | .fM k _=>decide (n≤k)
 | _=>true
def PV.ge (n:Nat):PV→Bool
 | .fn _ a c=>a.all (PV.Ea n) && c.all (PV.Ea n)
 | .bY cs | .agg cs=>cs.all (PV.Ea n)
 | p=>p.Ea n
theorem kE{p:PV}{n:Nat}(h:p.ref=false):p.Ea n=true:=by
 cases p<;>first | rfl | (simp[PV.ref]at h)
theorem Tw{p:PV}{n:Nat}(h:p.pure=true):p.ge n=true:=by
 have hS:∀p:PV,(!p.ref)=true→p.Ea n=true:=λp h=>kE (by simpa using h)
 cases p<;>simp only[PV.pure,Bool.and_eq_true,List.all_eq_true]at h<;>simp only[PV.ge,Bool.and_eq_true,List.all_eq_true]<;>first
  | rfl
  | exact⟨λq hq=>hS q (h.1 q hq),λq hq=>hS q (h.2 q hq)⟩
  | exact λq hq=>hS q (h q hq)
  | cases h
def Zh(n:Nat)(X:List Obj):Prop:=∀o∈X,∀x∈o.xs,∀p∈x.cells,p.Ea n=true
def wC:Act:={ tmps:=#[],defers:=[] }
structure uz (ah:Nat→Prop) (z:Wz) (H:Array Go.Obj):Prop where
 at':∀b,ah b→b<z.heap.size∧H[b]?=z.heap[b]?
 le:z.heap.size≤H.size
 gl:QB ah z
def hbase(base:Nat→Prop)(objs:List Obj)(blk:Nat→Option Nat)(n:Nat)(b:Nat):Prop:=
 base b∧∀k o,n≤k→objs[k]?=some o→o.live=true→blk k≠some b
def zD(objs:List Obj)(blk:Nat→Option Nat)(n:Nat)(w:World)(b:Nat):Prop:=b<w.heap.size∧aK (objs.take n) blk b
section
variable {base ah:Nat→Prop}{w0:Wz}{S:St}{blk:Nat→Option Nat}{a:Act}{w:World}
theorem Lr{ok:Nat→Prop}{objs:List Obj}{p:PV}{v:Value}(h:aV w ok objs blk p v):p.mE objs.length=true:=by
 cases p<;>simp only[PV.mE,decide_eq_true_eq]<;> (obtain⟨_,o,ho,_⟩:=h;exact (List.getElem?_eq_some_iff.1 ho).1)
theorem E5{ok:Nat→Prop}{objs:List Obj}{cs:List PV}{vs:List Value}(h:bG (aV w ok objs blk) cs vs):cs.all (PV.mE objs.length)=true:=by
 rw[List.all_eq_true]
 intro p hp
 obtain⟨i,hi,rfl⟩:=List.mem_iff_getElem.1 hp
 exact Lr (h.2 i cs[i] (vs[i]'(by rw[←h.1];exact hi)) (List.getElem?_eq_getElem hi) (List.getElem?_eq_getElem _))
theorem uD{ok:Nat→Prop}{objs:List Obj}{p:PV}{v:Value}(h:aO w ok objs blk p v):p.lt objs.length=true:=by
 have hS:aV w ok objs blk p v→p.mE objs.length=true:=Lr
 cases p
 case fn f a c=>obtain⟨va,vc,rfl,h1,h2⟩:=h;simp only[PV.lt,E5 h1,E5 h2,Bool.and_self]
 case bY cs=>obtain⟨vs,rfl,h1⟩:=h;exact E5 h1
 case agg cs=>obtain⟨vs,rfl,h1⟩:=h;exact E5 h1
 all_goals exact hS h
theorem dV{objs:List Obj}{n k:Nat}{o:Obj}(h:(objs.take n)[k]?=some o):k<n∧objs[k]?=some o:=by
 rw[List.getElem?_take]at h
 split at h
 ·rename_i hk;exact⟨hk,h⟩
 ·cases h
theorem Gf{objs:List Obj}{n k:Nat}{o:Obj}(hk:k<n)(h:objs[k]?=some o):(objs.take n)[k]?=some o:=by
 rw[List.getElem?_take,if_pos hk];exact h
theorem nR{ok ok':Nat→Prop}{objs:List Obj}{n:Nat}{p:PV}{v:Value}(hp:p.mE n=true)(hok:∀b,ok b→ok' b)(h:aV w ok objs blk p v):aV w ok' (objs.take n) blk p v:=by
 cases p with
 | aS k ver=>
  obtain⟨h0,o,h1,h2⟩:=h
  exact⟨h0,o,Gf (by simpa[PV.mE] using hp) h1,h2⟩
 | bf k ver i f=>
  obtain⟨h0,o,h1,h2⟩:=h
  exact⟨h0,o,Gf (by simpa[PV.mE] using hp) h1,h2⟩
 | fM k ver=>
  obtain⟨h0,o,h1,h2⟩:=h
  exact⟨h0,o,Gf (by simpa[PV.mE] using hp) h1,h2⟩
 | _=>exact cu.mono h (Nat.le_refl _) (λb _ h=>hok b h) (λ_ _ _ h=>h)
theorem J6{ok ok':Nat→Prop}{objs:List Obj}{n:Nat}{p:PV}{v:Value}(hp:p.lt n=true)(hok:∀b,ok b→ok' b)(h:aO w ok objs blk p v):aO w ok' (objs.take n) blk p v:=by
 have hl:∀(cs:List PV) (vs:List Value),cs.all (PV.mE n)=true→bG (aV w ok objs blk) cs vs→bG (aV w ok' (objs.take n) blk) cs vs:=
  λcs vs hc h=>⟨h.1,λi p u h1 h2=>nR (List.all_eq_true.1 hc p (List.mem_of_getElem? h1)) hok (h.2 i p u h1 h2)⟩
 cases p with
 | fn f a c=>
  simp only[PV.lt,Bool.and_eq_true]at hp
  obtain⟨va,vc,rfl,h1,h2⟩:=h
  exact⟨va,vc,rfl,hl _ _ hp.1 h1,hl _ _ hp.2 h2⟩
 | bY cs=>obtain⟨us,rfl,h1⟩:=h;exact⟨us,rfl,hl _ _ hp h1⟩
 | agg cs=>obtain⟨us,rfl,h1⟩:=h;exact⟨us,rfl,hl _ _ hp h1⟩
 | aS k ver=>exact nR (p:=.aS k ver) hp hok h
 | bf k ver i f=>exact nR (w:=w) (p:=.bf k ver i f) hp hok h
 | fM k ver=>exact nR (w:=w) (p:=.fM k ver) hp hok h
 | _=>exact .dS (nR rfl hok (by exact h))
theorem Rel.hide (R:Rel base ah w0 S blk a w){n:Nat}{z:Wz}(hxs:∀x∈z.xs,x∈w0.xs∧x.1.lt z.nx=true∧x.1.lt n=true)(hsm:Sm z.out w)(hcl:∀o∈S.objs.take n,o.live=true→∀x∈o.xs,∀p∈x.cells,p.mE n=true) :
  Rel (hbase base S.objs blk n) (zD S.objs blk n w) ⟨w.heap,z.xs,z.nx,z.out⟩ ⟨[],S.objs.take n⟩ blk wC w:=by
 have hok:∀b,aZ base S.objs blk b→aZ (hbase base S.objs blk n) (S.objs.take n) blk b:=λb h=>
  ⟨⟨h.1,λk o _ h1 h2=>h.2 k o h1 h2⟩,λk o h1 h2=>h.2 k o (dV h1).2 h2⟩
 have aby:∀b,ah b→zD S.objs blk n w b:=λb hb=>
  ⟨Nat.lt_of_lt_of_le (R.pr b hb) R.gr,λk o h1 h2 h3=>R.objs.np k o b (dV h1).2 h2 h3 hb⟩
 refine⟨.nil _ _,rfl,λt p hp=>by simp at hp,⟨λk o h1 h2=>?_,λk k' o o' g hne h1 h2 h3 h4=>R.objs.zV k k' o o' g hne (dV h1).2 h2 (dV h3).2 h4,λk o g h1 h2 h3 h4=>h4.2 k o h1 h2 h3⟩,
  λb hb=>hb.1,λ_ _=>rfl,Nat.le_refl _,λb hb=>?_,λx hx=>?_,λx hx=>(hxs x hx).2.1,hsm,R.kZ,λb hb=>aby b (R.gl.2 b hb)⟩
 ·obtain⟨hk,h1'⟩:=dV h1
  have hh:=R.objs.ob k o h1' h2
  unfold bB at hh ⊢
  cases hg:blk k with
  | none=>rw[hg]at hh;exact hh
  | some g=>
   rw[hg]at hh
   obtain⟨c,x1,x2,x3⟩:=hh
   refine⟨c,x1,x2,λi x hx=>⟨(x3 i x hx).1,λj p hp=>?_⟩⟩
   obtain⟨v,y1,y2⟩:=(x3 i x hx).2 j p hp
   exact⟨v,y1,nR (hcl o (List.mem_of_getElem? h1) h2 x (List.mem_of_getElem? hx) p (List.mem_of_getElem? hp)) hok y2⟩
 ·by_cases hs:b<w.heap.size
  ·have:¬ aK (S.objs.take n) blk b:=λh=>hb ⟨hs,h⟩
   unfold aK at this
   simp only[Classical.not_forall]at this
   obtain⟨k,o,h1,h2,h3⟩:=this
   have h3:blk k=some b:=by
    cases hbk:blk k with
    | none=>exact absurd (by simp[hbk]) h3
    | some g=>rw[hbk]at h3;simpa using h3
   obtain⟨hk,h1⟩:=dV h1
   refine⟨R.pb b (R.objs.np k o b h1 h2 h3),λk' o' hk' h1' h2' h3'=>R.objs.zV k k' o o' b (by omega) h1 h2 h1' h2' h3 h3'⟩
  ·refine⟨R.bs b (by have:=R.gr;omega),λk o _ h1 h2 h3=>?_⟩
   have:=t_ R.objs h1 h2 h3
   omega
 ·exact J6 (hxs x hx).2.2 hok (R.ext x (hxs x hx).1)
theorem Rel.acN (R:Rel base ah w0 S blk a w){n:Nat}(hx:w0.nx≤n)(hcl:∀o∈S.objs.take n,o.live=true→∀x∈o.xs,∀p∈x.cells,p.mE n=true):Rel base ah w0 ⟨[],S.objs.take n⟩ blk wC w:=by
 have hok:∀b,aZ base S.objs blk b→aZ base (S.objs.take n) blk b:=λb h=>⟨h.1,λk o h1 h2=>h.2 k o (dV h1).2 h2⟩
 refine⟨.nil _ _,rfl,λt p hp=>by simp at hp,⟨λk o h1 h2=>?_,λk k' o o' g hne h1 h2 h3 h4=>R.objs.zV k k' o o' g hne (dV h1).2 h2 (dV h3).2 h4,λk o g h1 h2 h3=>R.objs.np k o g (dV h1).2 h2 h3⟩,
  R.pr,R.fr,R.gr,R.pb,λx hx'=>J6 (mM hx (R.yQ x hx')) hok (R.ext x hx'),R.yQ,R.sm,R.gl⟩
 obtain⟨hk,h1'⟩:=dV h1
 have hh:=R.objs.ob k o h1' h2
 unfold bB at hh ⊢
 cases hg:blk k with
 | none=>rw[hg]at hh;exact hh
 | some g=>
  rw[hg]at hh
  obtain⟨c,x1,x2,x3⟩:=hh
  refine⟨c,x1,x2,λi x hx=>⟨(x3 i x hx).1,λj p hp=>?_⟩⟩
  obtain⟨v,y1,y2⟩:=(x3 i x hx).2 j p hp
  exact⟨v,y1,nR (hcl o (List.mem_of_getElem? h1) h2 x (List.mem_of_getElem? hx) p (List.mem_of_getElem? hp)) hok y2⟩
def sG(m:Nat)(ak blk:Nat→Option Nat)(k:Nat):Option Nat:=if k<m then ak k else blk k
theorem Rel.Xb {n:Nat}{ex:Nat→Prop}{H':Array Go.Obj}{zn wn:Wz}{O':List Obj}{ak:Nat→Option Nat}{w':World}(R:Rel base ah w0 S blk a w)
  (R':Rel (hbase base S.objs blk n) (zD S.objs blk n w) ⟨H',zn.xs,zn.nx,zn.out⟩ ⟨[],O'⟩ ak wC w')
  (hs:H'.size=w.heap.size) (hy:∀b,¬ ex b→H'[b]?=w.heap[b]?) (hyl:∀b,ex b→∃r,w.heap[b]?=some (.loop r)) (hO:O'.length=n∨S.objs.length=n)
  (QV:∀p∈S.tmps,p.ge n=true) (hX:Zh n (S.objs.drop n))
  (hpr:∀b,ah b→b<wn.heap.size∧w'.heap[b]?=wn.heap[b]?) (hgr:wn.heap.size≤w'.heap.size)
  (hxs:∀x∈wn.xs,(x∈zn.xs∧zn.nx≤wn.nx)∨(x∈w0.xs∧w0.nx≤wn.nx∧x.1.ge n=true)) (hsm:Sm wn.out w') (hgl:QB ah wn) :
  Rel base ah wn ⟨S.tmps,O'++S.objs.drop n⟩ (sG O'.length ak blk) a w':=by
 have hsz:w.heap.size≤w'.heap.size:=by have:=R'.gr;rw[←hs];exact this
 have hfr:∀b,b<w.heap.size→aK (S.objs.take n) blk b→¬ ex b→w'.heap[b]?=w.heap[b]?:=λb h1 h2 h3=>(R'.fr b ⟨h1,h2⟩).trans (hy b h3)
 have acO:∀b,b<w.heap.size→aK (S.objs.take n) blk b→aK O' ak b:=λb h1 h2 k o h3 h4 h5=>R'.objs.np k o b h3 h4 h5 ⟨h1,h2⟩
 have hnt:∀b,aK S.objs blk b→aK (S.objs.take n) blk b:=λb h k o h1 h2=>h k o (dV h1).2 h2
 have hlen:∀k o,n≤k→S.objs[k]?=some o→O'.length=n:=λk o hk h1=>by
  rcases hO with h | h
  ·exact h
  ·have:=(List.getElem?_eq_some_iff.1 h1).1;omega
 have hget:∀(k:Nat) (o:Obj),(O'++S.objs.drop n)[k]?=some o→(k<O'.length∧O'[k]?=some o∧sG O'.length ak blk k=ak k)∨(O'.length≤k∧O'.length=n∧S.objs[k]?=some o∧sG O'.length ak blk k=blk k):=by
  intro k o h
  rw[List.getElem?_append]at h
  split at h
  ·rename_i hk;exact .inl ⟨hk,h,if_pos hk⟩
  ·rename_i hk
   rw[List.getElem?_drop]at h
   have e:=hlen _ o (by omega) h
   exact .inr ⟨by omega,e,by rw[show k=n+(k-O'.length) by omega];exact h,if_neg hk⟩
 have hold:∀(k:Nat) (o:Obj),n≤k→S.objs[k]?=some o→(O'++S.objs.drop n)[k]?=some o∧sG O'.length ak blk k=blk k:=by
  intro k o hk h
  have e:=hlen k o hk h
  refine⟨?_,if_neg (by omega)⟩
  rw[List.getElem?_append,if_neg (by omega),List.getElem?_drop,show n+(k-O'.length)=k by omega];exact h
 have acP:∀b,aK O' ak b→(∀k o,n≤k→S.objs[k]?=some o→o.live=true→blk k≠some b)→aK (O'++S.objs.drop n) (sG O'.length ak blk) b:=by
  intro b h1 h2 k o hk hl he
  rcases hget k o hk with ⟨_,h3,h4⟩ | ⟨_,e,h3,h4⟩
  ·rw[h4]at he;exact h1 k o h3 hl he
  ·rw[h4]at he;exact h2 k o (by omega) h3 hl he
 have hok:∀b,b<w.heap.size→aZ base S.objs blk b→aZ base (O'++S.objs.drop n) (sG O'.length ak blk) b:=λb h1 h2=>
  ⟨h2.1,acP b (acO b h1 (hnt b h2.2)) λk o _ h3 h4=>h2.2 k o h3 h4⟩
 have aee:∀b,aZ (hbase base S.objs blk n) O' ak b→aZ base (O'++S.objs.drop n) (sG O'.length ak blk) b:=λb h=>⟨h.1.1,acP b h.2 h.1.2⟩
 have hblk:∀(k:Nat) (o:Obj) (g:Nat),n≤k→S.objs[k]?=some o→o.live=true→blk k=some g→w'.heap[g]?=w.heap[g]?:=by
  intro k o g hk h1 h2 h3
  refine hfr g (t_ R.objs h1 h2 h3) (λk' o' h1' h2' h3'=>R.objs.zV k' k o' o g (by have:=(dV h1').1;omega) (dV h1').2 h2' h1 h2 h3' h3) ?_
  intro hex
  obtain⟨r,hyl⟩:=hyl g hex
  have hh:=R.objs.ob k o h1 h2
  unfold bB at hh
  rw[h3]at hh
  obtain⟨c,x1,_⟩:=hh
  rw[hyl]at x1
  rcases uw o.ty o.sz c with ⟨_,_,_,h⟩ | ⟨_,_,h⟩ | ⟨_,_,_,_,h⟩<;>rw[h]at x1<;>cases x1
 have J7:∀{p:PV}{v:Value},p.Ea n=true→aV w (aZ base S.objs blk) S.objs blk p v→aV w' (aZ base (O'++S.objs.drop n) (sG O'.length ak blk)) (O'++S.objs.drop n) (sG O'.length ak blk) p v:=by
  intro p v hp h
  cases p with
  | aS k ver=>
   have hk:n≤k:=by simpa[PV.Ea] using hp
   obtain⟨h0,o,h1,h2,h3⟩:=h
   obtain⟨g1,g2⟩:=hold k o hk h1
   refine⟨h0,o,g1,h2,λhl hv=>?_⟩
   obtain⟨q1,q2⟩:=h3 hl hv
   refine⟨q1,?_⟩
   unfold vL at q2 ⊢
   rw[g2]
   cases hb:blk k with
   | none=>rw[hb]at q2;exact q2
   | some g=>
    rw[hb]at q2
    obtain⟨cap,c,x1,x2,x3⟩:=q2
    exact⟨cap,c,x1,(hblk k o g hk h1 hl hb).trans x2,x3⟩
  | bf k ver i f=>
   have hk:n≤k:=by simpa[PV.Ea] using hp
   obtain⟨h0,o,h1,h2,h3⟩:=h
   obtain⟨g1,g2⟩:=hold k o hk h1
   exact⟨h0,o,g1,h2,λhl hv=>by rw[g2];exact h3 hl hv⟩
  | fM k ver=>
   have hk:n≤k:=by simpa[PV.Ea] using hp
   obtain⟨h0,o,h1,h2,h3⟩:=h
   obtain⟨g1,g2⟩:=hold k o hk h1
   exact⟨h0,o,g1,h2,λhl hv=>by rw[g2];exact h3 hl hv⟩
  | _=>
   refine cu.qP h hsz hok λb x hb hx hc=>?_
   have hlt:=(Array.getElem?_eq_some_iff.1 hx).1
   rw[hfr b hlt (hnt b hb.2) (λe=>by obtain⟨r,hyl⟩:=hyl b e;obtain⟨_,_,_,rfl⟩:=hc;rw[hyl]at hx;cases hx)]
   exact hx
 have aaG:∀{p:PV}{v:Value},p.ge n=true→aO w (aZ base S.objs blk) S.objs blk p v→aO w' (aZ base (O'++S.objs.drop n) (sG O'.length ak blk)) (O'++S.objs.drop n) (sG O'.length ak blk) p v:=by
  intro p v hp h
  have hl:∀(cs:List PV) (vs:List Value),cs.all (PV.Ea n)=true→bG (aV w (aZ base S.objs blk) S.objs blk) cs vs→bG (aV w' (aZ base (O'++S.objs.drop n) (sG O'.length ak blk)) (O'++S.objs.drop n) (sG O'.length ak blk)) cs vs:=
   λcs vs hc h=>⟨h.1,λi p u h1 h2=>J7 (List.all_eq_true.1 hc p (List.mem_of_getElem? h1)) (h.2 i p u h1 h2)⟩
  cases p with
  | fn f a c=>
   simp only[PV.ge,Bool.and_eq_true]at hp
   obtain⟨va,vc,rfl,h1,h2⟩:=h
   exact⟨va,vc,rfl,hl _ _ hp.1 h1,hl _ _ hp.2 h2⟩
  | bY cs=>obtain⟨us,rfl,h1⟩:=h;exact⟨us,rfl,hl _ _ hp h1⟩
  | agg cs=>obtain⟨us,rfl,h1⟩:=h;exact⟨us,rfl,hl _ _ hp h1⟩
  | aS k ver=>exact J7 (p:=.aS k ver) hp h
  | bf k ver i f=>exact J7 (p:=.bf k ver i f) hp h
  | fM k ver=>exact J7 (p:=.fM k ver) hp h
  | _=>exact .dS (J7 rfl (by exact h))
 have UZ:∀{p:PV}{v:Value},aV w' (aZ (hbase base S.objs blk n) O' ak) O' ak p v→aV w' (aZ base (O'++S.objs.drop n) (sG O'.length ak blk)) (O'++S.objs.drop n) (sG O'.length ak blk) p v:=by
  intro p v h
  have hnew:∀(k:Nat) (o:Obj),O'[k]?=some o→(O'++S.objs.drop n)[k]?=some o∧sG O'.length ak blk k=ak k:=λk o h=>by
   have hk:=(List.getElem?_eq_some_iff.1 h).1
   exact⟨by rw[List.getElem?_append,if_pos hk];exact h,if_pos hk⟩
  cases p with
  | aS k ver=>
   obtain⟨h0,o,h1,h2,h3⟩:=h
   obtain⟨g1,g2⟩:=hnew k o h1
   refine⟨h0,o,g1,h2,λhl hv=>?_⟩
   obtain⟨q1,q2⟩:=h3 hl hv
   refine⟨q1,?_⟩
   unfold vL at q2 ⊢
   rw[g2];exact q2
  | bf k ver i f=>
   obtain⟨h0,o,h1,h2,h3⟩:=h
   obtain⟨g1,g2⟩:=hnew k o h1
   exact⟨h0,o,g1,h2,λhl hv=>by rw[g2];exact h3 hl hv⟩
  | fM k ver=>
   obtain⟨h0,o,h1,h2,h3⟩:=h
   obtain⟨g1,g2⟩:=hnew k o h1
   exact⟨h0,o,g1,h2,λhl hv=>by rw[g2];exact h3 hl hv⟩
  | _=>exact cu.mono h (Nat.le_refl _) (λb _ h=>aee b h) (λ_ _ _ h=>h)
 have aef:∀{p:PV}{v:Value},aO w' (aZ (hbase base S.objs blk n) O' ak) O' ak p v→aO w' (aZ base (O'++S.objs.drop n) (sG O'.length ak blk)) (O'++S.objs.drop n) (sG O'.length ak blk) p v:=by
  intro p v h
  have hl:∀(cs:List PV) (vs:List Value),bG (aV w' (aZ (hbase base S.objs blk n) O' ak) O' ak) cs vs→bG (aV w' (aZ base (O'++S.objs.drop n) (sG O'.length ak blk)) (O'++S.objs.drop n) (sG O'.length ak blk)) cs vs:=
   λcs vs h=>h.mono λ_ _ h=>UZ h
  cases p with
  | fn f a c=>obtain⟨va,vc,rfl,h1,h2⟩:=h;exact⟨va,vc,rfl,hl _ _ h1,hl _ _ h2⟩
  | bY cs=>obtain⟨us,rfl,h1⟩:=h;exact⟨us,rfl,hl _ _ h1⟩
  | agg cs=>obtain⟨us,rfl,h1⟩:=h;exact⟨us,rfl,hl _ _ h1⟩
  | aS k ver=>exact UZ (p:=.aS k ver) h
  | bf k ver i f=>exact UZ (p:=.bf k ver i f) h
  | fM k ver=>exact UZ (p:=.fM k ver) h
  | _=>exact .dS (UZ (by exact h))
 have hpp:∀b,ah b→zD S.objs blk n w b:=λb hb=>
  ⟨Nat.lt_of_lt_of_le (R.pr b hb) R.gr,λk o h1 h2 h3=>R.objs.np k o b (dV h1).2 h2 h3 hb⟩
 refine⟨?_,R.EB,λt p hp=>aaG (QV p (List.mem_of_getElem? hp)) (R.tm t p hp),⟨λk o h1 h2=>?_,λk k' o o' g hne h1 h2 h3 h4 h5 h6=>?_,λk o g h1 h2 h3 h4=>?_⟩,
  λb hb=>(hpr b hb).1,λb hb=>(hpr b hb).2,hgr,R.pb,λx hx=>?_,λx hx=>?_,hsm,hgl⟩
 ·obtain⟨Ds,h1,h2,h3⟩:=R.oC
  refine⟨Ds,h1,h2,λb hb=>?_⟩
  obtain⟨q1,q2,q3⟩:=h3 b hb
  have hlt:=(Array.getElem?_eq_some_iff.1 q1).1
  refine⟨?_,hok b hlt q2,q3⟩
  rw[hfr b hlt (hnt b q2.2) (λe=>by obtain⟨r,hyl⟩:=hyl b e;rw[hyl]at q1;cases q1)]
  exact q1
 ·rcases hget k o h1 with ⟨_,h3,h4⟩ | ⟨hk,e,h3,h4⟩
  ·have hh:=R'.objs.ob k o h3 h2
   unfold bB at hh ⊢
   rw[h4]
   cases hg:ak k with
   | none=>rw[hg]at hh;exact hh
   | some g=>
    rw[hg]at hh
    obtain⟨c,x1,x2,x3⟩:=hh
    refine⟨c,x1,x2,λi x hx=>⟨(x3 i x hx).1,λj p hp=>?_⟩⟩
    obtain⟨v,y1,y2⟩:=(x3 i x hx).2 j p hp
    exact⟨v,y1,UZ y2⟩
  ·have hh:=R.objs.ob k o h3 h2
   unfold bB at hh ⊢
   rw[h4]
   cases hg:blk k with
   | none=>rw[hg]at hh;exact hh
   | some g=>
    rw[hg]at hh
    obtain⟨c,x1,x2,x3⟩:=hh
    refine⟨c,(hblk k o g (by omega) h3 h2 hg).trans x1,x2,λi x hx=>⟨(x3 i x hx).1,λj p hp=>?_⟩⟩
    obtain⟨v,y1,y2⟩:=(x3 i x hx).2 j p hp
    refine⟨v,y1,J7 (hX o ?_ x (List.mem_of_getElem? hx) p (List.mem_of_getElem? hp)) y2⟩
    refine List.mem_iff_getElem?.2 ⟨k-n,?_⟩
    rw[List.getElem?_drop,show n+(k-n)=k by omega];exact h3
 ·have cross:∀(k k':Nat) (o o':Obj),O'[k]?=some o→o.live=true→n≤k'→S.objs[k']?=some o'→o'.live=true→ak k=some g→blk k'=some g→False:=by
    intro k k' o o' h1 h2 hk' h3 h4 h5 h6
    have hlt:=t_ R.objs h3 h4 h6
    exact acO g hlt (λj oj g1 g2 g3=>R.objs.zV j k' oj o' g (by have:=(dV g1).1;omega) (dV g1).2 g2 h3 h4 g3 h6) k o h1 h2 h5
  rcases hget k o h1 with ⟨_,a1,a2⟩ | ⟨a0,ae,a1,a2⟩<;>rcases hget k' o' h3 with ⟨_,b1,b2⟩ | ⟨b0,be,b1,b2⟩<;>rw[a2]at h5<;>rw[b2]at h6
  ·exact R'.objs.zV k k' o o' g hne a1 h2 b1 h4 h5 h6
  ·exact cross k k' o o' a1 h2 (by omega) b1 h4 h5 h6
  ·exact cross k' k o' o b1 h4 (by omega) a1 h2 h6 h5
  ·exact R.objs.zV k k' o o' g hne a1 h2 b1 h4 h5 h6
 ·rcases hget k o h1 with ⟨_,a1,a2⟩ | ⟨_,_,a1,a2⟩<;>rw[a2]at h3
  ·exact R'.objs.np k o g a1 h2 h3 (hpp g h4)
  ·exact R.objs.np k o g a1 h2 h3 h4
 ·rcases hxs x hx with ⟨h1,_⟩ | ⟨h1,_,h2⟩
  ·exact aef (R'.ext x h1)
  ·exact aaG h2 (R.ext x h1)
 ·rcases hxs x hx with ⟨h1,h2⟩ | ⟨h1,h2,_⟩
  ·exact mM h2 (R'.yQ x h1)
  ·exact mM h2 (R.yQ x h1)
end
end Lp
namespace Lp
open Go
open Option (getD_some map_some)
section
variable {F:Fence}{n:Nat}{P:Program}{Q:Exit→Act→World→Prop}
theorem kF{ops:List Oper}{L:Array Bool}(hs:L.size=ops.length){i:Nat} :
  i∈Region.ready .any ops.toArray L↔∃o,ops[i]?=some o∧L.getD i false=false∧∀e∈o.after.toList,Region.binds .any e=true→L.getD e.on false=true:=by
 constructor
 ·intro hm
  simp only[Region.ready,List.mem_filter,List.mem_range,Bool.and_eq_true]at hm
  obtain⟨hi,h1,h2⟩:=hm
  have hi:i<ops.length:=by simpa using hi
  have ho:ops.toArray[i]?=some ops[i]:=by simp[hi]
  rw[ho]at h2
  simp only[map_some,getD_some]at h2
  rw[Array.all_eq_true']at h2
  refine⟨ops[i],List.getElem?_eq_getElem hi,?_,λe he hb=>?_⟩
  ·have hil:i<L.size:=by omega
   rw[Array.getD_eq_getD_getElem?,Array.getElem?_eq_getElem hil,getD_some]at h1 ⊢
   simpa using h1
  ·have:=h2 e (by simpa using he)
   rw[hb]at this
   simpa using this
 ·rintro⟨o,ho',hx,hr⟩
  have hi:i<ops.length:=(List.getElem?_eq_some_iff.1 ho').1
  simp only[Region.ready,List.mem_filter,List.mem_range,Bool.and_eq_true]
  refine⟨by simpa using hi,?_,?_⟩
  ·have hil:i<L.size:=by omega
   rw[Array.getD_eq_getD_getElem?,Array.getElem?_eq_getElem hil,getD_some]at hx ⊢
   rw[hx];rfl
  ·have ho:ops.toArray[i]?=some o:=by simpa using ho'
   rw[ho]
   simp only[map_some,getD_some]
   rw[Array.all_eq_true']
   intro e he
   cases hbd:Region.binds .any e with
   | false=>simp
   | true=>rw[hr e (by simpa using he) hbd];simp
theorem wD{L:Array Bool}{i j:Nat}(hi:i<L.size):(L.setIfInBounds i true).getD j false=if j=i then true else L.getD j false:=by
 rw[Array.getD_eq_getD_getElem?,Array.getElem?_setIfInBounds]
 by_cases hij:i=j
 ·subst hij;rw[if_pos rfl,if_pos hi,if_pos rfl];rfl
 ·rw[if_neg hij,if_neg (λe=>hij e.symm),Array.getD_eq_getD_getElem?]
def Chain(ops:List Oper)(ms:List Nat)(b:Nat):Prop:=∀i,b≤i→i<ops.length→∀j,j<i→(ms.getD i 0).testBit j=true
structure Zi (ops:List Oper) (ms:List Nat):Prop where
 back:∀(i:Nat) (o:Oper),ops[i]?=some o→∀e∈o.after.toList,Region.binds .any e=true→e.on<i
 mask:∀(i:Nat) (o:Oper),ops[i]?=some o→∀j,(ms.getD i 0).testBit j=true→∃e∈o.after.toList,Region.binds .any e=true∧(j=e.on∨(ms.getD e.on 0).testBit j=true)
def Closed(ops:List Oper)(ms:List Nat)(X:Nat→Bool):Prop:=∀j,j<ops.length→X j=true→∀x,(ms.getD j 0).testBit x=true→X x=true
theorem uE{ops:List Oper}{ms:List Nat}{X:Nat→Bool}(ho:Zi ops ms)(hc:Closed ops ms X){i:Nat}{o:Oper}(hi:ops[i]?=some o)(hr:∀e∈o.after.toList,Region.binds .any e=true→X e.on=true)(x:Nat)
  (hx:(ms.getD i 0).testBit x=true):X x=true:=by
 obtain⟨e,h1,h2,h3⟩:=ho.mask i o hi x hx
 have he:=hr e h1 h2
 rcases h3 with rfl | h3
 ·exact he
 ·exact hc e.on (by have:=ho.back i o hi e h1 h2;have:=(List.getElem?_eq_some_iff.1 hi).1;omega) he x h3
theorem NY{ops:List Oper}{ms:List Nat}{b:Nat}(ho:Zi ops ms)(hc:Chain ops ms b):∀(k i:Nat),b≤i→i+k=ops.length→∀(fuel:Nat) (L:Array Bool) (a:Act) (w:World),k≤fuel→L.size=ops.length→
  (∀j,L.getD j false=decide (j<i))→wpOpsIn F n P ops.toArray Q (List.range' i k) a w→wpAnyIn F n P .any ops.toArray Q fuel L a w
 | 0,i,hbi,hik,fuel,L,a,w,hf,hs,hL,h=>by
  have hr:Region.ready .any ops.toArray L=[]:=by
   cases hr:Region.ready .any ops.toArray L with
   | nil=>rfl
   | cons x xs=>
    obtain⟨o,h1,h2,_⟩:=(kF hs).1 (by rw[hr];exact List.mem_cons_self)
    rw[hL]at h2
    have:=(List.getElem?_eq_some_iff.1 h1).1
    simp only[decide_eq_false_iff_not]at h2;omega
  have hq:Q .normal a w:=by simpa[wpOpsIn] using h
  cases fuel with
  | zero=>exact⟨hr,hq⟩
  | succ fuel=>exact⟨λ_=>hq,λx hx=>by rw[hr]at hx;cases hx⟩
 | k+1,i,hbi,hik,fuel,L,a,w,hf,hs,hL,h=>by
  obtain⟨fuel,rfl⟩:∃f,fuel=f+1:=⟨fuel-1,by omega⟩
  have hi:i<ops.length:=by omega
  have hir:i∈Region.ready .any ops.toArray L:=(kF hs).2 ⟨ops[i],List.getElem?_eq_getElem hi,by rw[hL];simp,λe he hb=>by
   rw[hL];have:=ho.back i ops[i] (List.getElem?_eq_getElem hi) e he hb;simpa using this⟩
  refine⟨(λhr=>by rw[hr]at hir;cases hir),λx hx=>?_⟩
  obtain⟨o,h1,h2,h3⟩:=(kF hs).1 hx
  have hxl:=(List.getElem?_eq_some_iff.1 h1).1
  have hxi:x=i:=by
   rw[hL]at h2
   simp only[decide_eq_false_iff_not]at h2
   rcases Nat.lt_or_ge i x with hlt | hge
   ·have hcl:Closed ops ms (λj=>L.getD j false):=λj hj hjt y hy=>by
      simp only[hL]at hjt ⊢
      have hjt:=of_decide_eq_true hjt
      have hback:∀(m j:Nat),j<m→∀y,j<ops.length→(ms.getD j 0).testBit y=true→y<j:=by
       intro m
       induction m with
       | zero=>intro j hj;omega
       | succ m ih=>
        intro j hjm y hjl hy
        obtain⟨e,g1,g2,g3⟩:=ho.mask j ops[j] (List.getElem?_eq_getElem hjl) y hy
        have gb:=ho.back j ops[j] (List.getElem?_eq_getElem hjl) e g1 g2
        rcases g3 with rfl | g3
        ·exact gb
        ·have:=ih e.on (by omega) y (by omega) g3;omega
      have:=hback (j+1) j (by omega) y hj hy
      simp;omega
    have:=uE ho hcl h1 h3 i (hc x (by omega) hxl i hlt)
    simp only[hL,decide_eq_true_eq]at this;omega
   ·omega
  subst hxi
  rw[List.range'_succ,wpOpsIn_cons]at h
  refine wpOpIn_mono (λa' w' h'=>?_) h
  refine NY ho hc k (x+1) (by omega) (by omega) fuel _ a' w' (by omega) (by simpa using hs) (λj=>?_) h'
  rw[wD (by omega),hL]
  by_cases hj:j=x
  ·simp[hj]
  ·rw[if_neg hj];congr 1;apply propext;omega
theorem Zj{ops:List Oper}{ms:List Nat}{b:Nat}(hb:b≤ops.length)(ho:Zi ops ms)(hc:Chain ops ms b)(hg:∀i o,i<b→ops[i]?=some o→∀j want,o.guard=some (j,want)→j<b)
  {QA:Exit→Act→World→Prop}(hQe:∀e a w,e≠.normal→QA e a w→Q e a w) (hQ:∀a w,QA .normal a w→wpOpsIn F n P ops.toArray Q (List.range' b (ops.length-b)) a w) :
  ∀(fuel:Nat) (LA L:Array Bool) (a:Act) (w:World),LA.size=b→L.size=ops.length→(∀j,j<b→L.getD j false=LA.getD j false)→(∀j,b≤j→L.getD j false=false)→Closed ops ms (λj=>L.getD j false)→
   wpAnyIn F n P .any (ops.take b).toArray QA fuel LA a w→wpAnyIn F n P .any ops.toArray Q (fuel+(ops.length-b)) L a w:=by
 have hlenA:(ops.take b).length=b:=by simp;omega
 have Zk:∀i,i<b→(ops.take b)[i]?=ops[i]?:=λi hi=>by rw[List.getElem?_take,if_pos hi]
 have rdA:∀(LA L:Array Bool),LA.size=b→L.size=ops.length→(∀j,j<b→L.getD j false=LA.getD j false)→∀i,i<b→(i∈Region.ready .any (ops.take b).toArray LA↔i∈Region.ready .any ops.toArray L):=by
  intro LA L h1 h2 h3 i hi
  rw[kF (h1.trans hlenA.symm),kF h2,Zk i hi,h3 i hi]
  constructor
  ·rintro⟨o,g1,g2,g3⟩
   exact⟨o,g1,g2,λe he hbd=>by rw[h3 e.on (by have:=ho.back i o g1 e he hbd;omega)];exact g3 e he hbd⟩
  ·rintro⟨o,g1,g2,g3⟩
   exact⟨o,g1,g2,λe he hbd=>by rw[←h3 e.on (by have:=ho.back i o g1 e he hbd;omega)];exact g3 e he hbd⟩
 have acQ:∀(LA:Array Bool),LA.size=b→Region.ready .any (ops.take b).toArray LA=[]→∀i,i<b→LA.getD i false=true:=by
  intro LA hs hr i
  induction i using Nat.strongRecOn with
  | _ i ih=>
   intro hi
   cases hx:LA.getD i false with
   | true=>rfl
   | false=>
    have hil:i<ops.length:=by omega
    have:i∈Region.ready .any (ops.take b).toArray LA:=(kF (hs.trans hlenA.symm)).2 ⟨ops[i],by rw[Zk i hi];exact List.getElem?_eq_getElem hil,hx,λe he hbd=>by
     have:=ho.back i ops[i] (List.getElem?_eq_getElem hil) e he hbd
     exact ih e.on this (by omega)⟩
    rw[hr]at this;cases this
 have Xc:∀(fuel:Nat) (LA L:Array Bool) (a:Act) (w:World),LA.size=b→L.size=ops.length→(∀j,j<b→L.getD j false=LA.getD j false)→(∀j,b≤j→L.getD j false=false)→Region.ready .any (ops.take b).toArray LA=[]→
     QA .normal a w→wpAnyIn F n P .any ops.toArray Q (fuel+(ops.length-b)) L a w:=by
  intro fuel LA L a w h1 h2 h3 h4 hr hq
  refine NY ho hc (ops.length-b) b (Nat.le_refl _) (by omega) _ L a w (by omega) h2 (λj=>?_) (hQ a w hq)
  by_cases hj:j<b
  ·rw[h3 j hj,acQ LA h1 hr j hj];simp[hj]
  ·rw[h4 j (by omega)];simp[hj]
 intro fuel
 induction fuel with
 | zero=>intro LA L a w h1 h2 h3 h4 _ h;exact Xc 0 LA L a w h1 h2 h3 h4 h.1 h.2
 | succ fuel ih=>
  intro LA L a w h1 h2 h3 h4 hcl h
  cases hr:Region.ready .any (ops.take b).toArray LA with
  | nil=>exact Xc (fuel+1) LA L a w h1 h2 h3 h4 hr (h.1 hr)
  | cons i0 is=>
   have hi0:i0∈Region.ready .any (ops.take b).toArray LA:=by rw[hr];exact List.mem_cons_self
   have acR:i0<b:=by
    obtain⟨o,g1,_⟩:=(kF (h1.trans hlenA.symm)).1 hi0
    have:=(List.getElem?_eq_some_iff.1 g1).1;omega
   rw[show fuel+1+(ops.length-b)=(fuel+(ops.length-b))+1 by omega]
   refine⟨λhn=>?_,λi hi=>?_⟩
   ·have:=(rdA LA L h1 h2 h3 i0 acR).1 hi0
    rw[hn]at this;cases this
   ·obtain⟨o,g1,g2,g3⟩:=(kF h2).1 hi
    have hil:=(List.getElem?_eq_some_iff.1 g1).1
    have hib:i<b:=by
     rcases Nat.lt_or_ge i b with h | h
     ·exact h
     ·have:=uE ho hcl g1 g3 i0 (hc i h hil i0 (by omega))
      obtain⟨_,_,q2,_⟩:=(kF (h1.trans hlenA.symm)).1 hi0
      rw[←h3 i0 acR]at q2
      rw[q2]at this;cases this
    have hA:=h.2 i ((rdA LA L h1 h2 h3 i hib).2 hi)
    have hA:=wpOpIn_mono (K':=wpAnyIn F n P .any ops.toArray Q (fuel+(ops.length-b)) (L.setIfInBounds i true)) (λa' w' h'=>ih _ _ a' w' (by simpa using h1) (by simpa using h2) (λj hj=>by
        rw[wD (by omega),wD (by omega),h3 j hj]) (λj hj=>by rw[wD (by omega),if_neg (by omega)];exact h4 j hj) (λj hj hjt x hx=>by
        simp only[wD (show i<L.size by omega)]at hjt ⊢
        by_cases hxi:x=i
        ·simp[hxi]
        ·rw[if_neg hxi]
         by_cases hji:j=i
         ·subst hji;exact uE ho hcl g1 g3 x hx
         ·rw[if_neg hji]at hjt;exact hcl j hj hjt x hx) h') hA
    unfold wpOpIn at hA ⊢
    have e1:(ops.take b).toArray[i]?=some o:=by have:=Zk i hib;simpa[g1] using this
    have e2:ops.toArray[i]?=some o:=by simpa using g1
    rw[e1]at hA
    rw[e2]
    simp only[]at hA ⊢
    have hw:Region.wanted o (yielded (ops.take b).toArray a.tmps)=Region.wanted o (yielded ops.toArray a.tmps):=by
     unfold Region.wanted
     cases hgu:o.guard with
     | none=>rfl
     | some jw=>
      obtain⟨j,want⟩:=jw
      have hj:=hg i o hib g1 j want hgu
      simp only[yielded]
      have:(ops.take b).toArray[j]?=ops.toArray[j]?:=by have:=Zk j hj;simpa using this
      rw[this]
    rw[hw]at hA
    split
    ·rename_i hwt
     rw[if_pos hwt]at hA
     unfold Oper.wpIn at hA ⊢
     refine⟨hA.1,?_⟩
     have hA:=hA.2
     generalize (o.semAt F.round a.eval).run P w=r at *
     cases r with
     | ok x w'=>
      cases x<;>simp only[Oper.uponIn]at hA ⊢<;>
       first
        | exact hA
        | exact⟨hA.1,CallsIn.mono hA.2 (λe w'' he=>by cases e<;>first | exact he | exact hQe (.panic _) _ _ (λh=>by cases h) he | exact (let ⟨a,w,h⟩:=he;⟨a,w,hQe .outgrown _ _ (λh=>by cases h) h⟩))⟩
        | exact⟨hA.1,RoundIn.mono hA.2 (λe w'' he=>by cases e<;>first | exact he | exact hQe (.panic _) _ _ (λh=>by cases h) he | exact (let ⟨a,w,h⟩:=he;⟨a,w,hQe .outgrown _ _ (λh=>by cases h) h⟩))⟩
     | halt x w'=>cases x<;>simp only[Oper.uponIn]at hA ⊢<;>first | exact hA | exact hQe (.panic _) _ _ (λh=>by cases h) hA
    ·rename_i hwt
     rw[if_neg hwt]at hA
     exact hA
end
end Lp
namespace Lp
open Go
open List (all_eq_true foldl_cons mem_range)
open Bool (and_eq_true not_eq_true' or_eq_true)
structure Step where
 dst:Option Nat
 op:Op
 g:Option (Option Nat×Bool)
 own:Bool
inductive LC where
 | skip
 | ret
 | bad
 | reg (ss:List Step)
 | draw (ss:List Step) (un:List Nat)
 | NZ (b:Nat) (ss:List Step) (un:List Nat)
 | seq (a b:LC)
 | cond (c:Operand) (a b:LC)
 | block (id:Nat) (c:LC)
 | loop (ks:List Bool) (fz:Option (Nat×Nat)) (c:LC)
 | exit (id:Nat)
 | weak (c:LC)
 | rf (f:Operand) (ps:List Nat) (fz:Option (Nat×Nat)) (a b:LC)
def jd(ops:List Oper)(ms:List Nat):List Nat:=
 (List.range ops.length).map λi=>(List.range i).foldl (λu j=>if (ms.getD i 0).testBit j then u else u ||| (1 <<<j)) 0
def dA(ops:List Oper)(ms:List Nat):Bool:=
 let ls:=ops.map (fO ops)
 let zs:=ops.map λ_=>0
 (List.range ops.length).all λi=>
  match ops[i]? with
  | none=>true
  | some o=>
   (o.after.toList.all λe=>!Region.binds .any e || decide (e.on<i)) &&
   (ms.getD i 0 &&& qi ms o==ms.getD i 0) &&
   (List.range i).all λj=>
    (ms.getD i 0).testBit j || !clash ((ops[j]?).bind (·.dst)) o.dst (ls.getD j []) (ls.getD i []) (zs.getD j 0) (zs.getD i 0)
def dN(ops:List Oper):Bool:=(List.range ops.length).all λi=>match (ops[i]?).bind (·.guard) with
 | some (j,_)=>decide (j<i)
 | none=>true
def E8(b:Nat)(un:List Nat):Bool:=decide (b≤un.length) && (List.range un.length).all λi=>decide (i<b) || un.getD i 0==0
def lq(un ts:List Nat):Bool:=
 (List.range un.length).all λi=>co (ts.getD i 0)==0 || (List.range i).all λj=>!(un.getD i 0).testBit j || !((co (ts.getD j 0)==2 && co (ts.getD i 0) !=0) || (co (ts.getD i 0)==2 && co (ts.getD j 0) !=0))
def zY(un ts:List Nat)(b:Nat):Bool:=
 ((List.range un.length).all λi=>if i<b then Bj (ts.getD i 0) else if i=b then ts.getD i 0==2 else ts.getD i 0==0) && decide (b≤un.length) &&
 (decide (b=un.length) || (List.range b).all λj=>ts.getD j 0==0 || !(un.getD b 0).testBit j) &&
 (List.range un.length).all λi=>(List.range i).all λj=>!(un.getD i 0).testBit j || !zX (ts.getD j 0) (ts.getD i 0)
def ji(un ts:List Nat):Bool:=lq un ts || zY un ts (ts.findIdx (·==2))
def stepOf(ops:List Oper)(o:Oper):Step:=⟨o.dst,o.op,match o.guard with
 | none=>none
 | some (j,b)=>some ((ops[j]?).bind (·.dst),b),false⟩
def comp:Code→LC
 | .skip=>.skip
 | .ret=>.ret
 | .exit id=>.exit id
 | .region _ ops false=>.reg (ops.toList.map (stepOf ops.toList))
 | .region _ ops true=>bif dA ops.toList (masks ops.toList []) && dN ops.toList then .draw (ops.toList.map (stepOf ops.toList)) (jd ops.toList (masks ops.toList [])) else .bad
 | .seq a b=>.seq (comp a) (comp b)
 | .cond c a b=>.cond c (comp a) (comp b)
 | .block id c=>.block id (comp c)
 | .loop c=>.loop [] none (comp c)
 | .rangeFunc f ps a b=>.rf f ps.toList none (comp a) (comp b)
 | _=>.bad
def uF(s:Step):Step:={ s with own:=false }
def strip:LC→LC
 | .reg ss=>.reg (ss.map uF)
 | .draw ss un=>.draw (ss.map uF) un
 | .NZ _ ss un=>.draw (ss.map uF) un
 | .seq a b=>.seq (strip a) (strip b)
 | .cond c a b=>.cond c (strip a) (strip b)
 | .block id c=>.block id (strip c)
 | .loop _ _ c=>.loop [] none (strip c)
 | .weak c=>strip c
 | .rf f ps _ a b=>.rf f ps none (strip a) (strip b)
 | c=>c
abbrev Ni:=FuncId→List PV→List Obj→KT→Prop
abbrev YT:=List PV→List Obj→(Bool→List Obj→Prop)→Prop
def jA(P:Program)(f:FuncId)(args:List PV)(objs:List Obj)(K:KT):Prop:=
 Enters P f∧
 ∀(base ah:Nat→Prop) (w0:Wz) (tmps:List PV) (blk:Nat→Option Nat) (a:Act) (w:World) (vs:List Value),Rel base ah w0 ⟨tmps,objs⟩ blk a w→
  bG (aO w (aZ base objs blk) objs blk) args vs→
  Calls P f ⟨vs⟩ w λe w'=>∃v r ai ak,e=.returned v∧K r ai 2∧Rel base ah w0 ⟨tmps,ai⟩ ak a w'∧aO w' (aZ base ai ak) ai ak r v
structure Know where
 fn:Ni
 y:Nat
 Y:YT
 top:Bool
 gives:FuncId→List PV→List (List PV)→Prop
 nx:Nat
 rg:Bool:=true
 bb:Bool:=false
 bn:Nat:=0
 YB:YT:=λ_ _ _=>False
 gb:FuncId→List PV→List (List PV)→Prop:=λ_ _ _=>False
 ge:FuncId→List PV→List (List PV)→Prop:=λ_ _ _=>False
 fa:Ni:=λ_ _ _ _=>False
def Iq(ys:List (List PV))(I J:Nat→List Obj→Prop):YT:=λargs objs K=>∃i,I i objs∧ys[i]?=some args∧(∀ai,I (i+1) ai→K true ai)∧∀ai,J i ai→K false ai
def aaH(T:Know)(ev:Operand→PV)(f:PV)(args:List PV)(objs:List Obj)(K:KT):Prop:=
 T.bb=true∧T.bn≤objs.length∧(∀o∈objs.take T.bn,o.live=true→∀x∈o.xs,∀p∈x.cells,p.mE T.bn=true)∧(∀t,(ev (.tmp t)).ge T.bn=true)∧Zh T.bn (objs.drop T.bn)∧
 match f with
 | .fn g first cap=>∃bargs ys I J,first++args++cap=bargs++[.qI T.y]∧bargs.all PV.pure=true∧T.gb g bargs ys∧(∀args O K,Iq ys I J args O K→T.YB args O K)∧I 0 (objs.take T.bn)∧
   (∀i O,I i O→O.length=T.bn∧bI O)∧(∀i O,J i O→O.length=T.bn∧bI O∧bC O)∧(∀O,I ys.length O→K (.bool true) (O++objs.drop T.bn) 2)∧∀i O,i<ys.length→J i O→K (.bool false) (O++objs.drop T.bn) 2
 | .qI l=>l=T.y∧args.all PV.pure=true∧T.YB args (objs.take T.bn) λb o=>o.length=T.bn∧K (.bool b) (o++objs.drop T.bn) 2
 | _=>False
def aaI(T:Know)(f:PV)(args:List PV)(objs:List Obj)(K:KT):Prop:=
 T.rg=true∧match f with
 | .fn g first cap=>T.fa g (first++args++cap) objs K
 | _=>False
def pu(T:Know)(pt:Bool)(f:PV)(args:List PV)(objs:List Obj)(K:KT):Prop:=
 match f with
 | .fn g first cap=>T.fn g (first++args++cap) objs K
 | .qI l=>l=T.y∧pt=true∧args.all PV.pure=true∧T.Y args objs λb o=>K (.bool b) o 2
 | _=>False
def Know.QW (T:Know):Know:={ T with Y:=λ_ _ _=>False,rg:=false,bb:=false }
def Know.inner (T:Know)(n:Nat):Know:={ T with Y:=λ_ _ _=>False,nx:=n,bb:=false }
def Know.oV (T:Know)(n:Nat):Know:={ T with Y:=λ_ _ _=>False,nx:=n }
def kX(P:Program)(D:TypeId→aD)(T:Know)(own pt:Bool)(ev:Operand→PV)(objs:List Obj)(op:Op)(K:KT):Prop:=
 match op with
 | .call { callee:=.value f,args,.. }=>bif own then aaH T ev (ev f) (args.toList.map ev) objs K∨aaI T (ev f) (args.toList.map ev) objs K else pu T pt (ev f) (args.toList.map ev) objs K
 | .next x false=>T.rg=true∧nextR (ev x) objs K
 | op=>Io P D own ev objs op K
def wE(g:Option (Option Nat×Bool))(S:St)(X Y:St→Prop):Prop:=
 match g with
 | none=>X S
 | some (none,_)=>False
 | some (some d,want)=>
  match S.tmps.getD d .dead with
  | .bool b=>(b=want→X { S with tmps:=S.tmps.set d (.bool want) })∧(b=!want→Y { S with tmps:=S.tmps.set d (.bool !want) })
  | .bY []=>Y S
  | _=>False
def LR(P:Program)(D:TypeId→aD)(T:Know):List Step→St→List Nat→(St→List Nat→Prop)→Prop
 | [],S,ts,K=>K S ts
 | s::rest,S,ts,K=>
  wE s.g S
   (λS=>kX P D T s.own (S.tmps.all PV.pure) S.ev S.objs s.op λr ai t=>LR P D T rest (St.put ⟨S.tmps,ai⟩ s.dst r) (ts++[t]) K)
   (λS=>LR P D T rest (S.put s.dst (.bY [])) (ts++[0]) K)
def Gg(fz:Option (Nat×Nat))(I:List Obj→Prop):Exit→St→Prop
 | .normal,S=>I (S.norm [] fz).objs
 | _,_=>False
def jH:List Nat→List PV→List PV→List PV
 | p::ps,y::ys,tm=>jH ps ys (tm.set p y)
 | _,_,tm=>tm
def vU:Obj:=⟨0,0,[],true,0⟩
def fF(k:Nat)(O:List Obj):List Obj:=(O.set k hole).set (k+1) vU
def Gh(k:Nat)(O:List Obj):Prop:=k+2≤O.length∧bI O∧O[k]?=some vU∧O[k+1]?=some hole
def zZ:Exit→Option Code
 | .ret=>some .ret
 | .exit id=>some (.exit id)
 | _=>none
def Bp(fz:Option (Nat×Nat))(I:List Obj→Prop)(lv:Exit)(J:List Obj→Prop):Exit→St→Prop
 | .normal,S=>I (S.norm [] fz).objs
 | e,S=>e=lv∧J (S.norm [] fz).objs
def iK(P:Program)(D:TypeId→aD):Know→LC→(Exit→St→Prop)→St→Prop
 | _,.skip,Q,S=>Q .normal S
 | _,.ret,Q,S=>Q .ret S
 | _,.bad,_,_=>False
 | T,.reg ss,Q,S=>LR P D T ss S [] λS' _=>Q .normal S'
 | T,.draw ss un,Q,S=>LR P D T.QW ss S [] λS' ts=>ji un ts=true∧Q .normal S'
 | T,.NZ b ss un,Q,S=>E8 b un=true∧LR P D T.QW (ss.take b) S [] λS' ts=>ji (un.take b) ts=true∧LR P D T (ss.drop b) S' [] λQU _=>Q .normal QU
 | T,.seq a b,Q,S=>iK P D T a (thenS (λS'=>iK P D T b Q S') Q) S
 | T,.cond c a b,Q,S=>zB (S.ev c) (iK P D T a Q S) (iK P D T b Q S)
 | T,.block id c,Q,S=>iK P D T c (rM id Q) S
 | T,.loop ks fz c,Q,S=>C8 T.nx fz∧∃I:Nat→St→Prop,(∃S0 m,Weak T.nx S S0∧I m S0)∧
   ∀m S,I m S→iK P D T c (thenS (λS'=>∃m',m'<m∧I m' (S'.norm ks fz)) Q) S
 | _,.exit id,Q,S=>Q (.exit id) S
 | T,.weak c,Q,S=>∃S',Weak T.nx S S'∧iK P D T c Q S'
 | T,.rf f ps fz x y,Q,S=>T.top=true∧((∃(g:FuncId) (cap:List PV) (ys:List (List PV)),
   S.ev f=.fn g [] cap∧cap.all PV.pure=true∧T.gives g cap ys∧(∀y∈ys,y.length=ps.length)∧
   ((∃I:Nat→List Obj→Prop,C8 S.objs.length fz∧I 0 S.objs∧(∀i objs,I i objs→S.objs.length≤objs.length∧bI objs)∧
    (∀i args objs,I i objs→ys[i]?=some args→iK P D (T.inner S.objs.length) x (thenS (λS1=>iK P D (T.inner S.objs.length) y (Gg fz (I (i+1))) S1) (λ_ _=>False)) ⟨jH ps args S.tmps,objs⟩)∧
    ∀objs,I ys.length objs→Q .normal ⟨S.tmps,objs⟩)∨
   (∃(I J:Nat→List Obj→Prop) (lv:Exit) (lc:Code),zZ lv=some lc∧C8 (S.objs.length+2) fz∧I 0 (S.objs++[vU,hole])∧(∀i objs,I i objs→Gh S.objs.length objs)∧(∀i objs,J i objs→Gh S.objs.length objs∧bC objs)∧
    (∀i args objs,I i objs→ys[i]?=some args→iK P D (T.inner (S.objs.length+2)) x (thenS (λS1=>iK P D (T.inner (S.objs.length+2)) y (Bp fz (I (i+1)) lv (J i)) S1) (λ_ _=>False)) ⟨jH ps args S.tmps,objs⟩)∧
    (∀objs,I ys.length objs→Q .normal ⟨S.tmps,objs⟩)∧∀i objs,i<ys.length→J i objs→Q lv ⟨S.tmps,fF S.objs.length objs⟩)∨
   (T.bb=true∧T.bn≤S.objs.length∧(∀p∈S.tmps,p.ge T.bn=true)∧T.nx≤S.objs.length∧∃(I J:Nat→List Obj→Prop) (lv:Exit) (lc:Code),zZ lv=some lc∧C8 (S.objs.length+2) fz∧I 0 (S.objs++[vU,hole])∧(∀i objs,I i objs→Gh S.objs.length objs)∧(∀i objs,J i objs→Gh S.objs.length objs∧bC objs)∧
    (∀i args objs,I i objs→ys[i]?=some args→iK P D (T.oV (S.objs.length+2)) x (thenS (λS1=>iK P D (T.oV (S.objs.length+2)) y (Bp fz (I (i+1)) lv (J i)) S1) (λ_ _=>False)) ⟨jH ps args S.tmps,objs⟩)∧
    (∀objs,I ys.length objs→Q .normal ⟨S.tmps,objs⟩)∧∀i objs,i<ys.length→J i objs→Q lv ⟨S.tmps,fF S.objs.length objs⟩)))∨
   ∃(g:FuncId) (cap:List PV) (ys:List (List PV)) (I:Nat→List Obj→Prop),S.ev f=.fn g [] cap∧cap.all PV.pure=true∧T.ge g cap ys∧(∀y∈ys,y.length=ps.length)∧
    C8 S.objs.length fz∧I 0 S.objs∧(∀i objs,I i objs→S.objs.length=objs.length∧bI objs)∧
    (∀i args objs,I i objs→ys[i]?=some args→iK P D (T.inner S.objs.length) x (thenS (λS1=>iK P D (T.inner S.objs.length) y (Gg fz (I (i+1))) S1) (λ_ _=>False)) ⟨jH ps args S.tmps,objs⟩)∧
    ∀objs,I ys.length objs→Q .normal ⟨S.tmps,objs⟩)
def jP(P:Program)(T:Ni):Prop:=∀f args objs K,T f args objs K→∃r ai t,mI P f args objs r ai t∧K r ai t
def IG(P:Program)(ah:Nat→Prop)(V:Wz→Prop)(ex:Nat→Prop)(y:Nat)(Y:YT):Prop:=
 ∀(objs:List Obj) (blk:Nat→Option Nat) (w:World) (args:List PV) (vs:List Value) (K:Bool→List Obj→Prop) (base' iD:Nat→Prop) (H:Array Go.Obj) (z:Wz),
  V z→uz ah z H→(∀b,ah b→iD b)→Rel base' iD ⟨H,z.xs,z.nx,z.out⟩ ⟨[],objs⟩ blk wC w→bG (cu w (aZ base' objs blk)) args vs→Y args objs K→
  ∃r:Loop,w.heap[y]?=some (.loop r)∧vs.length=r.params.size∧(∀b,ex b→∃r,w.heap[b]?=some (.loop r))∧
   RoundIn (Ba none) 0 P y r.fn ((r.params.zip (⟨vs⟩:Array Value)).foldl (λt (p,v)=>t.setIfInBounds p v) r.tmps) r.assign r.body w
    (λe w'=>∃b ai ak zn H',e=.returned (.bool b)∧K b ai∧V zn∧zn.heap.size≤z.heap.size∧uz ah zn H'∧H'.size=H.size∧(∀b,¬ ex b→H'[b]?=H[b]?)∧Rel base' iD ⟨H',zn.xs,zn.nx,zn.out⟩ ⟨[],ai⟩ ak wC w')
def EG(ex eP:Nat→Prop)(V0:Wz→Prop)(n:Nat)(ah:Nat→Prop)(V:Wz→Prop):Prop:=
 (∀b,eP b→ah b)∧∀(z3:Wz) (w:World),V z3→uz ah z3 w.heap→(∀x∈z3.xs,x.1.lt z3.nx=true)→Sm z3.out w→∃z,V0 z∧uz eP z w.heap∧(∀x∈z.xs,x∈z3.xs∧x.1.lt z.nx=true)∧Sm z.out w∧
  ∀(zn:Wz) (w':World),V0 zn→zn.heap.size≤z.heap.size→uz eP zn w'.heap→(∀x∈zn.xs,x.1.lt zn.nx=true)→(∀b,ah b→¬ ex b→w'.heap[b]?=w.heap[b]?)→w.heap.size≤w'.heap.size→Sm zn.out w'→
   ∃wn,V wn∧wn.heap.size≤z3.heap.size∧uz ah wn w'.heap∧(∀x∈wn.xs,(x∈zn.xs∧zn.nx≤wn.nx)∨(x∈z3.xs∧z3.nx≤wn.nx∧x.1.ge n=true))∧Sm wn.out w'
theorem EG.refl {ex ah:Nat→Prop}{V:Wz→Prop}{n:Nat}:EG ex ah V n ah V:=
 ⟨λ_ h=>h,λz3 _ hz hf hx hs=>⟨z3,hz,hf,λx h=>⟨h,hx x h⟩,hs,λzn _ hzn hzs hf' _ _ _ hs'=>⟨zn,hzn,hzs,hf',λx hx=>.inl ⟨hx,Nat.le_refl _⟩,hs'⟩⟩⟩
theorem Rel.fit {base ah:Nat→Prop}{w0:Wz}{S:St}{blk:Nat→Option Nat}{a:Act}{w:World}(R:Rel base ah w0 S blk a w):uz ah w0 w.heap:=⟨λb hb=>⟨R.pr b hb,R.fr b hb⟩,R.gr,R.gl⟩
def ol(ex ah:Nat→Prop)(V:Wz→Prop):Prop:=∀b,ex b→ah b∧∀z,V z→∃r,z.heap[b]?=some (.loop r)
def fC(P:Program)(f:FuncId)(bargs:List PV)(ys:List (List PV)):Prop:=
 Enters P f∧
 ∀(I J:Nat→List Obj→Prop) (base ah:Nat→Prop) (V:Wz→Prop) (ex:Nat→Prop) (y:Nat) (objs:List Obj) (blk:Nat→Option Nat) (w:World) (vs:List Value),
  IG P ah V ex y (Iq ys I J)→ol ex ah V→(∀z,V z→z.nx≤objs.length)→jO base ah V ⟨[],objs⟩ blk wC w→I 0 objs→(∀i O,I i O→O.length=objs.length∧bI O)→(∀i O,J i O→O.length=objs.length∧bI O∧bC O)→
  bG (cu w (aZ base objs blk)) (bargs++[.qI y]) vs→
  Calls P f ⟨vs⟩ w λe w'=>∃b ai ak,e=.returned (.bool b)∧((b=true∧I ys.length ai)∨(b=false∧∃i,i<ys.length∧J i ai))∧jO base ah V ⟨[],ai⟩ ak wC w'
def YQ(P:Program)(ah:Nat→Prop)(V:Wz→Prop)(T:Know):Prop:=
 T.bb=true→∃(ex eP:Nat→Prop) (V0:Wz→Prop),IG P eP V0 ex T.y T.YB∧ol ex eP V0∧EG ex eP V0 T.bn ah V∧(∀z,V0 z→z.nx≤T.bn)∧ol ex ah V
variable {P:Program}{D:TypeId→aD}{T:Know}{l:Option Nat}
theorem U0(hT:jP P T.fn){own pt:Bool}{ev:Operand→PV}{objs:List Obj}{op:Op}{K:KT}(h:kX P D T.QW own pt ev objs op K):Io P D own ev objs op K:=by
 unfold kX at h
 split at h
 ·cases own with
  | true=>exact h.elim (λh=>absurd h.1 Bool.false_ne_true) λh=>absurd h.1 Bool.false_ne_true
  | false=>
   simp only[cond_false]at h
   unfold pu at h
   split at h
   ·rename_i e
    simp only[Io,FY,e]
    exact hT _ _ _ _ h
   ·exact h.2.2.2.elim
   ·exact h.elim
 ·exact absurd h.1 Bool.false_ne_true
 ·exact h
section
variable {base ah base0 eP:Nat→Prop}{V V0:Wz→Prop}{S:St}{blk:Nat→Option Nat}{a:Act}{w:World}{n y:Nat}{args:List PV}{vs:List Value}
theorem xV{w0:Wz}(R:Rel base ah w0 S blk a w)(b:Nat)(hb:ah b):zD S.objs blk n w b:=
 ⟨Nat.lt_of_lt_of_le (R.pr b hb) R.gr,λk o h1 h2 h3=>R.objs.np k o b (dV h1).2 h2 h3 hb⟩
theorem J8(h:bG (cu w (aZ base S.objs blk)) args vs):bG (cu w (aZ (hbase base S.objs blk n) (S.objs.take n) blk)) args vs:=
 h.mono λ_ _ h=>h.o_ λ_ _ hb=>⟨⟨hb.1,λk o _ h1 h2=>hb.2 k o h1 h2⟩,λk o h1 h2=>hb.2 k o (dV h1).2 h2⟩
theorem N7{ex:Nat→Prop}{Y:YT}{K:Bool→List Obj→Prop}(hY:IG P eP V0 ex y Y)(hW:EG ex eP V0 n ah V)(R:jO base ah V S blk a w)(hlt:n=S.objs.length∨∀z,V0 z→z.nx≤n)
  (hcl:∀o∈S.objs.take n,o.live=true→∀x∈o.xs,∀p∈x.cells,p.mE n=true) (QV:∀p∈S.tmps,p.ge n=true) (hX:Zh n (S.objs.drop n)) (hargs:bG (cu w (aZ base S.objs blk)) args vs) (hYy:Y args (S.objs.take n) K)
  (hK:∀b o,K b o→o.length=n∨S.objs.length=n) :
  ∃r:Loop,w.heap[y]?=some (.loop r)∧vs.length=r.params.size∧
   RoundIn (Ba none) 0 P y r.fn ((r.params.zip (⟨vs⟩:Array Value)).foldl (λt (p,v)=>t.setIfInBounds p v) r.tmps) r.assign r.body w
    (λe w'=>∃b O' ak,e=.returned (.bool b)∧K b O'∧jO base ah V ⟨S.tmps,O'++S.objs.drop n⟩ ak a w'):=by
 obtain⟨w0,hV,R⟩:=R
 obtain⟨z,hz,hf,hxs,hsm,hup⟩:=hW.2 w0 w hV R.fit R.yQ R.sm
 have hltx:∀x∈z.xs,x.1.lt n=true:=λx hx=>by
  rcases hlt with h | h
  ·rw[h];exact uD (R.ext x (hxs x hx).1)
  ·exact mM (h z hz) (hxs x hx).2
 have R1:=R.hide (n:=n) (z:=z) (λx hx=>⟨(hxs x hx).1,(hxs x hx).2,hltx x hx⟩) hsm hcl
 have hpp:∀b,eP b→zD S.objs blk n w b:=λb hb=>xV R b (hW.1 b hb)
 obtain⟨r,hr,hsz,hex,hrd⟩:=hY _ _ w args vs K _ _ w.heap z hz hf hpp R1 (J8 hargs) hYy
 refine⟨r,hr,hsz,RoundIn.mono hrd ?_⟩
 rintro e w' ⟨b,O',ak,zn,H',he,hK',hzn,hzs,hfn,hHs,hHy,R2⟩
 have hfw:uz eP zn w'.heap:=⟨λb hb=>⟨(hfn.at' b hb).1,(R2.fr b (hpp b hb)).trans (hfn.at' b hb).2⟩,Nat.le_trans hfn.le R2.gr,hfn.gl⟩
 obtain⟨wn,hwn,_,h1,h3,h4⟩:=hup zn w' hzn hzs hfw R2.yQ (λb hb hby=>(R2.fr b (xV R b hb)).trans (hHy b hby)) (by rw[←hHs];exact R2.gr) R2.sm
 exact⟨b,O',_,he,hK',wn,hwn,R.Xb R2 hHs hHy hex (hK b O' hK') QV hX h1.at' h1.le h3 h4 h1.gl⟩
theorem QX{ex:Nat→Prop}{Y:YT}{g:FuncId}{bargs:List PV}{ys:List (List PV)}{I J:Nat→List Obj→Prop}(hG:fC P g bargs ys)(hY:IG P eP V0 ex y Y)(hex:ol ex eP V0)(hW:EG ex eP V0 n ah V)
  (hnx:∀z,V0 z→z.nx≤n) (R:jO base ah V S blk a w) (hn:n≤S.objs.length) (hcl:∀o∈S.objs.take n,o.live=true→∀x∈o.xs,∀p∈x.cells,p.mE n=true) (QV:∀p∈S.tmps,p.ge n=true)
  (hX:Zh n (S.objs.drop n)) (hle:∀args O K,Iq ys I J args O K→Y args O K) (hI0:I 0 (S.objs.take n)) (je:∀i O,I i O→O.length=n∧bI O) (jB:∀i O,J i O→O.length=n∧bI O∧bC O)
  (hargs:bG (cu w (aZ base S.objs blk)) (bargs++[.qI y]) vs) :
  Calls P g ⟨vs⟩ w λe w'=>∃b O' ak,e=.returned (.bool b)∧((b=true∧I ys.length O')∨(b=false∧∃i,i<ys.length∧J i O'))∧jO base ah V ⟨S.tmps,O'++S.objs.drop n⟩ ak a w':=by
 obtain⟨w0,hV,R⟩:=R
 obtain⟨z,hz,hf,hxs,hsm,hup⟩:=hW.2 w0 w hV R.fit R.yQ R.sm
 have R1:=R.hide (n:=n) (z:=z) (λx hx=>⟨(hxs x hx).1,(hxs x hx).2,mM (hnx z hz) (hxs x hx).2⟩) hsm hcl
 have hpp:∀b,eP b→zD S.objs blk n w b:=λb hb=>xV R b (hW.1 b hb)
 have hlen:(S.objs.take n).length=n:=by simp;omega
 have aeg:∀b,ex b→∃r,w.heap[b]?=some (.loop r):=λb hb=>by
  obtain⟨h1,h2⟩:=hex b hb
  obtain⟨r,hr⟩:=h2 z hz
  exact⟨r,(hf.at' b h1).2.trans hr⟩
 obtain⟨V',hV'⟩:∃V':Wz→Prop,V'=λz'=>∃zz,V0 zz∧zz.heap.size≤z.heap.size∧uz eP zz z'.heap∧z'.xs=zz.xs∧z'.nx=zz.nx∧z'.out=zz.out∧z'.heap.size=w.heap.size∧∀b,¬ ex b→z'.heap[b]?=w.heap[b]?:=⟨_,rfl⟩
 have hY':IG P (zD S.objs blk n w) V' ex y (Iq ys I J):=by
  intro bO dI w2 args vs2 K acS g_ H z' hz' hfit hsub R2 abz hy2
  rw[hV']at hz'
  obtain⟨zz,hzz,hzl,hfz,e1,e2,e3,e4,e5⟩:=hz'
  have acT:uz eP zz H:=⟨λb hb=>⟨(hfz.at' b hb).1,(hfit.at' b (hpp b hb)).2.trans (hfz.at' b hb).2⟩,Nat.le_trans hfz.le hfit.le,hfz.gl⟩
  rw[e1,e2,e3]at R2
  obtain⟨r2,hr2,hsz,aeh,hrd⟩:=hY bO dI w2 args vs2 K acS g_ H zz hzz acT (λb hb=>hsub b (hpp b hb)) R2 abz (hle _ _ _ hy2)
  refine⟨r2,hr2,hsz,aeh,RoundIn.mono hrd ?_⟩
  rintro e w3 ⟨b,O',ak,zn,H',he,hK',hzn,hzs,hfn,hHs,hHy,R3⟩
  classical
  obtain⟨hp,hp1,hp2⟩:∃hp:Array Go.Obj,hp.size=z'.heap.size∧∀b,b<z'.heap.size→hp[b]?=if z'.heap[b]?=H[b]? then H'[b]? else z'.heap[b]?:=by
   refine⟨(Array.range z'.heap.size).map λb=>(if z'.heap[b]?=H[b]? then H'[b]? else z'.heap[b]?).getD default,by simp,λb hb=>?_⟩
   rw[Array.getElem?_map,Array.getElem?_range,if_pos hb]
   have h1:b<H.size:=by have:=hfit.le;omega
   have h2:b<H'.size:=by omega
   simp only[Option.map_some]
   split
   ·rw[Array.getElem?_eq_getElem h2];rfl
   ·rw[Array.getElem?_eq_getElem hb];rfl
  have hH':∀b,zD S.objs blk n w b→b<z'.heap.size∧H'[b]?=hp[b]?:=λb hb=>by
   obtain⟨h1,h2⟩:=hfit.at' b hb
   exact⟨h1,by rw[hp2 b h1,if_pos h2.symm]⟩
  have hfp:uz eP zn hp:=⟨λb hb=>⟨(hfn.at' b hb).1,by rw[←(hH' b (hpp b hb)).2];exact (hfn.at' b hb).2⟩,by rw[hp1];exact Nat.le_trans hzs hfz.le,hfn.gl⟩
  refine⟨b,O',ak,⟨hp,zn.xs,zn.nx,zn.out⟩,H',he,hK',?_,Nat.le_of_eq hp1,⟨λb hb=>⟨by show b<hp.size;rw[hp1];exact (hH' b hb).1,(hH' b hb).2⟩,by show hp.size≤H'.size;rw[hp1,hHs];exact hfit.le,?_,λb hb=>(hfit.gl.2 b hb)⟩,hHs,hHy,R3⟩
  ·rw[hV']
   refine⟨zn,hzn,Nat.le_trans hzs hzl,hfp,rfl,rfl,rfl,hp1.trans e4,λb hb=>?_⟩
   show hp[b]?=_
   by_cases hbl:b<z'.heap.size
   ·rw[hp2 b hbl]
    split
    ·rename_i h;rw[hHy b hb,←h];exact e5 b hb
    ·exact e5 b hb
   ·rw[←e5 b hb,Array.getElem?_eq_none (by omega),Array.getElem?_eq_none (by omega)]
  ·exact mr.keep (λb hb=>(hfp.at' b (hfn.gl.2 b hb)).2) hfn.gl.1
 refine (hG.2 I J _ _ V' ex y (S.objs.take n) blk w vs hY' (λb hb=>⟨hpp b (hex b hb).1,λz' hz'=>?_⟩) (λz' hz'=>?_) ⟨⟨w.heap,z.xs,z.nx,z.out⟩,by rw[hV'];exact⟨z,hz,Nat.le_refl _,hf,rfl,rfl,rfl,rfl,λ_ _=>rfl⟩,R1⟩ hI0 (λi O h=>by rw[hlen];exact je i O h) (λi O h=>by rw[hlen];exact jB i O h) (J8 hargs)).mono ?_
 ·rw[hV']at hz'
  obtain⟨zz,hzz,_,hfz,_⟩:=hz'
  obtain⟨h1,h2⟩:=hex b hb
  obtain⟨rn,hrn⟩:=h2 zz hzz
  exact⟨rn,(hfz.at' b h1).2.trans hrn⟩
 ·rw[hV']at hz'
  obtain⟨zz,hzz,_,hfz,e1,e2,_⟩:=hz'
  rw[e2,hlen];exact hnx zz hzz
 ·rintro e w' ⟨b,O',ak,he,hIJ,z',hz',R2⟩
  rw[hV']at hz'
  obtain⟨zn,hzn,hzl,hfn,e1,e2,e3,e4,e5⟩:=hz'
  have R2:Rel (hbase base S.objs blk n) (zD S.objs blk n w) ⟨z'.heap,zn.xs,zn.nx,zn.out⟩ ⟨[],O'⟩ ak wC w':=by rw[←e1,←e2,←e3];exact R2
  have hfw:uz eP zn w'.heap:=⟨λb hb=>⟨(hfn.at' b hb).1,(R2.fr b (hpp b hb)).trans (hfn.at' b hb).2⟩,Nat.le_trans hfn.le R2.gr,hfn.gl⟩
  obtain⟨wn,hwn,_,h1,h3,h4⟩:=hup zn w' hzn hzl hfw R2.yQ (λb hb hby=>(R2.fr b (xV R b hb)).trans (e5 b hby)) (by rw[←e4];exact R2.gr) R2.sm
  have hO:O'.length=n:=by
   rcases hIJ with ⟨_,h⟩ | ⟨_,i,_,h⟩
   ·exact (je _ _ h).1
   ·exact (jB _ _ h).1
  exact⟨b,O',_,he,hIJ,wn,hwn,R.Xb R2 e4 e5 aeg (.inl hO) QV hX h1.at' h1.le h3 h4 h1.gl⟩
end
theorem Eb{l:Option Nat}{n y:Nat}{f:FuncId}{t:Array Value}{x b:Code}{w:World}{R:Ending→World→Prop}(h:RoundIn (Ba none) n P y f t x b w R):RoundIn (Ba l) n P y f t x b w R:=h
theorem wF{ps qs:List PV}{us ws:List Value}{Rr:PV→Value→Prop}(h1:bG Rr ps us)(h2:bG Rr qs ws):bG Rr (ps++qs) (us++ws):=by
 refine⟨by simp[h1.1,h2.1],λi p v hp hv=>?_⟩
 rw[List.getElem?_append]at hp hv
 by_cases hi:i<ps.length
 ·rw[if_pos hi]at hp;rw[if_pos (by rw[←h1.1];exact hi)]at hv;exact h1.2 _ _ _ hp hv
 ·rw[if_neg hi]at hp;rw[if_neg (by rw[←h1.1];exact hi)]at hv;rw[←h1.1]at hv;exact h2.2 _ _ _ hp hv
theorem Tx{o:Oper}{f:Operand}{args:Array Operand}{ats:Array TypeId}{a:Act}{w:World}{y:Nat}{r:Loop}(ho:o.op=.call { callee:=.value f,args:=args,argTypes:=ats })(hv:a.eval f=.func (.yield y) #[] #[])
  (hr:w.heap[y]?=some (.loop r)) (hsz:(args.toList.map a.eval).length=r.params.size) :
  (execOp a.eval o).run P w=.ok (.round y r.fn ((r.params.zip (⟨args.toList.map a.eval⟩:Array Value)).foldl (λt (p,v)=>t.setIfInBounds p v) r.tmps) r.assign r.body) w:=by
 have e1:args.map a.eval=Array.mk (args.toList.map a.eval):=by apply Array.ext';simp
 simp only[execOp,ho,resolve,hv,Deferred.ofValue,Sem.run_bind,Sem.run_pure,Result.andThen_ok,invoke]
 rw[e1]
 rw[Array.empty_append]
 exact run_yield (args:=Array.mk (args.toList.map a.eval)) hr (by simpa using hsz)
theorem Zl{base ah:Nat→Prop}{V:Wz→Prop}{S:St}{blk:Nat→Option Nat}{a:Act}{w:World}{own:Bool}{o:Oper}{K:KT}{next:Act→World→Prop}{Q:Exit→Act→World→Prop}
  (hD:∀t,fB P t (D t)) (hT:jP P T.fn) (hY:∃ex,IG P ah V ex T.y T.Y) (hB:YQ P ah V T) (hG:(∀g bargs ys,T.gb g bargs ys→fC P g bargs ys)∧∀f args objs K,T.fa f args objs K→jA P f args objs K) (R:jO base ah V S blk a w) (h:kX P D T own (S.tmps.all PV.pure) S.ev S.objs o.op K)
  (hn:∀r ai t v w' ak,K r ai t→jO base ah V ⟨S.tmps,ai⟩ ak a w'→aO w' (aZ base ai ak) ai ak r v→next (a.put o.dst v) w') :
  o.wpIn (Ba l) 0 P a w next Q:=by
 obtain⟨w0,hV,R0⟩:=R
 obtain⟨exY,hY⟩:=hY
 have J9:Io P D own S.ev S.objs o.op K→o.wpIn (Ba l) 0 P a w next Q:=λh=>
  Be l hD R0 h λr ai t v w' ak h1 h2 h3=>hn r ai t v w' ak h1 ⟨w0,hV,h2⟩ h3
 have yv:∀f:Operand,S.ev f=.qI T.y→a.eval f=.func (.yield T.y) #[] #[]:=by
  intro f e
  have hf:=R0.ev f
  rw[e]at hf
  have hf':cu w (aZ base S.objs blk) (.qI T.y) (a.eval f):=hf
  generalize a.eval f=v at hf'
  cases hf'
  rfl
 have aaJ:∀args:Array Operand,(args.toList.map S.ev).all PV.pure=true→bG (cu w (aZ base S.objs blk)) (args.toList.map S.ev) (args.toList.map a.eval):=by
  intro args hpure
  have h0:bG (aO w (aZ base S.objs blk) S.objs blk) (args.toList.map S.ev) (args.toList.map a.eval):=sj _ λx _=>R0.ev x
  exact⟨h0.1,λi p v hp hv=>(h0.2 i p v hp hv).zo (all_eq_true.1 hpure p (List.mem_of_getElem? hp))⟩
 unfold kX at h
 split at h
 ·rename_i f args argTypes ho
  cases own with
  | true=>
   simp only[cond_true]at h
   rcases h with h | h
   rotate_left
   ·obtain⟨_,h⟩:=h
    split at h
    ·rename_i g first cap e
     have hf:=R0.ev f
     rw[e]at hf
     obtain⟨va,vc,hv,r1,r2⟩:=hf
     have hargs:bG (aO w (aZ base S.objs blk) S.objs blk) (first++args.toList.map S.ev++cap) (va++args.toList.map a.eval++vc):=
      wF (wF (r1.mono λ_ _ h=>.dS h) (sj _ λx _=>R0.ev x)) (r2.mono λ_ _ h=>.dS h)
     obtain⟨⟨fn,hfn,hname,hbody⟩,hcall⟩:=hG.2 _ _ _ _ h
     refine⟨λ_ _=>trivial,?_⟩
     rw[Oper.semAt_eq _ _ _ (by rw[ho];simp)]
     have hrun:(execOp a.eval o).run P w=.ok (.enter g ⟨va++args.toList.map a.eval++vc⟩) w:=by
      have e1:(Array.mk va)++args.map a.eval++(Array.mk vc)=Array.mk (va++args.toList.map a.eval++vc):=by apply Array.ext';simp
      simp only[execOp,ho,resolve,hv,Deferred.ofValue,Sem.run_bind,Sem.run_pure,Result.andThen_ok,invoke,callFunc,run_program,hfn,hname,hbody,Bool.false_eq_true,if_false]
      rw[e1]
     rw[hrun]
     refine⟨(λh=>by cases h),?_⟩
     refine CallsIn.mono (sw (hcall _ _ _ _ _ _ _ _ R0 hargs) l) λe w' ⟨v,r,ai,ak,h1,h2,h3,h4⟩=>?_
     subst h1
     exact hn _ _ _ _ _ _ h2 ⟨w0,hV,h3⟩ h4
    ·exact h.elim
   obtain⟨hbb,hn',hcl,hev,hX,h⟩:=h
   obtain⟨ex,eP,V0,hY0,hex,hW,hnx,_⟩:=hB hbb
   have QV:∀p∈S.tmps,p.ge T.bn=true:=λp hp=>by
    obtain⟨i,hi,rfl⟩:=List.mem_iff_getElem.1 hp
    have:=hev i
    change (S.tmps.getD i .dead).ge T.bn=true at this
    rwa[List.getD_eq_getElem?_getD,List.getElem?_eq_getElem hi]at this
   split at h
   ·rename_i g first cap e
    obtain⟨bargs,ys,I,J,he,hpure,hg,hle,hI0,je,jB,hK1,hK2⟩:=h
    have hf:=R0.ev f
    rw[e]at hf
    obtain⟨va,vc,hv,r1,r2⟩:=hf
    have hargs:bG (aO w (aZ base S.objs blk) S.objs blk) (bargs++[.qI T.y]) (va++args.toList.map a.eval++vc):=by
     rw[←he]
     exact wF (wF (r1.mono λ_ _ h=>.dS h) (sj _ λx _=>R0.ev x)) (r2.mono λ_ _ h=>.dS h)
    have hargs':bG (cu w (aZ base S.objs blk)) (bargs++[.qI T.y]) (va++args.toList.map a.eval++vc):=by
     refine⟨hargs.1,λi p v hp hv=>(hargs.2 i p v hp hv).zo ?_⟩
     have:=List.mem_of_getElem? hp
     rcases List.mem_append.1 this with h1 | h1
     ·exact all_eq_true.1 hpure p h1
     ·rw[List.mem_singleton.1 h1];rfl
    have QL:=QX (hG.1 g bargs ys hg) hY0 hex hW hnx ⟨w0,hV,R0⟩ hn' hcl QV hX hle hI0 je jB hargs'
    obtain⟨⟨fn,hfn,hname,hbody⟩,_⟩:=hG.1 g bargs ys hg
    refine⟨λ_ _=>trivial,?_⟩
    rw[Oper.semAt_eq _ _ _ (by rw[ho];simp)]
    have hrun:(execOp a.eval o).run P w=.ok (.enter g ⟨va++args.toList.map a.eval++vc⟩) w:=by
     have e1:(Array.mk va)++args.map a.eval++(Array.mk vc)=Array.mk (va++args.toList.map a.eval++vc):=by apply Array.ext';simp
     simp only[execOp,ho,resolve,hv,Deferred.ofValue,Sem.run_bind,Sem.run_pure,Result.andThen_ok,invoke,callFunc,run_program,hfn,hname,hbody,Bool.false_eq_true,if_false]
     rw[e1]
    rw[hrun]
    refine⟨(λh=>by cases h),?_⟩
    refine CallsIn.mono (sw QL l) λe w' ⟨b,O',ak,h1,h2,h3⟩=>?_
    subst h1
    rcases h2 with ⟨rfl,h2⟩ | ⟨rfl,i,hi,h2⟩
    ·exact hn _ _ _ _ _ _ (hK1 O' h2) h3 (.aI (.bool true))
    ·exact hn _ _ _ _ _ _ (hK2 i O' hi h2) h3 (.aI (.bool false))
   ·rename_i y e
    obtain⟨rfl,hpure,hy⟩:=h
    obtain⟨r,hr,hsz,kN⟩:=N7 hY0 hW ⟨w0,hV,R0⟩ (.inr hnx) hcl QV hX (aaJ args hpure) hy (λb o h=>.inl h.1)
    refine⟨λ_ _=>trivial,?_⟩
    rw[Oper.semAt_eq _ _ _ (by rw[ho];simp),Tx ho (yv f e) hr hsz]
    refine⟨(λh=>by cases h),?_⟩
    refine RoundIn.mono (Eb kN) λe w' ⟨b,ai,ak,h1,h2,h3⟩=>?_
    subst h1
    exact hn _ _ _ _ _ _ h2.2 h3 (.aI (.bool b))
   ·exact h.elim
  | false=>
   simp only[cond_false]at h
   unfold pu at h
   split at h
   ·rename_i e
    refine J9 ?_
    simp only[ho,Io,FY,e]
    exact hT _ _ _ _ h
   ·rename_i y e
    obtain⟨rfl,hpt,hpure,hy⟩:=h
    have hd:S.objs.drop S.objs.length=[]:=List.drop_length
    have ht:S.objs.take S.objs.length=S.objs:=List.take_length
    obtain⟨r,hr,hsz,kN⟩:=N7 (n:=S.objs.length) hY EG.refl ⟨w0,hV,R0⟩ (.inl rfl) (λo ho hl x hx p hp=>by
      rw[ht]at ho
      obtain⟨k,hk⟩:=List.mem_iff_getElem?.1 ho
      have hh:=R0.objs.ob k o hk hl
      unfold bB at hh
      cases hg:blk k with
      | none=>rw[hg]at hh;rw[hh]at hx;cases hx
      | some g=>
       rw[hg]at hh
       obtain⟨c,_,_,x3⟩:=hh
       obtain⟨i,hi⟩:=List.mem_iff_getElem?.1 hx
       obtain⟨j,hj⟩:=List.mem_iff_getElem?.1 hp
       obtain⟨v,_,hv⟩:=(x3 i x hi).2 j p hj
       exact Lr hv) (λp hp=>Tw (all_eq_true.1 hpt p hp)) (by rw[hd];intro o ho;cases ho) (aaJ args hpure) (by rw[ht];exact hy) (λ_ _ _=>.inr rfl)
    refine⟨λ_ _=>trivial,?_⟩
    rw[Oper.semAt_eq _ _ _ (by rw[ho];simp),Tx ho (yv f e) hr hsz]
    refine⟨(λh=>by cases h),?_⟩
    refine RoundIn.mono (Eb kN) λe w' ⟨b,ai,ak,h1,h2,h3⟩=>?_
    subst h1
    rw[hd,List.append_nil]at h3
    exact hn _ _ _ _ _ _ h2 h3 (.aI (.bool b))
   ·exact h.elim
 ·rename_i x ho
  obtain⟨v,w',r,ai,t,ak,h1,h2,h3,h4,_⟩:=WJ ho R0 h.2
  exact DZ (by rw[ho];simp) h1 (hn r ai t v w' ak h2 ⟨w0,hV,h3⟩ h4)
 ·exact J9 h
theorem N8{own:Bool}{ev:Operand→PV}{objs:List Obj}{op:Op}{K K':KT}(h:Io P D own ev objs op K)(hk:∀r o t,K r o t→K' r o t):Io P D own ev objs op K':=by
 obtain⟨r,o,t,h1,_,h2,_,_⟩:=Tk h
 exact h2 _ (hk _ _ _ h1)
theorem Gi{ops:List Oper}{g:Option (Nat×Bool)}{S:St}{X Y:St→Prop}
  (h:wE (match g with | none=>none | some (j,b)=>some ((ops[j]?).bind (·.dst),b)) S X Y):oU ops g S X Y:=by
 unfold wE at h
 unfold oU
 cases g with
 | none=>exact h
 | some g=>
  obtain⟨j,want⟩:=g
  simp only[]at h ⊢
  cases hd:(ops[j]?).bind (·.dst) with
  | none=>rw[hd]at h;exact h
  | some d=>rw[hd]at h;exact h
theorem Ec{ops:List Oper}{g:Option (Nat×Bool)}{S:St}{X X' Y Y':St→Prop}(h:oU ops g S X Y)(hx:∀S',S'.tmps.length=S.tmps.length→X S'→X' S')
  (hy:∀S',S'.tmps.length=S.tmps.length→Y S'→Y' S'):oU ops g S X' Y':=by
 cases g with
 | none=>exact hx _ rfl h
 | some g=>
  obtain⟨j,want⟩:=g
  simp only[oU]at h ⊢
  cases hd:(ops[j]?).bind (·.dst) with
  | none=>rw[hd]at h;exact h
  | some d=>
   rw[hd]at h
   simp only[]at h ⊢
   generalize hv:S.tmps.getD d .dead=v at h ⊢
   cases v
   case bool b=>exact⟨λhb=>hx _ (by simp) (h.1 hb),λhb=>hy _ (by simp) (h.2 hb)⟩
   case bY cs=>
    cases cs with
    | nil=>exact hy _ rfl h
    | cons c cs=>exact h
   all_goals exact h
theorem qX(hT:jP P T.fn){ops:List Oper}{own:Nat→Bool}:∀(qJ:List Oper) (ss:List Step) (i:Nat) (S:St) (ts:List Nat) (K:St→List Nat→Prop),
  ss.map uF=qJ.map (stepOf ops)→(∀j s,ss[j]?=some s→own (i+j)=s.own)→LR P D T.QW ss S ts K→pq P D own ops qJ i S ts K
 | [],ss,i,S,ts,K,he,ho,h=>by
  have:ss=[]:=by simpa using he
  subst this
  exact h
 | o::qJ,ss,i,S,ts,K,he,ho,h=>by
  cases ss with
  | nil=>simp at he
  | cons s ss=>
   simp only[List.map_cons,List.cons.injEq]at he
   obtain⟨he1,he2⟩:=he
   have hd:s.dst=o.dst:=congrArg (λx:Step=>x.dst) he1
   have hop:s.op=o.op:=congrArg (λx:Step=>x.op) he1
   have hg:s.g=(stepOf ops o).g:=(congrArg (λx:Step=>x.g) he1:(uF s).g=(stepOf ops o).g)
   have hown:own i=s.own:=ho 0 s rfl
   unfold LR at h
   unfold pq
   rw[hg]at h
   refine Ec (Gi h) ?_ ?_
   ·intro S' hS' hx
    rw[hown,←hop]
    refine N8 (U0 hT hx) ?_
    intro r ai t hk
    rw[←hd]
    exact qX hT qJ ss (i+1) _ _ K he2 (λj s' hs'=>by rw[show i+1+j=i+(j+1) by omega];exact ho (j+1) s' hs') hk
   ·intro S' hS' hy
    rw[←hd]
    exact qX hT qJ ss (i+1) _ _ K he2 (λj s' hs'=>by rw[show i+1+j=i+(j+1) by omega];exact ho (j+1) s' hs') hy
theorem uG{ops:List Oper}{own:Nat→Bool}{K K':St→List Nat→Prop}(hk:∀S ts,K S ts→K' S ts):∀(qJ:List Oper) (i:Nat) (S:St) (ts:List Nat),pq P D own ops qJ i S ts K→pq P D own ops qJ i S ts K'
 | [],_,_,_,h=>hk _ _ h
 | o::qJ,i,S,ts,h=>by
  unfold pq at h ⊢
  exact Ec h (λS' _ hx=>N8 hx λr o' t hh=>uG hk qJ _ _ _ hh) (λS' _ hy=>uG hk qJ _ _ _ hy)
theorem PW.acU {E:Env}{c:Code}{Q:Exit→St→Prop}{S:St}{m nx:Nat}(hE:∀base ah V,E base ah V→∀w0,V w0→w0.nx≤nx)(I:Nat→St→Prop)(h0:I m S)
  (round:∀m S,I m S→PW P l E c (thenS (λS'=>∃QU m',Weak nx S' QU∧I m' QU∧m'<m) Q) S):PW P l E (.loop c) Q S:=by
 intro base ah V hEE blk a w R b k cs hro hb hroom
 have hE':=hE base ah V hEE
 have key:∀n S blk a w,I n S→jO base ah V S blk a w→
     ∃e a' w',(∃S' ak,Q e S'∧jO base ah V S' ak a' w')∧ArrivesIn (Machine.fenced P (Ba l)) P (lone (b.atR a (.code c::.inLoop c::k)) cs w) b k cs e a' w':=by
  intro n
  induction n using Nat.strongRecOn with
  | _ n ih=>
   intro S blk a w hI R
   obtain⟨e,a₁,w₁,⟨S₁,blk₁,h1,R₁⟩,harr⟩:=round n S hI base ah V hEE blk a w R b (.inLoop c::k) cs hro hb hroom
   cases e with
   | normal=>
    obtain⟨S₂,m',hw,hI₂,hlt⟩:=h1
    obtain⟨w0,hV,R₁⟩:=R₁
    obtain⟨aei,R₂⟩:=hw base ah w0 blk₁ a₁ w₁ (hE' w0 hV) R₁
    obtain⟨e₂,a₂,w₂,hq₂,harr₂⟩:=ih m' hlt S₂ aei a₁ w₁ hI₂ ⟨w0,hV,R₂⟩
    exact⟨e₂,a₂,w₂,hq₂,.of_steps (StepsIn.trans harr (.one (fenced_calm hb hroom rfl) stepR_inLoop)) harr₂⟩
   | exit id=>exact⟨_,a₁,w₁,⟨S₁,blk₁,h1,R₁⟩,.pass (x:=.inLoop c) rfl (λ_ _=>.inl (by simp)) harr⟩
   | goto t=>exact⟨_,a₁,w₁,⟨S₁,blk₁,h1,R₁⟩,.pass (x:=.inLoop c) rfl (λ_ _=>.inl (by simp)) harr⟩
   | ret=>exact⟨_,a₁,w₁,⟨S₁,blk₁,h1,R₁⟩,.pass (x:=.inLoop c) rfl (λ_ _=>.inl (by simp)) harr⟩
   | panic ch=>exact⟨_,a₁,w₁,⟨S₁,blk₁,h1,R₁⟩,.pass (x:=.inLoop c) rfl (λ_ _=>.inl (by simp)) harr⟩
   | outgrown=>exact⟨_,a₁,w₁,⟨S₁,blk₁,h1,R₁⟩,.pass (x:=.inLoop c) rfl (λ_ _=>.inl (by simp)) harr⟩
 obtain⟨e,a',w',hq,harr⟩:=key m S blk a w h0 R
 exact⟨e,a',w',hq,.of_steps (.one (fenced_calm hb hroom rfl) stepR_loop) harr⟩
theorem nS{next next':St→Prop}{Q:Exit→St→Prop}(h:∀S,next S→next' S):∀e S,thenS next Q e S→thenS next' Q e S:=by
 intro e S hh
 cases e<;>first | exact h _ hh | exact hh
theorem mO{n:Nat}{f:Nat→Bool}(h:(List.range n).all f=true){i:Nat}(hi:i<n):f i=true:=by
 rw[all_eq_true]at h
 exact h i (mem_range.2 hi)
theorem xW{m:Nat}{i:Nat}:∀(n:Nat),i<n→((List.range n).foldl (λu j=>if m.testBit j then u else u ||| (1 <<<j)) 0).testBit i=!m.testBit i:=by
 have key:∀(n:Nat) (j:Nat),((List.range n).foldl (λu j=>if m.testBit j then u else u ||| (1 <<<j)) 0).testBit j=(decide (j<n) && !m.testBit j):=by
  intro n
  induction n with
  | zero=>intro j;simp
  | succ n ih=>
   intro j
   rw[List.range_succ,List.foldl_append,foldl_cons,List.foldl_nil]
   split
   ·rename_i hm
    rw[ih j]
    by_cases hj:j=n
    ·subst hj;simp[hm]
    ·have:decide (j<n+1)=decide (j<n):=by congr 1;apply propext;omega
     rw[this]
   ·rename_i hm
    rw[Nat.testBit_or,ih j,Nat.one_shiftLeft,Nat.testBit_two_pow]
    by_cases hj:n=j
    ·subst hj;simp[hm]
    ·have:decide (j<n+1)=decide (j<n):=by congr 1;apply propext;omega
     rw[this];simp[hj]
 intro n hi
 rw[key n i];simp[hi]
theorem Gj{ops:List Oper}{ts:List Nat}(h1:dA ops (masks ops [])=true)(h2:lq (jd ops (masks ops [])) ts=true):rP ops ts=true:=by
 unfold rP
 unfold dA at h1
 unfold lq at h2
 generalize masks ops []=ms at *
 simp only[all_eq_true,mem_range]at h1 ⊢
 intro i hi
 have h1:=h1 i hi
 rw[List.getElem?_eq_getElem hi]at h1 ⊢
 simp only[and_eq_true,all_eq_true,mem_range]at h1 ⊢
 refine⟨⟨h1.1.1,h1.1.2⟩,λj hj=>?_⟩
 have hz:=h1.2 j hj
 cases hb:(ms.getD i 0).testBit j with
 | true=>simp
 | false=>
  rw[hb]at hz
  have hzz:∀k,(ops.map λ_=>0).getD k 0=0:=by
   intro k
   rw[List.getD_eq_getElem?_getD,List.getElem?_map]
   cases ops[k]?<;>rfl
  rw[hzz,hzz]at hz
  simp only[Bool.false_or,not_eq_true',Bool.or_false]at hz ⊢
  have hlen:(jd ops ms).length=ops.length:=by simp[jd]
  have h2:=mO h2 (i:=i) (by omega)
  have hun:(jd ops ms).getD i 0=(List.range i).foldl (λu j=>if (ms.getD i 0).testBit j then u else u ||| (1 <<<j)) 0:=by
   rw[List.getD_eq_getElem?_getD,jd,List.getElem?_map,List.getElem?_range hi]
   rfl
  have ht:((co (ts.getD j 0)==2 && co (ts.getD i 0) !=0) || (co (ts.getD i 0)==2 && co (ts.getD j 0) !=0))=false:=by
   simp only[or_eq_true]at h2
   rcases h2 with h2 | h2
   ·have:co (ts.getD i 0)=0:=by simpa using h2
    rw[this];simp
   ·have:=mO h2 hj
    rw[hun,xW i hj,hb]at this
    simp only[Bool.not_false,Bool.not_true,Bool.false_or,not_eq_true']at this
    exact this
  unfold clash at hz ⊢
  simp only[Bool.or_eq_false_iff]at hz ht ⊢
  exact⟨⟨⟨hz.1.1.1,hz.1.1.2⟩,ht.1⟩,ht.2⟩
theorem QY{ops:List Oper}{ts:List Nat}(h1:dA ops (masks ops [])=true){b:Nat}(h2:zY (jd ops (masks ops [])) ts b=true):uq ops ts b=true:=by
 unfold uq
 unfold dA at h1
 unfold zY at h2
 generalize masks ops []=ms at *
 have hlen:(jd ops ms).length=ops.length:=by simp[jd]
 simp only[and_eq_true,all_eq_true,mem_range,hlen]at h1 h2 ⊢
 obtain⟨⟨⟨g1,g2⟩,g3⟩,h2⟩:=h2
 have hbu:∀i,i<ops.length→(jd ops ms).getD i 0=(List.range i).foldl (λu j=>if (ms.getD i 0).testBit j then u else u ||| (1 <<<j)) 0:=λi hi=>by
  rw[List.getD_eq_getElem?_getD,jd,List.getElem?_map,List.getElem?_range hi]
  rfl
 refine⟨⟨⟨g1,g2⟩,?_⟩,λi hi=>?_⟩
 ·have g2:=of_decide_eq_true g2
  rcases Nat.lt_or_ge b ops.length with hb | hb
  ·simp only[or_eq_true,decide_eq_true_eq,all_eq_true,mem_range]at g3 ⊢
   rcases g3 with g3 | g3
   ·exact .inl g3
   ·refine .inr λj hj=>?_
    rcases g3 j hj with g | g
    ·exact .inl g
    ·rw[hbu b hb,xW b hj]at g
     exact .inr (by simpa using g)
  ·have:b=ops.length:=by omega
   simp[this]
 have h1:=h1 i hi
 rw[List.getElem?_eq_getElem hi]at h1 ⊢
 simp only[and_eq_true,all_eq_true,mem_range]at h1 ⊢
 refine⟨⟨h1.1.1,h1.1.2⟩,λj hj=>?_⟩
 have hz:=h1.2 j hj
 cases hb:(ms.getD i 0).testBit j with
 | true=>simp
 | false=>
  rw[hb]at hz
  have hzz:∀k,(ops.map λ_=>0).getD k 0=0:=by
   intro k
   rw[List.getD_eq_getElem?_getD,List.getElem?_map]
   cases ops[k]?<;>rfl
  rw[hzz,hzz]at hz
  simp only[Bool.false_or,not_eq_true',Bool.or_false]at hz ⊢
  have hun:(jd ops ms).getD i 0=(List.range i).foldl (λu j=>if (ms.getD i 0).testBit j then u else u ||| (1 <<<j)) 0:=by
   rw[List.getD_eq_getElem?_getD,jd,List.getElem?_map,List.getElem?_range hi]
   rfl
  have:=h2 i hi j hj
  rw[hun,xW i hj,hb]at this
  simp only[Bool.not_false,Bool.not_true,Bool.false_or,not_eq_true']at this
  rw[this,Bool.or_false]
  exact hz
theorem J_{ops:List Oper}{ts:List Nat}(h1:dA ops (masks ops [])=true)(h2:ji (jd ops (masks ops [])) ts=true):rP ops ts=true∨∃b,uq ops ts b=true:=by
 unfold ji at h2
 rcases or_eq_true _ _ ▸ h2 with h2 | h2
 ·exact .inl (Gj h1 h2)
 ·exact .inr ⟨_,QY h1 h2⟩
theorem Ka:∀(ops:List Oper) (acc:List Nat),(masks ops acc).length=acc.length+ops.length
 | [],acc=>by simp[masks]
 | o::rest,acc=>by simp only[masks];rw[Ka rest];simp;omega
theorem Kb:∀(ops:List Oper) (acc:List Nat),(masks ops acc).take acc.length=acc
 | [],acc=>by simp[masks]
 | o::rest,acc=>by
  simp only[masks]
  have h:=Kb rest (acc++[qi acc o])
  have h2:=congrArg (List.take acc.length) h
  rw[List.take_take,List.length_append]at h2
  rw[show min acc.length (acc.length+[qi acc o].length)=acc.length by simp]at h2
  rw[h2];simp
theorem Kc:∀(A B:List Oper) (acc:List Nat),masks (A++B) acc=masks B (masks A acc)
 | [],B,acc=>by simp[masks]
 | o::A,B,acc=>by simp only[List.cons_append,masks];exact Kc A B _
theorem Gl(ops:List Oper){b:Nat}(hb:b≤ops.length):masks (ops.take b) []=(masks ops []).take b:=by
 have h:=Kb (ops.drop b) (masks (ops.take b) [])
 rw[←Kc,List.take_append_drop,Ka]at h
 simp only[List.length_nil,List.length_take,Nat.zero_add]at h
 rw[show min b ops.length=b by omega]at h
 exact h.symm
theorem getD_take{l:List Nat}{b i:Nat}(h:i<b):(l.take b).getD i 0=l.getD i 0:=by
 rw[List.getD_eq_getElem?_getD,List.getElem?_take,if_pos h,List.getD_eq_getElem?_getD]
theorem QZ(ops:List Oper){b:Nat}(hb:b≤ops.length)(ms:List Nat):jd (ops.take b) (ms.take b)=(jd ops ms).take b:=by
 unfold jd
 rw[←List.map_take,List.take_range]
 rw[show (ops.take b).length=min b ops.length by simp]
 refine List.map_congr_left λi hi=>?_
 have hi:=mem_range.1 hi
 rw[getD_take (by omega)]
theorem qo{ops:List Oper}(h:dN ops=true){i:Nat}{o:Oper}(ho:ops[i]?=some o){j:Nat}{want:Bool}(hg:o.guard=some (j,want)):j<i:=by
 have:=mO h (List.getElem?_eq_some_iff.1 ho).1
 simp only[ho,Option.bind_some,hg]at this
 exact of_decide_eq_true this
theorem Q0{ops:List Oper}(h:dN ops=true){b i:Nat}{o:Oper}(ho:ops[i]?=some o)(hi:i<b):fO (ops.take b) o=fO ops o:=by
 unfold fO
 cases hg:o.guard with
 | none=>rfl
 | some jw=>
  obtain⟨j,want⟩:=jw
  have:=qo h ho hg
  simp only[]
  rw[List.getElem?_take,if_pos (by omega)]
theorem N9{ms:List Nat}{b i:Nat}{o:Oper}(hb:∀e∈o.after.toList,Region.binds .any e=true→e.on<i)(hi:i≤b):qi (ms.take b) o=qi ms o:=by
 unfold qi
 generalize o.after.toList=es at hb
 have key:∀(es:List Edge) (m:Nat),(∀e∈es,Region.binds .any e=true→e.on<i)→es.foldl (λm e=>if Region.binds .any e then (m ||| (1 <<<e.on)) ||| (ms.take b).getD e.on 0 else m) m=es.foldl (λm e=>if Region.binds .any e then (m ||| (1 <<<e.on)) ||| ms.getD e.on 0 else m) m:=by
  intro es
  induction es with
  | nil=>intro m _;rfl
  | cons e es ih=>
   intro m h
   rw[foldl_cons,foldl_cons,ih _ λe' he'=>h e' (List.mem_cons_of_mem _ he')]
   congr 1
   split
   ·rename_i hbd
    rw[getD_take (by have:=h e List.mem_cons_self hbd;omega)]
   ·rfl
 exact key es 0 hb
theorem II{ops:List Oper}{ms:List Nat}(h:dA ops ms=true)(hg:dN ops=true){b:Nat}(hb:b≤ops.length):dA (ops.take b) (ms.take b)=true:=by
 unfold dA at h ⊢
 simp only[all_eq_true,mem_range]at h ⊢
 intro i hi
 have hi:i<b:=by simp at hi;omega
 have h:=h i (by omega)
 have hio:i<ops.length:=by omega
 rw[List.getElem?_take,if_pos hi]
 rw[List.getElem?_eq_getElem hio]at h ⊢
 simp only[and_eq_true,all_eq_true,mem_range]at h ⊢
 obtain⟨⟨h1,h2⟩,h3⟩:=h
 have hbk:∀e∈ops[i].after.toList,Region.binds .any e=true→e.on<i:=λe he hbd=>by
  have:=h1 e he
  rw[hbd]at this
  simpa using this
 refine⟨⟨h1,?_⟩,λj hj=>?_⟩
 ·rw[getD_take hi,N9 hbk (Nat.le_of_lt hi)];exact h2
 ·have h3:=h3 j hj
  have hjo:j<ops.length:=by omega
  have hzz:∀(l:List Oper) (k:Nat),(l.map λ_=>0).getD k 0=0:=by
   intro l k
   rw[List.getD_eq_getElem?_getD,List.getElem?_map]
   cases l[k]?<;>rfl
  have hll:∀k,k<b→((ops.take b).map (fO (ops.take b))).getD k []=(ops.map (fO ops)).getD k []:=λk hk=>by
   have hko:k<ops.length:=by omega
   rw[List.getD_eq_getElem?_getD,List.getD_eq_getElem?_getD,List.getElem?_map,List.getElem?_map,List.getElem?_take,if_pos hk,List.getElem?_eq_getElem hko]
   simp only[Option.map_some,Option.getD_some]
   exact Q0 hg (List.getElem?_eq_getElem hko) hk
  rw[getD_take hi,hzz,hzz,hll i hi,hll j (by omega),List.getElem?_take,if_pos (by omega:j<b)]
  rw[hzz,hzz]at h3
  exact h3
theorem N_{ops:List Oper}(hg:dN ops=true)(b:Nat):(ops.take b).map (stepOf (ops.take b))=(ops.take b).map (stepOf ops):=by
 refine List.ext_getElem? λi=>?_
 rw[List.getElem?_map,List.getElem?_map]
 cases ho:(ops.take b)[i]? with
 | none=>rfl
 | some o=>
  rw[List.getElem?_take]at ho
  split at ho
  ·rename_i hi
   simp only[Option.map_some,Option.some.injEq]
   unfold stepOf
   cases hgu:o.guard with
   | none=>rfl
   | some jw=>
    obtain⟨j,want⟩:=jw
    have:=qo hg ho hgu
    simp only[]
    rw[List.getElem?_take,if_pos (by omega)]
  ·cases ho
theorem Zm{ops:List Oper}(h:dA ops (masks ops [])=true):Zi ops (masks ops []):=by
 have h1:lq (jd ops (masks ops [])) []=true:=by
  unfold lq
  simp only[all_eq_true,mem_range]
  intro i _
  simp[co]
 have:=wz (Gj h h1)
 exact⟨this.back,this.mask⟩
theorem Xd{ops:List Oper}{b:Nat}(h:E8 b (jd ops (masks ops []))=true):b≤ops.length∧Chain ops (masks ops []) b:=by
 unfold E8 at h
 rw[and_eq_true]at h
 have hlen:(jd ops (masks ops [])).length=ops.length:=by simp[jd]
 rw[hlen]at h
 refine⟨of_decide_eq_true h.1,λi hbi hi j hj=>?_⟩
 have:=mO h.2 hi
 simp only[or_eq_true,decide_eq_true_eq,beq_iff_eq]at this
 rcases this with this | this
 ·omega
 ·have hbu:(jd ops (masks ops [])).getD i 0=(List.range i).foldl (λu j=>if ((masks ops []).getD i 0).testBit j then u else u ||| (1 <<<j)) 0:=by
    rw[List.getD_eq_getElem?_getD,jd,List.getElem?_map,List.getElem?_range hi]
    rfl
  rw[hbu]at this
  have h2:=xW (m:=(masks ops []).getD i 0) i hj
  rw[this]at h2
  simpa using h2
theorem Bq{base ah:Nat→Prop}{V:Wz→Prop}{ops:List Oper}{Qm:Exit→Act→World→Prop}(hD:∀t,fB P t (D t))(hT:jP P T.fn)(hY:∃ex,IG P ah V ex T.y T.Y)(hB:YQ P ah V T)(hG:(∀g bargs ys,T.gb g bargs ys→fC P g bargs ys)∧∀f args objs K,T.fa f args objs K→jA P f args objs K) :
  ∀(qJ:List Oper) (ss:List Step) (k:Nat) (S:St) (ts:List Nat) (K:St→List Nat→Prop) (blk:Nat→Option Nat) (a:Act) (w:World),ss.map uF=qJ.map (stepOf ops)→(∀j,qJ[j]?=ops[k+j]?)→
   LR P D T ss S ts K→jO base ah V S blk a w→(∀S' ts' ak a' w',K S' ts'→jO base ah V S' ak a' w'→Qm .normal a' w')→wpOpsIn (Ba l) 0 P ops.toArray Qm (List.range' k qJ.length) a w
 | [],ss,k,S,ts,K,blk,a,w,he,_,h,R,hq=>by
  have:ss=[]:=by simpa using he
  subst this
  exact hq S ts blk a w h R
 | o::qJ,ss,k,S,ts,K,blk,a,w,he,hl,h,R,hq=>by
  cases ss with
  | nil=>simp at he
  | cons s ss=>
   simp only[List.map_cons,List.cons.injEq]at he
   obtain⟨he1,he2⟩:=he
   have hd:s.dst=o.dst:=congrArg (λx:Step=>x.dst) he1
   have hop:s.op=o.op:=congrArg (λx:Step=>x.op) he1
   have hg:s.g=(stepOf ops o).g:=(congrArg (λx:Step=>x.g) he1:(uF s).g=(stepOf ops o).g)
   have h0:ops.toArray[k]?=some o:=by simpa using (hl 0).symm
   have hl':∀j,qJ[j]?=ops[k+1+j]?:=λj=>by have:=hl (j+1);simpa[Nat.add_assoc,Nat.add_comm 1 j] using this
   simp only[List.length_cons,List.range'_succ,wpOpsIn,h0]
   unfold LR at h
   rw[hg]at h
   rcases wo R.choose_spec.2 (Gi h) o rfl with ⟨hw,hx⟩ | ⟨hw,hy⟩
   ·rw[if_pos hw]
    rw[hop]at hx
    refine Zl hD hT hY hB hG R hx λr ai t v w' ak hK R' hr=>?_
    rw[hd]at hK
    obtain⟨w0,hV,R0⟩:=R'
    exact Bq hD hT hY hB hG qJ ss (k+1) _ _ K ak _ w' he2 hl' hK ⟨w0,hV,R0.put hr o.dst⟩ hq
   ·rw[if_neg (by rw[hw];simp)]
    rw[hd]at hy
    obtain⟨w0,hV,R0⟩:=R
    exact⟨λ_ _=>trivial,Bq hD hT hY hB hG qJ ss (k+1) _ _ K blk _ w he2 hl' hy ⟨w0,hV,R0.put (xR _ _ _ _) o.dst⟩ hq⟩
theorem IG.none {ah:Nat→Prop}{V:Wz→Prop}{y:Nat}:∃ex,IG P ah V ex y (λ_ _ _=>False):=⟨λ_=>False,λ_ _ _ _ _ _ _ _ _ _ _ _ _ _ _ h=>h.elim⟩
theorem YQ.none {ah:Nat→Prop}{V:Wz→Prop}(h:T.bb=false):YQ P ah V T:=λe=>by rw[h]at e;cases e
end Lp
namespace Lp
open Go
open List (mem_append_left mem_append_right mem_cons_of_mem)
open Nat (le_of_eq le_trans lt_of_lt_of_le)
variable {P:Program}{D:TypeId→aD}{T:Know}{l:Option Nat}
def Q5(le:Nat→Nat→Prop)(P:Program)(g:FuncId)(cap:List PV)(ys:List (List PV)):Prop:=
 Enters P g∧
 ∀(I J:Nat→List Obj→Prop) (base ah:Nat→Prop) (V:Wz→Prop) (ex:Nat→Prop) (y:Nat) (objs:List Obj) (blk:Nat→Option Nat) (w:World) (EH:List Value),
  IG P ah V ex y (Iq ys I J)→ol ex ah V→(∀w0,V w0→w0.nx≤objs.length)→jO base ah V ⟨[],objs⟩ blk wC w→I 0 objs→(∀i O,I i O→le objs.length O.length∧bI O)→(∀i O,J i O→le objs.length O.length∧bI O∧bC O)→bG (cu w (aZ base objs blk)) cap EH→
  Calls P g ⟨.func (.yield y) #[] #[]::EH⟩ w λe w'=>∃ai ak,e=.returned (.tuple #[])∧(I ys.length ai∨∃i,i<ys.length∧J i ai)∧jO base ah V ⟨[],ai⟩ ak wC w'
def Gives(P:Program)(g:FuncId)(cap:List PV)(ys:List (List PV)):Prop:=Q5 (·≤·) P g cap ys
def qp(P:Program)(g:FuncId)(cap:List PV)(ys:List (List PV)):Prop:=Q5 (·=·) P g cap ys
theorem Ke{l:Option Nat}(w:World)(fn:FuncId)(tmps:Array Value)(ps:Array Tmp)(x y:Code)(hl:∀l1,l=some l1→∃r,w.heap[l1]?=some (.loop r)) :
  ∃(D l0:Nat) (Ds:List Nat) (W1:World),(Instr.enterLoop fn tmps ps x y l).run P w=.ok (l0,Ds.map λb=>{ target:=.collected b,args:=#[] }) W1∧
   W1.heap[l0]?=some (.loop { state:=.ready,pending:=none,fn,tmps,params:=ps,assign:=x,body:=y,defers:=D })∧kr w W1∧W1.heap.size=l0+1∧w.heap.size≤l0∧Ds.Nodup∧
   ∀b∈Ds,w.heap.size≤b∧b<l0∧W1.heap[b]?=some (.deferred (some [])):=by
 cases l with
 | none=>
  refine⟨w.heap.size,w.heap.size+1,[w.heap.size],_,run_enterLoop_outer _ _ _ _ _,?_,(kr.push (w':=w.alloc (.deferred (some []))) rfl).trans (kr.push rfl),?_,by omega,by simp,λb hb=>?_⟩
  ·have:=World.alloc_heap_new (w.alloc (.deferred (some []))) (.loop { state:=.ready,pending:=none,fn,tmps,params:=ps,assign:=x,body:=y,defers:=w.heap.size });rwa[World.size_alloc]at this
  ·rw[World.size_alloc,World.size_alloc]
  ·have:b=w.heap.size:=by simpa using hb
   subst this
   exact⟨Nat.le_refl _,by omega,(kr.push (w:=w.alloc (.deferred (some []))) rfl).2.1 _ _ (World.alloc_heap_new w _)⟩
 | some l1=>
  obtain⟨r,hr⟩:=hl l1 rfl
  refine⟨r.defers,w.heap.size,[],_,?_,World.alloc_heap_new w _,kr.push rfl,World.size_alloc _ _,Nat.le_refl _,List.nodup_nil,λb hb=>by cases hb⟩
  unfold Instr.enterLoop
  simp only[Sem.run_bind,run_getLoop hr,run_newObj_alloc,Result.andThen,Sem.run_pure]
  rfl
section
variable {base ah:Nat→Prop}{w0:Wz}{S:St}{blk:Nat→Option Nat}{a:Act}{w:World}
theorem nM.cells {w w':World}(h:∀(k:Nat) x,w.heap[k]?=some x→ig x→w'.heap[k]?=some x)(objs:List Obj)(blk:Nat→Option Nat):nM w w' objs objs blk blk:=
 λ_ o ho=>⟨o,ho,Nat.le_refl _,λhl _=>⟨hl,rfl,rfl,rfl,λ_=>rfl,λg c _ hc=>⟨c,h g _ hc (.inl ⟨c,_,_,rfl⟩),rfl⟩⟩⟩
theorem cO.cells {objs:List Obj}{w w':World}{iD:Nat→Prop}(R:cO base ah objs blk w)(hs:w.heap.size≤w'.heap.size)(h:∀(k:Nat) x,w.heap[k]?=some x→ig x→w'.heap[k]?=some x)
  (hnp:∀k o g,objs[k]?=some o→o.live=true→blk k=some g→¬ iD g):cO base iD objs blk w':=by
 refine⟨λk o h1 h4=>?_,R.zV,hnp⟩
 have hh:=R.ob k o h1 h4
 unfold bB at hh ⊢
 cases hg:blk k with
 | none=>rw[hg]at hh;exact hh
 | some g=>
  rw[hg]at hh
  obtain⟨c,x1,x2,x3⟩:=hh
  refine⟨c,h g _ x1 (uw _ _ _),x2,λi x hx=>⟨(x3 i x hx).1,λj p hp=>?_⟩⟩
  obtain⟨v,y1,y2⟩:=(x3 i x hx).2 j p hp
  exact⟨v,y1,y2.qP hs (λ_ _ h=>h) (λk x _ hx hcx=>h k x hx (.inl hcx)) (.cells h _ _)⟩
theorem fP{ok:Nat→Prop}{objs:List Obj}{w w':World}{p:PV}{v:Value}(R:aO w ok objs blk p v)(hs:w.heap.size≤w'.heap.size)(h:∀(k:Nat) x,w.heap[k]?=some x→ig x→w'.heap[k]?=some x) :
  aO w' ok objs blk p v:=R.qP hs (λ_ _ h=>h) (λk x _ hx hcx=>h k x hx (.inl hcx)) (.cells h _ _)
def pairs(tm:List PV)(vs:Array Value):List (PV×Value):=tm.zip vs.toList
theorem xX{tm:List PV}{vs:Array Value}{x:PV×Value}(h:x∈pairs tm vs):∃t:Nat,tm[t]?=some x.1∧vs.getD t undef=x.2:=by
 obtain⟨i,hi⟩:=List.mem_iff_getElem?.1 h
 rw[pairs,List.getElem?_zip_eq_some]at hi
 refine⟨i,hi.1,?_⟩
 rw[Array.getD_eq_getD_getElem?,←Array.getElem?_toList,hi.2]
 rfl
theorem xY{tm:List PV}{vs:Array Value}(hl:vs.size=tm.length){t:Nat}{p:PV}(h:tm[t]?=some p):(p,vs.getD t undef)∈pairs tm vs:=by
 refine List.mem_iff_getElem?.2 ⟨t,?_⟩
 rw[pairs,List.getElem?_zip_eq_some]
 have hlt:t<vs.size:=by rw[hl];exact (List.getElem?_eq_some_iff.1 h).1
 refine⟨h,?_⟩
 rw[Array.getD_eq_getD_getElem?,Array.getElem?_toList,Array.getElem?_eq_getElem hlt]
 rfl
theorem Gm{R:PV→Value→Prop}(acV:∀v,R .dead v):∀(ps:List Nat) (args:List PV) (vs:List Value) (tm:List PV) (xs:Array Value),args.length=vs.length→xs.size=tm.length→
  (∀(t:Nat) (p:PV),tm[t]?=some p→R p (xs.getD t undef))→(∀(i:Nat) (p:PV) (v:Value),args[i]?=some p→vs[i]?=some v→R p v)→
  ((ps.zip vs).foldl (λt (p,v)=>t.setIfInBounds p v) xs).size=(jH ps args tm).length∧∀(t:Nat) (p:PV),(jH ps args tm)[t]?=some p→R p (((ps.zip vs).foldl (λt (p,v)=>t.setIfInBounds p v) xs).getD t undef)
 | [],args,vs,tm,xs,_,hs,h,_=>by cases args<;>exact⟨hs,h⟩
 | p::ps,[],vs,tm,xs,hl,hs,h,_=>by
  have:vs=[]:=by cases vs<;>simp_all
  subst this
  exact⟨hs,h⟩
 | p::ps,q::args,[],tm,xs,hl,hs,h,_=>by simp at hl
 | p::ps,q::args,v::vs,tm,xs,hl,hs,h,ha=>by
  simp only[jH,List.zip_cons_cons,List.foldl_cons]
  refine Gm acV ps args vs (tm.set p q) (xs.setIfInBounds p v) (by simpa using hl) (by simpa using hs) (λt r hr=>?_) (λi r u h1 h2=>ha (i+1) r u (by simpa using h1) (by simpa using h2))
  rw[qd]
  rw[List.getElem?_set]at hr
  by_cases hpt:p=t
  ·subst hpt
   rw[if_pos rfl]at hr
   split at hr
   ·cases hr
    rename_i hlt
    rw[if_pos ⟨rfl,by omega⟩]
    exact ha 0 q v rfl rfl
   ·cases hr
  ·rw[if_neg hpt]at hr
   rw[if_neg (λe=>hpt e.1)]
   exact h t r hr
theorem iR{w:World}{k:Nat}{o o':Go.Obj}(ho:w.heap[k]?=some o)(hn:¬ ig o):∀(j:Nat) x,w.heap[j]?=some x→ig x→(w.putObj k o').heap[j]?=some x:=by
 intro j x hx hc
 rw[World.putObj_heap_other (λe=>hn (by subst e;rw[ho]at hx;cases hx;exact hc))]
 exact hx
def E0(n l0:Nat):Env:=λ_ ah V=>∀w0,V w0→w0.nx≤n∧ah l0∧∃r,w0.heap[l0]?=some (.loop r)
theorem Oa{le:Nat→Nat→Prop}{l:Option Nat}{f:Operand}{ps:List Nat}{x y:Code}{fz:Option (Nat×Nat)}{g:FuncId}{cap:List PV}{ys:List (List PV)}{I:Nat→List Obj→Prop}
  (hg:Q5 le P g cap ys) (hys:∀y∈ys,y.length=ps.length) (hI0:I 0 S.objs) (je:∀i objs,I i objs→le S.objs.length objs.length∧bI objs) (R:Rel base ah w0 S blk a w) (hl:∀l1,l=some l1→∃r,w.heap[l1]?=some (.loop r)) (hf:S.ev f=.fn g [] cap) (hcap:cap.all PV.pure=true) (hfz:C8 S.objs.length fz)
  (kN:∀i args objs,I i objs→ys[i]?=some args→∀l0,PW P (some l0) (E0 S.objs.length l0) x (thenS (λS1=>PW P (some l0) (E0 S.objs.length l0) y (Gg fz (I (i+1))) S1) (λ_ _=>False)) ⟨jH ps args S.tmps,objs⟩) :
  (Code.rangeFunc f ps.toArray x y).wpIn (Ba l) 0 P (λe a' w'=>∃ai ak,e=.normal∧I ys.length ai∧Rel base ah w0 ⟨S.tmps,ai⟩ ak a' w') a w:=by
 refine wpIn_rangeFunc λfn _=>?_
 have Gn:=R.ev f
 rw[hf]at Gn
 obtain⟨va,vc,hv,r1,r2⟩:=Gn
 have hva:va=[]:=List.eq_nil_of_length_eq_zero r1.1.symm
 subst hva
 obtain⟨D0,l0,Dn,W1,hent,hL1,qw,hs1,hwl,hDn,U1⟩:=Ke (P:=P) (l:=l) w fn a.tmps ps.toArray x y hl
 obtain⟨rec,hrec⟩:∃rec:LoopState→Loop,rec=λst=>{ state:=st,pending:=none,fn,tmps:=a.tmps,params:=ps.toArray,assign:=x,body:=y,defers:=D0 }:=⟨_,rfl⟩
 have hL1:W1.heap[l0]?=some (.loop (rec .ready)):=by rw[hrec];exact hL1
 have hnl:∀k,w.heap.size≤k→aK S.objs blk k:=λk hk j o h1 h2 h3=>by
  have:=t_ R.objs h1 h2 h3;omega
 obtain⟨⟨fng,hfn,hname,hbody⟩,hgive⟩:=hg
 refine⟨l0,Dn.map λb=>{ target:=.collected b,args:=#[] },W1,{ target:=.fn (.func g) ⟨vc⟩,args:=#[.func (.yield l0) #[] #[]] },W1,g,
  ⟨.func (.yield l0) #[] #[]::vc⟩,W1,hent,?_,λ_ _=>trivial,?_,(λh=>by cases h),?_⟩
 ·simp only[resolve,hv]
  simp[go_sem]
 ·have e1:(#[.func (.yield l0) #[] #[]]:Array Value)++Array.mk vc=Array.mk (.func (.yield l0) #[] #[]::vc):=by apply Array.ext';simp
  simp only[invoke,callFunc,run_program,Sem.run_bind,Result.andThen_ok,hfn,hname,hbody,Bool.false_eq_true,if_false,Sem.run_pure]
  rw[e1]
 ·rw[show (0-1:Nat)=0 from rfl]
  refine sw ?_ l
  obtain⟨g_,hprot2⟩:∃g_:Nat→Prop,g_=λb=>b<W1.heap.size∧aK S.objs blk b:=⟨_,rfl⟩
  obtain⟨Xe,hxs2⟩:∃Xe,Xe=pairs S.tmps a.tmps++w0.xs:=⟨_,rfl⟩
  obtain⟨z0,hz0⟩:∃z0:Wz,z0=⟨W1.heap,Xe,S.objs.length,w⟩:=⟨_,rfl⟩
  have Gp:g_ l0:=by rw[hprot2];exact⟨by omega,hnl _ hwl⟩
  have hpD:∀b∈Dn,g_ b:=λb hb=>by rw[hprot2];have:=U1 b hb;exact⟨by omega,hnl _ this.1⟩
  have Nj:=R.grew qw
  have abA:∀b,¬ g_ b→base b:=by
   intro b hb
   rw[hprot2]at hb
   by_cases h:ah b
   ·exact absurd ⟨lt_of_lt_of_le (R.pr b h) (le_trans R.gr (by omega)),λk o h1 h2 h3=>R.objs.np k o b h1 h2 h3 h⟩ hb
   ·exact R.pb b h
  have abB:∀k o g,S.objs[k]?=some o→o.live=true→blk k=some g→¬ g_ g:=by
   intro k o g h1 h2 h3 h4
   rw[hprot2]at h4
   exact h4.2 k o h1 h2 h3
  have hext:∀x∈Xe,aO W1 (aZ base S.objs blk) S.objs blk x.1 x.2:=by
   intro x hx
   rw[hxs2]at hx
   rcases List.mem_append.1 hx with hx | hx
   ·obtain⟨t,h1,h2⟩:=xX hx
    rw[←h2]
    exact Nj.tm t x.1 h1
   ·exact Nj.ext x hx
  have acW:∀b∈mr.blocks,b<w.heap.size:=λb hb=>lt_of_lt_of_le (R.pr b (R.gl.2 b hb)) R.gr
  have IJ:∀b∈mr.blocks,g_ b:=λb hb=>by
   rw[hprot2];exact⟨by have:=acW b hb;omega,λk o h1 h2 h3=>R.objs.np k o b h1 h2 h3 (R.gl.2 b hb)⟩
  have abC:Rel base g_ z0 ⟨[],S.objs⟩ blk wC W1:=by
   rw[hz0]
   exact⟨.nil _ _,rfl,λt p hp=>by simp at hp,⟨Nj.objs.ob,R.objs.zV,abB⟩,λb hb=>by rw[hprot2]at hb;exact hb.1,λ_ _=>rfl,Nat.le_refl _,abA,hext,λx hx=>uD (hext x hx),qw.2.2,⟨Nj.kZ,IJ⟩⟩
  have hcapR:bG (cu W1 (aZ base S.objs blk)) cap vc:=by
   refine⟨r2.1,λi p v hp hv=>?_⟩
   have hpp:=List.all_eq_true.1 hcap p (List.mem_of_getElem? hp)
   have h1:aO w (aZ base S.objs blk) S.objs blk p v:=.dS (r2.2 i p v hp hv)
   exact (h1.zo hpp).mono qw.1 (λ_ _ h=>h) (λb x _ h=>qw.2.1 b x h)
  have abD:IG P g_ (λz=>z=z0) (λb=>b=l0) l0 (Iq ys I λ_ _=>False):=by
   rintro bO dI w2 args vs K jQ iD H z rfl hfit hsub R2 hargs ⟨i,hIi,hyi,hK,_⟩
   rw[hz0]at R2
   have hL2:w2.heap[l0]?=some (.loop (rec .ready)):=(R2.fr l0 (hsub l0 Gp)).trans ((hfit.at' l0 Gp).2.trans (by rw[hz0];exact hL1))
   have hlen:args.length=ps.length:=hys args (List.mem_of_getElem? hyi)
   refine⟨rec .ready,hL2,by rw[hrec];simp[←hargs.1,hlen],λb hb=>⟨_,hb ▸ hL2⟩,?_⟩
   refine roundIn_of_wpIn trivial ?_
   have hlt2:l0<w2.heap.size:=(Array.getElem?_eq_some_iff.1 hL2).1
   obtain⟨dQ,hprot3⟩:∃dQ:Nat→Prop,dQ=λb=>b<w2.heap.size∧aK bO dI b:=⟨_,rfl⟩
   have h23:∀b,iD b→dQ b:=by
    intro b hb
    rw[hprot3]
    exact⟨lt_of_lt_of_le (R2.pr b hb) R2.gr,λk o h1 h2 h3=>R2.objs.np k o b h1 h2 h3 hb⟩
   have Xf:∀b,¬ dQ b→jQ b:=λb hb=>R2.pb b λh=>hb (h23 b h)
   have abE:∀k o g,bO[k]?=some o→o.live=true→dI k=some g→¬ dQ g:=by
    intro k o g h1 h2 h3 h4
    rw[hprot3]at h4
    exact h4.2 k o h1 h2 h3
   obtain⟨Zn,htm0⟩:∃Zn,Zn=(((rec .ready).params.zip (⟨vs⟩:Array Value)).foldl (λt (p,v)=>t.setIfInBounds p v) (rec .ready).tmps):=⟨_,rfl⟩
   rw[←htm0]
   have Ob:Zn=(ps.zip vs).foldl (λt (p,v)=>t.setIfInBounds p v) a.tmps:=by
    rw[htm0,hrec]
    simp only[]
    rw[←Array.foldl_toList]
    simp
   have hset:=Gm (R:=aO w2 (aZ jQ bO dI) bO dI) (λv=>.dead v) ps args vs S.tmps a.tmps hargs.1 R.EB
    (λt p hp=>R2.ext (p,a.tmps.getD t undef) (by show _∈Xe;rw[hxs2];exact mem_append_left _ (xY R.EB hp))) (λi p v h1 h2=>.aI (hargs.2 i p v h1 h2))
   have hp3:dQ l0:=h23 l0 (hsub l0 Gp)
   have Rr:Rel jQ dQ ⟨w2.heap,Xe,S.objs.length,w⟩ ⟨jH ps args S.tmps,bO⟩ dI { tmps:=Zn,defers:=[] } w2:=by
    refine⟨.nil _ _,by rw[Ob];exact hset.1,λt p hp=>by rw[Ob];exact hset.2 t p hp,⟨R2.objs.ob,R2.objs.zV,abE⟩,λb hb=>by rw[hprot3]at hb;exact hb.1,λ_ _=>rfl,Nat.le_refl _,Xf,R2.ext,R2.yQ,R2.sm,⟨R2.kZ,λb hb=>h23 b (hsub b (IJ b hb))⟩⟩
   have Ls:=kN i args bO hIi hyi l0 jQ dQ (λz=>z=⟨w2.heap,Xe,S.objs.length,w⟩) (by rintro z rfl;exact⟨Nat.le_refl _,hp3,_,hL2⟩) dI _ w2 ⟨_,rfl,Rr⟩
   rw[show (rec .ready).assign=x by rw[hrec],show (rec .ready).body=y by rw[hrec]]
   change x.wpIn (Ba (some l0)) 0 P _ _ _
   refine wpIn_mono Ls ?_
   rintro e a3 w3 ⟨S3,blk3,he,z,rfl,R3⟩
   cases e with
   | normal=>
    have hL3:w3.heap[l0]?=some (.loop (rec .ready)):=(R3.fr l0 hp3).trans hL2
    refine⟨_,run_beginRound hL3 (by rw[hrec]),?_⟩
    have Xg:({ rec .ready with state:=.busy }:Loop)=rec .busy:=by rw[hrec]
    rw[Xg]
    obtain⟨w4,hw4⟩:∃w4,w4=w3.putObj l0 (.loop (rec .busy)):=⟨_,rfl⟩
    rw[←hw4]
    have hnc:∀st,¬ ig (.loop (rec st)):=by rintro st (⟨c,t,y,h⟩ | ⟨es,n,h⟩ | ⟨_,_,_,_,h⟩)<;>cases h
    have Q6:∀(k:Nat) x,w3.heap[k]?=some x→ig x→w4.heap[k]?=some x:=by rw[hw4];exact iR hL3 (hnc _)
    have hs4:w4.heap.size=w3.heap.size:=by rw[hw4];exact World.putObj_size
    have ho4:∀k:Nat,k≠l0→w4.heap[k]?=w3.heap[k]?:=λk hk=>by rw[hw4];exact World.putObj_heap_other hk
    have abF:l0<w3.heap.size:=(Array.getElem?_eq_some_iff.1 hL3).1
    have hL4:w4.heap[l0]?=some (.loop (rec .busy)):=by rw[hw4];exact World.putObj_heap_same abF
    have abG:∀b,dQ b→b<w2.heap.size:=λb hb=>by rw[hprot3]at hb;exact hb.1
    have aej:w2.heap.size≤w3.heap.size:=R3.gr
    have R4:Rel jQ dQ ⟨w4.heap,Xe,S.objs.length,w⟩ S3 blk3 a3 w4:=by
     refine⟨?_,R3.EB,λt p hp=>fP (R3.tm t p hp) (le_of_eq hs4.symm) Q6,R3.objs.cells (le_of_eq hs4.symm) Q6 R3.objs.np,λb hb=>?_,λ_ _=>rfl,Nat.le_refl _,Xf,λx hx=>fP (R3.ext x hx) (le_of_eq hs4.symm) Q6,R3.yQ,R3.sm.trans (by rw[hw4];exact⟨rfl,rfl⟩),⟨mr.keep (λb hb=>ho4 b (by have:=acW b hb;omega)) R3.kZ,λb hb=>h23 b (hsub b (IJ b hb))⟩⟩
     ·obtain⟨Ds,h1,h2,h3⟩:=R3.oC
      refine⟨Ds,h1,h2,λb hb=>?_⟩
      rw[ho4 b (λe=>(h3 b hb).2.2 (e ▸ hp3))]
      exact h3 b hb
     ·have:=abG b hb;show b<w4.heap.size;omega
    have hbody:=he jQ dQ (λz=>z=⟨w4.heap,Xe,S.objs.length,w⟩) (by rintro z rfl;exact⟨Nat.le_refl _,hp3,_,hL4⟩) blk3 a3 w4 ⟨_,rfl,R4⟩
    refine wpIn_mono hbody ?_
    rintro e a5 w5 ⟨S5,blk5,he5,z,rfl,R5⟩
    cases e with
    | normal=>
     have hL5:w5.heap[l0]?=some (.loop (rec .busy)):=(R5.fr l0 hp3).trans hL4
     refine⟨_,_,run_endRound none hL5,?_⟩
     have Q7:({ rec .busy with state:=if (none:Option Code).isNone then .ready else .done,pending:=none }:Loop)=rec .ready:=by rw[hrec];rfl
     rw[Q7]
     obtain⟨w6,IK⟩:∃w6,w6=w5.putObj l0 (.loop (rec .ready)):=⟨_,rfl⟩
     rw[←IK]
     obtain⟨Q8,R6⟩:=Weak.norm (m:=S.objs.length) [] fz hfz S5 jQ dQ _ blk5 a5 w5 (Nat.le_refl _) R5
     have Oc:∀(k:Nat) x,w5.heap[k]?=some x→ig x→w6.heap[k]?=some x:=by rw[IK];exact iR hL5 (hnc _)
     have hs6:w6.heap.size=w5.heap.size:=by rw[IK];exact World.putObj_size
     have ho6:∀k:Nat,k≠l0→w6.heap[k]?=w5.heap[k]?:=λk hk=>by rw[IK];exact World.putObj_heap_other hk
     have hl5:l0<w5.heap.size:=(Array.getElem?_eq_some_iff.1 hL5).1
     have aek:w4.heap.size≤w5.heap.size:=R5.gr
     have hall:∀b,dQ b→w6.heap[b]?=w2.heap[b]?:=by
      intro b hb
      by_cases hbl:b=l0
      ·subst hbl
       rw[hL2,IK,World.putObj_heap_same hl5]
      ·rw[ho6 b hbl,R5.fr b hb]
       show w4.heap[b]?=_
       rw[ho4 b hbl]
       exact R3.fr b hb
     refine⟨true,(S5.norm [] fz).objs,Q8,z,H,rfl,hK _ he5,rfl,Nat.le_refl _,hfit,rfl,λ_ _=>rfl,?_⟩
     rw[hz0]
     refine⟨.nil _ _,rfl,λt p hp=>by simp at hp,R6.objs.cells (le_of_eq hs6.symm) Oc (λk o g h1 h2 h3 h4=>R6.objs.np k o g h1 h2 h3 (h23 g h4)),R2.pr,λb hb=>?_,?_,R2.pb,λx hx=>fP (R6.ext x hx) (le_of_eq hs6.symm) Oc,R2.yQ,R6.sm.trans (by rw[IK];exact⟨rfl,rfl⟩),R2.gl⟩
     ·rw[hall b (h23 b hb)];exact R2.fr b hb
     ·have:=R2.gr;show H.size≤w6.heap.size;simp only at this;omega
    | _=>exact he5.elim
   | _=>exact he.elim
  refine Calls.mono (hgive I (λ_ _=>False) base g_ (λz=>z=z0) (λb=>b=l0) l0 S.objs blk W1 vc abD (λb hb=>by subst hb;exact⟨Gp,λz hz=>⟨rec .ready,by rw[hz,hz0];exact hL1⟩⟩) (λz hz=>by rw[hz,hz0];exact Nat.le_refl _) ⟨_,rfl,abC⟩ hI0 je (λ_ _ h=>h.elim) hcapR) ?_
  rintro e w3 ⟨ai,ak,rfl,hIJ,z,rfl,R3⟩
  have hI:I ys.length ai:=hIJ.resolve_right λ⟨_,_,h⟩=>h
  rw[hz0]at R3
  have hL3:w3.heap[l0]?=some (.loop (rec .ready)):=(R3.fr l0 Gp).trans hL1
  have hnc:¬ ig (.loop (rec .ready)):=by rintro (⟨c,t,y,h⟩ | ⟨es,n,h⟩ | ⟨_,_,_,_,h⟩)<;>cases h
  have hend:=run_endLoop (P:=P) hL3 (by rw[hrec];simp)
  refine⟨none,w3.putObj l0 (.loop { rec .ready with state:=.exhausted }),by rw[hend,hrec],?_⟩
  simp only[]
  have hcl:=iR (o':=.loop { rec .ready with state:=.exhausted }) hL3 hnc
  have hsz:(w3.putObj l0 (.loop { rec .ready with state:=.exhausted })).heap.size=w3.heap.size:=World.putObj_size
  have hle:w.heap.size≤w3.heap.size:=by have:=R3.gr;simp only at this;omega
  have hother:∀k:Nat,k≠l0→(w3.putObj l0 (.loop { rec .ready with state:=.exhausted })).heap[k]?=w3.heap[k]?:=λk hk=>World.putObj_heap_other hk
  have hkeep:∀b,b<w.heap.size→aK S.objs blk b→aK ai ak b:=by
   intro b hb hnb k o h1 h2 h3
   refine R3.objs.np k o b h1 h2 h3 ?_
   rw[hprot2];exact⟨by omega,hnb⟩
  have hsame:∀b,b<w.heap.size→aK S.objs blk b→(w3.putObj l0 (.loop { rec .ready with state:=.exhausted })).heap[b]?=w.heap[b]?:=by
   intro b hb hnb
   rw[hother b (by omega),R3.fr b (by rw[hprot2];exact⟨by omega,hnb⟩)]
   have hbx:w.heap[b]?=some (w.heap[b]):=Array.getElem?_eq_getElem hb
   show W1.heap[b]?=_
   rw[qw.2.1 b _ hbx,hbx]
  have hpn:∀b,ah b→b<w.heap.size∧aK S.objs blk b:=λb hb=>⟨lt_of_lt_of_le (R.pr b hb) R.gr,λk o h1 h2 h3=>R.objs.np k o b h1 h2 h3 hb⟩
  have abH:∀k o g,ai[k]?=some o→o.live=true→ak k=some g→¬ ah g:=λk o g h1 h2 h3 h4=>hkeep g (hpn g h4).1 (hpn g h4).2 k o h1 h2 h3
  refine⟨ai,ak,trivial,hI,?_,R.EB,λt p hp=>?_,R3.objs.cells (le_of_eq hsz.symm) hcl abH,R.pr,λb hb=>?_,le_trans R.gr (by rw[hsz];exact hle),R.pb,λx hx=>?_,R.yQ,(R.sm.trans R3.sm).trans ⟨rfl,rfl⟩,R.gl⟩
  ·obtain⟨Ds,h1,h2,h3⟩:=R.oC
   refine⟨Dn++Ds,by simp[h1],List.nodup_append.2 ⟨hDn,h2,λp hp q hq e=>?_⟩,λb hb=>?_⟩
   ·subst e
    have:=(Array.getElem?_eq_some_iff.1 (h3 _ hq).1).1;have:=(U1 p hp).1;omega
   ·rcases List.mem_append.1 hb with hb | hb
    ·have hD3:w3.heap[b]?=some (.deferred (some [])):=(R3.fr b (hpD b hb)).trans (U1 b hb).2.2
     refine⟨by rw[hother _ (by have:=(U1 b hb).2.1;omega)];exact hD3,⟨R.bs _ (le_trans R.gr (U1 b hb).1),λk o h1 h2 h3=>R3.objs.np k o _ h1 h2 h3 (hpD b hb)⟩,λhp=>by have:=(hpn _ hp).1;have:=(U1 b hb).1;omega⟩
    ·obtain⟨q1,q2,q3⟩:=h3 b hb
     have hbs:=(Array.getElem?_eq_some_iff.1 q1).1
     exact⟨by rw[hsame b hbs q2.2];exact q1,⟨q2.1,hkeep b hbs q2.2⟩,q3⟩
  ·exact fP (R3.ext (p,a.tmps.getD t undef) (by show _∈Xe;rw[hxs2];exact mem_append_left _ (xY R.EB hp))) (le_of_eq hsz.symm) hcl
  ·rw[hsame b (hpn b hb).1 (hpn b hb).2];exact R.fr b hb
  ·exact fP (R3.ext x (by show _∈Xe;rw[hxs2];exact mem_append_right _ hx)) (le_of_eq hsz.symm) hcl
theorem Kg(k:Nat)(O:List Obj):(fF k O).length=O.length:=by simp[fF]
theorem pY{k j:Nat}{O:List Obj}(h1:j≠k)(h2:j≠k+1):(fF k O)[j]?=O[j]?:=by
 unfold fF
 rw[List.getElem?_set,if_neg (λe=>h2 e.symm),List.getElem?_set,if_neg (λe=>h1 e.symm)]
theorem E9{k:Nat}{O:List Obj}(h:k+1<O.length):(fF k O)[k]?=some hole:=by
 unfold fF
 rw[List.getElem?_set,if_neg (by omega),List.getElem?_set];simp;omega
theorem Lu{k:Nat}{O:List Obj}(h:k+1<O.length):(fF k O)[k+1]?=some vU:=by
 unfold fF
 rw[List.getElem?_set];simp;omega
def lU(k:Nat)(blk:Nat→Option Nat):Nat→Option Nat:=λj=>if j=k+1 then none else blk j
theorem Br{k b:Nat}{O:List Obj}{bl:Nat→Option Nat}(hk:k+1<O.length)(h:aK O bl b):aK (fF k O) (lU k bl) b:=by
 intro j o h1 h2 h3
 by_cases e2:j=k+1
 ·subst e2;simp[lU]at h3
 ·by_cases e1:j=k
  ·subst e1;rw[E9 hk]at h1;cases h1;cases h2
  ·rw[pY e1 e2]at h1
   refine h j o h1 h2 ?_
   simpa[lU,e2] using h3
theorem sH{k:Nat}{O:List Obj}{bl:Nat→Option Nat}{p:PV}{v:Value}{ok ok':Nat→Prop}(hp:p.mE k=true)(hok:∀b,ok b→ok' b)(h:aV w ok O bl p v):aV w ok' (fF k O) (lU k bl) p v:=by
 have hm:∀q:PV,cu w ok q v→cu w ok' q v:=λq hq=>hq.mono (Nat.le_refl _) (λb _ h=>hok b h) (λ_ _ _ h=>h)
 cases p with
 | aS j ver=>
  have hj:j<k:=by simpa[PV.mE] using hp
  obtain⟨h0,o,h1,h2,h3⟩:=h
  refine⟨h0,o,by rw[pY (by omega) (by omega)];exact h1,h2,λe1 e2=>?_⟩
  obtain⟨hM,hh⟩:=h3 e1 e2
  refine⟨hM,?_⟩
  unfold vL at hh ⊢
  rw[show lU k bl j=bl j by simp[lU];omega]
  exact hh
 | bf j ver i f=>
  have hj:j<k:=by simpa[PV.mE] using hp
  obtain⟨h0,o,h1,h2,h3⟩:=h
  refine⟨h0,o,by rw[pY (by omega) (by omega)];exact h1,h2,λe1 e2=>?_⟩
  rw[show lU k bl j=bl j by simp[lU];omega]
  exact h3 e1 e2
 | fM j ver=>
  have hj:j<k:=by simpa[PV.mE] using hp
  obtain⟨h0,o,h1,h2,h3⟩:=h
  refine⟨h0,o,by rw[pY (by omega) (by omega)];exact h1,h2,λe1 e2=>?_⟩
  rw[show lU k bl j=bl j by simp[lU];omega]
  exact h3 e1 e2
 | _=>exact hm _ h
theorem U2{k:Nat}{O:List Obj}{bl:Nat→Option Nat}{p:PV}{v:Value}{ok ok':Nat→Prop}(hp:p.lt k=true)(hok:∀b,ok b→ok' b)(h:aO w ok O bl p v):aO w ok' (fF k O) (lU k bl) p v:=by
 have hl:∀(cs:List PV) (vs:List Value),cs.all (PV.mE k)=true→bG (aV w ok O bl) cs vs→bG (aV w ok' (fF k O) (lU k bl)) cs vs:=
  λcs vs hc h=>⟨h.1,λi p u h1 h2=>sH (List.all_eq_true.1 hc p (List.mem_of_getElem? h1)) hok (h.2 i p u h1 h2)⟩
 cases p with
 | fn f a c=>
  simp only[PV.lt,Bool.and_eq_true]at hp
  obtain⟨va,vc,rfl,h1,h2⟩:=h
  exact⟨va,vc,rfl,hl _ _ hp.1 h1,hl _ _ hp.2 h2⟩
 | bY cs=>obtain⟨us,rfl,h1⟩:=h;exact⟨us,rfl,hl _ _ hp h1⟩
 | agg cs=>obtain⟨us,rfl,h1⟩:=h;exact⟨us,rfl,hl _ _ hp h1⟩
 | aS j ver=>exact sH (p:=.aS j ver) hp hok h
 | bf j ver i f=>exact sH (w:=w) (p:=.bf j ver i f) hp hok h
 | fM j ver=>exact sH (w:=w) (p:=.fM j ver) hp hok h
 | _=>exact .dS (sH rfl hok (by exact h))
theorem U3{k:Nat}{O:List Obj}{bl:Nat→Option Nat}{iD:Nat→Prop}(R:cO base iD O bl w)(hk:k+1<O.length)(hn:bC O)(hA:O[k]?=some vU) :
  cO base iD (fF k O) (lU k bl) w:=by
 have hok:∀b,aZ base O bl b→aZ base (fF k O) (lU k bl) b:=λb h=>⟨h.1,Br hk h.2⟩
 have get:∀(j:Nat) (o:Obj),(fF k O)[j]?=some o→o.live=true→(j=k+1∧o=vU)∨(j≠k∧j≠k+1∧O[j]?=some o∧lU k bl j=bl j):=by
  intro j o h1 h2
  by_cases e2:j=k+1
  ·subst e2;rw[Lu hk]at h1;cases h1;exact .inl ⟨rfl,rfl⟩
  ·by_cases e1:j=k
   ·subst e1;rw[E9 hk]at h1;cases h1;cases h2
   ·rw[pY e1 e2]at h1;exact .inr ⟨e1,e2,h1,by simp[lU,e2]⟩
 have hB:lU k bl (k+1)=none:=by simp[lU]
 refine⟨λj o h1 h2=>?_,λj j' o o' g hne h1 h2 h3 h4 h5 h6=>?_,λj o g h1 h2 h3=>?_⟩
 ·rcases get j o h1 h2 with ⟨rfl,rfl⟩ | ⟨e1,e2,h1',hb⟩
  ·unfold bB;rw[hB];rfl
  ·have hh:=R.ob j o h1' h2
   unfold bB at hh ⊢
   rw[hb]
   cases hbj:bl j with
   | none=>rw[hbj]at hh;exact hh
   | some g=>
    rw[hbj]at hh
    obtain⟨c,x1,x2,x3⟩:=hh
    refine⟨c,x1,x2,λi x hx=>⟨(x3 i x hx).1,λq p hp=>?_⟩⟩
    obtain⟨u,y1,y2⟩:=(x3 i x hx).2 q p hp
    exact⟨u,y1,.aI ((y2.zo (hn o (List.mem_of_getElem? h1') x (List.mem_of_getElem? hx) p (List.mem_of_getElem? hp))).o_ λb _ hb=>hok b hb)⟩
 ·rcases get j o h1 h2 with ⟨rfl,rfl⟩ | ⟨_,_,h1',hb⟩
  ·rw[hB]at h5;cases h5
  ·rcases get j' o' h3 h4 with ⟨rfl,rfl⟩ | ⟨_,_,h3',hb'⟩
   ·rw[hB]at h6;cases h6
   ·rw[hb]at h5;rw[hb']at h6
    exact R.zV j j' o o' g hne h1' h2 h3' h4 h5 h6
 ·rcases get j o h1 h2 with ⟨rfl,rfl⟩ | ⟨_,_,h1',hb⟩
  ·rw[hB]at h3;cases h3
  ·rw[hb]at h3;exact R.np j o g h1' h2 h3
theorem Q9(A B:Array Go.Obj)(p:Nat→Prop)(h:A.size≤B.size):∃H:Array Go.Obj,H.size=A.size∧(∀b,b<A.size→p b→H[b]?=B[b]?)∧∀b,¬ p b→H[b]?=A[b]?:=by
 classical
 have key:∀b,((Array.range A.size).map λb=>(if p b then B[b]? else A[b]?).getD default)[b]?=if b<A.size then some ((if p b then B[b]? else A[b]?).getD default) else none:=by
  intro b
  rw[Array.getElem?_map,Array.getElem?_range]
  split<;>rfl
 refine⟨(Array.range A.size).map λb=>(if p b then B[b]? else A[b]?).getD default,by simp,λb hb hp=>?_,λb hp=>?_⟩
 ·rw[key,if_pos hb,if_pos hp,Array.getElem?_eq_getElem (by omega)];rfl
 ·rw[key,if_neg hp]
  split
  ·rename_i hb;rw[Array.getElem?_eq_getElem hb];rfl
  ·rename_i hb;rw[Array.getElem?_eq_none (by omega)]
def fam(ah:Nat→Prop)(V:Wz→Prop)(ex:Nat→Prop)(M:Nat)(h0:Array Go.Obj)(xs:List (PV×Value))(N:Nat):Wz→Prop:=λz3=>
 ∃zf,V zf∧uz ah zf z3.heap∧zf.heap.size≤M∧(∀x∈zf.xs,x.1.lt zf.nx=true)∧Sm zf.out z3.out∧z3.xs=xs++zf.xs∧z3.nx=N∧z3.heap.size=h0.size∧∀b,¬ ex b→z3.heap[b]?=h0[b]?
theorem Xh{eP dQ:Nat→Prop}{V V0:Wz→Prop}{ex:Nat→Prop}{n M N:Nat}{h0:Array Go.Obj}{xs:List (PV×Value)}(hsub:∀b,ah b→dQ b)(hxs:∀x∈xs,x.1.ge n=true)(hnx:∀z,V0 z→z.nx≤N)
  (hW:EG ex eP V0 n ah V) (hM:M≤h0.size):EG ex eP V0 n dQ (fam ah V ex M h0 xs N):=by
 refine⟨λb hb=>hsub b (hW.1 b hb),λz3 w hz3 hf3 hx3 hs3=>?_⟩
 obtain⟨zf,YR,Gn,hfM,hxf,hsf,ex1,en1,es1,eh1⟩:=hz3
 have hfw:uz ah zf w.heap:=⟨λb hb=>⟨(Gn.at' b hb).1,(hf3.at' b (hsub b hb)).2.trans (Gn.at' b hb).2⟩,le_trans Gn.le hf3.le,Gn.gl⟩
 obtain⟨z,hz,hf,hx,hs,hup⟩:=hW.2 zf w YR hfw hxf (hsf.trans hs3)
 refine⟨z,hz,hf,λx h=>⟨by rw[ex1];exact mem_append_right _ (hx x h).1,(hx x h).2⟩,hs,λzn w' hzn hzs hfn hxn hk hsz hsn=>?_⟩
 obtain⟨wn,hwn,hws,hwf,hwx,ael⟩:=hup zn w' hzn hzs hfn hxn (λb hb hne=>hk b (hsub b hb) hne) hsz hsn
 obtain⟨h,q1,q2,q3⟩:=Q9 z3.heap w'.heap ex (by have:=hf3.le;omega)
 have hat:∀b,dQ b→w'.heap[b]?=h[b]?:=λb hb=>by
  classical
  by_cases he:ex b
  ·rw[q2 b (hf3.at' b hb).1 he]
  ·rw[q3 b he,hk b hb he];exact (hf3.at' b hb).2
 refine⟨⟨h,xs++wn.xs,N,w'⟩,⟨wn,hwn,⟨λb hb=>⟨(hwf.at' b hb).1,by rw[←hat b (hsub b hb)];exact (hwf.at' b hb).2⟩,?_,hwf.gl⟩,le_trans hws hfM,λx h=>?_,ael,rfl,rfl,q1.trans es1,λb hb=>(q3 b hb).trans (eh1 b hb)⟩,le_of_eq q1,⟨λb hb=>⟨?_,hat b hb⟩,?_,?_,hf3.gl.2⟩,λx h=>?_,.refl _⟩
 ·show wn.heap.size≤h.size;omega
 ·rcases hwx x h with ⟨h1,h2⟩ | ⟨h1,h2,_⟩
  ·exact mM h2 (hxn x h1)
  ·exact mM h2 (hxf x h1)
 ·show b<h.size;rw[q1];exact (hf3.at' b hb).1
 ·show h.size≤_;have:=hf3.le;omega
 ·refine mr.keep (λb hb=>?_) hwf.gl.1
  show h[b]?=_
  rw[←hat b (hf3.gl.2 b hb)];exact (hwf.at' b (hwf.gl.2 b hb)).2
 ·rcases List.mem_append.1 h with h | h
  ·exact .inr ⟨by rw[ex1];exact mem_append_left _ h,by rw[en1];exact Nat.le_refl _,hxs x h⟩
  ·rcases hwx x h with ⟨h1,_⟩ | ⟨h1,_,h3⟩
   ·exact .inl ⟨h1,hnx zn hzn⟩
   ·exact .inr ⟨by rw[ex1];exact mem_append_right _ h1,by rw[en1];exact Nat.le_refl _,h3⟩
def E2(ah:Nat→Prop)(V:Wz→Prop)(ex:Nat→Prop)(tm:List PV)(k N l0:Nat):Env:=λ_ dQ V3=>
 (∀z,V3 z→z.nx≤N∧dQ l0∧∃r,z.heap[l0]?=some (.loop r))∧ol ex dQ V3∧
 ∀(n:Nat) (eP:Nat→Prop) (V0:Wz→Prop),n≤k→(∀p∈tm,p.ge n=true)→(∀z,V0 z→z.nx≤n)→EG ex eP V0 n ah V→EG ex eP V0 n dQ V3
theorem Kh{l:Option Nat}{ex0:Nat→Prop}{V:Wz→Prop}{f:Operand}{ps:List Nat}{x y:Code}{fz:Option (Nat×Nat)}{g:FuncId}{cap:List PV}{ys:List (List PV)}{I J:Nat→List Obj→Prop}{lv:Exit}{lc:Code}
  (hg:Gives P g cap ys) (hys:∀y∈ys,y.length=ps.length) (hlv:zZ lv=some lc) (hI0:I 0 (S.objs++[vU,hole])) (je:∀i objs,I i objs→Gh S.objs.length objs) (jB:∀i objs,J i objs→Gh S.objs.length objs∧bC objs) (hV:V w0) (R:Rel base ah w0 S blk a w)
  (hl:∀l1,l=some l1→∃r,w.heap[l1]?=some (.loop r)) (Q_:ol ex0 ah V) (hnx:∀z,V z→∀x∈z.xs,x.1.lt z.nx=true→x.1.lt S.objs.length=true) (hf:S.ev f=.fn g [] cap) (hcap:cap.all PV.pure=true) (hfz:C8 (S.objs.length+2) fz)
  (kN:∀i args objs,I i objs→ys[i]?=some args→∀l0,PW P (some l0) (E2 ah V ex0 S.tmps S.objs.length (S.objs.length+2) l0) x (thenS (λS1=>PW P (some l0) (E2 ah V ex0 S.tmps S.objs.length (S.objs.length+2) l0) y (Bp fz (I (i+1)) lv (J i)) S1) (λ_ _=>False)) ⟨jH ps args S.tmps,objs⟩) :
  (Code.rangeFunc f ps.toArray x y).wpIn (Ba l) 0 P (λe a' w'=>∃ai ak,((e=.normal∧I ys.length ai)∨(e=lv∧∃i O,i<ys.length∧J i O∧ai=fF S.objs.length O))∧jO base ah V ⟨S.tmps,ai⟩ ak a' w') a w:=by
 refine wpIn_rangeFunc λfn _=>?_
 have acX:∀t:Nat,∀p,S.tmps[t]?=some p→p.lt S.objs.length=true:=λt p hp=>uD (R.tm t p hp)
 obtain⟨k,hk⟩:∃k,k=S.objs.length:=⟨_,rfl⟩
 have Gn:=R.ev f
 rw[hf]at Gn
 obtain⟨va,vc,hv,r1,r2⟩:=Gn
 have hva:va=[]:=List.eq_nil_of_length_eq_zero r1.1.symm
 subst hva
 obtain⟨z8,RG,acY⟩:∃z8,Rel base ah w0 ⟨S.tmps,S.objs++[vU,hole]⟩ z8 a w∧∀b,aK S.objs blk b→aK (S.objs++[vU,hole]) z8 b:=by
  have g1:=R.CS (o1:=vU) (gb:=none) (kr.refl w) (λg hg=>by cases hg) λ_=>by
   unfold bB aF;rw[if_pos rfl];rfl
  have g2:=g1.CS (o1:=hole) (gb:=none) (kr.refl w) (λg hg=>by cases hg) λ_=>by
   unfold bB aF;rw[if_pos rfl];rfl
  have e1:(S.objs++[vU]).length=S.objs.length+1:=by simp
  have e2:S.objs++[vU]++[hole]=S.objs++[vU,hole]:=by simp
  simp only[e1,e2]at g2
  refine⟨_,g2,λb hn j o h1 h2 h3=>?_⟩
  have hj:j<S.objs.length+2:=by have:=(List.getElem?_eq_some_iff.1 h1).1;simpa using this
  unfold aF at h3
  split at h3
  ·cases h3
  ·split at h3
   ·cases h3
   ·rw[List.getElem?_append_left (by omega)]at h1
    exact hn j o h1 h2 h3
 have hAg:(S.objs++[vU,hole])[S.objs.length]?=some vU:=by simp
 have hBg:(S.objs++[vU,hole])[S.objs.length+1]?=some hole:=by simp
 have hGl:(S.objs++[vU,hole]).length=S.objs.length+2:=by simp
 obtain⟨S',hS'⟩:∃S':St,S'=⟨S.tmps,S.objs++[vU,hole]⟩:=⟨_,rfl⟩
 have hSt:S'.tmps=S.tmps:=by rw[hS']
 have hSo:S'.objs=S.objs++[vU,hole]:=by rw[hS']
 rw[←hS']at RG
 rw[←hSo]at hAg hBg hGl hI0 acY
 rw[←hk]at hAg hBg hGl hfz kN je jB acX hnx ⊢
 obtain⟨D0,l0,Dn,W1,hent,hL1,qw,hs1,hwl,hDn,U1⟩:=Ke (P:=P) (l:=l) w fn a.tmps ps.toArray x y hl
 obtain⟨rec,hrec⟩:∃rec:LoopState→Option Code→Loop,rec=λst pe=>{ state:=st,pending:=pe,fn,tmps:=a.tmps,params:=ps.toArray,assign:=x,body:=y,defers:=D0 }:=⟨_,rfl⟩
 have hL1:W1.heap[l0]?=some (.loop (rec .ready none)):=by rw[hrec];exact hL1
 have hnl:∀k,w.heap.size≤k→aK S'.objs z8 k:=λk hk j o h1 h2 h3=>by
  have:=t_ RG.objs h1 h2 h3;omega
 have hpw:∀b,ah b→b<w.heap.size:=λb hb=>lt_of_lt_of_le (R.pr b hb) R.gr
 have Ra:¬ ex0 l0:=λh=>by have:=hpw l0 (Q_ l0 h).1;omega
 obtain⟨⟨fng,hfn,hname,hbody⟩,hgive⟩:=hg
 refine⟨l0,Dn.map λb=>{ target:=.collected b,args:=#[] },W1,{ target:=.fn (.func g) ⟨vc⟩,args:=#[.func (.yield l0) #[] #[]] },W1,g,
  ⟨.func (.yield l0) #[] #[]::vc⟩,W1,hent,?_,λ_ _=>trivial,?_,(λh=>by cases h),?_⟩
 ·simp only[resolve,hv]
  simp[go_sem]
 ·have e1:(#[.func (.yield l0) #[] #[]]:Array Value)++Array.mk vc=Array.mk (.func (.yield l0) #[] #[]::vc):=by apply Array.ext';simp
  simp only[invoke,callFunc,run_program,Sem.run_bind,Result.andThen_ok,hfn,hname,hbody,Bool.false_eq_true,if_false,Sem.run_pure]
  rw[e1]
 ·rw[show (0-1:Nat)=0 from rfl]
  refine sw ?_ l
  obtain⟨g_,hprot2⟩:∃g_:Nat→Prop,g_=λb=>b<W1.heap.size∧aK S'.objs z8 b:=⟨_,rfl⟩
  obtain⟨N,hN⟩:∃N,N=S'.objs.length:=⟨_,rfl⟩
  have hNk:N=k+2:=by rw[hN,hGl]
  obtain⟨xB,hxB⟩:∃xB:List (PV×Value),xB=(.aS (k+1) 0,.bool false)::pairs S'.tmps a.tmps:=⟨_,rfl⟩
  obtain⟨xA,hxA⟩:∃xA:List (PV×Value),xA=(.aS k 0,.bool false)::pairs S'.tmps a.tmps:=⟨_,rfl⟩
  obtain⟨F0,hF0⟩:∃F0,F0=fam ah V ex0 w.heap.size W1.heap xB N:=⟨_,rfl⟩
  obtain⟨F1,hF1⟩:∃F1,F1=fam ah V ex0 w.heap.size (W1.putObj l0 (.loop (rec .done (some lc)))).heap xA N:=⟨_,rfl⟩
  obtain⟨V2,hV2⟩:∃V2:Wz→Prop,V2=λz=>F0 z∨F1 z:=⟨_,rfl⟩
  obtain⟨Wd,hexI⟩:∃Wd:Nat→Prop,Wd=λb=>b=l0∨ex0 b:=⟨_,rfl⟩
  have hl1:l0<W1.heap.size:=by omega
  have ghost:∀{ww:World}{ok:Nat→Prop}{O:List Obj}{bl:Nat→Option Nat}{j:Nat},aO ww ok O bl (.aS j 0) (.bool false)→O[j]?=some vU→False:=by
   intro ww ok O bl j h h1
   have:=h.aS h1 rfl rfl
   unfold vL at this
   split at this
   ·cases this.1
   ·obtain⟨_,_,h,_⟩:=this;cases h
  have aaK:∀{ww:World}{ok:Nat→Prop}{O:List Obj}{bl:Nat→Option Nat}{j:Nat},O[j]?=some hole→aO ww ok O bl (.aS j 0) (.bool false):=
   λh=>⟨rfl,_,h,Nat.le_refl _,λhl=>by cases hl⟩
  have Gp:g_ l0:=by rw[hprot2];exact⟨by omega,hnl _ hwl⟩
  have hpD:∀b∈Dn,g_ b:=λb hb=>by rw[hprot2];have:=U1 b hb;exact⟨by omega,hnl _ this.1⟩
  have Rb:∀b,ah b→g_ b:=λb hb=>by
   rw[hprot2];exact⟨by have:=hpw b hb;omega,λj o h1 h2 h3=>RG.objs.np j o b h1 h2 h3 hb⟩
  have Nj:=RG.grew qw
  have abA:∀b,¬ g_ b→base b:=λb hb=>RG.pb b λh=>hb (Rb b h)
  have abB:∀k o g,S'.objs[k]?=some o→o.live=true→z8 k=some g→¬ g_ g:=by
   intro k o g h1 h2 h3 h4
   rw[hprot2]at h4
   exact h4.2 k o h1 h2 h3
  have acZ:∀b,b<w.heap.size→W1.heap[b]?=w.heap[b]?:=λb hb=>by
   have hbx:w.heap[b]?=some (w.heap[b]):=Array.getElem?_eq_getElem hb
   rw[qw.2.1 b _ hbx,hbx]
  have IJ:∀b∈mr.blocks,g_ b:=λb hb=>Rb b (R.gl.2 b hb)
  have ac0:∀b∈mr.blocks,b≠l0:=λb hb e=>by have:=hpw b (R.gl.2 b hb);omega
  have ac1:uz ah w0 W1.heap:=⟨λb hb=>⟨R.pr b hb,by rw[acZ b (hpw b hb)];exact R.fr b hb⟩,le_trans R.gr qw.1,R.gl⟩
  obtain⟨z0,hz0⟩:∃z0:Wz,z0=⟨W1.heap,xB++w0.xs,N,w⟩:=⟨_,rfl⟩
  have aem:F0 z0:=by
   rw[hF0,hz0];exact⟨w0,hV,ac1,R.gr,R.yQ,R.sm,rfl,rfl,rfl,λ_ _=>rfl⟩
  have aaL:∀x∈z0.xs,aO W1 (aZ base S'.objs z8) S'.objs z8 x.1 x.2:=by
   intro x hx
   rw[hz0]at hx
   rcases List.mem_append.1 hx with hx | hx
   ·rw[hxB]at hx
    rcases List.mem_cons.1 hx with rfl | hx
    ·exact aaK hBg
    ·obtain⟨t,h1,h2⟩:=xX hx
     rw[←h2]
     exact Nj.tm t x.1 h1
   ·exact Nj.ext x hx
  have abC:Rel base g_ z0 ⟨[],S'.objs⟩ z8 wC W1:=by
   refine⟨.nil _ _,rfl,λt p hp=>by simp at hp,⟨Nj.objs.ob,RG.objs.zV,abB⟩,λb hb=>by rw[hprot2]at hb;rw[hz0];exact hb.1,λ_ _=>by rw[hz0],by rw[hz0];exact Nat.le_refl _,abA,aaL,λx hx=>?_,by rw[hz0];exact qw.2.2,by rw[hz0];exact⟨Nj.kZ,IJ⟩⟩
   have:=uD (aaL x hx)
   rw[hz0];rw[←hN]at this;exact this
  have hcapR:bG (cu W1 (aZ base S'.objs z8)) cap vc:=by
   refine⟨r2.1,λi p v hp hv=>?_⟩
   have hpp:=List.all_eq_true.1 hcap p (List.mem_of_getElem? hp)
   have h1:aO w (aZ base S.objs blk) S.objs blk p v:=.dS (r2.2 i p v hp hv)
   have h2:cu w (aZ base S'.objs z8) p v:=(h1.zo hpp).o_ λb _ h=>⟨h.1,acY b h.2⟩
   exact h2.mono qw.1 (λ_ _ h=>h) (λb x _ h=>qw.2.1 b x h)
  have hltx:∀x∈pairs S'.tmps a.tmps,x.1.lt k=true:=λx hx=>by
   obtain⟨t,ht,_⟩:=xX hx
   exact acX t x.1 (by rw[←hSt];exact ht)
  have abD:IG P g_ V2 Wd l0 (Iq ys I λi O=>∃O',J i O'∧O=fF k O'):=by
   rintro bO dI w2 args vs K jQ iD H z hz hfit hsub R2 hargs ⟨i,hIi,hyi,hK,hKf⟩
   have hz:F0 z:=by
    rw[hV2]at hz
    rcases hz with hz | hz
    ·exact hz
    ·exfalso
     rw[hF1]at hz
     obtain⟨zf,_,_,_,_,_,e,_⟩:=hz
     refine ghost (R2.ext (.aS k 0,.bool false) ?_) (je i _ hIi).2.2.1
     show _∈z.xs
     rw[e,hxA];exact mem_append_left _ List.mem_cons_self
   rw[hF0]at hz
   obtain⟨zf,YR,Gn,hfM,hxf,hsf,ezx,ezn,ezs,ezh⟩:=hz
   have abI:∀b,ah b→iD b:=λb hb=>hsub b (Rb b hb)
   have h2H:∀b,iD b→w2.heap[b]?=H[b]?:=λb hb=>R2.fr b hb
   have hL2:w2.heap[l0]?=some (.loop (rec .ready none)):=(h2H l0 (hsub l0 Gp)).trans ((hfit.at' l0 Gp).2.trans ((ezh l0 Ra).trans hL1))
   have hlen:args.length=ps.length:=hys args (List.mem_of_getElem? hyi)
   have ac2:uz ah zf w2.heap:=⟨λb hb=>⟨(Gn.at' b hb).1,((h2H b (abI b hb)).trans (hfit.at' b (Rb b hb)).2).trans (Gn.at' b hb).2⟩,le_trans Gn.le (le_trans hfit.le R2.gr),Gn.gl⟩
   refine⟨rec .ready none,hL2,by rw[hrec];simp[←hargs.1,hlen],λb hb=>?_,?_⟩
   ·rw[hexI]at hb
    rcases hb with rfl | hb
    ·exact⟨_,hL2⟩
    ·obtain⟨h1,h2⟩:=Q_ b hb
     obtain⟨r,hr⟩:=h2 zf YR
     exact⟨r,(ac2.at' b h1).2.trans hr⟩
   refine roundIn_of_wpIn trivial ?_
   have hlt2:l0<w2.heap.size:=(Array.getElem?_eq_some_iff.1 hL2).1
   obtain⟨dQ,hprot3⟩:∃dQ:Nat→Prop,dQ=λb=>b<w2.heap.size∧aK bO dI b:=⟨_,rfl⟩
   have h23:∀b,iD b→dQ b:=by
    intro b hb
    rw[hprot3]
    exact⟨lt_of_lt_of_le (R2.pr b hb) R2.gr,λk o h1 h2 h3=>R2.objs.np k o b h1 h2 h3 hb⟩
   have h03:∀b,ah b→dQ b:=λb hb=>h23 b (abI b hb)
   have hp3:dQ l0:=h23 l0 (hsub l0 Gp)
   have Xf:∀b,¬ dQ b→jQ b:=λb hb=>R2.pb b λh=>hb (h23 b h)
   have abE:∀k o g,bO[k]?=some o→o.live=true→dI k=some g→¬ dQ g:=by
    intro k o g h1 h2 h3 h4
    rw[hprot3]at h4
    exact h4.2 k o h1 h2 h3
   have hwM:w.heap.size≤w2.heap.size:=by have:=hfit.le;have:=R2.gr;simp only at this;have:=qw.1;omega
   have aaM:∀(h0:Array Go.Obj) (st:LoopState) (pe:Option Code),w.heap.size≤h0.size→h0[l0]?=some (.loop (rec st pe))→E2 ah V ex0 S.tmps k (k+2) l0 jQ dQ (fam ah V ex0 w.heap.size h0 xB N):=by
    intro h0 st pe hM hrl
    refine⟨λz3 hz3=>?_,λb hb=>⟨h03 b (Q_ b hb).1,λz3 hz3=>?_⟩,λn eP V0 hnk QV hn0 hW=>Xh h03 (λx hx=>?_) (λz hz=>by have:=hn0 z hz;omega) hW hM⟩
    ·obtain⟨_,_,_,_,_,_,_,e,_,eh⟩:=hz3
     exact⟨by rw[e,hNk];exact Nat.le_refl _,hp3,_,(eh l0 Ra).trans hrl⟩
    ·obtain⟨zf,YR,Gn,_⟩:=hz3
     obtain⟨h1,h2⟩:=Q_ b hb
     obtain⟨r,hr⟩:=h2 zf YR
     exact⟨r,(Gn.at' b h1).2.trans hr⟩
    ·rw[hxB]at hx
     rcases List.mem_cons.1 hx with rfl | hx
     ·simp only[PV.ge,PV.Ea,decide_eq_true_eq];omega
     ·obtain⟨t,ht,_⟩:=xX hx
      exact QV x.1 (by rw[←hSt];exact List.mem_of_getElem? ht)
   obtain⟨Zn,htm0⟩:∃Zn,Zn=(((rec .ready none).params.zip (⟨vs⟩:Array Value)).foldl (λt (p,v)=>t.setIfInBounds p v) (rec .ready none).tmps):=⟨_,rfl⟩
   rw[←htm0]
   have Ob:Zn=(ps.zip vs).foldl (λt (p,v)=>t.setIfInBounds p v) a.tmps:=by
    rw[htm0,hrec]
    simp only[]
    rw[←Array.foldl_toList]
    simp
   have hset:=Gm (R:=aO w2 (aZ jQ bO dI) bO dI) (λv=>.dead v) ps args vs S'.tmps a.tmps hargs.1 RG.EB
    (λt p hp=>R2.ext (p,a.tmps.getD t undef) (by show _∈z.xs;rw[ezx,hxB];exact mem_append_left _ (mem_cons_of_mem _ (xY RG.EB hp)))) (λi p v h1 h2=>.aI (hargs.2 i p v h1 h2))
   have Rr:Rel jQ dQ ⟨w2.heap,z.xs,z.nx,z.out⟩ ⟨jH ps args S.tmps,bO⟩ dI { tmps:=Zn,defers:=[] } w2:=by
    refine⟨.nil _ _,by rw[Ob,←hSt];exact hset.1,λt p hp=>by rw[←hSt]at hp;rw[Ob];exact hset.2 t p hp,⟨R2.objs.ob,R2.objs.zV,abE⟩,λb hb=>by rw[hprot3]at hb;exact hb.1,λ_ _=>rfl,Nat.le_refl _,Xf,R2.ext,R2.yQ,R2.sm,⟨R2.kZ,λb hb=>h23 b (hsub b (IJ b hb))⟩⟩
   have Ls:=kN i args bO hIi hyi l0 jQ dQ (fam ah V ex0 w.heap.size w2.heap xB N) (aaM w2.heap .ready none hwM hL2) dI _ w2 ⟨⟨w2.heap,z.xs,z.nx,z.out⟩,⟨zf,YR,ac2,hfM,hxf,hsf,ezx,ezn,rfl,λ_ _=>rfl⟩,Rr⟩
   rw[show (rec .ready none).assign=x by rw[hrec],show (rec .ready none).body=y by rw[hrec]]
   change x.wpIn (Ba (some l0)) 0 P _ _ _
   refine wpIn_mono Ls ?_
   rintro e a3 w3 ⟨S3,blk3,he,z3,⟨zf3,hzf3,hff3,hfM3,hxf3,hsf3,ezx3,ezn3,ezs3,ezh3⟩,R3⟩
   cases e with
   | normal=>
    have hL3:w3.heap[l0]?=some (.loop (rec .ready none)):=(R3.fr l0 hp3).trans ((ezh3 l0 Ra).trans hL2)
    refine⟨_,run_beginRound hL3 (by rw[hrec]),?_⟩
    have Xg:({ rec .ready none with state:=.busy }:Loop)=rec .busy none:=by rw[hrec]
    rw[Xg]
    obtain⟨w4,hw4⟩:∃w4,w4=w3.putObj l0 (.loop (rec .busy none)):=⟨_,rfl⟩
    rw[←hw4]
    have hnc:∀st pe,¬ ig (.loop (rec st pe)):=by rintro st pe (⟨c,t,y,h⟩ | ⟨es,n,h⟩ | ⟨_,_,_,_,h⟩)<;>cases h
    have Q6:∀(k:Nat) x,w3.heap[k]?=some x→ig x→w4.heap[k]?=some x:=by rw[hw4];exact iR hL3 (hnc _ _)
    have hs4:w4.heap.size=w3.heap.size:=by rw[hw4];exact World.putObj_size
    have ho4:∀k:Nat,k≠l0→w4.heap[k]?=w3.heap[k]?:=λk hk=>by rw[hw4];exact World.putObj_heap_other hk
    have abF:l0<w3.heap.size:=(Array.getElem?_eq_some_iff.1 hL3).1
    have hL4:w4.heap[l0]?=some (.loop (rec .busy none)):=by rw[hw4];exact World.putObj_heap_same abF
    have abG:∀b,dQ b→b<w2.heap.size:=λb hb=>by rw[hprot3]at hb;exact hb.1
    have aej:w2.heap.size≤w3.heap.size:=by have:=R3.gr;omega
    have ac3:∀b,ah b→b≠l0:=λb hb e=>by have:=hpw b hb;omega
    have aen:uz ah zf3 w4.heap:=⟨λb hb=>⟨(hff3.at' b hb).1,by rw[ho4 b (ac3 b hb),R3.fr b (h03 b hb)];exact (hff3.at' b hb).2⟩,by rw[hs4];exact le_trans hff3.le R3.gr,hff3.gl⟩
    have R4:Rel jQ dQ ⟨w4.heap,z3.xs,z3.nx,z3.out⟩ S3 blk3 a3 w4:=by
     refine⟨?_,R3.EB,λt p hp=>fP (R3.tm t p hp) (le_of_eq hs4.symm) Q6,R3.objs.cells (le_of_eq hs4.symm) Q6 R3.objs.np,λb hb=>?_,λ_ _=>rfl,Nat.le_refl _,Xf,λx hx=>fP (R3.ext x hx) (le_of_eq hs4.symm) Q6,R3.yQ,R3.sm.trans (by rw[hw4];exact⟨rfl,rfl⟩),⟨mr.keep (λb hb=>ho4 b (ac0 b hb)) R3.kZ,R3.gl.2⟩⟩
     ·obtain⟨Ds,h1,h2,h3⟩:=R3.oC
      refine⟨Ds,h1,h2,λb hb=>?_⟩
      rw[ho4 b (λe=>(h3 b hb).2.2 (e ▸ hp3))]
      exact h3 b hb
     ·have:=abG b hb;show b<w4.heap.size;omega
    have hbody:=he jQ dQ (fam ah V ex0 w.heap.size w4.heap xB N) (aaM w4.heap .busy none (by omega) hL4) blk3 a3 w4 ⟨⟨w4.heap,z3.xs,z3.nx,z3.out⟩,⟨zf3,hzf3,aen,hfM3,hxf3,hsf3,ezx3,ezn3,rfl,λ_ _=>rfl⟩,R4⟩
    refine wpIn_mono hbody ?_
    rintro e a5 w5 ⟨S5,blk5,he5,z5,⟨zf5,hzf5,hff5,hfM5,hxf5,hsf5,ezx5,ezn5,ezs5,ezh5⟩,R5⟩
    have hL5:w5.heap[l0]?=some (.loop (rec .busy none)):=(R5.fr l0 hp3).trans ((ezh5 l0 Ra).trans hL4)
    have hl5:l0<w5.heap.size:=(Array.getElem?_eq_some_iff.1 hL5).1
    have aek:w4.heap.size≤w5.heap.size:=by have:=R5.gr;omega
    obtain⟨Q8,R6⟩:=Weak.norm (m:=N) [] fz (by rw[hNk];exact hfz) S5 jQ dQ z5 blk5 a5 w5 (by rw[ezn5];exact Nat.le_refl _) R5
    have fin:∀(st:LoopState) (pe:Option Code) (w6:World),w6=w5.putObj l0 (.loop (rec st pe))→∀(h1:Array Go.Obj) (xs1:List (PV×Value)),h1.size=W1.heap.size→h1[l0]?=some (.loop (rec st pe))→(∀b,b≠l0→h1[b]?=W1.heap[b]?)→
        ∃(zn:Wz) (H':Array Go.Obj),fam ah V ex0 w.heap.size h1 xs1 N zn∧zn.xs=xs1++zf5.xs∧zn.nx=N∧zn.heap.size≤z.heap.size∧uz g_ zn H'∧H'.size=H.size∧(∀b,¬ Wd b→H'[b]?=H[b]?)∧
         (∀b,iD b→w6.heap[b]?=H'[b]?)∧H'.size≤w6.heap.size∧Sm zn.out w6∧mr.holds H':=by
     intro st pe w6 IK h1 xs1 e1 e2 e3
     have hs6:w6.heap.size=w5.heap.size:=by rw[IK];exact World.putObj_size
     have ho6:∀k:Nat,k≠l0→w6.heap[k]?=w5.heap[k]?:=λk hk=>by rw[IK];exact World.putObj_heap_other hk
     have hL6:w6.heap[l0]?=some (.loop (rec st pe)):=by rw[IK];exact World.putObj_heap_same hl5
     have aeP:H.size≤w2.heap.size:=R2.gr
     have hall:∀b,dQ b→¬ Wd b→w6.heap[b]?=w2.heap[b]?:=by
      intro b hb hne
      rw[hexI]at hne
      have hbl:b≠l0:=λe=>hne (.inl e)
      have hbe:¬ ex0 b:=λe=>hne (.inr e)
      rw[ho6 b hbl,R5.fr b hb,ezh5 b hbe,ho4 b hbl,R3.fr b hb,ezh3 b hbe]
     obtain⟨H',p1,p2,p3⟩:=Q9 H w6.heap Wd (by omega)
     obtain⟨hz,q1,q2,q3⟩:=Q9 z.heap w6.heap Wd (by have:=hfit.le;omega)
     have abJ:∀b,iD b→w6.heap[b]?=H'[b]?:=λb hb=>by
      classical
      by_cases he:Wd b
      ·rw[p2 b (R2.pr b hb) he]
      ·rw[p3 b he,hall b (h23 b hb) he];exact h2H b hb
     have hat:∀b,g_ b→b<z.heap.size∧H'[b]?=hz[b]?:=λb hb=>by
      classical
      obtain⟨g1,g2⟩:=hfit.at' b hb
      refine⟨g1,?_⟩
      by_cases he:Wd b
      ·rw[q2 b g1 he,p2 b (by have:=hfit.le;omega) he]
      ·rw[q3 b he,p3 b he];exact g2
     have hg6:mr.holds w6.heap:=mr.keep (λb hb=>ho6 b (ac0 b hb)) R5.kZ
     have hgH:mr.holds H':=mr.keep (λb hb=>(abJ b (hsub b (IJ b hb))).symm) hg6
     refine⟨⟨hz,xs1++zf5.xs,N,w6⟩,H',⟨zf5,hzf5,⟨λb hb=>⟨(hff5.at' b hb).1,?_⟩,?_,hff5.gl⟩,hfM5,hxf5,(hsf5.trans R5.sm).trans (by rw[IK];exact⟨rfl,rfl⟩),rfl,rfl,q1.trans (ezs.trans e1.symm),λb hb=>?_⟩,rfl,rfl,le_of_eq q1,
      ⟨λb hb=>⟨by show b<hz.size;rw[q1];exact (hat b hb).1,(hat b hb).2⟩,by show hz.size≤_;have:=hfit.le;omega,?_,IJ⟩,p1,p3,abJ,by omega,.refl _,hgH⟩
     ·show hz[b]?=_
      rw[←(hat b (Rb b hb)).2,←abJ b (abI b hb),ho6 b (ac3 b hb),R5.fr b (h03 b hb)];exact (hff5.at' b hb).2
     ·show _≤hz.size;have:=hfM5;have:=qw.1;omega
     ·show hz[b]?=_
      by_cases hbl:b=l0
      ·subst hbl
       rw[q2 b (by rw[ezs];exact hl1) (by rw[hexI];exact .inl rfl),hL6,e2]
      ·rw[q3 b (by rw[hexI];rintro (h | h);exact hbl h;exact hb h),e3 b hbl];exact ezh b hb
     ·exact mr.keep (λb hb=>(hat b (IJ b hb)).2.symm) hgH
    have hgb':∀b∈mr.blocks,iD b:=λb hb=>hsub b (IJ b hb)
    have leave:zZ e=some lc→J i (S5.norm [] fz).objs→∃v w',(Instr.endRound l0 (some lc)).run P w5=.ok v w'∧(∃b ai ak zn H',Ending.returned v=.returned (.bool b)∧K b ai∧V2 zn∧zn.heap.size≤z.heap.size∧uz g_ zn H'∧H'.size=H.size∧(∀b,¬ Wd b→H'[b]?=H[b]?)∧Rel jQ iD ⟨H',zn.xs,zn.nx,zn.out⟩ ⟨[],ai⟩ ak wC w'):=by
     intro _ hJ
     refine⟨_,_,run_endRound (some lc) hL5,?_⟩
     have hdone:({ rec .busy none with state:=if (some lc:Option Code).isNone then .ready else .done,pending:=some lc }:Loop)=rec .done (some lc):=by rw[hrec];rfl
     rw[hdone]
     obtain⟨w6,IK⟩:∃w6,w6=w5.putObj l0 (.loop (rec .done (some lc))):=⟨_,rfl⟩
     rw[←IK]
     have Oc:∀(k:Nat) x,w5.heap[k]?=some x→ig x→w6.heap[k]?=some x:=by rw[IK];exact iR hL5 (hnc _ _)
     have hs6:w6.heap.size=w5.heap.size:=by rw[IK];exact World.putObj_size
     obtain⟨zn,H',g1,g2,g3,g4,g5,g6,g7,g8,g9,g10,g11⟩:=fin .done (some lc) w6 IK (W1.putObj l0 (.loop (rec .done (some lc)))).heap xA World.putObj_size (World.putObj_heap_same hl1) (λb hb=>World.putObj_heap_other hb)
     obtain⟨⟨gl,_,gA,gB⟩,gN⟩:=jB i _ hJ
     have hk1:k+1<(S5.norm [] fz).objs.length:=by omega
     have aeo:∀b,aZ jQ (S5.norm [] fz).objs Q8 b→aZ jQ (fF k (S5.norm [] fz).objs) (lU k Q8) b:=λb h=>⟨h.1,Br hk1 h.2⟩
     have tZ:cO jQ iD (S5.norm [] fz).objs Q8 w6:=R6.objs.cells (le_of_eq hs6.symm) Oc (λk o g h1 h2 h3 h4=>R6.objs.np k o g h1 h2 h3 (h23 g h4))
     have aep:∀x,x∈pairs S'.tmps a.tmps∨x∈zf5.xs→x∈z5.xs:=λx hx=>by
      rw[ezx5]
      rcases hx with hx | hx
      ·exact mem_append_left _ (by rw[hxB];exact mem_cons_of_mem _ hx)
      ·exact mem_append_right _ hx
     have hltk:∀x,x∈pairs S'.tmps a.tmps∨x∈zf5.xs→x.1.lt k=true:=λx hx=>by
      rcases hx with hx | hx
      ·exact hltx x hx
      ·exact hnx zf5 hzf5 x hx (hxf5 x hx)
     have hcase:∀x∈zn.xs,x=(.aS k 0,.bool false)∨(x∈pairs S'.tmps a.tmps∨x∈zf5.xs):=λx hx=>by
      rw[g2,hxA]at hx
      rcases List.mem_append.1 hx with hx | hx
      ·rcases List.mem_cons.1 hx with hx | hx
       ·exact .inl hx
       ·exact .inr (.inl hx)
      ·exact .inr (.inr hx)
     refine⟨false,fF k (S5.norm [] fz).objs,lU k Q8,zn,H',rfl,hKf _ ⟨_,hJ,rfl⟩,by rw[hV2,hF1];exact .inr g1,g4,g5,g6,g7,?_⟩
     refine⟨.nil _ _,rfl,λt p hp=>by simp at hp,U3 tZ hk1 gN gA,λb hb=>by show b<H'.size;rw[g6];exact R2.pr b hb,g8,g9,R2.pb,λx hx=>?_,λx hx=>?_,g10,⟨g11,hgb'⟩⟩
     ·rcases hcase x hx with rfl | hx
      ·exact aaK (E9 hk1)
      ·exact U2 (hltk x hx) aeo (fP (R6.ext x (aep x hx)) (le_of_eq hs6.symm) Oc)
     ·show x.1.lt zn.nx=true
      rw[g3,hNk]
      rcases hcase x hx with rfl | hx
      ·simp only[PV.lt,PV.mE,decide_eq_true_eq];omega
      ·exact mM (by omega) (hltk x hx)
    cases e with
    | normal=>
     refine⟨_,_,run_endRound none hL5,?_⟩
     have Q7:({ rec .busy none with state:=if (none:Option Code).isNone then .ready else .done,pending:=none }:Loop)=rec .ready none:=by rw[hrec];rfl
     rw[Q7]
     obtain⟨w6,IK⟩:∃w6,w6=w5.putObj l0 (.loop (rec .ready none)):=⟨_,rfl⟩
     rw[←IK]
     have Oc:∀(k:Nat) x,w5.heap[k]?=some x→ig x→w6.heap[k]?=some x:=by rw[IK];exact iR hL5 (hnc _ _)
     have hs6:w6.heap.size=w5.heap.size:=by rw[IK];exact World.putObj_size
     obtain⟨zn,H',g1,g2,g3,g4,g5,g6,g7,g8,g9,g10,g11⟩:=fin .ready none w6 IK W1.heap xB rfl hL1 (λ_ _=>rfl)
     refine⟨true,(S5.norm [] fz).objs,Q8,zn,H',rfl,hK _ he5,by rw[hV2,hF0];exact .inl g1,g4,g5,g6,g7,?_⟩
     have hxe:zn.xs=z5.xs:=by rw[g2,ezx5]
     refine⟨.nil _ _,rfl,λt p hp=>by simp at hp,R6.objs.cells (le_of_eq hs6.symm) Oc (λk o g h1 h2 h3 h4=>R6.objs.np k o g h1 h2 h3 (h23 g h4)),λb hb=>by show b<H'.size;rw[g6];exact R2.pr b hb,g8,g9,R2.pb,λx hx=>?_,λx hx=>?_,g10,⟨g11,hgb'⟩⟩
     ·exact fP (R6.ext x (by rw[←hxe];exact hx)) (le_of_eq hs6.symm) Oc
     ·have:=R5.yQ x (by rw[←hxe];exact hx)
      show x.1.lt zn.nx=true
      rw[g3,←ezn5];exact this
    | ret=>
     obtain⟨rfl,hJ⟩:=he5
     cases hlv
     exact leave rfl hJ
    | exit id=>
     obtain⟨rfl,hJ⟩:=he5
     cases hlv
     exact leave rfl hJ
    | _=>
     obtain⟨rfl,hJ⟩:=he5
     cases hlv
   | _=>exact he.elim
  have hlat:ol Wd g_ V2:=λb hb=>by
   rw[hexI]at hb
   rcases hb with rfl | hb
   ·refine⟨Gp,λz hz=>?_⟩
    rw[hV2,hF0,hF1]at hz
    rcases hz with hz | hz<;>obtain⟨_,_,_,_,_,_,_,_,_,eh⟩:=hz
    ·exact⟨_,(eh b Ra).trans hL1⟩
    ·exact⟨_,(eh b Ra).trans (World.putObj_heap_same hl1)⟩
   ·obtain⟨h1,h2⟩:=Q_ b hb
    refine⟨Rb b h1,λz hz=>?_⟩
    rw[hV2,hF0,hF1]at hz
    rcases hz with hz | hz<;>obtain⟨zf,YR,Gn,_⟩:=hz
    all_goals
     obtain⟨r,hr⟩:=h2 zf YR
     exact⟨r,(Gn.at' b h1).2.trans hr⟩
  refine Calls.mono (hgive I (λi O=>∃O',J i O'∧O=fF k O') base g_ V2 Wd l0 S'.objs z8 W1 vc abD hlat (λz hz=>by
   rw[hV2,hF0,hF1]at hz
   rcases hz with hz | hz<;>obtain⟨_,_,_,_,_,_,_,e,_⟩:=hz<;>rw[e,hN]<;>exact Nat.le_refl _) ⟨z0,by rw[hV2];exact .inl aem,abC⟩ hI0 (λi O h=>⟨by rw[hGl];exact (je i O h).1,(je i O h).2.1⟩) (λi O h=>by
   obtain⟨O',h,rfl⟩:=h
   obtain⟨⟨q1,q2,_,_⟩,q5⟩:=jB i O' h
   have hno:∀o∈fF k O',o.xs=[]∨o∈O':=λo ho=>by
    obtain⟨j,hj⟩:=List.mem_iff_getElem?.1 ho
    by_cases e2:j=k+1
    ·subst e2;rw[Lu (by omega)]at hj;cases hj;exact .inl rfl
    ·by_cases e1:j=k
     ·subst e1;rw[E9 (by omega)]at hj;cases hj;exact .inl rfl
     ·rw[pY e1 e2]at hj;exact .inr (List.mem_of_getElem? hj)
   refine⟨by rw[Kg,hGl];exact q1,λo ho x hx c hc=>?_,λo ho x hx c hc=>?_⟩
   ·rw[Kg]
    rcases hno o ho with h0 | h0
    ·rw[h0]at hx;cases hx
    ·exact q2 o h0 x hx c hc
   ·rcases hno o ho with h0 | h0
    ·rw[h0]at hx;cases hx
    ·exact q5 o h0 x hx c hc) hcapR) ?_
  rintro e w3 ⟨ai,ak,rfl,hIJ,z,hz,R3⟩
  rw[hV2]at hz
  have fin:∀(h1:Array Go.Obj) (xs1:List (PV×Value)) (st:LoopState) (pe:Option Code) (e':Exit),fam ah V ex0 w.heap.size h1 xs1 N z→(∀b,b≠l0→h1[b]?=W1.heap[b]?)→h1[l0]?=some (.loop (rec st pe))→st≠.busy→h1.size=W1.heap.size→(∀x∈pairs S'.tmps a.tmps,x∈xs1)→
      (∀Q':Exit→Act→World→Prop,∀aa ww,Q' e' aa ww→(match pe with | none=>Q' .normal aa ww | some c=>c.wpIn (Ba l) 0 P Q' aa ww))→
      ((e'=.normal∧I ys.length ai)∨(e'=lv∧∃i O,i<ys.length∧J i O∧ai=fF k O))→
      ∃jump w4,(Instr.endLoop l0).run P w3=.ok jump w4∧(match jump with
       | none=>(λe a' w'=>∃ai ak,((e=.normal∧I ys.length ai)∨(e=lv∧∃i O,i<ys.length∧J i O∧ai=fF k O))∧jO base ah V ⟨S.tmps,ai⟩ ak a' w') .normal { a with defers:=(Dn.map λb=>({ target:=.collected b,args:=#[] }:Deferred))++a.defers } w4
       | some c=>c.wpIn (Ba l) 0 P (λe a' w'=>∃ai ak,((e=.normal∧I ys.length ai)∨(e=lv∧∃i O,i<ys.length∧J i O∧ai=fF k O))∧jO base ah V ⟨S.tmps,ai⟩ ak a' w') { a with defers:=(Dn.map λb=>({ target:=.collected b,args:=#[] }:Deferred))++a.defers } w4):=by
   intro h1 xs1 st pe e' hz hoth ac4 hst hsize hzx hcode hend
   obtain⟨zf,YR,Gn,hfM,hxf,hsf,ezx,ezn,ezs,ezh⟩:=hz
   have hL3:w3.heap[l0]?=some (.loop (rec st pe)):=(R3.fr l0 Gp).trans ((ezh l0 Ra).trans ac4)
   have hD3:∀b∈Dn,w3.heap[b]?=some (.deferred (some [])):=λb hb=>by
    have hbb:=U1 b hb
    refine (R3.fr b (hpD b hb)).trans ((ezh b (λhe=>?_)).trans ((hoth b (by omega)).trans hbb.2.2))
    have:=hpw b (Q_ b he).1;omega
   have hnc:¬ ig (.loop (rec st pe)):=by rintro (⟨c,t,y,h⟩ | ⟨es,n,h⟩ | ⟨_,_,_,_,h⟩)<;>cases h
   have ac5:=run_endLoop (P:=P) hL3 (by rw[hrec];exact hst)
   refine⟨pe,w3.putObj l0 (.loop { rec st pe with state:=.exhausted }),by rw[ac5,hrec],?_⟩
   have hcl:=iR (o':=.loop { rec st pe with state:=.exhausted }) hL3 hnc
   have hsz:(w3.putObj l0 (.loop { rec st pe with state:=.exhausted })).heap.size=w3.heap.size:=World.putObj_size
   have hle:w.heap.size≤w3.heap.size:=by have:=R3.gr;rw[ezs,hsize]at this;have:=qw.1;omega
   have hother:∀k:Nat,k≠l0→(w3.putObj l0 (.loop { rec st pe with state:=.exhausted })).heap[k]?=w3.heap[k]?:=λk hk=>World.putObj_heap_other hk
   have hkeep:∀b,b<w.heap.size→aK S'.objs z8 b→aK ai ak b:=by
    intro b hb hnb k o h1 h2 h3
    refine R3.objs.np k o b h1 h2 h3 ?_
    rw[hprot2];exact⟨by omega,hnb⟩
   have hsame:∀b,b<w.heap.size→aK S'.objs z8 b→¬ ex0 b→(w3.putObj l0 (.loop { rec st pe with state:=.exhausted })).heap[b]?=w.heap[b]?:=by
    intro b hb hnb hne
    rw[hother b (by omega),R3.fr b (by rw[hprot2];exact⟨by omega,hnb⟩),ezh b hne,hoth b (by omega)]
    exact acZ b hb
   have hpn:∀b,ah b→b<w.heap.size∧aK S'.objs z8 b:=λb hb=>⟨lt_of_lt_of_le (RG.pr b hb) RG.gr,λk o h1 h2 h3=>RG.objs.np k o b h1 h2 h3 hb⟩
   have abH:∀k o g,ai[k]?=some o→o.live=true→ak k=some g→¬ ah g:=λk o g h1 h2 h3 h4=>hkeep g (hpn g h4).1 (hpn g h4).2 k o h1 h2 h3
   refine hcode (λe a' w'=>∃ai ak,((e=.normal∧I ys.length ai)∨(e=lv∧∃i O,i<ys.length∧J i O∧ai=fF k O))∧jO base ah V ⟨S.tmps,ai⟩ ak a' w') _ _ ⟨ai,ak,hend,zf,YR,?_,R.EB,λt p hp=>?_,R3.objs.cells (le_of_eq hsz.symm) hcl abH,λb hb=>(Gn.at' b hb).1,λb hb=>?_,by rw[hsz];omega,R.pb,λx hx=>?_,hxf,(hsf.trans R3.sm).trans ⟨rfl,rfl⟩,Gn.gl⟩
   ·obtain⟨Ds,h1,h2,h3⟩:=RG.oC
    refine⟨Dn++Ds,by simp[h1],List.nodup_append.2 ⟨hDn,h2,λp hp q hq e=>?_⟩,λb hb=>?_⟩
    ·subst e
     have:=(Array.getElem?_eq_some_iff.1 (h3 _ hq).1).1;have:=(U1 p hp).1;omega
    ·rcases List.mem_append.1 hb with hb | hb
     ·refine⟨by rw[hother _ (by have:=(U1 b hb).2.1;omega)];exact hD3 b hb,⟨RG.bs _ (le_trans RG.gr (U1 b hb).1),λk o h1 h2 h3=>R3.objs.np k o _ h1 h2 h3 (hpD b hb)⟩,λhp=>by have:=(hpn _ hp).1;have:=(U1 b hb).1;omega⟩
     ·obtain⟨q1,q2,q3⟩:=h3 b hb
      have hbs:=(Array.getElem?_eq_some_iff.1 q1).1
      exact⟨by rw[hsame b hbs q2.2 (λhe=>q3 (Q_ b he).1)];exact q1,⟨q2.1,hkeep b hbs q2.2⟩,q3⟩
   ·exact fP (R3.ext (p,a.tmps.getD t undef) (by rw[ezx];exact mem_append_left _ (hzx _ (xY RG.EB (by rw[hSt];exact hp))))) (le_of_eq hsz.symm) hcl
   ·rw[hother b (by have:=hpw b hb;omega),R3.fr b (Rb b hb)];exact (Gn.at' b hb).2
   ·exact fP (R3.ext x (by rw[ezx];exact mem_append_right _ hx)) (le_of_eq hsz.symm) hcl
  rcases hz with hz | hz
  ·rw[hF0]at hz
   obtain⟨ws,hxs⟩:∃ws,z.xs=xB++ws:=by obtain⟨_,_,_,_,_,_,e,_⟩:=hz;exact⟨_,e⟩
   have hI:I ys.length ai:=by
    refine hIJ.resolve_right λ⟨i,_,O,hJ,e⟩=>?_
    refine ghost (R3.ext (.aS (k+1) 0,.bool false) (by rw[hxs,hxB];exact mem_append_left _ List.mem_cons_self)) ?_
    rw[e];exact Lu (by have:=(jB i O hJ).1.1;omega)
   exact fin W1.heap xB .ready none .normal hz (λ_ _=>rfl) hL1 (by simp) rfl (λx hx=>by rw[hxB];exact mem_cons_of_mem _ hx) (λQ' aa ww h=>h) (.inl ⟨rfl,hI⟩)
  ·rw[hF1]at hz
   obtain⟨ws,hxs⟩:∃ws,z.xs=xA++ws:=by obtain⟨_,_,_,_,_,_,e,_⟩:=hz;exact⟨_,e⟩
   have hJ:∃i O,i<ys.length∧J i O∧ai=fF k O:=by
    rcases hIJ with h | ⟨i,hi,O,hJ,e⟩
    ·exact (ghost (R3.ext (.aS k 0,.bool false) (by rw[hxs,hxA];exact mem_append_left _ List.mem_cons_self)) (je _ _ h).2.2.1).elim
    ·exact⟨i,O,hi,hJ,e⟩
   refine fin (W1.putObj l0 (.loop (rec .done (some lc)))).heap xA .done (some lc) lv hz (λb hb=>World.putObj_heap_other hb) (World.putObj_heap_same hl1) (by simp) World.putObj_size (λx hx=>by rw[hxA];exact mem_cons_of_mem _ hx) (λQ' aa ww h=>?_) (.inr ⟨rfl,hJ⟩)
   cases lv<;>simp only[zZ,Option.some.injEq,reduceCtorEq]at hlv
   ·subst hlv;exact wpIn_exit h
   ·subst hlv;exact wpIn_ret h
end
structure tL (P:Program) (l:Option Nat) (E:Env) (T:Know):Prop where
 fn:jP P T.fn
 y:∀base ah V,E base ah V→∃ex,IG P ah V ex T.y T.Y
 nx:∀base ah V,E base ah V→∀w0,V w0→w0.nx≤T.nx
 top:T.top=true→∀l1,l=some l1→∀base ah V,E base ah V→∀w0,V w0→ah l1∧∃r,w0.heap[l1]?=some (.loop r)
 gives:∀g cap ys,T.gives g cap ys→Gives P g cap ys
 ge:∀g cap ys,T.ge g cap ys→qp P g cap ys
 b:∀base ah V,E base ah V→YQ P ah V T
 gb:(∀g bargs ys,T.gb g bargs ys→fC P g bargs ys)∧∀f args objs K,T.fa f args objs K→jA P f args objs K
theorem tL.inner {E:Env}(h:tL P l E T)(n l0:Nat):tL P (some l0) (E0 n l0) (T.inner n):=
 ⟨h.fn,λ_ _ _ _=>IG.none,λ_ _ _ hE w0 hw=>(hE w0 hw).1,λ_ _ e _ _ _ hE w0 hw=>by cases e;exact (hE w0 hw).2,h.gives,h.ge,λ_ _ _ _=>YQ.none rfl,h.gb⟩
theorem E2.e0 {ah:Nat→Prop}{V:Wz→Prop}{ex:Nat→Prop}{tm:List PV}{k N l0:Nat}{jQ dQ:Nat→Prop}{V3:Wz→Prop}(h:E2 ah V ex tm k N l0 jQ dQ V3):E0 N l0 jQ dQ V3:=h.1
theorem tL.Xi {E:Env}(h:tL P l E T)(n l0:Nat){ah:Nat→Prop}{V:Wz→Prop}{ex:Nat→Prop}{tm:List PV}{k:Nat}:tL P (some l0) (E2 ah V ex tm k n l0) (T.inner n):=
 ⟨h.fn,λ_ _ _ _=>IG.none,λ_ _ _ hE w0 hw=>(hE.1 w0 hw).1,λ_ _ e _ _ _ hE w0 hw=>by cases e;exact (hE.1 w0 hw).2,h.gives,h.ge,λ_ _ _ _=>YQ.none rfl,h.gb⟩
theorem tL.oV {E:Env}(h:tL P l E T)(n l0:Nat){ah eP:Nat→Prop}{V V0:Wz→Prop}{ex:Nat→Prop}{tm:List PV}{k:Nat}(hY:IG P eP V0 ex T.y T.YB)(hL:ol ex eP V0)(hW:EG ex eP V0 T.bn ah V)
  (hnx:∀z,V0 z→z.nx≤T.bn) (hk:T.bn≤k) (QV:∀p∈tm,p.ge T.bn=true):tL P (some l0) (E2 ah V ex tm k n l0) (T.oV n):=
 ⟨h.fn,λ_ _ _ _=>IG.none,λ_ _ _ hE w0 hw=>(hE.1 w0 hw).1,λ_ _ e _ _ _ hE w0 hw=>by cases e;exact (hE.1 w0 hw).2,h.gives,h.ge,λ_ _ _ hE _=>⟨ex,eP,V0,hY,hL,hE.2.2 T.bn eP V0 hk QV hnx hW,hnx,hE.2.1⟩,h.gb⟩
theorem kG(hD:∀t,fB P t (D t))(hm:P.follows .mixedOrders=true):∀(C:LC) (T:Know) (l:Option Nat) (E:Env) (c:Code) (Q:Exit→St→Prop) (S:St),tL P l E T→strip C=comp c→iK P D T C Q S→PW P l E c Q S:=by
 intro C
 induction C with
 | skip=>
  intro T l E c Q S hk he h
  cases c<;>simp only[comp,strip]at he<;>first | (cases he;done) | skip
  ·exact .skip h
  ·rename_i d;cases d<;>simp only[comp]at he<;>first | (cases he;done) | (cases hs:(dA _ _ && dN _)<;>rw[hs]at he<;>cases he)
 | ret=>
  intro T l E c Q S hk he h
  cases c<;>simp only[comp,strip]at he<;>first | (cases he;done) | skip
  ·rename_i d;cases d<;>simp only[comp]at he<;>first | (cases he;done) | (cases hs:(dA _ _ && dN _)<;>rw[hs]at he<;>cases he)
  ·exact .ret h
 | bad=>intro T l E c Q S hk he h;exact h.elim
 | exit id=>
  intro T l E c Q S hk he h
  cases c<;>simp only[comp,strip]at he<;>first | (cases he;done) | skip
  ·rename_i d;cases d<;>simp only[comp]at he<;>first | (cases he;done) | (cases hs:(dA _ _ && dN _)<;>rw[hs]at he<;>cases he)
  ·cases he;exact .exit h
 | weak x ihx=>
  intro T l E c Q S hk he h
  obtain⟨S',hw,h⟩:=h
  exact .weak hk.nx hw (ihx _ _ _ _ _ _ hk he h)
 | reg ss=>
  intro T l E c Q S hk he h
  cases c<;>simp only[comp,strip]at he<;>first | (cases he;done) | skip
  rename_i id ops d
  cases d<;>simp only[comp]at he
  ·simp only[LC.reg.injEq]at he
   have ht:ops=ops.toList.toArray:=by simp
   intro base ah V hE blk a w R
   refine wpIn_region ?_
   have:=Bq (l:=l) (Qm:=λe a' w'=>∃S' ak,Q e S'∧jO base ah V S' ak a' w') hD hk.fn (hk.y base ah V hE) (hk.b base ah V hE) hk.gb ops.toList ss 0 S [] _ blk a w he (λj=>by simp) h R (λS' ts' ak a' w' hK R'=>⟨S',ak,hK,R'⟩)
   rw[List.range_eq_range']
   simpa using this
  ·cases hs:(dA _ _ && dN _)<;>rw[hs]at he<;>cases he
 | draw ss un=>
  intro T l E c Q S hk he h
  cases c<;>simp only[comp,strip]at he<;>first | (cases he;done) | skip
  rename_i id ops d
  cases d<;>simp only[comp]at he
  ·cases he
  ·cases hs:(dA ops.toList (masks ops.toList []) && dN ops.toList)<;>rw[hs]at he
   ·cases he
   ·simp only[cond_true,LC.draw.injEq]at he
    obtain⟨he,rfl⟩:=he
    have:ops=ops.toList.toArray:=by simp
    rw[this]
    refine PW.acM (λi=>((ss[i]?).map (·.own)).getD false) hD hm (uG (λS' ts hh=>?_) _ _ _ _ (qX hk.fn ops.toList ss 0 S [] _ he (λj s hs=>by simp[hs]) h))
    exact⟨J_ (Bool.and_eq_true _ _ ▸ hs).1 hh.1,hh.2⟩
 | NZ b ss un=>
  intro T l E c Q S hk he h
  cases c<;>simp only[comp,strip]at he<;>first | (cases he;done) | skip
  rename_i id ops d
  cases d<;>simp only[comp]at he
  ·cases he
  ·cases hs:(dA ops.toList (masks ops.toList []) && dN ops.toList)<;>rw[hs]at he
   ·cases he
   ·rw[Bool.and_eq_true]at hs
    obtain⟨hs,hgb⟩:=hs
    simp only[cond_true,LC.draw.injEq]at he
    obtain⟨he,rfl⟩:=he
    obtain⟨hch,h⟩:=h
    obtain⟨hb,hchain⟩:=Xd hch
    have hops:ops=ops.toList.toArray:=by simp
    intro base ah V hE blk a w ⟨w0,hV,R⟩
    refine wpIn_region_any hm ?_
    rw[hops]
    have hlA:(ops.toList.take b).length=b:=by rw[List.length_take];omega
    have hA:=acL (l:=l) (ops:=ops.toList.take b) (λi=>(((ss.take b)[i]?).map (·.own)).getD false) hD (Q:=λe S'=>e=.normal∧LR P D T (ss.drop b) S' [] λQU _=>Q .normal QU)
     (uG (λS' ts hh=>by
      refine⟨J_ (by rw[Gl _ hb];exact II hs hgb hb) (by rw[Gl _ hb,QZ _ hb];exact hh.1),rfl,hh.2⟩) _ _ _ _
      (qX hk.fn (ops.toList.take b) (ss.take b) 0 S [] _ (by rw[N_ hgb,List.map_take,he,List.map_take]) (λj s hs=>by simp[hs]) h)) ⟨w0,hV,R.grew (w':={ w with drawn:=w.drawn+1 }) (.same rfl)⟩
    have hsz:(ops.toList.take b).toArray.size=b:=by simp[hlA]
    rw[hsz]at hA
    have hcut:=Zj (Q:=λe a' w'=>∃S' ak,Q e S'∧jO base ah V S' ak a' w') hb (Zm hs) hchain (λi o hi ho j want hg=>Nat.lt_trans (qo hgb ho hg) hi)
     (λe a' w' hne ⟨S',ak,⟨h1,_⟩,_⟩=>absurd h1 hne) (λa' w' ⟨S',ak,⟨_,hL⟩,hR⟩=>by
      have:=Bq (l:=l) (Qm:=λe a' w'=>∃S' ak,Q e S'∧jO base ah V S' ak a' w') hD hk.fn (hk.y base ah V hE) (hk.b base ah V hE) hk.gb (ops:=ops.toList) (ops.toList.drop b) (ss.drop b) b S' [] _ ak a' w' (by rw[List.map_drop,he,List.map_drop]) (λj=>by rw[List.getElem?_drop]) hL hR (λQU ts' jc a'' w'' hK R'=>⟨QU,jc,hK,R'⟩)
      rw[List.length_drop]at this
      exact this) b (Array.replicate b false) (Array.replicate ops.toList.length false) a _ (by simp) (by simp) (λj hj=>?_) (λj hj=>?_) (λj hj hjt=>?_) hA
    ·have e:b+(ops.toList.length-b)=ops.toList.toArray.size:=by rw[List.size_toArray];omega
     rw[e]at hcut
     simpa using hcut
    ·rw[Array.getD_eq_getD_getElem?,Array.getD_eq_getD_getElem?,Array.getElem?_replicate,Array.getElem?_replicate,if_pos hj,if_pos (by omega)]
    ·rw[Array.getD_eq_getD_getElem?,Array.getElem?_replicate];split<;>rfl
    ·simp only[Array.getD_eq_getD_getElem?,Array.getElem?_replicate]at hjt;split at hjt<;>cases hjt
 | seq x y ihx ihy=>
  intro T l E c Q S hk he h
  cases c<;>simp only[comp,strip]at he<;>first | (cases he;done) | skip
  ·rename_i d;cases d<;>simp only[comp]at he<;>first | (cases he;done) | (cases hs:(dA _ _ && dN _)<;>rw[hs]at he<;>cases he)
  ·simp only[LC.seq.injEq]at he
   exact .seq ((ihx _ _ _ _ _ _ hk he.1 h).mono (nS λS' h'=>ihy _ _ _ _ _ _ hk he.2 h'))
 | cond o x y ihx ihy=>
  intro T l E c Q S hk he h
  cases c<;>simp only[comp,strip]at he<;>first | (cases he;done) | skip
  ·rename_i d;cases d<;>simp only[comp]at he<;>first | (cases he;done) | (cases hs:(dA _ _ && dN _)<;>rw[hs]at he<;>cases he)
  ·simp only[LC.cond.injEq]at he
   obtain⟨rfl,h1,h2⟩:=he
   refine .cond ?_
   unfold iK zB at h
   unfold zB
   split at h
   ·exact⟨λhb=>ihx _ _ _ _ _ _ hk h1 (h.1 hb),λhb=>ihy _ _ _ _ _ _ hk h2 (h.2 hb)⟩
   ·exact h.elim
 | block id x ihx=>
  intro T l E c Q S hk he h
  cases c<;>simp only[comp,strip]at he<;>first | (cases he;done) | skip
  ·rename_i d;cases d<;>simp only[comp]at he<;>first | (cases he;done) | (cases hs:(dA _ _ && dN _)<;>rw[hs]at he<;>cases he)
  ·simp only[LC.block.injEq]at he
   obtain⟨rfl,h1⟩:=he
   exact .block (ihx _ _ _ _ _ _ hk h1 h)
 | loop ks fz x ihx=>
  intro T l E c Q S hk he h
  cases c<;>simp only[comp,strip]at he<;>first | (cases he;done) | skip
  ·rename_i d;cases d<;>simp only[comp]at he<;>first | (cases he;done) | (cases hs:(dA _ _ && dN _)<;>rw[hs]at he<;>cases he)
  ·simp only[LC.loop.injEq,true_and]at he
   obtain⟨hfz,I,⟨S0,m,hw,hI⟩,hr⟩:=h
   refine .weak hk.nx hw ?_
   exact PW.acU hk.nx I hI λm S hS=>(ihx _ _ _ _ _ _ hk he (hr m S hS)).mono (nS λS' ⟨m',h1,h2⟩=>⟨S'.norm ks fz,m',Weak.norm ks fz hfz S',h2,h1⟩)
 | rf f ps fz x y ihx ihy=>
  intro T l E c Q S hk he h
  cases c<;>simp only[comp,strip]at he<;>first | (cases he;done) | skip
  ·rename_i d;cases d<;>simp only[comp]at he<;>first | (cases he;done) | (cases hs:(dA _ _ && dN _)<;>rw[hs]at he<;>cases he)
  ·rename_i f' ps' x' y'
   simp only[LC.rf.injEq,true_and]at he
   obtain⟨rfl,rfl,h1,h2⟩:=he
   have htop:=hk.top h.1
   replace h:=h.2
   intro base ah V hE blk a w ⟨w0,hV,R⟩
   have hl:∀l1,l=some l1→∃r,w.heap[l1]?=some (.loop r):=λl1 e=>by
    obtain⟨h1,r,h2⟩:=htop l1 e base ah V hE w0 hV
    exact⟨r,(R.fr l1 h1).trans h2⟩
   have hps:ps'.toList.toArray=ps':=by simp
   rcases h with ⟨g,cap,ys,hf,hcap,hg,hys,h⟩ | ⟨g,cap,ys,I,hf,hcap,hg,hys,hfz,hI0,je,kN,hend⟩
   rotate_left
   ·have:=Oa (l:=l) (x:=x') (y:=y') (hk.ge g cap ys hg) hys hI0 je R hl hf hcap hfz λi args objs hi hy l0=>
      (ihx _ _ _ _ _ _ (hk.inner S.objs.length l0) h1 (kN i args objs hi hy)).mono (nS λS1 h'=>ihy _ _ _ _ _ _ (hk.inner S.objs.length l0) h2 h')
    rw[hps]at this
    refine wpIn_mono this ?_
    rintro e a' w' ⟨ai,ak,rfl,hI,R'⟩
    exact⟨_,ak,hend ai hI,w0,hV,R'⟩
   rcases h with ⟨I,hfz,hI0,je,kN,hend⟩ | ⟨I,J,lv,lc,hlv,hfz,hI0,je,jB,kN,hend,hleave⟩ | ⟨hbb,hbn,hbt,hbx,I,J,lv,lc,hlv,hfz,hI0,je,jB,kN,hend,hleave⟩
   ·have:=Oa (l:=l) (x:=x') (y:=y') (hk.gives g cap ys hg) hys hI0 je R hl hf hcap hfz λi args objs hi hy l0=>
      (ihx _ _ _ _ _ _ (hk.inner S.objs.length l0) h1 (kN i args objs hi hy)).mono (nS λS1 h'=>ihy _ _ _ _ _ _ (hk.inner S.objs.length l0) h2 h')
    rw[hps]at this
    refine wpIn_mono this ?_
    rintro e a' w' ⟨ai,ak,rfl,hI,R'⟩
    exact⟨_,ak,hend ai hI,w0,hV,R'⟩
   ·have:=Kh (l:=l) (x:=x') (y:=y') (V:=λz=>z=w0) (ex0:=λ_=>False) (hk.gives g cap ys hg) hys hlv hI0 je jB rfl R hl (λ_ h=>h.elim) (λz hz x hx _=>by subst hz;exact uD (R.ext x hx)) hf hcap hfz λi args objs hi hy l0=>
      (ihx _ _ _ _ _ _ (hk.Xi (S.objs.length+2) l0) h1 (kN i args objs hi hy)).mono (nS λS1 h'=>ihy _ _ _ _ _ _ (hk.Xi (S.objs.length+2) l0) h2 h')
    rw[hps]at this
    refine wpIn_mono this ?_
    rintro e a' w' ⟨ai,ak,h,_,rfl,R'⟩
    rcases h with ⟨rfl,hI⟩ | ⟨rfl,i,O,hi,hJ,rfl⟩
    ·exact⟨_,ak,hend ai hI,_,hV,R'⟩
    ·exact⟨_,ak,hleave i O hi hJ,_,hV,R'⟩
   ·obtain⟨ex,eP,V0,hY,hL,hW,hnx,hL2⟩:=hk.b base ah V hE hbb
    have:=Kh (l:=l) (x:=x') (y:=y') (V:=V) (ex0:=ex) (hk.gives g cap ys hg) hys hlv hI0 je jB hV R hl hL2 (λz hz x _ h=>mM (le_trans (hk.nx base ah V hE z hz) hbx) h) hf hcap hfz λi args objs hi hy l0=>
     (ihx _ _ _ _ _ _ (hk.oV (S.objs.length+2) l0 hY hL hW hnx hbn hbt) h1 (kN i args objs hi hy)).mono (nS λS1 h'=>ihy _ _ _ _ _ _ (hk.oV (S.objs.length+2) l0 hY hL hW hnx hbn hbt) h2 h')
    rw[hps]at this
    refine wpIn_mono this ?_
    rintro e a' w' ⟨ai,ak,h,R'⟩
    rcases h with ⟨rfl,hI⟩ | ⟨rfl,i,O,hi,hJ,rfl⟩
    ·exact⟨_,ak,hend ai hI,R'⟩
    ·exact⟨_,ak,hleave i O hi hJ,R'⟩
end Lp
namespace Lp
open Go
variable {P:Program}{D:TypeId→aD}{T:Know}
def kT(D:TypeId→aD)(S:St):List ResultVar→(List PV→Prop)→Prop
 | [],K=>K []
 | .tmp t::rs,K=>kT D S rs λps=>K (S.tmps.getD t .dead::ps)
 | .cell a t::rs,K=>eD (D t) (S.tmps.getD a .dead) S.objs λp _ _=>kT D S rs λps=>K (p::ps)
def fU:List PV→PV
 | [p]=>p
 | ps=>.bY ps
def U4(D:TypeId→aD)(d:Nat)(rs:List ResultVar)(r:PV)(e:Exit)(S:St):Prop:=
 (e=.normal∨e=.ret)∧kT D S rs λps=>r=fU (ps.map (jG d 0 S.objs))
def Rc(d:Nat)(t:Nat)(o':Obj)(e:Exit)(S:St):Prop:=
 (e=.normal∨e=.ret)∧∃S' k ver o,Weak 0 S S'∧S'.tmps.getD t .dead=.aS k ver∧S'.objs[k]?=some o∧o.live=true∧o.ver=ver∧{ eO d (k+1) S'.objs o with ver:=0 }=o'∧bC [o']
section
variable {base ah:Nat→Prop}{w0:Wz}{S:St}{blk:Nat→Option Nat}{a:Act}{w:World}
theorem qx{ok:Nat→Prop}{p:PV}{v:Value}(h:aO w ok [] blk p v):cu w ok p v:=by
 have hS:∀(p:PV) (v:Value),aV w ok [] blk p v→cu w ok p v:=by
  intro p v h
  cases p<;>first | exact h | (obtain⟨_,o,ho,_⟩:=h;simp at ho)
 cases p
 case fn f x c=>obtain⟨va,vc,rfl,h1,h2⟩:=h;exact .fn _ _ _ va vc h1.1 h2.1 (λi p v a b=>hS _ _ (h1.2 i p v a b)) (λi p v a b=>hS _ _ (h2.2 i p v a b))
 case bY cs=>obtain⟨vs,rfl,h1⟩:=h;exact .bY _ vs h1.1 (λi p v a b=>hS _ _ (h1.2 i p v a b))
 case agg cs=>obtain⟨vs,rfl,h1⟩:=h;exact .agg _ vs h1.1 (λi p v a b=>hS _ _ (h1.2 i p v a b))
 all_goals exact hS _ _ h
theorem Zo(S:St)(d:Nat):(S.freeze d 0).objs=[]:=by simp[St.freeze]
theorem aer(R:Rel base ah w0 S blk a w)(d:Nat)(p:PV)(v:Value)(h:aO w (aZ base S.objs blk) S.objs blk p v):cu w base (jG d 0 S.objs p) v:=by
 have:=Gc R d 0 p v h
 rw[Zo]at this
 exact (qx this).o_ λb _ h=>h.1
theorem U5(hD:∀t,fB P t (D t))(R:Rel base ah w0 S blk a w){t x:Nat}{K:KT}(h:eD (D t) (S.tmps.getD x .dead) S.objs K) :
  ∃p ad v τ,a.tmps.getD x undef=.pointer (some ad)∧(loadVar t ad).run P w=.ok v w∧K p S.objs τ∧aO w (aZ base S.objs blk) S.objs blk p v:=by
 have hx:=R.ev (.tmp x)
 change aO w (aZ base S.objs blk) S.objs blk (S.tmps.getD x .dead) (a.tmps.getD x undef) at hx
 unfold eD at h
 split at h
 ·rename_i p e
  rw[e]at hx
  obtain⟨hk,h1,h2,h3⟩:=h
  have hx':=hx.addr
  generalize hv:a.tmps.getD x undef=v at hx'
  cases hx' with
  | addr _ b off vs hok hcell hrep=>
   obtain⟨u,g1,g2⟩:=mF (hD t) hk (At.zo vs hcell hrep) h1 h2
   exact⟨_,_,_,_,rfl,g1,h3,Bc g2⟩
 ·rename_i k ver i f e
  rw[e]at hx
  obtain⟨ob,el,h1,h2,h3,h4,hk,h5,h6,h7,h8⟩:=h
  obtain⟨g,hb,hv,hty⟩:=hx.bf h1 h2 h3
  obtain⟨y1,y2⟩:=QC R.objs h1 h2 h4 hb hty
  have hat:At (aV w (aZ base S.objs blk) S.objs blk) w g (i*ob.sz) (.agg el.cells):=y2
  have hs:=At.sub hat f (D t).size (D t).agg h5 h6 (pW h7)
  obtain⟨c1,c2⟩:=JP el.cells f _ _ h5 h6 h7
  obtain⟨u,g1,g2⟩:=mF (hD t) hk hs c1 c2
  exact⟨_,_,_,_,hv,g1,h8,zu g2⟩
 ·exact h.elim
def Zp(tmps:Array Value):ResultVar→Sem Value
 | .tmp t=>pure (tmps.getD t undef)
 | .cell a t=>do loadVar t (←asAddr (tmps.getD a undef))
def Gq(tmps:Array Value):List ResultVar→Sem (List Value)
 | []=>pure []
 | r::rs=>do
  let v ←Zp tmps r
  let vs ←Gq tmps rs
  pure (v::vs)
theorem sI(hD:∀t,fB P t (D t))(R:Rel base ah w0 S blk a w):∀(rs:List ResultVar) (K:List PV→Prop),kT D S rs K→
  ∃vs ps,(Gq a.tmps rs).run P w=.ok vs w∧K ps∧bG (aO w (aZ base S.objs blk) S.objs blk) ps vs
 | [],K,h=>⟨[],[],rfl,h,rfl,λ_ _ _ h=>by simp at h⟩
 | .tmp t::rs,K,h=>by
  obtain⟨vs,ps,h1,h2,h3,h4⟩:=sI hD R rs _ h
  refine⟨a.tmps.getD t undef::vs,S.tmps.getD t .dead::ps,by simp[Gq,Zp,h1],h2,by simpa using h3,λi p v hp hv=>?_⟩
  cases i with
  | zero=>
   simp only[List.getElem?_cons_zero,Option.some.injEq]at hp hv
   subst hp;subst hv;exact R.ev (.tmp t)
  | succ i=>exact h4 i p v (by simpa using hp) (by simpa using hv)
 | .cell x t::rs,K,h=>by
  obtain⟨p0,ad,v0,_,e1,e2,h,e3⟩:=U5 hD R h
  obtain⟨vs,ps,h1,h2,h3,h4⟩:=sI hD R rs _ h
  refine⟨v0::vs,p0::ps,by simp[Gq,Zp,e1,e2,h1,asAddr],h2,by simpa using h3,λi p v hp hv=>?_⟩
  cases i with
  | zero=>
   simp only[List.getElem?_cons_zero,Option.some.injEq]at hp hv
   subst hp;subst hv;exact e3
  | succ i=>exact h4 i p v (by simpa using hp) (by simpa using hv)
def EI:List Value→Value
 | [v]=>v
 | vs=>.tuple ⟨vs⟩
end
theorem run_bind_ok{α β:Type}{x:Sem α}{f:α→Sem β}{P:Program}{w w':World}{b:β}(h:(x >>=f).run P w=.ok b w'):∃c w1,x.run P w=.ok c w1∧(f c).run P w1=.ok b w':=by
 rw[Sem.run_bind]at h
 cases hx:x.run P w with
 | ok c w1=>rw[hx]at h;exact⟨c,w1,rfl,h⟩
 | halt o w1=>rw[hx]at h;cases h
theorem qY{fn:Func}{rs:List ResultVar}(h:fn.results=rs.toArray)(hl:rs.length≤3){tmps:Array Value}{vs:List Value}{P:Program}{w:World}
  (hr:(Gq tmps rs).run P w=.ok vs w):(results fn tmps).run P w=.ok (EI vs) w:=by
 have hf:results fn tmps=(fn.results.mapM (Zp tmps) >>=λvs=>pure (if h:vs.size=1 then vs[0] else .tuple vs)):=by
  unfold results
  refine congrArg (λf:ResultVar→Sem Value=>(Array.mapM f fn.results >>=λvs=>pure (if h:vs.size=1 then vs[0] else Value.tuple vs):Sem Value)) ?_
  funext r
  cases r<;>rfl
 match rs,hl,h,hr with
 | [],_,h,hr=>
  simp only[Gq,Sem.run_pure]at hr
  cases hr
  simp[results,h,EI]
 | [r1],_,h,hr=>
  simp only[Gq]at hr
  obtain⟨v1,w1,h1,hr⟩:=run_bind_ok hr
  obtain⟨v2,w2,h2,hr⟩:=run_bind_ok hr
  simp only[Sem.run_pure]at hr h2
  cases h2;cases hr
  rw[hf,h]
  simp[h1,EI]
 | [r1,r2],_,h,hr=>
  simp only[Gq]at hr
  obtain⟨v1,w1,h1,hr⟩:=run_bind_ok hr
  obtain⟨v2,w2,h2,hr⟩:=run_bind_ok hr
  obtain⟨v3,w3,h3,h2⟩:=run_bind_ok h2
  obtain⟨v4,w4,h4,h2⟩:=run_bind_ok h2
  simp only[Sem.run_pure]at hr h2 h4
  cases h4;cases h2;cases hr
  rw[hf,h]
  simp[h1,h3,EI]
 | [r1,r2,r3],_,h,hr=>
  simp only[Gq]at hr
  obtain⟨v1,w1,h1,hr⟩:=run_bind_ok hr
  obtain⟨v2,w2,h2,hr⟩:=run_bind_ok hr
  obtain⟨v3,w3,h3,h2⟩:=run_bind_ok h2
  obtain⟨v4,w4,h4,h2⟩:=run_bind_ok h2
  obtain⟨v5,w5,h5,h4⟩:=run_bind_ok h4
  obtain⟨v6,w6,h6,h4⟩:=run_bind_ok h4
  simp only[Sem.run_pure]at hr h2 h4 h6
  cases h6;cases h4;cases h2;cases hr
  rw[hf,h]
  simp[h1,h3,h5,EI]
 | _::_::_::_::_,hl,_,_=>simp at hl
theorem wG{base ah:Nat→Prop}{blk:Nat→Option Nat}{w:World}:cO base ah [] blk w:=
 ⟨λ_ _ h=>by simp at h,λ_ _ _ _ _ _ h=>by simp at h,λ_ _ _ h=>by simp at h⟩
theorem Od(w:World)(b:Nat)(o:Go.Obj)(k:Nat):(w.putObj b o).heap[k]?=if b=k∧b<w.heap.size then some o else w.heap[k]?:=by
 simp only[World.putObj,Array.getElem?_setIfInBounds]
 by_cases h:b=k
 ·subst h
  by_cases h':b<w.heap.size
  ·simp[h']
  ·simp[h']
 ·simp[h]
theorem Rel.takeD {base ah:Nat→Prop}{w0:Wz}{S:St}{blk:Nat→Option Nat}{a:Act}{w:World}(R:Rel base ah w0 S blk a w){b:Nat}{ds:List Deferred}(hd:a.defers={ target:=.collected b,args:=#[] }::ds) :
  w.heap[b]?=some (.deferred (some []))∧Rel base ah w0 S blk { a with defers:=ds } (w.putObj b (.deferred none)):=by
 obtain⟨Ds,h1,h2,h3⟩:=R.oC
 rw[hd]at h1
 cases Ds with
 | nil=>simp at h1
 | cons b' Ds=>
  simp only[List.map_cons,List.cons.injEq,Deferred.mk.injEq,Target.collected.injEq,and_true]at h1
  obtain⟨rfl,rfl⟩:=h1
  obtain⟨hb,aeQ,hbp⟩:=h3 b List.mem_cons_self
  have hsz:(w.putObj b (.deferred none)).heap.size=w.heap.size:=by simp[World.putObj]
  have hne:∀k:Nat,k≠b→(w.putObj b (.deferred none)).heap[k]?=w.heap[k]?:=λk hk=>by rw[Od,if_neg (λe=>hk e.1.symm)]
  have hc:∀(k:Nat) (x:Go.Obj),w.heap[k]?=some x→ig x→(w.putObj b (.deferred none)).heap[k]?=some x:=by
   rintro k x hk (⟨c,t,y,rfl⟩ | ⟨es,n,rfl⟩ | ⟨_,_,_,_,rfl⟩)
   ·rw[hne k (λe=>by subst e;rw[hb]at hk;cases hk),hk]
   ·rw[hne k (λe=>by subst e;rw[hb]at hk;cases hk),hk]
   ·rw[hne k (λe=>by subst e;rw[hb]at hk;cases hk),hk]
  have ho:nM w (w.putObj b (.deferred none)) S.objs S.objs blk blk:=λk o ho=>⟨o,ho,Nat.le_refl _,λhl _=>⟨hl,rfl,rfl,rfl,λ_=>rfl,λg c _ hg=>⟨c,hc g _ hg (.inl ⟨c,_,_,rfl⟩),rfl⟩⟩⟩
  refine⟨hb,⟨⟨Ds,rfl,(List.nodup_cons.1 h2).2,λk hk=>?_⟩,R.EB,λt p hp=>(R.tm t p hp).qP (Nat.le_of_eq hsz.symm) (λ_ _ h=>h) (λk x _ hx hcx=>hc k x hx (.inl hcx)) ho,⟨λk o h1 h4=>?_,R.objs.zV,R.objs.np⟩,R.pr,λk hk=>?_,by rw[hsz];exact R.gr,R.pb,λx hx=>(R.ext x hx).qP (Nat.le_of_eq hsz.symm) (λ_ _ h=>h) (λk x _ hx hcx=>hc k x hx (.inl hcx)) ho,R.yQ,R.sm.trans ⟨rfl,rfl⟩,R.gl⟩⟩
  ·have hkb:k≠b:=λe=>(List.nodup_cons.1 h2).1 (e ▸ hk)
   rw[hne k hkb]
   exact h3 k (List.mem_cons_of_mem _ hk)
  ·have hh:=R.objs.ob k o h1 h4
   unfold bB at hh ⊢
   cases hg:blk k with
   | none=>rw[hg]at hh;exact hh
   | some g=>
    rw[hg]at hh
    obtain⟨c,x1,x2,x3⟩:=hh
    refine⟨c,hc g _ x1 (uw _ _ _),x2,λi x hx=>⟨(x3 i x hx).1,λj p hp=>?_⟩⟩
    obtain⟨v,y1,y2⟩:=(x3 i x hx).2 j p hp
    exact⟨v,y1,y2.qP (Nat.le_of_eq hsz.symm) (λ_ _ h=>h) (λk x _ hx hcx=>hc k x hx (.inl hcx)) ho⟩
  ·rw[hne k (λe=>hbp (e ▸ hk))];exact R.fr k hk
theorem jk{base ah:Nat→Prop}{w0:Wz}{S:St}{blk:Nat→Option Nat}{P:Program}{fn:Func}{Q:Ending→World→Prop}{tm:Array Value}:∀(ds:List Deferred) (w:World),Rel base ah w0 S blk { tmps:=tm,defers:=ds } w→
  (∀w',Rel base ah w0 S blk { tmps:=tm,defers:=[] } w'→∃v,(results fn tm).run P w'=.ok v w'∧Q (.returned v) w')→LeavesInM (Ba none) 0 P fn tm Q ds .returning w
 | [],w,R,h=>h w R
 | d::ds,w,R,h=>by
  obtain⟨Ds,h1,_,_⟩:=R.oC
  cases Ds with
  | nil=>simp at h1
  | cons b Ds=>
   simp only[List.map_cons,List.cons.injEq]at h1
   obtain⟨rfl,rfl⟩:=h1
   obtain⟨hb,R'⟩:=R.takeD (b:=b) rfl
   exact⟨by simp,.inl ⟨b,_,rfl,run_takeDeferred hb,jk _ _ R' h⟩⟩
def sJ:Env:=λ_ _ V=>∀w0,V w0→w0.xs=[]∧w0.nx=0
theorem tL.ac6 (h:jP P T.fn)(hy:T.Y=λ_ _ _=>False)(hg:∀g cap ys,T.gives g cap ys→Gives P g cap ys)(he:∀g cap ys,T.ge g cap ys→qp P g cap ys)(hb:T.bb=false)(hgb:∀g bargs ys,T.gb g bargs ys→fC P g bargs ys)(hfa:∀f args objs K,T.fa f args objs K→jA P f args objs K:=by exact λ_ _ _ _ h=>h.elim):tL P none sJ T:=
 ⟨h,λ_ _ _ _=>by rw[hy];exact IG.none,λ_ _ _ hE w0 hw=>by rw[(hE w0 hw).2];exact Nat.zero_le _,(λ_ _ e=>by cases e),hg,he,λ_ _ _ _=>YQ.none hb,hgb,hfa⟩
def aY(args:List PV)(n:Nat):St:=⟨args++List.replicate (n-args.length) .dead,[]⟩
theorem xZ{base:Nat→Prop}{w:World}{blk:Nat→Option Nat}{args:List PV}{vs:List Value}(hb:mr.holds w.heap∧∀b,w.heap.size≤b→base b)(h:bG (aO w (aZ base [] blk) [] blk) args vs)(n:Nat) :
  Rel base (λb=>b<w.heap.size∧aK [] blk b) ⟨w.heap,[],0,w⟩ (aY args n) blk { tmps:=(⟨vs⟩:Array Value)++Array.replicate (n-(⟨vs⟩:Array Value).size) undef,defers:=[] } w:=by
 have hl:=h.1
 refine⟨.nil _ _,?_,λt p hp=>?_,wG,λb hb=>hb.1,λ_ _=>rfl,Nat.le_refl _,λb hn=>hb.2 b ?_,λx hx=>by simp at hx,λx hx=>by simp at hx,.refl w,⟨hb.1,λb hg=>⟨mr.lt hb.1 b hg,dH _ _⟩⟩⟩
 ·simp[aY,hl]
 ·simp only[aY]at hp
  rw[List.getElem?_append]at hp
  split at hp
  ·rename_i ht
   obtain⟨v,hv⟩:∃v,vs[t]?=some v:=⟨vs[t]'(by omega),List.getElem?_eq_getElem (by omega)⟩
   have hg:((⟨vs⟩:Array Value)++Array.replicate (n-(⟨vs⟩:Array Value).size) undef).getD t undef=v:=by
    rw[Array.getD_eq_getD_getElem?,Array.getElem?_append,if_pos (by simpa using (by omega:t<vs.length))]
    simp[hv]
   rw[hg]
   exact h.2 t p v hp hv
  ·rw[List.getElem?_replicate]at hp
   split at hp
   ·cases hp;exact .dead _
   ·cases hp
 ·rcases Nat.lt_or_ge b w.heap.size with h1 | h1
  ·exact absurd ⟨h1,dH blk b⟩ hn
  ·exact h1
theorem Zq{w:World}{ok:Nat→Prop}{f:PV→PV}{ps:List PV}{vs:List Value}{R:PV→Value→Prop}(h:bG R ps vs)(hf:∀p v,R p v→cu w ok (f p) v):cu w ok (fU (ps.map f)) (EI vs):=by
 obtain⟨hl,h⟩:=h
 match ps,vs,hl,h with
 | [p],[v],_,h=>exact hf p v (h 0 p v rfl rfl)
 | [],[],_,_=>exact .bY [] [] rfl (λ_ _ _ h=>by simp at h)
 | p::p'::ps,v::v'::vs,hl,h=>
  refine .bY _ _ (by simpa using hl) λi q u hq hu=>?_
  rw[←List.map_cons,List.getElem?_map]at hq
  cases hc:(p::p'::ps)[i]? with
  | none=>rw[hc]at hq;simp at hq
  | some q0=>
   rw[hc]at hq
   simp only[Option.map_some,Option.some.injEq]at hq
   subst hq
   exact hf q0 u (h i q0 u hc hu)
theorem av.mP {f:FuncId}{fn:Func}{c:Code}{C:LC}{args:List PV}{r:PV}(d:Nat){rs:List ResultVar}{n:Nat}(hD:∀t,fB P t (D t))(hT:tL P none sJ T)(hm:P.follows .mixedOrders=true)
  (hf:P.funcs[f]?=some fn) (hname:(fn.name== "runtime.NumGoroutine")=false) (hb:fn.body=some c) (hn:fn.ntmps=n) (hr:fn.results=rs.toArray) (hl:rs.length≤3) (hC:strip C=comp c)
  (h:iK P D T C (U4 D d rs r) (aY args n)):av P f args [] r []:=by
 refine⟨⟨fn,hf,hname,by rw[hb];rfl⟩,λw blk vs base hbase _ hargs=>?_⟩
 have hpw:PW P none sJ c (U4 D d rs r) (aY args n):=kG hD hm C _ _ _ c _ _ hT hC h
 have R:=xZ hbase hargs n
 have hw:=hpw _ _ (λx=>(⟨w.heap,[],0,w⟩:Wz)=x) (by rintro z rfl;exact⟨rfl,rfl⟩) _ _ _ ⟨_,rfl,R⟩
 rw[←callsIn_wide (n:=0)]
 refine callsIn_of_wp_marks hf hb trivial ?_
 rw[hn]
 refine wpIn_mono hw ?_
 rintro e a' w' ⟨S',ak,⟨he,ho⟩,_,rfl,R'⟩
 have key:∀w',Rel base (λb=>b<w.heap.size∧aK [] blk b) ⟨w.heap,[],0,w⟩ S' ak { a' with defers:=[] } w'→∃v,(results fn a'.tmps).run P w'=.ok v w'∧(∃v' ak,Ending.returned v=.returned v'∧cO base (λb=>b<w.heap.size∧aK [] blk b) [] ak w'∧
     aO w' (aZ base [] ak) [] ak r v'∧(∀b,b<w.heap.size→aK [] blk b→w'.heap[b]?=w.heap[b]?)∧w.heap.size≤w'.heap.size∧Sm w w'):=by
  intro w' R'
  obtain⟨vs',ps,h1,h2,h3⟩:=sI hD R' rs _ ho
  refine⟨EI vs',qY hr hl h1,EI vs',ak,rfl,wG,?_,λb hb1 hb2=>R'.fr b ⟨hb1,hb2⟩,R'.gr,R'.sm⟩
  rw[h2]
  exact .aI ((Zq h3 (λp v h=>aer R' d p v h)).o_ λb _ h=>⟨h,dH _ _⟩)
 rcases he with rfl | rfl<;>exact jk _ _ R' key
def jR(d k:Nat)(S:St)(o:Obj):Obj:={ eO d (k+1) S.objs o with ver:=0 }
theorem C9{base ah:Nat→Prop}{w0:Wz}{S':St}{ak:Nat→Option Nat}{a:Act}{w':World}{d k:Nat}{o:Obj}(R':Rel base ah w0 S' ak a w')(ho:S'.objs[k]?=some o)(hlv:o.live=true)(hnr:bC [jR d k S' o]) :
  cO base ah [jR d k S' o] (λj=>if j=0 then ak k else none) w'∧
  ∀v,aV w' (aZ base S'.objs ak) S'.objs ak (.aS k o.ver) v→aV w' (aZ base [jR d k S' o] (λj=>if j=0 then ak k else none)) [jR d k S' o] (λj=>if j=0 then ak k else none) (.aS 0 0) v:=by
 unfold jR at hnr ⊢
 refine⟨⟨?_,?_,?_⟩,λv hx=>?_⟩
 ·intro j o1 hj hl1
  cases j with
  | succ j=>simp at hj
  | zero=>
   simp only[List.getElem?_cons_zero,Option.some.injEq]at hj
   subst hj
   have hb:=R'.objs.ob k o ho hlv
   unfold bB at hb ⊢
   simp only[if_true]
   cases hg:ak k with
   | none=>rw[hg]at hb;simp[eO,hb]
   | some g=>
    rw[hg]at hb
    obtain⟨c',hc,h7,h8⟩:=hb
    refine⟨c',hc,by simpa[eO,fits] using h7,λi x hx=>?_⟩
    simp only[eO,List.getElem?_map]at hx
    cases hx0:o.xs[i]? with
    | none=>rw[hx0]at hx;simp at hx
    | some x0=>
     rw[hx0]at hx
     simp only[Option.map_some,Option.some.injEq]at hx
     subst hx
     have e:=mK (Tv d (k+1) S'.objs) x0
     refine⟨by rw[e,List.length_map];exact (h8 i x0 hx0).1,λj p hp=>?_⟩
     rw[e,List.getElem?_map]at hp
     cases hp0:x0.cells[j]? with
     | none=>rw[hp0]at hp;simp at hp
     | some p0=>
      rw[hp0]at hp
      simp only[Option.map_some,Option.some.injEq]at hp
      subst hp
      obtain⟨u,hu,hrr⟩:=(h8 i x0 hx0).2 j p0 hp0
      refine⟨u,hu,?_⟩
      have h9:=qm R' d (k+1) p0 u hrr
      have h10:(fA d (k+1) S'.objs p0).ref=false:=by
       refine hnr _ List.mem_cons_self (x0.bJ (fA d (k+1) S'.objs)) ?_ _ ?_
       ·simp only[eO,List.mem_map];exact⟨x0,List.mem_of_getElem? hx0,rfl⟩
       ·rw[e];exact List.mem_map.2 ⟨p0,List.mem_of_getElem? hp0,rfl⟩
      refine .aI ((h9.zo h10).o_ λb _ hb=>⟨hb.1,λk' o' hk' _=>?_⟩)
      cases k' with
      | succ k'=>simp at hk'
      | zero=>
       simp only[if_true]
       rw[←hg]
       refine hb.2 k (eO d (k+1) S'.objs o) ?_ hlv
       simp[St.freeze,ho]
 ·intro j j' o1 o2 g hne h1 h2 h3 h4
  cases j<;>cases j'<;>simp at h1 h3
  exact absurd rfl hne
 ·intro j o1 g h1 h2 h3
  cases j with
  | succ j=>simp at h1
  | zero=>simp only[if_true]at h3;exact R'.objs.np k o g ho hlv h3
 ·obtain⟨h0,o1,h1,h2,h3⟩:=hx
  rw[ho]at h1
  cases h1
  obtain⟨hM,hh⟩:=h3 hlv rfl
  refine⟨h0,_,rfl,Nat.le_refl _,λ_ _=>⟨hM,?_⟩⟩
  unfold vL at hh ⊢
  simp only[if_true]
  cases hg:ak k with
  | none=>rw[hg]at hh;exact⟨hh.1,by simp[eO,hh.2]⟩
  | some g=>rw[hg]at hh;simpa[eO] using hh
theorem av.U6 {f:FuncId}{fn:Func}{c:Code}{C:LC}{args:List PV}{o':Obj}(d:Nat){t n:Nat}(hD:∀t,fB P t (D t))(hT:tL P none sJ T)(hm:P.follows .mixedOrders=true)
  (hf:P.funcs[f]?=some fn) (hname:(fn.name== "runtime.NumGoroutine")=false) (hb:fn.body=some c) (hn:fn.ntmps=n) (hr:fn.results=#[.tmp t]) (hC:strip C=comp c)
  (h:iK P D T C (Rc d t o') (aY args n)):av P f args [] (.aS 0 0) [o']:=by
 refine⟨⟨fn,hf,hname,by rw[hb];rfl⟩,λw blk vs base hbase _ hargs=>?_⟩
 have hpw:PW P none sJ c (Rc d t o') (aY args n):=kG hD hm C _ _ _ c _ _ hT hC h
 have R:=xZ hbase hargs n
 have hw:=hpw _ _ (λx=>(⟨w.heap,[],0,w⟩:Wz)=x) (by rintro z rfl;exact⟨rfl,rfl⟩) _ _ _ ⟨_,rfl,R⟩
 rw[←callsIn_wide (n:=0)]
 refine callsIn_of_wp_marks hf hb trivial ?_
 rw[hn]
 refine wpIn_mono hw ?_
 rintro e a' w' ⟨S0,Xa,⟨he,S',k,ver,o,hwk,ht,ho,hlv,hv,rfl,hnr⟩,_,rfl,R0⟩
 obtain⟨ak,R'⟩:=hwk _ _ _ _ _ _ (Nat.le_refl _) R0
 have key:∀w',Rel base (λb=>b<w.heap.size∧aK [] blk b) ⟨w.heap,[],0,w⟩ S' ak { a' with defers:=[] } w'→∃v,(results fn a'.tmps).run P w'=.ok v w'∧(∃v' jc,Ending.returned v=.returned v'∧
     cO base (λb=>b<w.heap.size∧aK [] blk b) [jR d k S' o] jc w'∧
     aO w' (aZ base [jR d k S' o] jc) [jR d k S' o] jc (.aS 0 0) v'∧(∀b,b<w.heap.size→aK [] blk b→w'.heap[b]?=w.heap[b]?)∧w.heap.size≤w'.heap.size∧Sm w w'):=by
  intro w' R'
  have hx:=R'.ev (.tmp t)
  change aO w' _ _ ak (S'.tmps.getD t .dead) (a'.tmps.getD t undef) at hx
  rw[ht,←hv]at hx
  obtain⟨c1,c2⟩:=C9 (d:=d) R' ho hlv hnr
  exact⟨_,results_tmp hr _ _ _,a'.tmps.getD t undef,_,rfl,c1,c2 _ hx,λb hb1 hb2=>R'.fr b ⟨hb1,hb2⟩,R'.gr,R'.sm⟩
 rcases he with rfl | rfl<;>exact jk _ _ R' key
def Zr(D:TypeId→aD)(d:Nat)(rs:List ResultVar)(qs:List PV)(o':Obj)(e:Exit)(S:St):Prop:=
 (e=.normal∨e=.ret)∧∃S' k o,Weak 0 S S'∧kT D S' rs (λps=>ps=.aS k o.ver::qs)∧S'.objs[k]?=some o∧o.live=true∧jR d k S' o=o'∧bC [o']∧qs.all PV.atom=true
theorem av.Rf {f:FuncId}{fn:Func}{c:Code}{C:LC}{args:List PV}{o':Obj}(d:Nat){rs:List ResultVar}{n:Nat}{qs:List PV}(hD:∀t,fB P t (D t))(hT:tL P none sJ T)(hm:P.follows .mixedOrders=true)
  (hf:P.funcs[f]?=some fn) (hname:(fn.name== "runtime.NumGoroutine")=false) (hb:fn.body=some c) (hn:fn.ntmps=n) (hr:fn.results=rs.toArray) (hl:rs.length≤3) (hC:strip C=comp c)
  (h:iK P D T C (Zr D d rs qs o') (aY args n)):av P f args [] (fU (.aS 0 0::qs)) [o']:=by
 refine⟨⟨fn,hf,hname,by rw[hb];rfl⟩,λw blk vs base hbase _ hargs=>?_⟩
 have hpw:PW P none sJ c (Zr D d rs qs o') (aY args n):=kG hD hm C _ _ _ c _ _ hT hC h
 have R:=xZ hbase hargs n
 have hw:=hpw _ _ (λx=>(⟨w.heap,[],0,w⟩:Wz)=x) (by rintro z rfl;exact⟨rfl,rfl⟩) _ _ _ ⟨_,rfl,R⟩
 rw[←callsIn_wide (n:=0)]
 refine callsIn_of_wp_marks hf hb trivial ?_
 rw[hn]
 refine wpIn_mono hw ?_
 rintro e a' w' ⟨S0,Xa,⟨he,S',k,o,hwk,hout,ho,hlv,rfl,hnr,hq⟩,_,rfl,R0⟩
 obtain⟨ak,R'⟩:=hwk _ _ _ _ _ _ (Nat.le_refl _) R0
 have key:∀w',Rel base (λb=>b<w.heap.size∧aK [] blk b) ⟨w.heap,[],0,w⟩ S' ak { a' with defers:=[] } w'→∃v,(results fn a'.tmps).run P w'=.ok v w'∧(∃v' jc,Ending.returned v=.returned v'∧
     cO base (λb=>b<w.heap.size∧aK [] blk b) [jR d k S' o] jc w'∧
     aO w' (aZ base [jR d k S' o] jc) [jR d k S' o] jc (fU (.aS 0 0::qs)) v'∧(∀b,b<w.heap.size→aK [] blk b→w'.heap[b]?=w.heap[b]?)∧w.heap.size≤w'.heap.size∧Sm w w'):=by
  intro w' R'
  obtain⟨vs',ps,h1,h2,h3⟩:=sI hD R' rs _ hout
  subst h2
  obtain⟨c1,c2⟩:=C9 (d:=d) R' ho hlv hnr
  refine⟨EI vs',qY hr hl h1,EI vs',_,rfl,c1,?_,λb hb1 hb2=>R'.fr b ⟨hb1,hb2⟩,R'.gr,R'.sm⟩
  obtain⟨hl3,h3⟩:=h3
  match vs',qs,hl3,h3,hq with
  | [v],[],_,h3,_=>exact c2 v (h3 0 _ v rfl rfl)
  | v::v'::vs,q::qs,hl3,h3,hq=>
   refine⟨v::v'::vs,rfl,by simpa using hl3,λi p u hp hu=>?_⟩
   cases i with
   | zero=>cases hp;cases hu;exact c2 _ (h3 0 _ _ rfl rfl)
   | succ i=>
    have hp':(q::qs)[i]?=some p:=hp
    have ha:=List.all_eq_true.1 hq p (List.mem_of_getElem? hp')
    have h5:=h3 (i+1) p u hp hu
    refine FZ ha (w:=w') (ok:=aZ base S'.objs ak) (objs:=S'.objs) (blk:=ak) ?_
    cases p<;>first | exact h5 | (simp[PV.atom]at ha)
 rcases he with rfl | rfl<;>exact jk _ _ R' key
def Oe(n:Nat)(I J:Nat→List Obj→Prop)(e:Exit)(S:St):Prop:=(e=.normal∨e=.ret)∧(I n S.objs∨∃i,i<n∧J i S.objs)
def Bt(fn:Ni)(y:Nat)(Y:YT)(nx:Nat):Know:={ fn,y,Y,top:=false,gives:=λ_ _ _=>False,nx }
def nC(P:Program)(fn:Ni)(y:Nat)(YB:YT)(n:Nat):Know:={ fn,y,Y:=λ_ _ _=>False,top:=true,gives:=Gives P,nx:=n,bb:=true,bn:=n,YB,gb:=fC P,ge:=qp P,fa:=jA P }
theorem tL.nC {fnT:Ni}(hT:jP P fnT){base ah:Nat→Prop}{V:Wz→Prop}{ex:Nat→Prop}{y n:Nat}{Y:YT}(hY:IG P ah V ex y Y)(hL:ol ex ah V)(hnx:∀z,V z→z.nx≤n) :
  tL P none (λbase' iD V'=>base'=base∧iD=ah∧V'=V) (Lp.nC P fnT y Y n):=
 ⟨hT,λ_ _ _ _=>IG.none,by rintro b p v ⟨rfl,rfl,rfl⟩;exact hnx,(λ_ _ e=>by cases e),λ_ _ _ h=>h,λ_ _ _ h=>h,by rintro b p v ⟨rfl,rfl,rfl⟩ _;exact⟨ex,_,_,hY,hL,EG.refl,hnx,hL⟩,λ_ _ _ h=>h,λ_ _ _ _ h=>h⟩
theorem Gr{base ah:Nat→Prop}{w0:Wz}{objs:List Obj}{blk:Nat→Option Nat}{w:World}{args:List PV}{vs:List Value}(R:Rel base ah w0 ⟨[],objs⟩ blk wC w)(hargs:bG (cu w (aZ base objs blk)) args vs)(n:Nat) :
  Rel base ah w0 ⟨(aY args n).tmps,objs⟩ blk { tmps:=(⟨vs⟩:Array Value)++Array.replicate (n-(⟨vs⟩:Array Value).size) undef,defers:=[] } w:=by
 have hl:=hargs.1
 refine⟨.nil _ _,?_,λt p hp=>?_,R.objs,R.pr,R.fr,R.gr,R.pb,R.ext,R.yQ,R.sm,R.gl⟩
 ·simp[aY,hl]
 ·simp only[aY]at hp
  rw[List.getElem?_append]at hp
  split at hp
  ·rename_i ht
   obtain⟨v,hv⟩:∃v,vs[t]?=some v:=⟨_,List.getElem?_eq_getElem (by omega)⟩
   have hg:((⟨vs⟩:Array Value)++Array.replicate (n-(⟨vs⟩:Array Value).size) undef).getD t undef=v:=by
    rw[Array.getD_eq_getD_getElem?,Array.getElem?_append,if_pos (by simpa using (by omega:t<vs.length))]
    simp[hv]
   rw[hg]
   exact .aI (hargs.2 t p v hp hv)
  ·rw[List.getElem?_replicate]at hp
   split at hp
   ·cases hp;exact .dead _
   ·cases hp
theorem Gives.mP {f:FuncId}{fn:Func}{c:Code}{C:LC}{cap:List PV}{ys:List (List PV)}{n:Nat}{fnT:Ni}(hD:∀t,fB P t (D t))(hT:jP P fnT)(hm:P.follows .mixedOrders=true)
  (hf:P.funcs[f]?=some fn) (hname:(fn.name== "runtime.NumGoroutine")=false) (hb:fn.body=some c) (hn:fn.ntmps=n) (hr:fn.results=#[]) (hC:strip C=comp c)
  (h:∀(I J:Nat→List Obj→Prop) (objs:List Obj) (y:Nat),I 0 objs→(∀i O,I i O→objs.length≤O.length∧bI O)→(∀i O,J i O→objs.length≤O.length∧bI O)→
   iK P D (Bt fnT y (Iq ys I J) objs.length) C (Oe ys.length I J) ⟨(aY (.qI y::cap) n).tmps,objs⟩):Gives P f cap ys:=by
 refine⟨⟨fn,hf,hname,by rw[hb];rfl⟩,λI J base ah V ex y objs blk w EH hY hL hnx hR hI0 je jB hcap=>?_⟩
 obtain⟨w0,hV,R⟩:=hR
 let E:Env:=λbase' iD V'=>base'=base∧iD=ah∧V'=V
 have hk:tL P none E (Bt fnT y (Iq ys I J) objs.length):=
  ⟨hT,by rintro b p v ⟨rfl,rfl,rfl⟩;exact⟨ex,hY⟩,by rintro b p v ⟨rfl,rfl,rfl⟩;exact hnx,(λh=>by cases h),λ_ _ _ h=>h.elim,λ_ _ _ h=>h.elim,λ_ _ _ _=>YQ.none rfl,λ_ _ _ h=>h.elim,λ_ _ _ _ h=>h.elim⟩
 have hpw:PW P none E c (Oe ys.length I J) ⟨(aY (.qI y::cap) n).tmps,objs⟩:=kG hD hm C _ _ _ c _ _ hk hC (h I J objs y hI0 je λi O h=>⟨(jB i O h).1,(jB i O h).2.1⟩)
 have hargs:bG (aO w (aZ base objs blk) objs blk) (.qI y::cap) (.func (.yield y) #[] #[]::EH):=by
  refine⟨by simpa using hcap.1,λi p v hp hv=>?_⟩
  cases i with
  | zero=>
   simp only[List.getElem?_cons_zero,Option.some.injEq]at hp hv
   subst hp;subst hv
   exact .aI (.qI y)
  | succ i=>exact .aI (hcap.2 i p v (by simpa using hp) (by simpa using hv))
 have R1:Rel base ah w0 ⟨(aY (.qI y::cap) n).tmps,objs⟩ blk { tmps:=(⟨.func (.yield y) #[] #[]::EH⟩:Array Value)++Array.replicate (n-(⟨.func (.yield y) #[] #[]::EH⟩:Array Value).size) undef,defers:=[] } w:=by
  have hl:=hargs.1
  refine⟨.nil _ _,?_,λt p hp=>?_,R.objs,R.pr,R.fr,R.gr,R.pb,R.ext,R.yQ,R.sm,R.gl⟩
  ·simp only[aY,Array.size_append,Array.size_replicate,List.length_append,List.length_replicate,hl]
   simp
  ·simp only[aY]at hp
   rw[List.getElem?_append]at hp
   split at hp
   ·rename_i ht
    obtain⟨v,hv⟩:∃v,(Value.func (.yield y) #[] #[]::EH)[t]?=some v:=⟨_,List.getElem?_eq_getElem (by omega)⟩
    have hg:((⟨.func (.yield y) #[] #[]::EH⟩:Array Value)++Array.replicate (n-(⟨.func (.yield y) #[] #[]::EH⟩:Array Value).size) undef).getD t undef=v:=by
     rw[Array.getD_eq_getD_getElem?,Array.getElem?_append,if_pos (by simpa using (by rw[←hl];exact ht:t<(Value.func (.yield y) #[] #[]::EH).length))]
     simp[hv]
    rw[hg]
    exact hargs.2 t p v hp hv
   ·rw[List.getElem?_replicate]at hp
    split at hp
    ·cases hp;exact .dead _
    ·cases hp
 have hw:=hpw base ah V ⟨rfl,rfl,rfl⟩ blk _ w ⟨w0,hV,R1⟩
 rw[←callsIn_wide (n:=0)]
 refine callsIn_of_wp_marks hf hb trivial ?_
 rw[hn]
 refine wpIn_mono hw ?_
 rintro e a' w' ⟨S',ak,⟨he,hI⟩,w0',hV',R'⟩
 have key:∀w'',Rel base ah w0' S' ak { a' with defers:=[] } w''→∃v,(results fn a'.tmps).run P w''=.ok v w''∧(∃ai jc,Ending.returned v=.returned (.tuple #[])∧(I ys.length ai∨∃i,i<ys.length∧J i ai)∧jO base ah V ⟨[],ai⟩ jc wC w''):=by
  intro w'' R''
  refine⟨_,results_none hr _ _ _,S'.objs,ak,rfl,hI,w0',hV',.nil _ _,rfl,λt p hp=>by simp at hp,R''.objs,R''.pr,R''.fr,R''.gr,R''.pb,R''.ext,R''.yQ,R''.sm,R''.gl⟩
 rcases he with rfl | rfl<;>exact jk _ _ R' key
theorem qp.mP {f:FuncId}{fn:Func}{c:Code}{C:LC}{cap:List PV}{ys:List (List PV)}{n:Nat}{fnT:Ni}(hD:∀t,fB P t (D t))(hT:jP P fnT)(hm:P.follows .mixedOrders=true)
  (hf:P.funcs[f]?=some fn) (hname:(fn.name== "runtime.NumGoroutine")=false) (hb:fn.body=some c) (hn:fn.ntmps=n) (hr:fn.results=#[]) (hC:strip C=comp c)
  (h:∀(I J:Nat→List Obj→Prop) (objs:List Obj) (y:Nat),I 0 objs→(∀i O,I i O→O.length=objs.length∧bI O)→(∀i O,J i O→O.length=objs.length∧bI O∧bC O)→
   iK P D (nC P fnT y (Iq ys I J) objs.length) C (Oe ys.length I J) ⟨(aY (.qI y::cap) n).tmps,objs⟩):qp P f cap ys:=by
 refine⟨⟨fn,hf,hname,by rw[hb];rfl⟩,λI J base ah V ex y objs blk w EH hY hL hnx hR hI0 je jB hcap=>?_⟩
 obtain⟨w0,hV,R⟩:=hR
 have hpw:=kG hD hm C _ _ _ c _ _ (tL.nC (base:=base) hT hY hL hnx) hC (h I J objs y hI0 (λi O h=>⟨(je i O h).1.symm,(je i O h).2⟩) (λi O h=>⟨(jB i O h).1.symm,(jB i O h).2⟩))
 have hargs:bG (cu w (aZ base objs blk)) (.qI y::cap) (.func (.yield y) #[] #[]::EH):=wF (ps:=[.qI y]) (us:=[.func (.yield y) #[] #[]]) ⟨rfl,λi p v hp hv=>by
  cases i with
  | zero=>simp only[List.getElem?_cons_zero,Option.some.injEq]at hp hv;subst hp;subst hv;exact .qI y
  | succ i=>simp at hp⟩ hcap
 have hw:=hpw base ah V ⟨rfl,rfl,rfl⟩ blk _ w ⟨w0,hV,Gr R hargs n⟩
 rw[←callsIn_wide (n:=0)]
 refine callsIn_of_wp_marks hf hb trivial ?_
 rw[hn]
 refine wpIn_mono hw ?_
 rintro e a' w' ⟨S',ak,⟨he,hI⟩,w0',hV',R'⟩
 have key:∀w'',Rel base ah w0' S' ak { a' with defers:=[] } w''→∃v,(results fn a'.tmps).run P w''=.ok v w''∧(∃ai jc,Ending.returned v=.returned (.tuple #[])∧(I ys.length ai∨∃i,i<ys.length∧J i ai)∧jO base ah V ⟨[],ai⟩ jc wC w''):=by
  intro w'' R''
  refine⟨_,results_none hr _ _ _,S'.objs,ak,rfl,hI,w0',hV',.nil _ _,rfl,λt p hp=>by simp at hp,R''.objs,R''.pr,R''.fr,R''.gr,R''.pb,R''.ext,R''.yQ,R''.sm,R''.gl⟩
 rcases he with rfl | rfl<;>exact jk _ _ R' key
def aaN(D:TypeId→aD)(rs:List ResultVar)(n len:Nat)(I J:Nat→List Obj→Prop)(e:Exit)(S:St):Prop:=
 (e=.normal∨e=.ret)∧∃b,kT D S rs (λps=>ps=[.bool b])∧((b=true∧I len (S.objs.take n))∨(b=false∧∃i,i<len∧J i (S.objs.take n)))
theorem fC.mP {f:FuncId}{fn:Func}{c:Code}{C:LC}{bargs:List PV}{ys:List (List PV)}{n:Nat}{rs:List ResultVar}{fnT:Ni}(hD:∀t,fB P t (D t))(hT:jP P fnT)(hm:P.follows .mixedOrders=true)
  (hf:P.funcs[f]?=some fn) (hname:(fn.name== "runtime.NumGoroutine")=false) (hb:fn.body=some c) (hn:fn.ntmps=n) (hr:fn.results=rs.toArray) (hl:rs.length≤3) (hC:strip C=comp c)
  (h:∀(I J:Nat→List Obj→Prop) (objs:List Obj) (y:Nat),I 0 objs→(∀i O,I i O→O.length=objs.length∧bI O)→(∀i O,J i O→O.length=objs.length∧bI O∧bC O)→
   iK P D (nC P fnT y (Iq ys I J) objs.length) C (aaN D rs objs.length ys.length I J) ⟨(aY (bargs++[.qI y]) n).tmps,objs⟩):fC P f bargs ys:=by
 refine⟨⟨fn,hf,hname,by rw[hb];rfl⟩,λI J base ah V ex y objs blk w vs hY hL hnx hR hI0 je jB hargs=>?_⟩
 obtain⟨w0,hV,R⟩:=hR
 have hpw:=kG hD hm C _ _ _ c _ _ (tL.nC (base:=base) hT hY hL hnx) hC (h I J objs y hI0 je jB)
 have hw:=hpw base ah V ⟨rfl,rfl,rfl⟩ blk _ w ⟨w0,hV,Gr R hargs n⟩
 rw[←callsIn_wide (n:=0)]
 refine callsIn_of_wp_marks hf hb trivial ?_
 rw[hn]
 refine wpIn_mono hw ?_
 rintro e a' w' ⟨S',ak,⟨he,b,hout,hI⟩,w0',hV',R'⟩
 have key:∀w'',Rel base ah w0' S' ak { a' with defers:=[] } w''→∃v,(results fn a'.tmps).run P w''=.ok v w''∧(∃b ai jc,Ending.returned v=.returned (.bool b)∧((b=true∧I ys.length ai)∨(b=false∧∃i,i<ys.length∧J i ai))∧jO base ah V ⟨[],ai⟩ jc wC w''):=by
  intro w'' R''
  obtain⟨vs',ps,h1,h2,h3⟩:=sI hD R'' rs _ hout
  subst h2
  obtain⟨hl3,h3⟩:=h3
  obtain⟨v,rfl⟩:∃v,vs'=[v]:=by
   match vs',hl3 with
   | [v],_=>exact⟨v,rfl⟩
  have hv:=aO.bool (h3 0 _ v rfl rfl)
  subst hv
  have hc:(S'.objs.take objs.length).length=objs.length∧bI (S'.objs.take objs.length):=by
   rcases hI with ⟨_,h⟩ | ⟨_,i,_,h⟩
   ·exact je _ _ h
   ·exact⟨(jB _ _ h).1,(jB _ _ h).2.1⟩
  refine⟨EI [.bool b],qY hr hl h1,b,S'.objs.take objs.length,ak,rfl,hI,w0',hV',R''.acN (hnx w0' hV') λo ho _ x hx p hp=>?_⟩
  have:=hc.2 o ho x hx p hp
  rwa[hc.1]at this
 rcases he with rfl | rfl<;>exact jk _ _ R' key
theorem U7{w:World}{ok:Nat→Prop}{sz:Nat}{xs:List PV}{v:Value}(h:cu w ok (.sl sz xs none) v):(xs=[]∧cu w ok (.sl sz xs (some true)) v)∨cu w ok (.sl sz xs (some false)) v:=by
 cases h with
 | slnil _ _ _=>exact .inl ⟨rfl,.slnil _ _ (by simp)⟩
 | FL _ _ _ a cap hc=>exact .inr (.FL _ _ (by simp) a cap hc)
 | sl _ _ _ _ b off cap vs h1 h2 h3 h4 h5 h6=>exact .inr (.sl _ _ _ (by simp) b off cap vs h1 h2 h3 h4 h5 h6)
theorem av.split {f:FuncId}{pre post:List PV}{sz:Nat}{xs:List PV}{r:PV}{os:List Obj}(h1:xs=[]→av P f (pre++.sl sz [] (some true)::post) [] r os)(h2:av P f (pre++.sl sz xs (some false)::post) [] r os) :
  av P f (pre++.sl sz xs none::post) [] r os:=by
 refine⟨h2.1,λw blk vs base hb ho hargs=>?_⟩
 have key:∀p:PV,(∀v,aO w (aZ base [] blk) [] blk (.sl sz xs none) v→vs[pre.length]?=some v→aO w (aZ base [] blk) [] blk p v)→bG (aO w (aZ base [] blk) [] blk) (pre++p::post) vs:=by
  intro p hp
  refine⟨by have:=hargs.1;simpa using this,λi q u hq hu=>?_⟩
  rw[List.getElem?_append]at hq
  by_cases hi:i<pre.length
  ·rw[if_pos hi]at hq
   exact hargs.2 i q u (by rw[List.getElem?_append,if_pos hi];exact hq) hu
  ·rw[if_neg hi]at hq
   by_cases he:i=pre.length
   ·subst he
    simp only[Nat.sub_self,List.getElem?_cons_zero,Option.some.injEq]at hq
    subst hq
    exact hp u (hargs.2 pre.length _ u (by rw[List.getElem?_append,if_neg (by omega)];simp) hu) hu
   ·refine hargs.2 i q u ?_ hu
    rw[List.getElem?_append,if_neg hi]
    obtain⟨j,hj⟩:∃j,i-pre.length=j+1:=⟨i-pre.length-1,by omega⟩
    rw[hj]at hq ⊢
    simpa using hq
 have hlt:pre.length<vs.length:=by have:=hargs.1;simp at this;omega
 have hr:cu w (aZ base [] blk) (.sl sz xs none) (vs[pre.length]):=hargs.2 pre.length (.sl sz xs none) _ (by simp) (List.getElem?_eq_getElem hlt)
 rcases U7 hr with ⟨rfl,hr⟩ | hr
 ·exact (h1 rfl).2 w blk vs base hb ho (key _ λv _ hv=>by rw[List.getElem?_eq_getElem hlt]at hv;cases hv;exact hr)
 ·exact h2.2 w blk vs base hb ho (key _ λv _ hv=>by rw[List.getElem?_eq_getElem hlt]at hv;cases hv;exact hr)
theorem av.Xj {f:FuncId}{args:List PV}{r r':PV}(h:av P f args [] r [])(hr:∀w ok v,cu w ok r v→cu w ok r' v):av P f args [] r' []:=by
 refine⟨h.1,λw blk vs base hb ho hargs=>Calls.mono (h.2 w blk vs base hb ho hargs) ?_⟩
 rintro e w' ⟨v,ak,h1,h2,h3,h4,h5⟩
 exact⟨v,ak,h1,h2,.aI (hr _ _ _ (qx h3)),h4,h5⟩
theorem Lv{w:World}{ok:Nat→Prop}{s s':Nat}{q:Option Bool}{v:Value}(h:cu w ok (.sl s [] (some true)) v)(hq:q≠some false):cu w ok (.sl s' [] q) v:=by
 cases h with
 | slnil _ _ _=>exact .slnil _ _ hq
 | FL _ _ hq'=>exact absurd rfl hq'
 | sl _ _ _ hq'=>exact absurd rfl hq'
end Lp
namespace Lp
open Go
def aW(P:Program)(f:FuncId)(n:Nat)(rs:List ResultVar)(C:LC):Prop:=
 ∃fn c,P.funcs[f]?=some fn∧(fn.name== "runtime.NumGoroutine")=false∧fn.body=some c∧fn.ntmps=n∧fn.results=rs.toArray∧strip C=comp c
abbrev d9:=List PV→List Obj→KT→Prop
def aR(P:Program)(f:FuncId)(c:d9):Prop:=∀args objs K,c args objs K→∃r ai t,mI P f args objs r ai t∧K r ai t
def lu:List (FuncId×d9)→Ni
 | [],_,_,_,_=>False
 | (g,c)::l,f,args,objs,K=>bif f==g then c args objs K else lu l f args objs K
def bA(P:Program)(l:List (FuncId×d9)):Know:={ fn:=lu l,y:=0,Y:=λ_ _ _=>False,top:=true,gives:=Gives P,nx:=0,ge:=qp P }
theorem au{P:Program}:jP P (lu []):=λ_ _ _ _ h=>h.elim
theorem af{P:Program}{g:FuncId}{c:d9}{l:List (FuncId×d9)}(h:aR P g c)(hl:jP P (lu l)):jP P (lu ((g,c)::l)):=by
 intro f args objs K hh
 unfold lu at hh
 cases he:f==g with
 | true=>
  rw[he]at hh
  have:f=g:=by simpa using he
  subst this
  exact h args objs K hh
 | false=>rw[he]at hh;exact hl f args objs K hh
theorem ay{P:Program}{l:List (FuncId×d9)}(h:jP P (lu l)):tL P none sJ (bA P l):=.ac6 h rfl (λ_ _ _ h=>h) (λ_ _ _ h=>h) rfl λ_ _ _ h=>h.elim
variable {P:Program}{D:TypeId→aD}{T:Know}
theorem aW.pure {f:FuncId}{n:Nat}{rs:List ResultVar}{C:LC}{args:List PV}{r:PV}(h:aW P f n rs C)(d:Nat)(hD:∀t,fB P t (D t))(hT:tL P none sJ T)(hm:P.follows .mixedOrders=true)(hl:rs.length≤3)
  (hw:iK P D T C (U4 D d rs r) (aY args n)):av P f args [] r []:=by
 obtain⟨fn,c,h1,h2,h3,h4,h5,h6⟩:=h
 exact av.mP d hD hT hm h1 h2 h3 h4 h5 hl h6 hw
theorem aW.made {f:FuncId}{n t:Nat}{C:LC}{args:List PV}{o':Obj}(h:aW P f n [.tmp t] C)(d:Nat)(hD:∀t,fB P t (D t))(hT:tL P none sJ T)(hm:P.follows .mixedOrders=true)
  (hw:iK P D T C (Rc d t o') (aY args n)):av P f args [] (.aS 0 0) [o']:=by
 obtain⟨fn,c,h1,h2,h3,h4,h5,h6⟩:=h
 exact av.U6 d hD hT hm h1 h2 h3 h4 h5 h6 hw
theorem aW.ac7 {f:FuncId}{n:Nat}{rs:List ResultVar}{C:LC}{args:List PV}{qs:List PV}{o':Obj}(h:aW P f n rs C)(d:Nat)(hD:∀t,fB P t (D t))(hT:tL P none sJ T)(hm:P.follows .mixedOrders=true)(hl:rs.length≤3)
  (hw:iK P D T C (Zr D d rs qs o') (aY args n)):av P f args [] (fU (.aS 0 0::qs)) [o']:=by
 obtain⟨fn,c,h1,h2,h3,h4,h5,h6⟩:=h
 exact av.Rf d hD hT hm h1 h2 h3 h4 h5 hl h6 hw
theorem aW.gives {f:FuncId}{n:Nat}{C:LC}{cap:List PV}{ys:List (List PV)}{fnT:Ni}(h:aW P f n [] C)(hD:∀t,fB P t (D t))(hT:jP P fnT)(hm:P.follows .mixedOrders=true)
  (hw:∀(I J:Nat→List Obj→Prop) (objs:List Obj) (y:Nat),I 0 objs→(∀i O,I i O→objs.length≤O.length∧bI O)→(∀i O,J i O→objs.length≤O.length∧bI O)→
   iK P D (Bt fnT y (Iq ys I J) objs.length) C (Oe ys.length I J) ⟨(aY (.qI y::cap) n).tmps,objs⟩):Gives P f cap ys:=by
 obtain⟨fn,c,h1,h2,h3,h4,h5,h6⟩:=h
 exact Gives.mP hD hT hm h1 h2 h3 h4 h5 h6 hw
theorem aW.abK {f:FuncId}{n:Nat}{C:LC}{cap:List PV}{ys:List (List PV)}{fnT:Ni}(h:aW P f n [] C)(hD:∀t,fB P t (D t))(hT:jP P fnT)(hm:P.follows .mixedOrders=true)
  (hw:∀(I J:Nat→List Obj→Prop) (objs:List Obj) (y:Nat),I 0 objs→(∀i O,I i O→O.length=objs.length∧bI O)→(∀i O,J i O→O.length=objs.length∧bI O∧bC O)→
   iK P D (nC P fnT y (Iq ys I J) objs.length) C (Oe ys.length I J) ⟨(aY (.qI y::cap) n).tmps,objs⟩):qp P f cap ys:=by
 obtain⟨fn,c,h1,h2,h3,h4,h5,h6⟩:=h
 exact qp.mP hD hT hm h1 h2 h3 h4 h5 h6 hw
theorem aW.Xk {f:FuncId}{n:Nat}{rs:List ResultVar}{C:LC}{bargs:List PV}{ys:List (List PV)}{fnT:Ni}(h:aW P f n rs C)(hD:∀t,fB P t (D t))(hT:jP P fnT)(hm:P.follows .mixedOrders=true)(hl:rs.length≤3)
  (hw:∀(I J:Nat→List Obj→Prop) (objs:List Obj) (y:Nat),I 0 objs→(∀i O,I i O→O.length=objs.length∧bI O)→(∀i O,J i O→O.length=objs.length∧bI O∧bC O)→
   iK P D (nC P fnT y (Iq ys I J) objs.length) C (aaN D rs objs.length ys.length I J) ⟨(aY (bargs++[.qI y]) n).tmps,objs⟩):fC P f bargs ys:=by
 obtain⟨fn,c,h1,h2,h3,h4,h5,h6⟩:=h
 exact fC.mP hD hT hm h1 h2 h3 h4 h5 hl h6 hw
def mkT(n:Nat)(l:List (Nat×PV)):List PV:=l.foldl (λtm x=>tm.set x.1 x.2) (List.replicate n .dead)
def lC(v:PV)(d:Nat)(want:Bool)(S:St)(X Y:St→Prop):Prop:=
 match v with
 | .bool b=>(b=want→X { S with tmps:=S.tmps.set d (.bool want) })∧(b=!want→Y { S with tmps:=S.tmps.set d (.bool !want) })
 | .bY []=>Y S
 | _=>False
def noTwo:List Nat→Bool
 | []=>true
 | t::ts=>co t !=2 && noTwo ts
theorem C_:∀(ts:List Nat) (i:Nat),noTwo ts=true→co (ts.getD i 0)≠2
 | [],i,_=>by simp[co]
 | t::ts,i,h=>by
  simp only[noTwo,Bool.and_eq_true,bne_iff_ne,ne_eq]at h
  cases i with
  | zero=>simpa using h.1
  | succ i=>simpa using C_ ts i h.2
theorem Bu(un ts:List Nat):(ji un ts=true)=((noTwo ts || ji un ts)=true):=by
 cases h:noTwo ts with
 | false=>rfl
 | true=>
  have:lq un ts=true:=by
   unfold lq
   rw[List.all_eq_true]
   intro i _
   simp only[Bool.or_eq_true,List.all_eq_true]
   right
   intro j _
   have h1:=C_ ts i h
   have h2:=C_ ts j h
   simp only[beq_eq_false_iff_ne.2 h1,beq_eq_false_iff_ne.2 h2,Bool.false_and,Bool.or_false,Bool.not_false,or_true]
  simp[ji,this]
def ldK(P:Program)(D:TypeId→aD)(T:Know)(A B:List Step)(u:List Nat)(Q:Exit→St→Prop)(S:St):Prop:=
 LR P D T.QW A S [] λS' ts=>(noTwo ts || ji u ts)=true∧LR P D T B S' [] λQU _=>Q .normal QU
theorem abL(x z:Step)(A B:List Step)(m:Nat)(u:List Nat)(Q:Exit→St→Prop)(S:St):ldK P D T (x::A) (z::B) (m::u) Q S=
 LR P D T.QW (x::A) S [] λS' ts=>(noTwo ts || ji (m::u) ts)=true∧LR P D T (z::B) S' [] λQU _=>Q .normal QU:=rfl
theorem Nk :
  (∀(Q:Exit→St→Prop) S,iK P D T .skip Q S=Q .normal S)∧
  (∀(Q:Exit→St→Prop) S,iK P D T .ret Q S=Q .ret S)∧
  (∀id (Q:Exit→St→Prop) S,iK P D T (.exit id) Q S=Q (.exit id) S)∧
  (∀ss (Q:Exit→St→Prop) S,iK P D T (.reg ss) Q S=LR P D T ss S [] λS' _=>Q .normal S')∧
  (∀ss un (Q:Exit→St→Prop) S,iK P D T (.draw ss un) Q S=LR P D T.QW ss S [] λS' ts=>(noTwo ts || ji un ts)=true∧Q .normal S')∧
  (∀a b (Q:Exit→St→Prop) S,iK P D T (.seq a b) Q S=iK P D T a (thenS (λS'=>iK P D T b Q S') Q) S)∧
  (∀c a b (Q:Exit→St→Prop) S,iK P D T (.cond c a b) Q S=zB (S.ev c) (iK P D T a Q S) (iK P D T b Q S))∧
  (∀id c (Q:Exit→St→Prop) S,iK P D T (.block id c) Q S=iK P D T c (rM id Q) S)∧
  (∀b ss un (Q:Exit→St→Prop) S,iK P D T (.NZ b ss un) Q S=(E8 b un=true∧ldK P D T (ss.take b) (ss.drop b) (un.take b) Q S)):=by
 refine⟨λ_ _=>rfl,λ_ _=>rfl,λ_ _ _=>rfl,λ_ _ _=>rfl,λss un Q S=>?_,λ_ _ _ _=>rfl,λ_ _ _ _ _=>rfl,λ_ _ _ _=>rfl,λb ss un Q S=>?_⟩
 ·simp only[←Bu]
  rfl
 ·simp only[ldK,←Bu]
  rfl
theorem Ki :
  (∀(n:St→Prop) (Q:Exit→St→Prop) S,thenS n Q .normal S=n S)∧
  (∀(n:St→Prop) (Q:Exit→St→Prop) S,thenS n Q .ret S=Q .ret S)∧
  (∀(n:St→Prop) (Q:Exit→St→Prop) S id,thenS n Q (.exit id) S=Q (.exit id) S)∧
  (∀(Q:Exit→St→Prop) S id,rM id Q .normal S=Q .normal S)∧
  (∀(Q:Exit→St→Prop) S id,rM id Q .ret S=Q .ret S)∧
  (∀(Q:Exit→St→Prop) S id id',rM id Q (.exit id') S=if id'=id then Q .normal S else Q (.exit id') S)∧
  (∀b X Y,zB (.bool b) X Y=((b=true→X)∧(b=false→Y))):=
 ⟨λ_ _ _=>rfl,λ_ _ _=>rfl,λ_ _ _ _=>rfl,λ_ _ _=>rfl,λ_ _ _=>rfl,λ_ _ _ _=>rfl,λ_ _ _=>rfl⟩
theorem Qs :
  (∀S ts (K:St→List Nat→Prop),LR P D T [] S ts K=K S ts)∧
  (∀d o g w rest S ts (K:St→List Nat→Prop),LR P D T (⟨d,o,g,w⟩::rest) S ts K=wE g S
   (λS=>kX P D T w (S.tmps.all PV.pure) S.ev S.objs o λr ai t=>LR P D T rest (St.put ⟨S.tmps,ai⟩ d r) (ts++[t]) K)
   (λS=>LR P D T rest (S.put d (.bY [])) (ts++[0]) K)):=⟨λ_ _ _=>rfl,λ_ _ _ _ _ _ _ _=>rfl⟩
theorem Qt :
  (∀(S:St) (X Y:St→Prop),wE none S X Y=X S)∧
  (∀d w (S:St) (X Y:St→Prop),wE (some (some d,w)) S X Y=lC (S.tmps.getD d .dead) d w S X Y)∧
  (∀b d w (S:St) (X Y:St→Prop),lC (.bool b) d w S X Y=((b=w→X { S with tmps:=S.tmps.set d (.bool w) })∧(b=!w→Y { S with tmps:=S.tmps.set d (.bool !w) })))∧
  (∀d w (S:St) (X Y:St→Prop),lC (.bY []) d w S X Y=Y S):=⟨λ_ _ _=>rfl,λ_ _ _ _ _=>rfl,λ_ _ _ _ _ _=>rfl,λ_ _ _ _ _=>rfl⟩
theorem Kj :
  (∀tm ob d p,St.put ⟨tm,ob⟩ (some d) p=⟨tm.set d p,ob⟩)∧
  (∀tm ob p,St.put ⟨tm,ob⟩ none p=⟨tm,ob⟩)∧
  (∀tm ob t,St.ev ⟨tm,ob⟩ (.tmp t)=tm.getD t .dead)∧
  (∀(S:St) v,S.ev (.const v)=.vM v)∧
  (∀(S:St) f,S.ev (.func f)=.fn f [] [])∧
  (∀k n,PV.vM (.int k n)=.int k n)∧(∀b,PV.vM (.bool b)=.bool b)∧(∀l,PV.vM (.string ⟨⟨l⟩⟩)=.str l)∧
  (PV.vM (.slice none 0 0)=.sl 0 [] (some true))∧(PV.vM (.pointer none)=.A_)∧(PV.vM .nilFunc=.CQ)∧
  (∀args n,aY args n=⟨args++List.replicate (n-args.length) .dead,[]⟩):=
 ⟨λ_ _ _ _=>rfl,λ_ _ _=>rfl,λ_ _ _=>rfl,λ_ _=>rfl,λ_ _=>rfl,
  λ_ _=>rfl,λ_=>rfl,λ_=>rfl,rfl,rfl,rfl,λ_ _=>rfl⟩
theorem yS(w pt:Bool)(ev:Operand→PV)(objs:List Obj)(K:KT) :
  (∀x,kX P D T w pt ev objs (.move x) K=K (ev x) objs 0)∧(∀x,kX P D T w pt ev objs (.assign x) K=K (ev x) objs 0)∧
  (∀c x y,kX P D T w pt ev objs (.pick c x y) K=vN (ev c) (ev x) (ev y) objs K)∧
  (∀t,kX P D T w pt ev objs (.alloc t) K=rJ t (D t) objs K)∧
  (∀t x,kX P D T w pt ev objs (.box t x) K=K3 t (D t) (ev x) objs K)∧
  (∀t ps,kX P D T w pt ev objs (.build t ps) K=dh D t (ps.toList.map λx=>(x.1,ev x.2)) objs K)∧
  (∀t n ps,kX P D T w pt ev objs (.buildSlice t n ps) K=bL D w t n (ps.toList.map λx=>(x.1,ev x.2)) objs K)∧
  (∀t x,kX P D T w pt ev objs (.load t x) K=eD (D t) (ev x) objs K)∧
  (∀t x y,kX P D T w pt ev objs (.store t x y) K=jo (D t) (ev x) (ev y) objs K)∧
  (∀x,kX P D T w pt ev objs (.nilCheck x) K=dx (ev x) objs K)∧
  (∀b t x y t',kX P D T w pt ev objs (.binOp b t x y t') K=oP P (D t) t b (ev x) (ev y) λr=>K r objs 0)∧
  (∀u t x,kX P D T w pt ev objs (.unOp u t x) K=Nh u (ev x) λr=>K r objs 0)∧
  (∀s t x,kX P D T w pt ev objs (.convert s t x) K=qR D s t (ev x) objs K)∧
  (∀f first cap,kX P D T w pt ev objs (.makeFunc (.func f) first cap) K=kC f (first.toList.map ev) (cap.toList.map ev) objs K)∧
  (∀t l c,kX P D T w pt ev objs (.makeSlice t l c) K=d_ D t (ev l) (ev c) objs K)∧
  (∀t x lo hi,kX P D T w pt ev objs (.slice t x lo hi none) K=iB D t (ev x) (lo.map ev) (hi.map ev) objs K)∧
  (∀t x f,kX P D T w pt ev objs (.fieldAddr t x f) K=aU D t (ev x) f objs K)∧
  (∀t x f,kX P D T w pt ev objs (.field t x f) K=oQ D t (ev x) f objs K)∧
  (∀t x i,kX P D T w pt ev objs (.indexAddr t x i) K=bH D t (ev x) (ev i) objs K)∧
  (∀t x i,kX P D T w pt ev objs (.index t x i) K=lg D t (ev x) (ev i) objs K)∧
  (∀x i,kX P D T w pt ev objs (.extract x i) K=bW (ev x) i objs K)∧
  (∀t x at',kX P D T w pt ev objs (.call { callee:=.builtin .len,args:=⟨[x]⟩,argTypes:=⟨t::at'⟩ }) K=dZ D .len (t::at') [x] ev objs K)∧
  (∀b args ats,kX P D T w pt ev objs (.call { callee:=.builtin b,args:=args,argTypes:=ats }) K=dZ D b ats.toList args.toList ev objs K):=
 ⟨λ_=>rfl,λ_=>rfl,λ_ _ _=>rfl,λ_=>rfl,λ_ _=>rfl,λ_ _=>rfl,λ_ _ _=>rfl,λ_ _=>rfl,λ_ _ _=>rfl,λ_=>rfl,λ_ _ _ _ _=>rfl,λ_ _ _=>rfl,λ_ _ _=>rfl,
  λ_ _ _=>rfl,λ_ _ _=>rfl,λ_ _ _ _=>rfl,λ_ _ _=>rfl,λ_ _ _=>rfl,λ_ _ _=>rfl,λ_ _ _=>rfl,λ_ _=>rfl,λ_ _ _=>rfl,λ_ _ _=>rfl⟩
structure U8 (K:KT):Type where
def Kk(T:Know)(ev:Operand→PV)(f:PV)(args:List PV)(objs:List Obj){K:KT}(_h:U8 K):Prop:=aaH T ev f args objs K∨aaI T f args objs K
theorem vR(P:Program)(D:TypeId→aD)(T:Know)(pt:Bool)(ev:Operand→PV)(objs:List Obj)(K:KT) :
  (∀f args ats,kX P D T false pt ev objs (.call { callee:=.value f,args:=args,argTypes:=ats }) K=pu T pt (ev f) (args.toList.map ev) objs K)∧
  (∀f args ats,kX P D T true pt ev objs (.call { callee:=.value f,args:=args,argTypes:=ats }) K=Kk T ev (ev f) (args.toList.map ev) objs (U8.mk:U8 K)):=⟨λ_ _ _=>rfl,λ_ _ _=>rfl⟩
theorem caR :
  (∀pt g first cap args objs (K:KT),pu T pt (.fn g first cap) args objs K=T.fn g (first++args++cap) objs K)∧
  (∀pt l args objs (K:KT),pu T pt (.qI l) args objs K=(l=T.y∧pt=true∧args.all PV.pure=true∧T.Y args objs λb o=>K (.bool b) o 2)):=
 ⟨λ_ _ _ _ _ _ _=>rfl,λ_ _ _ _ _=>rfl⟩
theorem U9(l:List (FuncId×d9)):((bA P l).QW.fn=lu l)∧((bA P l).rg=true)∧((bA P l).fn=lu l)∧((bA P l).nx=0)∧((bA P l).top=true)∧((bA P l).gives=Gives P):=⟨rfl,rfl,rfl,rfl,rfl,rfl⟩
theorem kiR(fn:Ni)(y:Nat)(Y:YT)(nx:Nat):((Bt fn y Y nx).fn=fn)∧((Bt fn y Y nx).QW.fn=fn)∧((Bt fn y Y nx).rg=true)∧((Bt fn y Y nx).y=y)∧((Bt fn y Y nx).Y=Y)∧((Bt fn y Y nx).nx=nx):=⟨rfl,rfl,rfl,rfl,rfl,rfl⟩
theorem taR(g f:FuncId)(c:d9)(l:List (FuncId×d9))(args:List PV)(objs:List Obj)(K:KT):lu ((g,c)::l) f args objs K=bif f==g then c args objs K else lu l f args objs K:=rfl
def kindOf:TypeDesc→TK
 | .string=>.str
 | .bool=>.bool
 | .int k=>.int k
 | .slice e=>.slice e
 | .array n e=>.array n e
 | .struct fl=>.struct (fl.toList.map λf=>(f.offset,f.type))
 | .map k e=>.map k e
 | _=>.other
theorem abM{P:Program}{t:TypeId}{k:TK}{sz by':Nat}{z:Value}(h1:(P.info? t).map (λi=>(i.size,i.bytes,i.zero))=some (sz,by',some z))(h2:(P.underlying t).map kindOf=some k)(h3:Nat.beq t MT=false):fB P t ⟨k,sz,by',z⟩:=by
 cases hi:P.info? t with
 | none=>rw[hi]at h1;simp at h1
 | some i=>
  rw[hi]at h1
  simp only[Option.map_some,Option.some.injEq,Prod.mk.injEq]at h1
  cases hu:P.underlying t with
  | none=>rw[hu]at h2;simp at h2
  | some d=>
   rw[hu]at h2
   simp only[Option.map_some,Option.some.injEq]at h2
   subst h2
   refine .inr ⟨⟨i,hi,h1.1,h1.2.1,h1.2.2,λe=>by rw[e]at h3;exact absurd h3 (by decide)⟩,?_⟩
   cases d<;>simp only[kindOf]<;>first
    | exact hu
    | exact⟨_,hu,rfl⟩
theorem Lx{P:Program}{t:TypeId}:fB P t aD.off:=.inl rfl
end Lp
