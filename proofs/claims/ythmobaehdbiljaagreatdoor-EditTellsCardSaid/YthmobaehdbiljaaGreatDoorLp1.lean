/-
  Part 1 of what the statement rests on: LpV0, LpV1, LpV2, LpV3, LpV6, LpV7, LpV8, LpV9, LpY0, LpY1, LpY2, LpGlob, LpG0, LpA, LpB, LpC, LpD, LpE, LpF, LpG, LpH, LpI, LpJ, LpJm, LpJr, LpK. No condition.
-/
import GoSem.Op.String
import Derived.Lib.TrimByte
import Derived.Shelf.Unicode.DecodeSlow
import Derived.CallsIn
import Derived.Laws.AppendOwn
import Derived.Laws.Entries
import Derived.Laws.Cells
import Derived.Laws.CopyRow
import Derived.Laws.Strings
import Derived.Laws.Tables
import Derived.Deep.AppendSrc
import Derived.Laws.IdiomStrings
import GoSem.Instr.MapUpdate
import Derived.Maps.RangeRun
import Derived.RangeFuncCalls

set_option linter.all false
set_option maxHeartbeats 8000000
set_option maxRecDepth 100000
namespace Lp
open Go
open Option (map_some)
structure Nd where
 kind:Int
 many:Int
 name:List UInt8
 s:List UInt8
 neg:Bool
 e:Int
 deriving DecidableEq
abbrev Vl:=List Nd
def skip:Vl→Nat→Option Nat
 | _,0=>some 0
 | [],_+1=>none
 | n::v,k+1=>if n.many<0 then none else (skip v (k+n.many.toNat)).map (·+1)
theorem gH:∀(v:Vl) (k c:Nat),skip v k=some c→k≤c∧c≤v.length
 | v,0,c,h=>by cases v<;>simp[skip]at h<;>subst h<;>simp
 | [],k+1,c,h=>by simp[skip]at h
 | n::v,k+1,c,h=>by
  simp only[skip]at h
  split at h
  ·cases h
  ·cases hs:skip v (k+n.many.toNat) with
   | none=>rw[hs]at h;simp at h
   | some c'=>
    rw[hs]at h
    simp only[map_some,Option.some.injEq]at h
    obtain⟨h1,h2⟩:=gH v _ c' hs
    simp only[List.length_cons]
    omega
theorem dJ{n:Nd}{v:Vl}{k c:Nat}(h:skip (n::v) (k+1)=some c):0≤n.many∧∃c',c=c'+1∧skip v (k+n.many.toNat)=some c':=by
 simp only[skip]at h
 split at h
 ·cases h
 ·cases hs:skip v (k+n.many.toNat) with
  | none=>rw[hs]at h;simp at h
  | some c'=>
   rw[hs]at h
   simp only[map_some,Option.some.injEq]at h
   exact⟨by omega,c',h.symm,rfl⟩
def parts:Nat→Vl→Option (List Vl)
 | 0,_=>some []
 | k+1,v=>match skip v 1 with
  | some c=>(parts k (v.drop c)).map (v.take c::·)
  | none=>none
theorem dW:∀(k:Nat) (v:Vl) (ps:List Vl),parts k v=some ps→ps.length=k
 | 0,v,ps,h=>by simp[parts]at h;subst h;rfl
 | k+1,v,ps,h=>by
  simp only[parts]at h
  split at h
  ·rename_i c _
   cases hp:parts k (v.drop c) with
   | none=>rw[hp]at h;simp at h
   | some qs=>
    rw[hp]at h
    simp only[map_some,Option.some.injEq]at h
    subst h
    simp[dW k _ qs hp]
  ·cases h
theorem gV{k:Nat}{v:Vl}{ps:List Vl}(h:parts (k+1) v=some ps):∃c qs,skip v 1=some c∧ps=v.take c::qs∧parts k (v.drop c)=some qs:=by
 simp only[parts]at h
 split at h
 ·rename_i c hc
  cases hp:parts k (v.drop c) with
  | none=>rw[hp]at h;simp at h
  | some qs=>
   rw[hp]at h
   simp only[map_some,Option.some.injEq]at h
   exact⟨c,qs,hc,h.symm,hp⟩
 ·cases h
theorem iY:∀(k:Nat) (v:Vl) (ps:List Vl),parts k v=some ps→k≤v.length
 | 0,_,_,_=>Nat.zero_le _
 | k+1,v,ps,h=>by
  obtain⟨c,qs,h1,_,h3⟩:=gV h
  have:=gH _ _ _ h1
  have:=iY k _ qs h3
  simp only[List.length_drop]at this
  omega
def gI:Vl→Vl
 | []=>[]
 | n::r=>{ n with name:=[] }::r
def nameOf:Vl→List UInt8
 | []=>[]
 | n::_=>n.name
def KS(n:Nd)(ps:List Vl):List (List UInt8):=if n.kind=6 then ps.map nameOf else []
def fK(s:List UInt8)(i:Nat):Bool:=match s[i]? with
 | some b=>decide (128≤b) && decide (b<192)
 | none=>false
def dw(s:List UInt8):Nat:=match s with
 | []=>0
 | c::t=>
  if c<128 then 1
  else if 194≤c∧c<224∧fK t 0=true then 2
  else if 224≤c∧c<240∧fK t 0=true∧fK t 1=true then
   if (c=224∧t.headD 0<160)∨(c=237∧160≤t.headD 0) then 0 else 3
  else if 240≤c∧c<245∧fK t 0=true∧fK t 1=true∧fK t 2=true then
   if (c=240∧t.headD 0<144)∨(c=244∧144≤t.headD 0) then 0 else 4
  else 0
def Fx:Nat→List UInt8→Bool
 | 0,s=>s.isEmpty
 | k+1,s=>s.isEmpty || (dw s !=0 && Fx k (s.drop (dw s)))
def utf(s:List UInt8):Bool:=Fx s.length s
theorem CF:∀(k l:Nat) (s:List UInt8),s.length≤k→s.length≤l→Fx k s=Fx l s
 | 0,0,_,_,_=>rfl
 | 0,l+1,s,h,_=>by
  have:s=[]:=by cases s<;>simp at h ⊢
  subst this;simp[Fx]
 | k+1,0,s,_,h=>by
  have:s=[]:=by cases s<;>simp at h ⊢
  subst this;simp[Fx]
 | k+1,l+1,s,h1,h2=>by
  cases s with
  | nil=>rfl
  | cons c t=>
   simp only[Fx]
   by_cases h0:dw (c::t)=0
   ·simp[h0]
   ·rw[CF k l ((c::t).drop (dw (c::t))) (by simp at *;omega) (by simp at *;omega)]
def vQ(s:List UInt8):Bool:=s.all λc=>decide (48≤c) && decide (c≤57)
def AV(n:Nd):Bool:=
 n.many==0 && vQ n.s && decide (n.s.length≤100) && decide (-1000≤n.e) && decide (n.e≤1000) && decide (n.s.length+n.e≤1000) &&
 (if n.s=[] then !n.neg && n.e==0 else n.s.head? !=some 48 && n.s.getLast? !=some 48)
def bM(n:Nd):Bool:=
 if n.kind=0∨n.kind=1∨n.kind=2 then n.many==0 && n.s==[] && !n.neg && n.e==0
 else if n.kind=3 then AV n
 else if n.kind=4 then utf n.s && n.many==0 && !n.neg && n.e==0
 else if n.kind=5∨n.kind=6 then decide (0≤n.many) && n.s==[] && !n.neg && n.e==0
 else false
def mZ(L:Nat):Vl→Nat→Option Nat
 | _,0=>some 0
 | [],_+1=>none
 | n::v,k+1=>if n.many<0∨(L:Int)<n.many then none else (mZ L v (k+n.many.toNat)).map (·+1)
theorem rV(L:Nat):∀(v:Vl) (k c:Nat),mZ L v k=some c→skip v k=some c
 | v,0,c,h=>by cases v<;>simpa[mZ,skip] using h
 | [],k+1,c,h=>by simp[mZ]at h
 | n::v,k+1,c,h=>by
  simp only[mZ]at h
  split at h
  ·cases h
  ·rename_i hn
   cases hs:mZ L v (k+n.many.toNat) with
   | none=>rw[hs]at h;simp at h
   | some c'=>
    rw[hs]at h
    simp only[map_some,Option.some.injEq]at h
    simp only[skip]
    rw[if_neg (by omega),rV L v _ c' hs]
    simpa using h
def kL(kind:Int):List Vl→Bool
 | []=>true
 | p::ps=>(kind !=5 || nameOf p==[]) && utf (nameOf p) && (match ps with | []=>true | q::_=>kind !=6 || Op.bytesLess (nameOf p) (nameOf q)) && kL kind ps
def ny:Vl→Bool
 | []=>true
 | n::r=>bM n && (match parts n.many.toNat r with | some ps=>kL n.kind ps | none=>false) && ny r
def bX(v:Vl):Bool:=!v.isEmpty && nameOf v==[] && mZ v.length v 1==some v.length && ny v
def vV(v:Vl)(most:Nat):Bool:=decide (v.length≤most) && v.all (λn=>decide (n.s.length≤200) && decide (n.name.length≤200)) && bX v
def partsOf(n:Nd)(r:Vl):List Vl:=((parts n.many.toNat r).getD []).map gI
def Qv(n:Nd)(r:Vl):List (List UInt8):=((parts n.many.toNat r).getD []).map nameOf
def ax:Vl→List Vl
 | []=>[]
 | n::r=>partsOf n r
def aJ:Vl→List (List UInt8)
 | []=>[]
 | n::r=>if n.kind=6 then Qv n r else []
end Lp
namespace Lp
open Go
theorem qc:∀(v:Vl) (j k c:Nat),skip v (j+k)=some c→∃c1 c2,skip v j=some c1∧skip (v.drop c1) k=some c2∧c=c1+c2
 | v,0,k,c,h=>⟨0,c,by cases v<;>simp[skip],by simpa using h,by simp⟩
 | [],j+1,k,c,h=>by
  have:j+1+k=(j+k)+1:=by omega
  rw[this]at h
  simp[skip]at h
 | n::v,j+1,k,c,h=>by
  have e:j+1+k=(j+k)+1:=by omega
  rw[e]at h
  obtain⟨hm,c',rfl,h'⟩:=dJ h
  have e2:j+k+n.many.toNat=(j+n.many.toNat)+k:=by omega
  rw[e2]at h'
  obtain⟨c1,c2,h1,h2,rfl⟩:=qc v _ k c' h'
  refine⟨c1+1,c2,?_,?_,by omega⟩
  ·simp only[skip]
   rw[if_neg (by omega),h1];rfl
  ·simpa using h2
theorem rW:∀(v:Vl) (j k c1 c2:Nat),skip v j=some c1→skip (v.drop c1) k=some c2→skip v (j+k)=some (c1+c2)
 | v,0,k,c1,c2,h,h2=>by
  have:c1=0:=by cases v<;>simp[skip]at h<;>exact h.symm
  subst this
  simpa using h2
 | [],j+1,k,c1,c2,h,h2=>by simp[skip]at h
 | n::v,j+1,k,c1,c2,h,h2=>by
  obtain⟨hm,c',rfl,h'⟩:=dJ h
  have e:j+1+k=(j+k)+1:=by omega
  rw[e]
  simp only[skip]
  have e2:j+k+n.many.toNat=(j+n.many.toNat)+k:=by omega
  rw[if_neg (by omega),e2,rW v _ k c' c2 h' (by simpa using h2)]
  simp only[Option.map_some,Option.some.injEq]
  omega
theorem rX:∀(v:Vl) (k c:Nat),skip v k=some c→skip (v.take c) k=some c
 | v,0,c,h=>by
  have:c=0:=by cases v<;>simp[skip]at h<;>exact h.symm
  subst this
  simp[skip]
 | [],k+1,c,h=>by simp[skip]at h
 | n::v,k+1,c,h=>by
  obtain⟨hm,c',rfl,h'⟩:=dJ h
  simp only[List.take_succ_cons,skip]
  rw[if_neg (by omega),rX v _ c' h'];rfl
theorem gJ:∀(v w:Vl) (k c:Nat),skip v k=some c→skip (v++w) k=some c
 | v,w,0,c,h=>by
  have:c=0:=by cases v<;>simp[skip]at h<;>exact h.symm
  subst this
  cases v<;>cases w<;>simp[skip]
 | [],w,k+1,c,h=>by simp[skip]at h
 | n::v,w,k+1,c,h=>by
  obtain⟨hm,c',rfl,h'⟩:=dJ h
  simp only[List.cons_append,skip]
  rw[if_neg (by omega),gJ v w _ c' h'];rfl
theorem AX(v:Vl)(k:Nat):skip (gI v) k=skip v k:=by
 cases v with
 | nil=>rfl
 | cons n r=>cases k<;>rfl
theorem kY(v:Vl):(gI v).length=v.length:=by cases v<;>rfl
def One(v:Vl):Prop:=skip v 1=some v.length
theorem One.gI {v:Vl}(h:One v):One (gI v):=by
 unfold One at *
 rw[AX,kY,h]
theorem One.ne {v:Vl}(h:One v):v≠[]:=by
 rintro rfl
 simp[One,skip]at h
theorem fE:∀(k:Nat) (v:Vl) (c:Nat),skip v k=some c→∃ps,parts k v=some ps∧ps.flatten=v.take c∧∀p∈ps,One p
 | 0,v,c,h=>by
  have:c=0:=by cases v<;>simp[skip]at h<;>exact h.symm
  subst this
  exact⟨[],rfl,by simp,by simp⟩
 | k+1,v,c,h=>by
  have e:k+1=1+k:=by omega
  rw[e]at h
  obtain⟨c1,c2,h1,h2,rfl⟩:=qc v 1 k c h
  obtain⟨ps,hp,hf,ho⟩:=fE k _ c2 h2
  refine⟨v.take c1::ps,by simp[parts,h1,hp],?_,?_⟩
  ·rw[List.flatten_cons,hf,List.take_add]
  ·intro p hpm
   rcases List.mem_cons.1 hpm with rfl | hpm
   ·have:=rX _ _ _ h1
    have hl:=gH _ _ _ h1
    unfold One
    rw[this,List.length_take]
    congr 1;omega
   ·exact ho p hpm
theorem jg:∀(ps:List Vl),(∀p∈ps,One p)→parts ps.length ps.flatten=some ps
 | [],_=>rfl
 | p::ps,h=>by
  have h1:skip (p++ps.flatten) 1=some p.length:=gJ _ _ _ _ (h p (List.mem_cons_self ..))
  have h2:=jg ps λq hq=>h q (List.mem_cons_of_mem _ hq)
  simp only[List.length_cons,List.flatten_cons,parts,h1]
  rw[List.drop_left,h2,List.take_left];rfl
theorem mh:∀(ps:List Vl),(∀p∈ps,One p)→skip ps.flatten ps.length=some ps.flatten.length
 | [],_=>rfl
 | p::ps,h=>by
  have h1:skip (p++ps.flatten) 1=some p.length:=gJ _ _ _ _ (h p (List.mem_cons_self ..))
  have h2:=mh ps λq hq=>h q (List.mem_cons_of_mem _ hq)
  have:=rW (p++ps.flatten) 1 ps.length p.length ps.flatten.length h1 (by rw[List.drop_left];exact h2)
  simp only[List.length_cons,List.flatten_cons,List.length_append]
  rw[Nat.add_comm];exact this
theorem One.parts {n:Nd}{r:Vl}(h:One (n::r)):0≤n.many∧∃ps,parts n.many.toNat r=some ps∧ps.flatten=r∧∀p∈ps,One p:=by
 obtain⟨hm,c',hc,h'⟩:=dJ (k:=0) h
 simp only[List.length_cons,Nat.add_right_cancel_iff]at hc
 subst hc
 rw[Nat.zero_add]at h'
 obtain⟨ps,h1,h2,h3⟩:=fE _ _ _ h'
 exact⟨hm,ps,h1,by rw[h2,List.take_length],h3⟩
theorem One.made {n:Nd}{ps:List Vl}(hn:n.many=ps.length)(h:∀p∈ps,One p):One (n::ps.flatten):=by
 unfold One
 simp only[skip,Nat.zero_add]
 rw[if_neg (by omega),hn,Int.toNat_natCast,mh ps h];rfl
theorem vK{ps:List Vl}{p:Vl}(h:p∈ps):p.length≤ps.flatten.length:=by
 induction ps with
 | nil=>cases h
 | cons q qs ih=>
  rcases List.mem_cons.1 h with rfl | h
  ·simp
  ·have:=ih h
   simp only[List.flatten_cons,List.length_append]
   omega
structure Wf (q:Nd→Prop) (v:Vl):Prop where
 one:One v
 all:∀n∈v,q n
theorem Wf.parts {q:Nd→Prop}{n:Nd}{r:Vl}(h:Wf q (n::r)):0≤n.many∧∃ps,parts n.many.toNat r=some ps∧ps.flatten=r∧∀p∈ps,Wf q p:=by
 obtain⟨hm,ps,h1,h2,h3⟩:=h.one.parts
 refine⟨hm,ps,h1,h2,λp hp=>⟨h3 p hp,λx hx=>h.all x (List.mem_cons_of_mem _ ?_)⟩⟩
 rw[←h2]
 exact List.mem_flatten.2 ⟨p,hp,hx⟩
theorem Wf.gI {q:Nd→Prop}(hq:∀n,q n→q { n with name:=[] }){v:Vl}(h:Wf q v):Wf q (gI v):=by
 refine⟨h.one.gI,λn hn=>?_⟩
 cases v with
 | nil=>cases hn
 | cons m r=>
  rcases List.mem_cons.1 hn with rfl | hn
  ·exact hq m (h.all m (List.mem_cons_self ..))
  ·exact h.all n (List.mem_cons_of_mem _ hn)
theorem rY:∀(v:Vl) (k c i:Nat),skip v k=some c→i<c→∃k' c',skip (v.drop i) (k'+1)=some c'
 | v,0,c,i,h,hi=>by
  have:c=0:=by cases v<;>simp[skip]at h<;>exact h.symm
  omega
 | [],k+1,c,i,h,hi=>by simp[skip]at h
 | n::v,k+1,c,0,h,hi=>⟨k,c,by simpa using h⟩
 | n::v,k+1,c,i+1,h,hi=>by
  obtain⟨hm,c',rfl,h'⟩:=dJ h
  simpa using rY v _ c' i h' (by omega)
theorem One.at {v:Vl}(h:One v){i:Nat}(hi:i<v.length):∃c,skip (v.drop i) 1=some c:=by
 obtain⟨k',c',h'⟩:=rY v 1 _ i h hi
 rw[Nat.add_comm]at h'
 obtain⟨c1,_,h1,_,_⟩:=qc _ 1 k' c' h'
 exact⟨c1,h1⟩
theorem One.EU {v:Vl}(h:One v){i:Nat}(hi:i<v.length):0≤v[i].many∧∃ps,Lp.parts v[i].many.toNat (v.drop (i+1))=some ps:=by
 obtain⟨c,hc⟩:=h.at hi
 rw[List.drop_eq_getElem_cons hi]at hc
 obtain⟨hm,c',rfl,h'⟩:=dJ (k:=0) hc
 rw[Nat.zero_add]at h'
 obtain⟨ps,h1,_,_⟩:=fE _ _ _ h'
 exact⟨hm,ps,h1⟩
end Lp
namespace Lp
open Go
theorem iP:∀(k:Nat) (v w:Vl) (ps:List Vl),parts k v=some ps→parts k (v++w)=some ps
 | 0,_,_,_,h=>h
 | k+1,v,w,ps,h=>by
  obtain⟨c,qs,h1,rfl,h3⟩:=gV h
  have hc:=gH _ _ _ h1
  have h4:=iP k _ w qs h3
  simp only[parts,gJ v w _ _ h1]
  rw[List.drop_append_of_le_length hc.2,h4,List.take_append_of_le_length hc.2];rfl
def Good(v:Vl):Prop:=∀i n r,v.drop i=n::r→bM n=true∧∃ps,parts n.many.toNat r=some ps∧kL n.kind ps=true
theorem nG:∀v:Vl,ny v=true↔Good v
 | []=>⟨λ_ i n r h=>(by simp at h),λ_=>rfl⟩
 | m::v=>by
  constructor
  ·intro h i n r hd
   simp only[ny,Bool.and_eq_true]at h
   obtain⟨⟨h1,h2⟩,h3⟩:=h
   cases i with
   | zero=>
    simp only[List.drop_zero,List.cons.injEq]at hd
    obtain⟨rfl,rfl⟩:=hd
    refine⟨h1,?_⟩
    cases hp:parts m.many.toNat v with
    | none=>rw[hp]at h2;cases h2
    | some ps=>rw[hp]at h2;exact⟨ps,rfl,h2⟩
   | succ i=>exact (nG v).1 h3 i n r (by simpa using hd)
  ·intro h
   obtain⟨h1,ps,h2,h3⟩:=h 0 m v rfl
   have h4:ny v=true:=(nG v).2 λi n r hd=>h (i+1) n r (by simpa using hd)
   simp[ny,h1,h2,h3,h4]
structure Rt (v:Vl):Prop where
 one:One v
 name:nameOf v=[]
 good:Good v
theorem nH{v:Vl}(h:bX v=true):Rt v:=by
 simp only[bX,Bool.and_eq_true,beq_iff_eq]at h
 obtain⟨⟨⟨_,h2⟩,h3⟩,h4⟩:=h
 exact⟨rV _ _ _ _ h3,h2,(nG v).1 h4⟩
theorem AY{p w s:Vl}{m:Nd}{i:Nat}(h:p.drop i=m::s):(p++w).drop i=m::(s++w):=by
 have hi:i≤p.length:=by
  rcases Nat.le_total i p.length with h' | h'
  ·exact h'
  ·rw[List.drop_eq_nil_of_le h']at h;cases h
 rw[List.drop_append_of_le_length hi,h];rfl
theorem Good.pre {p w:Vl}(ho:One p)(h:Good (p++w)):Good p:=by
 intro i m s hd
 obtain⟨h1,ps,h2,h3⟩:=h i m (s++w) (AY hd)
 have hi:i<p.length:=by
  rcases Nat.lt_or_ge i p.length with h' | h'
  ·exact h'
  ·rw[List.drop_eq_nil_of_le h']at hd;cases hd
 obtain⟨_,qs,hq⟩:=ho.EU hi
 have hd':=hd
 rw[List.drop_eq_getElem_cons hi]at hd'
 obtain⟨e1,e2⟩:=List.cons.inj hd'
 rw[e1,e2]at hq
 have:=iP _ _ w _ hq
 rw[h2]at this
 cases this
 exact⟨h1,ps,hq,h3⟩
theorem Good.suf {p w:Vl}(h:Good (p++w)):Good w:=by
 intro i m s hd
 exact h (p.length+i) m s (by rw[←List.drop_drop,List.drop_left];exact hd)
theorem Good.nI:∀(ps:List Vl),(∀p∈ps,One p)→Good ps.flatten→∀p∈ps,Good p
 | [],_,_,p,hp=>by cases hp
 | q::qs,ho,hg,p,hp=>by
  rw[List.flatten_cons]at hg
  rcases List.mem_cons.1 hp with rfl | hp
  ·exact hg.pre (ho _ (List.mem_cons_self ..))
  ·exact Good.nI qs (λx hx=>ho x (List.mem_cons_of_mem _ hx)) hg.suf p hp
theorem Good.gI {v:Vl}(h:Good v):Good (gI v):=by
 cases v with
 | nil=>exact h
 | cons n r=>
  intro i m s hd
  cases i with
  | zero=>
   simp only[Lp.gI,List.drop_zero,List.cons.injEq]at hd
   obtain⟨rfl,rfl⟩:=hd
   exact h 0 n r rfl
  | succ i=>exact h (i+1) m s hd
theorem Fy(v:Vl):nameOf (gI v)=[]:=by cases v<;>rfl
theorem Rt.parts {n:Nd}{r:Vl}(h:Rt (n::r)):bM n=true∧0≤n.many∧∃ps,parts n.many.toNat r=some ps∧ps.flatten=r∧kL n.kind ps=true∧(∀p∈ps,One p)∧∀p∈ps,Rt (Lp.gI p):=by
 obtain⟨hm,ps,h1,h2,h3⟩:=h.one.parts
 obtain⟨hp,qs,hq,hr⟩:=h.good 0 n r rfl
 rw[h1]at hq
 cases hq
 have hg:Good ps.flatten:=by rw[h2];exact (show Good ([n]++r) from h.good).suf
 exact⟨hp,hm,ps,h1,h2,hr,h3,λp hpm=>⟨(h3 p hpm).gI,Fy p,(Good.nI ps h3 hg p hpm).gI⟩⟩
theorem dB{n:Nd}{r:Vl}{ps:List Vl}(h:parts n.many.toNat r=some ps):partsOf n r=ps.map gI∧Qv n r=ps.map nameOf:=by
 simp[partsOf,Qv,h]
theorem Fz:∀(ps:List Vl),kL 5 ps=true→ps.map nameOf=ps.map λ_=>[]
 | [],_=>rfl
 | p::ps,h=>by
  simp only[kL,Bool.and_eq_true]at h
  obtain⟨⟨⟨h1,_⟩,_⟩,h4⟩:=h
  have:nameOf p=[]:=by simpa using h1
  simp only[List.map_cons,this,Fz ps h4]
theorem bS{v:Vl}(h:nameOf v=[])(hne:v≠[]):∃n r,v=n::r∧n.name=[]:=by
 cases v with
 | nil=>exact absurd rfl hne
 | cons n r=>exact⟨n,r,rfl,h⟩
end Lp
namespace Lp
open Go
structure acG {α:Type}(P:α→Prop) (f:α→α→Int):Prop where
 rng:∀a b,P a→P b→-1≤f a b∧f a b≤1
 anti:∀a b,P a→P b→f b a=-f a b
 zero:∀a b,P a→P b→(f a b=0↔a=b)
 trans:∀a b c,P a→P b→P c→f a b≤0→f b c≤0→f a c≤0
theorem lQ:∀x:List UInt8,Op.bytesLess x x=false
 | []=>rfl
 | a::x=>by simp[Op.bytesLess,lQ x]
theorem kR:∀x y z:List UInt8,Op.bytesLess x y=true→Op.bytesLess y z=true→Op.bytesLess x z=true
 | x,[],z,h,_=>by cases x<;>simp[Op.bytesLess]at h
 | x,b::y,[],_,h=>by simp[Op.bytesLess]at h
 | [],b::y,c::z,_,_=>rfl
 | a::x,b::y,c::z,h1,h2=>by
  simp only[Op.bytesLess,Bool.or_eq_true,Bool.and_eq_true,decide_eq_true_eq,beq_iff_eq]at *
  rcases h1 with h1 | ⟨rfl,h1⟩
  ·rcases h2 with h2 | ⟨rfl,h2⟩
   ·exact .inl (UInt8.lt_trans h1 h2)
   ·exact .inl h1
  ·rcases h2 with h2 | ⟨rfl,h2⟩
   ·exact .inl h2
   ·exact .inr ⟨rfl,kR x y z h1 h2⟩
theorem CG:∀x y:List UInt8,Op.bytesLess x y=true∨x=y∨Op.bytesLess y x=true
 | [],[]=>.inr (.inl rfl)
 | [],_::_=>.inl rfl
 | _::_,[]=>.inr (.inr rfl)
 | a::x,b::y=>by
  simp only[Op.bytesLess,Bool.or_eq_true,Bool.and_eq_true,decide_eq_true_eq,beq_iff_eq,List.cons.injEq]
  have tri:a<b∨a=b∨b<a:=by
   rcases Nat.lt_trichotomy a.toNat b.toNat with h | h | h
   ·exact .inl h
   ·exact .inr (.inl (UInt8.toNat_inj.1 h))
   ·exact .inr (.inr h)
  rcases tri with h | rfl | h
  ·exact .inl (.inl h)
  ·rcases CG x y with h | rfl | h
   ·exact .inl (.inr ⟨rfl,h⟩)
   ·exact .inr (.inl ⟨rfl,rfl⟩)
   ·exact .inr (.inr (.inr ⟨rfl,h⟩))
  ·exact .inr (.inr (.inl h))
theorem FB(x y:List UInt8)(h:Op.bytesLess x y=true):Op.bytesLess y x=false:=by
 cases h':Op.bytesLess y x with
 | false=>rfl
 | true=>have:=kR x y x h h';rw[lQ]at this;cases this
theorem acG.refl {α:Type}{P:α→Prop}{f:α→α→Int}(h:acG P f)(a:α)(ha:P a):f a a=0:=(h.zero a a ha ha).2 rfl
theorem Uj{n:Nd}(h:AV n=true):n.many=0:=by
 simp only[AV,Bool.and_eq_true,beq_iff_eq]at h
 exact h.1.1.1.1.1.1
theorem Nn{n:Nd}{r:Vl}(h:Rt (n::r)):∀x∈partsOf n r,x.length≤r.length∧Rt x:=by
 obtain⟨_,_,ps,h3,h4,h5,h6,h7⟩:=h.parts
 intro x hx
 rw[(dB h3).1]at hx
 obtain⟨p,hp,rfl⟩:=List.mem_map.1 hx
 have:=vK hp
 rw[h4]at this
 exact⟨by rw[kY];omega,h7 p hp⟩
end Lp
namespace Lp
open Go
open List (length_map map_congr_left map_cons map_map mem_cons mem_cons_of_mem)
theorem JC(L:Nat):∀(v:Vl) (k c:Nat),skip v k=some c→c≤L→mZ L v k=some c
 | v,0,c,h,_=>by cases v<;>simpa[mZ,skip] using h
 | [],k+1,c,h,_=>by simp[skip]at h
 | n::v,k+1,c,h,hc=>by
  obtain⟨hm,c',rfl,h'⟩:=dJ h
  have:=gH _ _ _ h'
  rw[mZ,if_neg (by omega),JC L v _ c' h' (by omega)];rfl
theorem CJ{v:Vl}(h:Rt v):bX v=true:=by
 have h1:=JC v.length v 1 _ h.one (Nat.le_refl _)
 have h2:v.isEmpty=false:=by
  cases v with
  | nil=>exact absurd rfl h.one.ne
  | cons=>rfl
 simp[bX,h1,h2,h.name,(nG v).2 h.good]
theorem Qw{v:Vl}:bX v=true↔Rt v:=⟨nH,CJ⟩
theorem Good.app {p w:Vl}(hp:Good p)(hw:Good w):Good (p++w):=by
 intro i n r hd
 rcases Nat.lt_or_ge i p.length with h | h
 ·have hd':=List.drop_eq_getElem_cons h
  have e:=AY (w:=w) hd'
  obtain⟨rfl,rfl⟩:=List.cons.inj (e.symm.trans hd)
  obtain⟨h1,ps,h2,h3⟩:=hp i _ _ hd'
  exact⟨h1,ps,iP _ _ w _ h2,h3⟩
 ·have e:(p++w).drop i=w.drop (i-p.length):=by
    rw[List.drop_append,List.drop_eq_nil_of_le h,List.nil_append]
  exact hw (i-p.length) n r (by rw[←e];exact hd)
theorem Good.nil:Good []:=λi n r h=>by simp at h
theorem Good.flat:∀(ps:List Vl),(∀p∈ps,Good p)→Good ps.flatten
 | [],_=>Good.nil
 | p::ps,h=>by
  rw[List.flatten_cons]
  exact (h p (List.mem_cons_self ..)).app (Good.flat ps λq hq=>h q (mem_cons_of_mem _ hq))
theorem Good.Qx {v:Vl}(h:Good (Lp.gI v)):Good v:=by
 cases v with
 | nil=>exact h
 | cons n r=>
  intro i m s hd
  cases i with
  | zero=>
   simp only[List.drop_zero,List.cons.injEq]at hd
   obtain⟨rfl,rfl⟩:=hd
   exact h 0 { n with name:=[] } r rfl
  | succ i=>exact h (i+1) m s hd
theorem One.Qx {v:Vl}(h:One (Lp.gI v)):One v:=by
 unfold One at *
 rw[AX,kY]at h
 exact h
theorem Good.made {n:Nd}{ps:List Vl}(hn:bM n=true)(hm:n.many=ps.length)(hr:kL n.kind ps=true)(h:∀p∈ps,One p∧Good p):Good (n::ps.flatten):=by
 intro i m s hd
 cases i with
 | zero=>
  simp only[List.drop_zero,List.cons.injEq]at hd
  obtain⟨rfl,rfl⟩:=hd
  refine⟨hn,ps,?_,hr⟩
  rw[hm,Int.toNat_natCast]
  exact jg ps λp hp=>(h p hp).1
 | succ i=>exact Good.flat ps (λp hp=>(h p hp).2) i m s (by simpa using hd)
theorem Rt.made {n:Nd}{ps:List Vl}(hn:bM n=true)(hm:n.many=ps.length)(hname:n.name=[])(hr:kL n.kind ps=true)(h:∀p∈ps,One p∧Good p):Rt (n::ps.flatten):=
 ⟨One.made hm λp hp=>(h p hp).1,hname,Good.made hn hm hr h⟩
theorem Wn{v:Vl}(h:nameOf v=[]):gI v=v:=by
 cases v with
 | nil=>rfl
 | cons n r=>cases n;simp only[nameOf]at h;subst h;rfl
theorem FC{l:List Vl}(h:∀p∈l,nameOf p=[]):l.map gI=l:=by
 induction l with
 | nil=>rfl
 | cons p l ih=>rw[map_cons,Wn (h p (List.mem_cons_self ..)),ih λq hq=>h q (mem_cons_of_mem _ hq)]
def eu(l:List Vl):Vl:=⟨5,l.length,[],[],false,0⟩::l.flatten
theorem Wo:∀ps:List Vl,(∀p∈ps,nameOf p=[])→kL 5 ps=true
 | [],_=>rfl
 | [p],h=>by
  have:=h p (by simp)
  simp[kL,this];decide
 | p::q::ps,h=>by
  have:=h p (by simp)
  have ih:=Wo (q::ps) λx hx=>h x (mem_cons_of_mem _ hx)
  rw[kL,this,ih];rfl
theorem AZ{l:List Vl}(h:∀p∈l,Rt p):Rt (eu l):=
 Rt.made (n:=⟨5,l.length,[],[],false,0⟩) (by simp[bM]) rfl rfl (Wo l λp hp=>(h p hp).name) λp hp=>⟨(h p hp).one,(h p hp).good⟩
theorem ko{l:List Vl}(h:∀p∈l,Rt p):ax (eu l)=l:=by
 have:parts (l.length:Int).toNat l.flatten=some l:=by rw[Int.toNat_natCast];exact jg l λp hp=>(h p hp).one
 simp only[eu,ax,(dB (n:=⟨5,l.length,[],[],false,0⟩) this).1]
 exact FC λp hp=>(h p hp).name
theorem rZ{n:Nd}(h:bM n=true)(hk:n.kind=5∨n.kind=6):0≤n.many∧n.s=[]∧n.neg=false∧n.e=0:=by
 unfold bM at h
 rw[if_neg (by omega),if_neg (by omega),if_neg (by omega),if_pos hk]at h
 simpa[and_assoc] using h
theorem vW{n:Nd}{r:Vl}(h:Rt (n::r))(hk:n.kind=5):eu (ax (n::r))=n::r:=by
 obtain⟨h1,h2,ps,h3,h4,h5,_,_⟩:=h.parts
 obtain⟨_,e2,e3,e4⟩:=rZ h1 (.inl hk)
 have hn:n.name=[]:=h.name
 have hc:ps.map gI=ps:=FC λp hp=>by
  rw[hk]at h5
  have:=Fz ps h5
  obtain⟨i,hi,rfl⟩:=List.mem_iff_getElem.1 hp
  have:=congrArg (λl=>l[i]?) this
  simpa[hi] using this
 have hl:=dW _ _ _ h3
 simp only[ax,(dB h3).1,hc,eu,h4]
 obtain⟨k,m,nm,s,g,e⟩:=n
 simp only at hk e2 e3 e4 hn hl h2
 subst hk;subst e2;subst e3;subst e4;subst hn
 congr 2
 omega
abbrev ou(l:List (List UInt8)):Prop:=l.Pairwise λx y=>Op.bytesLess x y=true
theorem Ta:∀ps:List Vl,kL 6 ps=true↔(∀p∈ps,utf (nameOf p)=true)∧ou (ps.map nameOf)
 | []=>by simp[kL,ou]
 | [p]=>by simp[kL,ou]
 | p::q::ps=>by
  have ih:=Ta (q::ps)
  have e:kL 6 (p::q::ps)=(utf (nameOf p) && Op.bytesLess (nameOf p) (nameOf q) && kL 6 (q::ps)):=by
   rw[kL];simp
  rw[e,Bool.and_eq_true,Bool.and_eq_true,ih]
  constructor
  ·rintro⟨⟨h1,h2⟩,h3,h4⟩
   refine⟨?_,?_⟩
   ·intro x hx
    rcases mem_cons.1 hx with rfl | hx
    ·exact h1
    ·exact h3 x hx
   ·rw[map_cons]
    refine List.pairwise_cons.2 ⟨λx hx=>?_,h4⟩
    rw[map_cons]at hx h4
    rcases mem_cons.1 hx with rfl | hx
    ·exact h2
    ·exact kR _ _ _ h2 ((List.pairwise_cons.1 h4).1 x hx)
  ·rintro⟨h1,h2⟩
   rw[map_cons]at h2
   obtain⟨h3,h4⟩:=List.pairwise_cons.1 h2
   exact⟨⟨h1 p (by simp),h3 _ (by simp)⟩,λx hx=>h1 x (mem_cons_of_mem _ hx),h4⟩
def kM(nm:List UInt8):Vl→Vl
 | []=>[]
 | n::r=>{ n with name:=nm }::r
theorem FD(nm:List UInt8)(v:Vl):gI (kM nm v)=gI v:=by cases v<;>rfl
theorem DW(nm:List UInt8)(v:Vl):(kM nm v).length=v.length:=by cases v<;>rfl
theorem vX(nm:List UInt8){v:Vl}(h:v≠[]):nameOf (kM nm v)=nm:=by
 cases v with
 | nil=>exact absurd rfl h
 | cons n r=>rfl
theorem Wp(v:Vl):kM (nameOf v) (gI v)=v:=by cases v<;>rfl
theorem One.kM {v:Vl}(h:One v)(nm:List UInt8):One (Lp.kM nm v):=One.Qx (by rw[FD];exact h.gI)
theorem Good.kM {v:Vl}(h:Good v)(nm:List UInt8):Good (Lp.kM nm v):=Good.Qx (by rw[FD];exact h.gI)
abbrev mq:=List (List UInt8×Vl)
def FE(names:List (List UInt8))(l:List Vl):Vl:=⟨6,l.length,[],[],false,0⟩::(List.zipWith kM names l).flatten
def JD(l:mq):Vl:=⟨6,l.length,[],[],false,0⟩::(l.map λx=>kM x.1 x.2).flatten
theorem A7:∀l:mq,FE (l.map (·.1)) (l.map (·.2))=JD l:=by
 intro l
 have:List.zipWith kM (l.map (·.1)) (l.map (·.2))=l.map λx=>kM x.1 x.2:=by
  induction l with
  | nil=>rfl
  | cons x l ih=>simp only[map_cons,List.zipWith_cons_cons,ih]
 simp only[FE,JD,this,length_map]
def jm(v:Vl):mq:=(aJ v).zip (ax v)
structure jr (l:mq):Prop where
 rise:ou (l.map (·.1))
 utf:∀x∈l,utf x.1=true
 rt:∀x∈l,Rt x.2
theorem Wq{l:mq}(h:jr l):Rt (JD l):=by
 refine Rt.made (n:=⟨6,l.length,[],[],false,0⟩) (by simp[bM]) (by simp) rfl ?_ ?_
 ·show kL 6 _=true
  rw[Ta]
  have e:(l.map λx=>kM x.1 x.2).map nameOf=l.map (·.1):=by
   rw[map_map]
   exact map_congr_left λx hx=>vX _ (h.rt x hx).one.ne
  refine⟨λp hp=>?_,by rw[e];exact h.rise⟩
  obtain⟨x,hx,rfl⟩:=List.mem_map.1 hp
  rw[vX _ (h.rt x hx).one.ne]
  exact h.utf x hx
 ·intro p hp
  obtain⟨x,hx,rfl⟩:=List.mem_map.1 hp
  exact⟨(h.rt x hx).one.kM _,(h.rt x hx).good.kM _⟩
theorem Uk{l:mq}(h:∀x∈l,Rt x.2):ax (JD l)=l.map (·.2)∧aJ (JD l)=l.map (·.1):=by
 have hp:parts (l.length:Int).toNat (l.map λx=>kM x.1 x.2).flatten=some (l.map λx=>kM x.1 x.2):=by
  have:=jg (l.map λx=>kM x.1 x.2) λp hp=>by
   obtain⟨x,hx,rfl⟩:=List.mem_map.1 hp
   exact (h x hx).one.kM _
  rw[length_map]at this
  rw[Int.toNat_natCast];exact this
 obtain⟨e1,e2⟩:=dB (n:=⟨6,l.length,[],[],false,0⟩) hp
 refine⟨?_,?_⟩
 ·simp only[JD,ax,e1,map_map]
  exact map_congr_left λx hx=>by simp only[Function.comp];rw[FD,Wn (h x hx).name]
 ·simp only[JD,aJ,if_true,e2,map_map]
  exact map_congr_left λx hx=>vX _ (h x hx).one.ne
theorem tN:∀l:mq,(l.map (·.1)).zip (l.map (·.2))=l
 | []=>rfl
 | x::l=>by simp[tN l]
theorem Tc{l:mq}(h:∀x∈l,Rt x.2):jm (JD l)=l:=by
 obtain⟨h1,h2⟩:=Uk h
 rw[jm,h1,h2,tN]
theorem A8:∀ps:List Vl,(ps.map nameOf).zip (ps.map gI)=ps.map λp=>(nameOf p,gI p)
 | []=>rfl
 | p::ps=>by simp[A8 ps]
theorem abk{n:Nd}{r:Vl}(h:Rt (n::r))(hk:n.kind=6):jr (jm (n::r))∧JD (jm (n::r))=n::r∧aJ (n::r)=(jm (n::r)).map (·.1)∧ax (n::r)=(jm (n::r)).map (·.2):=by
 obtain⟨h1,h2,ps,h3,h4,h5,h6,h7⟩:=h.parts
 obtain⟨_,e2,e3,e4⟩:=rZ h1 (.inr hk)
 have hn:n.name=[]:=h.name
 obtain⟨q1,q2⟩:=dB h3
 have en:aJ (n::r)=ps.map nameOf:=by simp only[aJ,hk,if_true,q2]
 have ep:ax (n::r)=ps.map gI:=by simp only[ax,q1]
 have epr:jm (n::r)=ps.map λp=>(nameOf p,gI p):=by
  rw[jm,en,ep]
  exact A8 ps
 rw[hk]at h5
 obtain⟨u1,u2⟩:=(Ta ps).1 h5
 have hl:=dW _ _ _ h3
 refine⟨⟨?_,?_,?_⟩,?_,?_,?_⟩
 ·rw[epr,map_map];exact u2
 ·rw[epr];intro x hx
  obtain⟨p,hp,rfl⟩:=List.mem_map.1 hx
  exact u1 p hp
 ·rw[epr];intro x hx
  obtain⟨p,hp,rfl⟩:=List.mem_map.1 hx
  exact h7 p hp
 ·rw[epr,JD,map_map,length_map]
  have:ps.map ((λx:List UInt8×Vl=>kM x.1 x.2) ∘ λp=>(nameOf p,gI p))=ps:=by
   conv=>rhs;rw[←List.map_id ps]
   exact map_congr_left λp _=>Wp p
  rw[this,h4]
  obtain⟨k,m,nm,s,g,e⟩:=n
  simp only at hk e2 e3 e4 hn hl h2
  subst hk;subst e2;subst e3;subst e4;subst hn
  congr 2
  omega
 ·rw[en,epr,map_map];rfl
 ·rw[ep,epr,map_map];rfl
theorem r9:∀a b:mq,ou (a.map (·.1))→ou (b.map (·.1))→(∀x,x∈a↔x∈b)→a=b
 | [],[],_,_,_=>rfl
 | [],y::b,_,_,h=>by have:=(h y).2 (by simp);cases this
 | x::a,[],_,_,h=>by have:=(h x).1 (by simp);cases this
 | x::a,y::b,ha,hb,h=>by
  rw[map_cons]at ha hb
  obtain⟨a1,a2⟩:=List.pairwise_cons.1 ha
  obtain⟨b1,b2⟩:=List.pairwise_cons.1 hb
  have hxy:x=y:=by
   rcases mem_cons.1 ((h x).1 (by simp)) with e | hx
   ·exact e
   ·rcases mem_cons.1 ((h y).2 (by simp)) with e | hy
    ·exact e.symm
    ·have g1:=b1 x.1 (List.mem_map.2 ⟨x,hx,rfl⟩)
     have g2:=a1 y.1 (List.mem_map.2 ⟨y,hy,rfl⟩)
     rw[FB _ _ g1]at g2;cases g2
  subst hxy
  have hno:∀c:mq,(∀z∈c.map (·.1),Op.bytesLess x.1 z=true)→x ∉ c:=λc hc hx=>by
   have:=hc x.1 (List.mem_map.2 ⟨x,hx,rfl⟩)
   rw[lQ]at this;cases this
  have:a=b:=r9 a b a2 b2 λz=>by
   have hz:=h z
   simp only[mem_cons]at hz
   constructor
   ·intro hza
    rcases hz.1 (.inr hza) with rfl | hzb
    ·exact absurd hza (hno a a1)
    ·exact hzb
   ·intro hzb
    rcases hz.2 (.inr hzb) with rfl | hza
    ·exact absurd hzb (hno b b1)
    ·exact hza
  rw[this]
theorem eZ{l:List (List UInt8)}(h:ou l):l.Nodup:=by
 refine h.imp λ{a b} hab e=>?_
 subst e
 rw[lQ]at hab;cases hab
def iZ(l:mq)(nm:List UInt8):Option Vl:=(l.find? λx=>decide (x.1=nm)).map (·.2)
def gW(l:mq)(nm:List UInt8):mq:=l.filter λx=>!decide (x.1=nm)
def nJ(nm:List UInt8)(x:Vl):mq→mq
 | []=>[(nm,x)]
 | y::ys=>if Op.bytesLess y.1 nm then y::nJ nm x ys else (nm,x)::y::ys
theorem fw(nm:List UInt8)(x:Vl):∀(l:mq) (z:List UInt8×Vl),z∈nJ nm x l↔z=(nm,x)∨z∈l
 | [],z=>by simp[nJ]
 | y::ys,z=>by
  rw[nJ]
  split
  ·rw[mem_cons,fw nm x ys z,mem_cons]
   constructor
   ·rintro (h | h | h)
    ·exact .inr (.inl h)
    ·exact .inl h
    ·exact .inr (.inr h)
   ·rintro (h | h | h)
    ·exact .inr (.inl h)
    ·exact .inl h
    ·exact .inr (.inr h)
  ·rw[mem_cons]
theorem nK(nm:List UInt8)(x:Vl):∀l:mq,ou (l.map (·.1))→nm ∉ l.map (·.1)→ou ((nJ nm x l).map (·.1))
 | [],_,_=>by simp[nJ,ou]
 | y::ys,h,hn=>by
  rw[map_cons]at h hn
  obtain⟨h1,h2⟩:=List.pairwise_cons.1 h
  rw[mem_cons]at hn
  rw[nJ]
  split
  ·rename_i hlt
   rw[map_cons]
   refine List.pairwise_cons.2 ⟨λz hz=>?_,nK nm x ys h2 λh=>hn (.inr h)⟩
   obtain⟨w,hw,rfl⟩:=List.mem_map.1 hz
   rcases (fw nm x ys w).1 hw with rfl | hw
   ·exact hlt
   ·exact h1 _ (List.mem_map.2 ⟨w,hw,rfl⟩)
  ·rename_i hlt
   have hlt2:Op.bytesLess nm y.1=true:=by
    rcases CG nm y.1 with h | h | h
    ·exact h
    ·exact absurd (.inl h) hn
    ·exact absurd h hlt
   rw[map_cons,map_cons]
   refine List.pairwise_cons.2 ⟨λz hz=>?_,h⟩
   rcases mem_cons.1 hz with rfl | hz
   ·exact hlt2
   ·exact kR _ _ _ hlt2 (h1 z hz)
theorem KU{nm:List UInt8}{x:Vl}{l:mq}(h:jr l)(hn:nm ∉ l.map (·.1))(hu:utf nm=true)(hx:Rt x):jr (nJ nm x l):=by
 refine⟨nK nm x l h.rise hn,λz hz=>?_,λz hz=>?_⟩
 ·rcases (fw nm x l z).1 hz with rfl | hz
  ·exact hu
  ·exact h.utf z hz
 ·rcases (fw nm x l z).1 hz with rfl | hz
  ·exact hx
  ·exact h.rt z hz
theorem EW{l:mq}(h:jr l)(nm:List UInt8):jr (gW l nm):=by
 have hs:∀x∈gW l nm,x∈l:=λx hx=>(List.mem_filter.1 hx).1
 refine⟨?_,λx hx=>h.utf x (hs x hx),λx hx=>h.rt x (hs x hx)⟩
 exact List.Pairwise.sublist (List.Sublist.map _ List.filter_sublist) h.rise
theorem pF(l:mq)(nm:List UInt8):nm ∉ (gW l nm).map (·.1):=by
 intro h
 obtain⟨x,hx,rfl⟩:=List.mem_map.1 h
 have:=(List.mem_filter.1 hx).2
 simp at this
theorem nL{l:mq}{nm:List UInt8}:iZ l nm=none↔nm ∉ l.map (·.1):=by
 unfold iZ
 rw[Option.map_eq_none_iff,List.find?_eq_none]
 constructor
 ·intro h hm
  obtain⟨x,hx,rfl⟩:=List.mem_map.1 hm
  have:=h x hx
  simp at this
 ·intro h x hx
  have:x.1≠nm:=λe=>h (List.mem_map.2 ⟨x,hx,e⟩)
  simp[this]
theorem jh{l:mq}{nm:List UInt8}{x:Vl}(h:iZ l nm=some x):(nm,x)∈l:=by
 unfold iZ at h
 cases hf:l.find? λx=>decide (x.1=nm) with
 | none=>rw[hf]at h;cases h
 | some y=>
  rw[hf]at h
  simp only[Option.map_some,Option.some.injEq]at h
  have h1:=List.mem_of_find?_eq_some hf
  have h2:=List.find?_some hf
  simp only[decide_eq_true_eq]at h2
  rw[←h,←h2];exact h1
theorem ow{l:mq}{nm:List UInt8}{x:Vl}(hr:(l.map (·.1)).Nodup)(h:(nm,x)∈l):iZ l nm=some x:=by
 cases hg:iZ l nm with
 | none=>exact absurd (List.mem_map.2 ⟨_,h,rfl⟩) (nL.1 hg)
 | some y=>
  have hy:=jh hg
  congr 1
  clear hg
  induction l with
  | nil=>cases h
  | cons z l ih=>
   rw[map_cons]at hr
   obtain⟨h1,h2⟩:=List.nodup_cons.1 hr
   rcases mem_cons.1 h with e | h
   ·rcases mem_cons.1 hy with e2 | hy
    ·rw[←e]at e2;injection e2 with _ e2
    ·rw[←e]at h1;exact absurd (List.mem_map.2 ⟨_,hy,rfl⟩) h1
   ·rcases mem_cons.1 hy with e2 | hy
    ·rw[←e2]at h1;exact absurd (List.mem_map.2 ⟨_,h,rfl⟩) h1
    ·exact ih h2 h hy
theorem jK{l:mq}{nm:List UInt8}{z:List UInt8×Vl}:z∈gW l nm↔z∈l∧z.1≠nm:=by
 unfold gW
 rw[List.mem_filter]
 simp
theorem JE{nm:List UInt8}{x:Vl}{l:mq}(h:jr l)(hn:nm ∉ l.map (·.1)):iZ (nJ nm x l) nm=some x:=
 ow (eZ (nK nm x l h.rise hn)) ((fw nm x l _).2 (.inl rfl))
theorem KV{nm k:List UInt8}{x:Vl}{l:mq}(h:jr l)(hn:nm ∉ l.map (·.1))(hk:k≠nm):iZ (nJ nm x l) k=iZ l k:=by
 cases hg:iZ l k with
 | none=>
  rw[nL]at hg ⊢
  intro hm
  obtain⟨z,hz,rfl⟩:=List.mem_map.1 hm
  rcases (fw nm x l z).1 hz with rfl | hz
  ·exact hk rfl
  ·exact hg (List.mem_map.2 ⟨z,hz,rfl⟩)
 | some y=>exact ow (eZ (nK nm x l h.rise hn)) ((fw nm x l _).2 (.inr (jh hg)))
theorem A9{nm k:List UInt8}{l:mq}(h:jr l)(hk:k≠nm):iZ (gW l nm) k=iZ l k:=by
 cases hg:iZ l k with
 | none=>
  rw[nL]at hg ⊢
  intro hm
  obtain⟨z,hz,rfl⟩:=List.mem_map.1 hm
  exact hg (List.mem_map.2 ⟨z,(jK.1 hz).1,rfl⟩)
 | some y=>exact ow (eZ (EW h nm).rise) (jK.2 ⟨jh hg,hk⟩)
theorem Ul{nm:List UInt8}{x:Vl}{l:mq}(h:jr l)(hn:nm ∉ l.map (·.1))(hu:utf nm=true)(hx:Rt x):gW (nJ nm x l) nm=l:=by
 refine r9 _ _ (EW (KU h hn hu hx) nm).rise h.rise λz=>?_
 rw[jK,fw]
 constructor
 ·rintro⟨rfl | h1,h2⟩
  ·exact absurd rfl h2
  ·exact h1
 ·intro hz
  exact⟨.inr hz,λe=>hn (List.mem_map.2 ⟨z,hz,e⟩)⟩
theorem JF{nm:List UInt8}{x:Vl}{l:mq}(h:jr l)(hg:iZ l nm=some x):nJ nm x (gW l nm)=l:=by
 have hm:=jh hg
 refine r9 _ _ (nK _ _ _ (EW h nm).rise (pF l nm)) h.rise λz=>?_
 rw[fw,jK]
 constructor
 ·rintro (rfl | ⟨h1,_⟩)
  ·exact hm
  ·exact h1
 ·intro hz
  by_cases e:z.1=nm
  ·left
   obtain⟨z1,z2⟩:=z
   simp only at e
   subst e
   have:=ow (eZ h.rise) hz
   rw[hg]at this
   cases this;rfl
  ·exact .inr ⟨hz,e⟩
def KW(l:mq):mq:=l.foldr (λx acc=>nJ x.1 x.2 acc) []
theorem Np(l:mq)(z:List UInt8×Vl):z∈KW l↔z∈l:=by
 induction l with
 | nil=>rfl
 | cons x l ih=>
  show z∈nJ x.1 x.2 (KW l)↔_
  rw[fw,ih,mem_cons]
theorem Um{l:mq}(h:(l.map (·.1)).Nodup):ou ((KW l).map (·.1)):=by
 induction l with
 | nil=>exact List.Pairwise.nil
 | cons x l ih=>
  rw[map_cons]at h
  obtain⟨h1,h2⟩:=List.nodup_cons.1 h
  refine nK _ _ _ (ih h2) λhm=>h1 ?_
  obtain⟨z,hz,e⟩:=List.mem_map.1 hm
  exact List.mem_map.2 ⟨z,(Np l z).1 hz,e⟩
theorem r_(nm:List UInt8)(x:Vl):∀l:mq,(nJ nm x l).Perm ((nm,x)::l)
 | []=>.refl _
 | y::ys=>by
  rw[nJ]
  split
  ·exact ((r_ nm x ys).cons y).trans (.swap ..)
  ·exact .refl _
theorem JG:∀l:mq,(KW l).Perm l
 | []=>.refl _
 | x::l=>(r_ x.1 x.2 (KW l)).trans ((JG l).cons x)
theorem xM{a b:List Vl}(h:a.Perm b):a.flatten.length=b.flatten.length:=by
 rw[List.length_flatten,List.length_flatten]
 exact (h.map List.length).sum_nat
theorem Un{names:List (List UInt8)}{l:List Vl}(h:names.length=l.length):((KW (names.zip l)).map (·.2)).flatten.length=l.flatten.length:=by
 have:=xM ((JG (names.zip l)).map (·.2))
 rw[List.map_snd_zip (by omega)]at this
 exact this
def dY(names:List (List UInt8))(k:Nat):Bool:=decide (names.length=k) && decide names.Nodup && names.all utf
def zU(names:List (List UInt8))(l:List Vl):Vl:=if dY names l.length then JD (KW (names.zip l)) else []
theorem lS{names:List (List UInt8)}{k:Nat}:dY names k=true↔names.length=k∧names.Nodup∧∀x∈names,utf x=true:=by
 simp[dY,and_assoc]
theorem DX{names:List (List UInt8)}{l:List Vl}(h:dY names l.length=true){q:mq}(hq:ou (q.map (·.1)))(hm:∀x,x∈q↔x∈names.zip l):q=KW (names.zip l):=by
 obtain⟨h1,h2,h3⟩:=lS.1 h
 exact r9 _ _ hq (Um (by rw[List.map_fst_zip (by omega)];exact h2)) λx=>by rw[hm,Np]
theorem tO{n:Nd}(h:bM n=true)(hk:¬ (n.kind=5∨n.kind=6)):n.many=0:=by
 unfold bM at h
 split at h
 ·simp only[Bool.and_eq_true,beq_iff_eq]at h;exact h.1.1.1
 ·split at h
  ·exact Uj h
  ·split at h
   ·simp only[Bool.and_eq_true,beq_iff_eq]at h;exact h.1.1.2
   ·cases h
theorem bU{v p:Vl}(h:Rt v)(hp:p∈ax v):Rt p∧p.length<v.length:=by
 obtain⟨n,r,rfl,_⟩:=bS h.name h.one.ne
 have:=Nn h p hp
 exact⟨this.2,by simp only[List.length_cons];omega⟩
end Lp
namespace Lp
open Go
open List (flatten_cons mem_cons_of_mem)
open Bool (and_eq_true)
structure AU where
 kind:Int
 left:Int
 first:Bool
 last:List UInt8
def eF(o:AU)(nm:List UInt8):Bool:=if o.kind=6 then utf nm && (o.first || Op.bytesLess o.last nm) else nm==[]
def FH(L:Int):List AU→Vl→Bool
 | s,[]=>!s.any λo=>decide (0<o.left)
 | s,n::r=>match s.dropWhile (λo=>o.left==0) with
  | []=>false
  | o::t=>bM n && decide (n.many≤L) && eF o n.name && FH L (⟨n.kind,n.many,true,[]⟩::⟨o.kind,o.left-1,false,n.name⟩::t) r
def tQ(o:AU):List Vl→Bool
 | []=>true
 | p::ps=>eF o (nameOf p) && tQ { o with first:=false,last:=nameOf p } ps
def Fit(L:Int):List AU→Vl→Prop
 | [],v=>v=[]
 | o::t,v=>∃(ps:List Vl) (w:Vl),v=ps.flatten++w∧(ps.length:Int)=o.left∧(∀p∈ps,One p∧Good p∧∀n∈p,n.many≤L)∧tQ o ps=true∧Fit L t w
theorem CK(o:AU)(k:Int):∀ps:List Vl,tQ { o with left:=k } ps=tQ o ps
 | []=>rfl
 | p::ps=>by
  simp only[tQ]
  rw[CK { o with first:=false,last:=nameOf p } k ps];rfl
theorem aav:∀(o:AU) (ps:List Vl),o.kind=6→(tQ o ps=true↔(∀p∈ps,utf (nameOf p)=true)∧ou (ps.map nameOf)∧(o.first=false→∀p∈ps,Op.bytesLess o.last (nameOf p)=true))
 | o,[],_=>by simp[tQ,ou]
 | o,p::ps,hk=>by
  have ih:=aav { o with first:=false,last:=nameOf p } ps hk
  have e:tQ o (p::ps)=((utf (nameOf p) && (o.first || Op.bytesLess o.last (nameOf p))) && tQ { o with first:=false,last:=nameOf p } ps):=by
   simp only[tQ,eF,hk,if_true]
  rw[e,and_eq_true,and_eq_true,Bool.or_eq_true,ih]
  simp only[forall_const]
  constructor
  ·rintro⟨⟨h1,h2⟩,h3,h4,h5⟩
   refine⟨λx hx=>?_,?_,λhf x hx=>?_⟩
   ·rcases List.mem_cons.1 hx with rfl | hx
    ·exact h1
    ·exact h3 x hx
   ·rw[List.map_cons]
    refine List.pairwise_cons.2 ⟨λx hx=>?_,h4⟩
    obtain⟨q,hq,rfl⟩:=List.mem_map.1 hx
    exact h5 q hq
   ·have h2':=h2.resolve_left (by rw[hf];simp)
    rcases List.mem_cons.1 hx with rfl | hx
    ·exact h2'
    ·exact kR _ _ _ h2' (h5 x hx)
  ·rintro⟨h1,h2,h3⟩
   rw[List.map_cons]at h2
   obtain⟨h4,h5⟩:=List.pairwise_cons.1 h2
   refine⟨⟨h1 p (by simp),?_⟩,λx hx=>h1 x (mem_cons_of_mem _ hx),h5,λx hx=>h4 _ (List.mem_map.2 ⟨x,hx,rfl⟩)⟩
   cases hf:o.first with
   | true=>exact .inl rfl
   | false=>exact .inr (h3 hf p (by simp))
theorem tT:∀(o:AU) (ps:List Vl),o.kind≠6→(tQ o ps=true↔∀p∈ps,nameOf p=[])
 | o,[],_=>by simp[tQ]
 | o,p::ps,hk=>by
  have ih:=tT { o with first:=false,last:=nameOf p } ps hk
  have e:tQ o (p::ps)=((nameOf p==[]) && tQ { o with first:=false,last:=nameOf p } ps):=by
   simp only[tQ,eF,hk,if_false]
  rw[e,and_eq_true,ih]
  simp
theorem JH{n:Nd}{ps:List Vl}(hp:bM n=true)(hl:n.many=ps.length)(m:Int):tQ ⟨n.kind,m,true,[]⟩ ps=kL n.kind ps:=by
 rw[Bool.eq_iff_iff]
 by_cases h6:n.kind=6
 ·rw[aav _ _ h6,h6,Ta];simp
 by_cases h5:n.kind=5
 ·rw[tT _ _ h6,h5]
  refine⟨Wo ps,λh=>?_⟩
  have:=Fz ps h
  intro p hp
  obtain⟨i,hi,rfl⟩:=List.mem_iff_getElem.1 hp
  have:=congrArg (λl=>l[i]?) this
  simpa[hi] using this
 ·have:=tO hp (by omega)
  have:ps=[]:=List.eq_nil_of_length_eq_zero (by omega)
  subst this
  simp[tQ,kL]
theorem Nq{L:Int}{o:AU}{t:List AU}{v:Vl}(h:o.left=0):Fit L (o::t) v↔Fit L t v:=by
 constructor
 ·rintro⟨ps,w,rfl,hl,_,_,hw⟩
  have:ps=[]:=List.eq_nil_of_length_eq_zero (by omega)
  subst this
  simpa using hw
 ·intro hw
  exact⟨[],v,by simp,by simp[h],by simp,rfl,hw⟩
theorem fit_drop{L:Int}{v:Vl}:∀s:List AU,Fit L s v↔Fit L (s.dropWhile λo=>o.left==0) v
 | []=>Iff.rfl
 | o::t=>by
  by_cases h:o.left=0
  ·rw[List.dropWhile_cons_of_pos (by simpa using h),←fit_drop t,Nq h]
  ·rw[List.dropWhile_cons_of_neg (by simpa using h)]
theorem Td{L:Int}:∀s:List AU,(∀o∈s,0≤o.left)→(Fit L s []↔∀o∈s,o.left=0)
 | [],_=>by simp[Fit]
 | o::t,h=>by
  have ih:=Td (L:=L) t λx hx=>h x (mem_cons_of_mem _ hx)
  constructor
  ·rintro⟨ps,w,he,hl,hp,_,hw⟩
   have he':=he.symm
   rw[List.append_eq_nil_iff]at he'
   obtain⟨e1,rfl⟩:=he'
   have hps:ps=[]:=by
    cases ps with
    | nil=>rfl
    | cons p ps=>
     rw[flatten_cons,List.append_eq_nil_iff]at e1
     exact absurd e1.1 (hp p (by simp)).1.ne
   subst hps
   intro x hx
   rcases List.mem_cons.1 hx with rfl | hx
   ·simpa using hl.symm
   ·exact ih.1 hw x hx
  ·intro hz
   rw[Nq (hz o (by simp)),ih]
   exact λx hx=>hz x (mem_cons_of_mem _ hx)
theorem Ws{L:Int}{o:AU}{t:List AU}{n:Nd}{r:Vl}(h0:0≤o.left)(h1:o.left≠0) :
  Fit L (o::t) (n::r)↔bM n=true∧n.many≤L∧eF o n.name=true∧Fit L (⟨n.kind,n.many,true,[]⟩::⟨o.kind,o.left-1,false,n.name⟩::t) r:=by
 constructor
 ·rintro⟨ps,w,he,hl,hp,hr,hw⟩
  cases ps with
  | nil=>simp only[List.length_nil]at hl;omega
  | cons p ps=>
   obtain⟨ho,hg,hm⟩:=hp p (by simp)
   cases p with
   | nil=>exact absurd rfl ho.ne
   | cons n' q=>
    simp only[flatten_cons,List.cons_append,List.cons.injEq]at he
    obtain⟨rfl,rfl⟩:=he
    obtain⟨hm0,qs,hq,hqf,hqo⟩:=ho.parts
    obtain⟨hpl,qs',hq',hrb⟩:=hg 0 n q rfl
    rw[hq]at hq'
    cases hq'
    have JI:=dW _ _ _ hq
    have hgq:Good qs.flatten:=by rw[hqf];exact (show Good ([n]++q) from hg).suf
    simp only[tQ,and_eq_true]at hr
    refine⟨hpl,hm n (by simp),hr.1,qs,ps.flatten++w,by rw[hqf,List.append_assoc],by show (qs.length:Int)=n.many;omega,λx hx=>⟨hqo x hx,Good.nI qs hqo hgq x hx,λy hy=>hm y ?_⟩,?_,ps,w,rfl,?_,λx hx=>hp x (mem_cons_of_mem _ hx),?_,hw⟩
    ·rw[←hqf]
     exact mem_cons_of_mem _ (List.mem_flatten.2 ⟨x,hx,hy⟩)
    ·rw[JH hpl (by omega)];exact hrb
    ·show (ps.length:Int)=o.left-1
     simp only[List.length_cons]at hl;omega
    ·have:=hr.2
     rw[←CK _ (o.left-1)]at this
     exact this
 ·rintro⟨hpl,hm,hn,qs,w1,rfl,JI,hqp,hqr,ps,w,rfl,hl,hp,hr,hw⟩
  have hrb:kL n.kind qs=true:=by rw[←JH hpl (by simp only at JI;omega)];exact hqr
  refine⟨(n::qs.flatten)::ps,w,by simp,?_,λx hx=>?_,?_,hw⟩
  ·simp only[List.length_cons]at hl ⊢;omega
  ·rcases List.mem_cons.1 hx with rfl | hx
   ·refine⟨One.made (by simp only at JI;omega) λp hp=>(hqp p hp).1,Good.made hpl (by simp only at JI;omega) hrb λp hp=>⟨(hqp p hp).1,(hqp p hp).2.1⟩,λy hy=>?_⟩
    rcases List.mem_cons.1 hy with rfl | hy
    ·exact hm
    ·obtain⟨q,hq,hyq⟩:=List.mem_flatten.1 hy
     exact (hqp q hq).2.2 y hyq
   ·exact hp x hx
  ·simp only[tQ,and_eq_true]
   refine⟨hn,?_⟩
   have:=hr
   rw[←CK _ o.left]at this
   exact this
theorem FI(L:Int):∀(v:Vl) (s:List AU),(∀o∈s,0≤o.left)→(FH L s v=true↔Fit L s v)
 | [],s,h=>by
  rw[Td s h]
  simp only[FH,Bool.not_eq_true',List.any_eq_false,decide_eq_true_eq]
  constructor
  ·intro g o ho
   have:=g o ho
   have:=h o ho
   omega
  ·intro g o ho
   have:=g o ho
   omega
 | n::r,s,h=>by
  rw[fit_drop s]
  have hd:∀o∈s.dropWhile (λo=>o.left==0),0≤o.left:=λo ho=>h o ((List.dropWhile_sublist _).subset ho)
  have hh:∀o t,s.dropWhile (λo=>o.left==0)=o::t→o.left≠0:=λo t e=>by
   have:=List.head?_dropWhile_not (λo:AU=>o.left==0) s
   rw[e]at this
   simpa using this
  rw[FH]
  generalize s.dropWhile (λo=>o.left==0)=s' at hd hh
  cases s' with
  | nil=>simp[Fit]
  | cons o t=>
   simp only
   have h0:=hd o (by simp)
   have h1:=hh o t rfl
   rw[Ws h0 h1]
   simp only[and_eq_true,decide_eq_true_eq,and_assoc]
   constructor
   ·rintro⟨g1,g2,g3,g4⟩
    refine⟨g1,g2,g3,(FI L r _ ?_).1 g4⟩
    have hm:0≤n.many:=by
     by_cases hk:n.kind=5∨n.kind=6
     ·exact (rZ g1 hk).1
     ·rw[tO g1 hk];exact Int.le_refl 0
    intro x hx
    rcases List.mem_cons.1 hx with rfl | hx
    ·exact hm
    ·rcases List.mem_cons.1 hx with rfl | hx
     ·simp only;omega
     ·exact hd x (mem_cons_of_mem _ hx)
   ·rintro⟨g1,g2,g3,g4⟩
    refine⟨g1,g2,g3,(FI L r _ ?_).2 g4⟩
    have hm:0≤n.many:=by
     by_cases hk:n.kind=5∨n.kind=6
     ·exact (rZ g1 hk).1
     ·rw[tO g1 hk];exact Int.le_refl 0
    intro x hx
    rcases List.mem_cons.1 hx with rfl | hx
    ·exact hm
    ·rcases List.mem_cons.1 hx with rfl | hx
     ·simp only;omega
     ·exact hd x (mem_cons_of_mem _ hx)
theorem One.YZ {v:Vl}(h:One v):∀n∈v,n.many≤(v.length:Int):=by
 intro n hn
 obtain⟨i,hi,rfl⟩:=List.mem_iff_getElem.1 hn
 obtain⟨h0,ps,hp⟩:=h.EU hi
 have:=iY _ _ _ hp
 simp only[List.length_drop]at this
 omega
theorem Qy(v:Vl):FH v.length [⟨5,1,false,[]⟩] v=bX v:=by
 rw[Bool.eq_iff_iff,FI _ _ _ (by simp),Qw]
 constructor
 ·rintro⟨ps,w,rfl,hl,hp,hr,hw⟩
  simp only[Fit]at hw
  subst hw
  match ps,hl with
  | [p],_=>
   obtain⟨h1,h2,_⟩:=hp p (by simp)
   rw[tT _ _ (by decide)]at hr
   simp only[flatten_cons,List.flatten_nil,List.append_nil]
   exact⟨h1,hr p (by simp),h2⟩
  | [],hl=>simp at hl
  | _::_::_,hl=>simp at hl;omega
 ·intro h
  refine⟨[v],[],by simp,by simp,λp hp=>?_,?_,rfl⟩
  ·simp only[List.mem_singleton]at hp
   subst hp
   exact⟨h.one,h.good,h.one.YZ⟩
  ·rw[tT _ _ (by decide)]
   simp[h.name]
end Lp
namespace Lp
open Go
structure Atm where
 n:Int
 c:Nd
 deriving DecidableEq
def Wt(n:Nd):Bool:=decide (n.kind<5) && bX [n]
def abl(a:Atm):Bool:=decide (0≤a.n) && decide (a.n≤5) && Wt a.c
theorem Nr{n:Nd}(h:Wt n=true):bM n=true∧n.name=[]∧0≤n.kind∧n.kind<5∧Rt [n]:=by
 simp only[Wt,Bool.and_eq_true,decide_eq_true_eq]at h
 have hr:=nH h.2
 obtain⟨h1,_,_⟩:=hr.parts
 refine⟨h1,hr.name,?_,h.1,hr⟩
 unfold bM at h1
 rcases Int.lt_or_le n.kind 0 with hk | hk
 ·rw[if_neg (by omega),if_neg (by omega),if_neg (by omega),if_neg (by omega)]at h1;cases h1
 ·exact hk
end Lp
namespace Lp
open Go Go.Lib
def oz:Nd:=⟨0,0,[],[],false,0⟩
end Lp
namespace Lp
open Go
open List (flatten_cons length_cons)
open Option (map_some)
structure EA where
 kind:Int
 many:Int
 name:List UInt8
 s:List UInt8
 n:Int
 c:Nd
 deriving DecidableEq
abbrev iL:=List EA
namespace Y
def skip:iL→Nat→Option Nat
 | _,0=>some 0
 | [],_+1=>none
 | n::v,k+1=>if n.many<0 then none else (skip v (k+n.many.toNat)).map (·+1)
theorem gH:∀(v:iL) (k c:Nat),skip v k=some c→k≤c∧c≤v.length
 | v,0,c,h=>by cases v<;>simp[skip]at h<;>subst h<;>simp
 | [],k+1,c,h=>by simp[skip]at h
 | n::v,k+1,c,h=>by
  simp only[skip]at h
  split at h
  ·cases h
  ·cases hs:skip v (k+n.many.toNat) with
   | none=>rw[hs]at h;simp at h
   | some c'=>
    rw[hs]at h
    simp only[map_some,Option.some.injEq]at h
    obtain⟨h1,h2⟩:=gH v _ c' hs
    simp only[length_cons]
    omega
theorem dJ{n:EA}{v:iL}{k c:Nat}(h:skip (n::v) (k+1)=some c):0≤n.many∧∃c',c=c'+1∧skip v (k+n.many.toNat)=some c':=by
 simp only[skip]at h
 split at h
 ·cases h
 ·cases hs:skip v (k+n.many.toNat) with
  | none=>rw[hs]at h;simp at h
  | some c'=>
   rw[hs]at h
   simp only[map_some,Option.some.injEq]at h
   exact⟨by omega,c',h.symm,rfl⟩
def parts:Nat→iL→Option (List iL)
 | 0,_=>some []
 | k+1,v=>match skip v 1 with
  | some c=>(parts k (v.drop c)).map (v.take c::·)
  | none=>none
theorem dW:∀(k:Nat) (v:iL) (ps:List iL),parts k v=some ps→ps.length=k
 | 0,v,ps,h=>by simp[parts]at h;subst h;rfl
 | k+1,v,ps,h=>by
  simp only[parts]at h
  split at h
  ·rename_i c _
   cases hp:parts k (v.drop c) with
   | none=>rw[hp]at h;simp at h
   | some qs=>
    rw[hp]at h
    simp only[map_some,Option.some.injEq]at h
    subst h
    simp[dW k _ qs hp]
  ·cases h
theorem gV{k:Nat}{v:iL}{ps:List iL}(h:parts (k+1) v=some ps):∃c qs,skip v 1=some c∧ps=v.take c::qs∧parts k (v.drop c)=some qs:=by
 simp only[parts]at h
 split at h
 ·rename_i c hc
  cases hp:parts k (v.drop c) with
  | none=>rw[hp]at h;simp at h
  | some qs=>
   rw[hp]at h
   simp only[map_some,Option.some.injEq]at h
   exact⟨c,qs,hc,h.symm,hp⟩
 ·cases h
theorem iY:∀(k:Nat) (v:iL) (ps:List iL),parts k v=some ps→k≤v.length
 | 0,_,_,_=>Nat.zero_le _
 | k+1,v,ps,h=>by
  obtain⟨c,qs,h1,_,h3⟩:=gV h
  have:=gH _ _ _ h1
  have:=iY k _ qs h3
  simp only[List.length_drop]at this
  omega
def gI:iL→iL
 | []=>[]
 | n::r=>{ n with name:=[] }::r
def nameOf:iL→List UInt8
 | []=>[]
 | n::_=>n.name
theorem qc:∀(v:iL) (j k c:Nat),skip v (j+k)=some c→∃c1 c2,skip v j=some c1∧skip (v.drop c1) k=some c2∧c=c1+c2
 | v,0,k,c,h=>⟨0,c,by cases v<;>simp[skip],by simpa using h,by simp⟩
 | [],j+1,k,c,h=>by
  have:j+1+k=(j+k)+1:=by omega
  rw[this]at h
  simp[skip]at h
 | n::v,j+1,k,c,h=>by
  have e:j+1+k=(j+k)+1:=by omega
  rw[e]at h
  obtain⟨hm,c',rfl,h'⟩:=dJ h
  have e2:j+k+n.many.toNat=(j+n.many.toNat)+k:=by omega
  rw[e2]at h'
  obtain⟨c1,c2,h1,h2,rfl⟩:=qc v _ k c' h'
  refine⟨c1+1,c2,?_,?_,by omega⟩
  ·simp only[skip]
   rw[if_neg (by omega),h1];rfl
  ·simpa using h2
theorem rW:∀(v:iL) (j k c1 c2:Nat),skip v j=some c1→skip (v.drop c1) k=some c2→skip v (j+k)=some (c1+c2)
 | v,0,k,c1,c2,h,h2=>by
  have:c1=0:=by cases v<;>simp[skip]at h<;>exact h.symm
  subst this
  simpa using h2
 | [],j+1,k,c1,c2,h,h2=>by simp[skip]at h
 | n::v,j+1,k,c1,c2,h,h2=>by
  obtain⟨hm,c',rfl,h'⟩:=dJ h
  have e:j+1+k=(j+k)+1:=by omega
  rw[e]
  simp only[skip]
  have e2:j+k+n.many.toNat=(j+n.many.toNat)+k:=by omega
  rw[if_neg (by omega),e2,rW v _ k c' c2 h' (by simpa using h2)]
  simp only[map_some,Option.some.injEq]
  omega
theorem rX:∀(v:iL) (k c:Nat),skip v k=some c→skip (v.take c) k=some c
 | v,0,c,h=>by
  have:c=0:=by cases v<;>simp[skip]at h<;>exact h.symm
  subst this
  simp[skip]
 | [],k+1,c,h=>by simp[skip]at h
 | n::v,k+1,c,h=>by
  obtain⟨hm,c',rfl,h'⟩:=dJ h
  simp only[List.take_succ_cons,skip]
  rw[if_neg (by omega),rX v _ c' h'];rfl
theorem gJ:∀(v w:iL) (k c:Nat),skip v k=some c→skip (v++w) k=some c
 | v,w,0,c,h=>by
  have:c=0:=by cases v<;>simp[skip]at h<;>exact h.symm
  subst this
  cases v<;>cases w<;>simp[skip]
 | [],w,k+1,c,h=>by simp[skip]at h
 | n::v,w,k+1,c,h=>by
  obtain⟨hm,c',rfl,h'⟩:=dJ h
  simp only[List.cons_append,skip]
  rw[if_neg (by omega),gJ v w _ c' h'];rfl
theorem AX(v:iL)(k:Nat):skip (gI v) k=skip v k:=by
 cases v with
 | nil=>rfl
 | cons n r=>cases k<;>rfl
theorem kY(v:iL):(gI v).length=v.length:=by cases v<;>rfl
def One(v:iL):Prop:=skip v 1=some v.length
theorem One.gI {v:iL}(h:One v):One (gI v):=by
 unfold One at *
 rw[AX,kY,h]
theorem One.ne {v:iL}(h:One v):v≠[]:=by
 rintro rfl
 simp[One,skip]at h
theorem fE:∀(k:Nat) (v:iL) (c:Nat),skip v k=some c→∃ps,parts k v=some ps∧ps.flatten=v.take c∧∀p∈ps,One p
 | 0,v,c,h=>by
  have:c=0:=by cases v<;>simp[skip]at h<;>exact h.symm
  subst this
  exact⟨[],rfl,by simp,by simp⟩
 | k+1,v,c,h=>by
  have e:k+1=1+k:=by omega
  rw[e]at h
  obtain⟨c1,c2,h1,h2,rfl⟩:=qc v 1 k c h
  obtain⟨ps,hp,hf,ho⟩:=fE k _ c2 h2
  refine⟨v.take c1::ps,by simp[parts,h1,hp],?_,?_⟩
  ·rw[flatten_cons,hf,List.take_add]
  ·intro p hpm
   rcases List.mem_cons.1 hpm with rfl | hpm
   ·have:=rX _ _ _ h1
    have hl:=gH _ _ _ h1
    unfold One
    rw[this,List.length_take]
    congr 1;omega
   ·exact ho p hpm
theorem jg:∀(ps:List iL),(∀p∈ps,One p)→parts ps.length ps.flatten=some ps
 | [],_=>rfl
 | p::ps,h=>by
  have h1:skip (p++ps.flatten) 1=some p.length:=gJ _ _ _ _ (h p (List.mem_cons_self ..))
  have h2:=jg ps λq hq=>h q (List.mem_cons_of_mem _ hq)
  simp only[length_cons,flatten_cons,parts,h1]
  rw[List.drop_left,h2,List.take_left];rfl
theorem mh:∀(ps:List iL),(∀p∈ps,One p)→skip ps.flatten ps.length=some ps.flatten.length
 | [],_=>rfl
 | p::ps,h=>by
  have h1:skip (p++ps.flatten) 1=some p.length:=gJ _ _ _ _ (h p (List.mem_cons_self ..))
  have h2:=mh ps λq hq=>h q (List.mem_cons_of_mem _ hq)
  have:=rW (p++ps.flatten) 1 ps.length p.length ps.flatten.length h1 (by rw[List.drop_left];exact h2)
  simp only[length_cons,flatten_cons,List.length_append]
  rw[Nat.add_comm];exact this
theorem One.parts {n:EA}{r:iL}(h:One (n::r)):0≤n.many∧∃ps,parts n.many.toNat r=some ps∧ps.flatten=r∧∀p∈ps,One p:=by
 obtain⟨hm,c',hc,h'⟩:=dJ (k:=0) h
 simp only[length_cons,Nat.add_right_cancel_iff]at hc
 subst hc
 rw[Nat.zero_add]at h'
 obtain⟨ps,h1,h2,h3⟩:=fE _ _ _ h'
 exact⟨hm,ps,h1,by rw[h2,List.take_length],h3⟩
theorem One.made {n:EA}{ps:List iL}(hn:n.many=ps.length)(h:∀p∈ps,One p):One (n::ps.flatten):=by
 unfold One
 simp only[skip,Nat.zero_add]
 rw[if_neg (by omega),hn,Int.toNat_natCast,mh ps h];rfl
theorem vK{ps:List iL}{p:iL}(h:p∈ps):p.length≤ps.flatten.length:=by
 induction ps with
 | nil=>cases h
 | cons q qs ih=>
  rcases List.mem_cons.1 h with rfl | h
  ·simp
  ·have:=ih h
   simp only[flatten_cons,List.length_append]
   omega
theorem rY:∀(v:iL) (k c i:Nat),skip v k=some c→i<c→∃k' c',skip (v.drop i) (k'+1)=some c'
 | v,0,c,i,h,hi=>by
  have:c=0:=by cases v<;>simp[skip]at h<;>exact h.symm
  omega
 | [],k+1,c,i,h,hi=>by simp[skip]at h
 | n::v,k+1,c,0,h,hi=>⟨k,c,by simpa using h⟩
 | n::v,k+1,c,i+1,h,hi=>by
  obtain⟨hm,c',rfl,h'⟩:=dJ h
  simpa using rY v _ c' i h' (by omega)
theorem One.at {v:iL}(h:One v){i:Nat}(hi:i<v.length):∃c,skip (v.drop i) 1=some c:=by
 obtain⟨k',c',h'⟩:=rY v 1 _ i h hi
 rw[Nat.add_comm]at h'
 obtain⟨c1,_,h1,_,_⟩:=qc _ 1 k' c' h'
 exact⟨c1,h1⟩
theorem One.EU {v:iL}(h:One v){i:Nat}(hi:i<v.length):0≤v[i].many∧∃ps,Lp.Y.parts v[i].many.toNat (v.drop (i+1))=some ps:=by
 obtain⟨c,hc⟩:=h.at hi
 rw[List.drop_eq_getElem_cons hi]at hc
 obtain⟨hm,c',rfl,h'⟩:=dJ (k:=0) hc
 rw[Nat.zero_add]at h'
 obtain⟨ps,h1,_,_⟩:=fE _ _ _ h'
 exact⟨hm,ps,h1⟩
def mZ(L:Nat):iL→Nat→Option Nat
 | _,0=>some 0
 | [],_+1=>none
 | n::v,k+1=>if n.many<0∨(L:Int)<n.many then none else (mZ L v (k+n.many.toNat)).map (·+1)
theorem rV(L:Nat):∀(v:iL) (k c:Nat),mZ L v k=some c→skip v k=some c
 | v,0,c,h=>by cases v<;>simpa[mZ,skip] using h
 | [],k+1,c,h=>by simp[mZ]at h
 | n::v,k+1,c,h=>by
  simp only[mZ]at h
  split at h
  ·cases h
  ·rename_i hn
   cases hs:mZ L v (k+n.many.toNat) with
   | none=>rw[hs]at h;simp at h
   | some c'=>
    rw[hs]at h
    simp only[map_some,Option.some.injEq]at h
    simp only[skip]
    rw[if_neg (by omega),rV L v _ c' hs]
    simpa using h
end Y
end Lp
namespace Lp
open Go
namespace Y
theorem iP:∀(k:Nat) (v w:iL) (ps:List iL),parts k v=some ps→parts k (v++w)=some ps
 | 0,_,_,_,h=>h
 | k+1,v,w,ps,h=>by
  obtain⟨c,qs,h1,rfl,h3⟩:=gV h
  have hc:=gH _ _ _ h1
  have h4:=iP k _ w qs h3
  simp only[parts,gJ v w _ _ h1]
  rw[List.drop_append_of_le_length hc.2,h4,List.take_append_of_le_length hc.2];rfl
theorem AY{p w s:iL}{m:EA}{i:Nat}(h:p.drop i=m::s):(p++w).drop i=m::(s++w):=by
 have hi:i≤p.length:=by
  rcases Nat.le_total i p.length with h' | h'
  ·exact h'
  ·rw[List.drop_eq_nil_of_le h']at h;cases h
 rw[List.drop_append_of_le_length hi,h];rfl
def Good(Q:EA→List iL→Bool)(v:iL):Prop:=∀i n r,v.drop i=n::r→∃ps,parts n.many.toNat r=some ps∧Q n ps=true
def ny(Q:EA→List iL→Bool):iL→Bool
 | []=>true
 | n::r=>(match parts n.many.toNat r with | some ps=>Q n ps | none=>false) && ny Q r
theorem nG{Q:EA→List iL→Bool}:∀v:iL,ny Q v=true↔Good Q v
 | []=>⟨λ_ i n r h=>(by simp at h),λ_=>rfl⟩
 | m::v=>by
  constructor
  ·intro h i n r hd
   simp only[ny,Bool.and_eq_true]at h
   obtain⟨h2,h3⟩:=h
   cases i with
   | zero=>
    simp only[List.drop_zero,List.cons.injEq]at hd
    obtain⟨rfl,rfl⟩:=hd
    cases hp:parts m.many.toNat v with
    | none=>rw[hp]at h2;cases h2
    | some ps=>rw[hp]at h2;exact⟨ps,rfl,h2⟩
   | succ i=>exact (nG v).1 h3 i n r (by simpa using hd)
  ·intro h
   obtain⟨ps,h2,h3⟩:=h 0 m v rfl
   have h4:ny Q v=true:=(nG v).2 λi n r hd=>h (i+1) n r (by simpa using hd)
   simp[ny,h2,h3,h4]
theorem Good.pre {Q:EA→List iL→Bool}{p w:iL}(ho:One p)(h:Good Q (p++w)):Good Q p:=by
 intro i m s hd
 obtain⟨ps,h2,h3⟩:=h i m (s++w) (AY hd)
 have hi:i<p.length:=by
  rcases Nat.lt_or_ge i p.length with h' | h'
  ·exact h'
  ·rw[List.drop_eq_nil_of_le h']at hd;cases hd
 obtain⟨_,qs,hq⟩:=ho.EU hi
 have hd':=hd
 rw[List.drop_eq_getElem_cons hi]at hd'
 obtain⟨e1,e2⟩:=List.cons.inj hd'
 rw[e1,e2]at hq
 have:=iP _ _ w _ hq
 rw[h2]at this
 cases this
 exact⟨ps,hq,h3⟩
theorem Good.suf {Q:EA→List iL→Bool}{p w:iL}(h:Good Q (p++w)):Good Q w:=by
 intro i m s hd
 exact h (p.length+i) m s (by rw[←List.drop_drop,List.drop_left];exact hd)
theorem Good.nI {Q:EA→List iL→Bool}:∀(ps:List iL),(∀p∈ps,One p)→Good Q ps.flatten→∀p∈ps,Good Q p
 | [],_,_,p,hp=>by cases hp
 | q::qs,ho,hg,p,hp=>by
  rw[List.flatten_cons]at hg
  rcases List.mem_cons.1 hp with rfl | hp
  ·exact hg.pre (ho _ (List.mem_cons_self ..))
  ·exact Good.nI qs (λx hx=>ho x (List.mem_cons_of_mem _ hx)) hg.suf p hp
theorem Good.gI {Q:EA→List iL→Bool}(hQ:∀n ps,Q { n with name:=[] } ps=Q n ps){v:iL}(h:Good Q v):Good Q (gI v):=by
 cases v with
 | nil=>exact h
 | cons n r=>
  intro i m s hd
  cases i with
  | zero=>
   simp only[Y.gI,List.drop_zero,List.cons.injEq]at hd
   obtain⟨rfl,rfl⟩:=hd
   obtain⟨ps,h1,h2⟩:=h 0 n r rfl
   exact⟨ps,h1,by rw[hQ];exact h2⟩
  | succ i=>exact h (i+1) m s hd
theorem Good.made {Q:EA→List iL→Bool}:∀(ps:List iL),(∀p∈ps,One p)→(∀p∈ps,Good Q p)→Good Q ps.flatten
 | [],_,_,i,n,r,h=>by simp at h
 | q::qs,ho,hg,i,n,r,h=>by
  rw[List.flatten_cons]at h
  rcases Nat.lt_or_ge i q.length with hi | hi
  ·rw[List.drop_append_of_le_length (by omega),List.drop_eq_getElem_cons hi,List.cons_append]at h
   obtain⟨e1,e2⟩:=List.cons.inj h
   obtain⟨ps,h2,h3⟩:=hg q (List.mem_cons_self ..) i q[i] (q.drop (i+1)) (List.drop_eq_getElem_cons hi)
   rw[e1]at h2 h3
   exact⟨ps,by rw[←e2];exact iP _ _ _ _ h2,h3⟩
  ·have hd:(q++qs.flatten).drop i=qs.flatten.drop (i-q.length):=by
     rw[List.drop_append,List.drop_eq_nil_of_le hi,List.nil_append]
   rw[hd]at h
   exact Good.made qs (λx hx=>ho x (List.mem_cons_of_mem _ hx)) (λx hx=>hg x (List.mem_cons_of_mem _ hx)) _ n r h
theorem Fy(v:iL):nameOf (gI v)=[]:=by cases v<;>rfl
def kindOf:iL→Int
 | []=>0
 | n::_=>n.kind
theorem Wu(v:iL):kindOf (gI v)=kindOf v:=by cases v<;>rfl
end Y
structure Stp where
 part:Bool
 name:List UInt8
 n:Int
 deriving DecidableEq
def Y.partsOf (n:EA)(r:iL):List iL:=(Y.parts n.many.toNat r).getD []
def CO:iL→List iL
 | []=>[]
 | n::r=>if n.kind=1 then [] else (Y.partsOf n r).map Y.gI
def KX:iL→List (List UInt8)
 | []=>[]
 | n::r=>if n.kind=2 then (Y.partsOf n r).map Y.nameOf else []
def Wv(pk:List UInt8→Bool)(t:EA):Bool:=
 if t.kind=0 then t.many==0 && t.s==[] && t.n==0 && t.c==oz
 else if t.kind=1 then decide (0≤t.many) && decide (1≤t.n) && decide (t.n≤31) && t.s==[] && t.c==oz
 else if t.kind=9 then t.many==0 && t.s==[] && abl ⟨t.n,t.c⟩
 else if t.kind=2 then decide (0≤t.many) && (t.n==0 || t.n==1) && t.s==[] && t.c==oz
 else if t.kind=4 then decide (0≤t.many) && t.s==[] && t.n==0 && t.c==oz
 else if t.kind=3∨t.kind=5∨t.kind=6 then t.many==1 && t.s==[] && t.n==0 && t.c==oz
 else if t.kind=7∨t.kind=8 then t.many==1 && pk t.s && t.n==0 && t.c==oz
 else false
def abm(x:EA)(p:iL):Bool:=((Y.kindOf p==9)==(x.kind==1)) && (x.kind==2 || Y.nameOf p==[]) && (x.kind !=2 || utf (Y.nameOf p))
def JJ:List (List UInt8)→Bool
 | []=>true
 | a::l=>(match l with | []=>true | b::_=>Op.bytesLess a b) && JJ l
theorem JK:∀l:List (List UInt8),JJ l=true↔ou l
 | []=>by simp[JJ,ou]
 | [a]=>by simp[JJ,ou]
 | a::b::l=>by
  have ih:=JK (b::l)
  rw[JJ,Bool.and_eq_true,ih]
  constructor
  ·rintro⟨h1,h2⟩
   refine List.pairwise_cons.2 ⟨λx hx=>?_,h2⟩
   rcases List.mem_cons.1 hx with rfl | hx
   ·exact h1
   ·exact kR _ _ _ h1 ((List.pairwise_cons.1 h2).1 x hx)
  ·intro h
   obtain⟨h1,h2⟩:=List.pairwise_cons.1 h
   exact⟨h1 b (by simp),h2⟩
def Te(x:EA)(ps:List iL):Bool:=ps.all (abm x) && (x.kind !=2 || JJ (ps.map Y.nameOf))
def aaw(nm:List UInt8):Nat→List iL→Option (Nat×iL)
 | _,[]=>none
 | o,q::qs=>if Y.nameOf q=nm then some (o,q) else aaw nm (o+q.length) qs
def aax:List Stp→iL→Option Nat
 | [],_=>some 0
 | _::_,[]=>none
 | s::p,x::r=>if x.kind=2∧s.part=false then (match aaw s.name 1 (Y.partsOf x r) with | some (o,q)=>(aax p q).map (o+·) | none=>none) else none
def acH(p:List Stp)(t:iL):Option Nat:=match aax p t with
 | some i=>if (t[i]?.map (·.kind))=some 1 then some i else none
 | none=>none
def aay(ze:List UInt8→List Stp)(x:EA)(ps:List iL):Bool:=if x.kind=7∨x.kind=8 then (match ps with | [p]=>(acH (ze x.s) p).isSome | _=>false) else true
def Uo(pk:List UInt8→Bool)(ze:List UInt8→List Stp)(x:EA)(ps:List iL):Bool:=Wv pk x && Te x ps && aay ze x ps
theorem Ww(pk:List UInt8→Bool)(ze:List UInt8→List Stp)(n:EA)(ps:List iL):Uo pk ze { n with name:=[] } ps=Uo pk ze n ps:=rfl
structure RtT (pk:List UInt8→Bool) (ze:List UInt8→List Stp) (t:iL):Prop where
 one:Y.One t
 name:Y.nameOf t=[]
 kind:Y.kindOf t≠9
 good:Y.Good (Uo pk ze) t
theorem RtT.parts {pk:List UInt8→Bool}{ze:List UInt8→List Stp}{n:EA}{r:iL}(h:RtT pk ze (n::r)):Wv pk n=true∧0≤n.many∧∃ps,Y.parts n.many.toNat r=some ps∧ps.flatten=r∧Te n ps=true∧aay ze n ps=true∧
  (∀p∈ps,Y.One p)∧(∀p∈ps,Y.Good (Uo pk ze) p)∧(n.kind≠1→∀p∈ps,RtT pk ze (Y.gI p)):=by
 obtain⟨hm,ps,h1,h2,h3⟩:=h.one.parts
 obtain⟨qs,hq,hr⟩:=h.good 0 n r rfl
 rw[h1]at hq
 cases hq
 simp only[Uo,Bool.and_eq_true]at hr
 have hg:Y.Good (Uo pk ze) ps.flatten:=by rw[h2];exact (show Y.Good _ ([n]++r) from h.good).suf
 have Qz:=Y.Good.nI ps h3 hg
 refine⟨hr.1.1,hm,ps,h1,h2,hr.1.2,hr.2,h3,Qz,λhk p hp=>⟨(h3 p hp).gI,Y.Fy p,?_,(Qz p hp).gI (Ww pk ze)⟩⟩
 rw[Y.Wu]
 have:=hr.1.2
 simp only[Te,Bool.and_eq_true,List.all_eq_true]at this
 have h4:=this.1 p hp
 simp only[abm,Bool.and_eq_true]at h4
 have h5:=h4.1.1
 intro e
 rw[e]at h5
 simp[hk]at h5
end Lp
namespace Lp
open Go
variable {pk:List UInt8→Bool}{ze:List UInt8→List Stp}
theorem CP{n:EA}{r:iL}{ps:List iL}(h:Y.parts n.many.toNat r=some ps):Y.partsOf n r=ps:=by simp[Y.partsOf,h]
theorem RtT.part {n:EA}{r:iL}(h:RtT pk ze (n::r)):∀p∈CO (n::r),RtT pk ze p∧p.length≤r.length:=by
 intro p hp
 by_cases hk:n.kind=1
 ·simp only[CO,hk,if_true]at hp
  cases hp
 ·simp only[CO,hk,if_false]at hp
  obtain⟨_,_,ps,h3,h4,_,_,_,_,h8⟩:=h.parts
  rw[CP h3]at hp
  obtain⟨q,hq,rfl⟩:=List.mem_map.1 hp
  refine⟨h8 hk q hq,?_⟩
  have hl:∀qs:List iL,q∈qs→q.length≤qs.flatten.length:=by
   intro qs
   induction qs with
   | nil=>intro h;cases h
   | cons a t ih=>
    intro h
    rcases List.mem_cons.1 h with rfl | h
    ·simp
    ·have:=ih h;simp only[List.flatten_cons,List.length_append];omega
  have:=hl ps hq
  rw[h4]at this
  rw[Y.kY];exact this
theorem RtT.names {n:EA}{r:iL}(h:RtT pk ze (n::r))(hk:n.kind=2):dY (KX (n::r)) (CO (n::r)).length=true∧ou (KX (n::r)):=by
 obtain⟨_,_,ps,h3,_,h5,_,_,_,_⟩:=h.parts
 simp only[Te,hk,Bool.and_eq_true,List.all_eq_true]at h5
 have hr:ou (ps.map Y.nameOf):=(JK _).1 (by simpa using h5.2)
 have e1:KX (n::r)=ps.map Y.nameOf:=by simp only[KX,hk,if_true,CP h3]
 have e2:CO (n::r)=ps.map Y.gI:=by simp only[CO,hk,CP h3];rfl
 rw[e1,e2]
 refine⟨lS.2 ⟨by simp,eZ hr,λx hx=>?_⟩,hr⟩
 obtain⟨p,hp,rfl⟩:=List.mem_map.1 hx
 have:=h5.1 p hp
 simp only[abm,hk,Bool.and_eq_true]at this
 simpa using this.2
def Ns(t:EA)(ps:List iL):iL:={ t with many:=ps.length }::ps.flatten
end Lp
namespace Lp
open Go
structure acI where
 blocks:List Nat
 holds:Array Go.Obj→Prop
 keep:∀{h h':Array Go.Obj},(∀b∈blocks,h'[b]?=h[b]?)→holds h→holds h'
 lt:∀{h:Array Go.Obj},holds h→∀b∈blocks,b<h.size
theorem pU{w w':World}{b off:Nat}(h:w'.heap[b]?=w.heap[b]?):w'.cell? ⟨b,off,none⟩=w.cell? ⟨b,off,none⟩:=by
 simp only[World.cell?,h]
theorem Tf{w:World}{b off:Nat}{v:Value}(h:w.cell? ⟨b,off,none⟩=some v):b<w.heap.size:=by
 unfold World.cell? at h
 cases hx:w.heap[b]? with
 | none=>simp[hx]at h
 | some x=>exact (Array.getElem?_eq_some_iff.1 hx).1
def abn(g3 g4:Nat):acI where
 blocks:=[g3,g4]
 holds h:=∀w:World,w.heap=h→Lib.Utf8Tabs g3 g4 w
 keep:=by
  intro h h' hk hu w' hw'
  have h0:=hu { w' with heap:=h } rfl
  have e3:w'.heap[g3]?=({ w' with heap:=h }:World).heap[g3]?:=by rw[hw'];exact hk g3 (by simp)
  have e4:w'.heap[g4]?=({ w' with heap:=h }:World).heap[g4]?:=by rw[hw'];exact hk g4 (by simp)
  refine⟨λc hc=>?_,λi hi=>⟨?_,?_⟩⟩
  ·rw[pU e3];exact h0.1 c hc
  ·rw[pU e4];exact (h0.2 i hi).1
  ·rw[pU e4];exact (h0.2 i hi).2
 lt:=by
  intro h hu b hb
  have h0:=hu { (default:World) with heap:=h } rfl
  simp only[List.mem_cons,List.not_mem_nil,or_false]at hb
  rcases hb with rfl | rfl
  ·exact Tf (w:={ (default:World) with heap:=h }) (h0.1 0 (by decide))
  ·exact Tf (w:={ (default:World) with heap:=h }) (h0.2 0 (by decide)).1
end Lp
namespace Lp
def mr:acI:=abn 0 1
end Lp
namespace Lp
open Go
inductive PV where
 | dead
 | int (k:IntKind) (n:Int)
 | bool (b:Bool)
 | str (s:List UInt8)
 | A_
 | CQ
 | FJ
 | FK
 | sl (sz:Nat) (xs:List PV) (q:Option Bool)
 | agg (cs:List PV)
 | bY (cs:List PV)
 | addr (x:PV)
 | fn (f:FuncId) (first cap:List PV)
 | aS (k ver:Nat)
 | bf (k ver i f:Nat)
 | qI (l:Nat)
 | cl (sz:Nat) (xs:List PV)
 | fM (k ver:Nat)
 deriving Inhabited
def PV.cells:PV→List PV
 | .agg cs=>cs
 | x=>[x]
def PV.isAgg:PV→Bool
 | .agg _=>true
 | _=>false
def PV.ref:PV→Bool
 | .aS .. | .bf .. | .fM ..=>true
 | _=>false
def PV.pure:PV→Bool
 | .aS .. | .bf .. | .fM ..=>false
 | .fn _ a c=>a.all (λp=>!p.ref) && c.all (λp=>!p.ref)
 | .bY cs | .agg cs=>cs.all (λp=>!p.ref)
 | _=>true
def PV.mD:PV→Bool
 | .dead | .agg _ | .bY _ | .cl ..=>false
 | _=>true
structure Obj where
 ty:TypeId
 sz:Nat
 xs:List PV
 live:Bool
 ver:Nat
 deriving Inhabited
structure St where
 tmps:List PV
 objs:List Obj
 deriving Inhabited
inductive cu (w:World) (ok:Nat→Prop):PV→Value→Prop
 | dead (v:Value):cu w ok .dead v
 | int (k:IntKind) (n:Int):cu w ok (.int k n) (.int k n)
 | bool (b:Bool):cu w ok (.bool b) (.bool b)
 | str (s:List UInt8):cu w ok (.str s) (.string ⟨⟨s⟩⟩)
 | A_:cu w ok .A_ (.pointer none)
 | CQ:cu w ok .CQ .nilFunc
 | FJ:cu w ok .FJ .nilIface
 | FK:cu w ok .FK (.map none)
 | qI (l:Nat):cu w ok (.qI l) (.func (.yield l) #[] #[])
 | slnil (sz:Nat) (q:Option Bool) (hq:q≠some false):cu w ok (.sl sz [] q) (.slice none 0 0)
 | FL (sz:Nat) (q:Option Bool) (hq:q≠some true) (a:Addr) (cap:Nat) (hcap:cap≤maxLen):cu w ok (.sl sz [] q) (.slice (some a) 0 cap)
 | sl (sz:Nat) (xs:List PV) (q:Option Bool) (hq:q≠some true) (b off cap:Nat) (vs:Nat→Nat→Value) (hok:xs≠[]→ok b∧b<w.heap.size) (hlen:xs.length≤cap) (hcap:cap≤maxLen)
     (hsz:∀(i:Nat) (x:PV),xs[i]?=some x→x.cells.length=sz)
     (hcell:∀(i:Nat) (x:PV) (j:Nat) (p:PV),xs[i]?=some x→x.cells[j]?=some p→w.cell? ⟨b,off+i*sz+j,none⟩=some (vs i j))
     (hrep:∀(i:Nat) (x:PV) (j:Nat) (p:PV),xs[i]?=some x→x.cells[j]?=some p→cu w ok p (vs i j)) :
     cu w ok (.sl sz xs q) (.slice (some ⟨b,off,none⟩) xs.length cap)
 | cl (sz:Nat) (xs:List PV) (v:Value) (h:cu w ok (.sl sz xs none) v) (hc:∀a l c,v=.slice a l c→c=l):cu w ok (.cl sz xs) v
 | agg (cs:List PV) (vs:List Value) (hl:cs.length=vs.length) (h:∀(i:Nat) (p:PV) (v:Value),cs[i]?=some p→vs[i]?=some v→cu w ok p v):cu w ok (.agg cs) (.agg ⟨vs⟩)
 | bY (cs:List PV) (vs:List Value) (hl:cs.length=vs.length) (h:∀(i:Nat) (p:PV) (v:Value),cs[i]?=some p→vs[i]?=some v→cu w ok p v):cu w ok (.bY cs) (.tuple ⟨vs⟩)
 | addr (x:PV) (b off:Nat) (vs:Nat→Value) (hok:ok b∧b<w.heap.size)
   (hcell:∀(j:Nat) (p:PV),x.cells[j]?=some p→w.cell? ⟨b,off+j,none⟩=some (vs j))
   (hrep:∀(j:Nat) (p:PV),x.cells[j]?=some p→cu w ok p (vs j)):cu w ok (.addr x) (.pointer (some ⟨b,off,none⟩))
 | fn (f:FuncId) (a c:List PV) (va vc:List Value) (hla:a.length=va.length) (hlc:c.length=vc.length)
     (ha:∀(i:Nat) (p:PV) (v:Value),a[i]?=some p→va[i]?=some v→cu w ok p v) (hc:∀(i:Nat) (p:PV) (v:Value),c[i]?=some p→vc[i]?=some v→cu w ok p v) :
     cu w ok (.fn f a c) (.func (.func f) ⟨va⟩ ⟨vc⟩)
theorem cell_of_heap{w w':World}{b off:Nat}{v:Value}(h:w.cell? ⟨b,off,none⟩=some v)(hb:∀x,w.heap[b]?=some x→(∃c t y,x=.cells c t y)→w'.heap[b]?=some x) :
  w'.cell? ⟨b,off,none⟩=some v:=by
 unfold World.cell? at *
 cases hx:w.heap[b]? with
 | none=>simp[hx]at h
 | some x=>
  cases x with
  | cells c t y=>rw[hb _ hx ⟨c,t,y,rfl⟩];simpa[hx] using h
  | _=>simp[hx]at h
theorem cu.qP {w w':World}{ok ok':Nat→Prop}{p:PV}{v:Value}(h:cu w ok p v)(hs:w.heap.size≤w'.heap.size)(hok:∀b,b<w.heap.size→ok b→ok' b)(hw:∀b x,ok b→w.heap[b]?=some x→(∃c t y,x=Go.Obj.cells c t y)→w'.heap[b]?=some x) :
  cu w' ok' p v:=by
 induction h with
 | dead v=>exact .dead v
 | int k n=>exact .int k n
 | bool b=>exact .bool b
 | str s=>exact .str s
 | A_=>exact .A_
 | CQ=>exact .CQ
 | FJ=>exact .FJ
 | FK=>exact .FK
 | qI l=>exact .qI l
 | slnil sz q hq=>exact .slnil sz q hq
 | FL sz q hq a cap hc=>exact .FL sz q hq a cap hc
 | sl sz xs q hq b off cap vs hokb hlen hcap hsz hcell hrep ih=>
  exact .sl sz xs q hq b off cap vs (λhn=>⟨hok b (hokb hn).2 (hokb hn).1,Nat.lt_of_lt_of_le (hokb hn).2 hs⟩) hlen hcap hsz
   (λi x j p hx hp=>cell_of_heap (hcell i x j p hx hp) (λy hy hc=>hw b y (hokb (by rintro rfl;simp at hx)).1 hy hc)) ih
 | cl sz xs v h hc ih=>exact .cl sz xs v ih hc
 | agg cs vs hl h ih=>exact .agg cs vs hl ih
 | bY cs vs hl h ih=>exact .bY cs vs hl ih
 | addr x b off vs hokb hcell hrep ih=>
  exact .addr x b off vs ⟨hok b hokb.2 hokb.1,Nat.lt_of_lt_of_le hokb.2 hs⟩ (λj p hp=>cell_of_heap (hcell j p hp) (λy hy hc=>hw b y hokb.1 hy hc)) ih
 | fn f a c va vc hla hlc ha hc iha ihc=>exact .fn f a c va vc hla hlc iha ihc
theorem cu.mono {w w':World}{ok ok':Nat→Prop}{p:PV}{v:Value}(h:cu w ok p v)(hs:w.heap.size≤w'.heap.size)(hok:∀b,b<w.heap.size→ok b→ok' b)(hw:∀b x,ok b→w.heap[b]?=some x→w'.heap[b]?=some x) :
  cu w' ok' p v:=
 h.qP hs hok (λb x hb hx _=>hw b x hb hx)
def MT:TypeId:=1000000007
def mapOf(c:Array Value):Array MapEntry:=((List.range (c.size / 2)).map λi=>{ key:=c.getD (2*i) undef,val:=c.getD (2*i+1) undef,born:=i }).toArray
def FM:Value→Nat
 | .int _ n=>n.toNat
 | _=>0
def abo:Option Value→Option Nat
 | some (.map m)=>m
 | _=>none
def Nt(c:Array Value):Go.Obj:=.mapIter (abo c[0]?) (FM (c.getD 1 undef)) ((c.toList.drop 2).map FM).toArray (FM (c.getD 1 undef))
def m_(ty:TypeId)(sz:Nat)(c:Array Value):Go.Obj:=if ty=MT then (if sz=2 then .map (mapOf c) (c.size / 2) else Nt c) else .cells c ty (0,0)
def Nu(sz g:Nat):Value:=if sz=2 then .map (some g) else .pointer (some ⟨g,0,none⟩)
theorem jv{ty:TypeId}(h:ty≠MT)(sz:Nat)(c:Array Value):m_ ty sz c=.cells c ty (0,0):=if_neg h
def fits(o:Obj)(c:Array Value):Prop:=o.xs.length*o.sz≤c.size∧(o.ty=MT→c.size=o.xs.length*o.sz)
theorem qQ{o:Obj}{c:Array Value}(h:o.ty≠MT)(hl:o.xs.length*o.sz≤c.size):fits o c:=⟨hl,λe=>absurd e h⟩
def vL(w:World)(blk:Nat→Option Nat)(k:Nat)(o:Obj)(v:Value):Prop:=
 match blk k with
 | none=>v=.slice none 0 0∧o.xs=[]
 | some g=>∃cap c,v=.slice (some ⟨g,0,none⟩) o.xs.length cap∧w.heap[g]?=some (.cells c o.ty (0,0))∧o.xs.length≤cap∧cap≤maxLen∧c.size=cap*o.sz
def aV(w:World)(ok:Nat→Prop)(objs:List Obj)(blk:Nat→Option Nat):PV→Value→Prop
 | .aS k ver,v=>v.oneCell'=true∧∃o,objs[k]?=some o∧ver≤o.ver∧(o.live=true→o.ver=ver→o.ty≠MT∧vL w blk k o v)
 | .bf k ver i f,v=>v.oneCell'=true∧∃o,objs[k]?=some o∧ver≤o.ver∧(o.live=true→o.ver=ver→o.ty≠MT∧∃g,blk k=some g∧v=.pointer (some ⟨g,i*o.sz+f,none⟩))
 | .fM k ver,v=>v.oneCell'=true∧∃o,objs[k]?=some o∧ver≤o.ver∧(o.live=true→o.ver=ver→o.ty=MT∧∃g,blk k=some g∧v=Nu o.sz g)
 | p,v=>cu w ok p v
def bG(R:PV→Value→Prop)(cs:List PV)(vs:List Value):Prop:=
 cs.length=vs.length∧∀(i:Nat) (p:PV) (v:Value),cs[i]?=some p→vs[i]?=some v→R p v
def aO(w:World)(ok:Nat→Prop)(objs:List Obj)(blk:Nat→Option Nat):PV→Value→Prop
 | .fn f a c,v=>∃va vc,v=.func (.func f) ⟨va⟩ ⟨vc⟩∧bG (aV w ok objs blk) a va∧bG (aV w ok objs blk) c vc
 | .bY cs,v=>∃vs,v=.tuple ⟨vs⟩∧bG (aV w ok objs blk) cs vs
 | .agg cs,v=>∃vs,v=.agg ⟨vs⟩∧bG (aV w ok objs blk) cs vs
 | p,v=>aV w ok objs blk p v
def aK(objs:List Obj)(blk:Nat→Option Nat)(b:Nat):Prop:=∀k o,objs[k]?=some o→o.live=true→blk k≠some b
def aZ(base:Nat→Prop)(objs:List Obj)(blk:Nat→Option Nat)(b:Nat):Prop:=base b∧aK objs blk b
def bB(w:World)(ok:Nat→Prop)(objs:List Obj)(blk:Nat→Option Nat)(k:Nat)(o:Obj):Prop:=
 match blk k with
 | none=>o.xs=[]
 | some g=>∃c,w.heap[g]?=some (m_ o.ty o.sz c)∧fits o c∧
   ∀i x,o.xs[i]?=some x→x.cells.length=o.sz∧∀j p,x.cells[j]?=some p→∃v,c[i*o.sz+j]?=some v∧aV w ok objs blk p v
structure cO (base ah:Nat→Prop) (objs:List Obj) (blk:Nat→Option Nat) (w:World):Prop where
 ob:∀k o,objs[k]?=some o→o.live=true→bB w (aZ base objs blk) objs blk k o
 zV:∀k k' o o' g,k≠k'→objs[k]?=some o→o.live=true→objs[k']?=some o'→o'.live=true→blk k=some g→blk k'≠some g
 np:∀k o g,objs[k]?=some o→o.live=true→blk k=some g→¬ ah g
structure Wz where
 heap:Array Go.Obj
 xs:List (PV×Value)
 nx:Nat
 out:World
def QB(ah:Nat→Prop)(w0:Wz):Prop:=mr.holds w0.heap∧∀b∈mr.blocks,ah b
def Sm(w w':World):Prop:=w'.os=w.os∧w'.output=w.output
theorem Sm.refl (w:World):Sm w w:=⟨rfl,rfl⟩
theorem Sm.trans {w w' w'':World}(h:Sm w w')(h':Sm w' w''):Sm w w'':=⟨h'.1.trans h.1,h'.2.trans h.2⟩
def PV.mE (n:Nat):PV→Bool
 | .aS k _=>decide (k<n)
 | .bf k _ _ _=>decide (k<n)
 | .fM k _=>decide (k<n)
 | _=>true
def PV.lt (n:Nat):PV→Bool
 | .fn _ a c=>a.all (PV.mE n) && c.all (PV.mE n)
 | .bY cs | .agg cs=>cs.all (PV.mE n)
 | p=>p.mE n
def JL(w:World)(ok:Nat→Prop)(ds:List Deferred):Prop:=
 ∃Ds:List Nat,ds=Ds.map (λb=>({ target:=.collected b,args:=#[] }:Deferred))∧Ds.Nodup∧∀b∈Ds,w.heap[b]?=some (.deferred (some []))∧ok b
theorem JL.mono {w w':World}{ok ok':Nat→Prop}{ds:List Deferred}(h:JL w ok ds)(hok:∀b,b<w.heap.size→ok b→ok' b)(hw:∀b x,ok b→w.heap[b]?=some x→w'.heap[b]?=some x):JL w' ok' ds:=by
 obtain⟨Ds,h1,h2,h3⟩:=h
 exact⟨Ds,h1,h2,λb hb=>⟨hw b _ (h3 b hb).2 (h3 b hb).1,hok b (Array.getElem?_eq_some_iff.1 (h3 b hb).1).1 (h3 b hb).2⟩⟩
theorem JL.nil (w:World)(ok:Nat→Prop):JL w ok []:=⟨[],rfl,List.nodup_nil,λ_ h=>by simp at h⟩
structure Rel (base ah:Nat→Prop) (w0:Wz) (S:St) (blk:Nat→Option Nat) (a:Act) (w:World):Prop where
 oC:JL w (λb=>aZ base S.objs blk b∧¬ ah b) a.defers
 EB:a.tmps.size=S.tmps.length
 tm:∀t p,S.tmps[t]?=some p→aO w (aZ base S.objs blk) S.objs blk p (a.tmps.getD t undef)
 objs:cO base ah S.objs blk w
 pr:∀b,ah b→b<w0.heap.size
 fr:∀b,ah b→w.heap[b]?=w0.heap[b]?
 gr:w0.heap.size≤w.heap.size
 pb:∀b,¬ ah b→base b
 ext:∀x∈w0.xs,aO w (aZ base S.objs blk) S.objs blk x.1 x.2
 yQ:∀x∈w0.xs,x.1.lt w0.nx=true
 sm:Sm w0.out w
 gl:QB ah w0
theorem Rel.bs {base ah:Nat→Prop}{w0:Wz}{S:St}{blk:Nat→Option Nat}{a:Act}{w:World}(R:Rel base ah w0 S blk a w)(b:Nat)(h:w0.heap.size≤b):base b:=
 R.pb b λhp=>absurd (R.pr b hp) (by omega)
theorem Rel.kZ {base ah:Nat→Prop}{w0:Wz}{S:St}{blk:Nat→Option Nat}{a:Act}{w:World}(R:Rel base ah w0 S blk a w):mr.holds w.heap:=
 mr.keep (λb hb=>R.fr b (R.gl.2 b hb)) R.gl.1
theorem aV.aI {w:World}{ok:Nat→Prop}{objs:List Obj}{blk:Nat→Option Nat}{p:PV}{v:Value}(h:cu w ok p v):aV w ok objs blk p v:=by
 cases p<;>first | exact h | (cases h)
theorem aV.zo {w:World}{ok:Nat→Prop}{objs:List Obj}{blk:Nat→Option Nat}{p:PV}{v:Value}(h:aV w ok objs blk p v)(hp:p.ref=false):cu w ok p v:=by
 cases p<;>first | exact h | (simp[PV.ref]at hp)
theorem aO.dS {w:World}{ok:Nat→Prop}{objs:List Obj}{blk:Nat→Option Nat}{p:PV}{v:Value}(h:aV w ok objs blk p v):aO w ok objs blk p v:=by
 cases p<;>first
  | exact h
  | (rename_i f a c
     have h':cu w ok (.fn f a c) v:=h
     cases h' with
     | fn _ _ _ va vc hla hlc ha hc=>exact⟨va,vc,rfl,⟨hla,λi p v h1 h2=>.aI (ha i p v h1 h2)⟩,⟨hlc,λi p v h1 h2=>.aI (hc i p v h1 h2)⟩⟩)
  | (rename_i cs
     have h':cu w ok (.bY cs) v:=h
     cases h' with
     | bY _ vs hl hh=>exact⟨vs,rfl,hl,λi p v h1 h2=>.aI (hh i p v h1 h2)⟩)
  | (rename_i cs
     have h':cu w ok (.agg cs) v:=h
     cases h' with
     | agg _ vs hl hh=>exact⟨vs,rfl,hl,λi p v h1 h2=>.aI (hh i p v h1 h2)⟩)
theorem aO.aI {w:World}{ok:Nat→Prop}{objs:List Obj}{blk:Nat→Option Nat}{p:PV}{v:Value}(h:cu w ok p v):aO w ok objs blk p v:=.dS (.aI h)
theorem pV{cs:List PV}(h:cs.all (λp=>!p.ref)=true){i:Nat}{p:PV}(hi:cs[i]?=some p):p.ref=false:=by
 have:=List.all_eq_true.1 h p (List.mem_of_getElem? hi)
 simpa using this
theorem aO.zo {w:World}{ok:Nat→Prop}{objs:List Obj}{blk:Nat→Option Nat}{p:PV}{v:Value}(h:aO w ok objs blk p v)(hp:p.pure=true):cu w ok p v:=by
 cases p<;>first
  | exact h
  | (simp[PV.pure]at hp;done)
  | (obtain⟨va,vc,rfl,h1,h2⟩:=h
     simp only[PV.pure,Bool.and_eq_true]at hp
     exact .fn _ _ _ va vc h1.1 h2.1 (λi p v a b=>(h1.2 i p v a b).zo (pV hp.1 a)) (λi p v a b=>(h2.2 i p v a b).zo (pV hp.2 a)))
  | (obtain⟨vs,rfl,h1⟩:=h
     simp only[PV.pure]at hp
     first
      | exact .bY _ vs h1.1 (λi p v a b=>(h1.2 i p v a b).zo (pV hp a))
      | exact .agg _ vs h1.1 (λi p v a b=>(h1.2 i p v a b).zo (pV hp a)))
def nM(w w':World)(objs ai:List Obj)(blk ak:Nat→Option Nat):Prop:=
 ∀k o,objs[k]?=some o→∃o',ai[k]?=some o'∧o.ver≤o'.ver∧(o'.live=true→o'.ver=o.ver→o.live=true∧ak k=blk k∧o'.sz=o.sz∧o'.ty=o.ty∧(o.ty≠MT→o'.xs.length=o.xs.length)∧
  ∀g c,blk k=some g→w.heap[g]?=some (.cells c o.ty (0,0))→∃c',w'.heap[g]?=some (.cells c' o.ty (0,0))∧c'.size=c.size)
theorem aV.qP {w w':World}{ok ok':Nat→Prop}{objs ai:List Obj}{blk ak:Nat→Option Nat}{p:PV}{v:Value}(h:aV w ok objs blk p v)
  (hs:w.heap.size≤w'.heap.size) (hok:∀b,b<w.heap.size→ok b→ok' b) (hw:∀b x,ok b→w.heap[b]?=some x→(∃c t y,x=Go.Obj.cells c t y)→w'.heap[b]?=some x) (ho:nM w w' objs ai blk ak) :
  aV w' ok' ai ak p v:=by
 cases p with
 | aS k ver=>
  obtain⟨h0,o,h1,h2,h3⟩:=h
  obtain⟨o',g1,g2,g3⟩:=ho k o h1
  refine⟨h0,o',g1,by omega,λhl hv=>?_⟩
  obtain⟨e0,e1,e2,et,e3,e4⟩:=g3 hl (by omega)
  obtain⟨hty,hh⟩:=h3 e0 (by omega)
  have e3:=e3 hty
  refine⟨by rw[et];exact hty,?_⟩
  unfold vL at hh ⊢
  rw[e1]
  cases hb:blk k with
  | none=>rw[hb]at hh;exact⟨hh.1,List.eq_nil_of_length_eq_zero (by rw[e3,hh.2];rfl)⟩
  | some g=>
   rw[hb]at hh
   obtain⟨cap,c,x1,x2,x3,x4,x5⟩:=hh
   obtain⟨c',y1,y2⟩:=e4 g c hb x2
   exact⟨cap,c',by rw[e3];exact x1,by rw[et];exact y1,by rw[e3];exact x3,x4,by rw[y2,e2];exact x5⟩
 | bf k ver i f=>
  obtain⟨h0,o,h1,h2,h3⟩:=h
  obtain⟨o',g1,g2,g3⟩:=ho k o h1
  refine⟨h0,o',g1,by omega,λhl hv=>?_⟩
  obtain⟨e0,e1,e2,et,e3,e4⟩:=g3 hl (by omega)
  obtain⟨hty,g,y1,y2⟩:=h3 e0 (by omega)
  exact⟨by rw[et];exact hty,g,by rw[e1];exact y1,by rw[e2];exact y2⟩
 | fM k ver=>
  obtain⟨h0,o,h1,h2,h3⟩:=h
  obtain⟨o',g1,g2,g3⟩:=ho k o h1
  refine⟨h0,o',g1,by omega,λhl hv=>?_⟩
  obtain⟨e0,e1,e2,et,e3,e4⟩:=g3 hl (by omega)
  obtain⟨hty,g,y1,y2⟩:=h3 e0 (by omega)
  exact⟨by rw[et];exact hty,g,by rw[e1];exact y1,by rw[e2];exact y2⟩
 | _=>exact cu.qP h hs hok hw
theorem aV.mono {w w':World}{ok ok':Nat→Prop}{objs ai:List Obj}{blk ak:Nat→Option Nat}{p:PV}{v:Value}(h:aV w ok objs blk p v)
  (hs:w.heap.size≤w'.heap.size) (hok:∀b,b<w.heap.size→ok b→ok' b) (hw:∀b x,ok b→w.heap[b]?=some x→w'.heap[b]?=some x) (ho:nM w w' objs ai blk ak) :
  aV w' ok' ai ak p v:=
 h.qP hs hok (λb x hb hx _=>hw b x hb hx) ho
theorem bG.mono {R R':PV→Value→Prop}{cs:List PV}{vs:List Value}(h:bG R cs vs)(hr:∀p v,R p v→R' p v):bG R' cs vs:=
 ⟨h.1,λi p v a b=>hr p v (h.2 i p v a b)⟩
theorem aO.qP {w w':World}{ok ok':Nat→Prop}{objs ai:List Obj}{blk ak:Nat→Option Nat}{p:PV}{v:Value}(h:aO w ok objs blk p v)
  (hs:w.heap.size≤w'.heap.size) (hok:∀b,b<w.heap.size→ok b→ok' b) (hw:∀b x,ok b→w.heap[b]?=some x→(∃c t y,x=Go.Obj.cells c t y)→w'.heap[b]?=some x) (ho:nM w w' objs ai blk ak) :
  aO w' ok' ai ak p v:=by
 have hS:∀p v,aV w ok objs blk p v→aV w' ok' ai ak p v:=λp v h=>h.qP hs hok hw ho
 cases p with
 | fn f a c=>obtain⟨va,vc,rfl,h1,h2⟩:=h;exact⟨va,vc,rfl,h1.mono hS,h2.mono hS⟩
 | bY cs=>obtain⟨vs,rfl,h1⟩:=h;exact⟨vs,rfl,h1.mono hS⟩
 | agg cs=>obtain⟨vs,rfl,h1⟩:=h;exact⟨vs,rfl,h1.mono hS⟩
 | aS k ver=>exact hS (.aS k ver) v h
 | bf k ver i f=>exact hS (.bf k ver i f) v h
 | fM k ver=>exact hS (.fM k ver) v h
 | _=>exact cu.qP h hs hok hw
theorem aO.mono {w w':World}{ok ok':Nat→Prop}{objs ai:List Obj}{blk ak:Nat→Option Nat}{p:PV}{v:Value}(h:aO w ok objs blk p v)
  (hs:w.heap.size≤w'.heap.size) (hok:∀b,b<w.heap.size→ok b→ok' b) (hw:∀b x,ok b→w.heap[b]?=some x→w'.heap[b]?=some x) (ho:nM w w' objs ai blk ak) :
  aO w' ok' ai ak p v:=
 h.qP hs hok (λb x hb hx _=>hw b x hb hx) ho
def kr(w w':World):Prop:=w.heap.size≤w'.heap.size∧(∀(b:Nat) x,w.heap[b]?=some x→w'.heap[b]?=some x)∧Sm w w'
theorem kr.refl (w:World):kr w w:=⟨Nat.le_refl _,λ_ _ h=>h,.refl w⟩
theorem kr.trans {w w' w'':World}(h:kr w w')(h':kr w' w''):kr w w'':=⟨Nat.le_trans h.1 h'.1,λb x e=>h'.2.1 b x (h.2.1 b x e),h.2.2.trans h'.2.2⟩
theorem kr.same {w w':World}(h:w'.heap=w.heap)(hs:Sm w w':=by exact⟨rfl,rfl⟩):kr w w':=by unfold kr;rw[h];exact⟨Nat.le_refl _,λ_ _ e=>e,hs⟩
theorem kr.push {w w':World}{o:Go.Obj}(h:w'.heap=w.heap.push o)(hs:Sm w w':=by exact⟨rfl,rfl⟩):kr w w':=by
 unfold kr;rw[h]
 refine⟨by simp,λb x e=>?_,hs⟩
 have hb:b<w.heap.size:=(Array.getElem?_eq_some_iff.1 e).1
 rw[Array.getElem?_push]
 split
 ·omega
 ·exact e
theorem nM.grew {w w':World}(h:kr w w')(objs:List Obj)(blk:Nat→Option Nat):nM w w' objs objs blk blk:=
 λ_ o ho=>⟨o,ho,Nat.le_refl _,λhl _=>⟨hl,rfl,rfl,rfl,λ_=>rfl,λg c _ hc=>⟨c,h.2.1 g _ hc,rfl⟩⟩⟩
theorem cO.grew {base ah:Nat→Prop}{objs:List Obj}{blk:Nat→Option Nat}{w w':World}(h:cO base ah objs blk w)(hg:kr w w'):cO base ah objs blk w':=by
 refine⟨λk o h1 h2=>?_,h.zV,h.np⟩
 have hh:=h.ob k o h1 h2
 unfold bB at hh ⊢
 cases hb:blk k with
 | none=>rw[hb]at hh;exact hh
 | some g=>
  rw[hb]at hh
  obtain⟨c,x1,x2,x3⟩:=hh
  refine⟨c,hg.2.1 g _ x1,x2,λi x hx=>⟨(x3 i x hx).1,λj p hp=>?_⟩⟩
  obtain⟨v,y1,y2⟩:=(x3 i x hx).2 j p hp
  exact⟨v,y1,y2.mono hg.1 (λ_ _ h=>h) (λb x _ h=>hg.2.1 b x h) (.grew hg objs blk)⟩
theorem Rel.grew {base ah:Nat→Prop}{w0:Wz}{S:St}{blk:Nat→Option Nat}{a:Act}{w w':World}(h:Rel base ah w0 S blk a w)(hg:kr w w'):Rel base ah w0 S blk a w':=by
 refine⟨h.oC.mono (λ_ _ h=>h) (λb x _ h=>hg.2.1 b x h),h.EB,λt p hp=>(h.tm t p hp).mono hg.1 (λ_ _ h=>h) (λb x _ h=>hg.2.1 b x h) (.grew hg _ _),h.objs.grew hg,h.pr,λb hb=>?_,Nat.le_trans h.gr hg.1,h.pb,λx hx=>(h.ext x hx).mono hg.1 (λ_ _ h=>h) (λb x _ h=>hg.2.1 b x h) (.grew hg _ _),h.yQ,h.sm.trans hg.2.2,h.gl⟩
 have h1:=h.fr b hb
 have h2:=h.pr b hb
 cases hx:w0.heap[b]? with
 | none=>rw[Array.getElem?_eq_none_iff]at hx;omega
 | some x=>rw[hx]at h1;rw[hg.2.1 b x h1]
def St.put (S:St)(dst:Option Tmp)(p:PV):St:=
 match dst with
 | some d=>{ S with tmps:=S.tmps.set d p }
 | none=>S
theorem qd(xs:Array Value)(d t:Nat)(v u:Value):(xs.setIfInBounds d v).getD t u=if d=t∧d<xs.size then v else xs.getD t u:=by
 rw[Array.getD_eq_getD_getElem?,Array.getElem?_setIfInBounds,Array.getD_eq_getD_getElem?]
 by_cases h:d=t
 ·subst h
  by_cases h':d<xs.size<;>simp[h']
 ·simp[h]
theorem Rel.put {base ah:Nat→Prop}{w0:Wz}{S:St}{blk:Nat→Option Nat}{a:Act}{w:World}(h:Rel base ah w0 S blk a w){p:PV}{v:Value}
  (hv:aO w (aZ base S.objs blk) S.objs blk p v) (dst:Option Tmp):Rel base ah w0 (S.put dst p) blk (a.put dst v) w:=by
 cases dst with
 | none=>exact h
 | some d=>
  refine⟨h.oC,by simpa[Act.put,St.put] using h.EB,λt q hq=>?_,h.objs,h.pr,h.fr,h.gr,h.pb,h.ext,h.yQ,h.sm,h.gl⟩
  simp only[St.put,Act.put]at hq ⊢
  rw[qd]
  rw[List.getElem?_set]at hq
  by_cases hd:d=t
  ·subst hd
   by_cases hl:d<S.tmps.length
   ·simp[hl]at hq
    subst hq
    simp[h.EB,hl,hv]
   ·simp[hl]at hq
  ·rw[if_neg hd]at hq
   rw[if_neg (λe=>hd e.1)]
   exact h.tm t q hq
end Lp
namespace Lp
open Go
inductive TK where
 | none
 | other
 | slice (e:TypeId)
 | struct (fs:List (Nat×TypeId))
 | array (n:Nat) (e:TypeId)
 | str
 | int (k:IntKind)
 | bool
 | map (k e:TypeId)
structure aD where
 kind:TK
 size:Nat
 bytes:Nat
 zero:Value
def aD.agg (t:aD):Bool:=
 match t.kind with
 | .struct _ | .array _ _=>true
 | _=>false
def aD.off:aD:=⟨.none,0,0,.bool false⟩
def CR:TypeDesc→Bool
 | .struct _ | .array _ _=>false
 | _=>true
def fB(P:Program)(t:TypeId)(ti:aD):Prop:=
 ti.kind=.none∨
 ((∃i,P.info? t=some i∧i.size=ti.size∧i.bytes=ti.bytes∧i.zero=some ti.zero∧t≠MT)∧
  match ti.kind with
  | .none=>True
  | .other=>∃d,P.underlying t=some d∧CR d=true
  | .slice e=>P.underlying t=some (.slice e)
  | .struct fs=>∃fl:Array Field,P.underlying t=some (.struct fl)∧fl.toList.map (λf=>(f.offset,f.type))=fs
  | .array n e=>P.underlying t=some (.array n e)
  | .str=>P.underlying t=some .string
  | .int k=>P.underlying t=some (.int k)
  | .bool=>P.underlying t=some .bool
  | .map k e=>P.underlying t=some (.map k e))
def PV.vM:Value→PV
 | .int k n=>.int k n
 | .bool b=>.bool b
 | .string s=>.str s.data.toList
 | .pointer none=>.A_
 | .nilFunc=>.CQ
 | .nilIface=>.FJ
 | .map none=>.FK
 | .slice none 0 0=>.sl 0 [] (some true)
 | .func (.func f) ⟨[]⟩ ⟨[]⟩=>.fn f [] []
 | .agg ⟨cs⟩=>.agg (cs.map λ
  | .int k n=>.int k n
  | .bool b=>.bool b
  | .string s=>.str s.data.toList
  | .pointer none=>.A_
  | .nilFunc=>.CQ
  | .nilIface=>.FJ
  | .map none=>.FK
  | .slice none 0 0=>.sl 0 [] (some true)
  | _=>.dead)
 | _=>.dead
theorem KY(w:World)(ok:Nat→Prop)(s:ByteArray):cu w ok (.str s.data.toList) (.string s):=by
 obtain⟨⟨l⟩⟩:=s;exact .str l
theorem tV(w:World)(ok:Nat→Prop)(v:Value):cu w ok (PV.vM v) v:=by
 unfold PV.vM
 split
 ·exact .int _ _
 ·exact .bool _
 ·exact KY w ok _
 ·exact .A_
 ·exact .CQ
 ·exact .FJ
 ·exact .FK
 ·exact .slnil _ _ (by simp)
 ·exact .fn _ [] [] [] [] rfl rfl (λ_ _ _ h=>by simp at h) (λ_ _ _ h=>by simp at h)
 ·rename_i cs
  refine .agg _ cs (by simp) (λi p v hp hv=>?_)
  rw[List.getElem?_map,hv]at hp
  simp only[Option.map_some,Option.some.injEq]at hp
  subst hp
  split
  ·exact .int _ _
  ·exact .bool _
  ·exact KY w ok _
  ·exact .A_
  ·exact .CQ
  ·exact .FJ
  ·exact .FK
  ·exact .slnil _ _ (by simp)
  ·exact .dead _
 ·exact .dead _
def St.ev (S:St):Operand→PV
 | .tmp t=>S.tmps.getD t .dead
 | .const v=>.vM v
 | .global _=>.dead
 | .func f=>.fn f [] []
theorem Rel.ev {base ah:Nat→Prop}{w0:Wz}{S:St}{blk:Nat→Option Nat}{a:Act}{w:World}(R:Rel base ah w0 S blk a w)(x:Operand) :
  aO w (aZ base S.objs blk) S.objs blk (S.ev x) (a.eval x):=by
 cases x with
 | tmp t=>
  simp only[St.ev,Act.eval]
  by_cases h:t<S.tmps.length
  ·rw[List.getD_eq_getElem?_getD,List.getElem?_eq_getElem h]
   exact R.tm t _ (List.getElem?_eq_getElem h)
  ·rw[List.getD_eq_getElem?_getD,List.getElem?_eq_none (Nat.le_of_not_lt h)]
   exact .aI (.dead _)
 | const v=>exact .aI (tV _ _ v)
 | global g=>exact .aI (.dead _)
 | func f=>exact .aI (.fn f [] [] [] [] rfl rfl (λ_ _ _ h=>by simp at h) (λ_ _ _ h=>by simp at h))
def sub(cs:List PV)(off n:Nat)(agg:Bool):PV:=if agg then .agg ((cs.drop off).take n) else cs.getD off .dead
def JM(k:IntKind)(n:Int):Prop:=
 match k with
 | .i8=>-128≤n∧n≤127
 | .i16=>-32768≤n∧n≤32767
 | .i32=>-2147483648≤n∧n≤2147483647
 | .i64=>-9223372036854775808≤n∧n≤9223372036854775807
 | .u8=>0≤n∧n≤255
 | .u16=>0≤n∧n≤65535
 | .u32=>0≤n∧n≤4294967295
 | .u64=>0≤n∧n≤18446744073709551615
theorem iA{k:IntKind}{n:Int}(h:JM k n):k.wrap n=n:=by
 cases k<;>simp only[JM]at h<;>simp only[IntKind.wrap,IntKind.bits,IntKind.signed,Bool.true_and,Bool.false_and,Bool.false_eq_true,if_false,Int.reducePow,Nat.reduceSub]<;>first | omega | (split<;>rename_i hc<;>first | (have hd:=of_decide_eq_true hc;omega) | (have hd:=of_decide_eq_false (Bool.eq_false_iff.2 hc);omega))
def eqS:PV→PV→Option Bool
 | .int k a,.int k' b=>if k=k' then some (decide (a=b)) else none
 | .bool a,.bool b=>some (a==b)
 | .str a,.str b=>some (decide (a=b))
 | _,_=>none
def KZ:List PV→List PV→Option Bool
 | [],[]=>some true
 | x::xs,y::ys=>match eqS x y,KZ xs ys with
  | some p,some q=>some (p && q)
  | _,_=>none
 | _,_=>none
def Iu(P:Program)(t:TypeId)(ps bs:List PV):Prop:=
 P.eqGuardType P.depth t=false∧
 ∀(w:World) (ok:Nat→Prop) (vs us:List Value) (r:Bool),KZ ps bs=some r→bG (cu w ok) ps vs→bG (cu w ok) bs us→
  (Op.equal t (.agg ⟨vs⟩) (.agg ⟨us⟩)).run P w=.ok r w
def Nv(op:BinOp)(k:IntKind)(x y:Int):Int:=
 let a:=BitVec.ofInt k.bits x
 let b:=BitVec.ofInt k.bits y
 match op with
 | .and=>k.wrap (a &&& b).toNat
 | .or=>k.wrap (a ||| b).toNat
 | .xor=>k.wrap (a ^^^ b).toNat
 | _=>k.wrap (a &&& ~~~b).toNat
def rH(op:BinOp)(k k':IntKind)(a b:Int)(K:PV→Prop):Prop:=
 match op with
 | .shl=>0≤b∧K (.int k (k.wrap (a*2 ^ (min b.toNat k.bits))))
 | .shr=>0≤b∧K (.int k (a.fdiv (2 ^ (min b.toNat k.bits))))
 | .add=>k=k'∧JM k (a+b)∧K (.int k (a+b))
 | .sub=>k=k'∧JM k (a-b)∧K (.int k (a-b))
 | .mul=>k=k'∧JM k (a*b)∧K (.int k (a*b))
 | .quo=>k=k'∧b≠0∧JM k (a.tdiv b)∧K (.int k (a.tdiv b))
 | .rem=>k=k'∧b≠0∧K (.int k (a.tmod b))
 | .and | .or | .xor | .andNot=>k=k'∧K (.int k (Nv op k a b))
 | .eql=>k=k'∧K (.bool (decide (a=b)))
 | .neq=>k=k'∧K (.bool (!decide (a=b)))
 | .lss=>k=k'∧K (.bool (decide (a<b)))
 | .leq=>k=k'∧K (.bool (decide (a≤b)))
 | .gtr=>k=k'∧K (.bool (decide (b<a)))
 | .geq=>k=k'∧K (.bool (decide (b≤a)))
def iQ(op:BinOp)(a b:List UInt8)(K:PV→Prop):Prop:=
 match op with
 | .add=>a.length+b.length≤9223372036854775807∧K (.str (a++b))
 | .eql=>K (.bool (decide (a=b)))
 | .neq=>K (.bool (!decide (a=b)))
 | .lss=>K (.bool (Op.bytesLess a b))
 | .leq=>K (.bool (Op.bytesLess a b || decide (a=b)))
 | .gtr=>K (.bool (!(Op.bytesLess a b || decide (a=b))))
 | .geq=>K (.bool (!Op.bytesLess a b))
 | _=>False
def oP(P:Program)(ti:aD)(t:TypeId)(op:BinOp)(x y:PV)(K:PV→Prop):Prop:=
 match x,y with
 | .int k a,.int k' b=>rH op k k' a b K
 | .str a,.str b=>iQ op a b K
 | .bool a,.bool b=>ti.kind=.bool∧(match op with
  | .eql=>K (.bool (a==b))
  | .neq=>K (.bool (!(a==b)))
  | _=>False)
 | .agg a,.agg b=>Iu P t a b∧∃r,KZ a b=some r∧(match op with
  | .eql=>K (.bool r)
  | .neq=>K (.bool (!r))
  | _=>False)
 | .sl _ _ (some q),.sl _ _ (some true)=>(∃e,ti.kind=.slice e)∧(match op with
  | .eql=>K (.bool q)
  | .neq=>K (.bool (!q))
  | _=>False)
 | _,_=>False
def Nh(op:UnOp)(x:PV)(K:PV→Prop):Prop:=
 match op,x with
 | .not,.bool b=>K (.bool (!b))
 | .neg,.int k n=>JM k (-n)∧K (.int k (-n))
 | _,_=>False
def qf(src dst:aD)(x:PV)(K:PV→Prop):Prop:=
 match dst.kind,x with
 | .int k,.int _ n=>(src.kind≠.none)∧K (.int k (k.wrap n))
 | .str,.str s=>src.kind=.str∧K (.str s)
 | .str,.int _ n=>(src.kind≠.none)∧K (.str (Utf8.encode n).data.toList)
 | _,_=>False
abbrev KT:=PV→List Obj→Nat→Prop
def eD(ti:aD)(p:PV)(objs:List Obj)(K:KT):Prop:=
 match p with
 | .addr x=>ti.kind≠.none∧x.cells.length=ti.size∧x.isAgg=ti.agg∧K x objs 0
 | .bf k ver i f=>∃o e,objs[k]?=some o∧o.live=true∧o.ver=ver∧o.xs[i]?=some e∧ti.kind≠.none∧f+ti.size≤e.cells.length∧
   (ti.agg=false→ti.size=1)∧e.cells.all (λc=>!c.isAgg)=true∧K (sub e.cells f ti.size ti.agg) objs (4+2*k)
 | _=>False
def PV.putCells (e:PV)(f:Nat)(vs:List PV):PV:=
 match e with
 | .agg cs=>.agg (cs.take f++vs++cs.drop (f+vs.length))
 | _=>vs.getD 0 .dead
def PV.storable (p:PV):Bool:=p.mD && (p.ref || p.pure)
def jo(ti:aD)(p v:PV)(objs:List Obj)(K:KT):Prop:=
 match p with
 | .bf k ver i f=>∃o e,objs[k]?=some o∧o.live=true∧o.ver=ver∧o.xs[i]?=some e∧ti.kind≠.none∧v.cells.length=ti.size∧f+ti.size≤e.cells.length∧
   (e.isAgg=false→ti.size=1)∧
   v.cells.all PV.storable=true∧
   K .dead (objs.set k { o with xs:=o.xs.set i (e.putCells f v.cells) }) (5+2*k)
 | _=>False
def dU(D:TypeId→aD)(t:TypeId)(f:Nat)(K:Nat→aD→Prop):Prop:=
 match (D t).kind with
 | .struct fs=>∃x,fs[f]?=some x∧(D x.2).kind≠.none∧(D x.2).size≠0∧K x.1 (D x.2)
 | _=>False
def aU(D:TypeId→aD)(t:TypeId)(p:PV)(f:Nat)(objs:List Obj)(K:KT):Prop:=
 match p with
 | .addr (.agg cs)=>dU D t f λoff ti=>off+ti.size≤cs.length∧(ti.agg=false→ti.size=1)∧cs.all (λc=>!c.isAgg)=true∧K (.addr (sub cs off ti.size ti.agg)) objs 0
 | .bf k ver i f'=>∃o,objs[k]?=some o∧o.live=true∧o.ver=ver∧dU D t f λoff _=>K (.bf k ver i (f'+off)) objs (4+2*k)
 | _=>False
def oQ(D:TypeId→aD)(t:TypeId)(p:PV)(f:Nat)(objs:List Obj)(K:KT):Prop:=
 match p with
 | .agg cs=>dU D t f λoff ti=>off+ti.size≤cs.length∧K (sub cs off ti.size ti.agg) objs 0
 | _=>False
def bH(D:TypeId→aD)(t:TypeId)(x i:PV)(objs:List Obj)(K:KT):Prop:=
 match (D t).kind,x,i with
 | .slice e,.sl sz xs _,.int _ n=>(D e).kind≠.none∧0≤n∧∃y,xs[n.toNat]?=some y∧(D e).size=sz∧K (.addr y) objs 0
 | .slice e,.aS k ver,.int _ n=>(D e).kind≠.none∧0≤n∧∃o,objs[k]?=some o∧o.live=true∧o.ver=ver∧n<o.xs.length∧(D e).size=o.sz∧K (.bf k ver n.toNat 0) objs (4+2*k)
 | .array m e,.addr (.agg cs),.int _ n=>(D e).kind≠.none∧0≤n∧n<m∧(n.toNat+1)*(D e).size≤cs.length∧((D e).agg=false→(D e).size=1)∧cs.all (λc=>!c.isAgg)=true∧
   K (.addr (sub cs (n.toNat*(D e).size) (D e).size (D e).agg)) objs 0
 | .array m e,.bf k ver i f,.int _ n=>(D e).kind≠.none∧0≤n∧n<m∧∃o,objs[k]?=some o∧o.live=true∧o.ver=ver∧K (.bf k ver i (f+n.toNat*(D e).size)) objs (4+2*k)
 | _,_,_=>False
def lg(D:TypeId→aD)(t:TypeId)(x i:PV)(objs:List Obj)(K:KT):Prop:=
 match (D t).kind,x,i with
 | .str,.str s,.int _ n=>0≤n∧∃b,s[n.toNat]?=some b∧K (.int .u8 b.toNat) objs 0
 | .array m e,.agg cs,.int _ n=>(D e).kind≠.none∧0≤n∧n<m∧(n.toNat+1)*(D e).size≤cs.length∧(D e).size≠0∧K (sub cs (n.toNat*(D e).size) (D e).size (D e).agg) objs 0
 | _,_,_=>False
def cK(x:Option PV)(d:Int)(K:Int→Prop):Prop:=
 match x with
 | none=>K d
 | some (.int _ n)=>K n
 | _=>False
def iB(D:TypeId→aD)(t:TypeId)(x:PV)(lo hi:Option PV)(objs:List Obj)(K:KT):Prop:=
 match (D t).kind,x with
 | .str,.str s=>cK lo 0 λl=>cK hi s.length λh=>0≤l∧l≤h∧h≤s.length∧K (.str ((s.take h.toNat).drop l.toNat)) objs 0
 | .slice e,.sl sz xs q=>(D e).kind≠.none∧(xs=[]∨(D e).size=sz)∧cK lo 0 λl=>cK hi xs.length λh=>0≤l∧l≤h∧h≤xs.length∧
   K (.sl sz ((xs.take h.toNat).drop l.toNat) q) objs 0
 | .slice e,.aS k ver=>(D e).kind≠.none∧∃o,objs[k]?=some o∧o.live=true∧o.ver=ver∧(D e).size=o.sz∧lo=none∧cK hi o.xs.length λh=>0≤h∧h≤o.xs.length∧
   K (.aS k (ver+1)) (objs.set k { o with xs:=o.xs.take h.toNat,ver:=ver+1 }) (5+2*k)
 | .array m e,.addr (.agg cs)=>(D e).kind≠.none∧(D e).size=1∧(D e).agg=false∧cs.length=m∧m≤9223372036854775807∧cs.all (λc=>!c.isAgg)=true∧cK lo 0 λl=>cK hi m λh=>0≤l∧l≤h∧h≤m∧
   K (.sl 1 ((cs.take h.toNat).drop l.toNat) none) objs 0
 | _,_=>False
def qL(D:TypeId→aD)(t:TypeId)(x:PV)(objs:List Obj)(K:KT):Prop:=
 match (D t).kind,x with
 | .str,.str s=>K (.int .i64 s.length) objs 0
 | .slice _,.sl _ xs _=>K (.int .i64 xs.length) objs 0
 | .slice _,.aS k ver=>∃o,objs[k]?=some o∧o.live=true∧o.ver=ver∧K (.int .i64 o.xs.length) objs (4+2*k)
 | _,_=>False
def aL(ti:aD):PV:=.vM ti.zero
def newObj(objs:List Obj)(ty:TypeId)(sz:Nat)(xs:List PV):List Obj:=objs++[⟨ty,sz,xs,true,1⟩]
def rJ(t:TypeId)(ti:aD)(objs:List Obj)(K:KT):Prop:=
 ti.kind≠.none∧(aL ti).cells.length=ti.size∧(aL ti).cells.all PV.storable=true∧K (.bf objs.length 1 0 0) (newObj objs t ti.size [aL ti]) (5+2*objs.length)
def K3(t:TypeId)(ti:aD)(v:PV)(objs:List Obj)(K:KT):Prop:=
 ti.kind≠.none∧v.cells.length=ti.size∧v.cells.all PV.storable=true∧K (.bf objs.length 1 0 0) (newObj objs t ti.size [v]) (5+2*objs.length)
def oD(place:Nat→Option (Nat×Nat))(cells:List PV):List (Nat×PV)→(List PV→Prop)→Prop
 | [],K=>K cells
 | (i,v)::rest,K=>∃x,place i=some x∧v.cells.length=x.2∧x.1+v.cells.length≤cells.length∧oD place (cells.take x.1++v.cells++cells.drop (x.1+v.cells.length)) rest K
def nN(D:TypeId→aD)(t:TypeId)(parts:List (Nat×PV))(objs:List Obj)(K:KT):Prop:=
 match (D t).kind with
 | .struct fs=>(∀x∈fs,(D x.2).kind≠.none)∧oD (λi=>(fs[i]?).map λx=>(x.1,(D x.2).size)) (aL (D t)).cells parts λcs=>K (.agg cs) objs 0
 | .array _ e=>(D e).kind≠.none∧oD (λi=>some (i*(D e).size,(D e).size)) (aL (D t)).cells parts λcs=>K (.agg cs) objs 0
 | _=>False
def iC(xs:List PV):List (Nat×PV)→List PV
 | []=>xs
 | (i,v)::rest=>iC (xs.set i v) rest
def bL(D:TypeId→aD)(own:Bool)(t:TypeId)(len:Nat)(parts:List (Nat×PV))(objs:List Obj)(K:KT):Prop:=
 match (D t).kind with
 | .slice e=>(D e).kind≠.none∧(D e).size≠0∧len*(D e).size≤16777216∧(aL (D e)).cells.length=(D e).size∧
   (aL (D e)).cells.all PV.storable=true∧
   parts.all (λp=>decide (p.1<len) && decide (p.2.cells.length=(D e).size) && p.2.cells.all PV.storable && (own || p.2.pure))=true∧
   if own then K (.aS objs.length 1) (newObj objs e (D e).size (iC (List.replicate len (aL (D e))) parts)) (5+2*objs.length)
   else K (.sl (D e).size (iC (List.replicate len (aL (D e))) parts) none) objs 0
 | _=>False
def d_(D:TypeId→aD)(t:TypeId)(l c:PV)(objs:List Obj)(K:KT):Prop:=
 match (D t).kind,l,c with
 | .slice e,.int _ n,.int _ m=>(D e).kind≠.none∧(aL (D e)).cells.length=(D e).size∧(D e).size≠0∧(aL (D e)).cells.all PV.storable=true∧
   0≤n∧n≤m∧m≤9223372036854775807∧(D e).bytes*m≤281474976710656∧
   K (.aS objs.length 1) (newObj objs e (D e).size (List.replicate n.toNat (aL (D e)))) (5+2*objs.length)
 | _,_,_=>False
def ng(D:TypeId→aD)(t:TypeId)(x:PV)(objs:List Obj)(K:List PV→Bool→Prop):Prop:=
 match (D t).kind,x with
 | .slice _,.sl _ ys _=>K ys false
 | .slice _,.aS k ver=>∃o,objs[k]?=some o∧o.live=true∧o.ver=ver∧K o.xs true
 | .str,.str s=>K (s.map λb=>.int .u8 b.toNat) false
 | _,_=>False
def dK(D:TypeId→aD)(t u:TypeId)(s x:PV)(objs:List Obj)(K:KT):Prop:=
 match (D t).kind with
 | .slice e=>(D e).kind≠.none∧(D e).size≠0∧(aL (D e)).cells.length=(D e).size∧(aL (D e)).cells.all PV.storable=true∧ng D u x objs λys own=>
   (∀y∈ys,y.cells.length=(D e).size∧y.cells.all PV.storable=true)∧
   match s with
   | .aS k ver=>∃o,objs[k]?=some o∧o.live=true∧o.ver=ver∧o.sz=(D e).size∧o.ty=e∧(o.xs.length+ys.length)*(D e).bytes≤140737488355328∧o.xs.length+ys.length≤9223372036854775807∧
     (∀k' v',x=.aS k' v'→k'≠k)∧
     K (.aS k (ver+1)) (objs.set k { o with xs:=o.xs++ys,ver:=ver+1 }) (bif own then 2 else 5+2*k)
   | .cl sz xs=>sz=(D e).size∧(∀y∈xs,y.cells.length=(D e).size∧y.cells.all PV.storable=true)∧(xs.length+ys.length)*(D e).bytes≤140737488355328∧xs.length+ys.length≤9223372036854775807∧ys≠[]∧
     K (.aS objs.length 1) (newObj objs e (D e).size (xs++ys)) (bif own then 2 else 5+2*objs.length)
   | .sl _ [] (some true)=>ys.length*(D e).bytes≤140737488355328∧ys.length≤9223372036854775807∧K (.aS objs.length 1) (newObj objs e (D e).size ys) (bif own then 2 else 5+2*objs.length)
   | _=>False
 | _=>False
def qR(D:TypeId→aD)(s t:TypeId)(x:PV)(objs:List Obj)(K:KT):Prop:=
 match x with
 | .aS k ver=>∃o bs,objs[k]?=some o∧o.live=true∧o.ver=ver∧o.sz=1∧bs≠[]∧o.xs=List.map (λb:UInt8=>PV.int .u8 b.toNat) bs∧(D t).kind=.str∧
   (∃e,(D s).kind=.slice e∧(D e).kind=.int .u8)∧K (.str bs) objs (4+2*k)
 | x=>qf (D s) (D t) x λr=>K r objs 0
def dx(x:PV)(objs:List Obj)(K:KT):Prop:=
 match x with
 | .addr _=>K x objs 0
 | .bf k ver _ _=>∃o,objs[k]?=some o∧o.live=true∧o.ver=ver∧K x objs (4+2*k)
 | _=>False
def gK(isMax:Bool)(xs:List PV)(K:PV→Prop):Prop:=
 match xs with
 | [.int k a,.int k' b]=>k=k'∧K (.int k (if isMax then (if b > a then b else a) else (if b<a then b else a)))
 | _=>False
end Lp
namespace Lp
open Go
def Ba(l:Option Nat):Fence:={ fn:=λ_=>True,depth:=none,alive:=false,round:=l }
section
variable {P:Program}{base ah:Nat→Prop}{w0:Wz}{S:St}{blk:Nat→Option Nat}{a:Act}{w:World}{ok:Nat→Prop}{objs:List Obj}
theorem aO.int {k:IntKind}{n:Int}{v:Value}(h:aO w ok objs blk (.int k n) v):v=.int k n:=by
 have h':cu w ok (.int k n) v:=h
 cases h';rfl
theorem aO.bool {b:Bool}{v:Value}(h:aO w ok objs blk (.bool b) v):v=.bool b:=by
 have h':cu w ok (.bool b) v:=h
 cases h';rfl
theorem aO.str {s:List UInt8}{v:Value}(h:aO w ok objs blk (.str s) v):v=.string ⟨⟨s⟩⟩:=by
 have h':cu w ok (.str s) v:=h
 cases h';rfl
theorem aO.sl {sz:Nat}{xs:List PV}{q:Option Bool}{v:Value}(h:aO w ok objs blk (.sl sz xs q) v):cu w ok (.sl sz xs q) v:=h
theorem aO.addr {x:PV}{v:Value}(h:aO w ok objs blk (.addr x) v):cu w ok (.addr x) v:=h
def Ran(P:Program)(o:Oper)(a:Act)(w:World)(v:Value)(w':World):Prop:=
 (execOp a.eval o).run P w=.ok (.value v) w'∨((execOp a.eval o).run P w=.ok .skip w'∧v=undef)
def DY(O O':List Obj):Prop:=∀o1,O'=O++[o1]→∀x∈o1.xs,∀p∈x.cells,p.mE O.length=true
theorem DY.same {O O':List Obj}(h:O'.length=O.length):DY O O':=λo1 e=>by
 have:=congrArg List.length e
 simp at this;omega
theorem oF{p:PV}{v:Value}(h:aV w ok objs blk p v):p.mE objs.length=true:=by
 cases p<;>first | rfl | (obtain⟨_,o,h,_⟩:=h;simp only[PV.mE,decide_eq_true_eq];exact (List.getElem?_eq_some_iff.1 h).1)
theorem DY.of {O:List Obj}{o:Obj}(h:∀(i:Nat) (x:PV),o.xs[i]?=some x→∀(j:Nat) (p:PV),x.cells[j]?=some p→p.mE O.length=true):DY O (O++[o]):=λo1 e x hx p hp=>by
 have e':o=o1:=by
  have:=List.append_cancel_left e
  simpa using this
 subst e'
 obtain⟨i,hi,rfl⟩:=List.getElem_of_mem hx
 obtain⟨j,hj,rfl⟩:=List.getElem_of_mem hp
 exact h i _ (List.getElem?_eq_getElem hi) j _ (List.getElem?_eq_getElem hj)
def Out(P:Program)(base ah:Nat→Prop)(w0:Wz)(S:St)(o:Oper)(a:Act)(w:World)(K:KT):Prop:=
 ∃v w' r ai t ak,Ran P o a w v w'∧K r ai t∧Rel base ah w0 ⟨S.tmps,ai⟩ ak a w'∧aO w' (aZ base ai ak) ai ak r v∧DY S.objs ai
theorem DZ{o:Oper}{v:Value}{w':World}{next:Act→World→Prop}{Q:Exit→Act→World→Prop}{l:Option Nat}(hd:∀c,o.op≠.defer c)
  (h:Ran P o a w v w') (hk:next (a.put o.dst v) w'):o.wpIn (Ba l) 0 P a w next Q:=by
 refine⟨λ_ _=>trivial,?_⟩
 rw[Oper.semAt_eq _ _ _ hd]
 rcases h with h | ⟨h,rfl⟩
 ·unfold Oper.uponIn;rw[h];exact hk
 ·unfold Oper.uponIn;rw[h];exact hk
theorem Out.pure {o:Oper}{K:KT}{v:Value}{r:PV}{t:Nat}(R:Rel base ah w0 S blk a w)(h:(execOp a.eval o).run P w=.ok (.value v) w)(hK:K r S.objs t)
  (hr:aO w (aZ base S.objs blk) S.objs blk r v):Out P base ah w0 S o a w K:=
 ⟨v,w,r,S.objs,t,blk,.inl h,hK,R,hr,.same rfl⟩
theorem fB.info {t:TypeId}{ti:aD}(h:fB P t ti)(hk:ti.kind≠.none):∃i,P.info? t=some i∧i.size=ti.size∧i.bytes=ti.bytes∧i.zero=some ti.zero:=
 let ⟨i,h1,h2,h3,h4,_⟩:=(h.resolve_left hk).1
 ⟨i,h1,h2,h3,h4⟩
theorem fB.notM {t:TypeId}{ti:aD}(h:fB P t ti)(hk:ti.kind≠.none):t≠MT:=by
 obtain⟨i,_,_,_,_,h⟩:=(h.resolve_left hk).1
 exact h
theorem fB.dz {t:TypeId}{ti:aD}(h:fB P t ti)(hk:ti.kind≠.none)(w:World):(Go.sizeOf t).run P w=.ok ti.size w:=by
 obtain⟨i,h1,h2,_⟩:=h.info hk
 simp[Go.sizeOf,typeInfo,h1,h2]
theorem fB.under {t:TypeId}{ti:aD}(h:fB P t ti)(hk:ti.kind≠.none):∃d,P.underlying t=some d∧(CR d=!ti.agg):=by
 rcases h with h | ⟨_,h⟩
 ·exact absurd h hk
 ·cases hd:ti.kind<;>rw[hd]at h<;>simp only[aD.agg,hd]
  ·exact absurd hd hk
  ·obtain⟨d,h1,h2⟩:=h;exact⟨d,h1,by simpa using h2⟩
  ·exact⟨_,h,rfl⟩
  ·obtain⟨fl,h1,_⟩:=h;exact⟨_,h1,rfl⟩
  ·exact⟨_,h,rfl⟩
  ·exact⟨_,h,rfl⟩
  ·exact⟨_,h,rfl⟩
  ·exact⟨_,h,rfl⟩
  ·exact⟨_,h,rfl⟩
theorem fB.xN {t:TypeId}{ti:aD}(h:fB P t ti)(hk:ti.kind≠.none)(w:World):(isAgg t).run P w=.ok ti.agg w:=by
 obtain⟨d,h1,h2⟩:=h.under hk
 simp only[isAgg,Sem.run_bind,run_underlying h1,Result.andThen_ok]
 cases d<;>simp[CR]at h2<;>simp[h2]
theorem Wx{op:BinOp}{k k':IntKind}{x y:Int}{K:PV→Prop}(t:TypeId)(h:rH op k k' x y K) :
  ∃r v,(binOp op t (.int k x) (.int k' y)).run P w=.ok v w∧K r∧(∀ok objs blk,aO w ok objs blk r v):=by
 have Wy:∀(k:IntKind) (n:Int) (ok:Nat→Prop) (objs:List Obj) (blk:Nat→Option Nat),aO w ok objs blk (.int k n) (.int k n):=λk n _ _ _=>.aI (.int k n)
 have JN:∀(b:Bool) (ok:Nat→Prop) (objs:List Obj) (blk:Nat→Option Nat),aO w ok objs blk (.bool b) (.bool b):=λb _ _ _=>.aI (.bool b)
 cases op<;>simp only[rH]at h
 case add=>obtain⟨rfl,h1,h2⟩:=h;exact⟨_,_,by simp[binOp,Op.intArith,iA h1],h2,Wy _ _⟩
 case sub=>obtain⟨rfl,h1,h2⟩:=h;exact⟨_,_,by simp[binOp,Op.intArith,iA h1],h2,Wy _ _⟩
 case mul=>obtain⟨rfl,h1,h2⟩:=h;exact⟨_,_,by simp[binOp,Op.intArith,iA h1],h2,Wy _ _⟩
 case quo=>obtain⟨rfl,h0,h1,h2⟩:=h;exact⟨_,_,by simp[binOp,Op.intDiv,h0,iA h1],h2,Wy _ _⟩
 case rem=>obtain⟨rfl,h0,h2⟩:=h;exact⟨_,_,by simp[binOp,Op.intDiv,h0],h2,Wy _ _⟩
 case and=>obtain⟨rfl,h2⟩:=h;exact⟨_,_,by simp[binOp,Op.intBits,Nv],h2,Wy _ _⟩
 case or=>obtain⟨rfl,h2⟩:=h;exact⟨_,_,by simp[binOp,Op.intBits,Nv],h2,Wy _ _⟩
 case xor=>obtain⟨rfl,h2⟩:=h;exact⟨_,_,by simp[binOp,Op.intBits,Nv],h2,Wy _ _⟩
 case andNot=>obtain⟨rfl,h2⟩:=h;exact⟨_,_,by simp[binOp,Op.intBits,Nv],h2,Wy _ _⟩
 case shl=>obtain⟨h1,h2⟩:=h;exact⟨_,_,by simp[binOp,Op.shift,Int.not_lt.2 h1],h2,Wy _ _⟩
 case shr=>obtain⟨h1,h2⟩:=h;exact⟨_,_,by simp[binOp,Op.shift,Int.not_lt.2 h1],h2,Wy _ _⟩
 case eql=>obtain⟨rfl,h2⟩:=h;exact⟨_,_,by simp[binOp,Op.intCmp];rfl,h2,JN _⟩
 case neq=>obtain⟨rfl,h2⟩:=h;exact⟨_,_,by simp[binOp,Op.intCmp];rfl,h2,JN _⟩
 case lss=>obtain⟨rfl,h2⟩:=h;exact⟨_,_,by simp[binOp,Op.intCmp],h2,JN _⟩
 case leq=>obtain⟨rfl,h2⟩:=h;exact⟨_,_,by simp[binOp,Op.intCmp],h2,JN _⟩
 case gtr=>obtain⟨rfl,h2⟩:=h;exact⟨_,_,by simp[binOp,Op.intCmp],h2,JN _⟩
 case geq=>obtain⟨rfl,h2⟩:=h;exact⟨_,_,by simp[binOp,Op.intCmp],h2,JN _⟩
theorem Uq(a b:List UInt8):(ByteArray.mk ⟨a⟩++ByteArray.mk ⟨b⟩:ByteArray)=ByteArray.mk ⟨a++b⟩:=by
 apply ByteArray.ext
 simp[ByteArray.data_append]
theorem size_mk(a:List UInt8):(ByteArray.mk ⟨a⟩).size=a.length:=rfl
theorem WA{op:BinOp}{x y:List UInt8}{K:PV→Prop}(t:TypeId)(h:iQ op x y K) :
  ∃r v,(binOp op t (.string ⟨⟨x⟩⟩) (.string ⟨⟨y⟩⟩)).run P w=.ok v w∧K r∧(∀ok objs blk,aO w ok objs blk r v):=by
 have mkS:∀(n:List UInt8) (ok:Nat→Prop) (objs:List Obj) (blk:Nat→Option Nat),aO w ok objs blk (.str n) (.string ⟨⟨n⟩⟩):=λn _ _ _=>.aI (.str n)
 have JN:∀(b:Bool) (ok:Nat→Prop) (objs:List Obj) (blk:Nat→Option Nat),aO w ok objs blk (.bool b) (.bool b):=λb _ _ _=>.aI (.bool b)
 have hb:(x==y)=decide (x=y):=by by_cases hxy:x=y<;>simp[hxy]
 cases op<;>simp only[iQ]at h
 case add=>
  obtain⟨h1,h2⟩:=h
  refine⟨_,_,?_,h2,mkS _⟩
  have:¬ (((x.length+y.length:Nat):Int) > IntKind.i64.max):=by simp only[IntKind.max,IntKind.signed,IntKind.bits,if_true];omega
  simp only[binOp,Op.stringOp,size_mk,Uq,if_neg this,Sem.run_pure]
 case eql=>exact⟨_,_,by simp[binOp,Op.stringOp,hb],h,JN _⟩
 case neq=>exact⟨_,_,by simp[binOp,Op.stringOp,hb],h,JN _⟩
 case lss=>exact⟨_,_,by simp[binOp,Op.stringOp],h,JN _⟩
 case leq=>exact⟨_,_,by simp[binOp,Op.stringOp,hb],h,JN _⟩
 case gtr=>exact⟨_,_,by simp[binOp,Op.stringOp,hb],h,JN _⟩
 case geq=>exact⟨_,_,by simp[binOp,Op.stringOp],h,JN _⟩
theorem gL{op:BinOp}{t:TypeId}{x y:Operand}{u v:Value}(h1:u≠.nilIface)(h2:∀cs,u≠.agg cs):(eqGuard op t x y u v).run P w=.ok () w:=by
 unfold eqGuard
 cases op<;>simp<;>cases u<;>simp_all
theorem run_equalIn_bool(d:Nat){t:TypeId}(hu:P.underlying t=some .bool)(x y:Bool):(Op.equalIn (d+1) t (.bool x) (.bool y)).run P w=.ok (x==y) w:=by
 simp[Op.equalIn,run_underlying hu]
theorem run_equal_bool{t:TypeId}(hu:P.underlying t=some .bool)(x y:Bool):(Op.equal t (.bool x) (.bool y)).run P w=.ok (x==y) w:=run_equalIn_bool 9999 hu x y
theorem Bb(d:Nat){t e:TypeId}(hu:P.underlying t=some (.slice e))(x:Option Addr)(n c:Nat):(Op.equalIn (d+1) t (.slice x n c) (.slice none 0 0)).run P w=.ok x.isNone w:=by
 cases x<;>simp[Op.equalIn,run_underlying hu]
theorem gq{t e:TypeId}(hu:P.underlying t=some (.slice e))(x:Option Addr)(n c:Nat):(Op.equal t (.slice x n c) (.slice none 0 0)).run P w=.ok x.isNone w:=Bb 9999 hu x n c
theorem JO:∀{ps bs:List PV}{r:Bool},KZ ps bs=some r→ps.all (λp=>!p.ref)=true∧bs.all (λp=>!p.ref)=true
 | [],[],_,_=>⟨rfl,rfl⟩
 | x::xs,y::ys,r,h=>by
  simp only[KZ]at h
  split at h
  ·rename_i p q hp hq
   have ih:=JO hq
   refine⟨?_,?_⟩<;>simp only[List.all_cons,Bool.and_eq_true]
   ·refine⟨?_,ih.1⟩
    cases x<;>simp[PV.ref]<;>simp[eqS]at hp
   ·refine⟨?_,ih.2⟩
    cases y<;>simp[PV.ref]<;>cases x<;>simp[eqS]at hp
  ·cases h
theorem WB{op:BinOp}{t:TypeId}{ti:aD}{x y:Operand}{K:PV→Prop}(ht:fB P t ti)(R:Rel base ah w0 S blk a w)(h:oP P ti t op (S.ev x) (S.ev y) K) :
  ∃r v,(eqGuard op t x y (a.eval x) (a.eval y)).run P w=.ok () w∧(binOp op t (a.eval x) (a.eval y)).run P w=.ok v w∧K r∧aO w (aZ base S.objs blk) S.objs blk r v:=by
 have hx:=R.ev x
 have hy:=R.ev y
 have JN:∀(b:Bool) (ok:Nat→Prop) (objs:List Obj) (blk:Nat→Option Nat),aO w ok objs blk (.bool b) (.bool b):=λb _ _ _=>.aI (.bool b)
 unfold oP at h
 split at h
 ·rename_i k n k' n' e1 e2
  rw[e1]at hx;rw[e2]at hy
  rw[hx.int,hy.int]
  obtain⟨r,v,h1,h2,h3⟩:=Wx (P:=P) (w:=w) t h
  exact⟨r,v,gL (by simp) (by simp),h1,h2,h3 _ _ _⟩
 ·rename_i s s' e1 e2
  rw[e1]at hx;rw[e2]at hy
  rw[hx.str,hy.str]
  obtain⟨r,v,h1,h2,h3⟩:=WA (P:=P) (w:=w) t h
  exact⟨r,v,gL (by simp) (by simp),h1,h2,h3 _ _ _⟩
 ·rename_i b b' e1 e2
  rw[e1]at hx;rw[e2]at hy
  rw[hx.bool,hy.bool]
  obtain⟨hk,h⟩:=h
  have hu:P.underlying t=some .bool:=by
   have:=ht.resolve_left (by rw[hk];simp)
   rw[hk]at this;exact this.2
  cases op<;>simp only[]at h
  case eql=>exact⟨_,_,gL (by simp) (by simp),by simp[binOp,run_equal_bool hu],h,JN _ _ _ _⟩
  case neq=>exact⟨_,_,gL (by simp) (by simp),by simp[binOp,run_equal_bool hu],h,JN _ _ _ _⟩
 ·rename_i cs cs' e1 e2
  rw[e1]at hx;rw[e2]at hy
  obtain⟨⟨hg,he⟩,r,h1,h⟩:=h
  obtain⟨n1,n2⟩:=JO h1
  obtain⟨vs,ev1,g1⟩:=hx
  obtain⟨us,ev2,g2⟩:=hy
  rw[ev1,ev2]
  have heq:=he w (aZ base S.objs blk) vs us r h1 ⟨g1.1,λi p v a b=>(g1.2 i p v a b).zo (pV n1 a)⟩ ⟨g2.1,λi p v a b=>(g2.2 i p v a b).zo (pV n2 a)⟩
  have hgd:(eqGuard op t x y (.agg ⟨vs⟩) (.agg ⟨us⟩)).run P w=.ok () w:=by
   unfold eqGuard
   cases op<;>simp[hg]
  cases op<;>simp only[]at h
  case eql=>exact⟨_,_,hgd,by simp[binOp,heq],h,JN _ _ _ _⟩
  case neq=>exact⟨_,_,hgd,by simp[binOp,heq],h,JN _ _ _ _⟩
 ·rename_i sz xs q sz' ys e1 e2
  rw[e1]at hx;rw[e2]at hy
  obtain⟨⟨e,hk⟩,h⟩:=h
  have hu:P.underlying t=some (.slice e):=by
   have:=ht.resolve_left (by rw[hk];simp)
   rw[hk]at this;exact this.2
  have hy':a.eval y=.slice none 0 0:=by
   have:=hy.sl
   generalize a.eval y=vy at this
   cases this with
   | slnil=>rfl
   | FL _ _ hq=>exact absurd rfl hq
   | sl _ _ _ hq=>exact absurd rfl hq
  rw[hy']
  have hx':=hx.sl
  generalize a.eval x=vx at hx'
  have hg:(eqGuard op t x y vx (.slice none 0 0)).run P w=.ok () w:=by
   cases hx'<;>exact gL (by simp) (by simp)
  have hb:∀op,op=.eql∨op=.neq→(binOp op t vx (.slice none 0 0)).run P w=.ok (.bool (if op=.eql then q else !q)) w:=by
   rintro op (rfl | rfl)
   ·cases hx' with
    | slnil _ _ hq=>cases q<;>simp_all [binOp,gq hu]
    | FL _ _ hq=>cases q<;>simp_all [binOp,gq hu]
    | sl _ _ _ hq=>cases q<;>simp_all [binOp,gq hu]
   ·cases hx' with
    | slnil _ _ hq=>cases q<;>simp_all [binOp,gq hu]
    | FL _ _ hq=>cases q<;>simp_all [binOp,gq hu]
    | sl _ _ _ hq=>cases q<;>simp_all [binOp,gq hu]
  cases op<;>simp only[]at h
  case eql=>exact⟨_,_,hg,hb _ (.inl rfl),h,JN _ _ _ _⟩
  case neq=>exact⟨_,_,hg,hb _ (.inr rfl),h,JN _ _ _ _⟩
 ·exact h.elim
theorem Y0{op:UnOp}{x:Operand}{K:PV→Prop}(R:Rel base ah w0 S blk a w)(h:Nh op (S.ev x) K) :
  ∃r v,(Op.unary op (a.eval x)).run P w=.ok v w∧K r∧aO w (aZ base S.objs blk) S.objs blk r v:=by
 have hx:=R.ev x
 unfold Nh at h
 split at h
 ·rename_i e;rw[e]at hx;rw[hx.bool]
  exact⟨_,_,by simp[Op.unary],h,.aI (.bool _)⟩
 ·rename_i k n e;rw[e]at hx;rw[hx.int]
  exact⟨_,_,by simp[Op.unary,Op.intArith,iA h.1],h.2,.aI (.int _ _)⟩
 ·exact h.elim
theorem Ur{s d:TypeId}{ts td:aD}(hs:fB P s ts)(hd:fB P d td){x:Operand}{K:PV→Prop}(R:Rel base ah w0 S blk a w)(h:qf ts td (S.ev x) K) :
  ∃r v,(convert s d (a.eval x)).run P w=.ok v w∧K r∧aO w (aZ base S.objs blk) S.objs blk r v:=by
 have hx:=R.ev x
 unfold qf at h
 split at h
 ·rename_i k k' n e e'
  rw[e']at hx;rw[hx.int]
  obtain⟨ds,hds,_⟩:=hs.under h.1
  have hu:P.underlying d=some (.int k):=by
   have:=hd.resolve_left (by rw[e];simp)
   rw[e]at this;exact this.2
  refine⟨_,_,?_,h.2,.aI (.int _ _)⟩
  simp[convert,run_underlying hds,run_underlying hu,Conv.intToInt]
 ·rename_i s' e e'
  rw[e']at hx;rw[hx.str]
  have hu:P.underlying d=some .string:=by
   have:=hd.resolve_left (by rw[e];simp)
   rw[e]at this;exact this.2
  have hu':P.underlying s=some .string:=by
   have:=hs.resolve_left (by rw[h.1];simp)
   rw[h.1]at this;exact this.2
  refine⟨_,_,?_,h.2,.aI (.str _)⟩
  simp[convert,run_underlying hu,run_underlying hu']
 ·rename_i k' n e e'
  rw[e']at hx;rw[hx.int]
  obtain⟨ds,hds,_⟩:=hs.under h.1
  have hu:P.underlying d=some .string:=by
   have:=hd.resolve_left (by rw[e];simp)
   rw[e]at this;exact this.2
  refine⟨_,.string (Utf8.encode n),?_,h.2,.aI (.str _)⟩
  simp[convert,run_underlying hds,run_underlying hu,Conv.intToString]
 ·exact h.elim
end
end Lp
namespace Lp
open Go
section
variable {P:Program}{base ah:Nat→Prop}{w0:Wz}{S:St}{blk:Nat→Option Nat}{a:Act}{w:World}{ok:Nat→Prop}{objs:List Obj}{D:TypeId→aD}
theorem add_lit(b off n:Nat):(⟨b,off,none⟩:Addr).add n=⟨b,off+n,none⟩:=by
 unfold Addr.add;split<;>simp_all
def At(R:PV→Value→Prop)(w:World)(b off:Nat)(x:PV):Prop:=∀j p,x.cells[j]?=some p→∃v,w.cell? ⟨b,off+j,none⟩=some v∧R p v
theorem Y1{R:PV→Value→Prop}{b off:Nat}{x:PV}(h:At R w b off x):∃vs:List Value,vs.length=x.cells.length∧(∀j v,vs[j]?=some v→w.cell? ((⟨b,off,none⟩:Addr).add j)=some v)∧bG R x.cells vs:=by
 refine⟨(List.range x.cells.length).map λj=>(w.cell? ⟨b,off+j,none⟩).getD undef,by simp,?_,?_,?_⟩
 ·intro j v hv
  rw[List.getElem?_map]at hv
  cases hr:(List.range x.cells.length)[j]? with
  | none=>simp[hr]at hv
  | some i=>
   have hi:=List.getElem?_eq_some_iff.1 hr
   obtain⟨hj,hi⟩:=hi
   simp at hi hj
   subst hi
   obtain⟨u,h1,_⟩:=h j _ (List.getElem?_eq_getElem hj)
   simp[hr,h1]at hv
   rw[add_lit,h1,hv]
 ·simp
 ·intro j p v hp hv
  rw[List.getElem?_map]at hv
  cases hr:(List.range x.cells.length)[j]? with
  | none=>simp[hr]at hv
  | some i=>
   have hi:=List.getElem?_eq_some_iff.1 hr
   obtain⟨hj,hi⟩:=hi
   simp at hi hj
   subst hi
   obtain⟨u,h1,h2⟩:=h j p hp
   simp[hr,h1]at hv
   subst hv;exact h2
def K4(R:PV→Value→Prop)(x:PV)(v:Value):Prop:=
 match x with
 | .agg cs=>∃vs,v=.agg ⟨vs⟩∧bG R cs vs
 | x=>R x v
theorem mF{R:PV→Value→Prop}{b off:Nat}{x:PV}{t:TypeId}{ti:aD}(ht:fB P t ti)(hk:ti.kind≠.none)(h:At R w b off x)(hl:x.cells.length=ti.size)(ha:x.isAgg=ti.agg) :
  ∃v,(loadVar t ⟨b,off,none⟩).run P w=.ok v w∧K4 R x v:=by
 obtain⟨vs,h1,h2,h3⟩:=Y1 h
 cases hx:x.isAgg with
 | true=>
  obtain⟨cs,rfl⟩:∃cs,x=.agg cs:=by cases x<;>simp[PV.isAgg]at hx;exact⟨_,rfl⟩
  refine⟨.agg ⟨vs⟩,?_,vs,rfl,h3⟩
  have hr:=run_loadCells_list (P:=P) w ⟨b,off,none⟩ vs h2
  rw[h1,hl]at hr
  simp only[loadVar,Sem.run_bind,ht.xN hk,Result.andThen_ok,←ha,hx,if_true,ht.dz hk,hr]
  rfl
 | false=>
  have hc:x.cells=[x]:=by cases x<;>simp[PV.isAgg]at hx<;>rfl
  rw[hc]at h3
  have h0:=h 0 x (by rw[hc];rfl)
  obtain⟨v,g1,g2⟩:=h0
  refine⟨v,?_,?_⟩
  ·simp only[loadVar,Sem.run_bind,ht.xN hk,Result.andThen_ok,←ha,hx,Bool.false_eq_true,if_false,run_load]
   have:w.cell? ⟨b,off,none⟩=some v:=by simpa using g1
   rw[this]
  ·cases x<;>simp[PV.isAgg]at hx<;>exact g2
theorem At.zo {b off:Nat}{x:PV}(vs:Nat→Value)
  (hcell:∀(j:Nat) (p:PV),x.cells[j]?=some p→w.cell? ⟨b,off+j,none⟩=some (vs j))
  (hrep:∀(j:Nat) (p:PV),x.cells[j]?=some p→cu w ok p (vs j)):At (cu w ok) w b off x:=λj p hp=>⟨vs j,hcell j p hp,hrep j p hp⟩
theorem cu.Y2 {b off:Nat}{x:PV}(hb:ok b∧b<w.heap.size)(h:At (cu w ok) w b off x):cu w ok (.addr x) (.pointer (some ⟨b,off,none⟩)):=by
 refine .addr x b off (λj=>(w.cell? ⟨b,off+j,none⟩).getD undef) hb ?_ ?_
 ·intro j p hp;obtain⟨v,h1,_⟩:=h j p hp;simp[h1]
 ·intro j p hp;obtain⟨v,h1,h2⟩:=h j p hp;simpa[h1] using h2
theorem Bc{x:PV}{v:Value}(h:K4 (cu w ok) x v):aO w ok objs blk x v:=by
 cases x with
 | agg cs=>obtain⟨vs,rfl,h1⟩:=h;exact⟨vs,rfl,h1.mono λ_ _ h=>.aI h⟩
 | _=>exact .aI h
theorem zu{x:PV}{v:Value}(h:K4 (aV w ok objs blk) x v):aO w ok objs blk x v:=by
 cases x with
 | agg cs=>obtain⟨vs,rfl,h1⟩:=h;exact⟨vs,rfl,h1⟩
 | _=>exact .dS h
theorem At.sub {R:PV→Value→Prop}{b off:Nat}{cs:List PV}(h:At R w b off (.agg cs))(o n:Nat)(agg:Bool)(hl:o+n≤cs.length)(h1:agg=false→n=1)
  (hd:∀c∈cs,c.isAgg=false):At R w b (off+o) (sub cs o n agg):=by
 intro j p hp
 unfold Lp.sub at hp
 cases agg with
 | true=>
  simp only[if_true,PV.cells]at hp
  rw[List.getElem?_take]at hp
  split at hp
  ·rw[List.getElem?_drop]at hp
   obtain⟨v,g1,g2⟩:=h (o+j) p hp
   exact⟨v,by rw[←g1];congr 2;omega,g2⟩
  ·cases hp
 | false=>
  have hn:=h1 rfl
  subst hn
  simp only[Bool.false_eq_true,if_false]at hp
  have ho:o<cs.length:=by omega
  rw[List.getD_eq_getElem?_getD,List.getElem?_eq_getElem ho,Option.getD_some]at hp
  have hna:=hd _ (List.getElem_mem ho)
  have hc:(cs[o]).cells=[cs[o]]:=by revert hna;cases cs[o]<;>simp[PV.isAgg,PV.cells]
  rw[hc]at hp
  cases j with
  | zero=>
   simp at hp
   obtain⟨v,g1,g2⟩:=h o cs[o] (List.getElem?_eq_getElem ho)
   exact⟨v,by simpa using g1,hp ▸ g2⟩
  | succ j=>simp at hp
theorem QC{base ah:Nat→Prop}(R:cO base ah objs blk w){k:Nat}{o:Obj}{i:Nat}{e:PV}{g:Nat}(h1:objs[k]?=some o)(h2:o.live=true)(h3:o.xs[i]?=some e)(hb:blk k=some g)(hty:o.ty≠MT) :
  e.cells.length=o.sz∧At (aV w (aZ base objs blk) objs blk) w g (i*o.sz) e:=by
 have h:=R.ob k o h1 h2
 unfold bB at h
 rw[hb]at h
 obtain⟨c,x1,x2,x3⟩:=h
 rw[jv hty]at x1
 obtain⟨y1,y2⟩:=x3 i e h3
 refine⟨y1,λj p hp=>?_⟩
 obtain⟨v,z1,z2⟩:=y2 j p hp
 exact⟨v,by simp[World.cell?,x1,z1],z2⟩
theorem aO.bf {k ver i f:Nat}{v:Value}(h:aO w ok objs blk (.bf k ver i f) v){o:Obj}(h1:objs[k]?=some o)(h2:o.live=true)(h3:o.ver=ver) :
  ∃g,blk k=some g∧v=.pointer (some ⟨g,i*o.sz+f,none⟩)∧o.ty≠MT:=by
 obtain⟨_,o',g1,_,g3⟩:=h
 rw[h1]at g1
 cases g1
 obtain⟨x1,g,x2,x3⟩:=g3 h2 h3
 exact⟨g,x2,x3,x1⟩
theorem aO.fM {k ver:Nat}{v:Value}(h:aO w ok objs blk (.fM k ver) v){o:Obj}(h1:objs[k]?=some o)(h2:o.live=true)(h3:o.ver=ver) :
  ∃g,blk k=some g∧v=Nu o.sz g∧o.ty=MT:=by
 obtain⟨_,o',g1,_,g3⟩:=h
 rw[h1]at g1
 cases g1
 obtain⟨x1,g,x2,x3⟩:=g3 h2 h3
 exact⟨g,x2,x3,x1⟩
theorem aO.aS {k ver:Nat}{v:Value}(h:aO w ok objs blk (.aS k ver) v){o:Obj}(h1:objs[k]?=some o)(h2:o.live=true)(h3:o.ver=ver):vL w blk k o v:=by
 obtain⟨_,o',g1,_,g3⟩:=h
 rw[h1]at g1
 cases g1
 exact (g3 h2 h3).2
theorem aO.tX {k ver:Nat}{v:Value}(h:aO w ok objs blk (.aS k ver) v){o:Obj}(h1:objs[k]?=some o)(h2:o.live=true)(h3:o.ver=ver):o.ty≠MT:=by
 obtain⟨_,o',g1,_,g3⟩:=h
 rw[h1]at g1
 cases g1
 exact (g3 h2 h3).1
end
end Lp
namespace Lp
open Go
open Option (getD_some map_none)
section
variable {P:Program}{base ah:Nat→Prop}{w0:Wz}{S:St}{blk:Nat→Option Nat}{a:Act}{w:World}{D:TypeId→aD}
theorem pW{cs:List PV}(h:cs.all (λc=>!c.isAgg)=true):∀c∈cs,c.isAgg=false:=by
 intro c hc;simpa using List.all_eq_true.1 h c hc
theorem JP(cs:List PV)(o n:Nat)(agg:Bool)(hl:o+n≤cs.length)(h1:agg=false→n=1)(hd:cs.all (λc=>!c.isAgg)=true) :
  (sub cs o n agg).cells.length=n∧(sub cs o n agg).isAgg=agg:=by
 unfold sub
 cases agg with
 | true=>simp only[if_true,PV.cells,PV.isAgg,List.length_take,List.length_drop,and_true];omega
 | false=>
  have:=h1 rfl
  subst this
  simp only[Bool.false_eq_true,if_false]
  rw[List.getD_eq_getElem?_getD,List.getElem?_eq_getElem (by omega),getD_some]
  have hna:=pW hd _ (List.getElem_mem (l:=cs) (n:=o) (by omega))
  revert hna
  cases cs[o]<;>simp[PV.isAgg,PV.cells]
theorem WC{t:TypeId}{x:Operand}{o:Oper}{K:KT}(ho:o.op=.load t x)(hD:∀t,fB P t (D t))(R:Rel base ah w0 S blk a w)(h:eD (D t) (S.ev x) S.objs K) :
  Out P base ah w0 S o a w K:=by
 have hx:=R.ev x
 unfold eD at h
 split at h
 ·rename_i p e
  rw[e]at hx
  obtain⟨hk,h1,h2,h3⟩:=h
  have hx':=hx.addr
  generalize hv:a.eval x=v at hx'
  cases hx' with
  | addr _ b off vs hok hcell hrep=>
   obtain⟨u,g1,g2⟩:=mF (hD t) hk (At.zo vs hcell hrep) h1 h2
   exact .pure R (by simp[execOp,ho,hv,Instr.loadAt,Instr.sureAddr,g1]) h3 (Bc g2)
 ·rename_i k ver i f e
  rw[e]at hx
  obtain⟨ob,el,h1,h2,h3,h4,hk,h5,h6,h7,h8⟩:=h
  obtain⟨g,hb,hv,hty⟩:=hx.bf h1 h2 h3
  obtain⟨y1,y2⟩:=QC R.objs h1 h2 h4 hb hty
  have hat:At (aV w (aZ base S.objs blk) S.objs blk) w g (i*ob.sz) (.agg el.cells):=y2
  have hs:=At.sub hat f (D t).size (D t).agg h5 h6 (pW h7)
  obtain⟨c1,c2⟩:=JP el.cells f _ _ h5 h6 h7
  obtain⟨u,g1,g2⟩:=mF (hD t) hk hs c1 c2
  exact .pure R (by simp[execOp,ho,hv,Instr.loadAt,Instr.sureAddr,g1]) h8 (zu g2)
 ·exact h.elim
theorem vY{b off:Nat}{f:Field}{n:Nat}(hs:(Go.sizeOf f.type).run P w=.ok n w)(hn:n≠0):(fieldPlace ⟨b,off,none⟩ f).run P w=.ok ⟨b,off+f.offset,none⟩ w:=by
 simp[fieldPlace,hs,hn,add_lit]
theorem tY{t:TypeId}{f:Nat}{K:Nat→aD→Prop}(hD:∀t,fB P t (D t))(h:dU D t f K) :
  ∃(fl:Array Field) (fd:Field),P.underlying t=some (.struct fl)∧fl[f]?=some fd∧(D fd.type).kind≠.none∧(D fd.type).size≠0∧K fd.offset (D fd.type):=by
 unfold dU at h
 split at h
 ·rename_i fs hk
  obtain⟨x,h1,h2,h3,h4⟩:=h
  have:=(hD t).resolve_left (by rw[hk];simp)
  rw[hk]at this
  obtain⟨_,fl,hu,hm⟩:=this
  rw[←hm,List.getElem?_map]at h1
  cases hf:fl.toList[f]? with
  | none=>rw[hf]at h1;simp at h1
  | some fd=>
   rw[hf]at h1
   simp at h1
   subst h1
   exact⟨fl,fd,hu,by simpa using hf,h2,h3,h4⟩
 ·exact h.elim
theorem Iw{t:TypeId}{x:Operand}{f:Nat}{o:Oper}{K:KT}(ho:o.op=.fieldAddr t x f)(hD:∀t,fB P t (D t))(R:Rel base ah w0 S blk a w)(h:aU D t (S.ev x) f S.objs K) :
  Out P base ah w0 S o a w K:=by
 have hx:=R.ev x
 unfold aU at h
 split at h
 ·rename_i cs e
  rw[e]at hx
  obtain⟨fl,fd,hu,hf,hk,hs,h1,h2,h3,h4⟩:=tY hD h
  have hx':=hx.addr
  generalize hv:a.eval x=v at hx'
  cases hx' with
  | addr _ b off vs hok hcell hrep=>
   have hat:=At.sub (At.zo vs hcell hrep) fd.offset (D fd.type).size (D fd.type).agg h1 h2 (pW h3)
   refine .pure R (v:=.pointer (some ⟨b,off+fd.offset,none⟩)) ?_ h4 (.aI (.Y2 hok hat))
   simp[execOp,ho,hv,Instr.fieldAt,run_underlying hu,hf,Instr.sureAddr,vY ((hD fd.type).dz hk w) hs]
 ·rename_i k ver i f' e
  rw[e]at hx
  obtain⟨ob,h1,h2,h3,h⟩:=h
  obtain⟨fl,fd,hu,hf,hk,hs,h4⟩:=tY hD h
  obtain⟨g,hb,hv,hty⟩:=hx.bf h1 h2 h3
  refine .pure R (v:=.pointer (some ⟨g,i*ob.sz+f'+fd.offset,none⟩)) ?_ h4 ?_
  ·simp[execOp,ho,hv,Instr.fieldAt,run_underlying hu,hf,Instr.sureAddr,vY ((hD fd.type).dz hk w) hs]
  ·exact⟨rfl,ob,h1,by omega,λ_ _=>⟨hty,g,hb,by rw[Nat.add_assoc]⟩⟩
 ·exact h.elim
theorem getElem_mk{vs:List Value}{j:Nat}{v:Value}(h:vs[j]?=some v):(Array.mk vs)[j]?=some v:=by simpa using h
theorem Nw{t:TypeId}{ti:aD}(ht:fB P t ti)(hk:ti.kind≠.none){R:PV→Value→Prop}{cs:List PV}{vs:List Value}(h:bG R cs vs)(off:Nat)(hl:off+ti.size≤cs.length)(hs:ti.size≠0) :
  ∃v,(part t ⟨vs⟩ off).run P w=.ok v w∧(if ti.agg then ∃us,v=.agg ⟨us⟩∧bG R ((cs.drop off).take ti.size) us else R (cs.getD off .dead) v):=by
 unfold part
 cases ha:ti.agg with
 | true=>
  refine⟨.agg ⟨(vs.drop off).take ti.size⟩,?_,?_⟩
  ·simp only[Sem.run_bind,ht.xN hk,Result.andThen_ok,ha,if_true,ht.dz hk]
   simp
  ·simp only[if_true]
   refine⟨_,rfl,by simp[h.1],λi p v h1 h2=>?_⟩
   rw[List.getElem?_take]at h1 h2
   split at h1
   ·rename_i hi
    rw[if_pos hi]at h2
    rw[List.getElem?_drop]at h1 h2
    exact h.2 _ _ _ h1 h2
   ·cases h1
 | false=>
  have ho:off<cs.length:=by omega
  have ho':off<vs.length:=by rw[←h.1];exact ho
  refine⟨vs[off],?_,?_⟩
  ·simp only[Sem.run_bind,ht.xN hk,Result.andThen_ok,ha,Bool.false_eq_true,if_false]
   rw[getElem_mk (List.getElem?_eq_getElem ho')]
   rfl
  ·simp only[Bool.false_eq_true,if_false]
   rw[List.getD_eq_getElem?_getD,List.getElem?_eq_getElem ho,getD_some]
   exact h.2 off _ _ (List.getElem?_eq_getElem ho) (List.getElem?_eq_getElem ho')
theorem Ny{ok:Nat→Prop}{objs:List Obj}{cs:List PV}{off n:Nat}{agg:Bool}{v:Value}(h:if agg then ∃us,v=.agg ⟨us⟩∧bG (aV w ok objs blk) ((cs.drop off).take n) us else aV w ok objs blk (cs.getD off .dead) v) :
  aO w ok objs blk (sub cs off n agg) v:=by
 unfold sub
 cases agg with
 | true=>simp only[if_true]at h ⊢;exact h
 | false=>simp only[Bool.false_eq_true,if_false]at h ⊢;exact .dS h
theorem Us{t:TypeId}{x:Operand}{f:Nat}{o:Oper}{K:KT}(ho:o.op=.field t x f)(hD:∀t,fB P t (D t))(R:Rel base ah w0 S blk a w)(h:oQ D t (S.ev x) f S.objs K) :
  Out P base ah w0 S o a w K:=by
 have hx:=R.ev x
 unfold oQ at h
 split at h
 ·rename_i cs e
  rw[e]at hx
  obtain⟨fl,fd,hu,hf,hk,hs,h1,h2⟩:=tY hD h
  obtain⟨vs,hv,hr⟩:=hx
  obtain⟨v,g1,g2⟩:=Nw (P:=P) (w:=w) (hD fd.type) hk hr fd.offset h1 hs
  refine .pure R (v:=v) ?_ h2 (Ny g2)
  simp[execOp,ho,hv,Instr.field,run_underlying hu,hf,asAgg,g1]
 ·exact h.elim
theorem fB.slice {t:TypeId}{ti:aD}{e:TypeId}(h:fB P t ti)(hk:ti.kind=.slice e):P.underlying t=some (.slice e):=by
 have:=h.resolve_left (by rw[hk];simp)
 rw[hk]at this;exact this.2
theorem fB.arr {t:TypeId}{ti:aD}{e:TypeId}{n:Nat}(h:fB P t ti)(hk:ti.kind=.array n e):P.underlying t=some (.array n e):=by
 have:=h.resolve_left (by rw[hk];simp)
 rw[hk]at this;exact this.2
theorem fB.Ut {t:TypeId}{ti:aD}(h:fB P t ti)(hk:ti.kind=.str):P.underlying t=some .string:=by
 have:=h.resolve_left (by rw[hk];simp)
 rw[hk]at this;exact this.2
theorem Iy{t:TypeId}{x i:Operand}{o:Oper}{K:KT}(ho:o.op=.indexAddr t x i)(hD:∀t,fB P t (D t))(R:Rel base ah w0 S blk a w)(h:bH D t (S.ev x) (S.ev i) S.objs K) :
  Out P base ah w0 S o a w K:=by
 have hx:=R.ev x
 have hi:=R.ev i
 unfold bH at h
 split at h
 ·rename_i e sz xs q k n hk e1 e2
  rw[e1]at hx;rw[e2]at hi
  have hi:=hi.int
  obtain⟨hke,h0,y,h1,h2,h3⟩:=h
  have hu:=(hD t).slice hk
  have hlt:n.toNat<xs.length:=(List.getElem?_eq_some_iff.1 h1).1
  have hx':=hx.sl
  generalize hv:a.eval x=v at hx'
  cases hx' with
  | slnil=>simp at h1
  | FL=>simp at h1
  | sl _ _ _ hq b off cap vs hok hlen hcap hsz hcell hrep=>
   have hat:At (cu w (aZ base S.objs blk)) w b (off+n.toNat*sz) y:=
    At.zo (vs n.toNat) (λj p hp=>hcell n.toNat y j p h1 hp) (λj p hp=>hrep n.toNat y j p h1 hp)
   refine .pure R (v:=.pointer (some ⟨b,off+n.toNat*sz,none⟩)) ?_ h3 (.aI (.Y2 (hok (by rintro rfl;simp at h1)) hat))
   have hn:n<(xs.length:Int):=by omega
   simp[execOp,ho,hv,hi,Instr.indexAt,asIntOf,run_underlying hu,h0,hn,(hD e).dz hke,h2,add_lit]
 ·rename_i e k ver k' n hk e1 e2
  rw[e1]at hx;rw[e2]at hi
  have hi:=hi.int
  obtain⟨hke,h0,ob,h1,h2,h3,h4,h5,h6⟩:=h
  have hu:=(hD t).slice hk
  have hh:=hx.aS h1 h2 h3
  have hty:=hx.tX h1 h2 h3
  unfold vL at hh
  cases hb:blk k with
  | none=>rw[hb]at hh;rw[hh.2]at h4;simp at h4;omega
  | some g=>
   rw[hb]at hh
   obtain⟨cap,c,hv,_,_⟩:=hh
   refine .pure R (v:=.pointer (some ⟨g,n.toNat*ob.sz+0,none⟩)) ?_ h6 ?_
   ·simp[execOp,ho,hv,hi,Instr.indexAt,asIntOf,run_underlying hu,h0,h4,(hD e).dz hke,h5,add_lit]
   ·exact⟨rfl,ob,h1,by omega,λ_ _=>⟨hty,g,hb,rfl⟩⟩
 ·rename_i m e cs k n hk e1 e2
  rw[e1]at hx;rw[e2]at hi
  have hi:=hi.int
  obtain⟨hke,h0,hm,h1,h2,h3,h4⟩:=h
  have hu:=(hD t).arr hk
  have hx':=hx.addr
  generalize hv:a.eval x=v at hx'
  cases hx' with
  | addr _ b off vs hok hcell hrep=>
   have hat:=At.sub (At.zo vs hcell hrep) (n.toNat*(D e).size) (D e).size (D e).agg (by rw[Nat.add_mul]at h1;omega) h2 (pW h3)
   refine .pure R (v:=.pointer (some ⟨b,off+n.toNat*(D e).size,none⟩)) ?_ h4 (.aI (.Y2 hok hat))
   simp[execOp,ho,hv,hi,Instr.indexAt,Instr.sureAddr,asIntOf,run_underlying hu,h0,hm,(hD e).dz hke,add_lit]
 ·rename_i m e k ver i' f k' n hk e1 e2
  rw[e1]at hx;rw[e2]at hi
  have hi:=hi.int
  obtain⟨hke,h0,hm,ob,h1,h2,h3,h4⟩:=h
  have hu:=(hD t).arr hk
  obtain⟨g,hb,hv,hty⟩:=hx.bf h1 h2 h3
  refine .pure R (v:=.pointer (some ⟨g,i'*ob.sz+f+n.toNat*(D e).size,none⟩)) ?_ h4 ?_
  ·simp[execOp,ho,hv,hi,Instr.indexAt,Instr.sureAddr,asIntOf,run_underlying hu,h0,hm,(hD e).dz hke,add_lit]
  ·exact⟨rfl,ob,h1,by omega,λ_ _=>⟨hty,g,hb,by rw[Nat.add_assoc]⟩⟩
 ·exact h.elim
theorem Uu{t:TypeId}{x i:Operand}{o:Oper}{K:KT}(ho:o.op=.index t x i)(hD:∀t,fB P t (D t))(R:Rel base ah w0 S blk a w)(h:lg D t (S.ev x) (S.ev i) S.objs K) :
  Out P base ah w0 S o a w K:=by
 have hx:=R.ev x
 have hi:=R.ev i
 unfold lg at h
 split at h
 ·rename_i s k n hk e1 e2
  rw[e1]at hx;rw[e2]at hi
  have hi:=hi.int
  have hv:=hx.str
  obtain⟨h0,b,h1,h2⟩:=h
  have hu:=(hD t).Ut hk
  refine .pure R (v:=.int .u8 b.toNat) ?_ h2 (.aI (.int _ _))
  have hg:(ByteArray.mk ⟨s⟩)[n.toNat]?=some b:=by
   have hl:n.toNat<s.length:=(List.getElem?_eq_some_iff.1 h1).1
   rw[getElem?_pos (ByteArray.mk ⟨s⟩) n.toNat (show n.toNat<(ByteArray.mk ⟨s⟩).size from hl)]
   have:=(List.getElem?_eq_some_iff.1 h1).2
   exact congrArg some this
  simp[execOp,ho,hv,hi,Instr.index,asIntOf,run_underlying hu,h0,hg]
 ·rename_i m e cs k n hk e1 e2
  rw[e1]at hx;rw[e2]at hi
  have hi:=hi.int
  obtain⟨hke,h0,hm,h1,hs,h4⟩:=h
  have hu:=(hD t).arr hk
  obtain⟨vs,hv,hr⟩:=hx
  obtain⟨v,g1,g2⟩:=Nw (P:=P) (w:=w) (hD e) hke hr (n.toNat*(D e).size) (by rw[Nat.add_mul]at h1;omega) hs
  refine .pure R (v:=v) ?_ h4 (Ny g2)
  simp[execOp,ho,hv,hi,Instr.index,asIntOf,run_underlying hu,h0,hm,(hD e).dz hke,g1]
 ·exact h.elim
theorem Y3{t:TypeId}{x:Operand}{o:Oper}{K:KT}(ho:o.op=.call { callee:=.builtin .len,args:=#[x],argTypes:=#[t] })(hD:∀t,fB P t (D t))(R:Rel base ah w0 S blk a w)(h:qL D t (S.ev x) S.objs K) :
  Out P base ah w0 S o a w K:=by
 have hx:=R.ev x
 unfold qL at h
 split at h
 ·rename_i s hk e1
  rw[e1]at hx
  have hv:=hx.str
  exact .pure R (v:=.int .i64 s.length) (by simp[execOp,ho,resolve,invoke,builtin,hv,Builtin.len_,run_underlying ((hD t).Ut hk),goInt,size_mk]) h (.aI (.int _ _))
 ·rename_i e sz xs q hk e1
  rw[e1]at hx
  have hx':=hx.sl
  generalize hv:a.eval x=v at hx'
  refine .pure R (v:=.int .i64 xs.length) ?_ h (.aI (.int _ _))
  cases hx'<;>simp[execOp,ho,resolve,invoke,builtin,hv,Builtin.len_,run_underlying ((hD t).slice hk),goInt]
 ·rename_i e k ver hk e1
  rw[e1]at hx
  obtain⟨ob,h1,h2,h3,h4⟩:=h
  have hh:=hx.aS h1 h2 h3
  refine .pure R (v:=.int .i64 ob.xs.length) ?_ h4 (.aI (.int _ _))
  unfold vL at hh
  cases hb:blk k with
  | none=>
   rw[hb]at hh
   obtain⟨hv,hn⟩:=hh
   simp[execOp,ho,resolve,invoke,builtin,hv,hn,Builtin.len_,run_underlying ((hD t).slice hk),goInt]
  | some g=>
   rw[hb]at hh
   obtain⟨cap,c,hv,_,_⟩:=hh
   simp[execOp,ho,resolve,invoke,builtin,hv,Builtin.len_,run_underlying ((hD t).slice hk),goInt]
 ·exact h.elim
theorem qU{x:Operand}{d:Int}{K:Int→Prop}(R:Rel base ah w0 S blk a w)(h:cK (some (S.ev x)) d K):∃k n,a.eval x=.int k n∧K n:=by
 have hx:=R.ev x
 unfold cK at h
 split at h
 ·rename_i heq;cases heq
 ·rename_i k n heq
  simp only[Option.some.injEq]at heq
  rw[heq]at hx
  exact⟨k,n,hx.int,h⟩
 ·exact h.elim
theorem run_sliceBound{v:Value}{k:IntKind}{n:Int}{y:Nat}{code:BoundsCode}(hv:v=.int k n)(h0:0≤n)(h1:n≤y):(Instr.sliceBound v y code).run P w=.ok n.toNat w:=by
 subst hv
 simp[Instr.sliceBound,asIntOf,h0,h1]
theorem qV(d:Int)(K:Int→Prop):cK none d K=K d:=rfl
theorem qg{lo hi:Option Operand}{len cap:Nat}{b:Bool}{K:Int→Int→Prop}(R:Rel base ah w0 S blk a w)(hlc:len≤cap)
  (h:cK (lo.map S.ev) 0 λl=>cK (hi.map S.ev) len λh=>0≤l∧l≤h∧h≤len∧K l h) :
  ∃l h:Int,(Instr.sliceBounds b len cap (lo.map a.eval) (hi.map a.eval) none).run P w=.ok (l.toNat,h.toNat,cap) w∧0≤l∧l≤h∧h≤len∧K l h:=by
 cases lo with
 | none=>
  rw[map_none,qV]at h
  cases hi with
  | none=>
   rw[map_none,qV]at h
   exact⟨0,len,by simp[Instr.sliceBounds],h⟩
  | some y=>
   obtain⟨k,n,hv,h⟩:=qU R h
   exact⟨0,n,by simp[Instr.sliceBounds,run_sliceBound hv (by omega) (show n≤(cap:Int) by omega)],h⟩
 | some x=>
  obtain⟨k,n,hv,h⟩:=qU R h
  cases hi with
  | none=>
   rw[map_none,qV]at h
   exact⟨n,len,by simp[Instr.sliceBounds,run_sliceBound hv h.1 (show n≤(len:Int) by omega)],h⟩
  | some y=>
   obtain⟨k',m,hv',h⟩:=qU R h
   exact⟨n,m,by simp[Instr.sliceBounds,run_sliceBound hv' (by omega) (show m≤(cap:Int) by omega),run_sliceBound hv h.1 (show n≤((m.toNat:Nat):Int) by omega)],h⟩
theorem extract_mk(s:List UInt8)(l h:Nat):(ByteArray.mk ⟨s⟩).extract l h=ByteArray.mk ⟨(s.take h).drop l⟩:=by
 apply ByteArray.ext
 rw[ByteArray.data_extract]
 apply Array.ext'
 simp[List.drop_take]
end
end Lp
namespace Lp
open Go
section
variable {P:Program}{base ah:Nat→Prop}{w0:Wz}{S:St}{blk:Nat→Option Nat}{a:Act}{w:World}{D:TypeId→aD}{objs:List Obj}
theorem Rel.change {w':World}{ai:List Obj}{ak:Nat→Option Nat}(R:Rel base ah w0 S blk a w)(hs:w.heap.size≤w'.heap.size)
  (hw:∀b x,aK S.objs blk b→w.heap[b]?=some x→w'.heap[b]?=some x) (hok:∀b,b<w.heap.size→aZ base S.objs blk b→aZ base ai ak b)
  (ho:nM w w' S.objs ai blk ak) (m_:cO base ah ai ak w') (hsm:Sm w w'):Rel base ah w0 ⟨S.tmps,ai⟩ ak a w':=by
 refine⟨R.oC.mono (λb hb h=>⟨hok b hb h.1,h.2⟩) (λb x h=>hw b x h.1.2),R.EB,λt p hp=>(R.tm t p hp).mono hs hok (λb x h=>hw b x h.2) ho,m_,R.pr,λb hb=>?_,Nat.le_trans R.gr hs,R.pb,λx hx=>(R.ext x hx).mono hs hok (λb x h=>hw b x h.2) ho,R.yQ,R.sm.trans hsm,R.gl⟩
 have h1:=R.fr b hb
 have h2:=R.pr b hb
 cases hx:w0.heap[b]? with
 | none=>rw[Array.getElem?_eq_none_iff]at hx;omega
 | some x=>
  rw[hx]at h1
  rw[hw b x (λk o h1 h2 h3=>R.objs.np k o b h1 h2 h3 hb) h1]
def aF(blk:Nat→Option Nat)(n:Nat)(g:Option Nat):Nat→Option Nat:=λj=>if j=n then g else blk j
theorem mG{o1:Obj}{k:Nat}{o:Obj}(h:(objs++[o1])[k]?=some o):(k<objs.length∧objs[k]?=some o)∨(k=objs.length∧o=o1):=by
 rw[List.getElem?_append]at h
 split at h
 ·rename_i hk;exact .inl ⟨hk,h⟩
 ·rename_i hk
  have:k-objs.length=0:=by
   cases hj:k-objs.length with
   | zero=>rfl
   | succ j=>rw[hj]at h;simp at h
  rw[this]at h
  simp at h
  exact .inr ⟨by omega,h.symm⟩
theorem Rel.CS {w':World}{o1:Obj}{gb:Option Nat}(R:Rel base ah w0 S blk a w)(hg:kr w w')(hgb:∀g,gb=some g→w.heap.size≤g)
  (m_:(∀p v,aV w (aZ base S.objs blk) S.objs blk p v→aV w' (aZ base (S.objs++[o1]) (aF blk S.objs.length gb)) (S.objs++[o1]) (aF blk S.objs.length gb) p v)→
   bB w' (aZ base (S.objs++[o1]) (aF blk S.objs.length gb)) (S.objs++[o1]) (aF blk S.objs.length gb) S.objs.length o1) :
  Rel base ah w0 ⟨S.tmps,S.objs++[o1]⟩ (aF blk S.objs.length gb) a w':=by
 have hb:∀k,k<S.objs.length→aF blk S.objs.length gb k=blk k:=λk hk=>by unfold aF;rw[if_neg (by omega)]
 have hb':aF blk S.objs.length gb S.objs.length=gb:=by unfold aF;rw[if_pos rfl]
 have hold:∀(k:Nat) (o:Obj),S.objs[k]?=some o→(S.objs++[o1])[k]?=some o:=by
  intro k o h
  have hk:=(List.getElem?_eq_some_iff.1 h).1
  rw[List.getElem?_append,if_pos hk];exact h
 have ho:nM w w' S.objs (S.objs++[o1]) blk (aF blk S.objs.length gb):=by
  intro k o h
  have hk:=(List.getElem?_eq_some_iff.1 h).1
  exact⟨o,hold k o h,Nat.le_refl _,λhl _=>⟨hl,hb k hk,rfl,rfl,λ_=>rfl,λg c _ hc=>⟨c,hg.2.1 g _ hc,rfl⟩⟩⟩
 have hlt:∀(k:Nat) (o:Obj) (g:Nat),S.objs[k]?=some o→o.live=true→blk k=some g→g<w.heap.size:=by
  intro k o g h1 h2 h3
  have:=R.objs.ob k o h1 h2
  unfold bB at this
  rw[h3]at this
  obtain⟨c,x,_⟩:=this
  exact (Array.getElem?_eq_some_iff.1 x).1
 have hok:∀b,b<w.heap.size→aZ base S.objs blk b→aZ base (S.objs++[o1]) (aF blk S.objs.length gb) b:=by
  intro b hbl hb0
  refine⟨hb0.1,λk o h1 h2=>?_⟩
  rcases mG h1 with ⟨hk,h1⟩ | ⟨rfl,rfl⟩
  ·rw[hb k hk];exact hb0.2 k o h1 h2
  ·rw[hb'];intro e;have:=hgb b e;omega
 refine R.change hg.1 (λb x _ h=>hg.2.1 b x h) hok ho ⟨?_,?_,?_⟩ hg.2.2
 ·intro k o h1 h2
  rcases mG h1 with ⟨hk,h1'⟩ | ⟨rfl,rfl⟩
  ·have hh:=R.objs.ob k o h1' h2
   unfold bB at hh ⊢
   rw[hb k hk]
   cases hbk:blk k with
   | none=>rw[hbk]at hh;exact hh
   | some g=>
    rw[hbk]at hh
    obtain⟨c',x1,x2,x3⟩:=hh
    refine⟨c',hg.2.1 g _ x1,x2,λi x hx=>⟨(x3 i x hx).1,λj p hp=>?_⟩⟩
    obtain⟨v,y1,y2⟩:=(x3 i x hx).2 j p hp
    exact⟨v,y1,y2.mono hg.1 hok (λb x _ h=>hg.2.1 b x h) ho⟩
  ·exact m_ λp v h=>h.mono hg.1 hok (λb x _ h=>hg.2.1 b x h) ho
 ·intro k k' o o' g hne h1 h2 h3 h4 h5 h6
  rcases mG h1 with ⟨hk,h1'⟩ | ⟨ek,_⟩
  ·rw[hb k hk]at h5
   rcases mG h3 with ⟨hk',h3'⟩ | ⟨ek',_⟩
   ·rw[hb k' hk']at h6
    exact R.objs.zV k k' o o' g hne h1' h2 h3' h4 h5 h6
   ·rw[ek',hb']at h6
    have:=hlt k o g h1' h2 h5
    have:=hgb g h6
    omega
  ·rw[ek,hb']at h5
   rcases mG h3 with ⟨hk',h3'⟩ | ⟨ek',_⟩
   ·rw[hb k' hk']at h6
    have:=hlt k' o' g h3' h4 h6
    have:=hgb g h5
    omega
   ·exact hne (ek.trans ek'.symm)
 ·intro k o g h1 h2 h3 h4
  rcases mG h1 with ⟨hk,h1'⟩ | ⟨ek,_⟩
  ·rw[hb k hk]at h3;exact R.objs.np k o g h1' h2 h3 h4
  ·rw[ek,hb']at h3
   have:=R.pr g h4
   have:=R.gr
   have:=hgb g h3
   omega
theorem Rel.K5 {w':World}{sz:Nat}{xs:List PV}{ty:TypeId}{gb:Option Nat}(R:Rel base ah w0 S blk a w)(hg:kr w w')(hgb:∀g,gb=some g→w.heap.size≤g)
  (hx:match gb with
   | none=>xs=[]
   | some g=>∃c,w'.heap[g]?=some (m_ ty sz c)∧fits ⟨ty,sz,xs,true,1⟩ c∧
     ∀(i:Nat) (x:PV),xs[i]?=some x→x.cells.length=sz∧∀(j:Nat) (p:PV),x.cells[j]?=some p→∃v,c[i*sz+j]?=some v∧aV w (aZ base S.objs blk) S.objs blk p v) :
  Rel base ah w0 ⟨S.tmps,newObj S.objs ty sz xs⟩ (aF blk S.objs.length gb) a w':=by
 refine R.CS (o1:=⟨ty,sz,xs,true,1⟩) hg hgb λhr=>?_
 unfold bB
 have hb':aF blk S.objs.length gb S.objs.length=gb:=by unfold aF;rw[if_pos rfl]
 rw[hb']
 cases gb with
 | none=>exact hx
 | some g=>
  obtain⟨c,hnew,hl,hx⟩:=hx
  refine⟨c,hnew,hl,λi x hxi=>⟨(hx i x hxi).1,λj p hp=>?_⟩⟩
  obtain⟨v,y1,y2⟩:=(hx i x hxi).2 j p hp
  exact⟨v,y1,hr _ _ y2⟩
theorem Rel.newObj {w':World}{sz:Nat}{xs:List PV}{c:Array Value}{ty:TypeId}(R:Rel base ah w0 S blk a w)(hw:w'.heap=w.heap.push (m_ ty sz c))(hsm:Sm w w')
  (hl:fits ⟨ty,sz,xs,true,1⟩ c)
  (hx:∀(i:Nat) (x:PV),xs[i]?=some x→x.cells.length=sz∧∀(j:Nat) (p:PV),x.cells[j]?=some p→∃v,c[i*sz+j]?=some v∧aV w (aZ base S.objs blk) S.objs blk p v) :
  Rel base ah w0 ⟨S.tmps,newObj S.objs ty sz xs⟩ (aF blk S.objs.length (some w.heap.size)) a w':=
 R.K5 (.push hw hsm) (λg h=>by cases h;exact Nat.le_refl _) ⟨c,by rw[hw];simp,hl,hx⟩
theorem Rel.setObj {w':World}{k:Nat}{o o':Obj}{gb:Option Nat}(R:Rel base ah w0 S blk a w)(hsm:Sm w w')(h1:S.objs[k]?=some o)(h2:o.live=true)(hl':o'.live=true)
  (hs:w.heap.size≤w'.heap.size) (hw:∀b x,blk k≠some b→w.heap[b]?=some x→w'.heap[b]?=some x)
  (hg:∀g,gb=some g→blk k=some g∨w.heap.size≤g)
  (hv:o.ver≤o'.ver) (hsame:o'.ver=o.ver→gb=blk k∧o'.sz=o.sz∧o'.ty=o.ty∧(o.ty≠MT→o'.xs.length=o.xs.length)∧∀g c,blk k=some g→w.heap[g]?=some (.cells c o.ty (0,0))→∃c',w'.heap[g]?=some (.cells c' o.ty (0,0))∧c'.size=c.size)
  (m_:(∀p v,aV w (aZ base S.objs blk) S.objs blk p v→aV w' (aZ base (S.objs.set k o') (aF blk k gb)) (S.objs.set k o') (aF blk k gb) p v)→
   bB w' (aZ base (S.objs.set k o') (aF blk k gb)) (S.objs.set k o') (aF blk k gb) k o') :
  Rel base ah w0 ⟨S.tmps,S.objs.set k o'⟩ (aF blk k gb) a w':=by
 have hk:k<S.objs.length:=(List.getElem?_eq_some_iff.1 h1).1
 have hbk:aF blk k gb k=gb:=by unfold aF;rw[if_pos rfl]
 have YP:∀j,j≠k→aF blk k gb j=blk j:=λj hj=>by unfold aF;rw[if_neg hj]
 have hget:∀(j:Nat) (ob:Obj),(S.objs.set k o')[j]?=some ob→(j=k∧ob=o')∨(j≠k∧S.objs[j]?=some ob):=by
  intro j ob h
  rw[List.getElem?_set]at h
  split at h
  ·rename_i e;subst e;simp at h;exact .inl ⟨rfl,h.symm⟩
  ·rename_i e;exact .inr ⟨λh=>e h.symm,h⟩
 have hlt:∀(j:Nat) (ob:Obj) (g:Nat),S.objs[j]?=some ob→ob.live=true→blk j=some g→g<w.heap.size:=by
  intro j ob g h1 h2 h3
  have:=R.objs.ob j ob h1 h2
  unfold bB at this
  rw[h3]at this
  obtain⟨c,x,_⟩:=this
  exact (Array.getElem?_eq_some_iff.1 x).1
 have hother:∀(j:Nat) (ob:Obj) (g:Nat),j≠k→S.objs[j]?=some ob→ob.live=true→blk j=some g→blk k≠some g:=
  λj ob g hj g1 g2 g3 g4=>R.objs.zV j k ob o g hj g1 g2 h1 h2 g3 g4
 have ho:nM w w' S.objs (S.objs.set k o') blk (aF blk k gb):=by
  intro j ob h
  by_cases hj:j=k
  ·subst hj
   rw[h1]at h;cases h
   refine⟨o',by rw[List.getElem?_set];simp[hk],hv,λ_ e=>?_⟩
   obtain⟨e1,e2,e3,e4,e5⟩:=hsame e
   exact⟨h2,by rw[hbk,e1],e2,e3,e4,e5⟩
  ·refine⟨ob,by rw[List.getElem?_set,if_neg (λe=>hj e.symm)];exact h,Nat.le_refl _,λhl _=>⟨hl,YP j hj,rfl,rfl,λ_=>rfl,λg c hg hc=>⟨c,hw g _ ?_ hc,rfl⟩⟩⟩
   exact hother j ob g hj h hl hg
 have hok:∀b,b<w.heap.size→aZ base S.objs blk b→aZ base (S.objs.set k o') (aF blk k gb) b:=by
  intro b hb h0
  refine⟨h0.1,λj ob g1 g2 g3=>?_⟩
  rcases hget j ob g1 with ⟨rfl,rfl⟩ | ⟨hj,g1⟩
  ·rw[hbk]at g3
   rcases hg b g3 with h | h
   ·exact h0.2 j o h1 h2 h
   ·omega
  ·rw[YP j hj]at g3;exact h0.2 j ob g1 g2 g3
 have hw':∀b x,aK S.objs blk b→w.heap[b]?=some x→w'.heap[b]?=some x:=λb x h0 hx=>hw b x (h0 k o h1 h2) hx
 refine R.change hs hw' hok ho ⟨?_,?_,?_⟩ hsm
 ·intro j ob g1 g2
  rcases hget j ob g1 with ⟨rfl,rfl⟩ | ⟨hj,g1⟩
  ·exact m_ λp v h=>h.mono hs hok (λb x h=>hw' b x h.2) ho
  ·have hh:=R.objs.ob j ob g1 g2
   unfold bB at hh ⊢
   rw[YP j hj]
   cases hbj:blk j with
   | none=>rw[hbj]at hh;exact hh
   | some g=>
    rw[hbj]at hh
    obtain⟨c',x1,x2,x3⟩:=hh
    refine⟨c',hw g _ (hother j ob g hj g1 g2 hbj) x1,x2,λi x hx=>⟨(x3 i x hx).1,λm p hp=>?_⟩⟩
    obtain⟨v,y1,y2⟩:=(x3 i x hx).2 m p hp
    exact⟨v,y1,y2.mono hs hok (λb x h=>hw' b x h.2) ho⟩
 ·intro j j' ob ob' g hne g1 g2 g3 g4 g5 g6
  rcases hget j ob g1 with ⟨ej,eo⟩ | ⟨hj,g1'⟩
  ·rcases hget j' ob' g3 with ⟨ej',_⟩ | ⟨hj',g3'⟩
   ·exact hne (ej.trans ej'.symm)
   ·rw[ej,hbk]at g5;rw[YP j' hj']at g6
    rcases hg g g5 with h | h
    ·exact R.objs.zV k j' o ob' g (λe=>hj' e.symm) h1 h2 g3' g4 h g6
    ·have:=hlt j' ob' g g3' g4 g6;omega
  ·rcases hget j' ob' g3 with ⟨ej',_⟩ | ⟨hj',g3'⟩
   ·rw[ej',hbk]at g6;rw[YP j hj]at g5
    rcases hg g g6 with h | h
    ·exact R.objs.zV j k ob o g hj g1' g2 h1 h2 g5 h
    ·have:=hlt j ob g g1' g2 g5;omega
   ·rw[YP j hj]at g5;rw[YP j' hj']at g6
    exact R.objs.zV j j' ob ob' g hne g1' g2 g3' g4 g5 g6
 ·intro j ob g g1 g2 g3 g4
  rcases hget j ob g1 with ⟨rfl,rfl⟩ | ⟨hj,g1⟩
  ·rw[hbk]at g3
   rcases hg g g3 with h | h
   ·exact R.objs.np j o g h1 h2 h g4
   ·have:=R.pr g g4
    have:=R.gr
    omega
  ·rw[YP j hj]at g3;exact R.objs.np j ob g g1 g2 g3 g4
end
end Lp
namespace Lp
open Go
section
variable {P:Program}{base ah:Nat→Prop}{w0:Wz}{S:St}{blk:Nat→Option Nat}{a:Act}{w:World}{D:TypeId→aD}{objs:List Obj}{ok:Nat→Prop}
theorem ku{p:PV}{v:Value}(h:aV w ok objs blk p v)(hp:p.storable=true):v.oneCell'=true∧p.isAgg=false:=by
 cases p with
 | dead=>simp[PV.storable,PV.mD]at hp
 | agg cs=>simp[PV.storable,PV.mD]at hp
 | bY cs=>simp[PV.storable,PV.mD]at hp
 | cl sz xs=>simp[PV.storable,PV.mD]at hp
 | aS k ver=>exact⟨h.1,rfl⟩
 | bf k ver i f=>exact⟨h.1,rfl⟩
 | fM k ver=>exact⟨h.1,rfl⟩
 | _=>
  refine⟨?_,rfl⟩
  have h':cu w ok _ v:=h
  cases h'<;>rfl
theorem si{p:PV}{v:Value}(h:aO w ok objs blk p v)(hp:p.storable=true):aV w ok objs blk p v:=by
 cases p with
 | fn f a c=>simp only[PV.storable,PV.mD,PV.ref,Bool.true_and,Bool.false_or]at hp;exact .aI (h.zo hp)
 | agg cs=>simp[PV.storable,PV.mD]at hp
 | bY cs=>simp[PV.storable,PV.mD]at hp
 | _=>exact h
theorem jL{p:PV}{v:Value}(h:aO w ok objs blk p v)(hp:p.cells.all PV.storable=true) :
  ∃vs:List Value,v.cells=⟨vs⟩∧bG (aV w ok objs blk) p.cells vs∧∀u∈vs,u.oneCell'=true:=by
 have one:∀(cs:List PV) (vs:List Value),cs.all PV.storable=true→bG (aV w ok objs blk) cs vs→∀u∈vs,u.oneCell'=true:=by
  intro cs vs hc hr u hu
  obtain⟨i,hi,rfl⟩:=List.mem_iff_getElem.1 hu
  have hi':i<cs.length:=by rw[hr.1];exact hi
  exact (ku (hr.2 i _ _ (List.getElem?_eq_getElem hi') (List.getElem?_eq_getElem hi)) (List.all_eq_true.1 hc _ (List.getElem_mem hi'))).1
 cases hx:p.isAgg with
 | true=>
  obtain⟨cs,rfl⟩:∃cs,p=.agg cs:=by cases p<;>simp[PV.isAgg]at hx;exact⟨_,rfl⟩
  obtain⟨vs,rfl,hr⟩:=h
  exact⟨vs,rfl,hr,one cs vs hp hr⟩
 | false=>
  have hc:p.cells=[p]:=by cases p<;>simp[PV.isAgg]at hx<;>rfl
  rw[hc]at hp ⊢
  simp only[List.all_cons,List.all_nil,Bool.and_true]at hp
  have hs:=si h hp
  have h1:=(ku hs hp).1
  have hv:v.cells=#[v]:=by cases v<;>simp[Value.oneCell']at h1<;>rfl
  refine⟨[v],hv,⟨rfl,λi q u h1 h2=>?_⟩,λu hu=>by simp at hu;exact hu ▸ h1⟩
  cases i with
  | zero=>simp at h1 h2;subst h1;subst h2;exact hs
  | succ i=>simp at h1
theorem bG.get {R:PV→Value→Prop}{cs:List PV}{vs:List Value}(h:bG R cs vs){j:Nat}{p:PV}(hp:cs[j]?=some p):∃v,vs[j]?=some v∧R p v:=by
 have hj:j<cs.length:=(List.getElem?_eq_some_iff.1 hp).1
 have hj':j<vs.length:=by rw[←h.1];exact hj
 exact⟨vs[j],List.getElem?_eq_getElem hj',h.2 j p _ hp (List.getElem?_eq_getElem hj')⟩
theorem Out.new {o:Oper}{K:KT}{ty:TypeId}{sz:Nat}{xs:List PV}{c:Array Value}{w':World}{r:PV}{v:Value}(R:Rel base ah w0 S blk a w)
  (hty:ty≠MT) (hw:w'.heap=w.heap.push (.cells c ty (0,0))) (hsm:Sm w w') (h:(execOp a.eval o).run P w=.ok (.value v) w') (hl:xs.length*sz≤c.size)
  (hx:∀(i:Nat) (x:PV),xs[i]?=some x→x.cells.length=sz∧∀(j:Nat) (p:PV),x.cells[j]?=some p→∃v,c[i*sz+j]?=some v∧aV w (aZ base S.objs blk) S.objs blk p v)
  {t:Nat}(hK:K r (newObj S.objs ty sz xs) t)
  (hr:aO w' (aZ base (newObj S.objs ty sz xs) (aF blk S.objs.length (some w.heap.size))) (newObj S.objs ty sz xs) (aF blk S.objs.length (some w.heap.size)) r v):Out P base ah w0 S o a w K:=
 ⟨v,w',r,_,t,_,.inl h,hK,R.newObj (by rw[jv hty];exact hw) hsm (qQ hty hl) hx,hr,.of λi x hxi j p hp=>by
  obtain⟨v,_,h⟩:=(hx i x hxi).2 j p hp
  exact oF h⟩
theorem xO(objs:List Obj)(ty:TypeId)(sz:Nat)(xs:List PV):(newObj objs ty sz xs)[objs.length]?=some ⟨ty,sz,xs,true,1⟩:=by
 unfold newObj;simp
theorem Nz{sz:Nat}{p:PV}{vs:List Value}{R:PV→Value→Prop}(hp:p.cells.length=sz)(hr:bG R p.cells vs) :
  ∀(i:Nat) (x:PV),[p][i]?=some x→x.cells.length=sz∧∀(j:Nat) (q:PV),x.cells[j]?=some q→∃v,(Array.mk vs)[i*sz+j]?=some v∧R q v:=by
 intro i x hx
 cases i with
 | zero=>
  simp at hx;subst hx
  refine⟨hp,λj q hq=>?_⟩
  obtain⟨v,h1,h2⟩:=hr.get hq
  exact⟨v,by simpa using h1,h2⟩
 | succ i=>simp at hx
theorem Bd(objs:List Obj)(blk:Nat→Option Nat)(ty:TypeId)(sz:Nat)(xs:List PV)(w:World)(ok:Nat→Prop)(g:Nat)(hty:ty≠MT) :
  aO w ok (newObj objs ty sz xs) (aF blk objs.length (some g)) (.bf objs.length 1 0 0) (.pointer (some ⟨g,0,none⟩)):=
 ⟨rfl,_,xO objs ty sz xs,Nat.le_refl _,λ_ _=>⟨hty,g,by unfold aF;rw[if_pos rfl],by simp⟩⟩
theorem Uv{t:TypeId}{o:Oper}{K:KT}(ho:o.op=.alloc t)(hD:∀t,fB P t (D t))(R:Rel base ah w0 S blk a w)(h:rJ t (D t) S.objs K) :
  Out P base ah w0 S o a w K:=by
 obtain⟨hk,h1,h2,h3⟩:=h
 obtain⟨i,hi,_,_,hz⟩:=(hD t).info hk
 obtain⟨vs,hv,hr,_⟩:=jL (w:=w) (ok:=aZ base S.objs blk) (objs:=S.objs) (blk:=blk) (.aI (tV w _ (D t).zero)) h2
 refine Out.new (w':={ w with heap:=w.heap.push (.cells ⟨vs⟩ t (0,0)) }) (v:=.pointer (some ⟨w.heap.size,0,none⟩)) R ((hD t).notM hk) rfl ⟨rfl,rfl⟩ ?_ ?_ (Nz h1 hr) h3 (Bd _ _ _ _ _ _ _ _ ((hD t).notM hk))
 ·simp[execOp,ho,Instr.alloc,zeroValue,typeInfo,hi,hz,newVar,newRow,hv]
 ·have:=hr.1
  simp[←h1]at this ⊢;simp[aL,this]
theorem Y4{t:TypeId}{x:Operand}{o:Oper}{K:KT}(ho:o.op=.box t x)(hD:∀t,fB P t (D t))(R:Rel base ah w0 S blk a w)(h:K3 t (D t) (S.ev x) S.objs K) :
  Out P base ah w0 S o a w K:=by
 obtain⟨hk,h1,h2,h3⟩:=h
 obtain⟨vs,hv,hr,_⟩:=jL (R.ev x) h2
 refine Out.new (w':={ w with heap:=w.heap.push (.cells ⟨vs⟩ t (0,0)) }) (v:=.pointer (some ⟨w.heap.size,0,none⟩)) R ((hD t).notM hk) rfl ⟨rfl,rfl⟩ ?_ ?_ (Nz h1 hr) h3 (Bd _ _ _ _ _ _ _ _ ((hD t).notM hk))
 ·simp[execOp,ho,Instr.box,newVar,newRow,hv]
 ·have:=hr.1
  simp[←h1]at this ⊢;omega
theorem jM{α:Type}(l vs:List α)(o q:Nat)(h:o+vs.length≤l.length) :
  (l.take o++vs++l.drop (o+vs.length))[q]?=if q<o then l[q]? else if q<o+vs.length then vs[q-o]? else l[q]?:=by
 have ht:(l.take o).length=o:=by simp;omega
 rw[List.append_assoc,List.getElem?_append,ht]
 split
 ·rename_i hq;rw[List.getElem?_take,if_pos hq]
 ·rename_i hq
  rw[List.getElem?_append]
  split
  ·rename_i hq2
   rw[if_pos (by omega)]
  ·rename_i hq2
   rw[if_neg (by omega),List.getElem?_drop]
   congr 1;omega
theorem FN{e:PV}{f:Nat}{vs:List PV}(hl:f+vs.length≤e.cells.length)(h1:e.isAgg=false→vs.length=1)(hs:vs.all PV.storable=true) :
  (e.putCells f vs).cells=e.cells.take f++vs++e.cells.drop (f+vs.length):=by
 cases hx:e.isAgg with
 | true=>
  obtain⟨cs,rfl⟩:∃cs,e=.agg cs:=by cases e<;>simp[PV.isAgg]at hx;exact⟨_,rfl⟩
  rfl
 | false=>
  have hc:e.cells=[e]:=by cases e<;>simp[PV.isAgg]at hx<;>rfl
  have hn:=h1 hx
  have hf:f=0:=by rw[hc]at hl;simp at hl;omega
  subst hf
  obtain⟨p,rfl⟩:∃p,vs=[p]:=by
   match vs,hn with
   | [p],_=>exact⟨p,rfl⟩
  have hp:p.isAgg=false:=by
   simp only[List.all_cons,List.all_nil,Bool.and_true]at hs
   cases p<;>simp[PV.storable,PV.mD,PV.isAgg]at hs ⊢
  have hpc:p.cells=[p]:=by cases p<;>simp[PV.isAgg]at hp<;>rfl
  rw[hc]
  have:e.putCells 0 [p]=p:=by cases e<;>simp[PV.isAgg]at hx<;>rfl
  rw[this,hpc]
  simp
theorem Uw{t:TypeId}{x y:Operand}{o:Oper}{K:KT}(ho:o.op=.store t x y)(hD:∀t,fB P t (D t))(R:Rel base ah w0 S blk a w)(h:jo (D t) (S.ev x) (S.ev y) S.objs K) :
  Out P base ah w0 S o a w K:=by
 have hx:=R.ev x
 have hy:=R.ev y
 unfold jo at h
 split at h
 ·rename_i k ver i f e
  rw[e]at hx
  obtain⟨ob,el,h1,h2,h3,h4,hk,h5,h6,h7,h8,h9⟩:=h
  obtain⟨g,hb,hv,hty⟩:=hx.bf h1 h2 h3
  obtain⟨vs,hc,hr,hone⟩:=jL hy h8
  have tZ:=R.objs.ob k ob h1 h2
  unfold bB at tZ
  rw[hb]at tZ
  obtain⟨c,x1,⟨x2,_⟩,x3⟩:=tZ
  rw[jv hty]at x1
  obtain⟨y1,y2⟩:=x3 i el h4
  have hn:vs.length=(D t).size:=by rw[←hr.1,h5]
  have hi:i<ob.xs.length:=(List.getElem?_eq_some_iff.1 h4).1
  have hmul:(i+1)*ob.sz≤ob.xs.length*ob.sz:=Nat.mul_le_mul_right _ (by omega)
  rw[Nat.add_mul,Nat.one_mul]at hmul
  have hfit:i*ob.sz+f+vs.length≤c.toList.length:=by simp;omega
  have hst:=run_storeCells_at P g (i*ob.sz+f) ob.ty vs 0 c w x1 (by simpa using hfit) hone
  rw[Nat.add_zero]at hst
  have hrun:(execOp a.eval o).run P w=.ok .skip (w.setRow g (c.toList.take (i*ob.sz+f)++vs++c.toList.drop (i*ob.sz+f+vs.length)).toArray):=by
   simp only[execOp,ho,hv,Instr.storeAt,Instr.sureAddr,storeVar,Sem.run_bind,Sem.run_pure,Result.andThen_ok,(hD t).dz hk,hc]
   simp[hn,hst]
  have hheap:(w.setRow g (c.toList.take (i*ob.sz+f)++vs++c.toList.drop (i*ob.sz+f+vs.length)).toArray).heap[g]?=some (.cells (c.toList.take (i*ob.sz+f)++vs++c.toList.drop (i*ob.sz+f+vs.length)).toArray ob.ty (0,0)):=
   setRow_heap w g c _ _ _ x1
  have hsize:(c.toList.take (i*ob.sz+f)++vs++c.toList.drop (i*ob.sz+f+vs.length)).toArray.size=c.size:=by
   simp at hfit ⊢;omega
  have hcells:=FN (e:=el) (f:=f) (vs:=(S.ev y).cells) (by rw[h5];exact h6) (λhh=>by rw[h5];exact h7 hh) h8
  refine⟨undef,_,.dead,_,_,aF blk k (blk k),.inr ⟨hrun,rfl⟩,h9,?_,.aI (.dead _),.same (by simp)⟩
  refine R.setObj (by first | exact⟨rfl,rfl⟩ | (unfold World.setRow;split<;>exact⟨rfl,rfl⟩)) h1 h2 h2 (by simp[World.setRow]) ?_ (λg' hg'=>.inl hg') (Nat.le_refl _) ?_ ?_
  ·intro b z hbz hz
   rw[setRow_other w g b _ (λe=>hbz (by rw[hb,e]))];exact hz
  ·intro _
   refine⟨rfl,rfl,rfl,λ_=>by simp,λg' c' hg' hc'=>?_⟩
   rw[hb]at hg';cases hg'
   rw[x1]at hc';cases hc'
   exact⟨_,hheap,hsize⟩
  ·intro hmono
   unfold bB
   have hbk:aF blk k (blk k) k=some g:=by unfold aF;rw[if_pos rfl,hb]
   rw[hbk]
   refine⟨_,by rw[jv (ty:=ob.ty) hty];exact hheap,qQ hty (by rw[hsize];simpa using x2),λi' x' hx'=>?_⟩
   simp only at hx'
   rw[List.getElem?_set]at hx'
   by_cases hii:i=i'
   ·subst hii
    simp[hi]at hx'
    subst hx'
    refine⟨?_,λj p hp=>?_⟩
    ·rw[hcells];simp;rw[h5]at *;rw[←y1];omega
    ·rw[hcells,jM _ _ _ _ (by rw[h5];exact h6)]at hp
     have hj:∀q,(c.toList.take (i*ob.sz+f)++vs++c.toList.drop (i*ob.sz+f+vs.length)).toArray[q]?=if q<i*ob.sz+f then c.toList[q]? else if q<i*ob.sz+f+vs.length then vs[q-(i*ob.sz+f)]? else c.toList[q]?:=by
      intro q;rw[List.getElem?_toArray,jM _ _ _ _ hfit]
     show ∃v,(c.toList.take (i*ob.sz+f)++vs++c.toList.drop (i*ob.sz+f+vs.length)).toArray[i*ob.sz+j]?=some v∧_
     rw[hj]
     by_cases hj1:j<f
     ·rw[if_pos hj1]at hp
      rw[if_pos (by omega)]
      obtain⟨v,z1,z2⟩:=y2 j p hp
      exact⟨v,by simpa using z1,hmono _ _ z2⟩
     ·rw[if_neg hj1]at hp
      rw[if_neg (by omega)]
      by_cases hj2:j<f+(S.ev y).cells.length
      ·rw[if_pos hj2]at hp
       rw[if_pos (by rw[hn,←h5];omega)]
       obtain⟨v,z1,z2⟩:=hr.get hp
       exact⟨v,by rw[←z1];congr 1;omega,hmono _ _ z2⟩
      ·rw[if_neg hj2]at hp
       rw[if_neg (by rw[hn,←h5];omega)]
       obtain⟨v,z1,z2⟩:=y2 j p hp
       exact⟨v,by simpa using z1,hmono _ _ z2⟩
   ·rw[if_neg hii]at hx'
    obtain⟨z1,z2⟩:=x3 i' x' hx'
    refine⟨z1,λj p hp=>?_⟩
    obtain⟨v,u1,u2⟩:=z2 j p hp
    refine⟨v,?_,hmono _ _ u2⟩
    have hj:j<ob.sz:=by rw[←z1];exact (List.getElem?_eq_some_iff.1 hp).1
    show (c.toList.take (i*ob.sz+f)++vs++c.toList.drop (i*ob.sz+f+vs.length)).toArray[i'*ob.sz+j]?=some v
    rw[List.getElem?_toArray,jM _ _ _ _ hfit]
    by_cases hlt:i'<i
    ·have:(i'+1)*ob.sz≤i*ob.sz:=Nat.mul_le_mul_right _ hlt
     rw[Nat.add_mul,Nat.one_mul]at this
     rw[if_pos (by omega)];simpa using u1
    ·have:(i+1)*ob.sz≤i'*ob.sz:=Nat.mul_le_mul_right _ (by omega)
     rw[Nat.add_mul,Nat.one_mul]at this
     rw[if_neg (by omega),if_neg (by omega)];simpa using u1
 ·exact h.elim
end
end Lp
namespace Lp
open Go
open Nat (add_mul mul_le_mul_right one_mul)
section
variable {P:Program}{base ah:Nat→Prop}{w0:Wz}{S:St}{blk:Nat→Option Nat}{a:Act}{w:World}{D:TypeId→aD}{objs:List Obj}{ok:Nat→Prop}
def aX(R:PV→Value→Prop)(sz:Nat)(c:Array Value)(xs:List PV):Prop:=
 ∀(i:Nat) (x:PV),xs[i]?=some x→x.cells.length=sz∧∀(j:Nat) (p:PV),x.cells[j]?=some p→∃v,c[i*sz+j]?=some v∧R p v
theorem foldl_set(off:Nat):∀(vs:List Value) (n:Nat) (cells:Array Value),off+n+vs.length≤cells.size→
  ((vs.zipIdx n).foldl (λ(cs:Array Value) (x:Value×Nat)=>cs.setIfInBounds (off+x.2) x.1) cells).size=cells.size∧
  ∀q:Nat,((vs.zipIdx n).foldl (λ(cs:Array Value) (x:Value×Nat)=>cs.setIfInBounds (off+x.2) x.1) cells)[q]?=if off+n≤q∧q<off+n+vs.length then vs[q-(off+n)]? else cells[q]?
 | [],n,cells,_=>by
  refine⟨rfl,λq=>?_⟩
  rw[if_neg (by simp only[List.length_nil];omega)]
  rfl
 | v::vs,n,cells,h=>by
  simp only[List.length_cons]at h
  obtain⟨h1,h2⟩:=foldl_set off vs (n+1) (cells.setIfInBounds (off+n) v) (by simp;omega)
  simp only[List.zipIdx_cons,List.foldl_cons]
  refine⟨by rw[h1];simp,λq=>?_⟩
  rw[h2]
  by_cases hq:off+n=q
  ·subst hq
   rw[if_neg (by omega),if_pos (by simp)]
   rw[Array.getElem?_setIfInBounds]
   have:off+n<cells.size:=by omega
   simp[this]
  ·by_cases hq2:off+(n+1)≤q∧q<off+(n+1)+vs.length
   ·rw[if_pos hq2,if_pos (by simp only[List.length_cons];omega)]
    have:q-(off+n)=(q-(off+(n+1)))+1:=by omega
    rw[this,List.getElem?_cons_succ]
   ·rw[if_neg hq2,if_neg (by simp only[List.length_cons];omega)]
    rw[Array.getElem?_setIfInBounds,if_neg hq]
theorem fold_eq(off:Nat)(vs:List Value)(cells:Array Value) :
  (Array.mk vs).zipIdx.foldl (λ(cs:Array Value) (x:Value×Nat)=>cs.setIfInBounds (off+x.2) x.1) cells=(vs.zipIdx 0).foldl (λ(cs:Array Value) (x:Value×Nat)=>cs.setIfInBounds (off+x.2) x.1) cells:=by
 rw[←Array.foldl_toList]
 congr 1
 simp
theorem NA{R:PV→Value→Prop}{sz:Nat}:∀(parts:List (Nat×PV)) (vals:List (Nat×Value)) (xs:List PV) (c:Array Value),
  parts.length=vals.length→
  (∀(i:Nat) (p:Nat×PV) (v:Nat×Value),parts[i]?=some p→vals[i]?=some v→v.1=p.1∧p.1<xs.length∧p.2.cells.length=sz∧∃vs,v.2.cells=⟨vs⟩∧bG R p.2.cells vs)→
  aX R sz c xs→c.size=xs.length*sz→
  ∃c',Instr.fill (λi=>some (i*sz,sz)) c vals=some c'∧c'.size=c.size∧aX R sz c' (iC xs parts)
 | [],[],xs,c,_,_,h,_=>⟨c,rfl,rfl,h⟩
 | p::parts,v::vals,xs,c,hl,hp,h,hc=>by
  obtain⟨e1,e2,e3,vs,e4,e5⟩:=hp 0 p v rfl rfl
  have hn:vs.length=sz:=by rw[←e5.1,e3]
  have hmul:(p.1+1)*sz≤xs.length*sz:=mul_le_mul_right _ e2
  rw[add_mul,one_mul]at hmul
  have hfit:p.1*sz+0+vs.length≤c.size:=by rw[hc,hn];omega
  obtain⟨g1,g2⟩:=foldl_set (p.1*sz) vs 0 c hfit
  simp only[Nat.add_zero]at g2
  have hnew:aX R sz ((vs.zipIdx 0).foldl (λ(cs:Array Value) (x:Value×Nat)=>cs.setIfInBounds (p.1*sz+x.2) x.1) c) (xs.set p.1 p.2):=by
   intro i x hx
   rw[List.getElem?_set]at hx
   by_cases hi:p.1=i
   ·subst hi
    simp[e2]at hx
    subst hx
    refine⟨e3,λj q hq=>?_⟩
    have hj:j<sz:=by rw[←e3];exact (List.getElem?_eq_some_iff.1 hq).1
    obtain⟨u,u1,u2⟩:=e5.get hq
    refine⟨u,?_,u2⟩
    rw[g2,if_pos (by omega)]
    rw[←u1];congr 1;omega
   ·rw[if_neg hi]at hx
    obtain⟨z1,z2⟩:=h i x hx
    refine⟨z1,λj q hq=>?_⟩
    have hj:j<sz:=by rw[←z1];exact (List.getElem?_eq_some_iff.1 hq).1
    obtain⟨u,u1,u2⟩:=z2 j q hq
    refine⟨u,?_,u2⟩
    rw[g2,if_neg]
    ·exact u1
    ·rw[hn]
     by_cases hlt:i<p.1
     ·have:(i+1)*sz≤p.1*sz:=mul_le_mul_right _ hlt
      rw[add_mul,one_mul]at this
      omega
     ·have:(p.1+1)*sz≤i*sz:=mul_le_mul_right _ (by omega)
      rw[add_mul,one_mul]at this
      omega
  obtain⟨c',k1,k2,k3⟩:=NA parts vals (xs.set p.1 p.2) _ (by simpa using hl) (λi q u hq hu=>by
   have:=hp (i+1) q u (by simpa using hq) (by simpa using hu)
   simpa using this) hnew (by rw[g1,hc];simp)
  refine⟨c',?_,by rw[k2,g1],k3⟩
  obtain⟨pi,pv⟩:=p
  obtain⟨vi,vv⟩:=v
  simp only at e1 e4
  subst e1
  unfold Instr.fill
  simp only[e4]
  have h1:¬ ((Array.mk vs).size≠sz∨vi*sz+(Array.mk vs).size > c.size):=by
   simp only[List.size_toArray,hn];simp at hfit;rw[hn]at hfit
   simp;exact hfit
  simp only[Bool.or_eq_true,decide_eq_true_eq]
  rw[if_neg h1,fold_eq]
  exact k1
theorem FO{z:Value}{sz:Nat}(hz:(PV.vM z).cells.length=sz)(hs:(PV.vM z).cells.all PV.storable=true)(n:Nat)(w:World)(ok:Nat→Prop)(objs:List Obj)(blk:Nat→Option Nat) :
  z.cells.size=sz∧
  aX (aV w ok objs blk) sz ((Array.range (n*sz)).map (z.cells[· % z.cells.size]!)) (List.replicate n (.vM z)):=by
 obtain⟨vs,hv,hr,_⟩:=jL (w:=w) (ok:=ok) (objs:=objs) (blk:=blk) (.aI (tV w ok z)) hs
 have hn:vs.length=sz:=by rw[←hr.1,hz]
 refine⟨by rw[hv];simpa using hn,λi x hx=>?_⟩
 rw[List.getElem?_replicate]at hx
 split at hx
 ·rename_i hi
  simp at hx
  subst hx
  refine⟨hz,λj p hp=>?_⟩
  have hj:j<sz:=by rw[←hz];exact (List.getElem?_eq_some_iff.1 hp).1
  obtain⟨v,h1,h2⟩:=hr.get hp
  refine⟨v,?_,h2⟩
  have hmul:(i+1)*sz≤n*sz:=mul_le_mul_right _ hi
  rw[add_mul,one_mul]at hmul
  have hlt:i*sz+j<n*sz:=by omega
  have hmod:(i*sz+j) % sz=j:=by rw[Nat.mul_comm,Nat.mul_add_mod,Nat.mod_eq_of_lt hj]
  rw[Array.getElem?_map,Array.getElem?_range,if_pos hlt]
  have hsz:z.cells.size=sz:=by rw[hv];simpa using hn
  simp only[Option.map_some,hsz,hmod]
  have:z.cells[j]?=some v:=by rw[hv];simpa using h1
  rw[getElem!_def,this]
 ·cases hx
theorem zw:∀(parts:List (Nat×PV)) (xs:List PV),(iC xs parts).length=xs.length
 | [],_=>rfl
 | p::parts,xs=>by obtain⟨i,v⟩:=p;simp[iC,zw parts]
theorem D5(objs:List Obj)(blk:Nat→Option Nat)(ty:TypeId)(sz:Nat)(xs:List PV){w:World}(ok:Nat→Prop){g cap:Nat}{c:Array Value}(hty:ty≠MT)(hw:w.heap[g]?=some (.cells c ty (0,0)))
  (hl:xs.length≤cap) (hm:cap≤maxLen) (hc:c.size=cap*sz) :
  aO w ok (newObj objs ty sz xs) (aF blk objs.length (some g)) (.aS objs.length 1) (.slice (some ⟨g,0,none⟩) xs.length cap):=
 ⟨rfl,_,xO objs ty sz xs,Nat.le_refl _,λ_ _=>by
  refine⟨hty,?_⟩
  unfold vL
  have:aF blk objs.length (some g) objs.length=some g:=by unfold aF;rw[if_pos rfl]
  rw[this]
  exact⟨cap,c,rfl,hw,hl,hm,hc⟩⟩
theorem K6{xs:List PV}{sz:Nat}{c:Array Value}{ty:TypeId}{w:World}{ok:Nat→Prop}{g cap:Nat}(hw:w.heap[g]?=some (.cells c ty (0,0)))(hok:ok g)
  (hl:xs.length≤cap) (hm:cap≤maxLen) (h:aX (cu w ok) sz c xs):cu w ok (.sl sz xs none) (.slice (some ⟨g,0,none⟩) xs.length cap):=by
 refine .sl sz xs none (by simp) g 0 cap (λi j=>(c[i*sz+j]?).getD undef) (λ_=>⟨hok,(Array.getElem?_eq_some_iff.1 hw).1⟩) hl hm (λi x hx=>(h i x hx).1) ?_ ?_
 ·intro i x j p hx hp
  obtain⟨v,h1,_⟩:=(h i x hx).2 j p hp
  simp[World.cell?,hw,h1]
 ·intro i x j p hx hp
  obtain⟨v,h1,h2⟩:=(h i x hx).2 j p hp
  simpa[h1] using h2
theorem t_{base ah:Nat→Prop}(R:cO base ah objs blk w){k:Nat}{o:Obj}{g:Nat}(h1:objs[k]?=some o)(h2:o.live=true)(h3:blk k=some g):g<w.heap.size:=by
 have:=R.ob k o h1 h2
 unfold bB at this
 rw[h3]at this
 obtain⟨c,x,_⟩:=this
 exact (Array.getElem?_eq_some_iff.1 x).1
theorem Y5{base ah:Nat→Prop}(R:cO base ah objs blk w)(hb:base w.heap.size):aZ base objs blk w.heap.size:=by
 refine⟨hb,λk o h1 h2 h3=>?_⟩
 have:=t_ R h1 h2 h3
 omega
theorem aX.mono {R R':PV→Value→Prop}{sz:Nat}{c:Array Value}{xs:List PV}(h:aX R sz c xs)(hr:∀(i:Nat) (x:PV),xs[i]?=some x→∀p∈x.cells,∀v,R p v→R' p v):aX R' sz c xs:=
 λi x hx=>⟨(h i x hx).1,λj p hp=>let ⟨v,h1,h2⟩:=(h i x hx).2 j p hp;⟨v,h1,hr i x hx p (List.mem_of_getElem? hp) v h2⟩⟩
theorem FP:∀(parts:List (Nat×PV)) (xs:List PV) (y:PV),y∈iC xs parts→y∈xs∨∃p∈parts,p.2=y
 | [],_,_,h=>.inl h
 | (i,v)::parts,xs,y,h=>by
  rcases FP parts (xs.set i v) y h with h | ⟨p,hp,e⟩
  ·rcases List.mem_or_eq_of_mem_set h with h | h
   ·exact .inl h
   ·exact .inr ⟨(i,v),by simp,h.symm⟩
  ·exact .inr ⟨p,by simp[hp],e⟩
theorem QD{x:PV}(h:x.pure=true):∀p∈x.cells,p.ref=false:=by
 intro p hp
 cases x with
 | agg cs=>simp only[PV.pure,PV.cells]at h hp;simpa using List.all_eq_true.1 h p hp
 | aS k v=>simp[PV.pure]at h
 | bf k v i f=>simp[PV.pure]at h
 | fM k v=>simp[PV.pure]at h
 | _=>simp only[PV.cells,List.mem_singleton]at hp;subst hp;rfl
theorem Ux(z:Value):(PV.vM z).pure=true:=by
 unfold PV.vM
 split<;>try rfl
 simp only[PV.pure,List.all_map,List.all_eq_true]
 intro v _
 simp only[Function.comp]
 split<;>rfl
theorem FQ{own:Bool}{t:TypeId}{len:Nat}{parts:Array (Nat×Operand)}{o:Oper}{K:KT}(ho:o.op=.buildSlice t len parts)(hD:∀t,fB P t (D t))(R:Rel base ah w0 S blk a w)
  (h:bL D own t len (parts.toList.map λx=>(x.1,S.ev x.2)) S.objs K):Out P base ah w0 S o a w K:=by
 unfold bL at h
 split at h
 ·rename_i e hk
  obtain⟨hke,hpos,hlen,hz,hzs,hparts,h⟩:=h
  have hu:=(hD t).slice hk
  obtain⟨i,hi,hsz,_,hzero⟩:=(hD e).info hke
  obtain⟨z1,z2⟩:=FO (z:=(D e).zero) hz hzs len w (aZ base S.objs blk) S.objs blk
  have hrun:=NA (R:=aV w (aZ base S.objs blk) S.objs blk) (sz:=(D e).size) (parts.toList.map λx=>(x.1,S.ev x.2)) (parts.toList.map λx=>(x.1,a.eval x.2))
   (List.replicate len (aL (D e))) ((Array.range (len*(D e).size)).map ((D e).zero.cells[· % (D e).zero.cells.size]!)) (by simp) (by
    intro i p v hp hv
    rw[List.getElem?_map]at hp hv
    cases hx:parts.toList[i]? with
    | none=>rw[hx]at hp;simp at hp
    | some x=>
     rw[hx]at hp hv
     simp only[Option.map_some,Option.some.injEq]at hp hv
     subst hp;subst hv
     have:=List.all_eq_true.1 hparts (x.1,S.ev x.2) (List.mem_map.2 ⟨x,List.mem_of_getElem? hx,rfl⟩)
     simp only[Bool.and_eq_true,decide_eq_true_eq]at this
     obtain⟨vs,q1,q2,_⟩:=jL (R.ev x.2) this.1.2
     exact⟨rfl,by simpa using this.1.1.1,this.1.1.2,vs,q1,q2⟩) z2 (by simp)
  obtain⟨c,g1,g2,g3⟩:=hrun
  have hlen':(iC (List.replicate len (aL (D e))) (parts.toList.map λx=>(x.1,S.ev x.2))).length=len:=by rw[zw];simp
  have hcs:c.size=len*(D e).size:=by rw[g2];simp
  have D6:(execOp a.eval o).run P w=.ok (.value (.slice (some ⟨w.heap.size,0,none⟩) len len)) { w with heap:=w.heap.push (.cells c e (0,0)) }:=by
   have h24:¬ (len*(D e).size > 2 ^ 24):=by simpa using hlen
   have g1':Instr.fill (λi=>some (i*(D e).size,(D e).size)) ((Array.range (len*(D e).size)).map ((D e).zero.cells[· % (D e).zero.cells.size]!)) (parts.map λx=>(x.1,a.eval x.2)).toList=some c:=by
    rw[Array.toList_map];exact g1
   by_cases hz0:len*(D e).size=0
   ·have e0:(Array.range (len*(D e).size)).map ((D e).zero.cells[· % (D e).zero.cells.size]!)=(Array.range (len*(D e).size)).map ((#[]:Array Value)[· % (#[]:Array Value).size]!):=by rw[hz0];simp
    rw[e0]at g1'
    simp only[execOp,ho,Instr.buildSlice,Sem.run_bind,run_underlying hu,Result.andThen_ok,(hD e).dz hke,if_neg h24,if_pos hz0,Sem.run_pure,g1',newRow,run_newObj]
   ·simp only[execOp,ho,Instr.buildSlice,Sem.run_bind,run_underlying hu,Result.andThen_ok,(hD e).dz hke,if_neg h24,if_neg hz0,Sem.run_pure,zeroValue,typeInfo,run_program,hi,hzero,g1',newRow,run_newObj]
  have hcap:len≤maxLen:=by
   have:len*1≤len*(D e).size:=Nat.mul_le_mul_left _ (by omega)
   simp only[maxLen];omega
  cases own with
  | true=>
   simp only[if_true]at h
   refine Out.new (w':={ w with heap:=w.heap.push (.cells c e (0,0)) }) R ((hD e).notM hke) rfl ⟨rfl,rfl⟩ D6 (by rw[hlen',hcs];exact Nat.le_refl _) g3 h ?_
   have:=D5 S.objs blk e (D e).size _ (aZ base (newObj S.objs e (D e).size (iC (List.replicate len (aL (D e))) (parts.toList.map λx=>(x.1,S.ev x.2)))) (aF blk S.objs.length (some w.heap.size)))
    (w:={ w with heap:=w.heap.push (.cells c e (0,0)) }) (g:=w.heap.size) (cap:=len) (c:=c) ((hD e).notM hke) (by simp) (Nat.le_of_eq hlen') hcap hcs
   rw[hlen']at this
   exact this
  | false=>
   simp only[Bool.false_eq_true,if_false]at h
   have hg:kr w { w with heap:=w.heap.push (.cells c e (0,0)) }:=.push rfl
   have hc':aX (cu { w with heap:=w.heap.push (.cells c e (0,0)) } (aZ base S.objs blk)) (D e).size c (iC (List.replicate len (aL (D e))) (parts.toList.map λx=>(x.1,S.ev x.2))):=by
    refine g3.mono λi x hx p hp v hv=>?_
    have hpure:x.pure=true:=by
     rcases FP _ _ _ (List.mem_of_getElem? hx) with hm | ⟨q,hq,rfl⟩
     ·rw[List.eq_of_mem_replicate hm];exact Ux _
     ·have:=List.all_eq_true.1 hparts q hq
      simp only[Bool.and_eq_true,Bool.false_or]at this
      exact this.2
    exact (hv.zo (QD hpure p hp)).mono hg.1 (λ_ _ h=>h) (λb y _ hy=>hg.2.1 b y hy)
   have:=K6 (c:=c) (ty:=e) (ok:=aZ base S.objs blk) (w:={ w with heap:=w.heap.push (.cells c e (0,0)) }) (g:=w.heap.size) (cap:=len) (by simp) (Y5 R.objs (R.bs _ R.gr)) (Nat.le_of_eq hlen') hcap hc'
   rw[hlen']at this
   exact⟨_,_,_,S.objs,0,blk,.inl D6,h,R.grew hg,.aI this,.same rfl⟩
 ·exact h.elim
theorem Iz{t:TypeId}{x y:Operand}{o:Oper}{K:KT}(ho:o.op=.makeSlice t x y)(hD:∀t,fB P t (D t))(R:Rel base ah w0 S blk a w)
  (h:d_ D t (S.ev x) (S.ev y) S.objs K):Out P base ah w0 S o a w K:=by
 have hx:=R.ev x
 have hy:=R.ev y
 unfold d_ at h
 split at h
 ·rename_i e k n k' m hk e1 e2
  rw[e1]at hx;rw[e2]at hy
  have hx:=hx.int
  have hy:=hy.int
  obtain⟨hke,hz,hpos,hzs,h0,hnm,hm,hb,h⟩:=h
  have hu:=(hD t).slice hk
  obtain⟨i,hi,hsz,hby,hzero⟩:=(hD e).info hke
  obtain⟨z1,z2⟩:=FO (z:=(D e).zero) hz hzs m.toNat w (aZ base S.objs blk) S.objs blk
  have w1:IntKind.i64.wrap n=n:=iA (by simp only[JM];omega)
  have w2:IntKind.i64.wrap m=m:=iA (by simp only[JM];omega)
  have ad_:¬ ((m<0∨(i.bytes:Int)*m > 2 ^ 48)∨n<0):=by rw[hby];omega
  have hnm':¬ n > m:=by omega
  have D6:(execOp a.eval o).run P w=.ok (.value (.slice (some ⟨w.heap.size,0,none⟩) n.toNat m.toNat)) { w with heap:=w.heap.push (.cells ((Array.range (m.toNat*(D e).size)).map ((D e).zero.cells[· % (D e).zero.cells.size]!)) e (0,0)) }:=by
   have c1:¬ m<0:=by omega
   have c2:¬ (281474976710656<(i.bytes:Int)*m):=by rw[hby];omega
   have c3:¬ n<0:=by omega
   by_cases hz0:m.toNat*(D e).size=0
   ·have r0:Array.range 0=#[]:=rfl
    have e0:(Array.range (m.toNat*(D e).size)).map ((D e).zero.cells[· % (D e).zero.cells.size]!)=#[]:=by rw[hz0,r0];simp
    rw[e0]
    simp[execOp,ho,hx,hy,Instr.makeSlice,run_underlying hu,asInt,asIntOf,typeInfo,hi,w1,w2,c1,c2,c3,hnm',(hD e).dz hke,hz0,newRow,r0]
   ·simp[execOp,ho,hx,hy,Instr.makeSlice,run_underlying hu,asInt,asIntOf,typeInfo,hi,w1,w2,c1,c2,c3,hnm',(hD e).dz hke,hz0,newRow,zeroValue,hzero]
  refine Out.new (w':={ w with heap:=w.heap.push (.cells ((Array.range (m.toNat*(D e).size)).map ((D e).zero.cells[· % (D e).zero.cells.size]!)) e (0,0)) }) R ((hD e).notM hke) rfl ⟨rfl,rfl⟩ D6 ?_ ?_ h ?_
  ·simp;exact mul_le_mul_right _ (by omega)
  ·intro i x hx
   rw[List.getElem?_replicate]at hx
   split at hx
   ·exact z2 i x (by rw[List.getElem?_replicate,if_pos (by omega)];exact hx)
   ·cases hx
  ·have:=D5 S.objs blk e (D e).size (List.replicate n.toNat (aL (D e))) (aZ base (newObj S.objs e (D e).size (List.replicate n.toNat (aL (D e)))) (aF blk S.objs.length (some w.heap.size)))
     (w:={ w with heap:=w.heap.push (.cells ((Array.range (m.toNat*(D e).size)).map ((D e).zero.cells[· % (D e).zero.cells.size]!)) e (0,0)) }) (g:=w.heap.size) (cap:=m.toNat) ((hD e).notM hke) (by simp;rfl) (by simp;omega) (by simp only[maxLen];omega) (by simp)
   simpa using this
 ·exact h.elim
end
end Lp
namespace Lp
open Go
open List (length_append length_take)
open Nat (add_mul add_zero mod_lt mul_comm mul_le_mul_right one_mul)
section
variable {P:Program}{base ah:Nat→Prop}{w0:Wz}{S:St}{blk:Nat→Option Nat}{a:Act}{w:World}{D:TypeId→aD}{objs:List Obj}{ok:Nat→Prop}
theorem o9(w:World)(t tx ty e:TypeId)(i:TypeInfo)(ht:P.underlying t=some (.slice e))(hi:P.info? e=some i)(g sLen sCap:Nat)(cur:Array Value)(ty0:TypeId)
  (hg:w.heap[g]?=some (.cells cur ty0 (0,0))) (x:Value) (n:Nat) (news:List Value) (hs:Src P i.size tx x n news w) (hroom:sLen+n≤sCap) (hfit:sLen*i.size+news.length≤cur.size) :
  (Builtin.append_ #[t,tx] ty #[.slice (some ⟨g,0,none⟩) sLen sCap,x]).run P w=
   .ok (.slice (some ⟨g,0,none⟩) (sLen+n) sCap) (w.setRow g (cur.toList.take (sLen*i.size)++news++cur.toList.drop (sLen*i.size+news.length)).toArray):=by
 have hst:=run_storeCells_at P g (sLen*i.size) ty0 news 0 cur w hg (by simpa using hfit) hs.one
 simp only[add_zero]at hst
 rcases hs.kind with ⟨e',hk⟩ | hk<;>simp[Builtin.append_,run_underlying ht,run_underlying hk,Go.sizeOf,typeInfo,hi,hs.len,hroom,hs.cells,Addr.add_lit,hst]
theorem EC(w:World)(t tx ty e:TypeId)(i:TypeInfo)(ht:P.underlying t=some (.slice e))(hi:P.info? e=some i)(x:Value)(hs:Src P i.size tx x 0 [] w) :
  (Builtin.append_ #[t,tx] ty #[.slice none 0 0,x]).run P w=.ok (.slice none 0 0) w:=by
 rcases hs.kind with ⟨e',hk⟩ | hk<;>simp[Builtin.append_,run_underlying ht,run_underlying hk,Go.sizeOf,typeInfo,hi,hs.len,hs.cells]
theorem aX.append {R:PV→Value→Prop}{sz:Nat}{xs ys:List PV}{c c':Array Value}(h:aX R sz c xs)(h':aX R sz c' ys){c2:Array Value}
  (h1:∀q,q<xs.length*sz→c2[q]?=c[q]?) (h2:∀q,q<ys.length*sz→c2[xs.length*sz+q]?=c'[q]?):aX R sz c2 (xs++ys):=by
 intro i x hx
 rw[List.getElem?_append]at hx
 split at hx
 ·rename_i hi
  obtain⟨z1,z2⟩:=h i x hx
  refine⟨z1,λj p hp=>?_⟩
  have hj:j<sz:=by rw[←z1];exact (List.getElem?_eq_some_iff.1 hp).1
  have hmul:(i+1)*sz≤xs.length*sz:=mul_le_mul_right _ hi
  rw[add_mul,one_mul]at hmul
  obtain⟨v,u1,u2⟩:=z2 j p hp
  exact⟨v,by rw[h1 _ (by omega)];exact u1,u2⟩
 ·rename_i hi
  obtain⟨z1,z2⟩:=h' _ x hx
  refine⟨z1,λj p hp=>?_⟩
  have hj:j<sz:=by rw[←z1];exact (List.getElem?_eq_some_iff.1 hp).1
  have hy:i-xs.length<ys.length:=(List.getElem?_eq_some_iff.1 hx).1
  have hmul:(i-xs.length+1)*sz≤ys.length*sz:=mul_le_mul_right _ hy
  rw[add_mul,one_mul]at hmul
  obtain⟨v,u1,u2⟩:=z2 j p hp
  refine⟨v,?_,u2⟩
  have:=h2 ((i-xs.length)*sz+j) (by omega)
  rw[←u1,←this]
  congr 1
  rw[←Nat.add_assoc,←add_mul]
  congr 2
  omega
theorem D7{t tx ty e:TypeId}{ti:aD}{R:PV→Value→Prop}(ht:P.underlying t=some (.slice e))(hte:fB P e ti)(hke:ti.kind≠.none)
  (hz:(aL ti).cells.length=ti.size) (hzs:(aL ti).cells.all PV.storable=true){x:Value}{xs ys:List PV}{news:List Value}
  (hs:Src P ti.size tx x ys.length news w) (hc:aX R ti.size ⟨news⟩ ys)
  (hb:(xs.length+ys.length)*ti.bytes≤140737488355328) (hm:xs.length+ys.length≤9223372036854775807)
  (base:Option Addr) (cap:Nat) (olds:List Value) (aaz:olds.length=xs.length*ti.size) (hold:aX R ti.size ⟨olds⟩ xs)
  (hrun:(Builtin.firstCells ti.size xs.length (.slice base xs.length cap)).run P w.drew=.ok olds.toArray w.drew) (hlt:cap<xs.length+ys.length) :
  ∃v' w' gb,(Builtin.append_ #[t,tx] ty #[.slice base xs.length cap,x]).run P w=.ok v' w'∧(w.heap.size≤w'.heap.size∧Sm w w')∧(∀(b:Nat) y,w.heap[b]?=some y→w'.heap[b]?=some y)∧
   gb=some w.heap.size∧(∃cap c,v'=.slice (some ⟨w.heap.size,0,none⟩) (xs++ys).length cap∧w'.heap[w.heap.size]?=some (.cells c e (0,0))∧(xs++ys).length≤cap∧cap≤maxLen∧c.size=cap*ti.size∧aX R ti.size c (xs++ys)):=by
 obtain⟨i,hi,hsz,hby,hzero⟩:=hte.info hke
 rw[←hsz]at hs hrun
 have hzc:ti.zero.cells.size=ti.size:=by
  obtain⟨vs,hv,hr,_⟩:=jL (w:=w) (ok:=λ_=>True) (objs:=[]) (blk:=λ_=>none) (.aI (tV w _ ti.zero)) hzs
  rw[hv];simp;rw[←hr.1];exact hz
 have hr:=run_append_grow_src (P:=P) w t tx ty e i ti.zero ht hi hzero base xs.length cap olds hrun x ys.length news hs hlt (by omega) (growslice_fits hlt (by rw[hby];exact hb))
 have hgr:kr w (w.drew.alloc (.cells ((olds++news).toArray++Builtin.zeroCells ti.zero.cells (grownCap w (xs.length+ys.length) cap e-(xs.length+ys.length))) e)):=.push rfl
 have hge:=grownCap_ge w (xs.length+ys.length) cap e
 refine⟨_,_,_,hr,⟨hgr.1,hgr.2.2⟩,hgr.2.1,rfl,grownCap w (xs.length+ys.length) cap e,(olds++news).toArray++Builtin.zeroCells ti.zero.cells (grownCap w (xs.length+ys.length) cap e-(xs.length+ys.length)),by rw[length_append],heap_alloc_new w.drew _,by rw[length_append];exact hge,grownCap_le_maxLen w _ cap e (by simp only[maxLen];omega),?_,?_⟩
 ·have hnl:=hs.newsLen
  rw[hsz]at hnl
  simp only[Array.size_append,List.size_toArray,length_append,size_zeroCells,hzc,aaz,hnl,←add_mul]
  congr 1;omega
 ·have hnl:=hs.newsLen
  rw[hsz]at hnl
  refine aX.append hold hc (λq hq=>?_) (λq hq=>?_)
  ·rw[Array.getElem?_append_left (by simp;omega)]
   simp only[List.getElem?_toArray]
   rw[List.getElem?_append_left (by omega)]
  ·rw[Array.getElem?_append_left (by simp;omega)]
   simp only[List.getElem?_toArray]
   rw[List.getElem?_append_right (by omega),aaz,Nat.add_sub_cancel_left]
theorem vZ{t tx ty e:TypeId}{ti:aD}{R:PV→Value→Prop}(ht:P.underlying t=some (.slice e))(hte:fB P e ti)(hke:ti.kind≠.none)
  (hz:(aL ti).cells.length=ti.size) (hzs:(aL ti).cells.all PV.storable=true)
  {gOld:Option Nat}{v x:Value}{xs ys:List PV}{news:List Value}
  (hv:match gOld with
   | none=>v=.slice none 0 0∧xs=[]
   | some g=>∃cap c,v=.slice (some ⟨g,0,none⟩) xs.length cap∧w.heap[g]?=some (.cells c e (0,0))∧xs.length≤cap∧cap≤maxLen∧c.size=cap*ti.size∧aX R ti.size c xs)
  (hs:Src P ti.size tx x ys.length news w) (hc:aX R ti.size ⟨news⟩ ys)
  (hb:(xs.length+ys.length)*ti.bytes≤140737488355328) (hm:xs.length+ys.length≤9223372036854775807) :
  ∃v' w' gb,(Builtin.append_ #[t,tx] ty #[v,x]).run P w=.ok v' w'∧(w.heap.size≤w'.heap.size∧Sm w w')∧(∀b y,gOld≠some b→w.heap[b]?=some y→w'.heap[b]?=some y)∧
   (∀g,gb=some g→gOld=some g∨w.heap.size≤g)∧
   (match gb with
    | none=>v'=.slice none 0 0∧xs++ys=[]
    | some g=>∃cap c,v'=.slice (some ⟨g,0,none⟩) (xs++ys).length cap∧w'.heap[g]?=some (.cells c e (0,0))∧(xs++ys).length≤cap∧cap≤maxLen∧c.size=cap*ti.size∧aX R ti.size c (xs++ys)):=by
 obtain⟨i,hi,hsz,hby,hzero⟩:=hte.info hke
 rw[←hsz]at hs
 have hzc:ti.zero.cells.size=ti.size:=by
  obtain⟨vs,hv,hr,_⟩:=jL (w:=w) (ok:=λ_=>True) (objs:=[]) (blk:=λ_=>none) (.aI (tV w _ ti.zero)) hzs
  rw[hv];simp;rw[←hr.1];exact hz
 have grow:=λbase cap olds (_:base=none→olds=[]) (h1:olds.length=xs.length*ti.size) h2 (h3:(Builtin.firstCells i.size xs.length (.slice base xs.length cap)).run P w.drew=.ok olds.toArray w.drew) h4=>
  D7 (P:=P) (w:=w) (ty:=ty) (R:=R) (xs:=xs) (ys:=ys) ht hte hke hz hzs (by rw[←hsz];exact hs) hc hb hm base cap olds h1 h2 (by rw[←hsz];exact h3) h4
 cases gOld with
 | none=>
  obtain⟨rfl,rfl⟩:=hv
  by_cases hy:ys=[]
  ·subst hy
   have hn:news=[]:=List.eq_nil_of_length_eq_zero (by rw[hs.newsLen];simp)
   subst hn
   exact⟨_,_,none,EC w t tx ty e i ht hi x hs,⟨Nat.le_refl _,.refl w⟩,λ_ _ _ h=>h,(λg h=>by cases h),rfl,rfl⟩
  ·have hpos:0<ys.length:=List.length_pos_iff.2 hy
   obtain⟨v',w',gb,q1,q2,q3,q4,q5⟩:=grow none 0 [] (λ_=>rfl) (by simp) (λi x hx=>by simp at hx) (by simp[Builtin.firstCells]) (by simpa using hpos)
   exact⟨v',w',gb,q1,q2,λb y _ h=>q3 b y h,λg h=>by rw[q4]at h;cases h;exact .inr (Nat.le_refl _),by rw[q4];exact q5⟩
 | some g=>
  obtain⟨cap,c,rfl,x1,x2,x3,x4,x5⟩:=hv
  by_cases hroom:xs.length+ys.length≤cap
  ·have hnl:=hs.newsLen
   rw[hsz]at hnl
   have hfit:xs.length*i.size+news.length≤c.size:=by rw[hnl,x4,hsz,←add_mul];exact mul_le_mul_right _ hroom
   have hr:=o9 w t tx ty e i ht hi g xs.length cap c e x1 x ys.length news hs hroom hfit
   rw[hsz]at hr hfit
   refine⟨_,_,some g,hr,⟨by simp[World.setRow],by first | exact⟨rfl,rfl⟩ | (unfold World.setRow;split<;>exact⟨rfl,rfl⟩)⟩,λb y hb hy=>?_,λg' h=>by cases h;exact .inl rfl,cap,(c.toList.take (xs.length*ti.size)++news++c.toList.drop (xs.length*ti.size+news.length)).toArray,by rw[length_append],setRow_heap w g c _ _ _ x1,by rw[length_append];exact hroom,x3,?_,?_⟩
   ·rw[setRow_other w g b _ (λe=>hb (by rw[e]))];exact hy
   ·simp only[List.size_toArray,length_append,length_take,List.length_drop,Array.length_toList];omega
   ·refine aX.append x5 hc (λq hq=>?_) (λq hq=>?_)
    ·rw[List.getElem?_toArray,jM _ _ _ _ (by simpa using hfit),if_pos hq];simp
    ·rw[List.getElem?_toArray,jM _ _ _ _ (by simpa using hfit),if_neg (by omega),if_pos (by omega)]
     simp
  ·have holds:(Builtin.firstCells i.size xs.length (.slice (some ⟨g,0,none⟩) xs.length cap)).run P w.drew=.ok (c.toList.take (xs.length*ti.size)).toArray w.drew:=by
     rw[hsz]
     refine run_firstCells_some w.drew ti.size xs.length ⟨g,0,none⟩ xs.length cap (c.toList.take (xs.length*ti.size)) (by simp only[length_take,Array.length_toList,x4];exact Nat.min_eq_left (mul_le_mul_right _ x2)) (λj u hu=>?_)
     rw[List.getElem?_take]at hu
     split at hu
     ·rw[add_lit]
      have:(w.drew.heap)[g]?=some (.cells c e (0,0)):=x1
      simp only[World.cell?,this]
      simpa using hu
     ·cases hu
   obtain⟨v',w',gb,q1,q2,q3,q4,q5⟩:=grow (some ⟨g,0,none⟩) cap (c.toList.take (xs.length*ti.size)) (λh=>by cases h) (by simp only[length_take,Array.length_toList,x4];exact Nat.min_eq_left (mul_le_mul_right _ x2)) (λi x hx=>⟨(x5 i x hx).1,λj p hp=>by
    obtain⟨v,u1,u2⟩:=(x5 i x hx).2 j p hp
    refine⟨v,?_,u2⟩
    have hj:j<ti.size:=by rw[←(x5 i x hx).1];exact (List.getElem?_eq_some_iff.1 hp).1
    have hi:i<xs.length:=(List.getElem?_eq_some_iff.1 hx).1
    have hmul:(i+1)*ti.size≤xs.length*ti.size:=mul_le_mul_right _ hi
    rw[add_mul,one_mul]at hmul
    simp only[List.getElem?_toArray,List.getElem?_take]
    rw[if_pos (by omega)]
    simpa using u1⟩) holds (by omega)
   exact⟨v',w',gb,q1,q2,λb y _ h=>q3 b y h,λg h=>by rw[q4]at h;cases h;exact .inr (Nat.le_refl _),by rw[q4];exact q5⟩
theorem kz(R:Rel base ah w0 S blk a w){k:Nat}{o:Obj}(h1:S.objs[k]?=some o)(h2:o.live=true){g:Nat}(hb:blk k=some g)(hty:o.ty≠MT) :
  ∃c,w.heap[g]?=some (.cells c o.ty (0,0))∧o.xs.length*o.sz≤c.size∧aX (aV w (aZ base S.objs blk) S.objs blk) o.sz c o.xs:=by
 have h:=R.objs.ob k o h1 h2
 unfold bB at h
 rw[hb]at h
 obtain⟨c,x1,x2,x3⟩:=h
 rw[jv hty]at x1
 exact⟨c,x1,x2.1,x3⟩
theorem aX.take {R:PV→Value→Prop}{sz:Nat}{xs:List PV}{c:Array Value}(h:aX R sz c xs):aX R sz ⟨c.toList.take (xs.length*sz)⟩ xs:=by
 intro i x hx
 refine⟨(h i x hx).1,λj p hp=>?_⟩
 obtain⟨v,u1,u2⟩:=(h i x hx).2 j p hp
 refine⟨v,?_,u2⟩
 have hj:j<sz:=by rw[←(h i x hx).1];exact (List.getElem?_eq_some_iff.1 hp).1
 have hi:i<xs.length:=(List.getElem?_eq_some_iff.1 hx).1
 have hmul:(i+1)*sz≤xs.length*sz:=mul_le_mul_right _ hi
 rw[add_mul,one_mul]at hmul
 simp only[List.getElem?_toArray,List.getElem?_take]
 rw[if_pos (by omega)]
 simpa using u1
theorem cells_one{R:PV→Value→Prop}{sz:Nat}{ys:List PV}{news:List Value}(h:aX R sz ⟨news⟩ ys)(hl:news.length=ys.length*sz)
  (hr:∀y∈ys,∀p∈y.cells,∀v,R p v→v.oneCell'=true):∀u∈news,u.oneCell'=true:=by
 intro u hu
 obtain⟨q,hq,rfl⟩:=List.mem_iff_getElem.1 hu
 have hpos:0<sz:=by
  rcases Nat.eq_zero_or_pos sz with h0 | h0
  ·rw[h0,Nat.mul_zero]at hl;omega
  ·exact h0
 have hi:q / sz<ys.length:=by rw[Nat.div_lt_iff_lt_mul hpos,←hl];exact hq
 have hj:q % sz<sz:=mod_lt _ hpos
 obtain⟨h1,h2⟩:=h (q / sz) _ (List.getElem?_eq_getElem hi)
 obtain⟨v,u1,u2⟩:=h2 (q % sz) _ (List.getElem?_eq_getElem (by rw[h1];exact hj))
 have e:q / sz*sz+q % sz=q:=by rw[mul_comm];exact Nat.div_add_mod q sz
 rw[e]at u1
 have:news[q]=v:=by
  have h3:news[q]?=some v:=by simpa using u1
  rw[List.getElem?_eq_getElem hq]at h3
  exact Option.some.inj h3
 rw[this]
 exact hr _ (List.getElem_mem hi) _ (List.getElem_mem _) v u2
theorem Y6{tx:TypeId}{x:PV}{objs:List Obj}{K:List PV→Bool→Prop}(h:ng D tx x objs K):ng D tx x objs λys _=>∃q,K ys q:=by
 unfold ng at h ⊢
 split at h
 ·exact⟨_,h⟩
 ·obtain⟨o,h1,h2,h3,h⟩:=h;exact⟨o,h1,h2,h3,_,h⟩
 ·exact⟨_,h⟩
 ·exact h.elim
theorem Y7{ok:Nat→Prop}{tx e:TypeId}{v:Value}{sz sz':Nat}{ys:List PV}{q:Option Bool}(hu:P.underlying tx=some (.slice e))(hx':cu w ok (.sl sz' ys q) v)(hpos:sz≠0)
  (hall:∀y∈ys,y.cells.length=sz∧y.cells.all PV.storable=true){objs:List Obj}{blk:Nat→Option Nat} :
  ∃news,Src P sz tx v ys.length news w∧aX (aV w ok objs blk) sz ⟨news⟩ ys:=by
 have hone:∀y∈ys,∀p∈y.cells,∀v,aV w ok objs blk p v→v.oneCell'=true:=
  λy hy p hp v hv=>(ku hv (List.all_eq_true.1 (hall y hy).2 p hp)).1
 cases hx' with
 | slnil=>exact⟨[],Src.ofNil w hu 0,λi x hx=>by simp at hx⟩
 | FL _ _ _ a cap=>exact⟨[],Src.ofSlice w hu a 0 cap [] (by simp) (λj u hu=>by simp at hu) (λu hu=>by cases hu),λi x hx=>by simp at hx⟩
 | sl _ _ _ hq b off cap vs hok hlen hcap hsz hcell hrep=>
  have hszz:∀i y,ys[i]?=some y→sz'=sz:=λi y hy=>by rw[←hsz i y hy,(hall y (List.mem_of_getElem? hy)).1]
  have hc:aX (aV w ok objs blk) sz ⟨(List.range (ys.length*sz)).map λq=>vs (q / sz) (q % sz)⟩ ys:=by
   intro i y hy
   have hi:i<ys.length:=(List.getElem?_eq_some_iff.1 hy).1
   have hc0:=(hall y (List.mem_of_getElem? hy)).1
   refine⟨hc0,λj p hp=>?_⟩
   have hj:j<sz:=by rw[←hc0];exact (List.getElem?_eq_some_iff.1 hp).1
   have hmul:(i+1)*sz≤ys.length*sz:=mul_le_mul_right _ hi
   rw[add_mul,one_mul]at hmul
   refine⟨vs i j,?_,.aI (hrep i y j p hy hp)⟩
   have h1:(i*sz+j) / sz=i:=by rw[mul_comm,Nat.mul_add_div (by omega),Nat.div_eq_of_lt hj,add_zero]
   have h2:(i*sz+j) % sz=j:=by rw[mul_comm,Nat.mul_add_mod,Nat.mod_eq_of_lt hj]
   simp[show i*sz+j<ys.length*sz by omega,h1,h2]
  refine⟨_,Src.ofSlice w hu ⟨b,off,none⟩ ys.length cap _ (by simp) (λq u Uy=>?_) (cells_one hc (by simp) hone),hc⟩
  rw[List.getElem?_map]at Uy
  cases hr:(List.range (ys.length*sz))[q]? with
  | none=>rw[hr]at Uy;simp at Uy
  | some q'=>
   obtain⟨hq1,hq2⟩:=List.getElem?_eq_some_iff.1 hr
   simp at hq1 hq2
   subst hq2
   rw[hr]at Uy
   simp only[Option.map_some,Option.some.injEq]at Uy
   have hi:q / sz<ys.length:=by rw[Nat.div_lt_iff_lt_mul (by omega)];exact hq1
   have hj:q % sz<sz:=mod_lt _ (by omega)
   have hs:=hszz _ _ (List.getElem?_eq_getElem hi)
   have hcl:=hsz _ _ (List.getElem?_eq_getElem hi)
   have:=hcell (q / sz) _ (q % sz) _ (List.getElem?_eq_getElem hi) (List.getElem?_eq_getElem (by rw[hcl,hs];exact hj))
   rw[add_lit,←Uy,←this,hs]
   congr 2
   have e:q / sz*sz+q % sz=q:=by rw[mul_comm];exact Nat.div_add_mod q sz
   omega
theorem abp{tx:TypeId}{x:Operand}{sz:Nat}{K:List PV→Prop}(hD:∀t,fB P t (D t))(R:Rel base ah w0 S blk a w)(hpos:sz≠0)(h:ng D tx (S.ev x) S.objs λys _=>K ys)
  (hall:∀ys,K ys→∀y∈ys,y.cells.length=sz∧y.cells.all PV.storable=true) :
  ∃ys news,K ys∧Src P sz tx (a.eval x) ys.length news w∧aX (aV w (aZ base S.objs blk) S.objs blk) sz ⟨news⟩ ys:=by
 have hx:=R.ev x
 have hone:∀ys,K ys→∀y∈ys,∀p∈y.cells,∀v,aV w (aZ base S.objs blk) S.objs blk p v→v.oneCell'=true:=
  λys hk y hy p hp v hv=>(ku hv (List.all_eq_true.1 (hall ys hk y hy).2 p hp)).1
 unfold ng at h
 split at h
 ·rename_i e sz' ys q hk e1
  rw[e1]at hx
  have hu:=(hD tx).slice hk
  have hx':=hx.sl
  generalize a.eval x=v at hx'
  cases hx' with
  | slnil=>exact⟨[],[],h,Src.ofNil w hu 0,λi x hx=>by simp at hx⟩
  | FL _ _ _ a cap=>exact⟨[],[],h,Src.ofSlice w hu a 0 cap [] (by simp) (λj u hu=>by simp at hu) (λu hu=>by cases hu),λi x hx=>by simp at hx⟩
  | sl _ _ _ hq b off cap vs hok hlen hcap hsz hcell hrep=>
   have hszz:∀i y,ys[i]?=some y→sz'=sz:=λi y hy=>by rw[←hsz i y hy,(hall ys h y (List.mem_of_getElem? hy)).1]
   have hc:aX (aV w (aZ base S.objs blk) S.objs blk) sz ⟨(List.range (ys.length*sz)).map λq=>vs (q / sz) (q % sz)⟩ ys:=by
    intro i y hy
    have hi:i<ys.length:=(List.getElem?_eq_some_iff.1 hy).1
    have hc0:=(hall ys h y (List.mem_of_getElem? hy)).1
    refine⟨hc0,λj p hp=>?_⟩
    have hj:j<sz:=by rw[←hc0];exact (List.getElem?_eq_some_iff.1 hp).1
    have hmul:(i+1)*sz≤ys.length*sz:=mul_le_mul_right _ hi
    rw[add_mul,one_mul]at hmul
    refine⟨vs i j,?_,.aI (hrep i y j p hy hp)⟩
    have h1:(i*sz+j) / sz=i:=by rw[mul_comm,Nat.mul_add_div (by omega),Nat.div_eq_of_lt hj,add_zero]
    have h2:(i*sz+j) % sz=j:=by rw[mul_comm,Nat.mul_add_mod,Nat.mod_eq_of_lt hj]
    simp[show i*sz+j<ys.length*sz by omega,h1,h2]
   refine⟨ys,_,h,Src.ofSlice w hu ⟨b,off,none⟩ ys.length cap _ (by simp) (λq u Uy=>?_) (cells_one hc (by simp) (hone ys h)),hc⟩
   rw[List.getElem?_map]at Uy
   cases hr:(List.range (ys.length*sz))[q]? with
   | none=>rw[hr]at Uy;simp at Uy
   | some q'=>
    obtain⟨hq1,hq2⟩:=List.getElem?_eq_some_iff.1 hr
    simp at hq1 hq2
    subst hq2
    rw[hr]at Uy
    simp only[Option.map_some,Option.some.injEq]at Uy
    have hi:q / sz<ys.length:=by rw[Nat.div_lt_iff_lt_mul (by omega)];exact hq1
    have hj:q % sz<sz:=mod_lt _ (by omega)
    have hs:=hszz _ _ (List.getElem?_eq_getElem hi)
    have hcl:=hsz _ _ (List.getElem?_eq_getElem hi)
    have:=hcell (q / sz) _ (q % sz) _ (List.getElem?_eq_getElem hi) (List.getElem?_eq_getElem (by rw[hcl,hs];exact hj))
    rw[add_lit,←Uy,←this,hs]
    congr 2
    have e:q / sz*sz+q % sz=q:=by rw[mul_comm];exact Nat.div_add_mod q sz
    omega
 ·rename_i e k ver hk e1
  rw[e1]at hx
  have hu:=(hD tx).slice hk
  obtain⟨o,h1,h2,h3,h⟩:=h
  have hh:=hx.aS h1 h2 h3
  unfold vL at hh
  cases hb:blk k with
  | none=>
   rw[hb]at hh
   rw[hh.2]at h
   rw[hh.1]
   exact⟨[],[],h,Src.ofNil w hu 0,λi x hx=>by simp at hx⟩
  | some g=>
   rw[hb]at hh
   obtain⟨cap,c,hv,x1,x2,x3,x4⟩:=hh
   obtain⟨c',y1,y2,y3⟩:=kz R h1 h2 hb (hx.tX h1 h2 h3)
   rw[x1]at y1;cases y1
   have hszz:∀i y,o.xs[i]?=some y→o.sz=sz:=λi y hy=>by rw[←(y3 i y hy).1,(hall o.xs h y (List.mem_of_getElem? hy)).1]
   rw[hv]
   by_cases hn:o.xs=[]
   ·rw[hn]at h ⊢
    exact⟨[],[],h,Src.ofSlice w hu _ 0 cap [] (by simp) (λj u hu=>by simp at hu) (λu hu=>by cases hu),λi x hx=>by simp at hx⟩
   ·have hpos':0<o.xs.length:=List.length_pos_iff.2 hn
    have hs:=hszz 0 _ (List.getElem?_eq_getElem hpos')
    rw[hs]at y2 y3
    have ht:=y3.take
    have hlen:(c.toList.take (o.xs.length*sz)).length=o.xs.length*sz:=by simp only[length_take,Array.length_toList];omega
    refine⟨o.xs,_,h,Src.ofSlice w hu ⟨g,0,none⟩ o.xs.length cap _ hlen (λj u hju=>?_) (cells_one ht hlen (hone o.xs h)),ht⟩
    rw[List.getElem?_take]at hju
    split at hju
    ·rw[add_lit];simp only[World.cell?,x1];simpa using hju
    ·cases hju
 ·rename_i s hk e1
  rw[e1]at hx
  have hu:=(hD tx).Ut hk
  rw[hx.str]
  have h1:sz=1∨s=[]:=by
   cases s with
   | nil=>exact .inr rfl
   | cons b s=>exact .inl ((hall _ h (.int .u8 b.toNat) (by simp)).1.symm)
  rcases h1 with h1 | h1
  ·subst h1
   have hs:=Src.ofString (P:=P) w hu (ByteArray.mk ⟨s⟩)
   rw[size_mk]at hs
   refine⟨_,byteCells ⟨⟨s⟩⟩,h,by simpa using hs,λi y hy=>?_⟩
   rw[List.getElem?_map]at hy
   cases hb:s[i]? with
   | none=>rw[hb]at hy;simp at hy
   | some b=>
    rw[hb]at hy
    simp only[Option.map_some,Option.some.injEq]at hy
    subst hy
    refine⟨rfl,λj p hp=>?_⟩
    cases j with
    | zero=>
     simp[PV.cells]at hp
     subst hp
     exact⟨.int .u8 b.toNat,by simp[byteCells,hb],.aI (.int _ _)⟩
    | succ j=>simp[PV.cells]at hp
  ·subst h1
   refine⟨[],[],h,⟨.inr hu,λ_=>rfl,?_,?_,by simp,λu hu=>by cases hu⟩,λi x hx=>by simp at hx⟩
   ·simp[Builtin.firstCells]
   ·simp[Builtin.firstCells]
 ·exact h.elim
theorem JQ{w':World}{okk:Nat→Prop}{ai:List Obj}{ak:Nat→Option Nat}{k:Nat}{o:Obj}{gb:Option Nat}{R:PV→Value→Prop}(hb:ak k=gb)
  (h:match gb with
    | none=>o.xs=[]
    | some g=>∃cap c,w'.heap[g]?=some (.cells c o.ty (0,0))∧o.xs.length≤cap∧c.size=cap*o.sz∧aX R o.sz c o.xs) (hM:o.ty≠MT)
  (hr:∀p v,R p v→aV w' okk ai ak p v):bB w' okk ai ak k o:=by
 unfold bB
 rw[hb]
 cases gb with
 | none=>exact h
 | some g=>
  obtain⟨cap,c,h1,h2,h3,h4⟩:=h
  exact⟨c,by rw[jv hM];exact h1,qQ hM (by rw[h3];exact mul_le_mul_right _ h2),λi x hx=>⟨(h4 i x hx).1,λj p hp=>let ⟨v,u1,u2⟩:=(h4 i x hx).2 j p hp;⟨v,u1,hr _ _ u2⟩⟩⟩
theorem QE{t u:TypeId}{s x:Operand}{o:Oper}{K:KT}(ho:o.op=.call { callee:=.builtin .append,args:=#[s,x],argTypes:=#[t,u] })(hD:∀t,fB P t (D t))
  (R:Rel base ah w0 S blk a w) (h:dK D t u (S.ev s) (S.ev x) S.objs K):Out P base ah w0 S o a w K:=by
 have hs:=R.ev s
 unfold dK at h
 split at h
 ·rename_i e hk
  obtain⟨hke,hpos,hz,hzs,h⟩:=h
  have hu:=(hD t).slice hk
  obtain⟨ys,news,⟨q,hys,h⟩,hsrc,hcells⟩:=abp hD R hpos (Y6 h) (λys hy=>hy.choose_spec.1)
  have D6:∀v' w',(Builtin.append_ #[t,u] o.type #[a.eval s,a.eval x]).run P w=.ok v' w'→(execOp a.eval o).run P w=.ok (.value v') w':=by
   intro v' w' hr
   simp[execOp,ho,resolve,invoke,builtin,hr]
  split at h
  ·rename_i k ver e1
   rw[e1]at hs
   obtain⟨ob,h1,h2,h3,h4,hty,h5,h6,hne,h7⟩:=h
   have hh:=hs.aS h1 h2 h3
   have hM:=hs.tX h1 h2 h3
   obtain⟨v',w',gb,q1,q2,q3,q4,q5⟩:=vZ (ty:=o.type) (R:=aV w (aZ base S.objs blk) S.objs blk) (gOld:=blk k) (v:=a.eval s) (x:=a.eval x) (xs:=ob.xs) hu (hD e) hke hz hzs (by
    unfold vL at hh
    cases hb:blk k with
    | none=>rw[hb]at hh;exact hh
    | some g=>
     rw[hb]at hh
     obtain⟨cap,c,hv,x1,x2,x3,x4⟩:=hh
     obtain⟨c',y1,y2,y3⟩:=kz R h1 h2 hb hM
     rw[x1]at y1;cases y1
     rw[hty]at x1
     rw[h4]at x4 y3
     exact⟨cap,c,hv,x1,x2,x3,x4,y3⟩) hsrc hcells h5 h6
   refine⟨v',w',.aS k (ver+1),_,_,aF blk k gb,.inl (D6 _ _ q1),h7,?_,?_,.same (by simp)⟩
   ·refine R.setObj q2.2 (o':={ ob with xs:=ob.xs++ys,ver:=ver+1 }) h1 h2 h2 q2.1 q3 q4 (by simp;omega) (λhv=>by simp at hv;omega) (λhr=>?_)
    refine JQ (gb:=gb) (R:=aV w (aZ base S.objs blk) S.objs blk) (by unfold aF;rw[if_pos rfl]) ?_ hM hr
    cases gb with
    | none=>exact q5.2
    | some g=>
     obtain⟨cap,c,_,z1,z2,z3,z4,z5⟩:=q5
     simp only[hty,h4]
     exact⟨cap,c,z1,z2,z4,z5⟩
   ·have hone:v'.oneCell'=true:=by
      cases gb with
      | none=>rw[q5.1];rfl
      | some g=>obtain⟨cap,c,hv,_⟩:=q5;rw[hv];rfl
    refine⟨hone,{ ob with xs:=ob.xs++ys,ver:=ver+1 },?_,Nat.le_refl _,λ_ _=>⟨hM,?_⟩⟩
    ·rw[List.getElem?_set];simp[(List.getElem?_eq_some_iff.1 h1).1]
    ·unfold vL
     have:aF blk k gb k=gb:=by unfold aF;rw[if_pos rfl]
     rw[this]
     cases gb with
     | none=>exact q5
     | some g=>
      obtain⟨cap,c,hv,z1,z2,z3,z4,z5⟩:=q5
      simp only[hty,h4]
      exact⟨cap,c,hv,z1,z2,z3,z4⟩
  ·rename_i sz xs e1
   rw[e1]at hs
   obtain⟨h4,acJ,h5,h6,aea,h7⟩:=h
   have hcl:cu w (aZ base S.objs blk) (.cl sz xs) (a.eval s):=hs
   have fin:∀v,a.eval s=v→cu w (aZ base S.objs blk) (.sl sz xs none) v→(∀b l c,v=.slice b l c→c=l)→∃v' w' gb,(Builtin.append_ #[t,u] o.type #[a.eval s,a.eval x]).run P w=.ok v' w'∧(w.heap.size≤w'.heap.size∧Sm w w')∧
       (∀(b:Nat) y,w.heap[b]?=some y→w'.heap[b]?=some y)∧gb=w.heap.size∧(∃cap c,v'=.slice (some ⟨gb,0,none⟩) (xs++ys).length cap∧w'.heap[gb]?=some (.cells c e (0,0))∧(xs++ys).length≤cap∧cap≤maxLen∧c.size=cap*(D e).size∧aX (aV w (aZ base S.objs blk) S.objs blk) (D e).size c (xs++ys)):=by
    intro v hv hr hc
    obtain⟨olds,o1,o2⟩:=Y7 (P:=P) (w:=w) (objs:=S.objs) (blk:=blk) hu hr hpos acJ
    have key:∀b l c,v=.slice b l c→l=xs.length→∃v' w' gb,(Builtin.append_ #[t,u] o.type #[v,a.eval x]).run P w=.ok v' w'∧(w.heap.size≤w'.heap.size∧Sm w w')∧
     (∀(b:Nat) y,w.heap[b]?=some y→w'.heap[b]?=some y)∧gb=w.heap.size∧(∃cap c,v'=.slice (some ⟨gb,0,none⟩) (xs++ys).length cap∧w'.heap[gb]?=some (.cells c e (0,0))∧(xs++ys).length≤cap∧cap≤maxLen∧c.size=cap*(D e).size∧aX (aV w (aZ base S.objs blk) S.objs blk) (D e).size c (xs++ys)):=by
     intro b l c e1 e2
     have e3:=hc b l c e1
     subst e3;subst e2
     have hl:0<ys.length:=List.length_pos_iff.2 aea
     obtain⟨v',w',gb,q1,q2,q3,q4,q5⟩:=D7 (P:=P) (w:=w) (ty:=o.type) (R:=aV w (aZ base S.objs blk) S.objs blk) (xs:=xs) (ys:=ys) hu (hD e) hke hz hzs hsrc hcells h5 h6 b xs.length olds o1.newsLen o2 (by
      have:=o1.cellsD
      rw[e1]at this
      exact this) (by omega)
     exact⟨v',w',w.heap.size,by rw[e1];exact q1,q2,q3,rfl,q5⟩
    rw[hv]
    cases hr with
    | slnil=>exact key _ _ _ rfl rfl
    | FL=>exact key _ _ _ rfl rfl
    | sl=>exact key _ _ _ rfl rfl
   have hex:∃v' w' gb,(Builtin.append_ #[t,u] o.type #[a.eval s,a.eval x]).run P w=.ok v' w'∧(w.heap.size≤w'.heap.size∧Sm w w')∧
       (∀(b:Nat) y,w.heap[b]?=some y→w'.heap[b]?=some y)∧gb=w.heap.size∧(∃cap c,v'=.slice (some ⟨gb,0,none⟩) (xs++ys).length cap∧w'.heap[gb]?=some (.cells c e (0,0))∧(xs++ys).length≤cap∧cap≤maxLen∧c.size=cap*(D e).size∧aX (aV w (aZ base S.objs blk) S.objs blk) (D e).size c (xs++ys)):=by
    generalize hv:a.eval s=v at hcl
    rw[←hv]
    cases hcl with
    | cl _ _ _ hr hc=>exact fin v hv hr hc
   obtain⟨v',w',gb,q1,q2,q3,q4,cap,c,z0,z1,z2,z3,z4,z5⟩:=hex
   refine⟨v',w',.aS S.objs.length 1,_,_,aF blk S.objs.length (some gb),.inl (D6 _ _ q1),h7,?_,?_,?_⟩
   ·refine R.K5 ⟨q2.1,λb y hy=>q3 b y hy,q2.2⟩ (λg hg=>by cases hg;omega) ?_
    exact⟨c,by rw[jv ((hD e).notM hke)];exact z1,qQ ((hD e).notM hke) (by rw[z4];exact mul_le_mul_right _ z2),z5⟩
   ·refine⟨by rw[z0];rfl,_,xO _ _ _ _,Nat.le_refl _,λ_ _=>⟨(hD e).notM hke,?_⟩⟩
    unfold vL
    have:aF blk S.objs.length (some gb) S.objs.length=some gb:=by unfold aF;rw[if_pos rfl]
    rw[this]
    exact⟨cap,c,z0,z1,z2,z3,z4⟩
   ·exact .of λi y hy j p hp=>by
      obtain⟨v,_,h⟩:=(z5 i y hy).2 j p hp
      exact oF h
  ·rename_i sz e1
   rw[e1]at hs
   obtain⟨h5,h6,h7⟩:=h
   have hv:a.eval s=.slice none 0 0:=by
    have:=hs.sl
    generalize a.eval s=v at this
    cases this with
    | slnil=>rfl
    | FL _ _ hq=>exact absurd rfl hq
    | sl _ _ _ hq=>exact absurd rfl hq
   obtain⟨v',w',gb,q1,q2,q3,q4,q5⟩:=vZ (ty:=o.type) (R:=aV w (aZ base S.objs blk) S.objs blk) (gOld:=none) (v:=a.eval s) (x:=a.eval x) (xs:=[]) hu (hD e) hke hz hzs ⟨hv,rfl⟩ hsrc hcells (by simpa using h5) (by simpa using h6)
   simp only[List.nil_append]at q5
   refine⟨v',w',.aS S.objs.length 1,_,_,aF blk S.objs.length gb,.inl (D6 _ _ q1),h7,?_,?_,?_⟩
   ·refine R.K5 ⟨q2.1,λb y hy=>q3 b y (by simp) hy,q2.2⟩ (λg hg=>(q4 g hg).resolve_left (by simp)) ?_
    cases gb with
    | none=>exact q5.2
    | some g=>
     obtain⟨cap,c,_,z1,z2,z3,z4,z5⟩:=q5
     exact⟨c,by rw[jv ((hD e).notM hke)];exact z1,qQ ((hD e).notM hke) (by rw[z4];exact mul_le_mul_right _ z2),z5⟩
   ·have hone:v'.oneCell'=true:=by
      cases gb with
      | none=>rw[q5.1];rfl
      | some g=>obtain⟨cap,c,hv,_⟩:=q5;rw[hv];rfl
    refine⟨hone,_,xO _ _ _ _,Nat.le_refl _,λ_ _=>⟨(hD e).notM hke,?_⟩⟩
    unfold vL
    have:aF blk S.objs.length gb S.objs.length=gb:=by unfold aF;rw[if_pos rfl]
    rw[this]
    cases gb with
    | none=>exact q5
    | some g=>
     obtain⟨cap,c,hv,z1,z2,z3,z4,z5⟩:=q5
     exact⟨cap,c,hv,z1,z2,z3,z4⟩
   ·exact .of λi y hy j p hp=>by
      obtain⟨v,_,h⟩:=(hcells i y hy).2 j p hp
      exact oF h
  ·exact h.elim
 ·exact h.elim
end
end Lp
namespace Lp
open Go
section
variable {P:Program}{base ah:Nat→Prop}{w0:Wz}{S:St}{blk:Nat→Option Nat}{a:Act}{w:World}{D:TypeId→aD}
theorem Uz{t:TypeId}{x:Operand}{lo hi:Option Operand}{o:Oper}{K:KT}(ho:o.op=.slice t x lo hi none)(hD:∀t,fB P t (D t))(R:Rel base ah w0 S blk a w)
  (h:iB D t (S.ev x) (lo.map S.ev) (hi.map S.ev) S.objs K):Out P base ah w0 S o a w K:=by
 have hx:=R.ev x
 unfold iB at h
 split at h
 ·rename_i s hk e1
  rw[e1]at hx
  have hv:=hx.str
  have hu:=(hD t).Ut hk
  obtain⟨l,h',g1,_,_,_,g2⟩:=qg (P:=P) (b:=false) R (Nat.le_refl s.length) h
  refine .pure R ?_ g2 (.aI (.str _))
  simp[execOp,ho,hv,Instr.sliceAt,Instr.slice,run_underlying hu,size_mk,g1,extract_mk]
 ·rename_i e sz xs q hk e1
  rw[e1]at hx
  have hu:=(hD t).slice hk
  obtain⟨hke,hsz,h⟩:=h
  have hx':=hx.sl
  generalize hv:a.eval x=v at hx'
  cases hx' with
  | slnil _ _ hq=>
   obtain⟨l,h',g1,p1,p2,p3,g2⟩:=qg (P:=P) (b:=true) R (Nat.le_refl 0) h
   simp at p3
   have e1:l=0:=by omega
   have e2:h'=0:=by omega
   subst e1;subst e2
   refine .pure R (v:=.slice none 0 0) ?_ g2 (.aI (by simpa using cu.slnil sz q hq))
   simp[execOp,ho,hv,Instr.sliceAt,Instr.slice,run_underlying hu,g1,(hD e).dz hke]
  | FL _ _ hq a' cap hcap=>
   obtain⟨l,h',g1,p1,p2,p3,g2⟩:=qg (P:=P) (b:=true) R (Nat.zero_le cap) h
   simp at p3
   have e1:l=0:=by omega
   have e2:h'=0:=by omega
   subst e1;subst e2
   refine .pure R (v:=.slice (some (if cap=0 then a' else a'.add (0*(D e).size))) 0 (cap-0)) ?_ g2 (.aI (by simpa using cu.FL sz q hq _ cap hcap))
   simp[execOp,ho,hv,Instr.sliceAt,Instr.slice,run_underlying hu,g1,(hD e).dz hke]
   try (split<;>rfl)
  | sl _ _ _ hq b off cap vs hok hlen hcap hsz' hcell hrep=>
   obtain⟨l,h',g1,p1,p2,p3,g2⟩:=qg (P:=P) (b:=true) R hlen h
   have NC:(List.drop l.toNat (List.take h'.toNat xs)).length=h'.toNat-l.toNat:=by simp;omega
   refine .pure R (v:=.slice (some (if cap=l.toNat then ⟨b,off,none⟩ else ⟨b,off+l.toNat*(D e).size,none⟩)) (h'.toNat-l.toNat) (cap-l.toNat)) ?_ g2 (.aI ?_)
   ·simp[execOp,ho,hv,Instr.sliceAt,Instr.slice,run_underlying hu,g1,(hD e).dz hke,add_lit]
    split<;>rfl
   ·have key:∀off',(cap≠l.toNat→off'=off+l.toNat*(D e).size)→cu w (aZ base S.objs blk) (.sl sz (List.drop l.toNat (List.take h'.toNat xs)) q) (.slice (some ⟨b,off',none⟩) (h'.toNat-l.toNat) (cap-l.toNat)):=by
      intro off' hoff
      rw[←NC]
      have hget:∀(i:Nat) (y:PV),(List.drop l.toNat (List.take h'.toNat xs))[i]?=some y→xs[l.toNat+i]?=some y∧off'=off+l.toNat*sz:=by
       intro i y hy
       rw[List.getElem?_drop,List.getElem?_take]at hy
       split at hy
       ·rename_i hlt
        have:xs≠[]:=by rintro rfl;simp at hy
        rw[←hsz.resolve_left this]
        exact⟨hy,hoff (by omega)⟩
       ·cases hy
      refine .sl sz _ q hq b off' (cap-l.toNat) (λi j=>vs (l.toNat+i) j) (λhn=>hok (by rintro rfl;simp at hn)) (by rw[NC];omega) (by omega) (λi y hy=>hsz' _ _ (hget i y hy).1) ?_ ?_
      ·intro i y j p hy hp
       rw[←hcell _ _ j p (hget i y hy).1 hp,(hget i y hy).2,Nat.add_mul]
       congr 2
       omega
      ·intro i y j p hy hp
       exact hrep _ _ j p (hget i y hy).1 hp
    split
    ·exact key off (λhc=>absurd (by assumption) hc)
    ·exact key _ (λ_=>rfl)
 ·rename_i e k ver hk e1
  rw[e1]at hx
  have hu:=(hD t).slice hk
  obtain⟨hke,ob,h1,h2,h3,hsz,hlo,h⟩:=h
  have aeb:lo=none:=by cases lo<;>simp at hlo ⊢
  subst aeb
  have hh:=hx.aS h1 h2 h3
  have hM:=hx.tX h1 h2 h3
  obtain⟨h',g1,p1,p2,g2⟩:∃h':Int,(∀cap,ob.xs.length≤cap→(Instr.sliceBounds true ob.xs.length cap none (hi.map a.eval) none).run P w=.ok (0,h'.toNat,cap) w)∧0≤h'∧h'≤ob.xs.length∧
    K (.aS k (ver+1)) (S.objs.set k { ob with xs:=ob.xs.take h'.toNat,ver:=ver+1 }) (5+2*k):=by
   cases hi with
   | none=>
    rw[Option.map_none,qV]at h
    exact⟨ob.xs.length,λcap hc=>by simp[Instr.sliceBounds],h⟩
   | some y=>
    obtain⟨k',n,hv,h⟩:=qU R h
    exact⟨n,λcap hc=>by simp[Instr.sliceBounds,run_sliceBound hv h.1 (show n≤(cap:Int) by omega)],h⟩
  have hlen:(ob.xs.take h'.toNat).length=h'.toNat:=by simp;omega
  have hk':k<S.objs.length:=(List.getElem?_eq_some_iff.1 h1).1
  have hrel:Rel base ah w0 ⟨S.tmps,S.objs.set k { ob with xs:=ob.xs.take h'.toNat,ver:=ver+1 }⟩ (aF blk k (blk k)) a w:=by
   refine R.setObj (.refl w) (o':={ ob with xs:=ob.xs.take h'.toNat,ver:=ver+1 }) h1 h2 h2 (Nat.le_refl _) (λ_ _ _ h=>h) (λg hg=>.inl hg) (by simp;omega) (λhv=>by simp at hv;omega) (λhr=>?_)
   have tZ:=R.objs.ob k ob h1 h2
   unfold bB at tZ ⊢
   have:aF blk k (blk k) k=blk k:=by unfold aF;rw[if_pos rfl]
   rw[this]
   cases hb:blk k with
   | none=>rw[hb]at tZ;simp[tZ]
   | some g=>
    rw[hb]at tZ hr
    obtain⟨c,x1,x2,x3⟩:=tZ
    refine⟨c,x1,qQ hM (Nat.le_trans (Nat.mul_le_mul_right _ (by rw[hlen];omega)) x2.1),λi y hy=>?_⟩
    simp only[List.getElem?_take]at hy
    split at hy
    ·refine⟨(x3 i y hy).1,λj p hp=>?_⟩
     obtain⟨v,u1,u2⟩:=(x3 i y hy).2 j p hp
     exact⟨v,u1,hr _ _ u2⟩
    ·cases hy
  unfold vL at hh
  cases hb:blk k with
  | none=>
   rw[hb]at hh
   have hx0:=hh.2
   have e0:h'=0:=by rw[hx0]at p2;simp at p2;omega
   refine⟨.slice none 0 0,w,_,_,_,_,.inl ?_,g2,hrel,⟨rfl,_,by rw[List.getElem?_set];simp[hk'];rfl,Nat.le_refl _,λ_ _=>?_⟩,.same (by simp)⟩
   ·have:=g1 0 (by rw[hx0];simp)
    rw[hx0,e0]at this
    simp at this
    simp[execOp,ho,hh.1,Instr.sliceAt,Instr.slice,run_underlying hu,this,(hD e).dz hke]
   ·refine⟨hM,?_⟩
    unfold vL
    have:aF blk k (blk k) k=none:=by unfold aF;rw[if_pos rfl,hb]
    rw[this]
    exact⟨rfl,by simp[hx0]⟩
  | some g=>
   rw[hb]at hh
   obtain⟨cap,c,hv,x1,x2,x3,x4⟩:=hh
   refine⟨.slice (some ⟨g,0,none⟩) h'.toNat cap,w,_,_,_,_,.inl ?_,g2,hrel,⟨rfl,_,by rw[List.getElem?_set];simp[hk'];rfl,Nat.le_refl _,λ_ _=>?_⟩,.same (by simp)⟩
   ·simp[execOp,ho,hv,Instr.sliceAt,Instr.slice,run_underlying hu,g1 cap x2,(hD e).dz hke,add_lit]
   ·refine⟨hM,?_⟩
    unfold vL
    have:aF blk k (blk k) k=some g:=by unfold aF;rw[if_pos rfl,hb]
    rw[this]
    exact⟨cap,c,by rw[hlen],x1,by rw[hlen];omega,x3,x4⟩
 ·rename_i m e cs hk e1
  rw[e1]at hx
  have hu:=(hD t).arr hk
  obtain⟨hke,hsz,hag,hcl,hml,hna,h⟩:=h
  have hx':=hx.addr
  generalize hv:a.eval x=v at hx'
  cases hx' with
  | addr _ b off vs hok hcell hrep=>
   obtain⟨l,h',g1,p1,p2,p3,g2⟩:=qg (P:=P) (b:=false) R (Nat.le_refl m) h
   have NC:(List.drop l.toNat (List.take h'.toNat cs)).length=h'.toNat-l.toNat:=by simp;omega
   refine .pure R (v:=.slice (some (if m=l.toNat then ⟨b,off,none⟩ else ⟨b,off+l.toNat*(D e).size,none⟩)) (h'.toNat-l.toNat) (m-l.toNat)) ?_ g2 (.aI ?_)
   ·simp[execOp,ho,hv,Instr.sliceAt,Instr.sureAddr,run_underlying hu,g1,(hD e).dz hke,add_lit]
   ·have hcells:∀(y:PV),y∈cs→y.cells=[y]:=by
      intro y hy
      have:=pW hna y hy
      revert this;cases y<;>simp[PV.isAgg,PV.cells]
    have key:∀off',(m≠l.toNat→off'=off+l.toNat)→cu w (aZ base S.objs blk) (.sl 1 (List.drop l.toNat (List.take h'.toNat cs)) none) (.slice (some ⟨b,off',none⟩) (h'.toNat-l.toNat) (m-l.toNat)):=by
     intro off' hoff
     rw[←NC]
     have hget:∀(i:Nat) (y:PV),(List.drop l.toNat (List.take h'.toNat cs))[i]?=some y→cs[l.toNat+i]?=some y∧off'=off+l.toNat:=by
      intro i y hy
      rw[List.getElem?_drop,List.getElem?_take]at hy
      split at hy
      ·rename_i hlt;exact⟨hy,hoff (by omega)⟩
      ·cases hy
     refine .sl 1 _ _ (by simp) b off' (m-l.toNat) (λi j=>vs (l.toNat+i+j)) (λ_=>hok) (by rw[NC];omega) ?_ ?_ ?_ ?_
     ·simp only[maxLen];omega
     ·intro i y hy;rw[hcells y (List.mem_of_getElem? (hget i y hy).1)];rfl
     ·intro i y j p hy hp
      rw[hcells y (List.mem_of_getElem? (hget i y hy).1)]at hp
      cases j with
      | zero=>
       have:=hcell (l.toNat+i) y (hget i y hy).1
       rw[(hget i y hy).2]
       simp only[Nat.mul_one,Nat.add_zero]
       rw[←this];congr 2;omega
      | succ j=>simp at hp
     ·intro i y j p hy hp
      rw[hcells y (List.mem_of_getElem? (hget i y hy).1)]at hp
      cases j with
      | zero=>simp at hp;subst hp;exact hrep (l.toNat+i) y (hget i y hy).1
      | succ j=>simp at hp
    split
    ·exact key off (λhc=>absurd (by assumption) hc)
    ·rw[hsz,Nat.mul_one];exact key _ (λ_=>rfl)
 ·exact h.elim
theorem ND{x:Operand}{o:Oper}{K:KT}(ho:o.op=.move x∨o.op=.assign x)(R:Rel base ah w0 S blk a w)(h:K (S.ev x) S.objs 0):Out P base ah w0 S o a w K:=by
 refine .pure R (v:=a.eval x) ?_ h (R.ev x)
 rcases ho with ho | ho<;>simp[execOp,ho]
def vN(c x y:PV)(objs:List Obj)(K:KT):Prop:=
 match c with
 | .bool b=>K (if b then x else y) objs 0
 | _=>False
theorem WE{c x y:Operand}{o:Oper}{K:KT}(ho:o.op=.pick c x y)(R:Rel base ah w0 S blk a w)(h:vN (S.ev c) (S.ev x) (S.ev y) S.objs K):Out P base ah w0 S o a w K:=by
 have hc:=R.ev c
 unfold vN at h
 split at h
 ·rename_i b e
  rw[e]at hc
  have hc:=hc.bool
  refine .pure R (v:=if b then a.eval x else a.eval y) ?_ h ?_
  ·simp[execOp,ho,hc,asBool]
  ·cases b
   ·exact R.ev y
   ·exact R.ev x
 ·exact h.elim
theorem Y8{op:BinOp}{t u:TypeId}{x y:Operand}{o:Oper}{K:KT}(ho:o.op=.binOp op t x y u)(hD:∀t,fB P t (D t))(R:Rel base ah w0 S blk a w)
  (h:oP P (D t) t op (S.ev x) (S.ev y) λr=>K r S.objs 0):Out P base ah w0 S o a w K:=by
 obtain⟨r,v,h1,h2,h3,h4⟩:=WB (hD t) R h
 exact .pure R (by simp[execOp,ho,h1,h2]) h3 h4
theorem abq{op:UnOp}{t:TypeId}{x:Operand}{o:Oper}{K:KT}(ho:o.op=.unOp op t x)(R:Rel base ah w0 S blk a w)
  (h:Nh op (S.ev x) λr=>K r S.objs 0):Out P base ah w0 S o a w K:=by
 obtain⟨r,v,h2,h3,h4⟩:=Y0 (P:=P) R h
 exact .pure R (by simp[execOp,ho,h2]) h3 h4
theorem FR{s t:TypeId}{x:PV}{objs:List Obj}{K:KT}(h:∀k ver,x≠.aS k ver):qR D s t x objs K=qf (D s) (D t) x λr=>K r objs 0:=by
 cases x<;>first | rfl | exact absurd rfl (h _ _)
theorem WG{s t:TypeId}{x:Operand}{o:Oper}{K:KT}(ho:o.op=.convert s t x)(hD:∀t,fB P t (D t))(R:Rel base ah w0 S blk a w)
  (h:qR D s t (S.ev x) S.objs K):Out P base ah w0 S o a w K:=by
 by_cases hx:∃k ver,S.ev x=.aS k ver
 ·obtain⟨k,ver,e1⟩:=hx
  have hr:=R.ev x
  rw[e1]at h hr
  obtain⟨ob,bs,h1,h2,h3,h4,hne,h5,h6,⟨e,h7,h8⟩,h9⟩:=h
  have hh:=hr.aS h1 h2 h3
  have hs:=(hD s).slice h7
  have he:P.underlying e=some (.int .u8):=by
   have:=hD e
   unfold fB at this
   rw[h8]at this
   rcases this with h | h
   ·cases h
   ·exact h.2
  have ht:=(hD t).Ut h6
  unfold vL at hh
  cases hb:blk k with
  | none=>rw[hb]at hh;rw[h5]at hh;exact absurd (List.map_eq_nil_iff.1 hh.2) hne
  | some g=>
   rw[hb]at hh
   obtain⟨cap,c,hv,x1,x2,x3,x4⟩:=hh
   obtain⟨c',y1,y2,y3⟩:=kz R h1 h2 hb (hr.tX h1 h2 h3)
   rw[x1]at y1;cases y1
   have hl:ob.xs.length=bs.length:=by rw[h5];simp
   rw[hl]at hv
   refine .pure R ?_ h9 (.aI (.str _))
   have:=run_convert_bytes_back (P:=P) w s t e ⟨g,0,none⟩ cap bs hs he ht (λj hj=>by
    rw[add_lit]
    obtain⟨z1,z2⟩:=y3 j (.int .u8 (bs[j].toNat)) (by rw[h5];simp[hj])
    obtain⟨v,u1,u2⟩:=z2 0 (.int .u8 (bs[j].toNat)) rfl
    have hu:cu w _ (.int .u8 (bs[j].toNat)) v:=u2
    cases hu
    rw[h4,Nat.mul_one,Nat.add_zero]at u1
    simp only[World.cell?,x1,Nat.zero_add]
    simpa using u1)
   simp[execOp,ho,hv,this]
 ·rw[FR λk ver e=>hx ⟨k,ver,e⟩]at h
  obtain⟨r,v,h2,h3,h4⟩:=Ur (hD s) (hD t) R h
  exact .pure R (by simp[execOp,ho,h2]) h3 h4
theorem K7{x:Operand}{o:Oper}{K:KT}(ho:o.op=.nilCheck x)(R:Rel base ah w0 S blk a w)(h:dx (S.ev x) S.objs K):Out P base ah w0 S o a w K:=by
 have hx:=R.ev x
 unfold dx at h
 split at h
 ·rename_i p e
  have hx':aO w (aZ base S.objs blk) S.objs blk (.addr p) (a.eval x):=by rw[←e];exact hx
  have hx'':=hx'.addr
  refine .pure R (v:=a.eval x) ?_ h hx
  generalize hv:a.eval x=v at hx''
  cases hx'' with
  | addr _ b off vs hok hcell hrep=>simp[execOp,ho,hv]
 ·rename_i k ver i f e
  obtain⟨ob,h1,h2,h3,h4⟩:=h
  have hx':aO w (aZ base S.objs blk) S.objs blk (.bf k ver i f) (a.eval x):=by rw[←e];exact hx
  obtain⟨g,hb,hv,hty⟩:=hx'.bf h1 h2 h3
  exact .pure R (v:=a.eval x) (by simp[execOp,ho,hv]) h4 hx
 ·exact h.elim
theorem sj{f:Operand→PV}{g:Operand→Value}{Rr:PV→Value→Prop}(xs:List Operand)(h:∀x∈xs,Rr (f x) (g x)):bG Rr (xs.map f) (xs.map g):=by
 refine⟨by simp,λi p v hp hv=>?_⟩
 rw[List.getElem?_map]at hp hv
 cases hx:xs[i]? with
 | none=>rw[hx]at hp;simp at hp
 | some x=>
  rw[hx]at hp hv
  simp only[Option.map_some,Option.some.injEq]at hp hv
  subst hp;subst hv
  exact h x (List.mem_of_getElem? hx)
def kC(f:FuncId)(first cap:List PV)(objs:List Obj)(K:KT):Prop:=
 first.all PV.storable=true∧cap.all PV.storable=true∧K (.fn f first cap) objs 0
theorem K8{f:FuncId}{first cap:Array Operand}{o:Oper}{K:KT}(ho:o.op=.makeFunc (.func f) first cap)(R:Rel base ah w0 S blk a w)
  (h:kC f (first.toList.map S.ev) (cap.toList.map S.ev) S.objs K):Out P base ah w0 S o a w K:=by
 obtain⟨h1,h2,h3⟩:=h
 refine .pure R (v:=.func (.func f) ⟨first.toList.map a.eval⟩ ⟨cap.toList.map a.eval⟩) ?_ h3 ⟨_,_,rfl,sj _ λx hx=>?_,sj _ λx hx=>?_⟩
 ·have e1:(Array.mk (first.toList.map a.eval))=first.map a.eval:=by apply Array.ext';simp
  have e2:(Array.mk (cap.toList.map a.eval))=cap.map a.eval:=by apply Array.ext';simp
  rw[e1,e2]
  simp[execOp,ho,Instr.makeFunc]
 ·exact si (R.ev x) (List.all_eq_true.1 h1 _ (List.mem_map.2 ⟨x,hx,rfl⟩))
 ·exact si (R.ev x) (List.all_eq_true.1 h2 _ (List.mem_map.2 ⟨x,hx,rfl⟩))
def bW(x:PV)(i:Nat)(objs:List Obj)(K:KT):Prop:=
 match x with
 | .bY cs=>∃p,cs[i]?=some p∧K p objs 0
 | _=>False
theorem NE{x:Operand}{i:Nat}{o:Oper}{K:KT}(ho:o.op=.extract x i)(R:Rel base ah w0 S blk a w)(h:bW (S.ev x) i S.objs K):Out P base ah w0 S o a w K:=by
 have hx:=R.ev x
 unfold bW at h
 split at h
 ·rename_i cs e
  rw[e]at hx
  obtain⟨p,h1,h2⟩:=h
  obtain⟨vs,hv,hr⟩:=hx
  obtain⟨v,h3,h4⟩:=hr.get h1
  refine .pure R (v:=v) ?_ h2 (.dS h4)
  have:(Array.mk vs)[i]?=some v:=by simpa using h3
  simp[execOp,ho,hv,Instr.extract,this]
 ·exact h.elim
theorem bG.splice {Rr:PV→Value→Prop}{cs ps:List PV}{vs us:List Value}(h:bG Rr cs vs)(h':bG Rr ps us)(off:Nat)(hl:off+ps.length≤cs.length) :
  bG Rr (cs.take off++ps++cs.drop (off+ps.length)) (vs.take off++us++vs.drop (off+us.length)):=by
 have e1:=h.1
 have e2:=h'.1
 refine⟨by simp;omega,λi p v hp hv=>?_⟩
 rw[jM _ _ _ _ hl]at hp
 rw[jM _ _ _ _ (by omega)]at hv
 by_cases c1:i<off
 ·rw[if_pos c1]at hp hv;exact h.2 _ _ _ hp hv
 ·rw[if_neg c1]at hp hv
  by_cases c2:i<off+ps.length
  ·rw[if_pos c2]at hp;rw[if_pos (by omega)]at hv;exact h'.2 _ _ _ hp hv
  ·rw[if_neg c2]at hp;rw[if_neg (by omega)]at hv;exact h.2 _ _ _ hp hv
theorem JR{Rr:PV→Value→Prop}{place:Nat→Option (Nat×Nat)}:∀(parts:List (Nat×Operand)) (f:Operand→PV) (g:Operand→Value) (cs:List PV) (vs:List Value) (K:List PV→Prop),
  (∀x∈parts,∃us,(g x.2).cells=⟨us⟩∧bG Rr (f x.2).cells us)→bG Rr cs vs→oD place cs (parts.map λx=>(x.1,f x.2)) K→
  ∃cs' vs',Instr.fill place ⟨vs⟩ (parts.map λx=>(x.1,g x.2))=some ⟨vs'⟩∧bG Rr cs' vs'∧K cs'
 | [],f,g,cs,vs,K,_,hr,h=>⟨cs,vs,rfl,hr,h⟩
 | x::parts,f,g,cs,vs,K,hp,hr,h=>by
  obtain⟨pl,h1,h2,h3,h4⟩:=h
  obtain⟨us,u1,u2⟩:=hp x (by simp)
  have hn:us.length=(f x.2).cells.length:=u2.1.symm
  obtain⟨cs',vs',r1,r2,r3⟩:=JR parts f g _ _ K (λy hy=>hp y (by simp[hy])) (hr.splice u2 pl.1 h3) h4
  refine⟨cs',vs',?_,r2,r3⟩
  simp only[List.map_cons]
  unfold Instr.fill
  simp only[h1,u1]
  have hc:¬ ((Array.mk us).size≠pl.2∨pl.1+(Array.mk us).size > (Array.mk vs).size):=by
   simp only[List.size_toArray,hn,h2]
   rw[h2]at h3
   have:=hr.1
   simp;omega
  simp only[Bool.or_eq_true,decide_eq_true_eq]
  rw[if_neg hc,fold_eq]
  have hfit:pl.1+0+us.length≤(Array.mk vs).size:=by simp;rw[hn,←hr.1];omega
  obtain⟨g1,g2⟩:=foldl_set pl.1 us 0 ⟨vs⟩ hfit
  have:(us.zipIdx 0).foldl (λ(cs:Array Value) (x:Value×Nat)=>cs.setIfInBounds (pl.1+x.2) x.1) ⟨vs⟩=⟨vs.take pl.1++us++vs.drop (pl.1+us.length)⟩:=by
   apply Array.ext_getElem?
   intro q
   rw[g2]
   simp only[Nat.add_zero,List.getElem?_toArray]
   rw[jM _ _ _ _ (by simpa using hfit)]
   by_cases c1:q<pl.1
   ·rw[if_neg (by omega),if_pos c1]
   ·rw[if_neg c1]
    by_cases c2:q<pl.1+us.length
    ·rw[if_pos (by omega),if_pos c2]
    ·rw[if_neg (by omega),if_neg c2]
  rw[this]
  exact r1
theorem NF{fl:List Field}{n:Field→Nat}(h:∀f∈fl,(Go.sizeOf f.type).run P w=.ok (n f) w) :
  (fl.mapM λf=>do pure (f.offset,←Go.sizeOf f.type):Sem (List (Nat×Nat))).run P w=.ok (fl.map λf=>(f.offset,n f)) w:=by
 induction fl with
 | nil=>simp
 | cons f fl ih=>
  rw[List.mapM_cons]
  simp only[Sem.run_bind,h f (by simp),Result.andThen_ok,Sem.run_pure,ih (λg hg=>h g (by simp[hg])),List.map_cons]
def uf(p:PV):Bool:=p.cells.all PV.storable
def dh(D:TypeId→aD)(t:TypeId)(parts:List (Nat×PV))(objs:List Obj)(K:KT):Prop:=
 (D t).agg=true∧(aL (D t)).isAgg=true∧parts.all (λp=>uf p.2)=true∧nN D t parts objs K
theorem UA{t:TypeId}{parts:Array (Nat×Operand)}{o:Oper}{K:KT}(ho:o.op=.build t parts)(hD:∀t,fB P t (D t))(R:Rel base ah w0 S blk a w)
  (h:dh D t (parts.toList.map λx=>(x.1,S.ev x.2)) S.objs K):Out P base ah w0 S o a w K:=by
 obtain⟨hagg,aaA,hparts,h⟩:=h
 have hk:(D t).kind≠.none:=by intro e;simp[aD.agg,e]at hagg
 obtain⟨i,hi,hsz,_,hzero⟩:=(hD t).info hk
 obtain⟨zcs,hz1⟩:∃zcs,aL (D t)=.agg zcs:=by
  cases hz:aL (D t)<;>rw[hz]at aaA<;>simp[PV.isAgg]at aaA;exact⟨_,rfl⟩
 have hzr:=tV w (aZ base S.objs blk) (D t).zero
 have hz1':PV.vM (D t).zero=.agg zcs:=hz1
 rw[hz1']at hzr
 obtain⟨zvs,hz2,hz3⟩:∃zvs,(D t).zero=.agg ⟨zvs⟩∧bG (aV w (aZ base S.objs blk) S.objs blk) zcs zvs:=by
  generalize (D t).zero=z at hzr
  cases hzr with
  | agg _ vs hl hh=>exact⟨vs,rfl,hl,λi p v a b=>.aI (hh i p v a b)⟩
 have hp:∀x∈parts.toList,∃us,(a.eval x.2).cells=⟨us⟩∧bG (aV w (aZ base S.objs blk) S.objs blk) (S.ev x.2).cells us:=by
  intro x hx
  have:=List.all_eq_true.1 hparts (x.1,S.ev x.2) (List.mem_map.2 ⟨x,hx,rfl⟩)
  obtain⟨us,u1,u2,_⟩:=jL (R.ev x.2) this
  exact⟨us,u1,u2⟩
 unfold nN at h
 have aaB:∀(place:Nat→Option (Nat×Nat)),oD place (aL (D t)).cells (parts.toList.map λx=>(x.1,S.ev x.2)) (λcs=>K (.agg cs) S.objs 0)→
     ∃cs' vs',Instr.fill place ⟨zvs⟩ (parts.map λx=>(x.1,a.eval x.2)).toList=some ⟨vs'⟩∧bG (aV w (aZ base S.objs blk) S.objs blk) cs' vs'∧K (.agg cs') S.objs 0:=by
  intro place h
  rw[hz1]at h
  rw[Array.toList_map]
  exact JR parts.toList S.ev a.eval zcs zvs _ hp hz3 h
 split at h
 ·rename_i fs hkk
  obtain⟨hfs,h⟩:=h
  have:=(hD t).resolve_left hk
  rw[hkk]at this
  obtain⟨_,fl,hu,hm⟩:=this
  have abr:∀f∈fl.toList,(Go.sizeOf f.type).run P w=.ok (D f.type).size w:=by
   intro f hf
   exact (hD f.type).dz (hfs (f.offset,f.type) (by rw[←hm];exact List.mem_map.2 ⟨f,hf,rfl⟩)) w
  have Y9:=NF (P:=P) (w:=w) (n:=λf=>(D f.type).size) abr
  obtain⟨cs',vs',q1,q2,q3⟩:=aaB _ h
  have hpl:(λ(i:Nat)=>(fs[i]?).map λ(x:Nat×TypeId)=>(x.1,(D x.2).size))=λ(i:Nat)=>((fl.map λf=>(f.offset,(D f.type).size))[i]?:Option (Nat×Nat)):=by
   funext i
   rw[←hm]
   simp
   cases fl[i]?<;>rfl
  rw[hpl]at q1
  refine .pure R (v:=.agg ⟨vs'⟩) ?_ q3 ⟨vs',rfl,q2⟩
  have hmm:(fl.mapM λf=>do pure (f.offset,←Go.sizeOf f.type):Sem (Array (Nat×Nat))).run P w=.ok (fl.map λf=>(f.offset,(D f.type).size)) w:=by
   rw[Array.mapM_eq_mapM_toList]
   simp only[Sem.run_map,Y9,Result.andThen_ok]
   congr 1
   apply Array.ext';simp
  simp only[execOp,ho,Instr.build,Sem.run_bind,zeroValue,typeInfo,run_program,Result.andThen_ok,hi,hzero,Sem.run_pure,hz2,Value.cells,run_underlying hu,hmm,q1]
 ·rename_i m e hkk
  obtain⟨hke,h⟩:=h
  have hu:=(hD t).arr hkk
  obtain⟨cs',vs',q1,q2,q3⟩:=aaB _ h
  refine .pure R (v:=.agg ⟨vs'⟩) ?_ q3 ⟨vs',rfl,q2⟩
  simp only[execOp,ho,Instr.build,Sem.run_bind,zeroValue,typeInfo,run_program,Result.andThen_ok,hi,hzero,Sem.run_pure,hz2,Value.cells,run_underlying hu,(hD e).dz hke,q1]
 ·exact h.elim
theorem FT{isMax:Bool}{xs:Array Operand}{ts:Array TypeId}{o:Oper}{K:KT}(ho:o.op=.call { callee:=.builtin (if isMax then .max else .min),args:=xs,argTypes:=ts })(R:Rel base ah w0 S blk a w)
  (h:gK isMax (xs.toList.map S.ev) λr=>K r S.objs 0):Out P base ah w0 S o a w K:=by
 unfold gK at h
 split at h
 ·rename_i k m k' n e
  obtain⟨x,y,hxy⟩:∃x y,xs.toList=[x,y]:=by
   match hl:xs.toList with
   | []=>rw[hl]at e;simp at e
   | [_]=>rw[hl]at e;simp at e
   | [x,y]=>exact⟨x,y,rfl⟩
   | _::_::_::_=>rw[hl]at e;simp at e
  rw[hxy]at e
  simp only[List.map_cons,List.map_nil,List.cons.injEq,and_true]at e
  obtain⟨rfl,h⟩:=h
  have hx:=R.ev x;rw[e.1]at hx
  have hy:=R.ev y;rw[e.2]at hy
  have hx:=hx.int
  have hy:=hy.int
  have hxs:xs=#[x,y]:=by apply Array.ext';simpa using hxy
  subst hxs
  refine .pure R (v:=.int k (if isMax then (if n > m then n else m) else (if n<m then n else m))) ?_ h (.aI (.int _ _))
  cases isMax
  ·simp[execOp,ho,resolve,invoke,builtin,Builtin.min_,Builtin.min2,hx,hy]
  ·simp[execOp,ho,resolve,invoke,builtin,Builtin.max_,Builtin.max2,hx,hy]
 ·exact h.elim
end
end Lp
namespace Lp
open Go
def QF:TK→PV→PV→Option Bool
 | .str,.str a,.str b=>some (decide (a=b))
 | .int _,.int k a,.int k' b=>if k=k' then some (decide (a=b)) else none
 | _,_,_=>none
def lT(t:TK)(key:PV):List PV→Nat→Option (Option (Nat×PV))
 | [],_=>some none
 | .agg [k,v]::es,i=>match QF t key k with
  | some true=>some (some (i,v))
  | some false=>lT t key es (i+1)
  | none=>none
 | _::_,_=>none
def mH(D:TypeId→aD)(t:TypeId)(objs:List Obj)(K:KT):Prop:=
 match (D t).kind with
 | .map _ _=>K (.fM objs.length 1) (newObj objs MT 2 []) (5+2*objs.length)
 | _=>False
def found(ti:aD)(m:Option (Nat×PV))(ok:Bool):PV:=
 match m with
 | some (_,v)=>if ok then .bY [v,.bool true] else v
 | none=>if ok then .bY [aL ti,.bool false] else aL ti
def jy(D:TypeId→aD)(t:TypeId)(x ix:PV)(ok:Bool)(objs:List Obj)(K:KT):Prop:=
 match (D t).kind,x with
 | .map kt et,.fM k ver=>((D kt).kind=.str∨∃i,(D kt).kind=.int i)∧(D et).kind≠.none∧∃o,objs[k]?=some o∧o.live=true∧o.ver=ver∧o.sz=2∧
   ∃m,lT (D kt).kind ix o.xs 0=some m∧K (found (D et) m ok) objs (4+2*k)
 | _,_=>False
def CU(key v:PV)(xs:List PV)(m:Option (Nat×PV)):List PV:=
 match m with
 | some (i,_)=>xs.set i (.agg [key,v])
 | none=>xs++[.agg [key,v]]
def fe(D:TypeId→aD)(t:TypeId)(x key v:PV)(objs:List Obj)(K:KT):Prop:=
 match (D t).kind,x with
 | .map kt _,.fM k ver=>((D kt).kind=.str∨∃i,(D kt).kind=.int i)∧key.storable=true∧v.storable=true∧∃o,objs[k]?=some o∧o.live=true∧o.ver=ver∧o.sz=2∧
   ∃m,lT (D kt).kind key o.xs 0=some m∧K .dead (objs.set k { o with xs:=CU key v o.xs m }) (5+2*k)
 | _,_=>False
section
variable {P:Program}{base ah:Nat→Prop}{w0:Wz}{S:St}{blk:Nat→Option Nat}{a:Act}{w:World}{D:TypeId→aD}{objs:List Obj}{ok:Nat→Prop}
theorem gX(c:Array Value):(mapOf c).size=c.size / 2:=by simp[mapOf]
theorem gu(c:Array Value)(i:Nat)(h:i<c.size / 2):(mapOf c)[i]?=some { key:=c.getD (2*i) undef,val:=c.getD (2*i+1) undef,born:=i }:=by
 simp[mapOf,List.getElem?_map,h]
theorem QG{c:Array Value}{n:Nat}(hc:c.size=2*n)(k v:Value):mapOf ((c.push k).push v)=(mapOf c).push { key:=k,val:=v,born:=n }:=by
 have h2:((c.push k).push v).size / 2=n+1:=by simp;omega
 have h1:c.size / 2=n:=by omega
 apply Array.ext_getElem?
 intro i
 by_cases hi:i<n
 ·rw[gu _ _ (by omega),Array.getElem?_push,gX,h1,if_neg (by omega),gu _ _ (by omega)]
  have e1:((c.push k).push v).getD (2*i) undef=c.getD (2*i) undef:=by
   simp only[Array.getD_eq_getD_getElem?,Array.getElem?_push]
   rw[if_neg (by simp;omega),if_neg (by omega)]
  have e2:((c.push k).push v).getD (2*i+1) undef=c.getD (2*i+1) undef:=by
   simp only[Array.getD_eq_getD_getElem?,Array.getElem?_push]
   rw[if_neg (by simp;omega),if_neg (by omega)]
  rw[e1,e2]
 ·by_cases he:i=n
  ·subst he
   rw[gu _ _ (by omega),Array.getElem?_push,gX,h1,if_pos rfl]
   have e1:((c.push k).push v).getD (2*i) undef=k:=by
    simp only[Array.getD_eq_getD_getElem?,Array.getElem?_push]
    rw[if_neg (by simp;omega),if_pos (by omega)];rfl
   have e2:((c.push k).push v).getD (2*i+1) undef=v:=by
    simp only[Array.getD_eq_getD_getElem?,Array.getElem?_push]
    rw[if_pos (by simp;omega)];rfl
   rw[e1,e2]
  ·rw[Array.getElem?_eq_none (by rw[gX];omega),Array.getElem?_eq_none (by simp[gX];omega)]
theorem UB{c:Array Value}{n i:Nat}(hc:c.size=2*n)(hi:i<n)(k v:Value) :
  mapOf ((c.setIfInBounds (2*i) k).setIfInBounds (2*i+1) v)=(mapOf c).modify i λe=>{ e with key:=k,val:=v }:=by
 have h1:c.size / 2=n:=by omega
 apply Array.ext_getElem?
 intro j
 by_cases hj:j<n
 ·rw[gu _ _ (by simp;omega),Array.getElem?_modify,gu _ _ (by omega)]
  simp only[Array.getD_eq_getD_getElem?,Array.getElem?_setIfInBounds,Array.size_setIfInBounds]
  by_cases e:i=j
  ·subst e
   rw[if_neg (by omega),if_pos (by omega),if_pos (by omega)]
   simp only[if_true,Option.map_some]
   rw[if_pos (by omega)]
   simp
  ·rw[if_neg (by omega),if_neg (by omega),if_neg (by omega),if_neg (by omega),if_neg e]
 ·rw[Array.getElem?_eq_none (by rw[gX];simp;omega),Array.getElem?_eq_none (by simp[gX];omega)]
theorem ug{g:Nat}{es:Array MapEntry}{n:Nat}(h:w.heap[g]?=some (.map es n)):(getObj g).run P w=.ok (.map es n) w:=by
 simp[getObj,Sem.run,h]
theorem FU{g:Nat}{es:Array MapEntry}{n:Nat}(o:Go.Obj)(h:w.heap[g]?=some (.map es n)):(setObj g o).run P w=.ok () { w with heap:=w.heap.setIfInBounds g o }:=by
 simp[setObj,Sem.run,h]
theorem bytes_beq(a b:List UInt8):((ByteArray.mk ⟨a⟩)==(ByteArray.mk ⟨b⟩))=decide (a=b):=by
 show ByteArray.beq _ _=_
 unfold ByteArray.beq
 simp only[List.beq_toArray]
 rw[Bool.eq_iff_iff];simp
theorem Y_{p q:PV}{r:Bool}(h:QF .str p q=some r):∃a b,p=.str a∧q=.str b∧r=decide (a=b):=by
 cases p<;>cases q<;>simp only[QF,Option.some.injEq,reduceCtorEq]at h
 exact⟨_,_,rfl,rfl,h.symm⟩
theorem Za{p q:PV}{r:Bool}{i:IntKind}(h:QF (.int i) p q=some r):∃k a b,p=.int k a∧q=.int k b∧r=decide (a=b):=by
 cases p<;>cases q<;>simp only[QF,reduceCtorEq]at h
 split at h
 ·rename_i hk
  subst hk
  simp only[Option.some.injEq]at h
  exact⟨_,_,_,rfl,rfl,h.symm⟩
 ·cases h
theorem Tg{t:TK}{p q:PV}{u v:Value}{r:Bool}{d:TypeDesc}(h:QF t p q=some r)(ht:(t=.str∧d=.string)∨∃i,t=.int i∧d=.int i)(hp:aO w ok objs blk p u)(hq:aV w ok objs blk q v) :
  Instr.sameNow d u v=some r∧(r=true→Instr.sameBits 10000 v u=true):=by
 rcases ht with ⟨rfl,rfl⟩ | ⟨i,rfl,rfl⟩
 ·obtain⟨a,b,rfl,rfl,rfl⟩:=Y_ h
  have hp':cu w ok (.str a) u:=hp
  have hq':cu w ok (.str b) v:=hq
  cases hp';cases hq'
  simp only[Instr.sameNow,Instr.sameBits,bytes_beq]
  exact⟨trivial,λh=>by simpa[eq_comm] using h⟩
 ·obtain⟨k,a,b,rfl,rfl,rfl⟩:=Za h
  have hp':cu w ok (.int k a) u:=hp
  have hq':cu w ok (.int k b) v:=hq
  cases hp';cases hq'
  simp only[Instr.sameNow,Instr.sameBits,if_true]
  refine⟨?_,λh=>?_⟩
  ·congr 1
  ·simp only[decide_eq_true_eq]at h
   simp[h]
theorem QH{t:TK}{key x:PV}{xs:List PV}{i:Nat}{m:Option (Nat×PV)}(h:lT t key (x::xs) i=some m) :
  ∃k v,x=.agg [k,v]∧((QF t key k=some true∧m=some (i,v))∨(QF t key k=some false∧lT t key xs (i+1)=some m)):=by
 match x,h with
 | .agg [k,v],h=>
  refine⟨k,v,rfl,?_⟩
  have h':(match QF t key k with | some true=>some (some (i,v)) | some false=>lT t key xs (i+1) | none=>none)=some m:=h
  clear h
  generalize hk:QF t key k=o at h' ⊢
  match o,h' with
  | some true,h'=>exact .inl ⟨rfl,by simpa using h'.symm⟩
  | some false,h'=>exact .inr ⟨rfl,h'⟩
theorem v_{t:TK}{key:PV}{u:Value}{d:TypeDesc}(ht:(t=.str∧d=.string)∨∃i,t=.int i∧d=.int i)(hp:aO w ok objs blk key u):∀(xs:List PV) (es:List MapEntry) (i:Nat) (m:Option (Nat×PV)),xs.length=es.length→
  (∀(j:Nat) (k v:PV),xs[j]?=some (.agg [k,v])→∃e,es[j]?=some e∧aV w ok objs blk k e.key)→lT t key xs i=some m→
  match m with
  | none=>Instr.findNow d u es i=some none
  | some (n,v)=>i≤n∧∃k e,xs[n-i]?=some (.agg [k,v])∧es[n-i]?=some e∧Instr.findNow d u es i=some (some (n,e.val))∧Instr.sameBits 10000 e.key u=true
 | [],es,i,m,hl,_,h=>by
  have:es=[]:=List.eq_nil_of_length_eq_zero hl.symm
  subst this
  simp only[lT,Option.some.injEq]at h
  subst h
  rfl
 | x::xs,[],i,m,hl,_,h=>by simp at hl
 | x::xs,e::es,i,m,hl,he,h=>by
  obtain⟨k,v,hx,h2⟩:=QH h
  clear h
  subst hx
  obtain⟨e',h0,hk⟩:=he 0 k v rfl
  simp only[List.getElem?_cons_zero,Option.some.injEq]at h0
  subst h0
  rcases h2 with ⟨h1,hm⟩ | ⟨h1,h⟩
  ·subst hm
   obtain⟨s1,s2⟩:=Tg h1 ht hp hk
   exact⟨Nat.le_refl _,k,e,by simp,by simp,by simp[Instr.findNow,s1],s2 rfl⟩
  ·obtain⟨s1,_⟩:=Tg h1 ht hp hk
   have ih:=v_ ht hp xs es (i+1) m (by simpa using hl) (λj k v hj=>he (j+1) k v (by simpa using hj)) h
   have hf:Instr.findNow d u (e::es) i=Instr.findNow d u es (i+1):=by simp[Instr.findNow,s1]
   cases m with
   | none=>simp only[]at ih ⊢;rw[hf];exact ih
   | some nv=>
    obtain⟨n,v'⟩:=nv
    simp only[]at ih ⊢
    obtain⟨g1,k',e',g2,g3,g4,g5⟩:=ih
    have hn:n-i=(n-(i+1))+1:=by omega
    exact⟨by omega,k',e',by rw[hn];simpa using g2,by rw[hn];simpa using g3,by rw[hf];exact g4,g5⟩
theorem fB.abt {t:TypeId}{ti:aD}{k e:TypeId}(h:fB P t ti)(hk:ti.kind=.map k e):P.underlying t=some (.map k e):=by
 have:=h.resolve_left (by rw[hk];simp)
 rw[hk]at this;exact this.2
theorem fB.aec {t:TypeId}{ti:aD}{k:IntKind}(h:fB P t ti)(hk:ti.kind=.int k):P.underlying t=some (.int k):=by
 have:=h.resolve_left (by rw[hk];simp)
 rw[hk]at this;exact this.2
theorem NG{kt:TypeId}(hD:∀t,fB P t (D t))(h:(D kt).kind=.str∨∃i,(D kt).kind=.int i) :
  ∃d,P.underlying kt=some d∧(((D kt).kind=.str∧d=.string)∨∃i,(D kt).kind=.int i∧d=.int i):=by
 rcases h with h | ⟨i,h⟩
 ·exact⟨_,(hD kt).Ut h,.inl ⟨h,rfl⟩⟩
 ·exact⟨_,(hD kt).aec h,.inr ⟨i,h,rfl⟩⟩
theorem su{kt:TypeId}{d:TypeDesc}{u:Value}(b:Bool)(hu:P.underlying kt=some d)(h:d=.string∨∃i,d=.int i):(Instr.checkKey b 10000 kt u).run P w=.ok () w:=by
 have key:∀n,(Instr.checkKey b (n+1) kt u).run P w=.ok () w:=by
  intro n
  rcases h with rfl | ⟨i,rfl⟩<;>simp[Instr.checkKey,run_underlying hu]
 exact key 9999
theorem EX(R:Rel base ah w0 S blk a w){k:Nat}{o:Obj}{g:Nat}(h1:S.objs[k]?=some o)(h2:o.live=true)(hb:blk k=some g)(hty:o.ty=MT)(hsz:o.sz=2) :
  ∃c,w.heap[g]?=some (.map (mapOf c) o.xs.length)∧c.size=2*o.xs.length∧
   ∀i x,o.xs[i]?=some x→x.cells.length=2∧∀j p,x.cells[j]?=some p→∃v,c[i*2+j]?=some v∧aV w (aZ base S.objs blk) S.objs blk p v:=by
 have h:=R.objs.ob k o h1 h2
 unfold bB at h
 rw[hb]at h
 obtain⟨c,x1,x2,x3⟩:=h
 have hc:c.size=2*o.xs.length:=by have:=x2.2 hty;rw[hsz]at this;omega
 refine⟨c,?_,hc,by rw[hsz]at x3;exact x3⟩
 rw[x1]
 unfold m_
 rw[if_pos hty,if_pos hsz]
 congr 2
 omega
theorem qW{R:PV→Value→Prop}{xs:List PV}{c:Array Value}(hc:c.size=2*xs.length)
  (hx:∀(i:Nat) (x:PV),xs[i]?=some x→x.cells.length=2∧∀(j:Nat) (p:PV),x.cells[j]?=some p→∃v,c[i*2+j]?=some v∧R p v) :
  ∀(j:Nat) (k v:PV),xs[j]?=some (.agg [k,v])→∃e,(mapOf c).toList[j]?=some e∧R k e.key∧R v e.val:=by
 intro j k v hj
 have hlt:j<xs.length:=(List.getElem?_eq_some_iff.1 hj).1
 obtain⟨_,h⟩:=hx j _ hj
 obtain⟨v0,a1,a2⟩:=h 0 k rfl
 obtain⟨v1,b1,b2⟩:=h 1 v rfl
 refine⟨_,by rw[Array.getElem?_toList];exact gu c j (by omega),?_,?_⟩
 ·have:c.getD (2*j) undef=v0:=by rw[Array.getD_eq_getD_getElem?,show 2*j=j*2+0 by omega,a1];rfl
  rw[this];exact a2
 ·have:c.getD (2*j+1) undef=v1:=by rw[Array.getD_eq_getD_getElem?,show 2*j+1=j*2+1 by omega,b1];rfl
  rw[this];exact b2
theorem K9(objs:List Obj)(blk:Nat→Option Nat)(w:World)(ok:Nat→Prop)(g:Nat) :
  aO w ok (newObj objs MT 2 []) (aF blk objs.length (some g)) (.fM objs.length 1) (.map (some g)):=
 ⟨rfl,_,xO objs MT 2 [],Nat.le_refl _,λ_ _=>⟨rfl,g,by unfold aF;rw[if_pos rfl],rfl⟩⟩
theorem NH{t:TypeId}{o:Oper}{K:KT}(ho:o.op=.makeMap t none)(R:Rel base ah w0 S blk a w)(h:mH D t S.objs K):Out P base ah w0 S o a w K:=by
 unfold mH at h
 split at h
 ·refine⟨.map (some w.heap.size),{ w with heap:=w.heap.push (.map #[] 0) },_,_,_,_,.inl ?_,h,R.newObj (c:=#[]) ?_ ⟨rfl,rfl⟩ ?_ (λi x hx=>by simp at hx),K9 _ _ _ _ _,.of λi x hx=>by simp at hx⟩
  ·simp[execOp,ho,Instr.makeMap]
  ·simp[m_,mapOf]
  ·exact⟨by simp,λ_=>by simp⟩
 ·exact h.elim
theorem FV{ok:Nat→Prop}{objs:List Obj}{ti:aD}{v:Value}{p:PV}{b:Bool}(h:aV w ok objs blk p v)(b2:Bool) :
  aO w ok objs blk (if b then .bY [p,.bool b2] else p) (if b then .tuple #[v,.bool b2] else v):=by
 cases b with
 | true=>
  refine⟨[v,.bool b2],rfl,rfl,λi q u h1 h2=>?_⟩
  match i with
  | 0=>simp at h1 h2;subst h1;subst h2;exact h
  | 1=>simp at h1 h2;subst h1;subst h2;exact .aI (.bool _)
  | i+2=>simp at h1
 | false=>exact .dS h
theorem QI{t:TypeId}{x ix:Operand}{ok:Bool}{o:Oper}{K:KT}(ho:o.op=.lookup t x ix ok)(hD:∀t,fB P t (D t))(R:Rel base ah w0 S blk a w)
  (h:jy D t (S.ev x) (S.ev ix) ok S.objs K):Out P base ah w0 S o a w K:=by
 have hx:=R.ev x
 have hi:=R.ev ix
 unfold jy at h
 split at h
 ·rename_i kt et k ver hk e
  rw[e]at hx
  obtain⟨hkk,hke,ob,h1,h2,h3,hsz,m,hm,h⟩:=h
  obtain⟨g,hb,hv,hty⟩:=hx.fM h1 h2 h3
  rw[Nu,if_pos hsz]at hv
  have hu:=(hD t).abt hk
  obtain⟨d,hd,hdk⟩:=NG hD hkk
  obtain⟨c,g1,g2,g3⟩:=EX R h1 h2 hb hty hsz
  have hent:=qW g2 g3
  have hck:∀b,(Instr.checkKey b 10000 kt (a.eval ix)).run P w=.ok () w:=λb=>su b hd (by rcases hdk with ⟨_,h⟩ | ⟨i,_,h⟩<;>simp[h])
  have hf:=v_ hdk hi ob.xs (mapOf c).toList 0 m (by rw[Array.length_toList,gX];omega) (λj k v hj=>let ⟨e,q1,q2,_⟩:=hent j k v hj;⟨e,q1,q2⟩) hm
  obtain⟨i,aed,_,_,hz⟩:=(hD et).info hke
  cases m with
  | none=>
   simp only[]at hf
   refine .pure R (v:=if ok then .tuple #[(D et).zero,.bool false] else (D et).zero) ?_ h ?_
   ·simp only[execOp,ho,hv,Instr.lookup,Sem.run_bind,run_underlying hu,Result.andThen_ok,ug g1,hck,Sem.run_pure,Instr.findKey,run_underlying hd,hf,zeroValue,typeInfo,run_program,aed,hz]
   ·exact FV (ti:=D et) (.aI (tV w _ (D et).zero)) false
  | some nv=>
   obtain⟨n,v⟩:=nv
   simp only[]at hf
   obtain⟨_,k',e',q2,q3,q4,_⟩:=hf
   obtain⟨e'',r1,_,r3⟩:=hent _ _ _ q2
   rw[q3]at r1
   cases r1
   refine .pure R (v:=if ok then .tuple #[e'.val,.bool true] else e'.val) ?_ h ?_
   ·simp only[execOp,ho,hv,Instr.lookup,Sem.run_bind,run_underlying hu,Result.andThen_ok,ug g1,hck,Sem.run_pure,Instr.findKey,run_underlying hd,q4]
   ·exact FV (ti:=D et) r3 true
 ·exact h.elim
theorem zx{t:TypeId}{x y z:Operand}{o:Oper}{K:KT}(ho:o.op=.mapUpdate t x y z∨o.op=.insert t x y z)(hD:∀t,fB P t (D t))(R:Rel base ah w0 S blk a w)
  (h:fe D t (S.ev x) (S.ev y) (S.ev z) S.objs K):Out P base ah w0 S o a w K:=by
 have hx:=R.ev x
 have hy:=R.ev y
 have hz:=R.ev z
 unfold fe at h
 split at h
 ·rename_i kt et k ver hk e
  rw[e]at hx
  obtain⟨hkk,hks,hvs,ob,h1,h2,h3,hsz,m,hm,h⟩:=h
  obtain⟨g,hb,hv,hty⟩:=hx.fM h1 h2 h3
  rw[Nu,if_pos hsz]at hv
  have hu:=(hD t).abt hk
  obtain⟨d,hd,hdk⟩:=NG hD hkk
  obtain⟨c,g1,g2,g3⟩:=EX R h1 h2 hb hty hsz
  have hent:=qW g2 g3
  have hck:∀b,(Instr.checkKey b 10000 kt (a.eval y)).run P w=.ok () w:=λb=>su b hd (by rcases hdk with ⟨_,h⟩ | ⟨i,_,h⟩<;>simp[h])
  have hf:=v_ hdk hy ob.xs (mapOf c).toList 0 m (by rw[Array.length_toList,gX];omega) (λj k v hj=>let ⟨e,q1,q2,_⟩:=hent j k v hj;⟨e,q1,q2⟩) hm
  have hyS:=si hy hks
  have hzS:=si hz hvs
  have hgl:g<w.heap.size:=(Array.getElem?_eq_some_iff.1 g1).1
  obtain⟨c',hc1,hc2,hc3,hrun⟩:∃c':Array Value,c'.size=2*(CU (S.ev y) (S.ev z) ob.xs m).length∧
    (∀(R':PV→Value→Prop),(∀p v,aV w (aZ base S.objs blk) S.objs blk p v→R' p v)→∀(i:Nat) (x:PV),(CU (S.ev y) (S.ev z) ob.xs m)[i]?=some x→x.cells.length=2∧∀(j:Nat) (p:PV),x.cells[j]?=some p→∃v,c'[i*2+j]?=some v∧R' p v)∧
    True∧(execOp a.eval o).run P w=.ok .skip { w with heap:=w.heap.setIfInBounds g (.map (mapOf c') (c'.size / 2)) }:=by
   cases m with
   | none=>
    simp only[]at hf
    refine⟨(c.push (a.eval y)).push (a.eval z),by simp[CU];omega,λR' hR i x hxi=>?_,trivial,?_⟩
    ·simp only[CU]at hxi
     rw[List.getElem?_append]at hxi
     split at hxi
     ·rename_i hi
      obtain⟨q1,q2⟩:=g3 i x hxi
      refine⟨q1,λj p hp=>?_⟩
      obtain⟨v,u1,u2⟩:=q2 j p hp
      have hj:j<2:=by rw[←q1];exact (List.getElem?_eq_some_iff.1 hp).1
      refine⟨v,?_,hR _ _ u2⟩
      rw[Array.getElem?_push,if_neg (by simp;omega),Array.getElem?_push,if_neg (by omega)]
      exact u1
     ·rename_i hi
      have h0:i-ob.xs.length=0:=by
       cases hj:i-ob.xs.length with
       | zero=>rfl
       | succ j=>rw[hj]at hxi;simp at hxi
      rw[h0]at hxi
      simp only[List.getElem?_cons_zero,Option.some.injEq]at hxi
      subst hxi
      refine⟨rfl,λj p hp=>?_⟩
      match j with
      | 0=>
       simp only[PV.cells,List.getElem?_cons_zero,Option.some.injEq]at hp
       subst hp
       exact⟨a.eval y,by rw[Array.getElem?_push,if_neg (by simp;omega),Array.getElem?_push,if_pos (by omega)],hR _ _ hyS⟩
      | 1=>
       simp only[PV.cells,List.getElem?_cons_succ,List.getElem?_cons_zero,Option.some.injEq]at hp
       subst hp
       exact⟨a.eval z,by rw[Array.getElem?_push,if_pos (by simp;omega)],hR _ _ hzS⟩
      | j+2=>simp[PV.cells]at hp
    ·rw[QG g2]
     have hs:((c.push (a.eval y)).push (a.eval z)).size / 2=ob.xs.length+1:=by simp;omega
     rw[hs]
     rcases ho with ho | ho<;>simp only[execOp,ho,hv,Instr.mapUpdate,Sem.run_bind,run_underlying hu,Result.andThen_ok,ug g1,hck,Sem.run_pure,Instr.findKey,run_underlying hd,hf,FU _ g1]
   | some nv=>
    obtain⟨n,v⟩:=nv
    simp only[]at hf
    obtain⟨_,k',e',q2,q3,q4,q5⟩:=hf
    rw[Nat.sub_zero]at q2 q3
    have hn:n<ob.xs.length:=(List.getElem?_eq_some_iff.1 q2).1
    refine⟨(c.setIfInBounds (2*n) (a.eval y)).setIfInBounds (2*n+1) (a.eval z),by simp[CU];omega,λR' hR i x hxi=>?_,trivial,?_⟩
    ·simp only[CU]at hxi
     rw[List.getElem?_set]at hxi
     by_cases hin:n=i
     ·subst hin
      simp[hn]at hxi
      subst hxi
      refine⟨rfl,λj p hp=>?_⟩
      match j with
      | 0=>
       simp only[PV.cells,List.getElem?_cons_zero,Option.some.injEq]at hp
       subst hp
       exact⟨a.eval y,by rw[Array.getElem?_setIfInBounds,if_neg (by omega),Array.getElem?_setIfInBounds,if_pos (by omega),if_pos (by omega)],hR _ _ hyS⟩
      | 1=>
       simp only[PV.cells,List.getElem?_cons_succ,List.getElem?_cons_zero,Option.some.injEq]at hp
       subst hp
       exact⟨a.eval z,by rw[Array.getElem?_setIfInBounds,if_pos (by omega),if_pos (by simp;omega)],hR _ _ hzS⟩
      | j+2=>simp[PV.cells]at hp
     ·rw[if_neg hin]at hxi
      obtain⟨q1,q2⟩:=g3 i x hxi
      refine⟨q1,λj p hp=>?_⟩
      obtain⟨v,u1,u2⟩:=q2 j p hp
      have hj:j<2:=by rw[←q1];exact (List.getElem?_eq_some_iff.1 hp).1
      refine⟨v,?_,hR _ _ u2⟩
      rw[Array.getElem?_setIfInBounds,if_neg (by omega),Array.getElem?_setIfInBounds,if_neg (by omega)]
      exact u1
    ·rw[UB g2 hn]
     have hs:((c.setIfInBounds (2*n) (a.eval y)).setIfInBounds (2*n+1) (a.eval z)).size / 2=ob.xs.length:=by simp;omega
     rw[hs]
     have hes:(mapOf c)[n]?=some e':=by rw[←Array.getElem?_toList];exact q3
     rcases ho with ho | ho<;>simp only[execOp,ho,hv,Instr.mapUpdate,Sem.run_bind,run_underlying hu,Result.andThen_ok,ug g1,hck,Sem.run_pure,Instr.findKey,run_underlying hd,q4,hes,Option.map_some,Option.getD_some,Instr.keyThatStays,q5,if_true,FU _ g1]
  have hheap:({ w with heap:=w.heap.setIfInBounds g (.map (mapOf c') (c'.size / 2)) }:World).heap[g]?=some (.map (mapOf c') (c'.size / 2)):=by simp[hgl]
  refine⟨undef,_,.dead,_,_,aF blk k (blk k),.inr ⟨hrun,rfl⟩,h,?_,.aI (.dead _),.same (by simp)⟩
  refine R.setObj (o':={ ob with xs:=CU (S.ev y) (S.ev z) ob.xs m }) ⟨rfl,rfl⟩ h1 h2 h2 (by simp) ?_ (λg' hg'=>.inl hg') (Nat.le_refl _) ?_ ?_
  ·intro b z hbz hz
   have:g≠b:=λe=>hbz (by rw[hb,e])
   simp[this];exact hz
  ·intro _
   refine⟨rfl,rfl,rfl,λhne=>absurd hty hne,λg' c' hg' hc'=>?_⟩
   rw[hb]at hg';cases hg'
   rw[g1]at hc';cases hc'
  ·intro hmono
   unfold bB
   have hbk:aF blk k (blk k) k=some g:=by unfold aF;rw[if_pos rfl,hb]
   rw[hbk]
   refine⟨c',?_,⟨?_,λ_=>?_⟩,?_⟩
   ·rw[hheap];unfold m_;rw[if_pos hty,if_pos hsz]
   ·show (CU (S.ev y) (S.ev z) ob.xs m).length*ob.sz≤_
    rw[hsz];omega
   ·show _=(CU (S.ev y) (S.ev z) ob.xs m).length*ob.sz
    rw[hsz];omega
   ·intro i x hx
    obtain⟨u1,u2⟩:=hc2 _ hmono i x hx
    have e:∀j,i*ob.sz+j=i*2+j:=λj=>by rw[hsz]
    refine⟨by rw[u1];exact hsz.symm,λj p hp=>?_⟩
    obtain⟨v,y1,y2⟩:=u2 j p hp
    exact⟨v,by show c'[i*ob.sz+j]?=some v;rw[e];exact y1,y2⟩
 ·exact h.elim
end
end Lp
namespace Lp
open Go
def rU(k kv n:Nat)(seen:List Nat)(ver:Nat):Obj:=⟨MT,1,.fM k kv::.int .i64 n::seen.map λi:Nat=>.int .i64 i,true,ver⟩
def uh(D:TypeId→aD)(t:TypeId)(x:PV)(objs:List Obj)(K:KT):Prop:=
 match (D t).kind,x with
 | .map _ _,.fM k ver=>∃o,objs[k]?=some o∧o.live=true∧o.ver=ver∧o.sz=2∧K (.fM objs.length 1) (objs++[rU k ver o.xs.length [] 1]) 2
 | _,_=>False
def nextR(x:PV)(objs:List Obj)(K:KT):Prop:=
 match x with
 | .fM j ver=>∃(k kv n:Nat) (seen:List Nat) (mo:Obj),objs[j]?=some (rU k kv n seen ver)∧objs[k]?=some mo∧mo.live=true∧mo.ver=kv∧mo.sz=2∧mo.xs.length=n∧
   ((∀i,i<n→i∈seen)→K (.bY [.bool false]) objs 2)∧
   ∀i key v,¬ i∈seen→mo.xs[i]?=some (.agg [key,v])→K (.bY [.bool true,key,v]) (objs.set j (rU k kv n (seen++[i]) ver)) 2
 | _=>False
def uj(x:PV)(objs:List Obj)(K:KT):Prop:=
 match x with
 | .fM j ver=>∃(k kv n:Nat) (seen:List Nat) (i:Nat) (mo:Obj) (key v:PV),objs[j]?=some (rU k kv n (seen++[i]) ver)∧objs[k]?=some mo∧mo.live=true∧mo.ver=kv∧mo.sz=2∧mo.xs.length=n∧
   mo.xs[i]?=some (.agg [key,v])∧K (.bY [key,v]) objs 1
 | _=>False
section
variable {P:Program}{base ah:Nat→Prop}{w0:Wz}{S:St}{blk:Nat→Option Nat}{a:Act}{w:World}{D:TypeId→aD}{objs:List Obj}{ok:Nat→Prop}
theorem JS(c:Array Value)(l:List Nat)(hl:c.size=l.length+2)(h:∀(i:Nat) n,l[i]?=some n→c[i+2]?=some (.int .i64 (n:Int))):(c.toList.drop 2).map FM=l:=by
 apply List.ext_getElem?
 intro i
 rw[List.getElem?_map,List.getElem?_drop]
 cases hi:l[i]? with
 | none=>
  have:l.length≤i:=List.getElem?_eq_none_iff.1 hi
  rw[List.getElem?_eq_none (by rw[Array.length_toList];omega)];rfl
 | some n=>
  have:=h i n hi
  rw[Array.getElem?_toList,Nat.add_comm 2 i,this]
  simp[FM]
theorem WH(R:Rel base ah w0 S blk a w){j ver k kv n:Nat}{seen:List Nat}{g:Nat}(h1:S.objs[j]?=some (rU k kv n seen ver))(hb:blk j=some g){mo:Obj}(h2:S.objs[k]?=some mo)(h3:mo.live=true)(h4:mo.ver=kv)(h5:mo.sz=2)(h6:mo.xs.length=n) :
  ∃gm c cm,blk k=some gm∧w.heap[g]?=some (.mapIter (some gm) n seen.toArray n)∧w.heap[g]?=some (Nt c)∧c.size=seen.length+2∧c[0]?=some (.map (some gm))∧c[1]?=some (.int .i64 (n:Int))∧(∀(i:Nat) n,seen[i]?=some n→c[i+2]?=some (.int .i64 (n:Int)))∧
   w.heap[gm]?=some (.map (mapOf cm) n)∧cm.size=2*n∧(∀i x,mo.xs[i]?=some x→x.cells.length=2∧∀j p,x.cells[j]?=some p→∃v,cm[i*2+j]?=some v∧aV w (aZ base S.objs blk) S.objs blk p v)∧
   ∀(i:Nat) (p:PV),(rU k kv n seen ver).xs[i]?=some p→p.cells=[p]∧∃v,c[i]?=some v∧aV w (aZ base S.objs blk) S.objs blk p v:=by
 have h:=R.objs.ob j _ h1 rfl
 unfold bB at h
 rw[hb]at h
 obtain⟨c,x1,x2,x3⟩:=h
 have hs:c.size=seen.length+2:=by have:=x2.2 rfl;simpa[rU] using this
 have ec:∀(i:Nat) (p:PV),(rU k kv n seen ver).xs[i]?=some p→p.cells=[p]:=λi p hp=>by
  have:=List.mem_of_getElem? hp
  simp only[rU,List.mem_cons,List.mem_map]at this
  rcases this with rfl | rfl | ⟨_,_,rfl⟩<;>rfl
 have e0:∀(i:Nat) (p:PV),(rU k kv n seen ver).xs[i]?=some p→p.cells=[p]→∃v,c[i]?=some v∧aV w (aZ base S.objs blk) S.objs blk p v:=λi p hp hc=>by
  obtain⟨_,y⟩:=x3 i p hp
  obtain⟨v,z1,z2⟩:=y 0 p (by rw[hc];rfl)
  exact⟨v,by simpa[rU] using z1,z2⟩
 obtain⟨v0,a1,a2⟩:=e0 0 (.fM k kv) rfl rfl
 obtain⟨v1,b1,b2⟩:=e0 1 (.int .i64 n) rfl rfl
 obtain⟨gm,m1,m2,m3⟩:=(show aO w (aZ base S.objs blk) S.objs blk (.fM k kv) v0 from a2).fM h2 h3 h4
 rw[Nu,if_pos h5]at m2
 subst m2
 have b3:v1=.int .i64 n:=by
  have b2':cu w (aZ base S.objs blk) (.int .i64 n) v1:=b2
  cases b2';rfl
 subst b3
 have aaC:∀(i:Nat) m,seen[i]?=some m→c[i+2]?=some (.int .i64 (m:Int)):=λi m hm=>by
  obtain⟨v,d1,d2⟩:=e0 (i+2) (.int .i64 m) (by simp[rU,hm]) rfl
  have d2':cu w (aZ base S.objs blk) (.int .i64 m) v:=d2
  cases d2';exact d1
 have hg:w.heap[g]?=some (Nt c):=by
  rw[x1];rfl
 have hit:Nt c=.mapIter (some gm) n seen.toArray n:=by
  unfold Nt
  rw[a1,JS c seen hs aaC,Array.getD_eq_getD_getElem?,b1]
  simp[abo,FM]
 obtain⟨cm,y1,y2,y3⟩:=EX R h2 h3 m1 m3 h5
 rw[h6]at y1 y2
 exact⟨gm,c,cm,m1,by rw[hg,hit],hg,hs,a1,b1,aaC,y1,y2,y3,λi p hp=>⟨ec i p hp,e0 i p hp (ec i p hp)⟩⟩
theorem WI{j ver k kv n:Nat}{seen:List Nat}(h1:S.objs[j]?=some (rU k kv n seen ver)){v:Value}(hv:aO w (aZ base S.objs blk) S.objs blk (.fM j ver) v):∃g,blk j=some g∧v=.pointer (some ⟨g,0,none⟩):=by
 obtain⟨g,m1,m2,_⟩:=hv.fM h1 rfl rfl
 exact⟨g,m1,m2⟩
theorem UC{t:TypeId}{x:Operand}{o:Oper}{K:KT}(ho:o.op=.range t x)(hD:∀t,fB P t (D t))(R:Rel base ah w0 S blk a w)(h:uh D t (S.ev x) S.objs K):Out P base ah w0 S o a w K:=by
 have hx:=R.ev x
 unfold uh at h
 split at h
 ·rename_i kt et k ver hk e
  rw[e]at hx
  obtain⟨ob,h1,h2,h3,hsz,h⟩:=h
  obtain⟨g,hb,hv,hty⟩:=hx.fM h1 h2 h3
  rw[Nu,if_pos hsz]at hv
  have hu:=(hD t).abt hk
  obtain⟨c,g1,g2,g3⟩:=EX R h1 h2 hb hty hsz
  have hkl:k<S.objs.length:=(List.getElem?_eq_some_iff.1 h1).1
  refine⟨.pointer (some ⟨w.heap.size,0,none⟩),w.alloc (.mapIter (some g) ob.xs.length #[] ob.xs.length),_,_,_,_,.inl ?_,h,
   R.newObj (sz:=1) (xs:=[.fM k ver,.int .i64 ob.xs.length]) (c:=#[.map (some g),.int .i64 ob.xs.length]) (ty:=MT) ?_ ⟨rfl,rfl⟩ ⟨by simp,λ_=>by simp⟩ ?_,?_,?_⟩
  ·simp only[execOp,ho,hv]
   have:=run_range_map (P:=P) w t kt et g (mapOf c) ob.xs.length hu g1
   rw[Sem.run_bind,this];rfl
  ·have hn:FM (.int .i64 (ob.xs.length:Int))=ob.xs.length:=Int.toNat_natCast _
   have e:m_ MT 1 #[.map (some g),.int .i64 ob.xs.length]=.mapIter (some g) ob.xs.length #[] ob.xs.length:=by
    show Go.Obj.mapIter (some g) (FM (.int .i64 (ob.xs.length:Int))) #[] (FM (.int .i64 (ob.xs.length:Int)))=_
    rw[hn]
   rw[e];rfl
  ·intro i x hx
   match i with
   | 0=>
    simp only[List.getElem?_cons_zero,Option.some.injEq]at hx
    subst hx
    refine⟨rfl,λj p hp=>?_⟩
    cases j with
    | zero=>
     simp only[PV.cells,List.getElem?_cons_zero,Option.some.injEq]at hp
     subst hp
     exact⟨.map (some g),by simp,rfl,ob,h1,by omega,λ_ _=>⟨hty,g,hb,by rw[Nu,if_pos hsz]⟩⟩
    | succ j=>simp[PV.cells]at hp
   | 1=>
    simp only[List.getElem?_cons_succ,List.getElem?_cons_zero,Option.some.injEq]at hx
    subst hx
    refine⟨rfl,λj p hp=>?_⟩
    cases j with
    | zero=>
     simp only[PV.cells,List.getElem?_cons_zero,Option.some.injEq]at hp
     subst hp
     exact⟨.int .i64 ob.xs.length,by simp,.aI (.int _ _)⟩
    | succ j=>simp[PV.cells]at hp
   | i+2=>simp at hx
  ·exact⟨rfl,_,xO S.objs MT 1 [.fM k ver,.int .i64 ob.xs.length],Nat.le_refl _,λ_ _=>⟨rfl,w.heap.size,by unfold aF;rw[if_pos rfl],rfl⟩⟩
  ·intro o1 he x hx p hp
   have he':rU k ver ob.xs.length [] 1=o1:=by simpa using he
   rw[←he']at hx
   simp only[rU,List.map_nil,List.mem_cons,List.not_mem_nil,or_false]at hx
   rcases hx with rfl | rfl
   ·simp only[PV.cells,List.mem_singleton]at hp
    subst hp
    simpa[PV.mE] using hkl
   ·simp only[PV.cells,List.mem_singleton]at hp
    subst hp;rfl
 ·exact h.elim
theorem UD{x:PV}(h:x.cells.length=2):∃k v,x=.agg [k,v]:=by
 cases x with
 | agg cs=>
  match cs,h with
  | [k,v],_=>exact⟨k,v,rfl⟩
 | _=>simp[PV.cells]at h
theorem JU{c:Array Value}{n:Nat}(hc:c.size=2*n){e:MapEntry}(h:e∈(mapOf c).toList):∃i,i<n∧e={ key:=c.getD (2*i) undef,val:=c.getD (2*i+1) undef,born:=i }:=by
 obtain⟨i,hi⟩:=List.mem_iff_getElem?.1 h
 rw[Array.getElem?_toList]at hi
 have hl:i<n:=by
  have:=(Array.getElem?_eq_some_iff.1 hi).1
  rw[gX]at this;omega
 rw[gu c i (by omega)]at hi
 cases hi
 exact⟨i,hl,rfl⟩
theorem WJ{x:Operand}{o:Oper}{K:KT}(ho:o.op=.next x false)(R:Rel base ah w0 S blk a w)(h:nextR (S.ev x) S.objs K):Out P base ah w0 S o a w K:=by
 have hx:=R.ev x
 unfold nextR at h
 split at h
 ·rename_i j ver e
  rw[e]at hx
  obtain⟨k,kv,n,seen,mo,h1,h2,h3,h4,h5,h6,hd,hn⟩:=h
  obtain⟨g,hb,hv⟩:=WI h1 hx
  obtain⟨gm,c,cm,m1,m2,m2',m3,m4,m5,m6,m7,m8,m9,m10⟩:=WH R h1 hb h2 h3 h4 h5 h6
  have hold:∀e∈(mapOf cm).toList,e.born<n:=λe he=>by
   obtain⟨i,hi,rfl⟩:=JU m8 he
   exact hi
  have hent:=qW (by rw[h6];exact m8) m9
  have hsub:∀e:MapEntry,e∈(leftOf (mapOf cm) seen.toArray).toList↔e∈(mapOf cm).toList∧¬ e.born∈seen:=λe=>by
   unfold leftOf
   simp
  rcases run_next_at (P:=P) w o.type g gm n n seen.toArray (mapOf cm) n m2 m7 hold (Nat.le_refl _) with ⟨r1,r2⟩ | ⟨en,r1,w1,r2,r3⟩
  ·have hall:∀i,i<n→i∈seen:=λi hi=>by
     by_cases hs:i∈seen
     ·exact hs
     ·exfalso
      have hm:({ key:=cm.getD (2*i) undef,val:=cm.getD (2*i+1) undef,born:=i }:MapEntry)∈(mapOf cm).toList:=by
       rw[List.mem_iff_getElem?]
       exact⟨i,by rw[Array.getElem?_toList];exact gu cm i (by omega)⟩
      have:=(hsub _).2 ⟨hm,hs⟩
      rw[Array.eq_empty_of_size_eq_zero r1]at this
      simp at this
   refine .pure R (v:=.tuple #[.bool false]) ?_ (hd hall) ?_
   ·simp only[execOp,ho,hv,Sem.run_bind,r2,Result.andThen_ok];rfl
   ·exact⟨[.bool false],rfl,rfl,λi p v h1 h2=>by
      match i with
      | 0=>simp at h1 h2;subst h1;subst h2;exact .aI (.bool _)
      | i+1=>simp at h1⟩
  ·obtain⟨q1,q2⟩:=(hsub en).1 r1
   obtain⟨i,hi,rfl⟩:=JU m8 q1
   have hxi:mo.xs[i]?=some (mo.xs[i]'(by omega)):=List.getElem?_eq_getElem _
   obtain⟨key,val,hkv⟩:=UD (m9 i _ hxi).1
   rw[hkv]at hxi
   obtain⟨e',u1,u2,u3⟩:=hent i key val hxi
   rw[Array.getElem?_toList,gu cm i (by omega)]at u1
   cases u1
   have hgl:g<w.heap.size:=(Array.getElem?_eq_some_iff.1 m2).1
   have abu:w1.heap=w.heap∧Sm w w1:=by rcases r2 with rfl | rfl<;>exact⟨rfl,rfl,rfl⟩
   let w':World:=Go.ChangeMaps.setBlock w1 g (.mapIter (some gm) n (seen.toArray.push i) n)
   have UE:w'.heap=w.heap.setIfInBounds g (.mapIter (some gm) n (seen.toArray.push i) n):=by
    show w1.heap.setIfInBounds _ _=_
    rw[abu.1]
   have hR':=R.setObj (w':=w') (o':=rU k kv n (seen++[i]) ver) (gb:=blk j) (k:=j) ⟨abu.2.1,abu.2.2⟩ h1 rfl rfl (by rw[UE];simp)
    (λb z hbz hz=>by
     have:g≠b:=λe=>hbz (by rw[hb,e])
     rw[UE];simp[this];exact hz)
    (λg' hg'=>.inl hg') (Nat.le_refl _)
    (λ_=>⟨rfl,rfl,rfl,λhne=>absurd rfl hne,λg' c' hg' hc'=>by
     rw[hb]at hg';cases hg'
     rw[m2]at hc';cases hc'⟩)
    (λhmono=>by
     unfold bB
     have hbk:aF blk j (blk j) j=some g:=by unfold aF;rw[if_pos rfl,hb]
     rw[hbk]
     refine⟨c.push (.int .i64 i),?_,⟨?_,λ_=>?_⟩,?_⟩
     ·rw[UE]
      have hs':((c.push (.int .i64 (i:Int))).toList.drop 2).map FM=seen++[i]:=JS _ _ (by simp;omega) λz y hz=>by
       rw[List.getElem?_append]at hz
       rw[Array.getElem?_push]
       split at hz
       ·rename_i hlt
        rw[if_neg (by omega)];exact m6 z y hz
       ·rename_i hlt
        have:z-seen.length=0:=by
         cases hq:z-seen.length with
         | zero=>rfl
         | succ q=>rw[hq]at hz;simp at hz
        rw[this]at hz
        simp only[List.getElem?_cons_zero,Option.some.injEq]at hz
        subst hz
        rw[if_pos (by omega)]
      have e0:(c.push (.int .i64 (i:Int)))[0]?=some (.map (some gm)):=by rw[Array.getElem?_push,if_neg (by omega)];exact m4
      have e1:(c.push (.int .i64 (i:Int))).getD 1 undef=.int .i64 (n:Int):=by rw[Array.getD_eq_getD_getElem?,Array.getElem?_push,if_neg (by omega),m5];rfl
      have ei:Nt (c.push (.int .i64 (i:Int)))=.mapIter (some gm) n (seen.toArray.push i) n:=by
       unfold Nt
       rw[hs',e0,e1]
       simp[abo,FM]
      have:m_ MT 1 (c.push (.int .i64 (i:Int)))=Nt (c.push (.int .i64 (i:Int))):=rfl
      show _=some (m_ MT 1 (c.push (.int .i64 (i:Int))))
      rw[this,ei]
      simp[hgl]
     ·simp[rU];omega
     ·simp[rU];omega
     ·intro z y hz
      rw[show (rU k kv n (seen++[i]) ver).xs=(rU k kv n seen ver).xs++[.int .i64 (i:Int)] by simp[rU]]at hz
      have hxl:(rU k kv n seen ver).xs.length=seen.length+2:=by simp[rU]
      rw[List.getElem?_append]at hz
      split at hz
      ·rename_i hlt
       obtain⟨w1,v,w2,w3⟩:=m10 z y hz
       refine⟨by rw[w1];rfl,λq p hp=>?_⟩
       rw[w1]at hp
       cases q with
       | zero=>
        simp only[List.getElem?_cons_zero,Option.some.injEq]at hp
        subst hp
        exact⟨v,by show (c.push _)[z*1+0]?=_;rw[Array.getElem?_push,if_neg (by omega),show z*1+0=z by omega];exact w2,hmono _ _ w3⟩
       | succ q=>simp at hp
      ·rename_i hlt
       have hz0:z-(rU k kv n seen ver).xs.length=0:=by
        cases hq:z-(rU k kv n seen ver).xs.length with
        | zero=>rfl
        | succ q=>rw[hq]at hz;simp at hz
       rw[hz0]at hz
       simp only[List.getElem?_cons_zero,Option.some.injEq]at hz
       subst hz
       refine⟨rfl,λq p hp=>?_⟩
       cases q with
       | zero=>
        simp only[PV.cells,List.getElem?_cons_zero,Option.some.injEq]at hp
        subst hp
        exact⟨.int .i64 i,by show (c.push _)[z*1+0]?=_;rw[Array.getElem?_push,if_pos (by omega)],.aI (.int _ _)⟩
       | succ q=>simp[PV.cells]at hp)
   have hblk:∀q,aF blk j (blk j) q=blk q:=λq=>by unfold aF;split<;>simp_all
   have hget:∀(q:Nat) (ob:Obj),(S.objs.set j (rU k kv n (seen++[i]) ver))[q]?=some ob→(q=j∧ob.live=true)∨S.objs[q]?=some ob:=λq ob hq=>by
    rw[List.getElem?_set]at hq
    split at hq
    ·rename_i e
     split at hq
     ·cases hq;exact .inl ⟨e.symm,rfl⟩
     ·cases hq
    ·exact .inr hq
   have hmono:∀p v,aV w (aZ base S.objs blk) S.objs blk p v→aV w' (aZ base (S.objs.set j (rU k kv n (seen++[i]) ver)) (aF blk j (blk j))) (S.objs.set j (rU k kv n (seen++[i]) ver)) (aF blk j (blk j)) p v:=λp v hp=>by
    refine hp.mono (by rw[UE];simp) (λb _ hok=>⟨hok.1,λq ob hq hlv=>?_⟩) (λb z hok hz=>?_) ?_
    ·rw[hblk]
     rcases hget q ob hq with ⟨rfl,_⟩ | hq'
     ·exact hok.2 q _ h1 rfl
     ·exact hok.2 q ob hq' hlv
    ·have:g≠b:=λe=>hok.2 j _ h1 rfl (by rw[hb,e])
     rw[UE];simp[this];exact hz
    ·intro q ob hq
     by_cases hqj:q=j
     ·subst hqj
      rw[h1]at hq;cases hq
      refine⟨rU k kv n (seen++[i]) ver,by rw[List.getElem?_set_self (List.getElem?_eq_some_iff.1 h1).1],Nat.le_refl _,λ_ _=>⟨rfl,hblk _,rfl,rfl,λhne=>absurd rfl hne,λg' c' hg' hc'=>?_⟩⟩
      rw[hb]at hg';cases hg'
      rw[m2]at hc';cases hc'
     ·refine⟨ob,by rw[List.getElem?_set_ne (λe=>hqj e.symm)];exact hq,Nat.le_refl _,λhl _=>⟨hl,hblk _,rfl,rfl,λ_=>rfl,λg' c' hg' hc'=>⟨c',?_,rfl⟩⟩⟩
      have:g≠g':=λe=>by rw[←e,m2]at hc';cases hc'
      rw[UE];simp[this];exact hc'
   refine⟨.tuple #[.bool true,cm.getD (2*i) undef,cm.getD (2*i+1) undef],w',.bY [.bool true,key,val],_,_,_,.inl ?_,hn i key val q2 hxi,hR',?_,.same (by simp)⟩
   ·simp only[execOp,ho,hv,Sem.run_bind,r3,Result.andThen_ok];rfl
   ·refine⟨[.bool true,cm.getD (2*i) undef,cm.getD (2*i+1) undef],rfl,rfl,λz p v h1 h2=>?_⟩
    match z with
    | 0=>simp at h1 h2;subst h1;subst h2;exact .aI (.bool _)
    | 1=>simp only[List.getElem?_cons_succ,List.getElem?_cons_zero,Option.some.injEq]at h1 h2;subst h1;subst h2;exact hmono _ _ u2
    | 2=>simp only[List.getElem?_cons_succ,List.getElem?_cons_zero,Option.some.injEq]at h1 h2;subst h1;subst h2;exact hmono _ _ u3
    | z+3=>simp at h1
 ·exact h.elim
theorem UF{x:Operand}{o:Oper}{K:KT}(ho:o.op=.entry x)(R:Rel base ah w0 S blk a w)(h:uj (S.ev x) S.objs K):Out P base ah w0 S o a w K:=by
 have hx:=R.ev x
 unfold uj at h
 split at h
 ·rename_i j ver e
  rw[e]at hx
  obtain⟨k,kv,n,seen,i,mo,key,val,h1,h2,h3,h4,h5,h6,h7,hK⟩:=h
  obtain⟨g,hb,hv⟩:=WI h1 hx
  obtain⟨gm,c,cm,m1,m2,m2',m3,m4,m5,m6,m7,m8,m9,m10⟩:=WH R h1 hb h2 h3 h4 h5 h6
  have hi:i<n:=by rw[←h6];exact (List.getElem?_eq_some_iff.1 h7).1
  have hent:=qW (by rw[h6];exact m8) m9
  obtain⟨e',u1,u2,u3⟩:=hent i key val h7
  rw[Array.getElem?_toList,gu cm i (by omega)]at u1
  cases u1
  have hm:({ key:=cm.getD (2*i) undef,val:=cm.getD (2*i+1) undef,born:=i }:MapEntry)∈(mapOf cm).toList:=by
   rw[List.mem_iff_getElem?]
   exact⟨i,by rw[Array.getElem?_toList];exact gu cm i (by omega)⟩
  have hnd:((mapOf cm).toList.map (·.born)).Nodup:=by
   have:(mapOf cm).toList.map (·.born)=List.range (cm.size / 2):=by simp[mapOf,Function.comp_def]
   rw[this];exact List.nodup_range
  have hr:w.heap[g]?=some (.mapIter (some gm) n (seen.toArray.push i) n):=by rw[m2];simp
  have hrun:=run_entry_at (P:=P) w g gm n seen.toArray (mapOf cm) n _ hr m7 hm hnd
  refine .pure R (v:=.tuple #[cm.getD (2*i) undef,cm.getD (2*i+1) undef]) ?_ hK ?_
  ·simp only[execOp,ho,hv,Sem.run_bind,hrun,Result.andThen_ok];rfl
  ·refine⟨[cm.getD (2*i) undef,cm.getD (2*i+1) undef],rfl,rfl,λz p v h1 h2=>?_⟩
   match z with
   | 0=>simp only[List.getElem?_cons_zero,Option.some.injEq]at h1 h2;subst h1;subst h2;exact u2
   | 1=>simp only[List.getElem?_cons_succ,List.getElem?_cons_zero,Option.some.injEq]at h1 h2;subst h1;subst h2;exact u3
   | z+2=>simp at h1
 ·exact h.elim
end
end Lp
namespace Lp
open Go
def Enters(P:Program)(f:FuncId):Prop:=∃fn,P.funcs[f]?=some fn∧(fn.name== "runtime.NumGoroutine")=false∧fn.body.isNone=false
def av(P:Program)(f:FuncId)(args:List PV)(objs:List Obj)(r:PV)(ai:List Obj):Prop:=
 Enters P f∧
 ∀(w:World) (blk:Nat→Option Nat) (vs:List Value) (base:Nat→Prop),(mr.holds w.heap∧∀b,w.heap.size≤b→base b)→
  cO base (λb=>b<w.heap.size∧aK objs blk b) objs blk w→bG (aO w (aZ base objs blk) objs blk) args vs→
  Calls P f ⟨vs⟩ w λe w'=>∃v ak,e=.returned v∧cO base (λb=>b<w.heap.size∧aK objs blk b) ai ak w'∧
   aO w' (aZ base ai ak) ai ak r v∧(∀b,b<w.heap.size→aK objs blk b→w'.heap[b]?=w.heap[b]?)∧w.heap.size≤w'.heap.size∧Sm w w'
def PV.jN (n:Nat):PV→PV
 | .aS k ver=>.aS (k+n) ver
 | .bf k ver i f=>.bf (k+n) ver i f
 | .fM k ver=>.fM (k+n) ver
 | p=>p
def PV.shift (n:Nat):PV→PV
 | .fn f a c=>.fn f (a.map (.jN n)) (c.map (.jN n))
 | .bY cs=>.bY (cs.map (.jN n))
 | .agg cs=>.agg (cs.map (.jN n))
 | p=>p.jN n
def PV.zy:PV→Bool
 | .int .. | .bool _ | .str _ | .A_ | .CQ | .FJ | .FK | .sl _ [] (some true)=>true
 | _=>false
def PV.flat:PV→Bool
 | .bY cs=>cs.all PV.zy
 | p=>p.zy
def bC(objs:List Obj):Prop:=∀o∈objs,∀x∈o.xs,∀p∈x.cells,p.ref=false
def abv(objs:List Obj)(p:PV)(p':PV):Prop:=
 match p with
 | .aS k ver=>∃o,objs[k]?=some o∧o.live=true∧o.ver=ver∧(∀x∈o.xs,∀c∈x.cells,c.ref=false)∧p'=.sl o.sz o.xs none
 | .bf k ver i f=>∃o e,objs[k]?=some o∧o.live=true∧o.ver=ver∧o.xs[i]?=some e∧f=0∧(∀c∈e.cells,c.ref=false)∧p'=.addr e
 | p=>p.pure=true∧p'=p
def NI(objs:List Obj):List PV→List PV→Prop
 | [],[]=>True
 | p::ps,q::qs=>abv objs p q∧NI objs ps qs
 | _,_=>False
def PV.atom:PV→Bool
 | .int .. | .bool _ | .str _=>true
 | _=>false
def FW(P:Program)(f:FuncId)(args:List PV)(objs:List Obj)(r:PV)(ai:List Obj):Prop:=
 Enters P f∧ai.length=objs.length∧
 ∀(base ah:Nat→Prop) (w0:Wz) (tmps:List PV) (blk:Nat→Option Nat) (a:Act) (w:World) (vs:List Value),Rel base ah w0 ⟨tmps,objs⟩ blk a w→
  bG (aO w (aZ base objs blk) objs blk) args vs→
  Calls P f ⟨vs⟩ w λe w'=>∃v ak,e=.returned v∧Rel base ah w0 ⟨tmps,ai⟩ ak a w'∧aO w' (aZ base ai ak) ai ak r v
inductive mI (P:Program) (f:FuncId) (args:List PV) (objs:List Obj):PV→List Obj→Nat→Prop
 | pure (r:PV) (hargs:args.all PV.pure=true) (h:av P f args [] r []):mI P f args objs r objs 0
 | made (r:PV) (o:Obj) (hargs:args.all PV.pure=true) (hnew:bC [o]) (h:av P f args [] r [o]):mI P f args objs (r.shift objs.length) (objs++[o]) 2
 | used (r:PV) (ai:List Obj) (h:FW P f args objs r ai):mI P f args objs r ai 2
 | FX (ver:Nat) (o:Obj) (args':List PV) (hargs:NI objs args args') (hnew:∀x∈o.xs,∀p∈x.cells,p.atom=true) (h:av P f args' [] (.aS 0 ver) [o]):mI P f args objs (.aS objs.length ver) (objs++[o]) 2
 | Ns (ver:Nat) (q:PV) (o:Obj) (args':List PV) (hargs:NI objs args args') (hnew:∀x∈o.xs,∀p∈x.cells,p.atom=true) (hq:q.atom=true) (h:av P f args' [] (.bY [.aS 0 ver,q]) [o]):mI P f args objs (.bY [.aS objs.length ver,q]) (objs++[o]) 2
 | WK (r:PV) (args':List PV) (hargs:NI objs args args') (hr:r.flat=true) (h:av P f args' [] r []):mI P f args objs r objs 1
def FY(P:Program)(f:PV)(args:List PV)(objs:List Obj)(K:KT):Prop:=
 match f with
 | .fn g first cap=>∃r ai t,mI P g (first++args++cap) objs r ai t∧K r ai t
 | _=>False
def dZ(D:TypeId→aD)(b:Builtin)(ts:List TypeId)(args:List Operand)(ev:Operand→PV)(objs:List Obj)(K:KT):Prop:=
 match b,ts,args with
 | .len,[t],[x]=>qL D t (ev x) objs K
 | .append,[t,u],[s,x]=>dK D t u (ev s) (ev x) objs K
 | .max,_,xs=>gK true (xs.map ev) λr=>K r objs 0
 | .min,_,xs=>gK false (xs.map ev) λr=>K r objs 0
 | _,_,_=>False
def Io(P:Program)(D:TypeId→aD)(own:Bool)(ev:Operand→PV)(objs:List Obj)(op:Op)(K:KT):Prop:=
 match op with
 | .move x | .assign x=>K (ev x) objs 0
 | .pick c x y=>vN (ev c) (ev x) (ev y) objs K
 | .alloc t=>rJ t (D t) objs K
 | .box t x=>K3 t (D t) (ev x) objs K
 | .build t ps=>dh D t (ps.toList.map λx=>(x.1,ev x.2)) objs K
 | .buildSlice t n ps=>bL D own t n (ps.toList.map λx=>(x.1,ev x.2)) objs K
 | .load t x=>eD (D t) (ev x) objs K
 | .store t x y=>jo (D t) (ev x) (ev y) objs K
 | .nilCheck x=>dx (ev x) objs K
 | .binOp b t x y _=>oP P (D t) t b (ev x) (ev y) λr=>K r objs 0
 | .unOp u _ x=>Nh u (ev x) λr=>K r objs 0
 | .convert s t x=>qR D s t (ev x) objs K
 | .makeFunc (.func f) first cap=>kC f (first.toList.map ev) (cap.toList.map ev) objs K
 | .makeSlice t l c=>d_ D t (ev l) (ev c) objs K
 | .slice t x lo hi none=>iB D t (ev x) (lo.map ev) (hi.map ev) objs K
 | .fieldAddr t x f=>aU D t (ev x) f objs K
 | .field t x f=>oQ D t (ev x) f objs K
 | .indexAddr t x i=>bH D t (ev x) (ev i) objs K
 | .index t x i=>lg D t (ev x) (ev i) objs K
 | .extract x i=>bW (ev x) i objs K
 | .call { callee:=.builtin b,args,argTypes }=>dZ D b argTypes.toList args.toList ev objs K
 | .call { callee:=.value f,args,.. }=>FY P (ev f) (args.toList.map ev) objs K
 | .makeMap t none=>mH D t objs K
 | .lookup t x ix ok=>jy D t (ev x) (ev ix) ok objs K
 | .mapUpdate t x k v=>fe D t (ev x) (ev k) (ev v) objs K
 | .insert t x k v=>fe D t (ev x) (ev k) (ev v) objs K
 | .range t x=>uh D t (ev x) objs K
 | .entry x=>uj (ev x) objs K
 | _=>False
section
variable {P:Program}{base ah:Nat→Prop}{w0:Wz}{S:St}{blk:Nat→Option Nat}{a:Act}{w:World}{D:TypeId→aD}
theorem sw{f:FuncId}{args:Array Value}{R:Ending→World→Prop}(h:Calls P f args w R)(l:Option Nat):CallsIn (Ba l) 0 P f args w R:=by
 have h':CallsIn Fence.wide 0 P f args w R:=callsIn_wide.2 h
 cases l with
 | none=>exact h'
 | some l=>exact h'.inRound l
theorem cu.o_ {ok:Nat→Prop}{p:PV}{v:Value}(h:cu w ok p v){ok':Nat→Prop}(hok:∀b,b<w.heap.size→ok b→ok' b):cu w ok' p v:=
 h.mono (Nat.le_refl _) hok (λ_ _ _ h=>h)
theorem JV{w':World}{ok ok':Nat→Prop}{p:PV}{v:Value}(hp:p.zy=true)(h:cu w ok p v):cu w' ok' p v:=by
 cases h with
 | sl sz xs q hq=>
  exfalso
  unfold PV.zy at hp
  split at hp<;>first | (cases hp;done) | skip
  all_goals first | (rename_i e;cases e;done) | (rename_i e;injection e with _ _ e3;exact hq e3) | skip
 | FL sz q hq=>
  exfalso
  unfold PV.zy at hp
  split at hp<;>first | (cases hp;done) | skip
  all_goals first | (rename_i e;cases e;done) | (rename_i e;injection e with _ _ e3;exact hq e3) | skip
 | slnil sz q hq=>exact .slnil sz q hq
 | int=>exact .int _ _
 | bool=>exact .bool _
 | str=>exact .str _
 | A_=>exact .A_
 | CQ=>exact .CQ
 | FJ=>exact .FJ
 | FK=>exact .FK
 | _=>simp[PV.zy]at hp
theorem JW{p:PV}(h:p.zy=true):p.ref=false:=by
 cases p<;>first | rfl | (simp[PV.zy]at h)
theorem WL{ok ok':Nat→Prop}{objs ai:List Obj}{blk ak:Nat→Option Nat}{w':World}{r:PV}{v:Value}(hr:r.flat=true)(h:aO w ok objs blk r v):aO w' ok' ai ak r v:=by
 cases r with
 | bY cs=>
  obtain⟨vs,rfl,h1,h2⟩:=h
  refine⟨vs,rfl,h1,λi p u hp hu=>?_⟩
  have hf:=List.all_eq_true.1 hr p (List.mem_of_getElem? hp)
  exact .aI (JV hf ((h2 i p u hp hu).zo (JW hf)))
 | fn f a c=>simp[PV.flat,PV.zy]at hr
 | agg cs=>simp[PV.flat,PV.zy]at hr
 | _=>
  simp only[PV.flat]at hr
  exact .aI (JV hr (aV.zo (w:=w) (ok:=ok) (objs:=objs) (blk:=blk) h (JW hr)))
theorem Zb(objs:List Obj)(o:Obj):(objs++[o])[objs.length]?=some o:=by simp
def qh(base:Nat→Prop)(S:St)(blk:Nat→Option Nat)(w:World)(b:Nat):Prop:=aZ base S.objs blk b∨w.heap.size≤b
theorem dH(blk:Nat→Option Nat)(b:Nat):aK [] blk b:=λk o h=>by simp at h
theorem K_{ai:List Obj}{ak:Nat→Option Nat}(R:Rel base ah w0 S blk a w){b:Nat}(h:aZ (qh base S blk w) ai ak b):aZ base S.objs blk b:=by
 rcases h.1 with h | h
 ·exact h
 ·refine⟨R.bs b (Nat.le_trans R.gr h),λk o h1 h2 h3=>?_⟩
  have:=t_ R.objs h1 h2 h3
  omega
theorem NJ{o:Obj}{ak:Nat→Option Nat}(R:Rel base ah w0 S blk a w)(ho:o.live=true){b:Nat}(h:aZ (qh base S blk w) [o] ak b) :
  aZ base (S.objs++[o]) (aF blk S.objs.length (ak 0)) b:=by
 have h0:=K_ R h
 refine⟨h0.1,λk ob h1 h2=>?_⟩
 rcases mG h1 with ⟨hk,h1⟩ | ⟨rfl,rfl⟩
 ·unfold aF;rw[if_neg (by omega)];exact h0.2 k ob h1 h2
 ·unfold aF;rw[if_pos rfl];exact h.2 0 ob rfl h2
theorem Rel.made {w':World}{ak:Nat→Option Nat}{o:Obj}(R:Rel base ah w0 S blk a w)(hg:kr w w')(hnew:bC [o])
  (h:cO (qh base S blk w) (λb=>b<w.heap.size∧aK [] blk b) [o] ak w') :
  Rel base ah w0 ⟨S.tmps,S.objs++[o]⟩ (aF blk S.objs.length (ak 0)) a w':=by
 cases ho:o.live with
 | false=>
  have hb:∀k,k<S.objs.length→aF blk S.objs.length (ak 0) k=blk k:=λk hk=>by unfold aF;rw[if_neg (by omega)]
  have ho':nM w w' S.objs (S.objs++[o]) blk (aF blk S.objs.length (ak 0)):=by
   intro k ob hk
   have hkl:=(List.getElem?_eq_some_iff.1 hk).1
   exact⟨ob,by rw[List.getElem?_append,if_pos hkl];exact hk,Nat.le_refl _,λhl _=>⟨hl,hb k hkl,rfl,rfl,λ_=>rfl,λg c _ hc=>⟨c,hg.2.1 g _ hc,rfl⟩⟩⟩
  have hget:∀(k:Nat) (ob:Obj),(S.objs++[o])[k]?=some ob→ob.live=true→k<S.objs.length∧S.objs[k]?=some ob:=by
   intro k ob h1 h2
   rcases mG h1 with h1 | ⟨_,rfl⟩
   ·exact h1
   ·rw[ho]at h2;cases h2
  have hok:∀b,aZ base S.objs blk b→aZ base (S.objs++[o]) (aF blk S.objs.length (ak 0)) b:=λb hb0=>⟨hb0.1,λk ob h1 h2=>by
   obtain⟨hk,h1⟩:=hget k ob h1 h2
   rw[hb k hk];exact hb0.2 k ob h1 h2⟩
  refine R.change hg.1 (λb x _ h=>hg.2.1 b x h) (λb _ h=>hok b h) ho' ⟨?_,?_,?_⟩ hg.2.2
  ·intro k ob h1 h2
   obtain⟨hk,h1⟩:=hget k ob h1 h2
   have hh:=R.objs.ob k ob h1 h2
   unfold bB at hh ⊢
   rw[hb k hk]
   cases hbk:blk k with
   | none=>rw[hbk]at hh;exact hh
   | some g=>
    rw[hbk]at hh
    obtain⟨c',x1,x2,x3⟩:=hh
    refine⟨c',hg.2.1 g _ x1,x2,λi x hx=>⟨(x3 i x hx).1,λj p hp=>?_⟩⟩
    obtain⟨v,y1,y2⟩:=(x3 i x hx).2 j p hp
    exact⟨v,y1,y2.mono hg.1 (λb _ h=>hok b h) (λb x _ h=>hg.2.1 b x h) ho'⟩
  ·intro k k' ob ob' g hne h1 h2 h3 h4 h5 h6
   obtain⟨hk,h1⟩:=hget k ob h1 h2
   obtain⟨hk',h3⟩:=hget k' ob' h3 h4
   rw[hb k hk]at h5;rw[hb k' hk']at h6
   exact R.objs.zV k k' ob ob' g hne h1 h2 h3 h4 h5 h6
  ·intro k ob g h1 h2 h3 h4
   obtain⟨hk,h1⟩:=hget k ob h1 h2
   rw[hb k hk]at h3
   exact R.objs.np k ob g h1 h2 h3 h4
 | true=>
  refine R.CS hg (λg hgb=>?_) λhr=>?_
  ·rcases Nat.lt_or_ge g w.heap.size with hlt | hge
   ·exact absurd ⟨hlt,dH blk g⟩ (h.np 0 o g rfl ho hgb)
   ·exact hge
  ·have hh:=h.ob 0 o rfl ho
   unfold bB at hh ⊢
   have hb':aF blk S.objs.length (ak 0) S.objs.length=ak 0:=by unfold aF;rw[if_pos rfl]
   rw[hb']
   cases hb0:ak 0 with
   | none=>rw[hb0]at hh;exact hh
   | some g=>
    rw[hb0]at hh
    obtain⟨c,x1,x2,x3⟩:=hh
    refine⟨c,x1,x2,λi x hx=>⟨(x3 i x hx).1,λj p hp=>?_⟩⟩
    obtain⟨v,y1,y2⟩:=(x3 i x hx).2 j p hp
    refine⟨v,y1,.aI ((y2.zo (hnew o (by simp) x (List.mem_of_getElem? hx) p (List.mem_of_getElem? hp))).o_ λb _ hbk=>?_)⟩
    rw[←hb0]
    exact NJ R ho hbk
theorem ul(base ah:Nat→Prop)(blk:Nat→Option Nat)(w:World):cO base ah [] blk w:=
 ⟨λk o h=>by simp at h,λk k' o o' g _ h=>by simp at h,λk o g h=>by simp at h⟩
theorem JX{args:List PV}{vs:List Value}(h:bG (aO w (aZ base S.objs blk) S.objs blk) args vs)(hp:args.all PV.pure=true) :
  bG (aO w (aZ (qh base S blk w) [] blk) [] blk) args vs:=
 ⟨h.1,λi p v a b=>.aI (((h.2 i p v a b).zo (List.all_eq_true.1 hp p (List.mem_of_getElem? a))).o_ λ_ _ hb=>⟨.inl hb,dH _ _⟩)⟩
theorem kS{w':World}(h:∀b,b<w.heap.size→aK [] blk b→w'.heap[b]?=w.heap[b]?)(hs:w.heap.size≤w'.heap.size∧Sm w w'):kr w w':=
 ⟨hs.1,λb x hx=>by rw[h b (Array.getElem?_eq_some_iff.1 hx).1 (dH _ _)];exact hx,hs.2⟩
theorem WM(R:Rel base ah w0 S blk a w){p p':PV}{v:Value}(h:abv S.objs p p')(hr:aO w (aZ base S.objs blk) S.objs blk p v):cu w (λ_=>True) p' v:=by
 cases p with
 | aS k ver=>
  obtain⟨o,h1,h2,h3,h4,rfl⟩:=h
  have hh:=hr.aS h1 h2 h3
  unfold vL at hh
  cases hb:blk k with
  | none=>
   rw[hb]at hh
   rw[hh.1,hh.2]
   exact .slnil _ _ (by simp)
  | some g=>
   rw[hb]at hh
   obtain⟨cap,c,hv,x1,x2,x3,x4⟩:=hh
   obtain⟨c',y1,y2,y3⟩:=kz R h1 h2 hb (hr.tX h1 h2 h3)
   rw[x1]at y1;cases y1
   rw[hv]
   refine .sl o.sz o.xs none (by simp) g 0 cap (λi j=>(c[i*o.sz+j]?).getD undef) (λ_=>⟨trivial,(Array.getElem?_eq_some_iff.1 x1).1⟩) x2 x3 (λi x hx=>(y3 i x hx).1) ?_ ?_
   ·intro i x j p hx hp
    obtain⟨u,u1,_⟩:=(y3 i x hx).2 j p hp
    simp[World.cell?,x1,u1]
   ·intro i x j p hx hp
    obtain⟨u,u1,u2⟩:=(y3 i x hx).2 j p hp
    rw[u1,Option.getD_some]
    exact (u2.zo (h4 x (List.mem_of_getElem? hx) p (List.mem_of_getElem? hp))).o_ λ_ _ _=>trivial
 | bf k ver i f=>
  obtain⟨o,e,h1,h2,h3,h4,rfl,h5,rfl⟩:=h
  obtain⟨g,hb,hv,hty⟩:=hr.bf h1 h2 h3
  obtain⟨y1,y2⟩:=QC R.objs h1 h2 h4 hb hty
  obtain⟨c,x1,_⟩:=kz R h1 h2 hb hty
  rw[hv]
  refine .Y2 ⟨trivial,(Array.getElem?_eq_some_iff.1 x1).1⟩ λj p hp=>?_
  obtain⟨u,u1,u2⟩:=y2 j p hp
  exact⟨u,u1,(u2.zo (h5 p (List.mem_of_getElem? hp))).o_ λ_ _ _=>trivial⟩
 | _=>
  obtain⟨h1,rfl⟩:=h
  exact (hr.zo h1).o_ λ_ _ _=>trivial
theorem xP(R:Rel base ah w0 S blk a w):∀{ps qs:List PV}{vs:List Value},NI S.objs ps qs→bG (aO w (aZ base S.objs blk) S.objs blk) ps vs→bG (cu w (λ_=>True)) qs vs
 | [],[],vs,_,h=>⟨h.1,λi p v hp=>by simp at hp⟩
 | p::ps,q::qs,vs,h,hr=>by
  obtain⟨h1,h2⟩:=h
  match vs,hr with
  | [],hr=>exact absurd hr.1 (by simp)
  | v::vs,hr=>
   have ih:=xP R h2 ⟨by simpa using hr.1,λi p u a b=>hr.2 (i+1) p u (by simpa using a) (by simpa using b)⟩
   refine⟨by simpa using ih.1,λi p' u hp hu=>?_⟩
   cases i with
   | zero=>simp at hp hu;subst hp;subst hu;exact WM R h1 (hr.2 0 p v rfl rfl)
   | succ i=>exact ih.2 i p' u (by simpa using hp) (by simpa using hu)
theorem aV.abw {w':World}{ok:Nat→Prop}{ak:Nat→Option Nat}{p:PV}{v:Value}(h:aV w' ok [] ak p v):cu w' ok p v:=by
 cases p with
 | aS k ver=>obtain⟨_,o,h,_⟩:=h;simp at h
 | bf k ver i f=>obtain⟨_,o,h,_⟩:=h;simp at h
 | fM k ver=>obtain⟨_,o,h,_⟩:=h;simp at h
 | _=>exact h
def PV.QJ (f:PV→PV):PV→PV
 | .fn g a c=>.fn g (a.map f) (c.map f)
 | .bY cs=>.bY (cs.map f)
 | .agg cs=>.agg (cs.map f)
 | p=>f p
theorem aO.QJ {w':World}{ok ok':Nat→Prop}{objs ai:List Obj}{blk ak:Nat→Option Nat}{p:PV}{v:Value}{f:PV→PV}(h:aO w' ok objs blk p v)
  (hf:∀q u,aV w' ok objs blk q u→aV w' ok' ai ak (f q) u) :
  aO w' ok' ai ak (p.QJ f) v:=by
 have hl:∀cs vs,bG (aV w' ok objs blk) cs vs→bG (aV w' ok' ai ak) (cs.map f) vs:=by
  intro cs vs h
  refine⟨by simpa using h.1,λi p v hp hv=>?_⟩
  rw[List.getElem?_map]at hp
  cases hc:cs[i]? with
  | none=>rw[hc]at hp;simp at hp
  | some q=>rw[hc]at hp;simp at hp;subst hp;exact hf q v (h.2 i q v hc hv)
 cases p with
 | fn g a c=>obtain⟨va,vc,rfl,h1,h2⟩:=h;exact⟨va,vc,rfl,hl _ _ h1,hl _ _ h2⟩
 | bY cs=>obtain⟨vs,rfl,h1⟩:=h;exact⟨vs,rfl,hl _ _ h1⟩
 | agg cs=>obtain⟨vs,rfl,h1⟩:=h;exact⟨vs,rfl,hl _ _ h1⟩
 | _=>exact .dS (hf _ _ h)
theorem WN(n:Nat)(p:PV):p.shift n=p.QJ (.jN n):=by
 cases p<;>rfl
theorem id_eq(p:PV):p=p.QJ id:=by
 cases p<;>simp[PV.QJ]
theorem uo{p:PV}(h:p.atom=true):p.ref=false:=by cases p<;>first | rfl | (simp[PV.atom]at h)
theorem FZ{w':World}{ok ok':Nat→Prop}{objs ai:List Obj}{blk ak:Nat→Option Nat}{p:PV}{v:Value}(hp:p.atom=true)(h:aV w ok objs blk p v):aV w' ok' ai ak p v:=by
 have h':=h.zo (uo hp)
 refine .aI ?_
 cases p<;>simp[PV.atom]at hp<;>cases h'<;>constructor
theorem F3{base' abx iD:Nat→Prop}{o:Obj}{ak:Nat→Option Nat}{w':World}(h:cO base' iD [o] ak w')(ho:∀x∈o.xs,∀p∈x.cells,p.atom=true):cO abx iD [o] ak w':=by
 refine⟨λk ob h1 h2=>?_,h.zV,h.np⟩
 have hh:=h.ob k ob h1 h2
 have he:ob=o:=by
  cases k with
  | zero=>simp at h1;exact h1.symm
  | succ k=>simp at h1
 subst he
 unfold bB at hh ⊢
 cases hb:ak k with
 | none=>rw[hb]at hh;exact hh
 | some g=>
  rw[hb]at hh
  obtain⟨c,x1,x2,x3⟩:=hh
  exact⟨c,x1,x2,λi x hx=>⟨(x3 i x hx).1,λj p hp=>let ⟨v,y1,y2⟩:=(x3 i x hx).2 j p hp;⟨v,y1,FZ (ho x (List.mem_of_getElem? hx) p (List.mem_of_getElem? hp)) y2⟩⟩⟩
theorem QK{f:FuncId}{args:List PV}{vs:List Value}{r:PV}{ai:List Obj}{t:Nat}(R:Rel base ah w0 S blk a w)(h:mI P f args S.objs r ai t)
  (hargs:bG (aO w (aZ base S.objs blk) S.objs blk) args vs) :
  Enters P f∧Calls P f ⟨vs⟩ w λe w'=>∃v ak,e=.returned v∧Rel base ah w0 ⟨S.tmps,ai⟩ ak a w'∧aO w' (aZ base ai ak) ai ak r v:=by
 cases h with
 | pure r hp h=>
  refine⟨h.1,(h.2 w blk vs (qh base S blk w) ⟨R.kZ,λb hb=>.inr hb⟩ (ul _ _ _ _) (JX hargs hp)).mono λe w' ⟨v,ak,h1,h2,h3,h4,h5⟩=>?_⟩
  have hg:=kS h4 h5
  refine⟨v,blk,h1,R.grew hg,?_⟩
  rw[id_eq r]
  refine h3.QJ (f:=id) λq u hq=>?_
  have hq':=hq.abw
  refine .aI (hq'.mono (Nat.le_refl _) (λb _ hb=>?_) (λ_ _ _ h=>h))
  exact K_ R hb
 | made r o hp hnew h=>
  refine⟨h.1,(h.2 w blk vs (qh base S blk w) ⟨R.kZ,λb hb=>.inr hb⟩ (ul _ _ _ _) (JX hargs hp)).mono λe w' ⟨v,ak,h1,h2,h3,h4,h5⟩=>?_⟩
  have hg:=kS h4 h5
  refine⟨v,aF blk S.objs.length (ak 0),h1,R.made hg hnew h2,?_⟩
  rw[WN]
  refine h3.QJ λq u hq=>?_
  have h0:∀(k:Nat) (ob:Obj),[o][k]?=some ob→k=0∧ob=o:=by
   intro k ob hk
   cases k with
   | zero=>simp at hk;exact⟨rfl,hk.symm⟩
   | succ k=>simp at hk
  have hbl:aF blk S.objs.length (ak 0) S.objs.length=ak 0:=by unfold aF;rw[if_pos rfl]
  cases q with
  | aS k ver=>
   obtain⟨ho,ob,g1,g2,g3⟩:=hq
   obtain⟨rfl,rfl⟩:=h0 k ob g1
   refine⟨ho,ob,by simp,g2,λhl hv=>?_⟩
   obtain⟨hM,this⟩:=g3 hl hv
   refine⟨hM,?_⟩
   unfold vL at this ⊢
   rw[Nat.zero_add,hbl];exact this
  | bf k ver i f=>
   obtain⟨ho,ob,g1,g2,g3⟩:=hq
   obtain⟨rfl,rfl⟩:=h0 k ob g1
   refine⟨ho,ob,by simp,g2,λhl hv=>?_⟩
   obtain⟨hM,g,e1,e2⟩:=g3 hl hv
   exact⟨hM,g,by rw[Nat.zero_add,hbl];exact e1,e2⟩
  | fM k ver=>
   obtain⟨ho,ob,g1,g2,g3⟩:=hq
   obtain⟨rfl,rfl⟩:=h0 k ob g1
   refine⟨ho,ob,by simp,g2,λhl hv=>?_⟩
   obtain⟨hM,g,e1,e2⟩:=g3 hl hv
   exact⟨hM,g,by rw[Nat.zero_add,hbl];exact e1,e2⟩
  | _=>
   have hq':cu w' _ _ u:=hq
   cases hl:o.live with
   | true=>exact .aI (hq'.mono (Nat.le_refl _) (λb _ hb=>NJ R hl hb) (λ_ _ _ h=>h))
   | false=>
    refine .aI (hq'.mono (Nat.le_refl _) (λb _ hb=>?_) (λ_ _ _ h=>h))
    have h0:=K_ R hb
    refine⟨h0.1,λk ob m1 m2=>?_⟩
    rcases mG m1 with ⟨hk,m3⟩ | ⟨_,eo⟩
    ·unfold aF;rw[if_neg (by omega)];exact h0.2 k ob m3 m2
    ·rw[eo,hl]at m2;cases m2
 | used r ai h=>exact⟨h.1,h.2.2 base ah w0 S.tmps blk a w vs R hargs⟩
 | FX ver o args' hl hnew h=>
  have ha:=xP R hl hargs
  refine⟨h.1,(h.2 w blk vs (λ_=>True) ⟨R.kZ,λ_ _=>trivial⟩ (ul _ _ _ _) ⟨ha.1,λi p v a b=>.aI ((ha.2 i p v a b).o_ λ_ _ _=>⟨trivial,dH _ _⟩)⟩).mono λe w' ⟨v,ak,h1,h2,h3,h4,h5⟩=>?_⟩
  have hg:=kS h4 h5
  have hn:bC [o]:=λob tZ x hx p hp=>by
   have:ob=o:=by simpa using tZ
   subst this
   exact uo (hnew x hx p hp)
  refine⟨v,aF blk S.objs.length (ak 0),h1,R.made hg hn (F3 h2 hnew),?_⟩
  have hbl:aF blk S.objs.length (ak 0) S.objs.length=ak 0:=by unfold aF;rw[if_pos rfl]
  obtain⟨ho,ob,g1,g2,g3⟩:=h3
  have he:ob=o:=by simpa using g1.symm
  subst he
  refine⟨ho,ob,by simp,g2,λhl hv=>?_⟩
  obtain⟨hM,this⟩:=g3 hl hv
  refine⟨hM,?_⟩
  unfold vL at this ⊢
  rw[hbl];exact this
 | Ns ver q o args' hl hnew hq h=>
  have ha:=xP R hl hargs
  refine⟨h.1,(h.2 w blk vs (λ_=>True) ⟨R.kZ,λ_ _=>trivial⟩ (ul _ _ _ _) ⟨ha.1,λi p v a b=>.aI ((ha.2 i p v a b).o_ λ_ _ _=>⟨trivial,dH _ _⟩)⟩).mono λe w' ⟨v,ak,h1,h2,h3,h4,h5⟩=>?_⟩
  have hg:=kS h4 h5
  have hn:bC [o]:=λob tZ x hx p hp=>by
   have:ob=o:=by simpa using tZ
   subst this
   exact uo (hnew x hx p hp)
  refine⟨v,aF blk S.objs.length (ak 0),h1,R.made hg hn (F3 h2 hnew),?_⟩
  have hbl:aF blk S.objs.length (ak 0) S.objs.length=ak 0:=by unfold aF;rw[if_pos rfl]
  obtain⟨us,rfl,h3⟩:=h3
  refine⟨us,rfl,h3.1,λi p u hp hu=>?_⟩
  match i with
  | 0=>
   cases hp
   obtain⟨ho,ob,g1,g2,g3⟩:=h3.2 0 _ u rfl hu
   have he:ob=o:=by simpa using g1.symm
   subst he
   refine⟨ho,ob,by simp,g2,λhl hv=>?_⟩
   obtain⟨hM,this⟩:=g3 hl hv
   refine⟨hM,?_⟩
   unfold vL at this ⊢
   rw[hbl];exact this
  | 1=>
   cases hp
   exact FZ hq (h3.2 1 _ u rfl hu)
  | i+2=>simp at hp
 | WK r args' hl hr h=>
  have ha:=xP R hl hargs
  refine⟨h.1,(h.2 w blk vs (λ_=>True) ⟨R.kZ,λ_ _=>trivial⟩ (ul _ _ _ _) ⟨ha.1,λi p v a b=>.aI ((ha.2 i p v a b).o_ λ_ _ _=>⟨trivial,dH _ _⟩)⟩).mono λe w' ⟨v,ak,h1,h2,h3,h4,h5⟩=>?_⟩
  exact⟨v,blk,h1,R.grew (kS h4 h5),WL hr h3⟩
theorem UG{f:FuncId}{args:List PV}{objs ai:List Obj}{r:PV}{t:Nat}(h:mI P f args objs r ai t):DY objs ai:=by
 cases h with
 | pure _ _ _=>exact .same rfl
 | WK _ _ _ _ _=>exact .same rfl
 | used _ _ h=>exact .same h.2.1
 | FX ver o _ _ hnew _=>
  refine .of λi x hx j p hp=>?_
  have:=hnew x (List.mem_of_getElem? hx) p (List.mem_of_getElem? hp)
  cases p<;>first | rfl | (simp[PV.atom]at this)
 | Ns ver q o _ _ hnew _ _=>
  refine .of λi x hx j p hp=>?_
  have:=hnew x (List.mem_of_getElem? hx) p (List.mem_of_getElem? hp)
  cases p<;>first | rfl | (simp[PV.atom]at this)
 | made r o _ hnew _=>
  refine .of λi x hx j p hp=>?_
  have:=hnew o (by simp) x (List.mem_of_getElem? hx) p (List.mem_of_getElem? hp)
  cases p<;>first | rfl | (simp[PV.ref]at this)
theorem JY{own:Bool}{o:Oper}{K:KT}{next:Act→World→Prop}{Q:Exit→Act→World→Prop}(l:Option Nat)(hD:∀t,fB P t (D t))(R:Rel base ah w0 S blk a w)
  (h:Io P D own S.ev S.objs o.op K)
  (hn:∀r ai t v w' ak,K r ai t→Rel base ah w0 ⟨S.tmps,ai⟩ ak a w'→aO w' (aZ base ai ak) ai ak r v→DY S.objs ai→next (a.put o.dst v) w') :
  o.wpIn (Ba l) 0 P a w next Q:=by
 have fin:(∀c,o.op≠.defer c)→Out P base ah w0 S o a w K→o.wpIn (Ba l) 0 P a w next Q:=by
  rintro hd ⟨v,w',r,ai,t,ak,h1,h2,h3,h4,h5⟩
  exact DZ hd h1 (hn r ai t v w' ak h2 h3 h4 h5)
 unfold Io at h
 split at h<;>rename_i ho
 ·exact fin (by rw[ho];simp) (ND (.inl ho) R h)
 ·exact fin (by rw[ho];simp) (ND (.inr ho) R h)
 ·exact fin (by rw[ho];simp) (WE ho R h)
 ·exact fin (by rw[ho];simp) (Uv ho hD R h)
 ·exact fin (by rw[ho];simp) (Y4 ho hD R h)
 ·exact fin (by rw[ho];simp) (UA ho hD R h)
 ·exact fin (by rw[ho];simp) (FQ ho hD R h)
 ·exact fin (by rw[ho];simp) (WC ho hD R h)
 ·exact fin (by rw[ho];simp) (Uw ho hD R h)
 ·exact fin (by rw[ho];simp) (K7 ho R h)
 ·exact fin (by rw[ho];simp) (Y8 ho hD R h)
 ·exact fin (by rw[ho];simp) (abq ho R h)
 ·exact fin (by rw[ho];simp) (WG ho hD R h)
 ·exact fin (by rw[ho];simp) (K8 ho R h)
 ·exact fin (by rw[ho];simp) (Iz ho hD R h)
 ·exact fin (by rw[ho];simp) (Uz ho hD R h)
 ·exact fin (by rw[ho];simp) (Iw ho hD R h)
 ·exact fin (by rw[ho];simp) (Us ho hD R h)
 ·exact fin (by rw[ho];simp) (Iy ho hD R h)
 ·exact fin (by rw[ho];simp) (Uu ho hD R h)
 ·exact fin (by rw[ho];simp) (NE ho R h)
 ·rename_i b args argTypes
  refine fin (by rw[ho];simp) ?_
  unfold dZ at h
  split at h
  ·rename_i t x e1 e2
   have e1':argTypes=#[t]:=by apply Array.ext';simpa using e1
   have e2':args=#[x]:=by apply Array.ext';simpa using e2
   subst e1';subst e2'
   exact Y3 ho hD R h
  ·rename_i t u s x e1 e2
   have e1':argTypes=#[t,u]:=by apply Array.ext';simpa using e1
   have e2':args=#[s,x]:=by apply Array.ext';simpa using e2
   subst e1';subst e2'
   exact QE ho hD R h
  ·exact FT (isMax:=true) ho R h
  ·exact FT (isMax:=false) ho R h
  ·exact h.elim
 ·rename_i f args argTypes
  unfold FY at h
  split at h
  ·rename_i g first cap e
   obtain⟨r,ai,t,hc,hK⟩:=h
   have hf:=R.ev f
   rw[e]at hf
   obtain⟨va,vc,hv,r1,r2⟩:=hf
   have hargs:bG (aO w (aZ base S.objs blk) S.objs blk) (first++args.toList.map S.ev++cap) (va++args.toList.map a.eval++vc):=by
    have app:∀{ps qs:List PV}{us ws:List Value}{Rr:PV→Value→Prop},bG Rr ps us→bG Rr qs ws→bG Rr (ps++qs) (us++ws):=by
     intro ps qs us ws Rr h1 h2
     refine⟨by simp[h1.1,h2.1],λi p v hp hv=>?_⟩
     rw[List.getElem?_append]at hp hv
     by_cases hi:i<ps.length
     ·rw[if_pos hi]at hp;rw[if_pos (by rw[←h1.1];exact hi)]at hv;exact h1.2 _ _ _ hp hv
     ·rw[if_neg hi]at hp;rw[if_neg (by rw[←h1.1];exact hi)]at hv;rw[←h1.1]at hv;exact h2.2 _ _ _ hp hv
    exact app (app (r1.mono λ_ _ h=>.dS h) (sj _ λx _=>R.ev x)) (r2.mono λ_ _ h=>.dS h)
   obtain⟨⟨fn,hfn,hname,hbody⟩,QL⟩:=QK R hc hargs
   refine⟨λ_ _=>trivial,?_⟩
   rw[Oper.semAt_eq _ _ _ (by rw[ho];simp)]
   have hrun:(execOp a.eval o).run P w=.ok (.enter g ⟨va++args.toList.map a.eval++vc⟩) w:=by
    have e1:(Array.mk va)++args.map a.eval++(Array.mk vc)=Array.mk (va++args.toList.map a.eval++vc):=by apply Array.ext';simp
    simp only[execOp,ho,resolve,hv,Deferred.ofValue,Sem.run_bind,Sem.run_pure,Result.andThen_ok,invoke,callFunc,run_program,hfn,hname,hbody,Bool.false_eq_true,if_false]
    rw[e1]
   rw[hrun]
   refine⟨(λh=>by cases h),?_⟩
   refine CallsIn.mono (sw QL l) λe w' ⟨v,ak,h1,h2,h3⟩=>?_
   subst h1
   exact hn r ai t v w' ak hK h2 h3 (UG hc)
  ·exact h.elim
 ·exact fin (by rw[ho];simp) (NH ho R h)
 ·exact fin (by rw[ho];simp) (QI ho hD R h)
 ·exact fin (by rw[ho];simp) (zx (.inl ho) hD R h)
 ·exact fin (by rw[ho];simp) (zx (.inr ho) hD R h)
 ·exact fin (by rw[ho];simp) (UC ho hD R h)
 ·exact fin (by rw[ho];simp) (UF ho R h)
 ·exact h.elim
theorem Be{own:Bool}{o:Oper}{K:KT}{next:Act→World→Prop}{Q:Exit→Act→World→Prop}(l:Option Nat)(hD:∀t,fB P t (D t))(R:Rel base ah w0 S blk a w)
  (h:Io P D own S.ev S.objs o.op K)
  (hn:∀r ai t v w' ak,K r ai t→Rel base ah w0 ⟨S.tmps,ai⟩ ak a w'→aO w' (aZ base ai ak) ai ak r v→next (a.put o.dst v) w') :
  o.wpIn (Ba l) 0 P a w next Q:=JY l hD R h λr ai t v w' ak h1 h2 h3 _=>hn r ai t v w' ak h1 h2 h3
end
end Lp
