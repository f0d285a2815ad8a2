/-
  Part 1 of what the statement rests on: LpV0, LpV1, LpV2, LpV3, LpV6, LpV7, LpV8, LpV9, LpY0, LpY1, LpY2, LpGlob, LpG0, LpA, LpB, LpC, LpD, LpE, LpF, LpG, LpH, LpI, LpJ, LpJm, LpJr, LpK. No condition.
-/
import GoSem.Op.String
import Derived.Lib.TrimByte
import Derived.Shelf.Unicode.DecodeSlow
import Derived.CallsIn
import Derived.Laws.AppendOwn
import Derived.Laws.Entries
import Derived.Laws.Cells
import Derived.Laws.CopyRow
import Derived.Laws.Strings
import Derived.Laws.Tables
import Derived.Deep.AppendSrc
import Derived.Laws.IdiomStrings
import GoSem.Instr.MapUpdate
import Derived.Maps.RangeRun
import Derived.RangeFuncCalls

set_option linter.all false
set_option maxHeartbeats 8000000
set_option maxRecDepth 100000
namespace Lp
open Go
open Option (map_some)
structure Nd where
 kind:Int
 many:Int
 name:List UInt8
 s:List UInt8
 neg:Bool
 e:Int
 deriving DecidableEq
abbrev Vl:=List Nd
def skip:Vl→Nat→Option Nat
 | _,0=>some 0
 | [],_+1=>none
 | n::v,k+1=>if n.many<0 then none else (skip v (k+n.many.toNat)).map (·+1)
theorem iB:∀(v:Vl) (k c:Nat),skip v k=some c→k≤c∧c≤v.length
 | v,0,c,h=>by cases v<;>simp[skip]at h<;>subst h<;>simp
 | [],k+1,c,h=>by simp[skip]at h
 | n::v,k+1,c,h=>by
  simp only[skip]at h
  split at h
  ·cases h
  ·cases hs:skip v (k+n.many.toNat) with
   | none=>rw[hs]at h;simp at h
   | some c'=>
    rw[hs]at h
    simp only[map_some,Option.some.injEq]at h
    obtain⟨h1,h2⟩:=iB v _ c' hs
    simp only[List.length_cons]
    omega
theorem dw{n:Nd}{v:Vl}{k c:Nat}(h:skip (n::v) (k+1)=some c):0≤n.many∧∃c',c=c'+1∧skip v (k+n.many.toNat)=some c':=by
 simp only[skip]at h
 split at h
 ·cases h
 ·cases hs:skip v (k+n.many.toNat) with
  | none=>rw[hs]at h;simp at h
  | some c'=>
   rw[hs]at h
   simp only[map_some,Option.some.injEq]at h
   exact⟨by omega,c',h.symm,rfl⟩
def parts:Nat→Vl→Option (List Vl)
 | 0,_=>some []
 | k+1,v=>match skip v 1 with
  | some c=>(parts k (v.drop c)).map (v.take c::·)
  | none=>none
theorem dS:∀(k:Nat) (v:Vl) (ps:List Vl),parts k v=some ps→ps.length=k
 | 0,v,ps,h=>by simp[parts]at h;subst h;rfl
 | k+1,v,ps,h=>by
  simp only[parts]at h
  split at h
  ·rename_i c _
   cases hp:parts k (v.drop c) with
   | none=>rw[hp]at h;simp at h
   | some qs=>
    rw[hp]at h
    simp only[map_some,Option.some.injEq]at h
    subst h
    simp[dS k _ qs hp]
  ·cases h
theorem iL{k:Nat}{v:Vl}{ps:List Vl}(h:parts (k+1) v=some ps):∃c qs,skip v 1=some c∧ps=v.take c::qs∧parts k (v.drop c)=some qs:=by
 simp only[parts]at h
 split at h
 ·rename_i c hc
  cases hp:parts k (v.drop c) with
  | none=>rw[hp]at h;simp at h
  | some qs=>
   rw[hp]at h
   simp only[map_some,Option.some.injEq]at h
   exact⟨c,qs,hc,h.symm,hp⟩
 ·cases h
theorem jB:∀(k:Nat) (v:Vl) (ps:List Vl),parts k v=some ps→k≤v.length
 | 0,_,_,_=>Nat.zero_le _
 | k+1,v,ps,h=>by
  obtain⟨c,qs,h1,_,h3⟩:=iL h
  have:=iB _ _ _ h1
  have:=jB k _ qs h3
  simp only[List.length_drop]at this
  omega
def gX:Vl→Vl
 | []=>[]
 | n::r=>{ n with name:=[] }::r
def nameOf:Vl→List UInt8
 | []=>[]
 | n::_=>n.name
def Hl(n:Nd)(ps:List Vl):List (List UInt8):=if n.kind=6 then ps.map nameOf else []
def eT(s:List UInt8)(i:Nat):Bool:=match s[i]? with
 | some b=>decide (128≤b) && decide (b<192)
 | none=>false
def bU(s:List UInt8):Nat:=match s with
 | []=>0
 | c::t=>
  if c<128 then 1
  else if 194≤c∧c<224∧eT t 0=true then 2
  else if 224≤c∧c<240∧eT t 0=true∧eT t 1=true then
   if (c=224∧t.headD 0<160)∨(c=237∧160≤t.headD 0) then 0 else 3
  else if 240≤c∧c<245∧eT t 0=true∧eT t 1=true∧eT t 2=true then
   if (c=240∧t.headD 0<144)∨(c=244∧144≤t.headD 0) then 0 else 4
  else 0
def Cn:Nat→List UInt8→Bool
 | 0,s=>s.isEmpty
 | k+1,s=>s.isEmpty || (bU s !=0 && Cn k (s.drop (bU s)))
def utf(s:List UInt8):Bool:=Cn s.length s
theorem zI:∀(k l:Nat) (s:List UInt8),s.length≤k→s.length≤l→Cn k s=Cn l s
 | 0,0,_,_,_=>rfl
 | 0,l+1,s,h,_=>by
  have:s=[]:=by cases s<;>simp at h ⊢
  subst this;simp[Cn]
 | k+1,0,s,_,h=>by
  have:s=[]:=by cases s<;>simp at h ⊢
  subst this;simp[Cn]
 | k+1,l+1,s,h1,h2=>by
  cases s with
  | nil=>rfl
  | cons c t=>
   simp only[Cn]
   by_cases h0:bU (c::t)=0
   ·simp[h0]
   ·rw[zI k l ((c::t).drop (bU (c::t))) (by simp at *;omega) (by simp at *;omega)]
def rZ(s:List UInt8):Bool:=s.all λc=>decide (48≤c) && decide (c≤57)
def xS(n:Nd):Bool:=
 n.many==0 && rZ n.s && decide (n.s.length≤100) && decide (-1000≤n.e) && decide (n.e≤1000) && decide (n.s.length+n.e≤1000) &&
 (if n.s=[] then !n.neg && n.e==0 else n.s.head? !=some 48 && n.s.getLast? !=some 48)
def bE(n:Nd):Bool:=
 if n.kind=0∨n.kind=1∨n.kind=2 then n.many==0 && n.s==[] && !n.neg && n.e==0
 else if n.kind=3 then xS n
 else if n.kind=4 then utf n.s && n.many==0 && !n.neg && n.e==0
 else if n.kind=5∨n.kind=6 then decide (0≤n.many) && n.s==[] && !n.neg && n.e==0
 else false
def lW(L:Nat):Vl→Nat→Option Nat
 | _,0=>some 0
 | [],_+1=>none
 | n::v,k+1=>if n.many<0∨(L:Int)<n.many then none else (lW L v (k+n.many.toNat)).map (·+1)
theorem pU(L:Nat):∀(v:Vl) (k c:Nat),lW L v k=some c→skip v k=some c
 | v,0,c,h=>by cases v<;>simpa[lW,skip] using h
 | [],k+1,c,h=>by simp[lW]at h
 | n::v,k+1,c,h=>by
  simp only[lW]at h
  split at h
  ·cases h
  ·rename_i hn
   cases hs:lW L v (k+n.many.toNat) with
   | none=>rw[hs]at h;simp at h
   | some c'=>
    rw[hs]at h
    simp only[map_some,Option.some.injEq]at h
    simp only[skip]
    rw[if_neg (by omega),pU L v _ c' hs]
    simpa using h
def jo(kind:Int):List Vl→Bool
 | []=>true
 | p::ps=>(kind !=5 || nameOf p==[]) && utf (nameOf p) && (match ps with | []=>true | q::_=>kind !=6 || Op.bytesLess (nameOf p) (nameOf q)) && jo kind ps
def kZ:Vl→Bool
 | []=>true
 | n::r=>bE n && (match parts n.many.toNat r with | some ps=>jo n.kind ps | none=>false) && kZ r
def bK(v:Vl):Bool:=!v.isEmpty && nameOf v==[] && lW v.length v 1==some v.length && kZ v
def vR(v:Vl)(most:Nat):Bool:=decide (v.length≤most) && v.all (λn=>decide (n.s.length≤200) && decide (n.name.length≤200)) && bK v
def partsOf(n:Nd)(r:Vl):List Vl:=((parts n.many.toNat r).getD []).map gX
def MG(n:Nd)(r:Vl):List (List UInt8):=((parts n.many.toNat r).getD []).map nameOf
def aD:Vl→List Vl
 | []=>[]
 | n::r=>partsOf n r
def aS:Vl→List (List UInt8)
 | []=>[]
 | n::r=>if n.kind=6 then MG n r else []
end Lp
namespace Lp
open Go
theorem nK:∀(v:Vl) (j k c:Nat),skip v (j+k)=some c→∃c1 c2,skip v j=some c1∧skip (v.drop c1) k=some c2∧c=c1+c2
 | v,0,k,c,h=>⟨0,c,by cases v<;>simp[skip],by simpa using h,by simp⟩
 | [],j+1,k,c,h=>by
  have:j+1+k=(j+k)+1:=by omega
  rw[this]at h
  simp[skip]at h
 | n::v,j+1,k,c,h=>by
  have e:j+1+k=(j+k)+1:=by omega
  rw[e]at h
  obtain⟨hm,c',rfl,h'⟩:=dw h
  have e2:j+k+n.many.toNat=(j+n.many.toNat)+k:=by omega
  rw[e2]at h'
  obtain⟨c1,c2,h1,h2,rfl⟩:=nK v _ k c' h'
  refine⟨c1+1,c2,?_,?_,by omega⟩
  ·simp only[skip]
   rw[if_neg (by omega),h1];rfl
  ·simpa using h2
theorem pV:∀(v:Vl) (j k c1 c2:Nat),skip v j=some c1→skip (v.drop c1) k=some c2→skip v (j+k)=some (c1+c2)
 | v,0,k,c1,c2,h,h2=>by
  have:c1=0:=by cases v<;>simp[skip]at h<;>exact h.symm
  subst this
  simpa using h2
 | [],j+1,k,c1,c2,h,h2=>by simp[skip]at h
 | n::v,j+1,k,c1,c2,h,h2=>by
  obtain⟨hm,c',rfl,h'⟩:=dw h
  have e:j+1+k=(j+k)+1:=by omega
  rw[e]
  simp only[skip]
  have e2:j+k+n.many.toNat=(j+n.many.toNat)+k:=by omega
  rw[if_neg (by omega),e2,pV v _ k c' c2 h' (by simpa using h2)]
  simp only[Option.map_some,Option.some.injEq]
  omega
theorem pW:∀(v:Vl) (k c:Nat),skip v k=some c→skip (v.take c) k=some c
 | v,0,c,h=>by
  have:c=0:=by cases v<;>simp[skip]at h<;>exact h.symm
  subst this
  simp[skip]
 | [],k+1,c,h=>by simp[skip]at h
 | n::v,k+1,c,h=>by
  obtain⟨hm,c',rfl,h'⟩:=dw h
  simp only[List.take_succ_cons,skip]
  rw[if_neg (by omega),pW v _ c' h'];rfl
theorem fG:∀(v w:Vl) (k c:Nat),skip v k=some c→skip (v++w) k=some c
 | v,w,0,c,h=>by
  have:c=0:=by cases v<;>simp[skip]at h<;>exact h.symm
  subst this
  cases v<;>cases w<;>simp[skip]
 | [],w,k+1,c,h=>by simp[skip]at h
 | n::v,w,k+1,c,h=>by
  obtain⟨hm,c',rfl,h'⟩:=dw h
  simp only[List.cons_append,skip]
  rw[if_neg (by omega),fG v w _ c' h'];rfl
theorem xU(v:Vl)(k:Nat):skip (gX v) k=skip v k:=by
 cases v with
 | nil=>rfl
 | cons n r=>cases k<;>rfl
theorem jK(v:Vl):(gX v).length=v.length:=by cases v<;>rfl
def One(v:Vl):Prop:=skip v 1=some v.length
theorem One.gX {v:Vl}(h:One v):One (gX v):=by
 unfold One at *
 rw[xU,jK,h]
theorem One.ne {v:Vl}(h:One v):v≠[]:=by
 rintro rfl
 simp[One,skip]at h
theorem eu:∀(k:Nat) (v:Vl) (c:Nat),skip v k=some c→∃ps,parts k v=some ps∧ps.flatten=v.take c∧∀p∈ps,One p
 | 0,v,c,h=>by
  have:c=0:=by cases v<;>simp[skip]at h<;>exact h.symm
  subst this
  exact⟨[],rfl,by simp,by simp⟩
 | k+1,v,c,h=>by
  have e:k+1=1+k:=by omega
  rw[e]at h
  obtain⟨c1,c2,h1,h2,rfl⟩:=nK v 1 k c h
  obtain⟨ps,hp,hf,ho⟩:=eu k _ c2 h2
  refine⟨v.take c1::ps,by simp[parts,h1,hp],?_,?_⟩
  ·rw[List.flatten_cons,hf,List.take_add]
  ·intro p hpm
   rcases List.mem_cons.1 hpm with rfl | hpm
   ·have:=pW _ _ _ h1
    have hl:=iB _ _ _ h1
    unfold One
    rw[this,List.length_take]
    congr 1;omega
   ·exact ho p hpm
theorem jC:∀(ps:List Vl),(∀p∈ps,One p)→parts ps.length ps.flatten=some ps
 | [],_=>rfl
 | p::ps,h=>by
  have h1:skip (p++ps.flatten) 1=some p.length:=fG _ _ _ _ (h p (List.mem_cons_self ..))
  have h2:=jC ps λq hq=>h q (List.mem_cons_of_mem _ hq)
  simp only[List.length_cons,List.flatten_cons,parts,h1]
  rw[List.drop_left,h2,List.take_left];rfl
theorem kF:∀(ps:List Vl),(∀p∈ps,One p)→skip ps.flatten ps.length=some ps.flatten.length
 | [],_=>rfl
 | p::ps,h=>by
  have h1:skip (p++ps.flatten) 1=some p.length:=fG _ _ _ _ (h p (List.mem_cons_self ..))
  have h2:=kF ps λq hq=>h q (List.mem_cons_of_mem _ hq)
  have:=pV (p++ps.flatten) 1 ps.length p.length ps.flatten.length h1 (by rw[List.drop_left];exact h2)
  simp only[List.length_cons,List.flatten_cons,List.length_append]
  rw[Nat.add_comm];exact this
theorem One.parts {n:Nd}{r:Vl}(h:One (n::r)):0≤n.many∧∃ps,parts n.many.toNat r=some ps∧ps.flatten=r∧∀p∈ps,One p:=by
 obtain⟨hm,c',hc,h'⟩:=dw (k:=0) h
 simp only[List.length_cons,Nat.add_right_cancel_iff]at hc
 subst hc
 rw[Nat.zero_add]at h'
 obtain⟨ps,h1,h2,h3⟩:=eu _ _ _ h'
 exact⟨hm,ps,h1,by rw[h2,List.take_length],h3⟩
theorem One.made {n:Nd}{ps:List Vl}(hn:n.many=ps.length)(h:∀p∈ps,One p):One (n::ps.flatten):=by
 unfold One
 simp only[skip,Nat.zero_add]
 rw[if_neg (by omega),hn,Int.toNat_natCast,kF ps h];rfl
theorem rV{ps:List Vl}{p:Vl}(h:p∈ps):p.length≤ps.flatten.length:=by
 induction ps with
 | nil=>cases h
 | cons q qs ih=>
  rcases List.mem_cons.1 h with rfl | h
  ·simp
  ·have:=ih h
   simp only[List.flatten_cons,List.length_append]
   omega
structure Wf (q:Nd→Prop) (v:Vl):Prop where
 one:One v
 all:∀n∈v,q n
theorem Wf.parts {q:Nd→Prop}{n:Nd}{r:Vl}(h:Wf q (n::r)):0≤n.many∧∃ps,parts n.many.toNat r=some ps∧ps.flatten=r∧∀p∈ps,Wf q p:=by
 obtain⟨hm,ps,h1,h2,h3⟩:=h.one.parts
 refine⟨hm,ps,h1,h2,λp hp=>⟨h3 p hp,λx hx=>h.all x (List.mem_cons_of_mem _ ?_)⟩⟩
 rw[←h2]
 exact List.mem_flatten.2 ⟨p,hp,hx⟩
theorem Wf.gX {q:Nd→Prop}(hq:∀n,q n→q { n with name:=[] }){v:Vl}(h:Wf q v):Wf q (gX v):=by
 refine⟨h.one.gX,λn hn=>?_⟩
 cases v with
 | nil=>cases hn
 | cons m r=>
  rcases List.mem_cons.1 hn with rfl | hn
  ·exact hq m (h.all m (List.mem_cons_self ..))
  ·exact h.all n (List.mem_cons_of_mem _ hn)
theorem pX:∀(v:Vl) (k c i:Nat),skip v k=some c→i<c→∃k' c',skip (v.drop i) (k'+1)=some c'
 | v,0,c,i,h,hi=>by
  have:c=0:=by cases v<;>simp[skip]at h<;>exact h.symm
  omega
 | [],k+1,c,i,h,hi=>by simp[skip]at h
 | n::v,k+1,c,0,h,hi=>⟨k,c,by simpa using h⟩
 | n::v,k+1,c,i+1,h,hi=>by
  obtain⟨hm,c',rfl,h'⟩:=dw h
  simpa using pX v _ c' i h' (by omega)
theorem One.at {v:Vl}(h:One v){i:Nat}(hi:i<v.length):∃c,skip (v.drop i) 1=some c:=by
 obtain⟨k',c',h'⟩:=pX v 1 _ i h hi
 rw[Nat.add_comm]at h'
 obtain⟨c1,_,h1,_,_⟩:=nK _ 1 k' c' h'
 exact⟨c1,h1⟩
theorem One.BO {v:Vl}(h:One v){i:Nat}(hi:i<v.length):0≤v[i].many∧∃ps,Lp.parts v[i].many.toNat (v.drop (i+1))=some ps:=by
 obtain⟨c,hc⟩:=h.at hi
 rw[List.drop_eq_getElem_cons hi]at hc
 obtain⟨hm,c',rfl,h'⟩:=dw (k:=0) hc
 rw[Nat.zero_add]at h'
 obtain⟨ps,h1,_,_⟩:=eu _ _ _ h'
 exact⟨hm,ps,h1⟩
end Lp
namespace Lp
open Go
theorem gM:∀(k:Nat) (v w:Vl) (ps:List Vl),parts k v=some ps→parts k (v++w)=some ps
 | 0,_,_,_,h=>h
 | k+1,v,w,ps,h=>by
  obtain⟨c,qs,h1,rfl,h3⟩:=iL h
  have hc:=iB _ _ _ h1
  have h4:=gM k _ w qs h3
  simp only[parts,fG v w _ _ h1]
  rw[List.drop_append_of_le_length hc.2,h4,List.take_append_of_le_length hc.2];rfl
def Good(v:Vl):Prop:=∀i n r,v.drop i=n::r→bE n=true∧∃ps,parts n.many.toNat r=some ps∧jo n.kind ps=true
theorem lu:∀v:Vl,kZ v=true↔Good v
 | []=>⟨λ_ i n r h=>(by simp at h),λ_=>rfl⟩
 | m::v=>by
  constructor
  ·intro h i n r hd
   simp only[kZ,Bool.and_eq_true]at h
   obtain⟨⟨h1,h2⟩,h3⟩:=h
   cases i with
   | zero=>
    simp only[List.drop_zero,List.cons.injEq]at hd
    obtain⟨rfl,rfl⟩:=hd
    refine⟨h1,?_⟩
    cases hp:parts m.many.toNat v with
    | none=>rw[hp]at h2;cases h2
    | some ps=>rw[hp]at h2;exact⟨ps,rfl,h2⟩
   | succ i=>exact (lu v).1 h3 i n r (by simpa using hd)
  ·intro h
   obtain⟨h1,ps,h2,h3⟩:=h 0 m v rfl
   have h4:kZ v=true:=(lu v).2 λi n r hd=>h (i+1) n r (by simpa using hd)
   simp[kZ,h1,h2,h3,h4]
structure Rt (v:Vl):Prop where
 one:One v
 name:nameOf v=[]
 good:Good v
theorem ni{v:Vl}(h:bK v=true):Rt v:=by
 simp only[bK,Bool.and_eq_true,beq_iff_eq]at h
 obtain⟨⟨⟨_,h2⟩,h3⟩,h4⟩:=h
 exact⟨pU _ _ _ _ h3,h2,(lu v).1 h4⟩
theorem xV{p w s:Vl}{m:Nd}{i:Nat}(h:p.drop i=m::s):(p++w).drop i=m::(s++w):=by
 have hi:i≤p.length:=by
  rcases Nat.le_total i p.length with h' | h'
  ·exact h'
  ·rw[List.drop_eq_nil_of_le h']at h;cases h
 rw[List.drop_append_of_le_length hi,h];rfl
theorem Good.pre {p w:Vl}(ho:One p)(h:Good (p++w)):Good p:=by
 intro i m s hd
 obtain⟨h1,ps,h2,h3⟩:=h i m (s++w) (xV hd)
 have hi:i<p.length:=by
  rcases Nat.lt_or_ge i p.length with h' | h'
  ·exact h'
  ·rw[List.drop_eq_nil_of_le h']at hd;cases hd
 obtain⟨_,qs,hq⟩:=ho.BO hi
 have hd':=hd
 rw[List.drop_eq_getElem_cons hi]at hd'
 obtain⟨e1,e2⟩:=List.cons.inj hd'
 rw[e1,e2]at hq
 have:=gM _ _ w _ hq
 rw[h2]at this
 cases this
 exact⟨h1,ps,hq,h3⟩
theorem Good.Za {p w:Vl}(h:Good (p++w)):Good w:=by
 intro i m s hd
 exact h (p.length+i) m s (by rw[←List.drop_drop,List.drop_left];exact hd)
theorem Good.lC:∀(ps:List Vl),(∀p∈ps,One p)→Good ps.flatten→∀p∈ps,Good p
 | [],_,_,p,hp=>by cases hp
 | q::qs,ho,hg,p,hp=>by
  rw[List.flatten_cons]at hg
  rcases List.mem_cons.1 hp with rfl | hp
  ·exact hg.pre (ho _ (List.mem_cons_self ..))
  ·exact Good.lC qs (λx hx=>ho x (List.mem_cons_of_mem _ hx)) hg.Za p hp
theorem Good.gX {v:Vl}(h:Good v):Good (gX v):=by
 cases v with
 | nil=>exact h
 | cons n r=>
  intro i m s hd
  cases i with
  | zero=>
   simp only[Lp.gX,List.drop_zero,List.cons.injEq]at hd
   obtain⟨rfl,rfl⟩:=hd
   exact h 0 n r rfl
  | succ i=>exact h (i+1) m s hd
theorem Co(v:Vl):nameOf (gX v)=[]:=by cases v<;>rfl
theorem Rt.parts {n:Nd}{r:Vl}(h:Rt (n::r)):bE n=true∧0≤n.many∧∃ps,parts n.many.toNat r=some ps∧ps.flatten=r∧jo n.kind ps=true∧(∀p∈ps,One p)∧∀p∈ps,Rt (Lp.gX p):=by
 obtain⟨hm,ps,h1,h2,h3⟩:=h.one.parts
 obtain⟨hp,qs,hq,hr⟩:=h.good 0 n r rfl
 rw[h1]at hq
 cases hq
 have hg:Good ps.flatten:=by rw[h2];exact (show Good ([n]++r) from h.good).Za
 exact⟨hp,hm,ps,h1,h2,hr,h3,λp hpm=>⟨(h3 p hpm).gX,Co p,(Good.lC ps h3 hg p hpm).gX⟩⟩
theorem dI{n:Nd}{r:Vl}{ps:List Vl}(h:parts n.many.toNat r=some ps):partsOf n r=ps.map gX∧MG n r=ps.map nameOf:=by
 simp[partsOf,MG,h]
theorem Cq:∀(ps:List Vl),jo 5 ps=true→ps.map nameOf=ps.map λ_=>[]
 | [],_=>rfl
 | p::ps,h=>by
  simp only[jo,Bool.and_eq_true]at h
  obtain⟨⟨⟨h1,_⟩,_⟩,h4⟩:=h
  have:nameOf p=[]:=by simpa using h1
  simp only[List.map_cons,this,Cq ps h4]
theorem b_{v:Vl}(h:nameOf v=[])(hne:v≠[]):∃n r,v=n::r∧n.name=[]:=by
 cases v with
 | nil=>exact absurd rfl hne
 | cons n r=>exact⟨n,r,rfl,h⟩
end Lp
namespace Lp
open Go
structure Zy {α:Type}(P:α→Prop) (f:α→α→Int):Prop where
 rng:∀a b,P a→P b→-1≤f a b∧f a b≤1
 anti:∀a b,P a→P b→f b a=-f a b
 zero:∀a b,P a→P b→(f a b=0↔a=b)
 trans:∀a b c,P a→P b→P c→f a b≤0→f b c≤0→f a c≤0
theorem nk:∀x:List UInt8,Op.bytesLess x x=false
 | []=>rfl
 | a::x=>by simp[Op.bytesLess,nk x]
theorem lZ:∀x y z:List UInt8,Op.bytesLess x y=true→Op.bytesLess y z=true→Op.bytesLess x z=true
 | x,[],z,h,_=>by cases x<;>simp[Op.bytesLess]at h
 | x,b::y,[],_,h=>by simp[Op.bytesLess]at h
 | [],b::y,c::z,_,_=>rfl
 | a::x,b::y,c::z,h1,h2=>by
  simp only[Op.bytesLess,Bool.or_eq_true,Bool.and_eq_true,decide_eq_true_eq,beq_iff_eq]at *
  rcases h1 with h1 | ⟨rfl,h1⟩
  ·rcases h2 with h2 | ⟨rfl,h2⟩
   ·exact .inl (UInt8.lt_trans h1 h2)
   ·exact .inl h1
  ·rcases h2 with h2 | ⟨rfl,h2⟩
   ·exact .inl h2
   ·exact .inr ⟨rfl,lZ x y z h1 h2⟩
theorem Ho:∀x y:List UInt8,Op.bytesLess x y=true∨x=y∨Op.bytesLess y x=true
 | [],[]=>.inr (.inl rfl)
 | [],_::_=>.inl rfl
 | _::_,[]=>.inr (.inr rfl)
 | a::x,b::y=>by
  simp only[Op.bytesLess,Bool.or_eq_true,Bool.and_eq_true,decide_eq_true_eq,beq_iff_eq,List.cons.injEq]
  have tri:a<b∨a=b∨b<a:=by
   rcases Nat.lt_trichotomy a.toNat b.toNat with h | h | h
   ·exact .inl h
   ·exact .inr (.inl (UInt8.toNat_inj.1 h))
   ·exact .inr (.inr h)
  rcases tri with h | rfl | h
  ·exact .inl (.inl h)
  ·rcases Ho x y with h | rfl | h
   ·exact .inl (.inr ⟨rfl,h⟩)
   ·exact .inr (.inl ⟨rfl,rfl⟩)
   ·exact .inr (.inr (.inr ⟨rfl,h⟩))
  ·exact .inr (.inr (.inl h))
theorem JI(x y:List UInt8)(h:Op.bytesLess x y=true):Op.bytesLess y x=false:=by
 cases h':Op.bytesLess y x with
 | false=>rfl
 | true=>have:=lZ x y x h h';rw[nk]at this;cases this
theorem Zy.refl {α:Type}{P:α→Prop}{f:α→α→Int}(h:Zy P f)(a:α)(ha:P a):f a a=0:=(h.zero a a ha ha).2 rfl
theorem P_{n:Nd}(h:xS n=true):n.many=0:=by
 simp only[xS,Bool.and_eq_true,beq_iff_eq]at h
 exact h.1.1.1.1.1.1
theorem JJ{n:Nd}{r:Vl}(h:Rt (n::r)):∀x∈partsOf n r,x.length≤r.length∧Rt x:=by
 obtain⟨_,_,ps,h3,h4,h5,h6,h7⟩:=h.parts
 intro x hx
 rw[(dI h3).1]at hx
 obtain⟨p,hp,rfl⟩:=List.mem_map.1 hx
 have:=rV hp
 rw[h4]at this
 exact⟨by rw[jK];omega,h7 p hp⟩
end Lp
namespace Lp
open Go
open List (length_map map_congr_left map_cons map_map mem_cons mem_cons_of_mem)
theorem FO(L:Nat):∀(v:Vl) (k c:Nat),skip v k=some c→c≤L→lW L v k=some c
 | v,0,c,h,_=>by cases v<;>simpa[lW,skip] using h
 | [],k+1,c,h,_=>by simp[skip]at h
 | n::v,k+1,c,h,hc=>by
  obtain⟨hm,c',rfl,h'⟩:=dw h
  have:=iB _ _ _ h'
  rw[lW,if_neg (by omega),FO L v _ c' h' (by omega)];rfl
theorem FP{v:Vl}(h:Rt v):bK v=true:=by
 have h1:=FO v.length v 1 _ h.one (Nat.le_refl _)
 have h2:v.isEmpty=false:=by
  cases v with
  | nil=>exact absurd rfl h.one.ne
  | cons=>rfl
 simp[bK,h1,h2,h.name,(lu v).2 h.good]
theorem MH{v:Vl}:bK v=true↔Rt v:=⟨ni,FP⟩
theorem Good.app {p w:Vl}(hp:Good p)(hw:Good w):Good (p++w):=by
 intro i n r hd
 rcases Nat.lt_or_ge i p.length with h | h
 ·have hd':=List.drop_eq_getElem_cons h
  have e:=xV (w:=w) hd'
  obtain⟨rfl,rfl⟩:=List.cons.inj (e.symm.trans hd)
  obtain⟨h1,ps,h2,h3⟩:=hp i _ _ hd'
  exact⟨h1,ps,gM _ _ w _ h2,h3⟩
 ·have e:(p++w).drop i=w.drop (i-p.length):=by
    rw[List.drop_append,List.drop_eq_nil_of_le h,List.nil_append]
  exact hw (i-p.length) n r (by rw[←e];exact hd)
theorem Good.nil:Good []:=λi n r h=>by simp at h
theorem Good.flat:∀(ps:List Vl),(∀p∈ps,Good p)→Good ps.flatten
 | [],_=>Good.nil
 | p::ps,h=>by
  rw[List.flatten_cons]
  exact (h p (List.mem_cons_self ..)).app (Good.flat ps λq hq=>h q (mem_cons_of_mem _ hq))
theorem Good.MI {v:Vl}(h:Good (Lp.gX v)):Good v:=by
 cases v with
 | nil=>exact h
 | cons n r=>
  intro i m s hd
  cases i with
  | zero=>
   simp only[List.drop_zero,List.cons.injEq]at hd
   obtain⟨rfl,rfl⟩:=hd
   exact h 0 { n with name:=[] } r rfl
  | succ i=>exact h (i+1) m s hd
theorem One.MI {v:Vl}(h:One (Lp.gX v)):One v:=by
 unfold One at *
 rw[xU,jK]at h
 exact h
theorem Good.made {n:Nd}{ps:List Vl}(hn:bE n=true)(hm:n.many=ps.length)(hr:jo n.kind ps=true)(h:∀p∈ps,One p∧Good p):Good (n::ps.flatten):=by
 intro i m s hd
 cases i with
 | zero=>
  simp only[List.drop_zero,List.cons.injEq]at hd
  obtain⟨rfl,rfl⟩:=hd
  refine⟨hn,ps,?_,hr⟩
  rw[hm,Int.toNat_natCast]
  exact jC ps λp hp=>(h p hp).1
 | succ i=>exact Good.flat ps (λp hp=>(h p hp).2) i m s (by simpa using hd)
theorem Rt.made {n:Nd}{ps:List Vl}(hn:bE n=true)(hm:n.many=ps.length)(hname:n.name=[])(hr:jo n.kind ps=true)(h:∀p∈ps,One p∧Good p):Rt (n::ps.flatten):=
 ⟨One.made hm λp hp=>(h p hp).1,hname,Good.made hn hm hr h⟩
theorem Sq{v:Vl}(h:nameOf v=[]):gX v=v:=by
 cases v with
 | nil=>rfl
 | cons n r=>cases n;simp only[nameOf]at h;subst h;rfl
theorem MJ{l:List Vl}(h:∀p∈l,nameOf p=[]):l.map gX=l:=by
 induction l with
 | nil=>rfl
 | cons p l ih=>rw[map_cons,Sq (h p (List.mem_cons_self ..)),ih λq hq=>h q (mem_cons_of_mem _ hq)]
def oN(l:List Vl):Vl:=⟨5,l.length,[],[],false,0⟩::l.flatten
theorem Sr:∀ps:List Vl,(∀p∈ps,nameOf p=[])→jo 5 ps=true
 | [],_=>rfl
 | [p],h=>by
  have:=h p (by simp)
  simp[jo,this];decide
 | p::q::ps,h=>by
  have:=h p (by simp)
  have ih:=Sr (q::ps) λx hx=>h x (mem_cons_of_mem _ hx)
  rw[jo,this,ih];rfl
theorem Cr{l:List Vl}(h:∀p∈l,Rt p):Rt (oN l):=
 Rt.made (n:=⟨5,l.length,[],[],false,0⟩) (by simp[bE]) rfl rfl (Sr l λp hp=>(h p hp).name) λp hp=>⟨(h p hp).one,(h p hp).good⟩
theorem pY{n:Nd}(h:bE n=true)(hk:n.kind=5∨n.kind=6):0≤n.many∧n.s=[]∧n.neg=false∧n.e=0:=by
 unfold bE at h
 rw[if_neg (by omega),if_neg (by omega),if_neg (by omega),if_pos hk]at h
 simpa[and_assoc] using h
theorem JK{n:Nd}{r:Vl}(h:Rt (n::r))(hk:n.kind=5):oN (aD (n::r))=n::r:=by
 obtain⟨h1,h2,ps,h3,h4,h5,_,_⟩:=h.parts
 obtain⟨_,e2,e3,e4⟩:=pY h1 (.inl hk)
 have hn:n.name=[]:=h.name
 have hc:ps.map gX=ps:=MJ λp hp=>by
  rw[hk]at h5
  have:=Cq ps h5
  obtain⟨i,hi,rfl⟩:=List.mem_iff_getElem.1 hp
  have:=congrArg (λl=>l[i]?) this
  simpa[hi] using this
 have hl:=dS _ _ _ h3
 simp only[aD,(dI h3).1,hc,oN,h4]
 obtain⟨k,m,nm,s,g,e⟩:=n
 simp only at hk e2 e3 e4 hn hl h2
 subst hk;subst e2;subst e3;subst e4;subst hn
 congr 2
 omega
abbrev nL(l:List (List UInt8)):Prop:=l.Pairwise λx y=>Op.bytesLess x y=true
theorem O3:∀ps:List Vl,jo 6 ps=true↔(∀p∈ps,utf (nameOf p)=true)∧nL (ps.map nameOf)
 | []=>by simp[jo,nL]
 | [p]=>by simp[jo,nL]
 | p::q::ps=>by
  have ih:=O3 (q::ps)
  have e:jo 6 (p::q::ps)=(utf (nameOf p) && Op.bytesLess (nameOf p) (nameOf q) && jo 6 (q::ps)):=by
   rw[jo];simp
  rw[e,Bool.and_eq_true,Bool.and_eq_true,ih]
  constructor
  ·rintro⟨⟨h1,h2⟩,h3,h4⟩
   refine⟨?_,?_⟩
   ·intro x hx
    rcases mem_cons.1 hx with rfl | hx
    ·exact h1
    ·exact h3 x hx
   ·rw[map_cons]
    refine List.pairwise_cons.2 ⟨λx hx=>?_,h4⟩
    rw[map_cons]at hx h4
    rcases mem_cons.1 hx with rfl | hx
    ·exact h2
    ·exact lZ _ _ _ h2 ((List.pairwise_cons.1 h4).1 x hx)
  ·rintro⟨h1,h2⟩
   rw[map_cons]at h2
   obtain⟨h3,h4⟩:=List.pairwise_cons.1 h2
   exact⟨⟨h1 p (by simp),h3 _ (by simp)⟩,λx hx=>h1 x (mem_cons_of_mem _ hx),h4⟩
def j_(nm:List UInt8):Vl→Vl
 | []=>[]
 | n::r=>{ n with name:=nm }::r
theorem Cs(nm:List UInt8)(v:Vl):gX (j_ nm v)=gX v:=by cases v<;>rfl
theorem AO(nm:List UInt8)(v:Vl):(j_ nm v).length=v.length:=by cases v<;>rfl
theorem sF(nm:List UInt8){v:Vl}(h:v≠[]):nameOf (j_ nm v)=nm:=by
 cases v with
 | nil=>exact absurd rfl h
 | cons n r=>rfl
theorem Sv(v:Vl):j_ (nameOf v) (gX v)=v:=by cases v<;>rfl
theorem One.j_ {v:Vl}(h:One v)(nm:List UInt8):One (Lp.j_ nm v):=One.MI (by rw[Cs];exact h.gX)
theorem Good.j_ {v:Vl}(h:Good v)(nm:List UInt8):Good (Lp.j_ nm v):=Good.MI (by rw[Cs];exact h.gX)
abbrev mK:=List (List UInt8×Vl)
def Qa(names:List (List UInt8))(l:List Vl):Vl:=⟨6,l.length,[],[],false,0⟩::(List.zipWith j_ names l).flatten
def JL(l:mK):Vl:=⟨6,l.length,[],[],false,0⟩::(l.map λx=>j_ x.1 x.2).flatten
theorem JM:∀l:mK,Qa (l.map (·.1)) (l.map (·.2))=JL l:=by
 intro l
 have:List.zipWith j_ (l.map (·.1)) (l.map (·.2))=l.map λx=>j_ x.1 x.2:=by
  induction l with
  | nil=>rfl
  | cons x l ih=>simp only[map_cons,List.zipWith_cons_cons,ih]
 simp only[Qa,JL,this,length_map]
def jq(v:Vl):mK:=(aS v).zip (aD v)
structure mV (l:mK):Prop where
 rise:nL (l.map (·.1))
 utf:∀x∈l,utf x.1=true
 rt:∀x∈l,Rt x.2
theorem Sw{l:mK}(h:mV l):Rt (JL l):=by
 refine Rt.made (n:=⟨6,l.length,[],[],false,0⟩) (by simp[bE]) (by simp) rfl ?_ ?_
 ·show jo 6 _=true
  rw[O3]
  have e:(l.map λx=>j_ x.1 x.2).map nameOf=l.map (·.1):=by
   rw[map_map]
   exact map_congr_left λx hx=>sF _ (h.rt x hx).one.ne
  refine⟨λp hp=>?_,by rw[e];exact h.rise⟩
  obtain⟨x,hx,rfl⟩:=List.mem_map.1 hp
  rw[sF _ (h.rt x hx).one.ne]
  exact h.utf x hx
 ·intro p hp
  obtain⟨x,hx,rfl⟩:=List.mem_map.1 hp
  exact⟨(h.rt x hx).one.j_ _,(h.rt x hx).good.j_ _⟩
theorem Qb{l:mK}(h:∀x∈l,Rt x.2):aD (JL l)=l.map (·.2)∧aS (JL l)=l.map (·.1):=by
 have hp:parts (l.length:Int).toNat (l.map λx=>j_ x.1 x.2).flatten=some (l.map λx=>j_ x.1 x.2):=by
  have:=jC (l.map λx=>j_ x.1 x.2) λp hp=>by
   obtain⟨x,hx,rfl⟩:=List.mem_map.1 hp
   exact (h x hx).one.j_ _
  rw[length_map]at this
  rw[Int.toNat_natCast];exact this
 obtain⟨e1,e2⟩:=dI (n:=⟨6,l.length,[],[],false,0⟩) hp
 refine⟨?_,?_⟩
 ·simp only[JL,aD,e1,map_map]
  exact map_congr_left λx hx=>by simp only[Function.comp];rw[Cs,Sq (h x hx).name]
 ·simp only[JL,aS,if_true,e2,map_map]
  exact map_congr_left λx hx=>sF _ (h x hx).one.ne
theorem xW:∀l:mK,(l.map (·.1)).zip (l.map (·.2))=l
 | []=>rfl
 | x::l=>by simp[xW l]
theorem O4{l:mK}(h:∀x∈l,Rt x.2):jq (JL l)=l:=by
 obtain⟨h1,h2⟩:=Qb h
 rw[jq,h1,h2,xW]
theorem xX:∀ps:List Vl,(ps.map nameOf).zip (ps.map gX)=ps.map λp=>(nameOf p,gX p)
 | []=>rfl
 | p::ps=>by simp[xX ps]
theorem XV{n:Nd}{r:Vl}(h:Rt (n::r))(hk:n.kind=6):mV (jq (n::r))∧JL (jq (n::r))=n::r∧aS (n::r)=(jq (n::r)).map (·.1)∧aD (n::r)=(jq (n::r)).map (·.2):=by
 obtain⟨h1,h2,ps,h3,h4,h5,h6,h7⟩:=h.parts
 obtain⟨_,e2,e3,e4⟩:=pY h1 (.inr hk)
 have hn:n.name=[]:=h.name
 obtain⟨q1,q2⟩:=dI h3
 have en:aS (n::r)=ps.map nameOf:=by simp only[aS,hk,if_true,q2]
 have ep:aD (n::r)=ps.map gX:=by simp only[aD,q1]
 have Zb:jq (n::r)=ps.map λp=>(nameOf p,gX p):=by
  rw[jq,en,ep]
  exact xX ps
 rw[hk]at h5
 obtain⟨u1,u2⟩:=(O3 ps).1 h5
 have hl:=dS _ _ _ h3
 refine⟨⟨?_,?_,?_⟩,?_,?_,?_⟩
 ·rw[Zb,map_map];exact u2
 ·rw[Zb];intro x hx
  obtain⟨p,hp,rfl⟩:=List.mem_map.1 hx
  exact u1 p hp
 ·rw[Zb];intro x hx
  obtain⟨p,hp,rfl⟩:=List.mem_map.1 hx
  exact h7 p hp
 ·rw[Zb,JL,map_map,length_map]
  have:ps.map ((λx:List UInt8×Vl=>j_ x.1 x.2) ∘ λp=>(nameOf p,gX p))=ps:=by
   conv=>rhs;rw[←List.map_id ps]
   exact map_congr_left λp _=>Sv p
  rw[this,h4]
  obtain⟨k,m,nm,s,g,e⟩:=n
  simp only at hk e2 e3 e4 hn hl h2
  subst hk;subst e2;subst e3;subst e4;subst hn
  congr 2
  omega
 ·rw[en,Zb,map_map];rfl
 ·rw[ep,Zb,map_map];rfl
theorem Ct:∀a b:mK,nL (a.map (·.1))→nL (b.map (·.1))→(∀x,x∈a↔x∈b)→a=b
 | [],[],_,_,_=>rfl
 | [],y::b,_,_,h=>by have:=(h y).2 (by simp);cases this
 | x::a,[],_,_,h=>by have:=(h x).1 (by simp);cases this
 | x::a,y::b,ha,hb,h=>by
  rw[map_cons]at ha hb
  obtain⟨a1,a2⟩:=List.pairwise_cons.1 ha
  obtain⟨b1,b2⟩:=List.pairwise_cons.1 hb
  have hxy:x=y:=by
   rcases mem_cons.1 ((h x).1 (by simp)) with e | hx
   ·exact e
   ·rcases mem_cons.1 ((h y).2 (by simp)) with e | hy
    ·exact e.symm
    ·have g1:=b1 x.1 (List.mem_map.2 ⟨x,hx,rfl⟩)
     have g2:=a1 y.1 (List.mem_map.2 ⟨y,hy,rfl⟩)
     rw[JI _ _ g1]at g2;cases g2
  subst hxy
  have hno:∀c:mK,(∀z∈c.map (·.1),Op.bytesLess x.1 z=true)→x ∉ c:=λc hc hx=>by
   have:=hc x.1 (List.mem_map.2 ⟨x,hx,rfl⟩)
   rw[nk]at this;cases this
  have:a=b:=Ct a b a2 b2 λz=>by
   have hz:=h z
   simp only[mem_cons]at hz
   constructor
   ·intro hza
    rcases hz.1 (.inr hza) with rfl | hzb
    ·exact absurd hza (hno a a1)
    ·exact hzb
   ·intro hzb
    rcases hz.2 (.inr hzb) with rfl | hza
    ·exact absurd hzb (hno b b1)
    ·exact hza
  rw[this]
theorem nM{l:List (List UInt8)}(h:nL l):l.Nodup:=by
 refine h.imp λ{a b} hab e=>?_
 subst e
 rw[nk]at hab;cases hab
def kg(l:mK)(nm:List UInt8):Option Vl:=(l.find? λx=>decide (x.1=nm)).map (·.2)
def jL(l:mK)(nm:List UInt8):mK:=l.filter λx=>!decide (x.1=nm)
def oH(nm:List UInt8)(x:Vl):mK→mK
 | []=>[(nm,x)]
 | y::ys=>if Op.bytesLess y.1 nm then y::oH nm x ys else (nm,x)::y::ys
theorem nN(nm:List UInt8)(x:Vl):∀(l:mK) (z:List UInt8×Vl),z∈oH nm x l↔z=(nm,x)∨z∈l
 | [],z=>by simp[oH]
 | y::ys,z=>by
  rw[oH]
  split
  ·rw[mem_cons,nN nm x ys z,mem_cons]
   constructor
   ·rintro (h | h | h)
    ·exact .inr (.inl h)
    ·exact .inl h
    ·exact .inr (.inr h)
   ·rintro (h | h | h)
    ·exact .inr (.inl h)
    ·exact .inl h
    ·exact .inr (.inr h)
  ·rw[mem_cons]
theorem uO(nm:List UInt8)(x:Vl):∀l:mK,nL (l.map (·.1))→nm ∉ l.map (·.1)→nL ((oH nm x l).map (·.1))
 | [],_,_=>by simp[oH,nL]
 | y::ys,h,hn=>by
  rw[map_cons]at h hn
  obtain⟨h1,h2⟩:=List.pairwise_cons.1 h
  rw[mem_cons]at hn
  rw[oH]
  split
  ·rename_i hlt
   rw[map_cons]
   refine List.pairwise_cons.2 ⟨λz hz=>?_,uO nm x ys h2 λh=>hn (.inr h)⟩
   obtain⟨w,hw,rfl⟩:=List.mem_map.1 hz
   rcases (nN nm x ys w).1 hw with rfl | hw
   ·exact hlt
   ·exact h1 _ (List.mem_map.2 ⟨w,hw,rfl⟩)
  ·rename_i hlt
   have hlt2:Op.bytesLess nm y.1=true:=by
    rcases Ho nm y.1 with h | h | h
    ·exact h
    ·exact absurd (.inl h) hn
    ·exact absurd h hlt
   rw[map_cons,map_cons]
   refine List.pairwise_cons.2 ⟨λz hz=>?_,h⟩
   rcases mem_cons.1 hz with rfl | hz
   ·exact hlt2
   ·exact lZ _ _ _ hlt2 (h1 z hz)
theorem O5{nm:List UInt8}{x:Vl}{l:mK}(h:mV l)(hn:nm ∉ l.map (·.1))(hu:utf nm=true)(hx:Rt x):mV (oH nm x l):=by
 refine⟨uO nm x l h.rise hn,λz hz=>?_,λz hz=>?_⟩
 ·rcases (nN nm x l z).1 hz with rfl | hz
  ·exact hu
  ·exact h.utf z hz
 ·rcases (nN nm x l z).1 hz with rfl | hz
  ·exact hx
  ·exact h.rt z hz
theorem O6{l:mK}(h:mV l)(nm:List UInt8):mV (jL l nm):=by
 have hs:∀x∈jL l nm,x∈l:=λx hx=>(List.mem_filter.1 hx).1
 refine⟨?_,λx hx=>h.utf x (hs x hx),λx hx=>h.rt x (hs x hx)⟩
 exact List.Pairwise.sublist (List.Sublist.map _ List.filter_sublist) h.rise
theorem Hq(l:mK)(nm:List UInt8):nm ∉ (jL l nm).map (·.1):=by
 intro h
 obtain⟨x,hx,rfl⟩:=List.mem_map.1 h
 have:=(List.mem_filter.1 hx).2
 simp at this
theorem zJ{l:mK}{nm:List UInt8}:kg l nm=none↔nm ∉ l.map (·.1):=by
 unfold kg
 rw[Option.map_eq_none_iff,List.find?_eq_none]
 constructor
 ·intro h hm
  obtain⟨x,hx,rfl⟩:=List.mem_map.1 hm
  have:=h x hx
  simp at this
 ·intro h x hx
  have:x.1≠nm:=λe=>h (List.mem_map.2 ⟨x,hx,e⟩)
  simp[this]
theorem nu{l:mK}{nm:List UInt8}{x:Vl}(h:kg l nm=some x):(nm,x)∈l:=by
 unfold kg at h
 cases hf:l.find? λx=>decide (x.1=nm) with
 | none=>rw[hf]at h;cases h
 | some y=>
  rw[hf]at h
  simp only[Option.map_some,Option.some.injEq]at h
  have h1:=List.mem_of_find?_eq_some hf
  have h2:=List.find?_some hf
  simp only[decide_eq_true_eq]at h2
  rw[←h,←h2];exact h1
theorem JN{l:mK}{nm:List UInt8}{x:Vl}(hr:(l.map (·.1)).Nodup)(h:(nm,x)∈l):kg l nm=some x:=by
 cases hg:kg l nm with
 | none=>exact absurd (List.mem_map.2 ⟨_,h,rfl⟩) (zJ.1 hg)
 | some y=>
  have hy:=nu hg
  congr 1
  clear hg
  induction l with
  | nil=>cases h
  | cons z l ih=>
   rw[map_cons]at hr
   obtain⟨h1,h2⟩:=List.nodup_cons.1 hr
   rcases mem_cons.1 h with e | h
   ·rcases mem_cons.1 hy with e2 | hy
    ·rw[←e]at e2;injection e2 with _ e2
    ·rw[←e]at h1;exact absurd (List.mem_map.2 ⟨_,hy,rfl⟩) h1
   ·rcases mem_cons.1 hy with e2 | hy
    ·rw[←e2]at h1;exact absurd (List.mem_map.2 ⟨_,h,rfl⟩) h1
    ·exact ih h2 h hy
theorem xY{l:mK}{nm:List UInt8}{z:List UInt8×Vl}:z∈jL l nm↔z∈l∧z.1≠nm:=by
 unfold jL
 rw[List.mem_filter]
 simp
theorem Qc{nm:List UInt8}{x:Vl}{l:mK}(h:mV l)(hg:kg l nm=some x):oH nm x (jL l nm)=l:=by
 have hm:=nu hg
 refine Ct _ _ (uO _ _ _ (O6 h nm).rise (Hq l nm)) h.rise λz=>?_
 rw[nN,xY]
 constructor
 ·rintro (rfl | ⟨h1,_⟩)
  ·exact hm
  ·exact h1
 ·intro hz
  by_cases e:z.1=nm
  ·left
   obtain⟨z1,z2⟩:=z
   simp only at e
   subst e
   have:=JN (nM h.rise) hz
   rw[hg]at this
   cases this;rfl
  ·exact .inr ⟨hz,e⟩
def Sy(l:mK):mK:=l.foldr (λx acc=>oH x.1 x.2 acc) []
theorem JO(l:mK)(z:List UInt8×Vl):z∈Sy l↔z∈l:=by
 induction l with
 | nil=>rfl
 | cons x l ih=>
  show z∈oH x.1 x.2 (Sy l)↔_
  rw[nN,ih,mem_cons]
theorem Qd{l:mK}(h:(l.map (·.1)).Nodup):nL ((Sy l).map (·.1)):=by
 induction l with
 | nil=>exact List.Pairwise.nil
 | cons x l ih=>
  rw[map_cons]at h
  obtain⟨h1,h2⟩:=List.nodup_cons.1 h
  refine uO _ _ _ (ih h2) λhm=>h1 ?_
  obtain⟨z,hz,e⟩:=List.mem_map.1 hm
  exact List.mem_map.2 ⟨z,(JO l z).1 hz,e⟩
theorem uP(nm:List UInt8)(x:Vl):∀l:mK,(oH nm x l).Perm ((nm,x)::l)
 | []=>.refl _
 | y::ys=>by
  rw[oH]
  split
  ·exact ((uP nm x ys).cons y).trans (.swap ..)
  ·exact .refl _
theorem zK{a b:List Vl}(h:a.Perm b):a.flatten.length=b.flatten.length:=by
 rw[List.length_flatten,List.length_flatten]
 exact (h.map List.length).sum_nat
def uQ(names:List (List UInt8))(k:Nat):Bool:=decide (names.length=k) && decide names.Nodup && names.all utf
theorem sG{names:List (List UInt8)}{k:Nat}:uQ names k=true↔names.length=k∧names.Nodup∧∀x∈names,utf x=true:=by
 simp[uQ,and_assoc]
theorem JP{names:List (List UInt8)}{l:List Vl}(h:uQ names l.length=true){q:mK}(hq:nL (q.map (·.1)))(hm:∀x,x∈q↔x∈names.zip l):q=Sy (names.zip l):=by
 obtain⟨h1,h2,h3⟩:=sG.1 h
 exact Ct _ _ hq (Qd (by rw[List.map_fst_zip (by omega)];exact h2)) λx=>by rw[hm,JO]
theorem qy{n:Nd}(h:bE n=true)(hk:¬ (n.kind=5∨n.kind=6)):n.many=0:=by
 unfold bE at h
 split at h
 ·simp only[Bool.and_eq_true,beq_iff_eq]at h;exact h.1.1.1
 ·split at h
  ·exact P_ h
  ·split at h
   ·simp only[Bool.and_eq_true,beq_iff_eq]at h;exact h.1.1.2
   ·cases h
theorem eH{v p:Vl}(h:Rt v)(hp:p∈aD v):Rt p∧p.length<v.length:=by
 obtain⟨n,r,rfl,_⟩:=b_ h.name h.one.ne
 have:=JJ h p hp
 exact⟨this.2,by simp only[List.length_cons];omega⟩
end Lp
namespace Lp
open Go
open List (flatten_cons mem_cons_of_mem)
open Bool (and_eq_true)
structure xQ where
 kind:Int
 left:Int
 first:Bool
 last:List UInt8
def dM(o:xQ)(nm:List UInt8):Bool:=if o.kind=6 then utf nm && (o.first || Op.bytesLess o.last nm) else nm==[]
def Cu(L:Int):List xQ→Vl→Bool
 | s,[]=>!s.any λo=>decide (0<o.left)
 | s,n::r=>match s.dropWhile (λo=>o.left==0) with
  | []=>false
  | o::t=>bE n && decide (n.many≤L) && dM o n.name && Cu L (⟨n.kind,n.many,true,[]⟩::⟨o.kind,o.left-1,false,n.name⟩::t) r
def qz(o:xQ):List Vl→Bool
 | []=>true
 | p::ps=>dM o (nameOf p) && qz { o with first:=false,last:=nameOf p } ps
def Fit(L:Int):List xQ→Vl→Prop
 | [],v=>v=[]
 | o::t,v=>∃(ps:List Vl) (w:Vl),v=ps.flatten++w∧(ps.length:Int)=o.left∧(∀p∈ps,One p∧Good p∧∀n∈p,n.many≤L)∧qz o ps=true∧Fit L t w
theorem zM(o:xQ)(k:Int):∀ps:List Vl,qz { o with left:=k } ps=qz o ps
 | []=>rfl
 | p::ps=>by
  simp only[qz]
  rw[zM { o with first:=false,last:=nameOf p } k ps];rfl
theorem WJ:∀(o:xQ) (ps:List Vl),o.kind=6→(qz o ps=true↔(∀p∈ps,utf (nameOf p)=true)∧nL (ps.map nameOf)∧(o.first=false→∀p∈ps,Op.bytesLess o.last (nameOf p)=true))
 | o,[],_=>by simp[qz,nL]
 | o,p::ps,hk=>by
  have ih:=WJ { o with first:=false,last:=nameOf p } ps hk
  have e:qz o (p::ps)=((utf (nameOf p) && (o.first || Op.bytesLess o.last (nameOf p))) && qz { o with first:=false,last:=nameOf p } ps):=by
   simp only[qz,dM,hk,if_true]
  rw[e,and_eq_true,and_eq_true,Bool.or_eq_true,ih]
  simp only[forall_const]
  constructor
  ·rintro⟨⟨h1,h2⟩,h3,h4,h5⟩
   refine⟨λx hx=>?_,?_,λhf x hx=>?_⟩
   ·rcases List.mem_cons.1 hx with rfl | hx
    ·exact h1
    ·exact h3 x hx
   ·rw[List.map_cons]
    refine List.pairwise_cons.2 ⟨λx hx=>?_,h4⟩
    obtain⟨q,hq,rfl⟩:=List.mem_map.1 hx
    exact h5 q hq
   ·have h2':=h2.resolve_left (by rw[hf];simp)
    rcases List.mem_cons.1 hx with rfl | hx
    ·exact h2'
    ·exact lZ _ _ _ h2' (h5 x hx)
  ·rintro⟨h1,h2,h3⟩
   rw[List.map_cons]at h2
   obtain⟨h4,h5⟩:=List.pairwise_cons.1 h2
   refine⟨⟨h1 p (by simp),?_⟩,λx hx=>h1 x (mem_cons_of_mem _ hx),h5,λx hx=>h4 _ (List.mem_map.2 ⟨x,hx,rfl⟩)⟩
   cases hf:o.first with
   | true=>exact .inl rfl
   | false=>exact .inr (h3 hf p (by simp))
theorem qA:∀(o:xQ) (ps:List Vl),o.kind≠6→(qz o ps=true↔∀p∈ps,nameOf p=[])
 | o,[],_=>by simp[qz]
 | o,p::ps,hk=>by
  have ih:=qA { o with first:=false,last:=nameOf p } ps hk
  have e:qz o (p::ps)=((nameOf p==[]) && qz { o with first:=false,last:=nameOf p } ps):=by
   simp only[qz,dM,hk,if_false]
  rw[e,and_eq_true,ih]
  simp
theorem FQ{n:Nd}{ps:List Vl}(hp:bE n=true)(hl:n.many=ps.length)(m:Int):qz ⟨n.kind,m,true,[]⟩ ps=jo n.kind ps:=by
 rw[Bool.eq_iff_iff]
 by_cases h6:n.kind=6
 ·rw[WJ _ _ h6,h6,O3];simp
 by_cases h5:n.kind=5
 ·rw[qA _ _ h6,h5]
  refine⟨Sr ps,λh=>?_⟩
  have:=Cq ps h
  intro p hp
  obtain⟨i,hi,rfl⟩:=List.mem_iff_getElem.1 hp
  have:=congrArg (λl=>l[i]?) this
  simpa[hi] using this
 ·have:=qy hp (by omega)
  have:ps=[]:=List.eq_nil_of_length_eq_zero (by omega)
  subst this
  simp[qz,jo]
theorem JQ{L:Int}{o:xQ}{t:List xQ}{v:Vl}(h:o.left=0):Fit L (o::t) v↔Fit L t v:=by
 constructor
 ·rintro⟨ps,w,rfl,hl,_,_,hw⟩
  have:ps=[]:=List.eq_nil_of_length_eq_zero (by omega)
  subst this
  simpa using hw
 ·intro hw
  exact⟨[],v,by simp,by simp[h],by simp,rfl,hw⟩
theorem fit_drop{L:Int}{v:Vl}:∀s:List xQ,Fit L s v↔Fit L (s.dropWhile λo=>o.left==0) v
 | []=>Iff.rfl
 | o::t=>by
  by_cases h:o.left=0
  ·rw[List.dropWhile_cons_of_pos (by simpa using h),←fit_drop t,JQ h]
  ·rw[List.dropWhile_cons_of_neg (by simpa using h)]
theorem O7{L:Int}:∀s:List xQ,(∀o∈s,0≤o.left)→(Fit L s []↔∀o∈s,o.left=0)
 | [],_=>by simp[Fit]
 | o::t,h=>by
  have ih:=O7 (L:=L) t λx hx=>h x (mem_cons_of_mem _ hx)
  constructor
  ·rintro⟨ps,w,he,hl,hp,_,hw⟩
   have he':=he.symm
   rw[List.append_eq_nil_iff]at he'
   obtain⟨e1,rfl⟩:=he'
   have hps:ps=[]:=by
    cases ps with
    | nil=>rfl
    | cons p ps=>
     rw[flatten_cons,List.append_eq_nil_iff]at e1
     exact absurd e1.1 (hp p (by simp)).1.ne
   subst hps
   intro x hx
   rcases List.mem_cons.1 hx with rfl | hx
   ·simpa using hl.symm
   ·exact ih.1 hw x hx
  ·intro hz
   rw[JQ (hz o (by simp)),ih]
   exact λx hx=>hz x (mem_cons_of_mem _ hx)
theorem Sz{L:Int}{o:xQ}{t:List xQ}{n:Nd}{r:Vl}(h0:0≤o.left)(h1:o.left≠0) :
  Fit L (o::t) (n::r)↔bE n=true∧n.many≤L∧dM o n.name=true∧Fit L (⟨n.kind,n.many,true,[]⟩::⟨o.kind,o.left-1,false,n.name⟩::t) r:=by
 constructor
 ·rintro⟨ps,w,he,hl,hp,hr,hw⟩
  cases ps with
  | nil=>simp only[List.length_nil]at hl;omega
  | cons p ps=>
   obtain⟨ho,hg,hm⟩:=hp p (by simp)
   cases p with
   | nil=>exact absurd rfl ho.ne
   | cons n' q=>
    simp only[flatten_cons,List.cons_append,List.cons.injEq]at he
    obtain⟨rfl,rfl⟩:=he
    obtain⟨hm0,qs,hq,hqf,hqo⟩:=ho.parts
    obtain⟨hpl,qs',hq',hrb⟩:=hg 0 n q rfl
    rw[hq]at hq'
    cases hq'
    have MK:=dS _ _ _ hq
    have hgq:Good qs.flatten:=by rw[hqf];exact (show Good ([n]++q) from hg).Za
    simp only[qz,and_eq_true]at hr
    refine⟨hpl,hm n (by simp),hr.1,qs,ps.flatten++w,by rw[hqf,List.append_assoc],by show (qs.length:Int)=n.many;omega,λx hx=>⟨hqo x hx,Good.lC qs hqo hgq x hx,λy hy=>hm y ?_⟩,?_,ps,w,rfl,?_,λx hx=>hp x (mem_cons_of_mem _ hx),?_,hw⟩
    ·rw[←hqf]
     exact mem_cons_of_mem _ (List.mem_flatten.2 ⟨x,hx,hy⟩)
    ·rw[FQ hpl (by omega)];exact hrb
    ·show (ps.length:Int)=o.left-1
     simp only[List.length_cons]at hl;omega
    ·have:=hr.2
     rw[←zM _ (o.left-1)]at this
     exact this
 ·rintro⟨hpl,hm,hn,qs,w1,rfl,MK,Zc,hqr,ps,w,rfl,hl,hp,hr,hw⟩
  have hrb:jo n.kind qs=true:=by rw[←FQ hpl (by simp only at MK;omega)];exact hqr
  refine⟨(n::qs.flatten)::ps,w,by simp,?_,λx hx=>?_,?_,hw⟩
  ·simp only[List.length_cons]at hl ⊢;omega
  ·rcases List.mem_cons.1 hx with rfl | hx
   ·refine⟨One.made (by simp only at MK;omega) λp hp=>(Zc p hp).1,Good.made hpl (by simp only at MK;omega) hrb λp hp=>⟨(Zc p hp).1,(Zc p hp).2.1⟩,λy hy=>?_⟩
    rcases List.mem_cons.1 hy with rfl | hy
    ·exact hm
    ·obtain⟨q,hq,hyq⟩:=List.mem_flatten.1 hy
     exact (Zc q hq).2.2 y hyq
   ·exact hp x hx
  ·simp only[qz,and_eq_true]
   refine⟨hn,?_⟩
   have:=hr
   rw[←zM _ o.left]at this
   exact this
theorem Cv(L:Int):∀(v:Vl) (s:List xQ),(∀o∈s,0≤o.left)→(Cu L s v=true↔Fit L s v)
 | [],s,h=>by
  rw[O7 s h]
  simp only[Cu,Bool.not_eq_true',List.any_eq_false,decide_eq_true_eq]
  constructor
  ·intro g o ho
   have:=g o ho
   have:=h o ho
   omega
  ·intro g o ho
   have:=g o ho
   omega
 | n::r,s,h=>by
  rw[fit_drop s]
  have hd:∀o∈s.dropWhile (λo=>o.left==0),0≤o.left:=λo ho=>h o ((List.dropWhile_sublist _).subset ho)
  have hh:∀o t,s.dropWhile (λo=>o.left==0)=o::t→o.left≠0:=λo t e=>by
   have:=List.head?_dropWhile_not (λo:xQ=>o.left==0) s
   rw[e]at this
   simpa using this
  rw[Cu]
  generalize s.dropWhile (λo=>o.left==0)=s' at hd hh
  cases s' with
  | nil=>simp[Fit]
  | cons o t=>
   simp only
   have h0:=hd o (by simp)
   have h1:=hh o t rfl
   rw[Sz h0 h1]
   simp only[and_eq_true,decide_eq_true_eq,and_assoc]
   constructor
   ·rintro⟨g1,g2,g3,g4⟩
    refine⟨g1,g2,g3,(Cv L r _ ?_).1 g4⟩
    have hm:0≤n.many:=by
     by_cases hk:n.kind=5∨n.kind=6
     ·exact (pY g1 hk).1
     ·rw[qy g1 hk];exact Int.le_refl 0
    intro x hx
    rcases List.mem_cons.1 hx with rfl | hx
    ·exact hm
    ·rcases List.mem_cons.1 hx with rfl | hx
     ·simp only;omega
     ·exact hd x (mem_cons_of_mem _ hx)
   ·rintro⟨g1,g2,g3,g4⟩
    refine⟨g1,g2,g3,(Cv L r _ ?_).2 g4⟩
    have hm:0≤n.many:=by
     by_cases hk:n.kind=5∨n.kind=6
     ·exact (pY g1 hk).1
     ·rw[qy g1 hk];exact Int.le_refl 0
    intro x hx
    rcases List.mem_cons.1 hx with rfl | hx
    ·exact hm
    ·rcases List.mem_cons.1 hx with rfl | hx
     ·simp only;omega
     ·exact hd x (mem_cons_of_mem _ hx)
theorem One.U8 {v:Vl}(h:One v):∀n∈v,n.many≤(v.length:Int):=by
 intro n hn
 obtain⟨i,hi,rfl⟩:=List.mem_iff_getElem.1 hn
 obtain⟨h0,ps,hp⟩:=h.BO hi
 have:=jB _ _ _ hp
 simp only[List.length_drop]at this
 omega
theorem ML(v:Vl):Cu v.length [⟨5,1,false,[]⟩] v=bK v:=by
 rw[Bool.eq_iff_iff,Cv _ _ _ (by simp),MH]
 constructor
 ·rintro⟨ps,w,rfl,hl,hp,hr,hw⟩
  simp only[Fit]at hw
  subst hw
  match ps,hl with
  | [p],_=>
   obtain⟨h1,h2,_⟩:=hp p (by simp)
   rw[qA _ _ (by decide)]at hr
   simp only[flatten_cons,List.flatten_nil,List.append_nil]
   exact⟨h1,hr p (by simp),h2⟩
  | [],hl=>simp at hl
  | _::_::_,hl=>simp at hl;omega
 ·intro h
  refine⟨[v],[],by simp,by simp,λp hp=>?_,?_,rfl⟩
  ·simp only[List.mem_singleton]at hp
   subst hp
   exact⟨h.one,h.good,h.one.U8⟩
  ·rw[qA _ _ (by decide)]
   simp[h.name]
end Lp
namespace Lp
open Go
structure Atm where
 n:Int
 c:Nd
 deriving DecidableEq
def Zz(n:Nd):Bool:=decide (n.kind<5) && bK [n]
def XW(a:Atm):Bool:=decide (0≤a.n) && decide (a.n≤5) && Zz a.c
end Lp
namespace Lp
open Go Go.Lib
def FR:Nd:=⟨0,0,[],[],false,0⟩
end Lp
namespace Lp
open Go
open List (flatten_cons length_cons)
open Option (map_some)
structure Bz where
 kind:Int
 many:Int
 name:List UInt8
 s:List UInt8
 n:Int
 c:Nd
 deriving DecidableEq
abbrev gJ:=List Bz
namespace Y
def skip:gJ→Nat→Option Nat
 | _,0=>some 0
 | [],_+1=>none
 | n::v,k+1=>if n.many<0 then none else (skip v (k+n.many.toNat)).map (·+1)
theorem iB:∀(v:gJ) (k c:Nat),skip v k=some c→k≤c∧c≤v.length
 | v,0,c,h=>by cases v<;>simp[skip]at h<;>subst h<;>simp
 | [],k+1,c,h=>by simp[skip]at h
 | n::v,k+1,c,h=>by
  simp only[skip]at h
  split at h
  ·cases h
  ·cases hs:skip v (k+n.many.toNat) with
   | none=>rw[hs]at h;simp at h
   | some c'=>
    rw[hs]at h
    simp only[map_some,Option.some.injEq]at h
    obtain⟨h1,h2⟩:=iB v _ c' hs
    simp only[length_cons]
    omega
theorem dw{n:Bz}{v:gJ}{k c:Nat}(h:skip (n::v) (k+1)=some c):0≤n.many∧∃c',c=c'+1∧skip v (k+n.many.toNat)=some c':=by
 simp only[skip]at h
 split at h
 ·cases h
 ·cases hs:skip v (k+n.many.toNat) with
  | none=>rw[hs]at h;simp at h
  | some c'=>
   rw[hs]at h
   simp only[map_some,Option.some.injEq]at h
   exact⟨by omega,c',h.symm,rfl⟩
def parts:Nat→gJ→Option (List gJ)
 | 0,_=>some []
 | k+1,v=>match skip v 1 with
  | some c=>(parts k (v.drop c)).map (v.take c::·)
  | none=>none
theorem dS:∀(k:Nat) (v:gJ) (ps:List gJ),parts k v=some ps→ps.length=k
 | 0,v,ps,h=>by simp[parts]at h;subst h;rfl
 | k+1,v,ps,h=>by
  simp only[parts]at h
  split at h
  ·rename_i c _
   cases hp:parts k (v.drop c) with
   | none=>rw[hp]at h;simp at h
   | some qs=>
    rw[hp]at h
    simp only[map_some,Option.some.injEq]at h
    subst h
    simp[dS k _ qs hp]
  ·cases h
theorem iL{k:Nat}{v:gJ}{ps:List gJ}(h:parts (k+1) v=some ps):∃c qs,skip v 1=some c∧ps=v.take c::qs∧parts k (v.drop c)=some qs:=by
 simp only[parts]at h
 split at h
 ·rename_i c hc
  cases hp:parts k (v.drop c) with
  | none=>rw[hp]at h;simp at h
  | some qs=>
   rw[hp]at h
   simp only[map_some,Option.some.injEq]at h
   exact⟨c,qs,hc,h.symm,hp⟩
 ·cases h
theorem jB:∀(k:Nat) (v:gJ) (ps:List gJ),parts k v=some ps→k≤v.length
 | 0,_,_,_=>Nat.zero_le _
 | k+1,v,ps,h=>by
  obtain⟨c,qs,h1,_,h3⟩:=iL h
  have:=iB _ _ _ h1
  have:=jB k _ qs h3
  simp only[List.length_drop]at this
  omega
def gX:gJ→gJ
 | []=>[]
 | n::r=>{ n with name:=[] }::r
def nameOf:gJ→List UInt8
 | []=>[]
 | n::_=>n.name
theorem nK:∀(v:gJ) (j k c:Nat),skip v (j+k)=some c→∃c1 c2,skip v j=some c1∧skip (v.drop c1) k=some c2∧c=c1+c2
 | v,0,k,c,h=>⟨0,c,by cases v<;>simp[skip],by simpa using h,by simp⟩
 | [],j+1,k,c,h=>by
  have:j+1+k=(j+k)+1:=by omega
  rw[this]at h
  simp[skip]at h
 | n::v,j+1,k,c,h=>by
  have e:j+1+k=(j+k)+1:=by omega
  rw[e]at h
  obtain⟨hm,c',rfl,h'⟩:=dw h
  have e2:j+k+n.many.toNat=(j+n.many.toNat)+k:=by omega
  rw[e2]at h'
  obtain⟨c1,c2,h1,h2,rfl⟩:=nK v _ k c' h'
  refine⟨c1+1,c2,?_,?_,by omega⟩
  ·simp only[skip]
   rw[if_neg (by omega),h1];rfl
  ·simpa using h2
theorem pV:∀(v:gJ) (j k c1 c2:Nat),skip v j=some c1→skip (v.drop c1) k=some c2→skip v (j+k)=some (c1+c2)
 | v,0,k,c1,c2,h,h2=>by
  have:c1=0:=by cases v<;>simp[skip]at h<;>exact h.symm
  subst this
  simpa using h2
 | [],j+1,k,c1,c2,h,h2=>by simp[skip]at h
 | n::v,j+1,k,c1,c2,h,h2=>by
  obtain⟨hm,c',rfl,h'⟩:=dw h
  have e:j+1+k=(j+k)+1:=by omega
  rw[e]
  simp only[skip]
  have e2:j+k+n.many.toNat=(j+n.many.toNat)+k:=by omega
  rw[if_neg (by omega),e2,pV v _ k c' c2 h' (by simpa using h2)]
  simp only[map_some,Option.some.injEq]
  omega
theorem pW:∀(v:gJ) (k c:Nat),skip v k=some c→skip (v.take c) k=some c
 | v,0,c,h=>by
  have:c=0:=by cases v<;>simp[skip]at h<;>exact h.symm
  subst this
  simp[skip]
 | [],k+1,c,h=>by simp[skip]at h
 | n::v,k+1,c,h=>by
  obtain⟨hm,c',rfl,h'⟩:=dw h
  simp only[List.take_succ_cons,skip]
  rw[if_neg (by omega),pW v _ c' h'];rfl
theorem fG:∀(v w:gJ) (k c:Nat),skip v k=some c→skip (v++w) k=some c
 | v,w,0,c,h=>by
  have:c=0:=by cases v<;>simp[skip]at h<;>exact h.symm
  subst this
  cases v<;>cases w<;>simp[skip]
 | [],w,k+1,c,h=>by simp[skip]at h
 | n::v,w,k+1,c,h=>by
  obtain⟨hm,c',rfl,h'⟩:=dw h
  simp only[List.cons_append,skip]
  rw[if_neg (by omega),fG v w _ c' h'];rfl
theorem xU(v:gJ)(k:Nat):skip (gX v) k=skip v k:=by
 cases v with
 | nil=>rfl
 | cons n r=>cases k<;>rfl
theorem jK(v:gJ):(gX v).length=v.length:=by cases v<;>rfl
def One(v:gJ):Prop:=skip v 1=some v.length
theorem One.gX {v:gJ}(h:One v):One (gX v):=by
 unfold One at *
 rw[xU,jK,h]
theorem One.ne {v:gJ}(h:One v):v≠[]:=by
 rintro rfl
 simp[One,skip]at h
theorem eu:∀(k:Nat) (v:gJ) (c:Nat),skip v k=some c→∃ps,parts k v=some ps∧ps.flatten=v.take c∧∀p∈ps,One p
 | 0,v,c,h=>by
  have:c=0:=by cases v<;>simp[skip]at h<;>exact h.symm
  subst this
  exact⟨[],rfl,by simp,by simp⟩
 | k+1,v,c,h=>by
  have e:k+1=1+k:=by omega
  rw[e]at h
  obtain⟨c1,c2,h1,h2,rfl⟩:=nK v 1 k c h
  obtain⟨ps,hp,hf,ho⟩:=eu k _ c2 h2
  refine⟨v.take c1::ps,by simp[parts,h1,hp],?_,?_⟩
  ·rw[flatten_cons,hf,List.take_add]
  ·intro p hpm
   rcases List.mem_cons.1 hpm with rfl | hpm
   ·have:=pW _ _ _ h1
    have hl:=iB _ _ _ h1
    unfold One
    rw[this,List.length_take]
    congr 1;omega
   ·exact ho p hpm
theorem jC:∀(ps:List gJ),(∀p∈ps,One p)→parts ps.length ps.flatten=some ps
 | [],_=>rfl
 | p::ps,h=>by
  have h1:skip (p++ps.flatten) 1=some p.length:=fG _ _ _ _ (h p (List.mem_cons_self ..))
  have h2:=jC ps λq hq=>h q (List.mem_cons_of_mem _ hq)
  simp only[length_cons,flatten_cons,parts,h1]
  rw[List.drop_left,h2,List.take_left];rfl
theorem kF:∀(ps:List gJ),(∀p∈ps,One p)→skip ps.flatten ps.length=some ps.flatten.length
 | [],_=>rfl
 | p::ps,h=>by
  have h1:skip (p++ps.flatten) 1=some p.length:=fG _ _ _ _ (h p (List.mem_cons_self ..))
  have h2:=kF ps λq hq=>h q (List.mem_cons_of_mem _ hq)
  have:=pV (p++ps.flatten) 1 ps.length p.length ps.flatten.length h1 (by rw[List.drop_left];exact h2)
  simp only[length_cons,flatten_cons,List.length_append]
  rw[Nat.add_comm];exact this
theorem One.parts {n:Bz}{r:gJ}(h:One (n::r)):0≤n.many∧∃ps,parts n.many.toNat r=some ps∧ps.flatten=r∧∀p∈ps,One p:=by
 obtain⟨hm,c',hc,h'⟩:=dw (k:=0) h
 simp only[length_cons,Nat.add_right_cancel_iff]at hc
 subst hc
 rw[Nat.zero_add]at h'
 obtain⟨ps,h1,h2,h3⟩:=eu _ _ _ h'
 exact⟨hm,ps,h1,by rw[h2,List.take_length],h3⟩
theorem One.made {n:Bz}{ps:List gJ}(hn:n.many=ps.length)(h:∀p∈ps,One p):One (n::ps.flatten):=by
 unfold One
 simp only[skip,Nat.zero_add]
 rw[if_neg (by omega),hn,Int.toNat_natCast,kF ps h];rfl
theorem rV{ps:List gJ}{p:gJ}(h:p∈ps):p.length≤ps.flatten.length:=by
 induction ps with
 | nil=>cases h
 | cons q qs ih=>
  rcases List.mem_cons.1 h with rfl | h
  ·simp
  ·have:=ih h
   simp only[flatten_cons,List.length_append]
   omega
theorem pX:∀(v:gJ) (k c i:Nat),skip v k=some c→i<c→∃k' c',skip (v.drop i) (k'+1)=some c'
 | v,0,c,i,h,hi=>by
  have:c=0:=by cases v<;>simp[skip]at h<;>exact h.symm
  omega
 | [],k+1,c,i,h,hi=>by simp[skip]at h
 | n::v,k+1,c,0,h,hi=>⟨k,c,by simpa using h⟩
 | n::v,k+1,c,i+1,h,hi=>by
  obtain⟨hm,c',rfl,h'⟩:=dw h
  simpa using pX v _ c' i h' (by omega)
theorem One.at {v:gJ}(h:One v){i:Nat}(hi:i<v.length):∃c,skip (v.drop i) 1=some c:=by
 obtain⟨k',c',h'⟩:=pX v 1 _ i h hi
 rw[Nat.add_comm]at h'
 obtain⟨c1,_,h1,_,_⟩:=nK _ 1 k' c' h'
 exact⟨c1,h1⟩
theorem One.BO {v:gJ}(h:One v){i:Nat}(hi:i<v.length):0≤v[i].many∧∃ps,Lp.Y.parts v[i].many.toNat (v.drop (i+1))=some ps:=by
 obtain⟨c,hc⟩:=h.at hi
 rw[List.drop_eq_getElem_cons hi]at hc
 obtain⟨hm,c',rfl,h'⟩:=dw (k:=0) hc
 rw[Nat.zero_add]at h'
 obtain⟨ps,h1,_,_⟩:=eu _ _ _ h'
 exact⟨hm,ps,h1⟩
def lW(L:Nat):gJ→Nat→Option Nat
 | _,0=>some 0
 | [],_+1=>none
 | n::v,k+1=>if n.many<0∨(L:Int)<n.many then none else (lW L v (k+n.many.toNat)).map (·+1)
theorem pU(L:Nat):∀(v:gJ) (k c:Nat),lW L v k=some c→skip v k=some c
 | v,0,c,h=>by cases v<;>simpa[lW,skip] using h
 | [],k+1,c,h=>by simp[lW]at h
 | n::v,k+1,c,h=>by
  simp only[lW]at h
  split at h
  ·cases h
  ·rename_i hn
   cases hs:lW L v (k+n.many.toNat) with
   | none=>rw[hs]at h;simp at h
   | some c'=>
    rw[hs]at h
    simp only[map_some,Option.some.injEq]at h
    simp only[skip]
    rw[if_neg (by omega),pU L v _ c' hs]
    simpa using h
end Y
end Lp
namespace Lp
open Go
namespace Y
theorem gM:∀(k:Nat) (v w:gJ) (ps:List gJ),parts k v=some ps→parts k (v++w)=some ps
 | 0,_,_,_,h=>h
 | k+1,v,w,ps,h=>by
  obtain⟨c,qs,h1,rfl,h3⟩:=iL h
  have hc:=iB _ _ _ h1
  have h4:=gM k _ w qs h3
  simp only[parts,fG v w _ _ h1]
  rw[List.drop_append_of_le_length hc.2,h4,List.take_append_of_le_length hc.2];rfl
theorem xV{p w s:gJ}{m:Bz}{i:Nat}(h:p.drop i=m::s):(p++w).drop i=m::(s++w):=by
 have hi:i≤p.length:=by
  rcases Nat.le_total i p.length with h' | h'
  ·exact h'
  ·rw[List.drop_eq_nil_of_le h']at h;cases h
 rw[List.drop_append_of_le_length hi,h];rfl
def Good(Q:Bz→List gJ→Bool)(v:gJ):Prop:=∀i n r,v.drop i=n::r→∃ps,parts n.many.toNat r=some ps∧Q n ps=true
def kZ(Q:Bz→List gJ→Bool):gJ→Bool
 | []=>true
 | n::r=>(match parts n.many.toNat r with | some ps=>Q n ps | none=>false) && kZ Q r
theorem lu{Q:Bz→List gJ→Bool}:∀v:gJ,kZ Q v=true↔Good Q v
 | []=>⟨λ_ i n r h=>(by simp at h),λ_=>rfl⟩
 | m::v=>by
  constructor
  ·intro h i n r hd
   simp only[kZ,Bool.and_eq_true]at h
   obtain⟨h2,h3⟩:=h
   cases i with
   | zero=>
    simp only[List.drop_zero,List.cons.injEq]at hd
    obtain⟨rfl,rfl⟩:=hd
    cases hp:parts m.many.toNat v with
    | none=>rw[hp]at h2;cases h2
    | some ps=>rw[hp]at h2;exact⟨ps,rfl,h2⟩
   | succ i=>exact (lu v).1 h3 i n r (by simpa using hd)
  ·intro h
   obtain⟨ps,h2,h3⟩:=h 0 m v rfl
   have h4:kZ Q v=true:=(lu v).2 λi n r hd=>h (i+1) n r (by simpa using hd)
   simp[kZ,h2,h3,h4]
theorem Good.pre {Q:Bz→List gJ→Bool}{p w:gJ}(ho:One p)(h:Good Q (p++w)):Good Q p:=by
 intro i m s hd
 obtain⟨ps,h2,h3⟩:=h i m (s++w) (xV hd)
 have hi:i<p.length:=by
  rcases Nat.lt_or_ge i p.length with h' | h'
  ·exact h'
  ·rw[List.drop_eq_nil_of_le h']at hd;cases hd
 obtain⟨_,qs,hq⟩:=ho.BO hi
 have hd':=hd
 rw[List.drop_eq_getElem_cons hi]at hd'
 obtain⟨e1,e2⟩:=List.cons.inj hd'
 rw[e1,e2]at hq
 have:=gM _ _ w _ hq
 rw[h2]at this
 cases this
 exact⟨ps,hq,h3⟩
theorem Good.Za {Q:Bz→List gJ→Bool}{p w:gJ}(h:Good Q (p++w)):Good Q w:=by
 intro i m s hd
 exact h (p.length+i) m s (by rw[←List.drop_drop,List.drop_left];exact hd)
theorem Good.lC {Q:Bz→List gJ→Bool}:∀(ps:List gJ),(∀p∈ps,One p)→Good Q ps.flatten→∀p∈ps,Good Q p
 | [],_,_,p,hp=>by cases hp
 | q::qs,ho,hg,p,hp=>by
  rw[List.flatten_cons]at hg
  rcases List.mem_cons.1 hp with rfl | hp
  ·exact hg.pre (ho _ (List.mem_cons_self ..))
  ·exact Good.lC qs (λx hx=>ho x (List.mem_cons_of_mem _ hx)) hg.Za p hp
theorem Good.gX {Q:Bz→List gJ→Bool}(hQ:∀n ps,Q { n with name:=[] } ps=Q n ps){v:gJ}(h:Good Q v):Good Q (gX v):=by
 cases v with
 | nil=>exact h
 | cons n r=>
  intro i m s hd
  cases i with
  | zero=>
   simp only[Y.gX,List.drop_zero,List.cons.injEq]at hd
   obtain⟨rfl,rfl⟩:=hd
   obtain⟨ps,h1,h2⟩:=h 0 n r rfl
   exact⟨ps,h1,by rw[hQ];exact h2⟩
  | succ i=>exact h (i+1) m s hd
theorem Good.made {Q:Bz→List gJ→Bool}:∀(ps:List gJ),(∀p∈ps,One p)→(∀p∈ps,Good Q p)→Good Q ps.flatten
 | [],_,_,i,n,r,h=>by simp at h
 | q::qs,ho,hg,i,n,r,h=>by
  rw[List.flatten_cons]at h
  rcases Nat.lt_or_ge i q.length with hi | hi
  ·rw[List.drop_append_of_le_length (by omega),List.drop_eq_getElem_cons hi,List.cons_append]at h
   obtain⟨e1,e2⟩:=List.cons.inj h
   obtain⟨ps,h2,h3⟩:=hg q (List.mem_cons_self ..) i q[i] (q.drop (i+1)) (List.drop_eq_getElem_cons hi)
   rw[e1]at h2 h3
   exact⟨ps,by rw[←e2];exact gM _ _ _ _ h2,h3⟩
  ·have hd:(q++qs.flatten).drop i=qs.flatten.drop (i-q.length):=by
     rw[List.drop_append,List.drop_eq_nil_of_le hi,List.nil_append]
   rw[hd]at h
   exact Good.made qs (λx hx=>ho x (List.mem_cons_of_mem _ hx)) (λx hx=>hg x (List.mem_cons_of_mem _ hx)) _ n r h
theorem Co(v:gJ):nameOf (gX v)=[]:=by cases v<;>rfl
def kindOf:gJ→Int
 | []=>0
 | n::_=>n.kind
theorem SA(v:gJ):kindOf (gX v)=kindOf v:=by cases v<;>rfl
end Y
structure Stp where
 part:Bool
 name:List UInt8
 n:Int
 deriving DecidableEq
def Y.partsOf (n:Bz)(r:gJ):List gJ:=(Y.parts n.many.toNat r).getD []
def zN:gJ→List gJ
 | []=>[]
 | n::r=>if n.kind=1 then [] else (Y.partsOf n r).map Y.gX
def Hr:gJ→List (List UInt8)
 | []=>[]
 | n::r=>if n.kind=2 then (Y.partsOf n r).map Y.nameOf else []
def SB(pk:List UInt8→Bool)(t:Bz):Bool:=
 if t.kind=0 then t.many==0 && t.s==[] && t.n==0 && t.c==FR
 else if t.kind=1 then decide (0≤t.many) && decide (1≤t.n) && decide (t.n≤31) && t.s==[] && t.c==FR
 else if t.kind=9 then t.many==0 && t.s==[] && XW ⟨t.n,t.c⟩
 else if t.kind=2 then decide (0≤t.many) && (t.n==0 || t.n==1) && t.s==[] && t.c==FR
 else if t.kind=4 then decide (0≤t.many) && t.s==[] && t.n==0 && t.c==FR
 else if t.kind=3∨t.kind=5∨t.kind=6 then t.many==1 && t.s==[] && t.n==0 && t.c==FR
 else if t.kind=7∨t.kind=8 then t.many==1 && pk t.s && t.n==0 && t.c==FR
 else false
def XY(x:Bz)(p:gJ):Bool:=((Y.kindOf p==9)==(x.kind==1)) && (x.kind==2 || Y.nameOf p==[]) && (x.kind !=2 || utf (Y.nameOf p))
def FT:List (List UInt8)→Bool
 | []=>true
 | a::l=>(match l with | []=>true | b::_=>Op.bytesLess a b) && FT l
theorem FU:∀l:List (List UInt8),FT l=true↔nL l
 | []=>by simp[FT,nL]
 | [a]=>by simp[FT,nL]
 | a::b::l=>by
  have ih:=FU (b::l)
  rw[FT,Bool.and_eq_true,ih]
  constructor
  ·rintro⟨h1,h2⟩
   refine List.pairwise_cons.2 ⟨λx hx=>?_,h2⟩
   rcases List.mem_cons.1 hx with rfl | hx
   ·exact h1
   ·exact lZ _ _ _ h1 ((List.pairwise_cons.1 h2).1 x hx)
  ·intro h
   obtain⟨h1,h2⟩:=List.pairwise_cons.1 h
   exact⟨h1 b (by simp),h2⟩
def O8(x:Bz)(ps:List gJ):Bool:=ps.all (XY x) && (x.kind !=2 || FT (ps.map Y.nameOf))
def WK(nm:List UInt8):Nat→List gJ→Option (Nat×gJ)
 | _,[]=>none
 | o,q::qs=>if Y.nameOf q=nm then some (o,q) else WK nm (o+q.length) qs
def WL:List Stp→gJ→Option Nat
 | [],_=>some 0
 | _::_,[]=>none
 | s::p,x::r=>if x.kind=2∧s.part=false then (match WK s.name 1 (Y.partsOf x r) with | some (o,q)=>(WL p q).map (o+·) | none=>none) else none
def ZA(p:List Stp)(t:gJ):Option Nat:=match WL p t with
 | some i=>if (t[i]?.map (·.kind))=some 1 then some i else none
 | none=>none
def WM(zH:List UInt8→List Stp)(x:Bz)(ps:List gJ):Bool:=if x.kind=7∨x.kind=8 then (match ps with | [p]=>(ZA (zH x.s) p).isSome | _=>false) else true
def Qe(pk:List UInt8→Bool)(zH:List UInt8→List Stp)(x:Bz)(ps:List gJ):Bool:=SB pk x && O8 x ps && WM zH x ps
theorem SC(pk:List UInt8→Bool)(zH:List UInt8→List Stp)(n:Bz)(ps:List gJ):Qe pk zH { n with name:=[] } ps=Qe pk zH n ps:=rfl
structure WN (pk:List UInt8→Bool) (zH:List UInt8→List Stp) (t:gJ):Prop where
 one:Y.One t
 name:Y.nameOf t=[]
 kind:Y.kindOf t≠9
 good:Y.Good (Qe pk zH) t
theorem WN.parts {pk:List UInt8→Bool}{zH:List UInt8→List Stp}{n:Bz}{r:gJ}(h:WN pk zH (n::r)):SB pk n=true∧0≤n.many∧∃ps,Y.parts n.many.toNat r=some ps∧ps.flatten=r∧O8 n ps=true∧WM zH n ps=true∧
  (∀p∈ps,Y.One p)∧(∀p∈ps,Y.Good (Qe pk zH) p)∧(n.kind≠1→∀p∈ps,WN pk zH (Y.gX p)):=by
 obtain⟨hm,ps,h1,h2,h3⟩:=h.one.parts
 obtain⟨qs,hq,hr⟩:=h.good 0 n r rfl
 rw[h1]at hq
 cases hq
 simp only[Qe,Bool.and_eq_true]at hr
 have hg:Y.Good (Qe pk zH) ps.flatten:=by rw[h2];exact (show Y.Good _ ([n]++r) from h.good).Za
 have Zd:=Y.Good.lC ps h3 hg
 refine⟨hr.1.1,hm,ps,h1,h2,hr.1.2,hr.2,h3,Zd,λhk p hp=>⟨(h3 p hp).gX,Y.Co p,?_,(Zd p hp).gX (SC pk zH)⟩⟩
 rw[Y.SA]
 have:=hr.1.2
 simp only[O8,Bool.and_eq_true,List.all_eq_true]at this
 have h4:=this.1 p hp
 simp only[XY,Bool.and_eq_true]at h4
 have h5:=h4.1.1
 intro e
 rw[e]at h5
 simp[hk]at h5
end Lp
namespace Lp
open Go
variable {pk:List UInt8→Bool}{zH:List UInt8→List Stp}
theorem zO{n:Bz}{r:gJ}{ps:List gJ}(h:Y.parts n.many.toNat r=some ps):Y.partsOf n r=ps:=by simp[Y.partsOf,h]
theorem WN.part {n:Bz}{r:gJ}(h:WN pk zH (n::r)):∀p∈zN (n::r),WN pk zH p∧p.length≤r.length:=by
 intro p hp
 by_cases hk:n.kind=1
 ·simp only[zN,hk,if_true]at hp
  cases hp
 ·simp only[zN,hk,if_false]at hp
  obtain⟨_,_,ps,h3,h4,_,_,_,_,h8⟩:=h.parts
  rw[zO h3]at hp
  obtain⟨q,hq,rfl⟩:=List.mem_map.1 hp
  refine⟨h8 hk q hq,?_⟩
  have hl:∀qs:List gJ,q∈qs→q.length≤qs.flatten.length:=by
   intro qs
   induction qs with
   | nil=>intro h;cases h
   | cons a t ih=>
    intro h
    rcases List.mem_cons.1 h with rfl | h
    ·simp
    ·have:=ih h;simp only[List.flatten_cons,List.length_append];omega
  have:=hl ps hq
  rw[h4]at this
  rw[Y.jK];exact this
theorem WN.names {n:Bz}{r:gJ}(h:WN pk zH (n::r))(hk:n.kind=2):uQ (Hr (n::r)) (zN (n::r)).length=true∧nL (Hr (n::r)):=by
 obtain⟨_,_,ps,h3,_,h5,_,_,_,_⟩:=h.parts
 simp only[O8,hk,Bool.and_eq_true,List.all_eq_true]at h5
 have hr:nL (ps.map Y.nameOf):=(FU _).1 (by simpa using h5.2)
 have e1:Hr (n::r)=ps.map Y.nameOf:=by simp only[Hr,hk,if_true,zO h3]
 have e2:zN (n::r)=ps.map Y.gX:=by simp only[zN,hk,zO h3];rfl
 rw[e1,e2]
 refine⟨sG.2 ⟨by simp,nM hr,λx hx=>?_⟩,hr⟩
 obtain⟨p,hp,rfl⟩:=List.mem_map.1 hx
 have:=h5.1 p hp
 simp only[XY,hk,Bool.and_eq_true]at this
 simpa using this.2
def O9(t:Bz)(ps:List gJ):gJ:={ t with many:=ps.length }::ps.flatten
end Lp
namespace Lp
open Go
structure ZB where
 blocks:List Nat
 holds:Array Go.Obj→Prop
 keep:∀{h h':Array Go.Obj},(∀b∈blocks,h'[b]?=h[b]?)→holds h→holds h'
 lt:∀{h:Array Go.Obj},holds h→∀b∈blocks,b<h.size
theorem ny{w w':World}{b off:Nat}(h:w'.heap[b]?=w.heap[b]?):w'.cell? ⟨b,off,none⟩=w.cell? ⟨b,off,none⟩:=by
 simp only[World.cell?,h]
theorem O_{w:World}{b off:Nat}{v:Value}(h:w.cell? ⟨b,off,none⟩=some v):b<w.heap.size:=by
 unfold World.cell? at h
 cases hx:w.heap[b]? with
 | none=>simp[hx]at h
 | some x=>exact (Array.getElem?_eq_some_iff.1 hx).1
def XZ(g3 g4:Nat):ZB where
 blocks:=[g3,g4]
 holds h:=∀w:World,w.heap=h→Lib.Utf8Tabs g3 g4 w
 keep:=by
  intro h h' hk hu w' hw'
  have h0:=hu { w' with heap:=h } rfl
  have e3:w'.heap[g3]?=({ w' with heap:=h }:World).heap[g3]?:=by rw[hw'];exact hk g3 (by simp)
  have e4:w'.heap[g4]?=({ w' with heap:=h }:World).heap[g4]?:=by rw[hw'];exact hk g4 (by simp)
  refine⟨λc hc=>?_,λi hi=>⟨?_,?_⟩⟩
  ·rw[ny e3];exact h0.1 c hc
  ·rw[ny e4];exact (h0.2 i hi).1
  ·rw[ny e4];exact (h0.2 i hi).2
 lt:=by
  intro h hu b hb
  have h0:=hu { (default:World) with heap:=h } rfl
  simp only[List.mem_cons,List.not_mem_nil,or_false]at hb
  rcases hb with rfl | rfl
  ·exact O_ (w:={ (default:World) with heap:=h }) (h0.1 0 (by decide))
  ·exact O_ (w:={ (default:World) with heap:=h }) (h0.2 0 (by decide)).1
end Lp
namespace Lp
def kV:ZB:=XZ 0 1
end Lp
namespace Lp
open Go
inductive PV where
 | dead
 | int (k:IntKind) (n:Int)
 | bool (b:Bool)
 | str (s:List UInt8)
 | xZ
 | zP
 | Cw
 | Cx
 | sl (sz:Nat) (xs:List PV) (q:Option Bool)
 | agg (cs:List PV)
 | bP (cs:List PV)
 | addr (x:PV)
 | fn (f:FuncId) (first cap:List PV)
 | aW (k ver:Nat)
 | aT (k ver i f:Nat)
 | oF (l:Nat)
 | cl (sz:Nat) (xs:List PV)
 | fw (k ver:Nat)
 deriving Inhabited
def PV.cells:PV→List PV
 | .agg cs=>cs
 | x=>[x]
def PV.isAgg:PV→Bool
 | .agg _=>true
 | _=>false
def PV.ref:PV→Bool
 | .aW .. | .aT .. | .fw ..=>true
 | _=>false
def PV.pure:PV→Bool
 | .aW .. | .aT .. | .fw ..=>false
 | .fn _ a c=>a.all (λp=>!p.ref) && c.all (λp=>!p.ref)
 | .bP cs | .agg cs=>cs.all (λp=>!p.ref)
 | _=>true
def PV.lg:PV→Bool
 | .dead | .agg _ | .bP _ | .cl ..=>false
 | _=>true
structure Obj where
 ty:TypeId
 sz:Nat
 xs:List PV
 live:Bool
 ver:Nat
 deriving Inhabited
structure St where
 tmps:List PV
 objs:List Obj
 deriving Inhabited
inductive bQ (w:World) (ok:Nat→Prop):PV→Value→Prop
 | dead (v:Value):bQ w ok .dead v
 | int (k:IntKind) (n:Int):bQ w ok (.int k n) (.int k n)
 | bool (b:Bool):bQ w ok (.bool b) (.bool b)
 | str (s:List UInt8):bQ w ok (.str s) (.string ⟨⟨s⟩⟩)
 | xZ:bQ w ok .xZ (.pointer none)
 | zP:bQ w ok .zP .nilFunc
 | Cw:bQ w ok .Cw .nilIface
 | Cx:bQ w ok .Cx (.map none)
 | oF (l:Nat):bQ w ok (.oF l) (.func (.yield l) #[] #[])
 | slnil (sz:Nat) (q:Option Bool) (hq:q≠some false):bQ w ok (.sl sz [] q) (.slice none 0 0)
 | Cy (sz:Nat) (q:Option Bool) (hq:q≠some true) (a:Addr) (cap:Nat) (hcap:cap≤maxLen):bQ w ok (.sl sz [] q) (.slice (some a) 0 cap)
 | sl (sz:Nat) (xs:List PV) (q:Option Bool) (hq:q≠some true) (b off cap:Nat) (vs:Nat→Nat→Value) (hok:xs≠[]→ok b∧b<w.heap.size) (hlen:xs.length≤cap) (hcap:cap≤maxLen)
     (hsz:∀(i:Nat) (x:PV),xs[i]?=some x→x.cells.length=sz)
     (hcell:∀(i:Nat) (x:PV) (j:Nat) (p:PV),xs[i]?=some x→x.cells[j]?=some p→w.cell? ⟨b,off+i*sz+j,none⟩=some (vs i j))
     (hrep:∀(i:Nat) (x:PV) (j:Nat) (p:PV),xs[i]?=some x→x.cells[j]?=some p→bQ w ok p (vs i j)) :
     bQ w ok (.sl sz xs q) (.slice (some ⟨b,off,none⟩) xs.length cap)
 | cl (sz:Nat) (xs:List PV) (v:Value) (h:bQ w ok (.sl sz xs none) v) (hc:∀a l c,v=.slice a l c→c=l):bQ w ok (.cl sz xs) v
 | agg (cs:List PV) (vs:List Value) (hl:cs.length=vs.length) (h:∀(i:Nat) (p:PV) (v:Value),cs[i]?=some p→vs[i]?=some v→bQ w ok p v):bQ w ok (.agg cs) (.agg ⟨vs⟩)
 | bP (cs:List PV) (vs:List Value) (hl:cs.length=vs.length) (h:∀(i:Nat) (p:PV) (v:Value),cs[i]?=some p→vs[i]?=some v→bQ w ok p v):bQ w ok (.bP cs) (.tuple ⟨vs⟩)
 | addr (x:PV) (b off:Nat) (vs:Nat→Value) (hok:ok b∧b<w.heap.size)
   (hcell:∀(j:Nat) (p:PV),x.cells[j]?=some p→w.cell? ⟨b,off+j,none⟩=some (vs j))
   (hrep:∀(j:Nat) (p:PV),x.cells[j]?=some p→bQ w ok p (vs j)):bQ w ok (.addr x) (.pointer (some ⟨b,off,none⟩))
 | fn (f:FuncId) (a c:List PV) (va vc:List Value) (hla:a.length=va.length) (hlc:c.length=vc.length)
     (ha:∀(i:Nat) (p:PV) (v:Value),a[i]?=some p→va[i]?=some v→bQ w ok p v) (hc:∀(i:Nat) (p:PV) (v:Value),c[i]?=some p→vc[i]?=some v→bQ w ok p v) :
     bQ w ok (.fn f a c) (.func (.func f) ⟨va⟩ ⟨vc⟩)
theorem cell_of_heap{w w':World}{b off:Nat}{v:Value}(h:w.cell? ⟨b,off,none⟩=some v)(hb:∀x,w.heap[b]?=some x→(∃c t y,x=.cells c t y)→w'.heap[b]?=some x) :
  w'.cell? ⟨b,off,none⟩=some v:=by
 unfold World.cell? at *
 cases hx:w.heap[b]? with
 | none=>simp[hx]at h
 | some x=>
  cases x with
  | cells c t y=>rw[hb _ hx ⟨c,t,y,rfl⟩];simpa[hx] using h
  | _=>simp[hx]at h
theorem bQ.oO {w w':World}{ok ok':Nat→Prop}{p:PV}{v:Value}(h:bQ w ok p v)(hs:w.heap.size≤w'.heap.size)(hok:∀b,b<w.heap.size→ok b→ok' b)(hw:∀b x,ok b→w.heap[b]?=some x→(∃c t y,x=Go.Obj.cells c t y)→w'.heap[b]?=some x) :
  bQ w' ok' p v:=by
 induction h with
 | dead v=>exact .dead v
 | int k n=>exact .int k n
 | bool b=>exact .bool b
 | str s=>exact .str s
 | xZ=>exact .xZ
 | zP=>exact .zP
 | Cw=>exact .Cw
 | Cx=>exact .Cx
 | oF l=>exact .oF l
 | slnil sz q hq=>exact .slnil sz q hq
 | Cy sz q hq a cap hc=>exact .Cy sz q hq a cap hc
 | sl sz xs q hq b off cap vs hokb hlen hcap hsz hcell hrep ih=>
  exact .sl sz xs q hq b off cap vs (λhn=>⟨hok b (hokb hn).2 (hokb hn).1,Nat.lt_of_lt_of_le (hokb hn).2 hs⟩) hlen hcap hsz
   (λi x j p hx hp=>cell_of_heap (hcell i x j p hx hp) (λy hy hc=>hw b y (hokb (by rintro rfl;simp at hx)).1 hy hc)) ih
 | cl sz xs v h hc ih=>exact .cl sz xs v ih hc
 | agg cs vs hl h ih=>exact .agg cs vs hl ih
 | bP cs vs hl h ih=>exact .bP cs vs hl ih
 | addr x b off vs hokb hcell hrep ih=>
  exact .addr x b off vs ⟨hok b hokb.2 hokb.1,Nat.lt_of_lt_of_le hokb.2 hs⟩ (λj p hp=>cell_of_heap (hcell j p hp) (λy hy hc=>hw b y hokb.1 hy hc)) ih
 | fn f a c va vc hla hlc ha hc iha ihc=>exact .fn f a c va vc hla hlc iha ihc
theorem bQ.mono {w w':World}{ok ok':Nat→Prop}{p:PV}{v:Value}(h:bQ w ok p v)(hs:w.heap.size≤w'.heap.size)(hok:∀b,b<w.heap.size→ok b→ok' b)(hw:∀b x,ok b→w.heap[b]?=some x→w'.heap[b]?=some x) :
  bQ w' ok' p v:=
 h.oO hs hok (λb x hb hx _=>hw b x hb hx)
def MT:TypeId:=1000000007
def mapOf(c:Array Value):Array MapEntry:=((List.range (c.size / 2)).map λi=>{ key:=c.getD (2*i) undef,val:=c.getD (2*i+1) undef,born:=i }).toArray
def Cz:Value→Nat
 | .int _ n=>n.toNat
 | _=>0
def X0:Option Value→Option Nat
 | some (.map m)=>m
 | _=>none
def JR(c:Array Value):Go.Obj:=.mapIter (X0 c[0]?) (Cz (c.getD 1 undef)) ((c.toList.drop 2).map Cz).toArray (Cz (c.getD 1 undef))
def kW(ty:TypeId)(sz:Nat)(c:Array Value):Go.Obj:=if ty=MT then (if sz=2 then .map (mapOf c) (c.size / 2) else JR c) else .cells c ty (0,0)
def JS(sz g:Nat):Value:=if sz=2 then .map (some g) else .pointer (some ⟨g,0,none⟩)
theorem jc{ty:TypeId}(h:ty≠MT)(sz:Nat)(c:Array Value):kW ty sz c=.cells c ty (0,0):=if_neg h
def fits(o:Obj)(c:Array Value):Prop:=o.xs.length*o.sz≤c.size∧(o.ty=MT→c.size=o.xs.length*o.sz)
theorem oP{o:Obj}{c:Array Value}(h:o.ty≠MT)(hl:o.xs.length*o.sz≤c.size):fits o c:=⟨hl,λe=>absurd e h⟩
def sH(w:World)(blk:Nat→Option Nat)(k:Nat)(o:Obj)(v:Value):Prop:=
 match blk k with
 | none=>v=.slice none 0 0∧o.xs=[]
 | some g=>∃cap c,v=.slice (some ⟨g,0,none⟩) o.xs.length cap∧w.heap[g]?=some (.cells c o.ty (0,0))∧o.xs.length≤cap∧cap≤maxLen∧c.size=cap*o.sz
def aP(w:World)(ok:Nat→Prop)(objs:List Obj)(blk:Nat→Option Nat):PV→Value→Prop
 | .aW k ver,v=>v.oneCell'=true∧∃o,objs[k]?=some o∧ver≤o.ver∧(o.live=true→o.ver=ver→o.ty≠MT∧sH w blk k o v)
 | .aT k ver i f,v=>v.oneCell'=true∧∃o,objs[k]?=some o∧ver≤o.ver∧(o.live=true→o.ver=ver→o.ty≠MT∧∃g,blk k=some g∧v=.pointer (some ⟨g,i*o.sz+f,none⟩))
 | .fw k ver,v=>v.oneCell'=true∧∃o,objs[k]?=some o∧ver≤o.ver∧(o.live=true→o.ver=ver→o.ty=MT∧∃g,blk k=some g∧v=JS o.sz g)
 | p,v=>bQ w ok p v
def a_(R:PV→Value→Prop)(cs:List PV)(vs:List Value):Prop:=
 cs.length=vs.length∧∀(i:Nat) (p:PV) (v:Value),cs[i]?=some p→vs[i]?=some v→R p v
def aL(w:World)(ok:Nat→Prop)(objs:List Obj)(blk:Nat→Option Nat):PV→Value→Prop
 | .fn f a c,v=>∃va vc,v=.func (.func f) ⟨va⟩ ⟨vc⟩∧a_ (aP w ok objs blk) a va∧a_ (aP w ok objs blk) c vc
 | .bP cs,v=>∃vs,v=.tuple ⟨vs⟩∧a_ (aP w ok objs blk) cs vs
 | .agg cs,v=>∃vs,v=.agg ⟨vs⟩∧a_ (aP w ok objs blk) cs vs
 | p,v=>aP w ok objs blk p v
def aH(objs:List Obj)(blk:Nat→Option Nat)(b:Nat):Prop:=∀k o,objs[k]?=some o→o.live=true→blk k≠some b
def aV(base:Nat→Prop)(objs:List Obj)(blk:Nat→Option Nat)(b:Nat):Prop:=base b∧aH objs blk b
def bf(w:World)(ok:Nat→Prop)(objs:List Obj)(blk:Nat→Option Nat)(k:Nat)(o:Obj):Prop:=
 match blk k with
 | none=>o.xs=[]
 | some g=>∃c,w.heap[g]?=some (kW o.ty o.sz c)∧fits o c∧
   ∀i x,o.xs[i]?=some x→x.cells.length=o.sz∧∀j p,x.cells[j]?=some p→∃v,c[i*o.sz+j]?=some v∧aP w ok objs blk p v
structure bW (base ah:Nat→Prop) (objs:List Obj) (blk:Nat→Option Nat) (w:World):Prop where
 ob:∀k o,objs[k]?=some o→o.live=true→bf w (aV base objs blk) objs blk k o
 xR:∀k k' o o' g,k≠k'→objs[k]?=some o→o.live=true→objs[k']?=some o'→o'.live=true→blk k=some g→blk k'≠some g
 np:∀k o g,objs[k]?=some o→o.live=true→blk k=some g→¬ ah g
structure Wz where
 heap:Array Go.Obj
 xs:List (PV×Value)
 nx:Nat
 out:World
def MN(ah:Nat→Prop)(w0:Wz):Prop:=kV.holds w0.heap∧∀b∈kV.blocks,ah b
def Sm(w w':World):Prop:=w'.os=w.os∧w'.output=w.output
theorem Sm.refl (w:World):Sm w w:=⟨rfl,rfl⟩
theorem Sm.trans {w w' w'':World}(h:Sm w w')(h':Sm w' w''):Sm w w'':=⟨h'.1.trans h.1,h'.2.trans h.2⟩
def PV.nO (n:Nat):PV→Bool
 | .aW k _=>decide (k<n)
 | .aT k _ _ _=>decide (k<n)
 | .fw k _=>decide (k<n)
 | _=>true
def PV.lt (n:Nat):PV→Bool
 | .fn _ a c=>a.all (PV.nO n) && c.all (PV.nO n)
 | .bP cs | .agg cs=>cs.all (PV.nO n)
 | p=>p.nO n
def FV(w:World)(ok:Nat→Prop)(ds:List Deferred):Prop:=
 ∃Ds:List Nat,ds=Ds.map (λb=>({ target:=.collected b,args:=#[] }:Deferred))∧Ds.Nodup∧∀b∈Ds,w.heap[b]?=some (.deferred (some []))∧ok b
theorem FV.mono {w w':World}{ok ok':Nat→Prop}{ds:List Deferred}(h:FV w ok ds)(hok:∀b,b<w.heap.size→ok b→ok' b)(hw:∀b x,ok b→w.heap[b]?=some x→w'.heap[b]?=some x):FV w' ok' ds:=by
 obtain⟨Ds,h1,h2,h3⟩:=h
 exact⟨Ds,h1,h2,λb hb=>⟨hw b _ (h3 b hb).2 (h3 b hb).1,hok b (Array.getElem?_eq_some_iff.1 (h3 b hb).1).1 (h3 b hb).2⟩⟩
theorem FV.nil (w:World)(ok:Nat→Prop):FV w ok []:=⟨[],rfl,List.nodup_nil,λ_ h=>by simp at h⟩
structure Rel (base ah:Nat→Prop) (w0:Wz) (S:St) (blk:Nat→Option Nat) (a:Act) (w:World):Prop where
 mM:FV w (λb=>aV base S.objs blk b∧¬ ah b) a.defers
 BP:a.tmps.size=S.tmps.length
 tm:∀t p,S.tmps[t]?=some p→aL w (aV base S.objs blk) S.objs blk p (a.tmps.getD t undef)
 objs:bW base ah S.objs blk w
 pr:∀b,ah b→b<w0.heap.size
 fr:∀b,ah b→w.heap[b]?=w0.heap[b]?
 gr:w0.heap.size≤w.heap.size
 pb:∀b,¬ ah b→base b
 ext:∀x∈w0.xs,aL w (aV base S.objs blk) S.objs blk x.1 x.2
 wP:∀x∈w0.xs,x.1.lt w0.nx=true
 sm:Sm w0.out w
 gl:MN ah w0
theorem Rel.bs {base ah:Nat→Prop}{w0:Wz}{S:St}{blk:Nat→Option Nat}{a:Act}{w:World}(R:Rel base ah w0 S blk a w)(b:Nat)(h:w0.heap.size≤b):base b:=
 R.pb b λhp=>absurd (R.pr b hp) (by omega)
theorem Rel.jM {base ah:Nat→Prop}{w0:Wz}{S:St}{blk:Nat→Option Nat}{a:Act}{w:World}(R:Rel base ah w0 S blk a w):kV.holds w.heap:=
 kV.keep (λb hb=>R.fr b (R.gl.2 b hb)) R.gl.1
theorem aP.aF {w:World}{ok:Nat→Prop}{objs:List Obj}{blk:Nat→Option Nat}{p:PV}{v:Value}(h:bQ w ok p v):aP w ok objs blk p v:=by
 cases p<;>first | exact h | (cases h)
theorem aP.wQ {w:World}{ok:Nat→Prop}{objs:List Obj}{blk:Nat→Option Nat}{p:PV}{v:Value}(h:aP w ok objs blk p v)(hp:p.ref=false):bQ w ok p v:=by
 cases p<;>first | exact h | (simp[PV.ref]at hp)
theorem aL.dG {w:World}{ok:Nat→Prop}{objs:List Obj}{blk:Nat→Option Nat}{p:PV}{v:Value}(h:aP w ok objs blk p v):aL w ok objs blk p v:=by
 cases p<;>first
  | exact h
  | (rename_i f a c
     have h':bQ w ok (.fn f a c) v:=h
     cases h' with
     | fn _ _ _ va vc hla hlc ha hc=>exact⟨va,vc,rfl,⟨hla,λi p v h1 h2=>.aF (ha i p v h1 h2)⟩,⟨hlc,λi p v h1 h2=>.aF (hc i p v h1 h2)⟩⟩)
  | (rename_i cs
     have h':bQ w ok (.bP cs) v:=h
     cases h' with
     | bP _ vs hl hh=>exact⟨vs,rfl,hl,λi p v h1 h2=>.aF (hh i p v h1 h2)⟩)
  | (rename_i cs
     have h':bQ w ok (.agg cs) v:=h
     cases h' with
     | agg _ vs hl hh=>exact⟨vs,rfl,hl,λi p v h1 h2=>.aF (hh i p v h1 h2)⟩)
theorem aL.aF {w:World}{ok:Nat→Prop}{objs:List Obj}{blk:Nat→Option Nat}{p:PV}{v:Value}(h:bQ w ok p v):aL w ok objs blk p v:=.dG (.aF h)
theorem nC{cs:List PV}(h:cs.all (λp=>!p.ref)=true){i:Nat}{p:PV}(hi:cs[i]?=some p):p.ref=false:=by
 have:=List.all_eq_true.1 h p (List.mem_of_getElem? hi)
 simpa using this
theorem aL.wQ {w:World}{ok:Nat→Prop}{objs:List Obj}{blk:Nat→Option Nat}{p:PV}{v:Value}(h:aL w ok objs blk p v)(hp:p.pure=true):bQ w ok p v:=by
 cases p<;>first
  | exact h
  | (simp[PV.pure]at hp;done)
  | (obtain⟨va,vc,rfl,h1,h2⟩:=h
     simp only[PV.pure,Bool.and_eq_true]at hp
     exact .fn _ _ _ va vc h1.1 h2.1 (λi p v a b=>(h1.2 i p v a b).wQ (nC hp.1 a)) (λi p v a b=>(h2.2 i p v a b).wQ (nC hp.2 a)))
  | (obtain⟨vs,rfl,h1⟩:=h
     simp only[PV.pure]at hp
     first
      | exact .bP _ vs h1.1 (λi p v a b=>(h1.2 i p v a b).wQ (nC hp a))
      | exact .agg _ vs h1.1 (λi p v a b=>(h1.2 i p v a b).wQ (nC hp a)))
def lD(w w':World)(objs ai:List Obj)(blk aj:Nat→Option Nat):Prop:=
 ∀k o,objs[k]?=some o→∃o',ai[k]?=some o'∧o.ver≤o'.ver∧(o'.live=true→o'.ver=o.ver→o.live=true∧aj k=blk k∧o'.sz=o.sz∧o'.ty=o.ty∧(o.ty≠MT→o'.xs.length=o.xs.length)∧
  ∀g c,blk k=some g→w.heap[g]?=some (.cells c o.ty (0,0))→∃c',w'.heap[g]?=some (.cells c' o.ty (0,0))∧c'.size=c.size)
theorem aP.oO {w w':World}{ok ok':Nat→Prop}{objs ai:List Obj}{blk aj:Nat→Option Nat}{p:PV}{v:Value}(h:aP w ok objs blk p v)
  (hs:w.heap.size≤w'.heap.size) (hok:∀b,b<w.heap.size→ok b→ok' b) (hw:∀b x,ok b→w.heap[b]?=some x→(∃c t y,x=Go.Obj.cells c t y)→w'.heap[b]?=some x) (ho:lD w w' objs ai blk aj) :
  aP w' ok' ai aj p v:=by
 cases p with
 | aW k ver=>
  obtain⟨h0,o,h1,h2,h3⟩:=h
  obtain⟨o',g1,g2,g3⟩:=ho k o h1
  refine⟨h0,o',g1,by omega,λhl hv=>?_⟩
  obtain⟨e0,e1,e2,et,e3,e4⟩:=g3 hl (by omega)
  obtain⟨hty,hh⟩:=h3 e0 (by omega)
  have e3:=e3 hty
  refine⟨by rw[et];exact hty,?_⟩
  unfold sH at hh ⊢
  rw[e1]
  cases hb:blk k with
  | none=>rw[hb]at hh;exact⟨hh.1,List.eq_nil_of_length_eq_zero (by rw[e3,hh.2];rfl)⟩
  | some g=>
   rw[hb]at hh
   obtain⟨cap,c,x1,x2,x3,x4,x5⟩:=hh
   obtain⟨c',y1,y2⟩:=e4 g c hb x2
   exact⟨cap,c',by rw[e3];exact x1,by rw[et];exact y1,by rw[e3];exact x3,x4,by rw[y2,e2];exact x5⟩
 | aT k ver i f=>
  obtain⟨h0,o,h1,h2,h3⟩:=h
  obtain⟨o',g1,g2,g3⟩:=ho k o h1
  refine⟨h0,o',g1,by omega,λhl hv=>?_⟩
  obtain⟨e0,e1,e2,et,e3,e4⟩:=g3 hl (by omega)
  obtain⟨hty,g,y1,y2⟩:=h3 e0 (by omega)
  exact⟨by rw[et];exact hty,g,by rw[e1];exact y1,by rw[e2];exact y2⟩
 | fw k ver=>
  obtain⟨h0,o,h1,h2,h3⟩:=h
  obtain⟨o',g1,g2,g3⟩:=ho k o h1
  refine⟨h0,o',g1,by omega,λhl hv=>?_⟩
  obtain⟨e0,e1,e2,et,e3,e4⟩:=g3 hl (by omega)
  obtain⟨hty,g,y1,y2⟩:=h3 e0 (by omega)
  exact⟨by rw[et];exact hty,g,by rw[e1];exact y1,by rw[e2];exact y2⟩
 | _=>exact bQ.oO h hs hok hw
theorem aP.mono {w w':World}{ok ok':Nat→Prop}{objs ai:List Obj}{blk aj:Nat→Option Nat}{p:PV}{v:Value}(h:aP w ok objs blk p v)
  (hs:w.heap.size≤w'.heap.size) (hok:∀b,b<w.heap.size→ok b→ok' b) (hw:∀b x,ok b→w.heap[b]?=some x→w'.heap[b]?=some x) (ho:lD w w' objs ai blk aj) :
  aP w' ok' ai aj p v:=
 h.oO hs hok (λb x hb hx _=>hw b x hb hx) ho
theorem a_.mono {R R':PV→Value→Prop}{cs:List PV}{vs:List Value}(h:a_ R cs vs)(hr:∀p v,R p v→R' p v):a_ R' cs vs:=
 ⟨h.1,λi p v a b=>hr p v (h.2 i p v a b)⟩
theorem aL.oO {w w':World}{ok ok':Nat→Prop}{objs ai:List Obj}{blk aj:Nat→Option Nat}{p:PV}{v:Value}(h:aL w ok objs blk p v)
  (hs:w.heap.size≤w'.heap.size) (hok:∀b,b<w.heap.size→ok b→ok' b) (hw:∀b x,ok b→w.heap[b]?=some x→(∃c t y,x=Go.Obj.cells c t y)→w'.heap[b]?=some x) (ho:lD w w' objs ai blk aj) :
  aL w' ok' ai aj p v:=by
 have hS:∀p v,aP w ok objs blk p v→aP w' ok' ai aj p v:=λp v h=>h.oO hs hok hw ho
 cases p with
 | fn f a c=>obtain⟨va,vc,rfl,h1,h2⟩:=h;exact⟨va,vc,rfl,h1.mono hS,h2.mono hS⟩
 | bP cs=>obtain⟨vs,rfl,h1⟩:=h;exact⟨vs,rfl,h1.mono hS⟩
 | agg cs=>obtain⟨vs,rfl,h1⟩:=h;exact⟨vs,rfl,h1.mono hS⟩
 | aW k ver=>exact hS (.aW k ver) v h
 | aT k ver i f=>exact hS (.aT k ver i f) v h
 | fw k ver=>exact hS (.fw k ver) v h
 | _=>exact bQ.oO h hs hok hw
theorem aL.mono {w w':World}{ok ok':Nat→Prop}{objs ai:List Obj}{blk aj:Nat→Option Nat}{p:PV}{v:Value}(h:aL w ok objs blk p v)
  (hs:w.heap.size≤w'.heap.size) (hok:∀b,b<w.heap.size→ok b→ok' b) (hw:∀b x,ok b→w.heap[b]?=some x→w'.heap[b]?=some x) (ho:lD w w' objs ai blk aj) :
  aL w' ok' ai aj p v:=
 h.oO hs hok (λb x hb hx _=>hw b x hb hx) ho
def jd(w w':World):Prop:=w.heap.size≤w'.heap.size∧(∀(b:Nat) x,w.heap[b]?=some x→w'.heap[b]?=some x)∧Sm w w'
theorem jd.refl (w:World):jd w w:=⟨Nat.le_refl _,λ_ _ h=>h,.refl w⟩
theorem jd.trans {w w' w'':World}(h:jd w w')(h':jd w' w''):jd w w'':=⟨Nat.le_trans h.1 h'.1,λb x e=>h'.2.1 b x (h.2.1 b x e),h.2.2.trans h'.2.2⟩
theorem jd.same {w w':World}(h:w'.heap=w.heap)(hs:Sm w w':=by exact⟨rfl,rfl⟩):jd w w':=by unfold jd;rw[h];exact⟨Nat.le_refl _,λ_ _ e=>e,hs⟩
theorem jd.push {w w':World}{o:Go.Obj}(h:w'.heap=w.heap.push o)(hs:Sm w w':=by exact⟨rfl,rfl⟩):jd w w':=by
 unfold jd;rw[h]
 refine⟨by simp,λb x e=>?_,hs⟩
 have hb:b<w.heap.size:=(Array.getElem?_eq_some_iff.1 e).1
 rw[Array.getElem?_push]
 split
 ·omega
 ·exact e
theorem lD.grew {w w':World}(h:jd w w')(objs:List Obj)(blk:Nat→Option Nat):lD w w' objs objs blk blk:=
 λ_ o ho=>⟨o,ho,Nat.le_refl _,λhl _=>⟨hl,rfl,rfl,rfl,λ_=>rfl,λg c _ hc=>⟨c,h.2.1 g _ hc,rfl⟩⟩⟩
theorem bW.grew {base ah:Nat→Prop}{objs:List Obj}{blk:Nat→Option Nat}{w w':World}(h:bW base ah objs blk w)(hg:jd w w'):bW base ah objs blk w':=by
 refine⟨λk o h1 h2=>?_,h.xR,h.np⟩
 have hh:=h.ob k o h1 h2
 unfold bf at hh ⊢
 cases hb:blk k with
 | none=>rw[hb]at hh;exact hh
 | some g=>
  rw[hb]at hh
  obtain⟨c,x1,x2,x3⟩:=hh
  refine⟨c,hg.2.1 g _ x1,x2,λi x hx=>⟨(x3 i x hx).1,λj p hp=>?_⟩⟩
  obtain⟨v,y1,y2⟩:=(x3 i x hx).2 j p hp
  exact⟨v,y1,y2.mono hg.1 (λ_ _ h=>h) (λb x _ h=>hg.2.1 b x h) (.grew hg objs blk)⟩
theorem Rel.grew {base ah:Nat→Prop}{w0:Wz}{S:St}{blk:Nat→Option Nat}{a:Act}{w w':World}(h:Rel base ah w0 S blk a w)(hg:jd w w'):Rel base ah w0 S blk a w':=by
 refine⟨h.mM.mono (λ_ _ h=>h) (λb x _ h=>hg.2.1 b x h),h.BP,λt p hp=>(h.tm t p hp).mono hg.1 (λ_ _ h=>h) (λb x _ h=>hg.2.1 b x h) (.grew hg _ _),h.objs.grew hg,h.pr,λb hb=>?_,Nat.le_trans h.gr hg.1,h.pb,λx hx=>(h.ext x hx).mono hg.1 (λ_ _ h=>h) (λb x _ h=>hg.2.1 b x h) (.grew hg _ _),h.wP,h.sm.trans hg.2.2,h.gl⟩
 have h1:=h.fr b hb
 have h2:=h.pr b hb
 cases hx:w0.heap[b]? with
 | none=>rw[Array.getElem?_eq_none_iff]at hx;omega
 | some x=>rw[hx]at h1;rw[hg.2.1 b x h1]
def St.put (S:St)(dst:Option Tmp)(p:PV):St:=
 match dst with
 | some d=>{ S with tmps:=S.tmps.set d p }
 | none=>S
theorem nP(xs:Array Value)(d t:Nat)(v u:Value):(xs.setIfInBounds d v).getD t u=if d=t∧d<xs.size then v else xs.getD t u:=by
 rw[Array.getD_eq_getD_getElem?,Array.getElem?_setIfInBounds,Array.getD_eq_getD_getElem?]
 by_cases h:d=t
 ·subst h
  by_cases h':d<xs.size<;>simp[h']
 ·simp[h]
theorem Rel.put {base ah:Nat→Prop}{w0:Wz}{S:St}{blk:Nat→Option Nat}{a:Act}{w:World}(h:Rel base ah w0 S blk a w){p:PV}{v:Value}
  (hv:aL w (aV base S.objs blk) S.objs blk p v) (dst:Option Tmp):Rel base ah w0 (S.put dst p) blk (a.put dst v) w:=by
 cases dst with
 | none=>exact h
 | some d=>
  refine⟨h.mM,by simpa[Act.put,St.put] using h.BP,λt q hq=>?_,h.objs,h.pr,h.fr,h.gr,h.pb,h.ext,h.wP,h.sm,h.gl⟩
  simp only[St.put,Act.put]at hq ⊢
  rw[nP]
  rw[List.getElem?_set]at hq
  by_cases hd:d=t
  ·subst hd
   by_cases hl:d<S.tmps.length
   ·simp[hl]at hq
    subst hq
    simp[h.BP,hl,hv]
   ·simp[hl]at hq
  ·rw[if_neg hd]at hq
   rw[if_neg (λe=>hd e.1)]
   exact h.tm t q hq
end Lp
namespace Lp
open Go
inductive TK where
 | none
 | other
 | slice (e:TypeId)
 | struct (fs:List (Nat×TypeId))
 | array (n:Nat) (e:TypeId)
 | str
 | int (k:IntKind)
 | bool
 | map (k e:TypeId)
structure ay where
 kind:TK
 size:Nat
 bytes:Nat
 zero:Value
def ay.agg (t:ay):Bool:=
 match t.kind with
 | .struct _ | .array _ _=>true
 | _=>false
def ay.off:ay:=⟨.none,0,0,.bool false⟩
def zQ:TypeDesc→Bool
 | .struct _ | .array _ _=>false
 | _=>true
def eP(P:Program)(t:TypeId)(ti:ay):Prop:=
 ti.kind=.none∨
 ((∃i,P.info? t=some i∧i.size=ti.size∧i.bytes=ti.bytes∧i.zero=some ti.zero∧t≠MT)∧
  match ti.kind with
  | .none=>True
  | .other=>∃d,P.underlying t=some d∧zQ d=true
  | .slice e=>P.underlying t=some (.slice e)
  | .struct fs=>∃fl:Array Field,P.underlying t=some (.struct fl)∧fl.toList.map (λf=>(f.offset,f.type))=fs
  | .array n e=>P.underlying t=some (.array n e)
  | .str=>P.underlying t=some .string
  | .int k=>P.underlying t=some (.int k)
  | .bool=>P.underlying t=some .bool
  | .map k e=>P.underlying t=some (.map k e))
def PV.uR:Value→PV
 | .int k n=>.int k n
 | .bool b=>.bool b
 | .string s=>.str s.data.toList
 | .pointer none=>.xZ
 | .nilFunc=>.zP
 | .nilIface=>.Cw
 | .map none=>.Cx
 | .slice none 0 0=>.sl 0 [] (some true)
 | .func (.func f) ⟨[]⟩ ⟨[]⟩=>.fn f [] []
 | .agg ⟨cs⟩=>.agg (cs.map λ
  | .int k n=>.int k n
  | .bool b=>.bool b
  | .string s=>.str s.data.toList
  | .pointer none=>.xZ
  | .nilFunc=>.zP
  | .nilIface=>.Cw
  | .map none=>.Cx
  | .slice none 0 0=>.sl 0 [] (some true)
  | _=>.dead)
 | _=>.dead
theorem Ht(w:World)(ok:Nat→Prop)(s:ByteArray):bQ w ok (.str s.data.toList) (.string s):=by
 obtain⟨⟨l⟩⟩:=s;exact .str l
theorem qB(w:World)(ok:Nat→Prop)(v:Value):bQ w ok (PV.uR v) v:=by
 unfold PV.uR
 split
 ·exact .int _ _
 ·exact .bool _
 ·exact Ht w ok _
 ·exact .xZ
 ·exact .zP
 ·exact .Cw
 ·exact .Cx
 ·exact .slnil _ _ (by simp)
 ·exact .fn _ [] [] [] [] rfl rfl (λ_ _ _ h=>by simp at h) (λ_ _ _ h=>by simp at h)
 ·rename_i cs
  refine .agg _ cs (by simp) (λi p v hp hv=>?_)
  rw[List.getElem?_map,hv]at hp
  simp only[Option.map_some,Option.some.injEq]at hp
  subst hp
  split
  ·exact .int _ _
  ·exact .bool _
  ·exact Ht w ok _
  ·exact .xZ
  ·exact .zP
  ·exact .Cw
  ·exact .Cx
  ·exact .slnil _ _ (by simp)
  ·exact .dead _
 ·exact .dead _
def St.ev (S:St):Operand→PV
 | .tmp t=>S.tmps.getD t .dead
 | .const v=>.uR v
 | .global _=>.dead
 | .func f=>.fn f [] []
theorem Rel.ev {base ah:Nat→Prop}{w0:Wz}{S:St}{blk:Nat→Option Nat}{a:Act}{w:World}(R:Rel base ah w0 S blk a w)(x:Operand) :
  aL w (aV base S.objs blk) S.objs blk (S.ev x) (a.eval x):=by
 cases x with
 | tmp t=>
  simp only[St.ev,Act.eval]
  by_cases h:t<S.tmps.length
  ·rw[List.getD_eq_getElem?_getD,List.getElem?_eq_getElem h]
   exact R.tm t _ (List.getElem?_eq_getElem h)
  ·rw[List.getD_eq_getElem?_getD,List.getElem?_eq_none (Nat.le_of_not_lt h)]
   exact .aF (.dead _)
 | const v=>exact .aF (qB _ _ v)
 | global g=>exact .aF (.dead _)
 | func f=>exact .aF (.fn f [] [] [] [] rfl rfl (λ_ _ _ h=>by simp at h) (λ_ _ _ h=>by simp at h))
def sub(cs:List PV)(off n:Nat)(agg:Bool):PV:=if agg then .agg ((cs.drop off).take n) else cs.getD off .dead
def FW(k:IntKind)(n:Int):Prop:=
 match k with
 | .i8=>-128≤n∧n≤127
 | .i16=>-32768≤n∧n≤32767
 | .i32=>-2147483648≤n∧n≤2147483647
 | .i64=>-9223372036854775808≤n∧n≤9223372036854775807
 | .u8=>0≤n∧n≤255
 | .u16=>0≤n∧n≤65535
 | .u32=>0≤n∧n≤4294967295
 | .u64=>0≤n∧n≤18446744073709551615
theorem gq{k:IntKind}{n:Int}(h:FW k n):k.wrap n=n:=by
 cases k<;>simp only[FW]at h<;>simp only[IntKind.wrap,IntKind.bits,IntKind.signed,Bool.true_and,Bool.false_and,Bool.false_eq_true,if_false,Int.reducePow,Nat.reduceSub]<;>first | omega | (split<;>rename_i hc<;>first | (have hd:=of_decide_eq_true hc;omega) | (have hd:=of_decide_eq_false (Bool.eq_false_iff.2 hc);omega))
def Ze:PV→PV→Option Bool
 | .int k a,.int k' b=>if k=k' then some (decide (a=b)) else none
 | .bool a,.bool b=>some (a==b)
 | .str a,.str b=>some (decide (a=b))
 | _,_=>none
def MO:List PV→List PV→Option Bool
 | [],[]=>some true
 | x::xs,y::ys=>match Ze x y,MO xs ys with
  | some p,some q=>some (p && q)
  | _,_=>none
 | _,_=>none
def MP(P:Program)(t:TypeId)(ps bs:List PV):Prop:=
 P.eqGuardType P.depth t=false∧
 ∀(w:World) (ok:Nat→Prop) (vs us:List Value) (r:Bool),MO ps bs=some r→a_ (bQ w ok) ps vs→a_ (bQ w ok) bs us→
  (Op.equal t (.agg ⟨vs⟩) (.agg ⟨us⟩)).run P w=.ok r w
def JU(op:BinOp)(k:IntKind)(x y:Int):Int:=
 let a:=BitVec.ofInt k.bits x
 let b:=BitVec.ofInt k.bits y
 match op with
 | .and=>k.wrap (a &&& b).toNat
 | .or=>k.wrap (a ||| b).toNat
 | .xor=>k.wrap (a ^^^ b).toNat
 | _=>k.wrap (a &&& ~~~b).toNat
def pz(op:BinOp)(k k':IntKind)(a b:Int)(K:PV→Prop):Prop:=
 match op with
 | .shl=>0≤b∧K (.int k (k.wrap (a*2 ^ (min b.toNat k.bits))))
 | .shr=>0≤b∧K (.int k (a.fdiv (2 ^ (min b.toNat k.bits))))
 | .add=>k=k'∧FW k (a+b)∧K (.int k (a+b))
 | .sub=>k=k'∧FW k (a-b)∧K (.int k (a-b))
 | .mul=>k=k'∧FW k (a*b)∧K (.int k (a*b))
 | .quo=>k=k'∧b≠0∧FW k (a.tdiv b)∧K (.int k (a.tdiv b))
 | .rem=>k=k'∧b≠0∧K (.int k (a.tmod b))
 | .and | .or | .xor | .andNot=>k=k'∧K (.int k (JU op k a b))
 | .eql=>k=k'∧K (.bool (decide (a=b)))
 | .neq=>k=k'∧K (.bool (!decide (a=b)))
 | .lss=>k=k'∧K (.bool (decide (a<b)))
 | .leq=>k=k'∧K (.bool (decide (a≤b)))
 | .gtr=>k=k'∧K (.bool (decide (b<a)))
 | .geq=>k=k'∧K (.bool (decide (b≤a)))
def gP(op:BinOp)(a b:List UInt8)(K:PV→Prop):Prop:=
 match op with
 | .add=>a.length+b.length≤9223372036854775807∧K (.str (a++b))
 | .eql=>K (.bool (decide (a=b)))
 | .neq=>K (.bool (!decide (a=b)))
 | .lss=>K (.bool (Op.bytesLess a b))
 | .leq=>K (.bool (Op.bytesLess a b || decide (a=b)))
 | .gtr=>K (.bool (!(Op.bytesLess a b || decide (a=b))))
 | .geq=>K (.bool (!Op.bytesLess a b))
 | _=>False
def nQ(P:Program)(ti:ay)(t:TypeId)(op:BinOp)(x y:PV)(K:PV→Prop):Prop:=
 match x,y with
 | .int k a,.int k' b=>pz op k k' a b K
 | .str a,.str b=>gP op a b K
 | .bool a,.bool b=>ti.kind=.bool∧(match op with
  | .eql=>K (.bool (a==b))
  | .neq=>K (.bool (!(a==b)))
  | _=>False)
 | .agg a,.agg b=>MP P t a b∧∃r,MO a b=some r∧(match op with
  | .eql=>K (.bool r)
  | .neq=>K (.bool (!r))
  | _=>False)
 | .sl _ _ (some q),.sl _ _ (some true)=>(∃e,ti.kind=.slice e)∧(match op with
  | .eql=>K (.bool q)
  | .neq=>K (.bool (!q))
  | _=>False)
 | _,_=>False
def JF(op:UnOp)(x:PV)(K:PV→Prop):Prop:=
 match op,x with
 | .not,.bool b=>K (.bool (!b))
 | .neg,.int k n=>FW k (-n)∧K (.int k (-n))
 | _,_=>False
def nR(src dst:ay)(x:PV)(K:PV→Prop):Prop:=
 match dst.kind,x with
 | .int k,.int _ n=>(src.kind≠.none)∧K (.int k (k.wrap n))
 | .str,.str s=>src.kind=.str∧K (.str s)
 | .str,.int _ n=>(src.kind≠.none)∧K (.str (Utf8.encode n).data.toList)
 | _,_=>False
abbrev KT:=PV→List Obj→Nat→Prop
def dK(ti:ay)(p:PV)(objs:List Obj)(K:KT):Prop:=
 match p with
 | .addr x=>ti.kind≠.none∧x.cells.length=ti.size∧x.isAgg=ti.agg∧K x objs 0
 | .aT k ver i f=>∃o e,objs[k]?=some o∧o.live=true∧o.ver=ver∧o.xs[i]?=some e∧ti.kind≠.none∧f+ti.size≤e.cells.length∧
   (ti.agg=false→ti.size=1)∧e.cells.all (λc=>!c.isAgg)=true∧K (sub e.cells f ti.size ti.agg) objs (4+2*k)
 | _=>False
def PV.putCells (e:PV)(f:Nat)(vs:List PV):PV:=
 match e with
 | .agg cs=>.agg (cs.take f++vs++cs.drop (f+vs.length))
 | _=>vs.getD 0 .dead
def PV.storable (p:PV):Bool:=p.lg && (p.ref || p.pure)
def iq(ti:ay)(p v:PV)(objs:List Obj)(K:KT):Prop:=
 match p with
 | .aT k ver i f=>∃o e,objs[k]?=some o∧o.live=true∧o.ver=ver∧o.xs[i]?=some e∧ti.kind≠.none∧v.cells.length=ti.size∧f+ti.size≤e.cells.length∧
   (e.isAgg=false→ti.size=1)∧
   v.cells.all PV.storable=true∧
   K .dead (objs.set k { o with xs:=o.xs.set i (e.putCells f v.cells) }) (5+2*k)
 | _=>False
def dD(D:TypeId→ay)(t:TypeId)(f:Nat)(K:Nat→ay→Prop):Prop:=
 match (D t).kind with
 | .struct fs=>∃x,fs[f]?=some x∧(D x.2).kind≠.none∧(D x.2).size≠0∧K x.1 (D x.2)
 | _=>False
def aN(D:TypeId→ay)(t:TypeId)(p:PV)(f:Nat)(objs:List Obj)(K:KT):Prop:=
 match p with
 | .addr (.agg cs)=>dD D t f λoff ti=>off+ti.size≤cs.length∧(ti.agg=false→ti.size=1)∧cs.all (λc=>!c.isAgg)=true∧K (.addr (sub cs off ti.size ti.agg)) objs 0
 | .aT k ver i f'=>∃o,objs[k]?=some o∧o.live=true∧o.ver=ver∧dD D t f λoff _=>K (.aT k ver i (f'+off)) objs (4+2*k)
 | _=>False
def mq(D:TypeId→ay)(t:TypeId)(p:PV)(f:Nat)(objs:List Obj)(K:KT):Prop:=
 match p with
 | .agg cs=>dD D t f λoff ti=>off+ti.size≤cs.length∧K (sub cs off ti.size ti.agg) objs 0
 | _=>False
def aZ(D:TypeId→ay)(t:TypeId)(x i:PV)(objs:List Obj)(K:KT):Prop:=
 match (D t).kind,x,i with
 | .slice e,.sl sz xs _,.int _ n=>(D e).kind≠.none∧0≤n∧∃y,xs[n.toNat]?=some y∧(D e).size=sz∧K (.addr y) objs 0
 | .slice e,.aW k ver,.int _ n=>(D e).kind≠.none∧0≤n∧∃o,objs[k]?=some o∧o.live=true∧o.ver=ver∧n<o.xs.length∧(D e).size=o.sz∧K (.aT k ver n.toNat 0) objs (4+2*k)
 | .array m e,.addr (.agg cs),.int _ n=>(D e).kind≠.none∧0≤n∧n<m∧(n.toNat+1)*(D e).size≤cs.length∧((D e).agg=false→(D e).size=1)∧cs.all (λc=>!c.isAgg)=true∧
   K (.addr (sub cs (n.toNat*(D e).size) (D e).size (D e).agg)) objs 0
 | .array m e,.aT k ver i f,.int _ n=>(D e).kind≠.none∧0≤n∧n<m∧∃o,objs[k]?=some o∧o.live=true∧o.ver=ver∧K (.aT k ver i (f+n.toNat*(D e).size)) objs (4+2*k)
 | _,_,_=>False
def jN(D:TypeId→ay)(t:TypeId)(x i:PV)(objs:List Obj)(K:KT):Prop:=
 match (D t).kind,x,i with
 | .str,.str s,.int _ n=>0≤n∧∃b,s[n.toNat]?=some b∧K (.int .u8 b.toNat) objs 0
 | .array m e,.agg cs,.int _ n=>(D e).kind≠.none∧0≤n∧n<m∧(n.toNat+1)*(D e).size≤cs.length∧(D e).size≠0∧K (sub cs (n.toNat*(D e).size) (D e).size (D e).agg) objs 0
 | _,_,_=>False
def bR(x:Option PV)(d:Int)(K:Int→Prop):Prop:=
 match x with
 | none=>K d
 | some (.int _ n)=>K n
 | _=>False
def gu(D:TypeId→ay)(t:TypeId)(x:PV)(lo hi:Option PV)(objs:List Obj)(K:KT):Prop:=
 match (D t).kind,x with
 | .str,.str s=>bR lo 0 λl=>bR hi s.length λh=>0≤l∧l≤h∧h≤s.length∧K (.str ((s.take h.toNat).drop l.toNat)) objs 0
 | .slice e,.sl sz xs q=>(D e).kind≠.none∧(xs=[]∨(D e).size=sz)∧bR lo 0 λl=>bR hi xs.length λh=>0≤l∧l≤h∧h≤xs.length∧
   K (.sl sz ((xs.take h.toNat).drop l.toNat) q) objs 0
 | .slice e,.aW k ver=>(D e).kind≠.none∧∃o,objs[k]?=some o∧o.live=true∧o.ver=ver∧(D e).size=o.sz∧lo=none∧bR hi o.xs.length λh=>0≤h∧h≤o.xs.length∧
   K (.aW k (ver+1)) (objs.set k { o with xs:=o.xs.take h.toNat,ver:=ver+1 }) (5+2*k)
 | .array m e,.addr (.agg cs)=>(D e).kind≠.none∧(D e).size=1∧(D e).agg=false∧cs.length=m∧m≤9223372036854775807∧cs.all (λc=>!c.isAgg)=true∧bR lo 0 λl=>bR hi m λh=>0≤l∧l≤h∧h≤m∧
   K (.sl 1 ((cs.take h.toNat).drop l.toNat) none) objs 0
 | _,_=>False
def oI(D:TypeId→ay)(t:TypeId)(x:PV)(objs:List Obj)(K:KT):Prop:=
 match (D t).kind,x with
 | .str,.str s=>K (.int .i64 s.length) objs 0
 | .slice _,.sl _ xs _=>K (.int .i64 xs.length) objs 0
 | .slice _,.aW k ver=>∃o,objs[k]?=some o∧o.live=true∧o.ver=ver∧K (.int .i64 o.xs.length) objs (4+2*k)
 | _,_=>False
def aG(ti:ay):PV:=.uR ti.zero
def newObj(objs:List Obj)(ty:TypeId)(sz:Nat)(xs:List PV):List Obj:=objs++[⟨ty,sz,xs,true,1⟩]
def pE(t:TypeId)(ti:ay)(objs:List Obj)(K:KT):Prop:=
 ti.kind≠.none∧(aG ti).cells.length=ti.size∧(aG ti).cells.all PV.storable=true∧K (.aT objs.length 1 0 0) (newObj objs t ti.size [aG ti]) (5+2*objs.length)
def Hu(t:TypeId)(ti:ay)(v:PV)(objs:List Obj)(K:KT):Prop:=
 ti.kind≠.none∧v.cells.length=ti.size∧v.cells.all PV.storable=true∧K (.aT objs.length 1 0 0) (newObj objs t ti.size [v]) (5+2*objs.length)
def mO(place:Nat→Option (Nat×Nat))(cells:List PV):List (Nat×PV)→(List PV→Prop)→Prop
 | [],K=>K cells
 | (i,v)::rest,K=>∃x,place i=some x∧v.cells.length=x.2∧x.1+v.cells.length≤cells.length∧mO place (cells.take x.1++v.cells++cells.drop (x.1+v.cells.length)) rest K
def mr(D:TypeId→ay)(t:TypeId)(parts:List (Nat×PV))(objs:List Obj)(K:KT):Prop:=
 match (D t).kind with
 | .struct fs=>(∀x∈fs,(D x.2).kind≠.none)∧mO (λi=>(fs[i]?).map λx=>(x.1,(D x.2).size)) (aG (D t)).cells parts λcs=>K (.agg cs) objs 0
 | .array _ e=>(D e).kind≠.none∧mO (λi=>some (i*(D e).size,(D e).size)) (aG (D t)).cells parts λcs=>K (.agg cs) objs 0
 | _=>False
def gy(xs:List PV):List (Nat×PV)→List PV
 | []=>xs
 | (i,v)::rest=>gy (xs.set i v) rest
def bB(D:TypeId→ay)(own:Bool)(t:TypeId)(len:Nat)(parts:List (Nat×PV))(objs:List Obj)(K:KT):Prop:=
 match (D t).kind with
 | .slice e=>(D e).kind≠.none∧(D e).size≠0∧len*(D e).size≤16777216∧(aG (D e)).cells.length=(D e).size∧
   (aG (D e)).cells.all PV.storable=true∧
   parts.all (λp=>decide (p.1<len) && decide (p.2.cells.length=(D e).size) && p.2.cells.all PV.storable && (own || p.2.pure))=true∧
   if own then K (.aW objs.length 1) (newObj objs e (D e).size (gy (List.replicate len (aG (D e))) parts)) (5+2*objs.length)
   else K (.sl (D e).size (gy (List.replicate len (aG (D e))) parts) none) objs 0
 | _=>False
def dJ(D:TypeId→ay)(t:TypeId)(l c:PV)(objs:List Obj)(K:KT):Prop:=
 match (D t).kind,l,c with
 | .slice e,.int _ n,.int _ m=>(D e).kind≠.none∧(aG (D e)).cells.length=(D e).size∧(D e).size≠0∧(aG (D e)).cells.all PV.storable=true∧
   0≤n∧n≤m∧m≤9223372036854775807∧(D e).bytes*m≤281474976710656∧
   K (.aW objs.length 1) (newObj objs e (D e).size (List.replicate n.toNat (aG (D e)))) (5+2*objs.length)
 | _,_,_=>False
def kX(D:TypeId→ay)(t:TypeId)(x:PV)(objs:List Obj)(K:List PV→Bool→Prop):Prop:=
 match (D t).kind,x with
 | .slice _,.sl _ ys _=>K ys false
 | .slice _,.aW k ver=>∃o,objs[k]?=some o∧o.live=true∧o.ver=ver∧K o.xs true
 | .str,.str s=>K (s.map λb=>.int .u8 b.toNat) false
 | _,_=>False
def dh(D:TypeId→ay)(t u:TypeId)(s x:PV)(objs:List Obj)(K:KT):Prop:=
 match (D t).kind with
 | .slice e=>(D e).kind≠.none∧(D e).size≠0∧(aG (D e)).cells.length=(D e).size∧(aG (D e)).cells.all PV.storable=true∧kX D u x objs λys own=>
   (∀y∈ys,y.cells.length=(D e).size∧y.cells.all PV.storable=true)∧
   match s with
   | .aW k ver=>∃o,objs[k]?=some o∧o.live=true∧o.ver=ver∧o.sz=(D e).size∧o.ty=e∧(o.xs.length+ys.length)*(D e).bytes≤140737488355328∧o.xs.length+ys.length≤9223372036854775807∧
     (∀k' v',x=.aW k' v'→k'≠k)∧
     K (.aW k (ver+1)) (objs.set k { o with xs:=o.xs++ys,ver:=ver+1 }) (bif own then 2 else 5+2*k)
   | .cl sz xs=>sz=(D e).size∧(∀y∈xs,y.cells.length=(D e).size∧y.cells.all PV.storable=true)∧(xs.length+ys.length)*(D e).bytes≤140737488355328∧xs.length+ys.length≤9223372036854775807∧ys≠[]∧
     K (.aW objs.length 1) (newObj objs e (D e).size (xs++ys)) (bif own then 2 else 5+2*objs.length)
   | .sl _ [] (some true)=>ys.length*(D e).bytes≤140737488355328∧ys.length≤9223372036854775807∧K (.aW objs.length 1) (newObj objs e (D e).size ys) (bif own then 2 else 5+2*objs.length)
   | _=>False
 | _=>False
def oQ(D:TypeId→ay)(s t:TypeId)(x:PV)(objs:List Obj)(K:KT):Prop:=
 match x with
 | .aW k ver=>∃o bs,objs[k]?=some o∧o.live=true∧o.ver=ver∧o.sz=1∧bs≠[]∧o.xs=List.map (λb:UInt8=>PV.int .u8 b.toNat) bs∧(D t).kind=.str∧
   (∃e,(D s).kind=.slice e∧(D e).kind=.int .u8)∧K (.str bs) objs (4+2*k)
 | x=>nR (D s) (D t) x λr=>K r objs 0
def bX(x:PV)(objs:List Obj)(K:KT):Prop:=
 match x with
 | .addr _=>K x objs 0
 | .aT k ver _ _=>∃o,objs[k]?=some o∧o.live=true∧o.ver=ver∧K x objs (4+2*k)
 | _=>False
def fH(isMax:Bool)(xs:List PV)(K:PV→Prop):Prop:=
 match xs with
 | [.int k a,.int k' b]=>k=k'∧K (.int k (if isMax then (if b > a then b else a) else (if b<a then b else a)))
 | _=>False
end Lp
namespace Lp
open Go
def x9(l:Option Nat):Fence:={ fn:=λ_=>True,depth:=none,alive:=false,round:=l }
section
variable {P:Program}{base ah:Nat→Prop}{w0:Wz}{S:St}{blk:Nat→Option Nat}{a:Act}{w:World}{ok:Nat→Prop}{objs:List Obj}
theorem aL.int {k:IntKind}{n:Int}{v:Value}(h:aL w ok objs blk (.int k n) v):v=.int k n:=by
 have h':bQ w ok (.int k n) v:=h
 cases h';rfl
theorem aL.bool {b:Bool}{v:Value}(h:aL w ok objs blk (.bool b) v):v=.bool b:=by
 have h':bQ w ok (.bool b) v:=h
 cases h';rfl
theorem aL.str {s:List UInt8}{v:Value}(h:aL w ok objs blk (.str s) v):v=.string ⟨⟨s⟩⟩:=by
 have h':bQ w ok (.str s) v:=h
 cases h';rfl
theorem aL.sl {sz:Nat}{xs:List PV}{q:Option Bool}{v:Value}(h:aL w ok objs blk (.sl sz xs q) v):bQ w ok (.sl sz xs q) v:=h
theorem aL.addr {x:PV}{v:Value}(h:aL w ok objs blk (.addr x) v):bQ w ok (.addr x) v:=h
def Ran(P:Program)(o:Oper)(a:Act)(w:World)(v:Value)(w':World):Prop:=
 (execOp a.eval o).run P w=.ok (.value v) w'∨((execOp a.eval o).run P w=.ok .skip w'∧v=undef)
def AP(O O':List Obj):Prop:=∀o1,O'=O++[o1]→∀x∈o1.xs,∀p∈x.cells,p.nO O.length=true
theorem AP.same {O O':List Obj}(h:O'.length=O.length):AP O O':=λo1 e=>by
 have:=congrArg List.length e
 simp at this;omega
theorem l5{p:PV}{v:Value}(h:aP w ok objs blk p v):p.nO objs.length=true:=by
 cases p<;>first | rfl | (obtain⟨_,o,h,_⟩:=h;simp only[PV.nO,decide_eq_true_eq];exact (List.getElem?_eq_some_iff.1 h).1)
theorem AP.of {O:List Obj}{o:Obj}(h:∀(i:Nat) (x:PV),o.xs[i]?=some x→∀(j:Nat) (p:PV),x.cells[j]?=some p→p.nO O.length=true):AP O (O++[o]):=λo1 e x hx p hp=>by
 have e':o=o1:=by
  have:=List.append_cancel_left e
  simpa using this
 subst e'
 obtain⟨i,hi,rfl⟩:=List.getElem_of_mem hx
 obtain⟨j,hj,rfl⟩:=List.getElem_of_mem hp
 exact h i _ (List.getElem?_eq_getElem hi) j _ (List.getElem?_eq_getElem hj)
def Out(P:Program)(base ah:Nat→Prop)(w0:Wz)(S:St)(o:Oper)(a:Act)(w:World)(K:KT):Prop:=
 ∃v w' r ai t aj,Ran P o a w v w'∧K r ai t∧Rel base ah w0 ⟨S.tmps,ai⟩ aj a w'∧aL w' (aV base ai aj) ai aj r v∧AP S.objs ai
theorem AQ{o:Oper}{v:Value}{w':World}{next:Act→World→Prop}{Q:Exit→Act→World→Prop}{l:Option Nat}(hd:∀c,o.op≠.defer c)
  (h:Ran P o a w v w') (hk:next (a.put o.dst v) w'):o.wpIn (x9 l) 0 P a w next Q:=by
 refine⟨λ_ _=>trivial,?_⟩
 rw[Oper.semAt_eq _ _ _ hd]
 rcases h with h | ⟨h,rfl⟩
 ·unfold Oper.uponIn;rw[h];exact hk
 ·unfold Oper.uponIn;rw[h];exact hk
theorem Out.pure {o:Oper}{K:KT}{v:Value}{r:PV}{t:Nat}(R:Rel base ah w0 S blk a w)(h:(execOp a.eval o).run P w=.ok (.value v) w)(hK:K r S.objs t)
  (hr:aL w (aV base S.objs blk) S.objs blk r v):Out P base ah w0 S o a w K:=
 ⟨v,w,r,S.objs,t,blk,.inl h,hK,R,hr,.same rfl⟩
theorem eP.info {t:TypeId}{ti:ay}(h:eP P t ti)(hk:ti.kind≠.none):∃i,P.info? t=some i∧i.size=ti.size∧i.bytes=ti.bytes∧i.zero=some ti.zero:=
 let ⟨i,h1,h2,h3,h4,_⟩:=(h.resolve_left hk).1
 ⟨i,h1,h2,h3,h4⟩
theorem eP.notM {t:TypeId}{ti:ay}(h:eP P t ti)(hk:ti.kind≠.none):t≠MT:=by
 obtain⟨i,_,_,_,_,h⟩:=(h.resolve_left hk).1
 exact h
theorem eP.bY {t:TypeId}{ti:ay}(h:eP P t ti)(hk:ti.kind≠.none)(w:World):(Go.sizeOf t).run P w=.ok ti.size w:=by
 obtain⟨i,h1,h2,_⟩:=h.info hk
 simp[Go.sizeOf,typeInfo,h1,h2]
theorem eP.under {t:TypeId}{ti:ay}(h:eP P t ti)(hk:ti.kind≠.none):∃d,P.underlying t=some d∧(zQ d=!ti.agg):=by
 rcases h with h | ⟨_,h⟩
 ·exact absurd h hk
 ·cases hd:ti.kind<;>rw[hd]at h<;>simp only[ay.agg,hd]
  ·exact absurd hd hk
  ·obtain⟨d,h1,h2⟩:=h;exact⟨d,h1,by simpa using h2⟩
  ·exact⟨_,h,rfl⟩
  ·obtain⟨fl,h1,_⟩:=h;exact⟨_,h1,rfl⟩
  ·exact⟨_,h,rfl⟩
  ·exact⟨_,h,rfl⟩
  ·exact⟨_,h,rfl⟩
  ·exact⟨_,h,rfl⟩
  ·exact⟨_,h,rfl⟩
theorem eP.uS {t:TypeId}{ti:ay}(h:eP P t ti)(hk:ti.kind≠.none)(w:World):(isAgg t).run P w=.ok ti.agg w:=by
 obtain⟨d,h1,h2⟩:=h.under hk
 simp only[isAgg,Sem.run_bind,run_underlying h1,Result.andThen_ok]
 cases d<;>simp[zQ]at h2<;>simp[h2]
theorem SE{op:BinOp}{k k':IntKind}{x y:Int}{K:PV→Prop}(t:TypeId)(h:pz op k k' x y K) :
  ∃r v,(binOp op t (.int k x) (.int k' y)).run P w=.ok v w∧K r∧(∀ok objs blk,aL w ok objs blk r v):=by
 have SF:∀(k:IntKind) (n:Int) (ok:Nat→Prop) (objs:List Obj) (blk:Nat→Option Nat),aL w ok objs blk (.int k n) (.int k n):=λk n _ _ _=>.aF (.int k n)
 have FX:∀(b:Bool) (ok:Nat→Prop) (objs:List Obj) (blk:Nat→Option Nat),aL w ok objs blk (.bool b) (.bool b):=λb _ _ _=>.aF (.bool b)
 cases op<;>simp only[pz]at h
 case add=>obtain⟨rfl,h1,h2⟩:=h;exact⟨_,_,by simp[binOp,Op.intArith,gq h1],h2,SF _ _⟩
 case sub=>obtain⟨rfl,h1,h2⟩:=h;exact⟨_,_,by simp[binOp,Op.intArith,gq h1],h2,SF _ _⟩
 case mul=>obtain⟨rfl,h1,h2⟩:=h;exact⟨_,_,by simp[binOp,Op.intArith,gq h1],h2,SF _ _⟩
 case quo=>obtain⟨rfl,h0,h1,h2⟩:=h;exact⟨_,_,by simp[binOp,Op.intDiv,h0,gq h1],h2,SF _ _⟩
 case rem=>obtain⟨rfl,h0,h2⟩:=h;exact⟨_,_,by simp[binOp,Op.intDiv,h0],h2,SF _ _⟩
 case and=>obtain⟨rfl,h2⟩:=h;exact⟨_,_,by simp[binOp,Op.intBits,JU],h2,SF _ _⟩
 case or=>obtain⟨rfl,h2⟩:=h;exact⟨_,_,by simp[binOp,Op.intBits,JU],h2,SF _ _⟩
 case xor=>obtain⟨rfl,h2⟩:=h;exact⟨_,_,by simp[binOp,Op.intBits,JU],h2,SF _ _⟩
 case andNot=>obtain⟨rfl,h2⟩:=h;exact⟨_,_,by simp[binOp,Op.intBits,JU],h2,SF _ _⟩
 case shl=>obtain⟨h1,h2⟩:=h;exact⟨_,_,by simp[binOp,Op.shift,Int.not_lt.2 h1],h2,SF _ _⟩
 case shr=>obtain⟨h1,h2⟩:=h;exact⟨_,_,by simp[binOp,Op.shift,Int.not_lt.2 h1],h2,SF _ _⟩
 case eql=>obtain⟨rfl,h2⟩:=h;exact⟨_,_,by simp[binOp,Op.intCmp];rfl,h2,FX _⟩
 case neq=>obtain⟨rfl,h2⟩:=h;exact⟨_,_,by simp[binOp,Op.intCmp];rfl,h2,FX _⟩
 case lss=>obtain⟨rfl,h2⟩:=h;exact⟨_,_,by simp[binOp,Op.intCmp],h2,FX _⟩
 case leq=>obtain⟨rfl,h2⟩:=h;exact⟨_,_,by simp[binOp,Op.intCmp],h2,FX _⟩
 case gtr=>obtain⟨rfl,h2⟩:=h;exact⟨_,_,by simp[binOp,Op.intCmp],h2,FX _⟩
 case geq=>obtain⟨rfl,h2⟩:=h;exact⟨_,_,by simp[binOp,Op.intCmp],h2,FX _⟩
theorem Qf(a b:List UInt8):(ByteArray.mk ⟨a⟩++ByteArray.mk ⟨b⟩:ByteArray)=ByteArray.mk ⟨a++b⟩:=by
 apply ByteArray.ext
 simp[ByteArray.data_append]
theorem size_mk(a:List UInt8):(ByteArray.mk ⟨a⟩).size=a.length:=rfl
theorem SG{op:BinOp}{x y:List UInt8}{K:PV→Prop}(t:TypeId)(h:gP op x y K) :
  ∃r v,(binOp op t (.string ⟨⟨x⟩⟩) (.string ⟨⟨y⟩⟩)).run P w=.ok v w∧K r∧(∀ok objs blk,aL w ok objs blk r v):=by
 have mkS:∀(n:List UInt8) (ok:Nat→Prop) (objs:List Obj) (blk:Nat→Option Nat),aL w ok objs blk (.str n) (.string ⟨⟨n⟩⟩):=λn _ _ _=>.aF (.str n)
 have FX:∀(b:Bool) (ok:Nat→Prop) (objs:List Obj) (blk:Nat→Option Nat),aL w ok objs blk (.bool b) (.bool b):=λb _ _ _=>.aF (.bool b)
 have hb:(x==y)=decide (x=y):=by by_cases hxy:x=y<;>simp[hxy]
 cases op<;>simp only[gP]at h
 case add=>
  obtain⟨h1,h2⟩:=h
  refine⟨_,_,?_,h2,mkS _⟩
  have:¬ (((x.length+y.length:Nat):Int) > IntKind.i64.max):=by simp only[IntKind.max,IntKind.signed,IntKind.bits,if_true];omega
  simp only[binOp,Op.stringOp,size_mk,Qf,if_neg this,Sem.run_pure]
 case eql=>exact⟨_,_,by simp[binOp,Op.stringOp,hb],h,FX _⟩
 case neq=>exact⟨_,_,by simp[binOp,Op.stringOp,hb],h,FX _⟩
 case lss=>exact⟨_,_,by simp[binOp,Op.stringOp],h,FX _⟩
 case leq=>exact⟨_,_,by simp[binOp,Op.stringOp,hb],h,FX _⟩
 case gtr=>exact⟨_,_,by simp[binOp,Op.stringOp,hb],h,FX _⟩
 case geq=>exact⟨_,_,by simp[binOp,Op.stringOp],h,FX _⟩
theorem fI{op:BinOp}{t:TypeId}{x y:Operand}{u v:Value}(h1:u≠.nilIface)(h2:∀cs,u≠.agg cs):(eqGuard op t x y u v).run P w=.ok () w:=by
 unfold eqGuard
 cases op<;>simp<;>cases u<;>simp_all
theorem run_equalIn_bool(d:Nat){t:TypeId}(hu:P.underlying t=some .bool)(x y:Bool):(Op.equalIn (d+1) t (.bool x) (.bool y)).run P w=.ok (x==y) w:=by
 simp[Op.equalIn,run_underlying hu]
theorem run_equal_bool{t:TypeId}(hu:P.underlying t=some .bool)(x y:Bool):(Op.equal t (.bool x) (.bool y)).run P w=.ok (x==y) w:=run_equalIn_bool 9999 hu x y
theorem x_(d:Nat){t e:TypeId}(hu:P.underlying t=some (.slice e))(x:Option Addr)(n c:Nat):(Op.equalIn (d+1) t (.slice x n c) (.slice none 0 0)).run P w=.ok x.isNone w:=by
 cases x<;>simp[Op.equalIn,run_underlying hu]
theorem fC{t e:TypeId}(hu:P.underlying t=some (.slice e))(x:Option Addr)(n c:Nat):(Op.equal t (.slice x n c) (.slice none 0 0)).run P w=.ok x.isNone w:=x_ 9999 hu x n c
theorem FY:∀{ps bs:List PV}{r:Bool},MO ps bs=some r→ps.all (λp=>!p.ref)=true∧bs.all (λp=>!p.ref)=true
 | [],[],_,_=>⟨rfl,rfl⟩
 | x::xs,y::ys,r,h=>by
  simp only[MO]at h
  split at h
  ·rename_i p q hp hq
   have ih:=FY hq
   refine⟨?_,?_⟩<;>simp only[List.all_cons,Bool.and_eq_true]
   ·refine⟨?_,ih.1⟩
    cases x<;>simp[PV.ref]<;>simp[Ze]at hp
   ·refine⟨?_,ih.2⟩
    cases y<;>simp[PV.ref]<;>cases x<;>simp[Ze]at hp
  ·cases h
theorem SH{op:BinOp}{t:TypeId}{ti:ay}{x y:Operand}{K:PV→Prop}(ht:eP P t ti)(R:Rel base ah w0 S blk a w)(h:nQ P ti t op (S.ev x) (S.ev y) K) :
  ∃r v,(eqGuard op t x y (a.eval x) (a.eval y)).run P w=.ok () w∧(binOp op t (a.eval x) (a.eval y)).run P w=.ok v w∧K r∧aL w (aV base S.objs blk) S.objs blk r v:=by
 have hx:=R.ev x
 have hy:=R.ev y
 have FX:∀(b:Bool) (ok:Nat→Prop) (objs:List Obj) (blk:Nat→Option Nat),aL w ok objs blk (.bool b) (.bool b):=λb _ _ _=>.aF (.bool b)
 unfold nQ at h
 split at h
 ·rename_i k n k' n' e1 e2
  rw[e1]at hx;rw[e2]at hy
  rw[hx.int,hy.int]
  obtain⟨r,v,h1,h2,h3⟩:=SE (P:=P) (w:=w) t h
  exact⟨r,v,fI (by simp) (by simp),h1,h2,h3 _ _ _⟩
 ·rename_i s s' e1 e2
  rw[e1]at hx;rw[e2]at hy
  rw[hx.str,hy.str]
  obtain⟨r,v,h1,h2,h3⟩:=SG (P:=P) (w:=w) t h
  exact⟨r,v,fI (by simp) (by simp),h1,h2,h3 _ _ _⟩
 ·rename_i b b' e1 e2
  rw[e1]at hx;rw[e2]at hy
  rw[hx.bool,hy.bool]
  obtain⟨hk,h⟩:=h
  have hu:P.underlying t=some .bool:=by
   have:=ht.resolve_left (by rw[hk];simp)
   rw[hk]at this;exact this.2
  cases op<;>simp only[]at h
  case eql=>exact⟨_,_,fI (by simp) (by simp),by simp[binOp,run_equal_bool hu],h,FX _ _ _ _⟩
  case neq=>exact⟨_,_,fI (by simp) (by simp),by simp[binOp,run_equal_bool hu],h,FX _ _ _ _⟩
 ·rename_i cs cs' e1 e2
  rw[e1]at hx;rw[e2]at hy
  obtain⟨⟨hg,he⟩,r,h1,h⟩:=h
  obtain⟨n1,n2⟩:=FY h1
  obtain⟨vs,ev1,g1⟩:=hx
  obtain⟨us,ev2,g2⟩:=hy
  rw[ev1,ev2]
  have heq:=he w (aV base S.objs blk) vs us r h1 ⟨g1.1,λi p v a b=>(g1.2 i p v a b).wQ (nC n1 a)⟩ ⟨g2.1,λi p v a b=>(g2.2 i p v a b).wQ (nC n2 a)⟩
  have hgd:(eqGuard op t x y (.agg ⟨vs⟩) (.agg ⟨us⟩)).run P w=.ok () w:=by
   unfold eqGuard
   cases op<;>simp[hg]
  cases op<;>simp only[]at h
  case eql=>exact⟨_,_,hgd,by simp[binOp,heq],h,FX _ _ _ _⟩
  case neq=>exact⟨_,_,hgd,by simp[binOp,heq],h,FX _ _ _ _⟩
 ·rename_i sz xs q sz' ys e1 e2
  rw[e1]at hx;rw[e2]at hy
  obtain⟨⟨e,hk⟩,h⟩:=h
  have hu:P.underlying t=some (.slice e):=by
   have:=ht.resolve_left (by rw[hk];simp)
   rw[hk]at this;exact this.2
  have hy':a.eval y=.slice none 0 0:=by
   have:=hy.sl
   generalize a.eval y=vy at this
   cases this with
   | slnil=>rfl
   | Cy _ _ hq=>exact absurd rfl hq
   | sl _ _ _ hq=>exact absurd rfl hq
  rw[hy']
  have hx':=hx.sl
  generalize a.eval x=vx at hx'
  have hg:(eqGuard op t x y vx (.slice none 0 0)).run P w=.ok () w:=by
   cases hx'<;>exact fI (by simp) (by simp)
  have hb:∀op,op=.eql∨op=.neq→(binOp op t vx (.slice none 0 0)).run P w=.ok (.bool (if op=.eql then q else !q)) w:=by
   rintro op (rfl | rfl)
   ·cases hx' with
    | slnil _ _ hq=>cases q<;>simp_all [binOp,fC hu]
    | Cy _ _ hq=>cases q<;>simp_all [binOp,fC hu]
    | sl _ _ _ hq=>cases q<;>simp_all [binOp,fC hu]
   ·cases hx' with
    | slnil _ _ hq=>cases q<;>simp_all [binOp,fC hu]
    | Cy _ _ hq=>cases q<;>simp_all [binOp,fC hu]
    | sl _ _ _ hq=>cases q<;>simp_all [binOp,fC hu]
  cases op<;>simp only[]at h
  case eql=>exact⟨_,_,hg,hb _ (.inl rfl),h,FX _ _ _ _⟩
  case neq=>exact⟨_,_,hg,hb _ (.inr rfl),h,FX _ _ _ _⟩
 ·exact h.elim
theorem U9{op:UnOp}{x:Operand}{K:PV→Prop}(R:Rel base ah w0 S blk a w)(h:JF op (S.ev x) K) :
  ∃r v,(Op.unary op (a.eval x)).run P w=.ok v w∧K r∧aL w (aV base S.objs blk) S.objs blk r v:=by
 have hx:=R.ev x
 unfold JF at h
 split at h
 ·rename_i e;rw[e]at hx;rw[hx.bool]
  exact⟨_,_,by simp[Op.unary],h,.aF (.bool _)⟩
 ·rename_i k n e;rw[e]at hx;rw[hx.int]
  exact⟨_,_,by simp[Op.unary,Op.intArith,gq h.1],h.2,.aF (.int _ _)⟩
 ·exact h.elim
theorem Qg{s d:TypeId}{ts td:ay}(hs:eP P s ts)(hd:eP P d td){x:Operand}{K:PV→Prop}(R:Rel base ah w0 S blk a w)(h:nR ts td (S.ev x) K) :
  ∃r v,(convert s d (a.eval x)).run P w=.ok v w∧K r∧aL w (aV base S.objs blk) S.objs blk r v:=by
 have hx:=R.ev x
 unfold nR at h
 split at h
 ·rename_i k k' n e e'
  rw[e']at hx;rw[hx.int]
  obtain⟨ds,hds,_⟩:=hs.under h.1
  have hu:P.underlying d=some (.int k):=by
   have:=hd.resolve_left (by rw[e];simp)
   rw[e]at this;exact this.2
  refine⟨_,_,?_,h.2,.aF (.int _ _)⟩
  simp[convert,run_underlying hds,run_underlying hu,Conv.intToInt]
 ·rename_i s' e e'
  rw[e']at hx;rw[hx.str]
  have hu:P.underlying d=some .string:=by
   have:=hd.resolve_left (by rw[e];simp)
   rw[e]at this;exact this.2
  have hu':P.underlying s=some .string:=by
   have:=hs.resolve_left (by rw[h.1];simp)
   rw[h.1]at this;exact this.2
  refine⟨_,_,?_,h.2,.aF (.str _)⟩
  simp[convert,run_underlying hu,run_underlying hu']
 ·rename_i k' n e e'
  rw[e']at hx;rw[hx.int]
  obtain⟨ds,hds,_⟩:=hs.under h.1
  have hu:P.underlying d=some .string:=by
   have:=hd.resolve_left (by rw[e];simp)
   rw[e]at this;exact this.2
  refine⟨_,.string (Utf8.encode n),?_,h.2,.aF (.str _)⟩
  simp[convert,run_underlying hds,run_underlying hu,Conv.intToString]
 ·exact h.elim
end
end Lp
namespace Lp
open Go
section
variable {P:Program}{base ah:Nat→Prop}{w0:Wz}{S:St}{blk:Nat→Option Nat}{a:Act}{w:World}{ok:Nat→Prop}{objs:List Obj}{D:TypeId→ay}
theorem add_lit(b off n:Nat):(⟨b,off,none⟩:Addr).add n=⟨b,off+n,none⟩:=by
 unfold Addr.add;split<;>simp_all
def At(R:PV→Value→Prop)(w:World)(b off:Nat)(x:PV):Prop:=∀j p,x.cells[j]?=some p→∃v,w.cell? ⟨b,off+j,none⟩=some v∧R p v
theorem U_{R:PV→Value→Prop}{b off:Nat}{x:PV}(h:At R w b off x):∃vs:List Value,vs.length=x.cells.length∧(∀j v,vs[j]?=some v→w.cell? ((⟨b,off,none⟩:Addr).add j)=some v)∧a_ R x.cells vs:=by
 refine⟨(List.range x.cells.length).map λj=>(w.cell? ⟨b,off+j,none⟩).getD undef,by simp,?_,?_,?_⟩
 ·intro j v hv
  rw[List.getElem?_map]at hv
  cases hr:(List.range x.cells.length)[j]? with
  | none=>simp[hr]at hv
  | some i=>
   have hi:=List.getElem?_eq_some_iff.1 hr
   obtain⟨hj,hi⟩:=hi
   simp at hi hj
   subst hi
   obtain⟨u,h1,_⟩:=h j _ (List.getElem?_eq_getElem hj)
   simp[hr,h1]at hv
   rw[add_lit,h1,hv]
 ·simp
 ·intro j p v hp hv
  rw[List.getElem?_map]at hv
  cases hr:(List.range x.cells.length)[j]? with
  | none=>simp[hr]at hv
  | some i=>
   have hi:=List.getElem?_eq_some_iff.1 hr
   obtain⟨hj,hi⟩:=hi
   simp at hi hj
   subst hi
   obtain⟨u,h1,h2⟩:=h j p hp
   simp[hr,h1]at hv
   subst hv;exact h2
def Hw(R:PV→Value→Prop)(x:PV)(v:Value):Prop:=
 match x with
 | .agg cs=>∃vs,v=.agg ⟨vs⟩∧a_ R cs vs
 | x=>R x v
theorem kG{R:PV→Value→Prop}{b off:Nat}{x:PV}{t:TypeId}{ti:ay}(ht:eP P t ti)(hk:ti.kind≠.none)(h:At R w b off x)(hl:x.cells.length=ti.size)(ha:x.isAgg=ti.agg) :
  ∃v,(loadVar t ⟨b,off,none⟩).run P w=.ok v w∧Hw R x v:=by
 obtain⟨vs,h1,h2,h3⟩:=U_ h
 cases hx:x.isAgg with
 | true=>
  obtain⟨cs,rfl⟩:∃cs,x=.agg cs:=by cases x<;>simp[PV.isAgg]at hx;exact⟨_,rfl⟩
  refine⟨.agg ⟨vs⟩,?_,vs,rfl,h3⟩
  have hr:=run_loadCells_list (P:=P) w ⟨b,off,none⟩ vs h2
  rw[h1,hl]at hr
  simp only[loadVar,Sem.run_bind,ht.uS hk,Result.andThen_ok,←ha,hx,if_true,ht.bY hk,hr]
  rfl
 | false=>
  have hc:x.cells=[x]:=by cases x<;>simp[PV.isAgg]at hx<;>rfl
  rw[hc]at h3
  have h0:=h 0 x (by rw[hc];rfl)
  obtain⟨v,g1,g2⟩:=h0
  refine⟨v,?_,?_⟩
  ·simp only[loadVar,Sem.run_bind,ht.uS hk,Result.andThen_ok,←ha,hx,Bool.false_eq_true,if_false,run_load]
   have:w.cell? ⟨b,off,none⟩=some v:=by simpa using g1
   rw[this]
  ·cases x<;>simp[PV.isAgg]at hx<;>exact g2
theorem At.wQ {b off:Nat}{x:PV}(vs:Nat→Value)
  (hcell:∀(j:Nat) (p:PV),x.cells[j]?=some p→w.cell? ⟨b,off+j,none⟩=some (vs j))
  (hrep:∀(j:Nat) (p:PV),x.cells[j]?=some p→bQ w ok p (vs j)):At (bQ w ok) w b off x:=λj p hp=>⟨vs j,hcell j p hp,hrep j p hp⟩
theorem bQ.Va {b off:Nat}{x:PV}(hb:ok b∧b<w.heap.size)(h:At (bQ w ok) w b off x):bQ w ok (.addr x) (.pointer (some ⟨b,off,none⟩)):=by
 refine .addr x b off (λj=>(w.cell? ⟨b,off+j,none⟩).getD undef) hb ?_ ?_
 ·intro j p hp;obtain⟨v,h1,_⟩:=h j p hp;simp[h1]
 ·intro j p hp;obtain⟨v,h1,h2⟩:=h j p hp;simpa[h1] using h2
theorem yc{x:PV}{v:Value}(h:Hw (bQ w ok) x v):aL w ok objs blk x v:=by
 cases x with
 | agg cs=>obtain⟨vs,rfl,h1⟩:=h;exact⟨vs,rfl,h1.mono λ_ _ h=>.aF h⟩
 | _=>exact .aF h
theorem wh{x:PV}{v:Value}(h:Hw (aP w ok objs blk) x v):aL w ok objs blk x v:=by
 cases x with
 | agg cs=>obtain⟨vs,rfl,h1⟩:=h;exact⟨vs,rfl,h1⟩
 | _=>exact .dG h
theorem At.sub {R:PV→Value→Prop}{b off:Nat}{cs:List PV}(h:At R w b off (.agg cs))(o n:Nat)(agg:Bool)(hl:o+n≤cs.length)(h1:agg=false→n=1)
  (hd:∀c∈cs,c.isAgg=false):At R w b (off+o) (sub cs o n agg):=by
 intro j p hp
 unfold Lp.sub at hp
 cases agg with
 | true=>
  simp only[if_true,PV.cells]at hp
  rw[List.getElem?_take]at hp
  split at hp
  ·rw[List.getElem?_drop]at hp
   obtain⟨v,g1,g2⟩:=h (o+j) p hp
   exact⟨v,by rw[←g1];congr 2;omega,g2⟩
  ·cases hp
 | false=>
  have hn:=h1 rfl
  subst hn
  simp only[Bool.false_eq_true,if_false]at hp
  have ho:o<cs.length:=by omega
  rw[List.getD_eq_getElem?_getD,List.getElem?_eq_getElem ho,Option.getD_some]at hp
  have hna:=hd _ (List.getElem_mem ho)
  have hc:(cs[o]).cells=[cs[o]]:=by revert hna;cases cs[o]<;>simp[PV.isAgg,PV.cells]
  rw[hc]at hp
  cases j with
  | zero=>
   simp at hp
   obtain⟨v,g1,g2⟩:=h o cs[o] (List.getElem?_eq_getElem ho)
   exact⟨v,by simpa using g1,hp ▸ g2⟩
  | succ j=>simp at hp
theorem MQ{base ah:Nat→Prop}(R:bW base ah objs blk w){k:Nat}{o:Obj}{i:Nat}{e:PV}{g:Nat}(h1:objs[k]?=some o)(h2:o.live=true)(h3:o.xs[i]?=some e)(hb:blk k=some g)(hty:o.ty≠MT) :
  e.cells.length=o.sz∧At (aP w (aV base objs blk) objs blk) w g (i*o.sz) e:=by
 have h:=R.ob k o h1 h2
 unfold bf at h
 rw[hb]at h
 obtain⟨c,x1,x2,x3⟩:=h
 rw[jc hty]at x1
 obtain⟨y1,y2⟩:=x3 i e h3
 refine⟨y1,λj p hp=>?_⟩
 obtain⟨v,z1,z2⟩:=y2 j p hp
 exact⟨v,by simp[World.cell?,x1,z1],z2⟩
theorem aL.aT {k ver i f:Nat}{v:Value}(h:aL w ok objs blk (.aT k ver i f) v){o:Obj}(h1:objs[k]?=some o)(h2:o.live=true)(h3:o.ver=ver) :
  ∃g,blk k=some g∧v=.pointer (some ⟨g,i*o.sz+f,none⟩)∧o.ty≠MT:=by
 obtain⟨_,o',g1,_,g3⟩:=h
 rw[h1]at g1
 cases g1
 obtain⟨x1,g,x2,x3⟩:=g3 h2 h3
 exact⟨g,x2,x3,x1⟩
theorem aL.fw {k ver:Nat}{v:Value}(h:aL w ok objs blk (.fw k ver) v){o:Obj}(h1:objs[k]?=some o)(h2:o.live=true)(h3:o.ver=ver) :
  ∃g,blk k=some g∧v=JS o.sz g∧o.ty=MT:=by
 obtain⟨_,o',g1,_,g3⟩:=h
 rw[h1]at g1
 cases g1
 obtain⟨x1,g,x2,x3⟩:=g3 h2 h3
 exact⟨g,x2,x3,x1⟩
theorem aL.aW {k ver:Nat}{v:Value}(h:aL w ok objs blk (.aW k ver) v){o:Obj}(h1:objs[k]?=some o)(h2:o.live=true)(h3:o.ver=ver):sH w blk k o v:=by
 obtain⟨_,o',g1,_,g3⟩:=h
 rw[h1]at g1
 cases g1
 exact (g3 h2 h3).2
theorem aL.qC {k ver:Nat}{v:Value}(h:aL w ok objs blk (.aW k ver) v){o:Obj}(h1:objs[k]?=some o)(h2:o.live=true)(h3:o.ver=ver):o.ty≠MT:=by
 obtain⟨_,o',g1,_,g3⟩:=h
 rw[h1]at g1
 cases g1
 exact (g3 h2 h3).1
end
end Lp
namespace Lp
open Go
open Option (getD_some map_none)
section
variable {P:Program}{base ah:Nat→Prop}{w0:Wz}{S:St}{blk:Nat→Option Nat}{a:Act}{w:World}{D:TypeId→ay}
theorem nD{cs:List PV}(h:cs.all (λc=>!c.isAgg)=true):∀c∈cs,c.isAgg=false:=by
 intro c hc;simpa using List.all_eq_true.1 h c hc
theorem FZ(cs:List PV)(o n:Nat)(agg:Bool)(hl:o+n≤cs.length)(h1:agg=false→n=1)(hd:cs.all (λc=>!c.isAgg)=true) :
  (sub cs o n agg).cells.length=n∧(sub cs o n agg).isAgg=agg:=by
 unfold sub
 cases agg with
 | true=>simp only[if_true,PV.cells,PV.isAgg,List.length_take,List.length_drop,and_true];omega
 | false=>
  have:=h1 rfl
  subst this
  simp only[Bool.false_eq_true,if_false]
  rw[List.getD_eq_getElem?_getD,List.getElem?_eq_getElem (by omega),getD_some]
  have hna:=nD hd _ (List.getElem_mem (l:=cs) (n:=o) (by omega))
  revert hna
  cases cs[o]<;>simp[PV.isAgg,PV.cells]
theorem SI{t:TypeId}{x:Operand}{o:Oper}{K:KT}(ho:o.op=.load t x)(hD:∀t,eP P t (D t))(R:Rel base ah w0 S blk a w)(h:dK (D t) (S.ev x) S.objs K) :
  Out P base ah w0 S o a w K:=by
 have hx:=R.ev x
 unfold dK at h
 split at h
 ·rename_i p e
  rw[e]at hx
  obtain⟨hk,h1,h2,h3⟩:=h
  have hx':=hx.addr
  generalize hv:a.eval x=v at hx'
  cases hx' with
  | addr _ b off vs hok hcell hrep=>
   obtain⟨u,g1,g2⟩:=kG (hD t) hk (At.wQ vs hcell hrep) h1 h2
   exact .pure R (by simp[execOp,ho,hv,Instr.loadAt,Instr.sureAddr,g1]) h3 (yc g2)
 ·rename_i k ver i f e
  rw[e]at hx
  obtain⟨ob,el,h1,h2,h3,h4,hk,h5,h6,h7,h8⟩:=h
  obtain⟨g,hb,hv,hty⟩:=hx.aT h1 h2 h3
  obtain⟨y1,y2⟩:=MQ R.objs h1 h2 h4 hb hty
  have hat:At (aP w (aV base S.objs blk) S.objs blk) w g (i*ob.sz) (.agg el.cells):=y2
  have hs:=At.sub hat f (D t).size (D t).agg h5 h6 (nD h7)
  obtain⟨c1,c2⟩:=FZ el.cells f _ _ h5 h6 h7
  obtain⟨u,g1,g2⟩:=kG (hD t) hk hs c1 c2
  exact .pure R (by simp[execOp,ho,hv,Instr.loadAt,Instr.sureAddr,g1]) h8 (wh g2)
 ·exact h.elim
theorem sI{b off:Nat}{f:Field}{n:Nat}(hs:(Go.sizeOf f.type).run P w=.ok n w)(hn:n≠0):(fieldPlace ⟨b,off,none⟩ f).run P w=.ok ⟨b,off+f.offset,none⟩ w:=by
 simp[fieldPlace,hs,hn,add_lit]
theorem qD{t:TypeId}{f:Nat}{K:Nat→ay→Prop}(hD:∀t,eP P t (D t))(h:dD D t f K) :
  ∃(fl:Array Field) (fd:Field),P.underlying t=some (.struct fl)∧fl[f]?=some fd∧(D fd.type).kind≠.none∧(D fd.type).size≠0∧K fd.offset (D fd.type):=by
 unfold dD at h
 split at h
 ·rename_i fs hk
  obtain⟨x,h1,h2,h3,h4⟩:=h
  have:=(hD t).resolve_left (by rw[hk];simp)
  rw[hk]at this
  obtain⟨_,fl,hu,hm⟩:=this
  rw[←hm,List.getElem?_map]at h1
  cases hf:fl.toList[f]? with
  | none=>rw[hf]at h1;simp at h1
  | some fd=>
   rw[hf]at h1
   simp at h1
   subst h1
   exact⟨fl,fd,hu,by simpa using hf,h2,h3,h4⟩
 ·exact h.elim
theorem EJ{t:TypeId}{x:Operand}{f:Nat}{o:Oper}{K:KT}(ho:o.op=.fieldAddr t x f)(hD:∀t,eP P t (D t))(R:Rel base ah w0 S blk a w)(h:aN D t (S.ev x) f S.objs K) :
  Out P base ah w0 S o a w K:=by
 have hx:=R.ev x
 unfold aN at h
 split at h
 ·rename_i cs e
  rw[e]at hx
  obtain⟨fl,fd,hu,hf,hk,hs,h1,h2,h3,h4⟩:=qD hD h
  have hx':=hx.addr
  generalize hv:a.eval x=v at hx'
  cases hx' with
  | addr _ b off vs hok hcell hrep=>
   have hat:=At.sub (At.wQ vs hcell hrep) fd.offset (D fd.type).size (D fd.type).agg h1 h2 (nD h3)
   refine .pure R (v:=.pointer (some ⟨b,off+fd.offset,none⟩)) ?_ h4 (.aF (.Va hok hat))
   simp[execOp,ho,hv,Instr.fieldAt,run_underlying hu,hf,Instr.sureAddr,sI ((hD fd.type).bY hk w) hs]
 ·rename_i k ver i f' e
  rw[e]at hx
  obtain⟨ob,h1,h2,h3,h⟩:=h
  obtain⟨fl,fd,hu,hf,hk,hs,h4⟩:=qD hD h
  obtain⟨g,hb,hv,hty⟩:=hx.aT h1 h2 h3
  refine .pure R (v:=.pointer (some ⟨g,i*ob.sz+f'+fd.offset,none⟩)) ?_ h4 ?_
  ·simp[execOp,ho,hv,Instr.fieldAt,run_underlying hu,hf,Instr.sureAddr,sI ((hD fd.type).bY hk w) hs]
  ·exact⟨rfl,ob,h1,by omega,λ_ _=>⟨hty,g,hb,by rw[Nat.add_assoc]⟩⟩
 ·exact h.elim
theorem getElem_mk{vs:List Value}{j:Nat}{v:Value}(h:vs[j]?=some v):(Array.mk vs)[j]?=some v:=by simpa using h
theorem JV{t:TypeId}{ti:ay}(ht:eP P t ti)(hk:ti.kind≠.none){R:PV→Value→Prop}{cs:List PV}{vs:List Value}(h:a_ R cs vs)(off:Nat)(hl:off+ti.size≤cs.length)(hs:ti.size≠0) :
  ∃v,(part t ⟨vs⟩ off).run P w=.ok v w∧(if ti.agg then ∃us,v=.agg ⟨us⟩∧a_ R ((cs.drop off).take ti.size) us else R (cs.getD off .dead) v):=by
 unfold part
 cases ha:ti.agg with
 | true=>
  refine⟨.agg ⟨(vs.drop off).take ti.size⟩,?_,?_⟩
  ·simp only[Sem.run_bind,ht.uS hk,Result.andThen_ok,ha,if_true,ht.bY hk]
   simp
  ·simp only[if_true]
   refine⟨_,rfl,by simp[h.1],λi p v h1 h2=>?_⟩
   rw[List.getElem?_take]at h1 h2
   split at h1
   ·rename_i hi
    rw[if_pos hi]at h2
    rw[List.getElem?_drop]at h1 h2
    exact h.2 _ _ _ h1 h2
   ·cases h1
 | false=>
  have ho:off<cs.length:=by omega
  have ho':off<vs.length:=by rw[←h.1];exact ho
  refine⟨vs[off],?_,?_⟩
  ·simp only[Sem.run_bind,ht.uS hk,Result.andThen_ok,ha,Bool.false_eq_true,if_false]
   rw[getElem_mk (List.getElem?_eq_getElem ho')]
   rfl
  ·simp only[Bool.false_eq_true,if_false]
   rw[List.getD_eq_getElem?_getD,List.getElem?_eq_getElem ho,getD_some]
   exact h.2 off _ _ (List.getElem?_eq_getElem ho) (List.getElem?_eq_getElem ho')
theorem JW{ok:Nat→Prop}{objs:List Obj}{cs:List PV}{off n:Nat}{agg:Bool}{v:Value}(h:if agg then ∃us,v=.agg ⟨us⟩∧a_ (aP w ok objs blk) ((cs.drop off).take n) us else aP w ok objs blk (cs.getD off .dead) v) :
  aL w ok objs blk (sub cs off n agg) v:=by
 unfold sub
 cases agg with
 | true=>simp only[if_true]at h ⊢;exact h
 | false=>simp only[Bool.false_eq_true,if_false]at h ⊢;exact .dG h
theorem Qh{t:TypeId}{x:Operand}{f:Nat}{o:Oper}{K:KT}(ho:o.op=.field t x f)(hD:∀t,eP P t (D t))(R:Rel base ah w0 S blk a w)(h:mq D t (S.ev x) f S.objs K) :
  Out P base ah w0 S o a w K:=by
 have hx:=R.ev x
 unfold mq at h
 split at h
 ·rename_i cs e
  rw[e]at hx
  obtain⟨fl,fd,hu,hf,hk,hs,h1,h2⟩:=qD hD h
  obtain⟨vs,hv,hr⟩:=hx
  obtain⟨v,g1,g2⟩:=JV (P:=P) (w:=w) (hD fd.type) hk hr fd.offset h1 hs
  refine .pure R (v:=v) ?_ h2 (JW g2)
  simp[execOp,ho,hv,Instr.field,run_underlying hu,hf,asAgg,g1]
 ·exact h.elim
theorem eP.slice {t:TypeId}{ti:ay}{e:TypeId}(h:eP P t ti)(hk:ti.kind=.slice e):P.underlying t=some (.slice e):=by
 have:=h.resolve_left (by rw[hk];simp)
 rw[hk]at this;exact this.2
theorem eP.arr {t:TypeId}{ti:ay}{e:TypeId}{n:Nat}(h:eP P t ti)(hk:ti.kind=.array n e):P.underlying t=some (.array n e):=by
 have:=h.resolve_left (by rw[hk];simp)
 rw[hk]at this;exact this.2
theorem eP.Qi {t:TypeId}{ti:ay}(h:eP P t ti)(hk:ti.kind=.str):P.underlying t=some .string:=by
 have:=h.resolve_left (by rw[hk];simp)
 rw[hk]at this;exact this.2
theorem EK{t:TypeId}{x i:Operand}{o:Oper}{K:KT}(ho:o.op=.indexAddr t x i)(hD:∀t,eP P t (D t))(R:Rel base ah w0 S blk a w)(h:aZ D t (S.ev x) (S.ev i) S.objs K) :
  Out P base ah w0 S o a w K:=by
 have hx:=R.ev x
 have hi:=R.ev i
 unfold aZ at h
 split at h
 ·rename_i e sz xs q k n hk e1 e2
  rw[e1]at hx;rw[e2]at hi
  have hi:=hi.int
  obtain⟨hke,h0,y,h1,h2,h3⟩:=h
  have hu:=(hD t).slice hk
  have hlt:n.toNat<xs.length:=(List.getElem?_eq_some_iff.1 h1).1
  have hx':=hx.sl
  generalize hv:a.eval x=v at hx'
  cases hx' with
  | slnil=>simp at h1
  | Cy=>simp at h1
  | sl _ _ _ hq b off cap vs hok hlen hcap hsz hcell hrep=>
   have hat:At (bQ w (aV base S.objs blk)) w b (off+n.toNat*sz) y:=
    At.wQ (vs n.toNat) (λj p hp=>hcell n.toNat y j p h1 hp) (λj p hp=>hrep n.toNat y j p h1 hp)
   refine .pure R (v:=.pointer (some ⟨b,off+n.toNat*sz,none⟩)) ?_ h3 (.aF (.Va (hok (by rintro rfl;simp at h1)) hat))
   have hn:n<(xs.length:Int):=by omega
   simp[execOp,ho,hv,hi,Instr.indexAt,asIntOf,run_underlying hu,h0,hn,(hD e).bY hke,h2,add_lit]
 ·rename_i e k ver k' n hk e1 e2
  rw[e1]at hx;rw[e2]at hi
  have hi:=hi.int
  obtain⟨hke,h0,ob,h1,h2,h3,h4,h5,h6⟩:=h
  have hu:=(hD t).slice hk
  have hh:=hx.aW h1 h2 h3
  have hty:=hx.qC h1 h2 h3
  unfold sH at hh
  cases hb:blk k with
  | none=>rw[hb]at hh;rw[hh.2]at h4;simp at h4;omega
  | some g=>
   rw[hb]at hh
   obtain⟨cap,c,hv,_,_⟩:=hh
   refine .pure R (v:=.pointer (some ⟨g,n.toNat*ob.sz+0,none⟩)) ?_ h6 ?_
   ·simp[execOp,ho,hv,hi,Instr.indexAt,asIntOf,run_underlying hu,h0,h4,(hD e).bY hke,h5,add_lit]
   ·exact⟨rfl,ob,h1,by omega,λ_ _=>⟨hty,g,hb,rfl⟩⟩
 ·rename_i m e cs k n hk e1 e2
  rw[e1]at hx;rw[e2]at hi
  have hi:=hi.int
  obtain⟨hke,h0,hm,h1,h2,h3,h4⟩:=h
  have hu:=(hD t).arr hk
  have hx':=hx.addr
  generalize hv:a.eval x=v at hx'
  cases hx' with
  | addr _ b off vs hok hcell hrep=>
   have hat:=At.sub (At.wQ vs hcell hrep) (n.toNat*(D e).size) (D e).size (D e).agg (by rw[Nat.add_mul]at h1;omega) h2 (nD h3)
   refine .pure R (v:=.pointer (some ⟨b,off+n.toNat*(D e).size,none⟩)) ?_ h4 (.aF (.Va hok hat))
   simp[execOp,ho,hv,hi,Instr.indexAt,Instr.sureAddr,asIntOf,run_underlying hu,h0,hm,(hD e).bY hke,add_lit]
 ·rename_i m e k ver i' f k' n hk e1 e2
  rw[e1]at hx;rw[e2]at hi
  have hi:=hi.int
  obtain⟨hke,h0,hm,ob,h1,h2,h3,h4⟩:=h
  have hu:=(hD t).arr hk
  obtain⟨g,hb,hv,hty⟩:=hx.aT h1 h2 h3
  refine .pure R (v:=.pointer (some ⟨g,i'*ob.sz+f+n.toNat*(D e).size,none⟩)) ?_ h4 ?_
  ·simp[execOp,ho,hv,hi,Instr.indexAt,Instr.sureAddr,asIntOf,run_underlying hu,h0,hm,(hD e).bY hke,add_lit]
  ·exact⟨rfl,ob,h1,by omega,λ_ _=>⟨hty,g,hb,by rw[Nat.add_assoc]⟩⟩
 ·exact h.elim
theorem Qj{t:TypeId}{x i:Operand}{o:Oper}{K:KT}(ho:o.op=.index t x i)(hD:∀t,eP P t (D t))(R:Rel base ah w0 S blk a w)(h:jN D t (S.ev x) (S.ev i) S.objs K) :
  Out P base ah w0 S o a w K:=by
 have hx:=R.ev x
 have hi:=R.ev i
 unfold jN at h
 split at h
 ·rename_i s k n hk e1 e2
  rw[e1]at hx;rw[e2]at hi
  have hi:=hi.int
  have hv:=hx.str
  obtain⟨h0,b,h1,h2⟩:=h
  have hu:=(hD t).Qi hk
  refine .pure R (v:=.int .u8 b.toNat) ?_ h2 (.aF (.int _ _))
  have hg:(ByteArray.mk ⟨s⟩)[n.toNat]?=some b:=by
   have hl:n.toNat<s.length:=(List.getElem?_eq_some_iff.1 h1).1
   rw[getElem?_pos (ByteArray.mk ⟨s⟩) n.toNat (show n.toNat<(ByteArray.mk ⟨s⟩).size from hl)]
   have:=(List.getElem?_eq_some_iff.1 h1).2
   exact congrArg some this
  simp[execOp,ho,hv,hi,Instr.index,asIntOf,run_underlying hu,h0,hg]
 ·rename_i m e cs k n hk e1 e2
  rw[e1]at hx;rw[e2]at hi
  have hi:=hi.int
  obtain⟨hke,h0,hm,h1,hs,h4⟩:=h
  have hu:=(hD t).arr hk
  obtain⟨vs,hv,hr⟩:=hx
  obtain⟨v,g1,g2⟩:=JV (P:=P) (w:=w) (hD e) hke hr (n.toNat*(D e).size) (by rw[Nat.add_mul]at h1;omega) hs
  refine .pure R (v:=v) ?_ h4 (JW g2)
  simp[execOp,ho,hv,hi,Instr.index,asIntOf,run_underlying hu,h0,hm,(hD e).bY hke,g1]
 ·exact h.elim
theorem Vb{t:TypeId}{x:Operand}{o:Oper}{K:KT}(ho:o.op=.call { callee:=.builtin .len,args:=#[x],argTypes:=#[t] })(hD:∀t,eP P t (D t))(R:Rel base ah w0 S blk a w)(h:oI D t (S.ev x) S.objs K) :
  Out P base ah w0 S o a w K:=by
 have hx:=R.ev x
 unfold oI at h
 split at h
 ·rename_i s hk e1
  rw[e1]at hx
  have hv:=hx.str
  exact .pure R (v:=.int .i64 s.length) (by simp[execOp,ho,resolve,invoke,builtin,hv,Builtin.len_,run_underlying ((hD t).Qi hk),goInt,size_mk]) h (.aF (.int _ _))
 ·rename_i e sz xs q hk e1
  rw[e1]at hx
  have hx':=hx.sl
  generalize hv:a.eval x=v at hx'
  refine .pure R (v:=.int .i64 xs.length) ?_ h (.aF (.int _ _))
  cases hx'<;>simp[execOp,ho,resolve,invoke,builtin,hv,Builtin.len_,run_underlying ((hD t).slice hk),goInt]
 ·rename_i e k ver hk e1
  rw[e1]at hx
  obtain⟨ob,h1,h2,h3,h4⟩:=h
  have hh:=hx.aW h1 h2 h3
  refine .pure R (v:=.int .i64 ob.xs.length) ?_ h4 (.aF (.int _ _))
  unfold sH at hh
  cases hb:blk k with
  | none=>
   rw[hb]at hh
   obtain⟨hv,hn⟩:=hh
   simp[execOp,ho,resolve,invoke,builtin,hv,hn,Builtin.len_,run_underlying ((hD t).slice hk),goInt]
  | some g=>
   rw[hb]at hh
   obtain⟨cap,c,hv,_,_⟩:=hh
   simp[execOp,ho,resolve,invoke,builtin,hv,Builtin.len_,run_underlying ((hD t).slice hk),goInt]
 ·exact h.elim
theorem oU{x:Operand}{d:Int}{K:Int→Prop}(R:Rel base ah w0 S blk a w)(h:bR (some (S.ev x)) d K):∃k n,a.eval x=.int k n∧K n:=by
 have hx:=R.ev x
 unfold bR at h
 split at h
 ·rename_i heq;cases heq
 ·rename_i k n heq
  simp only[Option.some.injEq]at heq
  rw[heq]at hx
  exact⟨k,n,hx.int,h⟩
 ·exact h.elim
theorem run_sliceBound{v:Value}{k:IntKind}{n:Int}{y:Nat}{code:BoundsCode}(hv:v=.int k n)(h0:0≤n)(h1:n≤y):(Instr.sliceBound v y code).run P w=.ok n.toNat w:=by
 subst hv
 simp[Instr.sliceBound,asIntOf,h0,h1]
theorem oV(d:Int)(K:Int→Prop):bR none d K=K d:=rfl
theorem nS{lo hi:Option Operand}{len cap:Nat}{b:Bool}{K:Int→Int→Prop}(R:Rel base ah w0 S blk a w)(hlc:len≤cap)
  (h:bR (lo.map S.ev) 0 λl=>bR (hi.map S.ev) len λh=>0≤l∧l≤h∧h≤len∧K l h) :
  ∃l h:Int,(Instr.sliceBounds b len cap (lo.map a.eval) (hi.map a.eval) none).run P w=.ok (l.toNat,h.toNat,cap) w∧0≤l∧l≤h∧h≤len∧K l h:=by
 cases lo with
 | none=>
  rw[map_none,oV]at h
  cases hi with
  | none=>
   rw[map_none,oV]at h
   exact⟨0,len,by simp[Instr.sliceBounds],h⟩
  | some y=>
   obtain⟨k,n,hv,h⟩:=oU R h
   exact⟨0,n,by simp[Instr.sliceBounds,run_sliceBound hv (by omega) (show n≤(cap:Int) by omega)],h⟩
 | some x=>
  obtain⟨k,n,hv,h⟩:=oU R h
  cases hi with
  | none=>
   rw[map_none,oV]at h
   exact⟨n,len,by simp[Instr.sliceBounds,run_sliceBound hv h.1 (show n≤(len:Int) by omega)],h⟩
  | some y=>
   obtain⟨k',m,hv',h⟩:=oU R h
   exact⟨n,m,by simp[Instr.sliceBounds,run_sliceBound hv' (by omega) (show m≤(cap:Int) by omega),run_sliceBound hv h.1 (show n≤((m.toNat:Nat):Int) by omega)],h⟩
theorem extract_mk(s:List UInt8)(l h:Nat):(ByteArray.mk ⟨s⟩).extract l h=ByteArray.mk ⟨(s.take h).drop l⟩:=by
 apply ByteArray.ext
 rw[ByteArray.data_extract]
 apply Array.ext'
 simp[List.drop_take]
end
end Lp
namespace Lp
open Go
section
variable {P:Program}{base ah:Nat→Prop}{w0:Wz}{S:St}{blk:Nat→Option Nat}{a:Act}{w:World}{D:TypeId→ay}{objs:List Obj}
theorem Rel.change {w':World}{ai:List Obj}{aj:Nat→Option Nat}(R:Rel base ah w0 S blk a w)(hs:w.heap.size≤w'.heap.size)
  (hw:∀b x,aH S.objs blk b→w.heap[b]?=some x→w'.heap[b]?=some x) (hok:∀b,b<w.heap.size→aV base S.objs blk b→aV base ai aj b)
  (ho:lD w w' S.objs ai blk aj) (kW:bW base ah ai aj w') (hsm:Sm w w'):Rel base ah w0 ⟨S.tmps,ai⟩ aj a w':=by
 refine⟨R.mM.mono (λb hb h=>⟨hok b hb h.1,h.2⟩) (λb x h=>hw b x h.1.2),R.BP,λt p hp=>(R.tm t p hp).mono hs hok (λb x h=>hw b x h.2) ho,kW,R.pr,λb hb=>?_,Nat.le_trans R.gr hs,R.pb,λx hx=>(R.ext x hx).mono hs hok (λb x h=>hw b x h.2) ho,R.wP,R.sm.trans hsm,R.gl⟩
 have h1:=R.fr b hb
 have h2:=R.pr b hb
 cases hx:w0.heap[b]? with
 | none=>rw[Array.getElem?_eq_none_iff]at hx;omega
 | some x=>
  rw[hx]at h1
  rw[hw b x (λk o h1 h2 h3=>R.objs.np k o b h1 h2 h3 hb) h1]
def aC(blk:Nat→Option Nat)(n:Nat)(g:Option Nat):Nat→Option Nat:=λj=>if j=n then g else blk j
theorem kH{o1:Obj}{k:Nat}{o:Obj}(h:(objs++[o1])[k]?=some o):(k<objs.length∧objs[k]?=some o)∨(k=objs.length∧o=o1):=by
 rw[List.getElem?_append]at h
 split at h
 ·rename_i hk;exact .inl ⟨hk,h⟩
 ·rename_i hk
  have:k-objs.length=0:=by
   cases hj:k-objs.length with
   | zero=>rfl
   | succ j=>rw[hj]at h;simp at h
  rw[this]at h
  simp at h
  exact .inr ⟨by omega,h.symm⟩
theorem Rel.zR {w':World}{o1:Obj}{gb:Option Nat}(R:Rel base ah w0 S blk a w)(hg:jd w w')(hgb:∀g,gb=some g→w.heap.size≤g)
  (kW:(∀p v,aP w (aV base S.objs blk) S.objs blk p v→aP w' (aV base (S.objs++[o1]) (aC blk S.objs.length gb)) (S.objs++[o1]) (aC blk S.objs.length gb) p v)→
   bf w' (aV base (S.objs++[o1]) (aC blk S.objs.length gb)) (S.objs++[o1]) (aC blk S.objs.length gb) S.objs.length o1) :
  Rel base ah w0 ⟨S.tmps,S.objs++[o1]⟩ (aC blk S.objs.length gb) a w':=by
 have hb:∀k,k<S.objs.length→aC blk S.objs.length gb k=blk k:=λk hk=>by unfold aC;rw[if_neg (by omega)]
 have hb':aC blk S.objs.length gb S.objs.length=gb:=by unfold aC;rw[if_pos rfl]
 have hold:∀(k:Nat) (o:Obj),S.objs[k]?=some o→(S.objs++[o1])[k]?=some o:=by
  intro k o h
  have hk:=(List.getElem?_eq_some_iff.1 h).1
  rw[List.getElem?_append,if_pos hk];exact h
 have ho:lD w w' S.objs (S.objs++[o1]) blk (aC blk S.objs.length gb):=by
  intro k o h
  have hk:=(List.getElem?_eq_some_iff.1 h).1
  exact⟨o,hold k o h,Nat.le_refl _,λhl _=>⟨hl,hb k hk,rfl,rfl,λ_=>rfl,λg c _ hc=>⟨c,hg.2.1 g _ hc,rfl⟩⟩⟩
 have hlt:∀(k:Nat) (o:Obj) (g:Nat),S.objs[k]?=some o→o.live=true→blk k=some g→g<w.heap.size:=by
  intro k o g h1 h2 h3
  have:=R.objs.ob k o h1 h2
  unfold bf at this
  rw[h3]at this
  obtain⟨c,x,_⟩:=this
  exact (Array.getElem?_eq_some_iff.1 x).1
 have hok:∀b,b<w.heap.size→aV base S.objs blk b→aV base (S.objs++[o1]) (aC blk S.objs.length gb) b:=by
  intro b hbl hb0
  refine⟨hb0.1,λk o h1 h2=>?_⟩
  rcases kH h1 with ⟨hk,h1⟩ | ⟨rfl,rfl⟩
  ·rw[hb k hk];exact hb0.2 k o h1 h2
  ·rw[hb'];intro e;have:=hgb b e;omega
 refine R.change hg.1 (λb x _ h=>hg.2.1 b x h) hok ho ⟨?_,?_,?_⟩ hg.2.2
 ·intro k o h1 h2
  rcases kH h1 with ⟨hk,h1'⟩ | ⟨rfl,rfl⟩
  ·have hh:=R.objs.ob k o h1' h2
   unfold bf at hh ⊢
   rw[hb k hk]
   cases hbk:blk k with
   | none=>rw[hbk]at hh;exact hh
   | some g=>
    rw[hbk]at hh
    obtain⟨c',x1,x2,x3⟩:=hh
    refine⟨c',hg.2.1 g _ x1,x2,λi x hx=>⟨(x3 i x hx).1,λj p hp=>?_⟩⟩
    obtain⟨v,y1,y2⟩:=(x3 i x hx).2 j p hp
    exact⟨v,y1,y2.mono hg.1 hok (λb x _ h=>hg.2.1 b x h) ho⟩
  ·exact kW λp v h=>h.mono hg.1 hok (λb x _ h=>hg.2.1 b x h) ho
 ·intro k k' o o' g hne h1 h2 h3 h4 h5 h6
  rcases kH h1 with ⟨hk,h1'⟩ | ⟨ek,_⟩
  ·rw[hb k hk]at h5
   rcases kH h3 with ⟨hk',h3'⟩ | ⟨ek',_⟩
   ·rw[hb k' hk']at h6
    exact R.objs.xR k k' o o' g hne h1' h2 h3' h4 h5 h6
   ·rw[ek',hb']at h6
    have:=hlt k o g h1' h2 h5
    have:=hgb g h6
    omega
  ·rw[ek,hb']at h5
   rcases kH h3 with ⟨hk',h3'⟩ | ⟨ek',_⟩
   ·rw[hb k' hk']at h6
    have:=hlt k' o' g h3' h4 h6
    have:=hgb g h5
    omega
   ·exact hne (ek.trans ek'.symm)
 ·intro k o g h1 h2 h3 h4
  rcases kH h1 with ⟨hk,h1'⟩ | ⟨ek,_⟩
  ·rw[hb k hk]at h3;exact R.objs.np k o g h1' h2 h3 h4
  ·rw[ek,hb']at h3
   have:=R.pr g h4
   have:=R.gr
   have:=hgb g h3
   omega
theorem Rel.Hy {w':World}{sz:Nat}{xs:List PV}{ty:TypeId}{gb:Option Nat}(R:Rel base ah w0 S blk a w)(hg:jd w w')(hgb:∀g,gb=some g→w.heap.size≤g)
  (hx:match gb with
   | none=>xs=[]
   | some g=>∃c,w'.heap[g]?=some (kW ty sz c)∧fits ⟨ty,sz,xs,true,1⟩ c∧
     ∀(i:Nat) (x:PV),xs[i]?=some x→x.cells.length=sz∧∀(j:Nat) (p:PV),x.cells[j]?=some p→∃v,c[i*sz+j]?=some v∧aP w (aV base S.objs blk) S.objs blk p v) :
  Rel base ah w0 ⟨S.tmps,newObj S.objs ty sz xs⟩ (aC blk S.objs.length gb) a w':=by
 refine R.zR (o1:=⟨ty,sz,xs,true,1⟩) hg hgb λhr=>?_
 unfold bf
 have hb':aC blk S.objs.length gb S.objs.length=gb:=by unfold aC;rw[if_pos rfl]
 rw[hb']
 cases gb with
 | none=>exact hx
 | some g=>
  obtain⟨c,hnew,hl,hx⟩:=hx
  refine⟨c,hnew,hl,λi x hxi=>⟨(hx i x hxi).1,λj p hp=>?_⟩⟩
  obtain⟨v,y1,y2⟩:=(hx i x hxi).2 j p hp
  exact⟨v,y1,hr _ _ y2⟩
theorem Rel.newObj {w':World}{sz:Nat}{xs:List PV}{c:Array Value}{ty:TypeId}(R:Rel base ah w0 S blk a w)(hw:w'.heap=w.heap.push (kW ty sz c))(hsm:Sm w w')
  (hl:fits ⟨ty,sz,xs,true,1⟩ c)
  (hx:∀(i:Nat) (x:PV),xs[i]?=some x→x.cells.length=sz∧∀(j:Nat) (p:PV),x.cells[j]?=some p→∃v,c[i*sz+j]?=some v∧aP w (aV base S.objs blk) S.objs blk p v) :
  Rel base ah w0 ⟨S.tmps,newObj S.objs ty sz xs⟩ (aC blk S.objs.length (some w.heap.size)) a w':=
 R.Hy (.push hw hsm) (λg h=>by cases h;exact Nat.le_refl _) ⟨c,by rw[hw];simp,hl,hx⟩
theorem Rel.setObj {w':World}{k:Nat}{o o':Obj}{gb:Option Nat}(R:Rel base ah w0 S blk a w)(hsm:Sm w w')(h1:S.objs[k]?=some o)(h2:o.live=true)(hl':o'.live=true)
  (hs:w.heap.size≤w'.heap.size) (hw:∀b x,blk k≠some b→w.heap[b]?=some x→w'.heap[b]?=some x)
  (hg:∀g,gb=some g→blk k=some g∨w.heap.size≤g)
  (hv:o.ver≤o'.ver) (hsame:o'.ver=o.ver→gb=blk k∧o'.sz=o.sz∧o'.ty=o.ty∧(o.ty≠MT→o'.xs.length=o.xs.length)∧∀g c,blk k=some g→w.heap[g]?=some (.cells c o.ty (0,0))→∃c',w'.heap[g]?=some (.cells c' o.ty (0,0))∧c'.size=c.size)
  (kW:(∀p v,aP w (aV base S.objs blk) S.objs blk p v→aP w' (aV base (S.objs.set k o') (aC blk k gb)) (S.objs.set k o') (aC blk k gb) p v)→
   bf w' (aV base (S.objs.set k o') (aC blk k gb)) (S.objs.set k o') (aC blk k gb) k o') :
  Rel base ah w0 ⟨S.tmps,S.objs.set k o'⟩ (aC blk k gb) a w':=by
 have hk:k<S.objs.length:=(List.getElem?_eq_some_iff.1 h1).1
 have hbk:aC blk k gb k=gb:=by unfold aC;rw[if_pos rfl]
 have UZ:∀j,j≠k→aC blk k gb j=blk j:=λj hj=>by unfold aC;rw[if_neg hj]
 have hget:∀(j:Nat) (ob:Obj),(S.objs.set k o')[j]?=some ob→(j=k∧ob=o')∨(j≠k∧S.objs[j]?=some ob):=by
  intro j ob h
  rw[List.getElem?_set]at h
  split at h
  ·rename_i e;subst e;simp at h;exact .inl ⟨rfl,h.symm⟩
  ·rename_i e;exact .inr ⟨λh=>e h.symm,h⟩
 have hlt:∀(j:Nat) (ob:Obj) (g:Nat),S.objs[j]?=some ob→ob.live=true→blk j=some g→g<w.heap.size:=by
  intro j ob g h1 h2 h3
  have:=R.objs.ob j ob h1 h2
  unfold bf at this
  rw[h3]at this
  obtain⟨c,x,_⟩:=this
  exact (Array.getElem?_eq_some_iff.1 x).1
 have hother:∀(j:Nat) (ob:Obj) (g:Nat),j≠k→S.objs[j]?=some ob→ob.live=true→blk j=some g→blk k≠some g:=
  λj ob g hj g1 g2 g3 g4=>R.objs.xR j k ob o g hj g1 g2 h1 h2 g3 g4
 have ho:lD w w' S.objs (S.objs.set k o') blk (aC blk k gb):=by
  intro j ob h
  by_cases hj:j=k
  ·subst hj
   rw[h1]at h;cases h
   refine⟨o',by rw[List.getElem?_set];simp[hk],hv,λ_ e=>?_⟩
   obtain⟨e1,e2,e3,e4,e5⟩:=hsame e
   exact⟨h2,by rw[hbk,e1],e2,e3,e4,e5⟩
  ·refine⟨ob,by rw[List.getElem?_set,if_neg (λe=>hj e.symm)];exact h,Nat.le_refl _,λhl _=>⟨hl,UZ j hj,rfl,rfl,λ_=>rfl,λg c hg hc=>⟨c,hw g _ ?_ hc,rfl⟩⟩⟩
   exact hother j ob g hj h hl hg
 have hok:∀b,b<w.heap.size→aV base S.objs blk b→aV base (S.objs.set k o') (aC blk k gb) b:=by
  intro b hb h0
  refine⟨h0.1,λj ob g1 g2 g3=>?_⟩
  rcases hget j ob g1 with ⟨rfl,rfl⟩ | ⟨hj,g1⟩
  ·rw[hbk]at g3
   rcases hg b g3 with h | h
   ·exact h0.2 j o h1 h2 h
   ·omega
  ·rw[UZ j hj]at g3;exact h0.2 j ob g1 g2 g3
 have hw':∀b x,aH S.objs blk b→w.heap[b]?=some x→w'.heap[b]?=some x:=λb x h0 hx=>hw b x (h0 k o h1 h2) hx
 refine R.change hs hw' hok ho ⟨?_,?_,?_⟩ hsm
 ·intro j ob g1 g2
  rcases hget j ob g1 with ⟨rfl,rfl⟩ | ⟨hj,g1⟩
  ·exact kW λp v h=>h.mono hs hok (λb x h=>hw' b x h.2) ho
  ·have hh:=R.objs.ob j ob g1 g2
   unfold bf at hh ⊢
   rw[UZ j hj]
   cases hbj:blk j with
   | none=>rw[hbj]at hh;exact hh
   | some g=>
    rw[hbj]at hh
    obtain⟨c',x1,x2,x3⟩:=hh
    refine⟨c',hw g _ (hother j ob g hj g1 g2 hbj) x1,x2,λi x hx=>⟨(x3 i x hx).1,λm p hp=>?_⟩⟩
    obtain⟨v,y1,y2⟩:=(x3 i x hx).2 m p hp
    exact⟨v,y1,y2.mono hs hok (λb x h=>hw' b x h.2) ho⟩
 ·intro j j' ob WO g hne g1 g2 g3 g4 g5 g6
  rcases hget j ob g1 with ⟨ej,eo⟩ | ⟨hj,g1'⟩
  ·rcases hget j' WO g3 with ⟨ej',_⟩ | ⟨hj',g3'⟩
   ·exact hne (ej.trans ej'.symm)
   ·rw[ej,hbk]at g5;rw[UZ j' hj']at g6
    rcases hg g g5 with h | h
    ·exact R.objs.xR k j' o WO g (λe=>hj' e.symm) h1 h2 g3' g4 h g6
    ·have:=hlt j' WO g g3' g4 g6;omega
  ·rcases hget j' WO g3 with ⟨ej',_⟩ | ⟨hj',g3'⟩
   ·rw[ej',hbk]at g6;rw[UZ j hj]at g5
    rcases hg g g6 with h | h
    ·exact R.objs.xR j k ob o g hj g1' g2 h1 h2 g5 h
    ·have:=hlt j ob g g1' g2 g5;omega
   ·rw[UZ j hj]at g5;rw[UZ j' hj']at g6
    exact R.objs.xR j j' ob WO g hne g1' g2 g3' g4 g5 g6
 ·intro j ob g g1 g2 g3 g4
  rcases hget j ob g1 with ⟨rfl,rfl⟩ | ⟨hj,g1⟩
  ·rw[hbk]at g3
   rcases hg g g3 with h | h
   ·exact R.objs.np j o g h1 h2 h g4
   ·have:=R.pr g g4
    have:=R.gr
    omega
  ·rw[UZ j hj]at g3;exact R.objs.np j ob g g1 g2 g3 g4
end
end Lp
namespace Lp
open Go
section
variable {P:Program}{base ah:Nat→Prop}{w0:Wz}{S:St}{blk:Nat→Option Nat}{a:Act}{w:World}{D:TypeId→ay}{objs:List Obj}{ok:Nat→Prop}
theorem je{p:PV}{v:Value}(h:aP w ok objs blk p v)(hp:p.storable=true):v.oneCell'=true∧p.isAgg=false:=by
 cases p with
 | dead=>simp[PV.storable,PV.lg]at hp
 | agg cs=>simp[PV.storable,PV.lg]at hp
 | bP cs=>simp[PV.storable,PV.lg]at hp
 | cl sz xs=>simp[PV.storable,PV.lg]at hp
 | aW k ver=>exact⟨h.1,rfl⟩
 | aT k ver i f=>exact⟨h.1,rfl⟩
 | fw k ver=>exact⟨h.1,rfl⟩
 | _=>
  refine⟨?_,rfl⟩
  have h':bQ w ok _ v:=h
  cases h'<;>rfl
theorem p8{p:PV}{v:Value}(h:aL w ok objs blk p v)(hp:p.storable=true):aP w ok objs blk p v:=by
 cases p with
 | fn f a c=>simp only[PV.storable,PV.lg,PV.ref,Bool.true_and,Bool.false_or]at hp;exact .aF (h.wQ hp)
 | agg cs=>simp[PV.storable,PV.lg]at hp
 | bP cs=>simp[PV.storable,PV.lg]at hp
 | _=>exact h
theorem iM{p:PV}{v:Value}(h:aL w ok objs blk p v)(hp:p.cells.all PV.storable=true) :
  ∃vs:List Value,v.cells=⟨vs⟩∧a_ (aP w ok objs blk) p.cells vs∧∀u∈vs,u.oneCell'=true:=by
 have one:∀(cs:List PV) (vs:List Value),cs.all PV.storable=true→a_ (aP w ok objs blk) cs vs→∀u∈vs,u.oneCell'=true:=by
  intro cs vs hc hr u hu
  obtain⟨i,hi,rfl⟩:=List.mem_iff_getElem.1 hu
  have hi':i<cs.length:=by rw[hr.1];exact hi
  exact (je (hr.2 i _ _ (List.getElem?_eq_getElem hi') (List.getElem?_eq_getElem hi)) (List.all_eq_true.1 hc _ (List.getElem_mem hi'))).1
 cases hx:p.isAgg with
 | true=>
  obtain⟨cs,rfl⟩:∃cs,p=.agg cs:=by cases p<;>simp[PV.isAgg]at hx;exact⟨_,rfl⟩
  obtain⟨vs,rfl,hr⟩:=h
  exact⟨vs,rfl,hr,one cs vs hp hr⟩
 | false=>
  have hc:p.cells=[p]:=by cases p<;>simp[PV.isAgg]at hx<;>rfl
  rw[hc]at hp ⊢
  simp only[List.all_cons,List.all_nil,Bool.and_true]at hp
  have hs:=p8 h hp
  have h1:=(je hs hp).1
  have hv:v.cells=#[v]:=by cases v<;>simp[Value.oneCell']at h1<;>rfl
  refine⟨[v],hv,⟨rfl,λi q u h1 h2=>?_⟩,λu hu=>by simp at hu;exact hu ▸ h1⟩
  cases i with
  | zero=>simp at h1 h2;subst h1;subst h2;exact hs
  | succ i=>simp at h1
theorem a_.get {R:PV→Value→Prop}{cs:List PV}{vs:List Value}(h:a_ R cs vs){j:Nat}{p:PV}(hp:cs[j]?=some p):∃v,vs[j]?=some v∧R p v:=by
 have hj:j<cs.length:=(List.getElem?_eq_some_iff.1 hp).1
 have hj':j<vs.length:=by rw[←h.1];exact hj
 exact⟨vs[j],List.getElem?_eq_getElem hj',h.2 j p _ hp (List.getElem?_eq_getElem hj')⟩
theorem Out.new {o:Oper}{K:KT}{ty:TypeId}{sz:Nat}{xs:List PV}{c:Array Value}{w':World}{r:PV}{v:Value}(R:Rel base ah w0 S blk a w)
  (hty:ty≠MT) (hw:w'.heap=w.heap.push (.cells c ty (0,0))) (hsm:Sm w w') (h:(execOp a.eval o).run P w=.ok (.value v) w') (hl:xs.length*sz≤c.size)
  (hx:∀(i:Nat) (x:PV),xs[i]?=some x→x.cells.length=sz∧∀(j:Nat) (p:PV),x.cells[j]?=some p→∃v,c[i*sz+j]?=some v∧aP w (aV base S.objs blk) S.objs blk p v)
  {t:Nat}(hK:K r (newObj S.objs ty sz xs) t)
  (hr:aL w' (aV base (newObj S.objs ty sz xs) (aC blk S.objs.length (some w.heap.size))) (newObj S.objs ty sz xs) (aC blk S.objs.length (some w.heap.size)) r v):Out P base ah w0 S o a w K:=
 ⟨v,w',r,_,t,_,.inl h,hK,R.newObj (by rw[jc hty];exact hw) hsm (oP hty hl) hx,hr,.of λi x hxi j p hp=>by
  obtain⟨v,_,h⟩:=(hx i x hxi).2 j p hp
  exact l5 h⟩
theorem uU(objs:List Obj)(ty:TypeId)(sz:Nat)(xs:List PV):(newObj objs ty sz xs)[objs.length]?=some ⟨ty,sz,xs,true,1⟩:=by
 unfold newObj;simp
theorem JX{sz:Nat}{p:PV}{vs:List Value}{R:PV→Value→Prop}(hp:p.cells.length=sz)(hr:a_ R p.cells vs) :
  ∀(i:Nat) (x:PV),[p][i]?=some x→x.cells.length=sz∧∀(j:Nat) (q:PV),x.cells[j]?=some q→∃v,(Array.mk vs)[i*sz+j]?=some v∧R q v:=by
 intro i x hx
 cases i with
 | zero=>
  simp at hx;subst hx
  refine⟨hp,λj q hq=>?_⟩
  obtain⟨v,h1,h2⟩:=hr.get hq
  exact⟨v,by simpa using h1,h2⟩
 | succ i=>simp at hx
theorem yg(objs:List Obj)(blk:Nat→Option Nat)(ty:TypeId)(sz:Nat)(xs:List PV)(w:World)(ok:Nat→Prop)(g:Nat)(hty:ty≠MT) :
  aL w ok (newObj objs ty sz xs) (aC blk objs.length (some g)) (.aT objs.length 1 0 0) (.pointer (some ⟨g,0,none⟩)):=
 ⟨rfl,_,uU objs ty sz xs,Nat.le_refl _,λ_ _=>⟨hty,g,by unfold aC;rw[if_pos rfl],by simp⟩⟩
theorem Qk{t:TypeId}{o:Oper}{K:KT}(ho:o.op=.alloc t)(hD:∀t,eP P t (D t))(R:Rel base ah w0 S blk a w)(h:pE t (D t) S.objs K) :
  Out P base ah w0 S o a w K:=by
 obtain⟨hk,h1,h2,h3⟩:=h
 obtain⟨i,hi,_,_,hz⟩:=(hD t).info hk
 obtain⟨vs,hv,hr,_⟩:=iM (w:=w) (ok:=aV base S.objs blk) (objs:=S.objs) (blk:=blk) (.aF (qB w _ (D t).zero)) h2
 refine Out.new (w':={ w with heap:=w.heap.push (.cells ⟨vs⟩ t (0,0)) }) (v:=.pointer (some ⟨w.heap.size,0,none⟩)) R ((hD t).notM hk) rfl ⟨rfl,rfl⟩ ?_ ?_ (JX h1 hr) h3 (yg _ _ _ _ _ _ _ _ ((hD t).notM hk))
 ·simp[execOp,ho,Instr.alloc,zeroValue,typeInfo,hi,hz,newVar,newRow,hv]
 ·have:=hr.1
  simp[←h1]at this ⊢;simp[aG,this]
theorem Vd{t:TypeId}{x:Operand}{o:Oper}{K:KT}(ho:o.op=.box t x)(hD:∀t,eP P t (D t))(R:Rel base ah w0 S blk a w)(h:Hu t (D t) (S.ev x) S.objs K) :
  Out P base ah w0 S o a w K:=by
 obtain⟨hk,h1,h2,h3⟩:=h
 obtain⟨vs,hv,hr,_⟩:=iM (R.ev x) h2
 refine Out.new (w':={ w with heap:=w.heap.push (.cells ⟨vs⟩ t (0,0)) }) (v:=.pointer (some ⟨w.heap.size,0,none⟩)) R ((hD t).notM hk) rfl ⟨rfl,rfl⟩ ?_ ?_ (JX h1 hr) h3 (yg _ _ _ _ _ _ _ _ ((hD t).notM hk))
 ·simp[execOp,ho,Instr.box,newVar,newRow,hv]
 ·have:=hr.1
  simp[←h1]at this ⊢;omega
theorem iN{α:Type}(l vs:List α)(o q:Nat)(h:o+vs.length≤l.length) :
  (l.take o++vs++l.drop (o+vs.length))[q]?=if q<o then l[q]? else if q<o+vs.length then vs[q-o]? else l[q]?:=by
 have ht:(l.take o).length=o:=by simp;omega
 rw[List.append_assoc,List.getElem?_append,ht]
 split
 ·rename_i hq;rw[List.getElem?_take,if_pos hq]
 ·rename_i hq
  rw[List.getElem?_append]
  split
  ·rename_i hq2
   rw[if_pos (by omega)]
  ·rename_i hq2
   rw[if_neg (by omega),List.getElem?_drop]
   congr 1;omega
theorem CB{e:PV}{f:Nat}{vs:List PV}(hl:f+vs.length≤e.cells.length)(h1:e.isAgg=false→vs.length=1)(hs:vs.all PV.storable=true) :
  (e.putCells f vs).cells=e.cells.take f++vs++e.cells.drop (f+vs.length):=by
 cases hx:e.isAgg with
 | true=>
  obtain⟨cs,rfl⟩:∃cs,e=.agg cs:=by cases e<;>simp[PV.isAgg]at hx;exact⟨_,rfl⟩
  rfl
 | false=>
  have hc:e.cells=[e]:=by cases e<;>simp[PV.isAgg]at hx<;>rfl
  have hn:=h1 hx
  have hf:f=0:=by rw[hc]at hl;simp at hl;omega
  subst hf
  obtain⟨p,rfl⟩:∃p,vs=[p]:=by
   match vs,hn with
   | [p],_=>exact⟨p,rfl⟩
  have hp:p.isAgg=false:=by
   simp only[List.all_cons,List.all_nil,Bool.and_true]at hs
   cases p<;>simp[PV.storable,PV.lg,PV.isAgg]at hs ⊢
  have hpc:p.cells=[p]:=by cases p<;>simp[PV.isAgg]at hp<;>rfl
  rw[hc]
  have:e.putCells 0 [p]=p:=by cases e<;>simp[PV.isAgg]at hx<;>rfl
  rw[this,hpc]
  simp
theorem Ql{t:TypeId}{x y:Operand}{o:Oper}{K:KT}(ho:o.op=.store t x y)(hD:∀t,eP P t (D t))(R:Rel base ah w0 S blk a w)(h:iq (D t) (S.ev x) (S.ev y) S.objs K) :
  Out P base ah w0 S o a w K:=by
 have hx:=R.ev x
 have hy:=R.ev y
 unfold iq at h
 split at h
 ·rename_i k ver i f e
  rw[e]at hx
  obtain⟨ob,el,h1,h2,h3,h4,hk,h5,h6,h7,h8,h9⟩:=h
  obtain⟨g,hb,hv,hty⟩:=hx.aT h1 h2 h3
  obtain⟨vs,hc,hr,hone⟩:=iM hy h8
  have uV:=R.objs.ob k ob h1 h2
  unfold bf at uV
  rw[hb]at uV
  obtain⟨c,x1,⟨x2,_⟩,x3⟩:=uV
  rw[jc hty]at x1
  obtain⟨y1,y2⟩:=x3 i el h4
  have hn:vs.length=(D t).size:=by rw[←hr.1,h5]
  have hi:i<ob.xs.length:=(List.getElem?_eq_some_iff.1 h4).1
  have hmul:(i+1)*ob.sz≤ob.xs.length*ob.sz:=Nat.mul_le_mul_right _ (by omega)
  rw[Nat.add_mul,Nat.one_mul]at hmul
  have hfit:i*ob.sz+f+vs.length≤c.toList.length:=by simp;omega
  have hst:=run_storeCells_at P g (i*ob.sz+f) ob.ty vs 0 c w x1 (by simpa using hfit) hone
  rw[Nat.add_zero]at hst
  have hrun:(execOp a.eval o).run P w=.ok .skip (w.setRow g (c.toList.take (i*ob.sz+f)++vs++c.toList.drop (i*ob.sz+f+vs.length)).toArray):=by
   simp only[execOp,ho,hv,Instr.storeAt,Instr.sureAddr,storeVar,Sem.run_bind,Sem.run_pure,Result.andThen_ok,(hD t).bY hk,hc]
   simp[hn,hst]
  have hheap:(w.setRow g (c.toList.take (i*ob.sz+f)++vs++c.toList.drop (i*ob.sz+f+vs.length)).toArray).heap[g]?=some (.cells (c.toList.take (i*ob.sz+f)++vs++c.toList.drop (i*ob.sz+f+vs.length)).toArray ob.ty (0,0)):=
   setRow_heap w g c _ _ _ x1
  have hsize:(c.toList.take (i*ob.sz+f)++vs++c.toList.drop (i*ob.sz+f+vs.length)).toArray.size=c.size:=by
   simp at hfit ⊢;omega
  have hcells:=CB (e:=el) (f:=f) (vs:=(S.ev y).cells) (by rw[h5];exact h6) (λhh=>by rw[h5];exact h7 hh) h8
  refine⟨undef,_,.dead,_,_,aC blk k (blk k),.inr ⟨hrun,rfl⟩,h9,?_,.aF (.dead _),.same (by simp)⟩
  refine R.setObj (by first | exact⟨rfl,rfl⟩ | (unfold World.setRow;split<;>exact⟨rfl,rfl⟩)) h1 h2 h2 (by simp[World.setRow]) ?_ (λg' hg'=>.inl hg') (Nat.le_refl _) ?_ ?_
  ·intro b z hbz hz
   rw[setRow_other w g b _ (λe=>hbz (by rw[hb,e]))];exact hz
  ·intro _
   refine⟨rfl,rfl,rfl,λ_=>by simp,λg' c' hg' hc'=>?_⟩
   rw[hb]at hg';cases hg'
   rw[x1]at hc';cases hc'
   exact⟨_,hheap,hsize⟩
  ·intro hmono
   unfold bf
   have hbk:aC blk k (blk k) k=some g:=by unfold aC;rw[if_pos rfl,hb]
   rw[hbk]
   refine⟨_,by rw[jc (ty:=ob.ty) hty];exact hheap,oP hty (by rw[hsize];simpa using x2),λi' x' hx'=>?_⟩
   simp only at hx'
   rw[List.getElem?_set]at hx'
   by_cases hii:i=i'
   ·subst hii
    simp[hi]at hx'
    subst hx'
    refine⟨?_,λj p hp=>?_⟩
    ·rw[hcells];simp;rw[h5]at *;rw[←y1];omega
    ·rw[hcells,iN _ _ _ _ (by rw[h5];exact h6)]at hp
     have hj:∀q,(c.toList.take (i*ob.sz+f)++vs++c.toList.drop (i*ob.sz+f+vs.length)).toArray[q]?=if q<i*ob.sz+f then c.toList[q]? else if q<i*ob.sz+f+vs.length then vs[q-(i*ob.sz+f)]? else c.toList[q]?:=by
      intro q;rw[List.getElem?_toArray,iN _ _ _ _ hfit]
     show ∃v,(c.toList.take (i*ob.sz+f)++vs++c.toList.drop (i*ob.sz+f+vs.length)).toArray[i*ob.sz+j]?=some v∧_
     rw[hj]
     by_cases hj1:j<f
     ·rw[if_pos hj1]at hp
      rw[if_pos (by omega)]
      obtain⟨v,z1,z2⟩:=y2 j p hp
      exact⟨v,by simpa using z1,hmono _ _ z2⟩
     ·rw[if_neg hj1]at hp
      rw[if_neg (by omega)]
      by_cases hj2:j<f+(S.ev y).cells.length
      ·rw[if_pos hj2]at hp
       rw[if_pos (by rw[hn,←h5];omega)]
       obtain⟨v,z1,z2⟩:=hr.get hp
       exact⟨v,by rw[←z1];congr 1;omega,hmono _ _ z2⟩
      ·rw[if_neg hj2]at hp
       rw[if_neg (by rw[hn,←h5];omega)]
       obtain⟨v,z1,z2⟩:=y2 j p hp
       exact⟨v,by simpa using z1,hmono _ _ z2⟩
   ·rw[if_neg hii]at hx'
    obtain⟨z1,z2⟩:=x3 i' x' hx'
    refine⟨z1,λj p hp=>?_⟩
    obtain⟨v,u1,u2⟩:=z2 j p hp
    refine⟨v,?_,hmono _ _ u2⟩
    have hj:j<ob.sz:=by rw[←z1];exact (List.getElem?_eq_some_iff.1 hp).1
    show (c.toList.take (i*ob.sz+f)++vs++c.toList.drop (i*ob.sz+f+vs.length)).toArray[i'*ob.sz+j]?=some v
    rw[List.getElem?_toArray,iN _ _ _ _ hfit]
    by_cases hlt:i'<i
    ·have:(i'+1)*ob.sz≤i*ob.sz:=Nat.mul_le_mul_right _ hlt
     rw[Nat.add_mul,Nat.one_mul]at this
     rw[if_pos (by omega)];simpa using u1
    ·have:(i+1)*ob.sz≤i'*ob.sz:=Nat.mul_le_mul_right _ (by omega)
     rw[Nat.add_mul,Nat.one_mul]at this
     rw[if_neg (by omega),if_neg (by omega)];simpa using u1
 ·exact h.elim
end
end Lp
namespace Lp
open Go
open Nat (add_mul mul_le_mul_right one_mul)
section
variable {P:Program}{base ah:Nat→Prop}{w0:Wz}{S:St}{blk:Nat→Option Nat}{a:Act}{w:World}{D:TypeId→ay}{objs:List Obj}{ok:Nat→Prop}
def aO(R:PV→Value→Prop)(sz:Nat)(c:Array Value)(xs:List PV):Prop:=
 ∀(i:Nat) (x:PV),xs[i]?=some x→x.cells.length=sz∧∀(j:Nat) (p:PV),x.cells[j]?=some p→∃v,c[i*sz+j]?=some v∧R p v
theorem foldl_set(off:Nat):∀(vs:List Value) (n:Nat) (cells:Array Value),off+n+vs.length≤cells.size→
  ((vs.zipIdx n).foldl (λ(cs:Array Value) (x:Value×Nat)=>cs.setIfInBounds (off+x.2) x.1) cells).size=cells.size∧
  ∀q:Nat,((vs.zipIdx n).foldl (λ(cs:Array Value) (x:Value×Nat)=>cs.setIfInBounds (off+x.2) x.1) cells)[q]?=if off+n≤q∧q<off+n+vs.length then vs[q-(off+n)]? else cells[q]?
 | [],n,cells,_=>by
  refine⟨rfl,λq=>?_⟩
  rw[if_neg (by simp only[List.length_nil];omega)]
  rfl
 | v::vs,n,cells,h=>by
  simp only[List.length_cons]at h
  obtain⟨h1,h2⟩:=foldl_set off vs (n+1) (cells.setIfInBounds (off+n) v) (by simp;omega)
  simp only[List.zipIdx_cons,List.foldl_cons]
  refine⟨by rw[h1];simp,λq=>?_⟩
  rw[h2]
  by_cases hq:off+n=q
  ·subst hq
   rw[if_neg (by omega),if_pos (by simp)]
   rw[Array.getElem?_setIfInBounds]
   have:off+n<cells.size:=by omega
   simp[this]
  ·by_cases hq2:off+(n+1)≤q∧q<off+(n+1)+vs.length
   ·rw[if_pos hq2,if_pos (by simp only[List.length_cons];omega)]
    have:q-(off+n)=(q-(off+(n+1)))+1:=by omega
    rw[this,List.getElem?_cons_succ]
   ·rw[if_neg hq2,if_neg (by simp only[List.length_cons];omega)]
    rw[Array.getElem?_setIfInBounds,if_neg hq]
theorem fold_eq(off:Nat)(vs:List Value)(cells:Array Value) :
  (Array.mk vs).zipIdx.foldl (λ(cs:Array Value) (x:Value×Nat)=>cs.setIfInBounds (off+x.2) x.1) cells=(vs.zipIdx 0).foldl (λ(cs:Array Value) (x:Value×Nat)=>cs.setIfInBounds (off+x.2) x.1) cells:=by
 rw[←Array.foldl_toList]
 congr 1
 simp
theorem JY{R:PV→Value→Prop}{sz:Nat}:∀(parts:List (Nat×PV)) (vals:List (Nat×Value)) (xs:List PV) (c:Array Value),
  parts.length=vals.length→
  (∀(i:Nat) (p:Nat×PV) (v:Nat×Value),parts[i]?=some p→vals[i]?=some v→v.1=p.1∧p.1<xs.length∧p.2.cells.length=sz∧∃vs,v.2.cells=⟨vs⟩∧a_ R p.2.cells vs)→
  aO R sz c xs→c.size=xs.length*sz→
  ∃c',Instr.fill (λi=>some (i*sz,sz)) c vals=some c'∧c'.size=c.size∧aO R sz c' (gy xs parts)
 | [],[],xs,c,_,_,h,_=>⟨c,rfl,rfl,h⟩
 | p::parts,v::vals,xs,c,hl,hp,h,hc=>by
  obtain⟨e1,e2,e3,vs,e4,e5⟩:=hp 0 p v rfl rfl
  have hn:vs.length=sz:=by rw[←e5.1,e3]
  have hmul:(p.1+1)*sz≤xs.length*sz:=mul_le_mul_right _ e2
  rw[add_mul,one_mul]at hmul
  have hfit:p.1*sz+0+vs.length≤c.size:=by rw[hc,hn];omega
  obtain⟨g1,g2⟩:=foldl_set (p.1*sz) vs 0 c hfit
  simp only[Nat.add_zero]at g2
  have hnew:aO R sz ((vs.zipIdx 0).foldl (λ(cs:Array Value) (x:Value×Nat)=>cs.setIfInBounds (p.1*sz+x.2) x.1) c) (xs.set p.1 p.2):=by
   intro i x hx
   rw[List.getElem?_set]at hx
   by_cases hi:p.1=i
   ·subst hi
    simp[e2]at hx
    subst hx
    refine⟨e3,λj q hq=>?_⟩
    have hj:j<sz:=by rw[←e3];exact (List.getElem?_eq_some_iff.1 hq).1
    obtain⟨u,u1,u2⟩:=e5.get hq
    refine⟨u,?_,u2⟩
    rw[g2,if_pos (by omega)]
    rw[←u1];congr 1;omega
   ·rw[if_neg hi]at hx
    obtain⟨z1,z2⟩:=h i x hx
    refine⟨z1,λj q hq=>?_⟩
    have hj:j<sz:=by rw[←z1];exact (List.getElem?_eq_some_iff.1 hq).1
    obtain⟨u,u1,u2⟩:=z2 j q hq
    refine⟨u,?_,u2⟩
    rw[g2,if_neg]
    ·exact u1
    ·rw[hn]
     by_cases hlt:i<p.1
     ·have:(i+1)*sz≤p.1*sz:=mul_le_mul_right _ hlt
      rw[add_mul,one_mul]at this
      omega
     ·have:(p.1+1)*sz≤i*sz:=mul_le_mul_right _ (by omega)
      rw[add_mul,one_mul]at this
      omega
  obtain⟨c',k1,k2,k3⟩:=JY parts vals (xs.set p.1 p.2) _ (by simpa using hl) (λi q u hq hu=>by
   have:=hp (i+1) q u (by simpa using hq) (by simpa using hu)
   simpa using this) hnew (by rw[g1,hc];simp)
  refine⟨c',?_,by rw[k2,g1],k3⟩
  obtain⟨pi,pv⟩:=p
  obtain⟨vi,vv⟩:=v
  simp only at e1 e4
  subst e1
  unfold Instr.fill
  simp only[e4]
  have h1:¬ ((Array.mk vs).size≠sz∨vi*sz+(Array.mk vs).size > c.size):=by
   simp only[List.size_toArray,hn];simp at hfit;rw[hn]at hfit
   simp;exact hfit
  simp only[Bool.or_eq_true,decide_eq_true_eq]
  rw[if_neg h1,fold_eq]
  exact k1
theorem CF{z:Value}{sz:Nat}(hz:(PV.uR z).cells.length=sz)(hs:(PV.uR z).cells.all PV.storable=true)(n:Nat)(w:World)(ok:Nat→Prop)(objs:List Obj)(blk:Nat→Option Nat) :
  z.cells.size=sz∧
  aO (aP w ok objs blk) sz ((Array.range (n*sz)).map (z.cells[· % z.cells.size]!)) (List.replicate n (.uR z)):=by
 obtain⟨vs,hv,hr,_⟩:=iM (w:=w) (ok:=ok) (objs:=objs) (blk:=blk) (.aF (qB w ok z)) hs
 have hn:vs.length=sz:=by rw[←hr.1,hz]
 refine⟨by rw[hv];simpa using hn,λi x hx=>?_⟩
 rw[List.getElem?_replicate]at hx
 split at hx
 ·rename_i hi
  simp at hx
  subst hx
  refine⟨hz,λj p hp=>?_⟩
  have hj:j<sz:=by rw[←hz];exact (List.getElem?_eq_some_iff.1 hp).1
  obtain⟨v,h1,h2⟩:=hr.get hp
  refine⟨v,?_,h2⟩
  have hmul:(i+1)*sz≤n*sz:=mul_le_mul_right _ hi
  rw[add_mul,one_mul]at hmul
  have hlt:i*sz+j<n*sz:=by omega
  have hmod:(i*sz+j) % sz=j:=by rw[Nat.mul_comm,Nat.mul_add_mod,Nat.mod_eq_of_lt hj]
  rw[Array.getElem?_map,Array.getElem?_range,if_pos hlt]
  have hsz:z.cells.size=sz:=by rw[hv];simpa using hn
  simp only[Option.map_some,hsz,hmod]
  have:z.cells[j]?=some v:=by rw[hv];simpa using h1
  rw[getElem!_def,this]
 ·cases hx
theorem wm:∀(parts:List (Nat×PV)) (xs:List PV),(gy xs parts).length=xs.length
 | [],_=>rfl
 | p::parts,xs=>by obtain⟨i,v⟩:=p;simp[gy,wm parts]
theorem AR(objs:List Obj)(blk:Nat→Option Nat)(ty:TypeId)(sz:Nat)(xs:List PV){w:World}(ok:Nat→Prop){g cap:Nat}{c:Array Value}(hty:ty≠MT)(hw:w.heap[g]?=some (.cells c ty (0,0)))
  (hl:xs.length≤cap) (hm:cap≤maxLen) (hc:c.size=cap*sz) :
  aL w ok (newObj objs ty sz xs) (aC blk objs.length (some g)) (.aW objs.length 1) (.slice (some ⟨g,0,none⟩) xs.length cap):=
 ⟨rfl,_,uU objs ty sz xs,Nat.le_refl _,λ_ _=>by
  refine⟨hty,?_⟩
  unfold sH
  have:aC blk objs.length (some g) objs.length=some g:=by unfold aC;rw[if_pos rfl]
  rw[this]
  exact⟨cap,c,rfl,hw,hl,hm,hc⟩⟩
theorem Hz{xs:List PV}{sz:Nat}{c:Array Value}{ty:TypeId}{w:World}{ok:Nat→Prop}{g cap:Nat}(hw:w.heap[g]?=some (.cells c ty (0,0)))(hok:ok g)
  (hl:xs.length≤cap) (hm:cap≤maxLen) (h:aO (bQ w ok) sz c xs):bQ w ok (.sl sz xs none) (.slice (some ⟨g,0,none⟩) xs.length cap):=by
 refine .sl sz xs none (by simp) g 0 cap (λi j=>(c[i*sz+j]?).getD undef) (λ_=>⟨hok,(Array.getElem?_eq_some_iff.1 hw).1⟩) hl hm (λi x hx=>(h i x hx).1) ?_ ?_
 ·intro i x j p hx hp
  obtain⟨v,h1,_⟩:=(h i x hx).2 j p hp
  simp[World.cell?,hw,h1]
 ·intro i x j p hx hp
  obtain⟨v,h1,h2⟩:=(h i x hx).2 j p hp
  simpa[h1] using h2
theorem qE{base ah:Nat→Prop}(R:bW base ah objs blk w){k:Nat}{o:Obj}{g:Nat}(h1:objs[k]?=some o)(h2:o.live=true)(h3:blk k=some g):g<w.heap.size:=by
 have:=R.ob k o h1 h2
 unfold bf at this
 rw[h3]at this
 obtain⟨c,x,_⟩:=this
 exact (Array.getElem?_eq_some_iff.1 x).1
theorem Ve{base ah:Nat→Prop}(R:bW base ah objs blk w)(hb:base w.heap.size):aV base objs blk w.heap.size:=by
 refine⟨hb,λk o h1 h2 h3=>?_⟩
 have:=qE R h1 h2 h3
 omega
theorem aO.mono {R R':PV→Value→Prop}{sz:Nat}{c:Array Value}{xs:List PV}(h:aO R sz c xs)(hr:∀(i:Nat) (x:PV),xs[i]?=some x→∀p∈x.cells,∀v,R p v→R' p v):aO R' sz c xs:=
 λi x hx=>⟨(h i x hx).1,λj p hp=>let ⟨v,h1,h2⟩:=(h i x hx).2 j p hp;⟨v,h1,hr i x hx p (List.mem_of_getElem? hp) v h2⟩⟩
theorem CG:∀(parts:List (Nat×PV)) (xs:List PV) (y:PV),y∈gy xs parts→y∈xs∨∃p∈parts,p.2=y
 | [],_,_,h=>.inl h
 | (i,v)::parts,xs,y,h=>by
  rcases CG parts (xs.set i v) y h with h | ⟨p,hp,e⟩
  ·rcases List.mem_or_eq_of_mem_set h with h | h
   ·exact .inl h
   ·exact .inr ⟨(i,v),by simp,h.symm⟩
  ·exact .inr ⟨p,by simp[hp],e⟩
theorem MR{x:PV}(h:x.pure=true):∀p∈x.cells,p.ref=false:=by
 intro p hp
 cases x with
 | agg cs=>simp only[PV.pure,PV.cells]at h hp;simpa using List.all_eq_true.1 h p hp
 | aW k v=>simp[PV.pure]at h
 | aT k v i f=>simp[PV.pure]at h
 | fw k v=>simp[PV.pure]at h
 | _=>simp only[PV.cells,List.mem_singleton]at hp;subst hp;rfl
theorem Qn(z:Value):(PV.uR z).pure=true:=by
 unfold PV.uR
 split<;>try rfl
 simp only[PV.pure,List.all_map,List.all_eq_true]
 intro v _
 simp only[Function.comp]
 split<;>rfl
theorem CJ{own:Bool}{t:TypeId}{len:Nat}{parts:Array (Nat×Operand)}{o:Oper}{K:KT}(ho:o.op=.buildSlice t len parts)(hD:∀t,eP P t (D t))(R:Rel base ah w0 S blk a w)
  (h:bB D own t len (parts.toList.map λx=>(x.1,S.ev x.2)) S.objs K):Out P base ah w0 S o a w K:=by
 unfold bB at h
 split at h
 ·rename_i e hk
  obtain⟨hke,hpos,hlen,hz,hzs,hparts,h⟩:=h
  have hu:=(hD t).slice hk
  obtain⟨i,hi,hsz,_,hzero⟩:=(hD e).info hke
  obtain⟨z1,z2⟩:=CF (z:=(D e).zero) hz hzs len w (aV base S.objs blk) S.objs blk
  have hrun:=JY (R:=aP w (aV base S.objs blk) S.objs blk) (sz:=(D e).size) (parts.toList.map λx=>(x.1,S.ev x.2)) (parts.toList.map λx=>(x.1,a.eval x.2))
   (List.replicate len (aG (D e))) ((Array.range (len*(D e).size)).map ((D e).zero.cells[· % (D e).zero.cells.size]!)) (by simp) (by
    intro i p v hp hv
    rw[List.getElem?_map]at hp hv
    cases hx:parts.toList[i]? with
    | none=>rw[hx]at hp;simp at hp
    | some x=>
     rw[hx]at hp hv
     simp only[Option.map_some,Option.some.injEq]at hp hv
     subst hp;subst hv
     have:=List.all_eq_true.1 hparts (x.1,S.ev x.2) (List.mem_map.2 ⟨x,List.mem_of_getElem? hx,rfl⟩)
     simp only[Bool.and_eq_true,decide_eq_true_eq]at this
     obtain⟨vs,q1,q2,_⟩:=iM (R.ev x.2) this.1.2
     exact⟨rfl,by simpa using this.1.1.1,this.1.1.2,vs,q1,q2⟩) z2 (by simp)
  obtain⟨c,g1,g2,g3⟩:=hrun
  have hlen':(gy (List.replicate len (aG (D e))) (parts.toList.map λx=>(x.1,S.ev x.2))).length=len:=by rw[wm];simp
  have hcs:c.size=len*(D e).size:=by rw[g2];simp
  have AU:(execOp a.eval o).run P w=.ok (.value (.slice (some ⟨w.heap.size,0,none⟩) len len)) { w with heap:=w.heap.push (.cells c e (0,0)) }:=by
   have h24:¬ (len*(D e).size > 2 ^ 24):=by simpa using hlen
   have g1':Instr.fill (λi=>some (i*(D e).size,(D e).size)) ((Array.range (len*(D e).size)).map ((D e).zero.cells[· % (D e).zero.cells.size]!)) (parts.map λx=>(x.1,a.eval x.2)).toList=some c:=by
    rw[Array.toList_map];exact g1
   by_cases hz0:len*(D e).size=0
   ·have e0:(Array.range (len*(D e).size)).map ((D e).zero.cells[· % (D e).zero.cells.size]!)=(Array.range (len*(D e).size)).map ((#[]:Array Value)[· % (#[]:Array Value).size]!):=by rw[hz0];simp
    rw[e0]at g1'
    simp only[execOp,ho,Instr.buildSlice,Sem.run_bind,run_underlying hu,Result.andThen_ok,(hD e).bY hke,if_neg h24,if_pos hz0,Sem.run_pure,g1',newRow,run_newObj]
   ·simp only[execOp,ho,Instr.buildSlice,Sem.run_bind,run_underlying hu,Result.andThen_ok,(hD e).bY hke,if_neg h24,if_neg hz0,Sem.run_pure,zeroValue,typeInfo,run_program,hi,hzero,g1',newRow,run_newObj]
  have hcap:len≤maxLen:=by
   have:len*1≤len*(D e).size:=Nat.mul_le_mul_left _ (by omega)
   simp only[maxLen];omega
  cases own with
  | true=>
   simp only[if_true]at h
   refine Out.new (w':={ w with heap:=w.heap.push (.cells c e (0,0)) }) R ((hD e).notM hke) rfl ⟨rfl,rfl⟩ AU (by rw[hlen',hcs];exact Nat.le_refl _) g3 h ?_
   have:=AR S.objs blk e (D e).size _ (aV base (newObj S.objs e (D e).size (gy (List.replicate len (aG (D e))) (parts.toList.map λx=>(x.1,S.ev x.2)))) (aC blk S.objs.length (some w.heap.size)))
    (w:={ w with heap:=w.heap.push (.cells c e (0,0)) }) (g:=w.heap.size) (cap:=len) (c:=c) ((hD e).notM hke) (by simp) (Nat.le_of_eq hlen') hcap hcs
   rw[hlen']at this
   exact this
  | false=>
   simp only[Bool.false_eq_true,if_false]at h
   have hg:jd w { w with heap:=w.heap.push (.cells c e (0,0)) }:=.push rfl
   have hc':aO (bQ { w with heap:=w.heap.push (.cells c e (0,0)) } (aV base S.objs blk)) (D e).size c (gy (List.replicate len (aG (D e))) (parts.toList.map λx=>(x.1,S.ev x.2))):=by
    refine g3.mono λi x hx p hp v hv=>?_
    have hpure:x.pure=true:=by
     rcases CG _ _ _ (List.mem_of_getElem? hx) with hm | ⟨q,hq,rfl⟩
     ·rw[List.eq_of_mem_replicate hm];exact Qn _
     ·have:=List.all_eq_true.1 hparts q hq
      simp only[Bool.and_eq_true,Bool.false_or]at this
      exact this.2
    exact (hv.wQ (MR hpure p hp)).mono hg.1 (λ_ _ h=>h) (λb y _ hy=>hg.2.1 b y hy)
   have:=Hz (c:=c) (ty:=e) (ok:=aV base S.objs blk) (w:={ w with heap:=w.heap.push (.cells c e (0,0)) }) (g:=w.heap.size) (cap:=len) (by simp) (Ve R.objs (R.bs _ R.gr)) (Nat.le_of_eq hlen') hcap hc'
   rw[hlen']at this
   exact⟨_,_,_,S.objs,0,blk,.inl AU,h,R.grew hg,.aF this,.same rfl⟩
 ·exact h.elim
theorem EL{t:TypeId}{x y:Operand}{o:Oper}{K:KT}(ho:o.op=.makeSlice t x y)(hD:∀t,eP P t (D t))(R:Rel base ah w0 S blk a w)
  (h:dJ D t (S.ev x) (S.ev y) S.objs K):Out P base ah w0 S o a w K:=by
 have hx:=R.ev x
 have hy:=R.ev y
 unfold dJ at h
 split at h
 ·rename_i e k n k' m hk e1 e2
  rw[e1]at hx;rw[e2]at hy
  have hx:=hx.int
  have hy:=hy.int
  obtain⟨hke,hz,hpos,hzs,h0,hnm,hm,hb,h⟩:=h
  have hu:=(hD t).slice hk
  obtain⟨i,hi,hsz,hby,hzero⟩:=(hD e).info hke
  obtain⟨z1,z2⟩:=CF (z:=(D e).zero) hz hzs m.toNat w (aV base S.objs blk) S.objs blk
  have w1:IntKind.i64.wrap n=n:=gq (by simp only[FW];omega)
  have w2:IntKind.i64.wrap m=m:=gq (by simp only[FW];omega)
  have abh:¬ ((m<0∨(i.bytes:Int)*m > 2 ^ 48)∨n<0):=by rw[hby];omega
  have hnm':¬ n > m:=by omega
  have AU:(execOp a.eval o).run P w=.ok (.value (.slice (some ⟨w.heap.size,0,none⟩) n.toNat m.toNat)) { w with heap:=w.heap.push (.cells ((Array.range (m.toNat*(D e).size)).map ((D e).zero.cells[· % (D e).zero.cells.size]!)) e (0,0)) }:=by
   have c1:¬ m<0:=by omega
   have c2:¬ (281474976710656<(i.bytes:Int)*m):=by rw[hby];omega
   have c3:¬ n<0:=by omega
   by_cases hz0:m.toNat*(D e).size=0
   ·have r0:Array.range 0=#[]:=rfl
    have e0:(Array.range (m.toNat*(D e).size)).map ((D e).zero.cells[· % (D e).zero.cells.size]!)=#[]:=by rw[hz0,r0];simp
    rw[e0]
    simp[execOp,ho,hx,hy,Instr.makeSlice,run_underlying hu,asInt,asIntOf,typeInfo,hi,w1,w2,c1,c2,c3,hnm',(hD e).bY hke,hz0,newRow,r0]
   ·simp[execOp,ho,hx,hy,Instr.makeSlice,run_underlying hu,asInt,asIntOf,typeInfo,hi,w1,w2,c1,c2,c3,hnm',(hD e).bY hke,hz0,newRow,zeroValue,hzero]
  refine Out.new (w':={ w with heap:=w.heap.push (.cells ((Array.range (m.toNat*(D e).size)).map ((D e).zero.cells[· % (D e).zero.cells.size]!)) e (0,0)) }) R ((hD e).notM hke) rfl ⟨rfl,rfl⟩ AU ?_ ?_ h ?_
  ·simp;exact mul_le_mul_right _ (by omega)
  ·intro i x hx
   rw[List.getElem?_replicate]at hx
   split at hx
   ·exact z2 i x (by rw[List.getElem?_replicate,if_pos (by omega)];exact hx)
   ·cases hx
  ·have:=AR S.objs blk e (D e).size (List.replicate n.toNat (aG (D e))) (aV base (newObj S.objs e (D e).size (List.replicate n.toNat (aG (D e)))) (aC blk S.objs.length (some w.heap.size)))
     (w:={ w with heap:=w.heap.push (.cells ((Array.range (m.toNat*(D e).size)).map ((D e).zero.cells[· % (D e).zero.cells.size]!)) e (0,0)) }) (g:=w.heap.size) (cap:=m.toNat) ((hD e).notM hke) (by simp;rfl) (by simp;omega) (by simp only[maxLen];omega) (by simp)
   simpa using this
 ·exact h.elim
end
end Lp
namespace Lp
open Go
open List (length_append length_take)
open Nat (add_mul add_zero mod_lt mul_comm mul_le_mul_right one_mul)
section
variable {P:Program}{base ah:Nat→Prop}{w0:Wz}{S:St}{blk:Nat→Option Nat}{a:Act}{w:World}{D:TypeId→ay}{objs:List Obj}{ok:Nat→Prop}
theorem mP(w:World)(t tx ty e:TypeId)(i:TypeInfo)(ht:P.underlying t=some (.slice e))(hi:P.info? e=some i)(g sLen sCap:Nat)(cur:Array Value)(ty0:TypeId)
  (hg:w.heap[g]?=some (.cells cur ty0 (0,0))) (x:Value) (n:Nat) (news:List Value) (hs:Src P i.size tx x n news w) (hroom:sLen+n≤sCap) (hfit:sLen*i.size+news.length≤cur.size) :
  (Builtin.append_ #[t,tx] ty #[.slice (some ⟨g,0,none⟩) sLen sCap,x]).run P w=
   .ok (.slice (some ⟨g,0,none⟩) (sLen+n) sCap) (w.setRow g (cur.toList.take (sLen*i.size)++news++cur.toList.drop (sLen*i.size+news.length)).toArray):=by
 have hst:=run_storeCells_at P g (sLen*i.size) ty0 news 0 cur w hg (by simpa using hfit) hs.one
 simp only[add_zero]at hst
 rcases hs.kind with ⟨e',hk⟩ | hk<;>simp[Builtin.append_,run_underlying ht,run_underlying hk,Go.sizeOf,typeInfo,hi,hs.len,hroom,hs.cells,Addr.add_lit,hst]
theorem BA(w:World)(t tx ty e:TypeId)(i:TypeInfo)(ht:P.underlying t=some (.slice e))(hi:P.info? e=some i)(x:Value)(hs:Src P i.size tx x 0 [] w) :
  (Builtin.append_ #[t,tx] ty #[.slice none 0 0,x]).run P w=.ok (.slice none 0 0) w:=by
 rcases hs.kind with ⟨e',hk⟩ | hk<;>simp[Builtin.append_,run_underlying ht,run_underlying hk,Go.sizeOf,typeInfo,hi,hs.len,hs.cells]
theorem aO.append {R:PV→Value→Prop}{sz:Nat}{xs ys:List PV}{c c':Array Value}(h:aO R sz c xs)(h':aO R sz c' ys){c2:Array Value}
  (h1:∀q,q<xs.length*sz→c2[q]?=c[q]?) (h2:∀q,q<ys.length*sz→c2[xs.length*sz+q]?=c'[q]?):aO R sz c2 (xs++ys):=by
 intro i x hx
 rw[List.getElem?_append]at hx
 split at hx
 ·rename_i hi
  obtain⟨z1,z2⟩:=h i x hx
  refine⟨z1,λj p hp=>?_⟩
  have hj:j<sz:=by rw[←z1];exact (List.getElem?_eq_some_iff.1 hp).1
  have hmul:(i+1)*sz≤xs.length*sz:=mul_le_mul_right _ hi
  rw[add_mul,one_mul]at hmul
  obtain⟨v,u1,u2⟩:=z2 j p hp
  exact⟨v,by rw[h1 _ (by omega)];exact u1,u2⟩
 ·rename_i hi
  obtain⟨z1,z2⟩:=h' _ x hx
  refine⟨z1,λj p hp=>?_⟩
  have hj:j<sz:=by rw[←z1];exact (List.getElem?_eq_some_iff.1 hp).1
  have hy:i-xs.length<ys.length:=(List.getElem?_eq_some_iff.1 hx).1
  have hmul:(i-xs.length+1)*sz≤ys.length*sz:=mul_le_mul_right _ hy
  rw[add_mul,one_mul]at hmul
  obtain⟨v,u1,u2⟩:=z2 j p hp
  refine⟨v,?_,u2⟩
  have:=h2 ((i-xs.length)*sz+j) (by omega)
  rw[←u1,←this]
  congr 1
  rw[←Nat.add_assoc,←add_mul]
  congr 2
  omega
theorem AV{t tx ty e:TypeId}{ti:ay}{R:PV→Value→Prop}(ht:P.underlying t=some (.slice e))(hte:eP P e ti)(hke:ti.kind≠.none)
  (hz:(aG ti).cells.length=ti.size) (hzs:(aG ti).cells.all PV.storable=true){x:Value}{xs ys:List PV}{news:List Value}
  (hs:Src P ti.size tx x ys.length news w) (hc:aO R ti.size ⟨news⟩ ys)
  (hb:(xs.length+ys.length)*ti.bytes≤140737488355328) (hm:xs.length+ys.length≤9223372036854775807)
  (base:Option Addr) (cap:Nat) (olds:List Value) (WQ:olds.length=xs.length*ti.size) (hold:aO R ti.size ⟨olds⟩ xs)
  (hrun:(Builtin.firstCells ti.size xs.length (.slice base xs.length cap)).run P w.drew=.ok olds.toArray w.drew) (hlt:cap<xs.length+ys.length) :
  ∃v' w' gb,(Builtin.append_ #[t,tx] ty #[.slice base xs.length cap,x]).run P w=.ok v' w'∧(w.heap.size≤w'.heap.size∧Sm w w')∧(∀(b:Nat) y,w.heap[b]?=some y→w'.heap[b]?=some y)∧
   gb=some w.heap.size∧(∃cap c,v'=.slice (some ⟨w.heap.size,0,none⟩) (xs++ys).length cap∧w'.heap[w.heap.size]?=some (.cells c e (0,0))∧(xs++ys).length≤cap∧cap≤maxLen∧c.size=cap*ti.size∧aO R ti.size c (xs++ys)):=by
 obtain⟨i,hi,hsz,hby,hzero⟩:=hte.info hke
 rw[←hsz]at hs hrun
 have hzc:ti.zero.cells.size=ti.size:=by
  obtain⟨vs,hv,hr,_⟩:=iM (w:=w) (ok:=λ_=>True) (objs:=[]) (blk:=λ_=>none) (.aF (qB w _ ti.zero)) hzs
  rw[hv];simp;rw[←hr.1];exact hz
 have hr:=run_append_grow_src (P:=P) w t tx ty e i ti.zero ht hi hzero base xs.length cap olds hrun x ys.length news hs hlt (by omega) (growslice_fits hlt (by rw[hby];exact hb))
 have hgr:jd w (w.drew.alloc (.cells ((olds++news).toArray++Builtin.zeroCells ti.zero.cells (grownCap w (xs.length+ys.length) cap e-(xs.length+ys.length))) e)):=.push rfl
 have hge:=grownCap_ge w (xs.length+ys.length) cap e
 refine⟨_,_,_,hr,⟨hgr.1,hgr.2.2⟩,hgr.2.1,rfl,grownCap w (xs.length+ys.length) cap e,(olds++news).toArray++Builtin.zeroCells ti.zero.cells (grownCap w (xs.length+ys.length) cap e-(xs.length+ys.length)),by rw[length_append],heap_alloc_new w.drew _,by rw[length_append];exact hge,grownCap_le_maxLen w _ cap e (by simp only[maxLen];omega),?_,?_⟩
 ·have hnl:=hs.newsLen
  rw[hsz]at hnl
  simp only[Array.size_append,List.size_toArray,length_append,size_zeroCells,hzc,WQ,hnl,←add_mul]
  congr 1;omega
 ·have hnl:=hs.newsLen
  rw[hsz]at hnl
  refine aO.append hold hc (λq hq=>?_) (λq hq=>?_)
  ·rw[Array.getElem?_append_left (by simp;omega)]
   simp only[List.getElem?_toArray]
   rw[List.getElem?_append_left (by omega)]
  ·rw[Array.getElem?_append_left (by simp;omega)]
   simp only[List.getElem?_toArray]
   rw[List.getElem?_append_right (by omega),WQ,Nat.add_sub_cancel_left]
theorem sJ{t tx ty e:TypeId}{ti:ay}{R:PV→Value→Prop}(ht:P.underlying t=some (.slice e))(hte:eP P e ti)(hke:ti.kind≠.none)
  (hz:(aG ti).cells.length=ti.size) (hzs:(aG ti).cells.all PV.storable=true)
  {gOld:Option Nat}{v x:Value}{xs ys:List PV}{news:List Value}
  (hv:match gOld with
   | none=>v=.slice none 0 0∧xs=[]
   | some g=>∃cap c,v=.slice (some ⟨g,0,none⟩) xs.length cap∧w.heap[g]?=some (.cells c e (0,0))∧xs.length≤cap∧cap≤maxLen∧c.size=cap*ti.size∧aO R ti.size c xs)
  (hs:Src P ti.size tx x ys.length news w) (hc:aO R ti.size ⟨news⟩ ys)
  (hb:(xs.length+ys.length)*ti.bytes≤140737488355328) (hm:xs.length+ys.length≤9223372036854775807) :
  ∃v' w' gb,(Builtin.append_ #[t,tx] ty #[v,x]).run P w=.ok v' w'∧(w.heap.size≤w'.heap.size∧Sm w w')∧(∀b y,gOld≠some b→w.heap[b]?=some y→w'.heap[b]?=some y)∧
   (∀g,gb=some g→gOld=some g∨w.heap.size≤g)∧
   (match gb with
    | none=>v'=.slice none 0 0∧xs++ys=[]
    | some g=>∃cap c,v'=.slice (some ⟨g,0,none⟩) (xs++ys).length cap∧w'.heap[g]?=some (.cells c e (0,0))∧(xs++ys).length≤cap∧cap≤maxLen∧c.size=cap*ti.size∧aO R ti.size c (xs++ys)):=by
 obtain⟨i,hi,hsz,hby,hzero⟩:=hte.info hke
 rw[←hsz]at hs
 have hzc:ti.zero.cells.size=ti.size:=by
  obtain⟨vs,hv,hr,_⟩:=iM (w:=w) (ok:=λ_=>True) (objs:=[]) (blk:=λ_=>none) (.aF (qB w _ ti.zero)) hzs
  rw[hv];simp;rw[←hr.1];exact hz
 have grow:=λbase cap olds (_:base=none→olds=[]) (h1:olds.length=xs.length*ti.size) h2 (h3:(Builtin.firstCells i.size xs.length (.slice base xs.length cap)).run P w.drew=.ok olds.toArray w.drew) h4=>
  AV (P:=P) (w:=w) (ty:=ty) (R:=R) (xs:=xs) (ys:=ys) ht hte hke hz hzs (by rw[←hsz];exact hs) hc hb hm base cap olds h1 h2 (by rw[←hsz];exact h3) h4
 cases gOld with
 | none=>
  obtain⟨rfl,rfl⟩:=hv
  by_cases hy:ys=[]
  ·subst hy
   have hn:news=[]:=List.eq_nil_of_length_eq_zero (by rw[hs.newsLen];simp)
   subst hn
   exact⟨_,_,none,BA w t tx ty e i ht hi x hs,⟨Nat.le_refl _,.refl w⟩,λ_ _ _ h=>h,(λg h=>by cases h),rfl,rfl⟩
  ·have hpos:0<ys.length:=List.length_pos_iff.2 hy
   obtain⟨v',w',gb,q1,q2,q3,q4,q5⟩:=grow none 0 [] (λ_=>rfl) (by simp) (λi x hx=>by simp at hx) (by simp[Builtin.firstCells]) (by simpa using hpos)
   exact⟨v',w',gb,q1,q2,λb y _ h=>q3 b y h,λg h=>by rw[q4]at h;cases h;exact .inr (Nat.le_refl _),by rw[q4];exact q5⟩
 | some g=>
  obtain⟨cap,c,rfl,x1,x2,x3,x4,x5⟩:=hv
  by_cases hroom:xs.length+ys.length≤cap
  ·have hnl:=hs.newsLen
   rw[hsz]at hnl
   have hfit:xs.length*i.size+news.length≤c.size:=by rw[hnl,x4,hsz,←add_mul];exact mul_le_mul_right _ hroom
   have hr:=mP w t tx ty e i ht hi g xs.length cap c e x1 x ys.length news hs hroom hfit
   rw[hsz]at hr hfit
   refine⟨_,_,some g,hr,⟨by simp[World.setRow],by first | exact⟨rfl,rfl⟩ | (unfold World.setRow;split<;>exact⟨rfl,rfl⟩)⟩,λb y hb hy=>?_,λg' h=>by cases h;exact .inl rfl,cap,(c.toList.take (xs.length*ti.size)++news++c.toList.drop (xs.length*ti.size+news.length)).toArray,by rw[length_append],setRow_heap w g c _ _ _ x1,by rw[length_append];exact hroom,x3,?_,?_⟩
   ·rw[setRow_other w g b _ (λe=>hb (by rw[e]))];exact hy
   ·simp only[List.size_toArray,length_append,length_take,List.length_drop,Array.length_toList];omega
   ·refine aO.append x5 hc (λq hq=>?_) (λq hq=>?_)
    ·rw[List.getElem?_toArray,iN _ _ _ _ (by simpa using hfit),if_pos hq];simp
    ·rw[List.getElem?_toArray,iN _ _ _ _ (by simpa using hfit),if_neg (by omega),if_pos (by omega)]
     simp
  ·have holds:(Builtin.firstCells i.size xs.length (.slice (some ⟨g,0,none⟩) xs.length cap)).run P w.drew=.ok (c.toList.take (xs.length*ti.size)).toArray w.drew:=by
     rw[hsz]
     refine run_firstCells_some w.drew ti.size xs.length ⟨g,0,none⟩ xs.length cap (c.toList.take (xs.length*ti.size)) (by simp only[length_take,Array.length_toList,x4];exact Nat.min_eq_left (mul_le_mul_right _ x2)) (λj u hu=>?_)
     rw[List.getElem?_take]at hu
     split at hu
     ·rw[add_lit]
      have:(w.drew.heap)[g]?=some (.cells c e (0,0)):=x1
      simp only[World.cell?,this]
      simpa using hu
     ·cases hu
   obtain⟨v',w',gb,q1,q2,q3,q4,q5⟩:=grow (some ⟨g,0,none⟩) cap (c.toList.take (xs.length*ti.size)) (λh=>by cases h) (by simp only[length_take,Array.length_toList,x4];exact Nat.min_eq_left (mul_le_mul_right _ x2)) (λi x hx=>⟨(x5 i x hx).1,λj p hp=>by
    obtain⟨v,u1,u2⟩:=(x5 i x hx).2 j p hp
    refine⟨v,?_,u2⟩
    have hj:j<ti.size:=by rw[←(x5 i x hx).1];exact (List.getElem?_eq_some_iff.1 hp).1
    have hi:i<xs.length:=(List.getElem?_eq_some_iff.1 hx).1
    have hmul:(i+1)*ti.size≤xs.length*ti.size:=mul_le_mul_right _ hi
    rw[add_mul,one_mul]at hmul
    simp only[List.getElem?_toArray,List.getElem?_take]
    rw[if_pos (by omega)]
    simpa using u1⟩) holds (by omega)
   exact⟨v',w',gb,q1,q2,λb y _ h=>q3 b y h,λg h=>by rw[q4]at h;cases h;exact .inr (Nat.le_refl _),by rw[q4];exact q5⟩
theorem jf(R:Rel base ah w0 S blk a w){k:Nat}{o:Obj}(h1:S.objs[k]?=some o)(h2:o.live=true){g:Nat}(hb:blk k=some g)(hty:o.ty≠MT) :
  ∃c,w.heap[g]?=some (.cells c o.ty (0,0))∧o.xs.length*o.sz≤c.size∧aO (aP w (aV base S.objs blk) S.objs blk) o.sz c o.xs:=by
 have h:=R.objs.ob k o h1 h2
 unfold bf at h
 rw[hb]at h
 obtain⟨c,x1,x2,x3⟩:=h
 rw[jc hty]at x1
 exact⟨c,x1,x2.1,x3⟩
theorem aO.take {R:PV→Value→Prop}{sz:Nat}{xs:List PV}{c:Array Value}(h:aO R sz c xs):aO R sz ⟨c.toList.take (xs.length*sz)⟩ xs:=by
 intro i x hx
 refine⟨(h i x hx).1,λj p hp=>?_⟩
 obtain⟨v,u1,u2⟩:=(h i x hx).2 j p hp
 refine⟨v,?_,u2⟩
 have hj:j<sz:=by rw[←(h i x hx).1];exact (List.getElem?_eq_some_iff.1 hp).1
 have hi:i<xs.length:=(List.getElem?_eq_some_iff.1 hx).1
 have hmul:(i+1)*sz≤xs.length*sz:=mul_le_mul_right _ hi
 rw[add_mul,one_mul]at hmul
 simp only[List.getElem?_toArray,List.getElem?_take]
 rw[if_pos (by omega)]
 simpa using u1
theorem cells_one{R:PV→Value→Prop}{sz:Nat}{ys:List PV}{news:List Value}(h:aO R sz ⟨news⟩ ys)(hl:news.length=ys.length*sz)
  (hr:∀y∈ys,∀p∈y.cells,∀v,R p v→v.oneCell'=true):∀u∈news,u.oneCell'=true:=by
 intro u hu
 obtain⟨q,hq,rfl⟩:=List.mem_iff_getElem.1 hu
 have hpos:0<sz:=by
  rcases Nat.eq_zero_or_pos sz with h0 | h0
  ·rw[h0,Nat.mul_zero]at hl;omega
  ·exact h0
 have hi:q / sz<ys.length:=by rw[Nat.div_lt_iff_lt_mul hpos,←hl];exact hq
 have hj:q % sz<sz:=mod_lt _ hpos
 obtain⟨h1,h2⟩:=h (q / sz) _ (List.getElem?_eq_getElem hi)
 obtain⟨v,u1,u2⟩:=h2 (q % sz) _ (List.getElem?_eq_getElem (by rw[h1];exact hj))
 have e:q / sz*sz+q % sz=q:=by rw[mul_comm];exact Nat.div_add_mod q sz
 rw[e]at u1
 have:news[q]=v:=by
  have h3:news[q]?=some v:=by simpa using u1
  rw[List.getElem?_eq_getElem hq]at h3
  exact Option.some.inj h3
 rw[this]
 exact hr _ (List.getElem_mem hi) _ (List.getElem_mem _) v u2
theorem Vf{tx:TypeId}{x:PV}{objs:List Obj}{K:List PV→Bool→Prop}(h:kX D tx x objs K):kX D tx x objs λys _=>∃q,K ys q:=by
 unfold kX at h ⊢
 split at h
 ·exact⟨_,h⟩
 ·obtain⟨o,h1,h2,h3,h⟩:=h;exact⟨o,h1,h2,h3,_,h⟩
 ·exact⟨_,h⟩
 ·exact h.elim
theorem Vg{ok:Nat→Prop}{tx e:TypeId}{v:Value}{sz sz':Nat}{ys:List PV}{q:Option Bool}(hu:P.underlying tx=some (.slice e))(hx':bQ w ok (.sl sz' ys q) v)(hpos:sz≠0)
  (hall:∀y∈ys,y.cells.length=sz∧y.cells.all PV.storable=true){objs:List Obj}{blk:Nat→Option Nat} :
  ∃news,Src P sz tx v ys.length news w∧aO (aP w ok objs blk) sz ⟨news⟩ ys:=by
 have hone:∀y∈ys,∀p∈y.cells,∀v,aP w ok objs blk p v→v.oneCell'=true:=
  λy hy p hp v hv=>(je hv (List.all_eq_true.1 (hall y hy).2 p hp)).1
 cases hx' with
 | slnil=>exact⟨[],Src.ofNil w hu 0,λi x hx=>by simp at hx⟩
 | Cy _ _ _ a cap=>exact⟨[],Src.ofSlice w hu a 0 cap [] (by simp) (λj u hu=>by simp at hu) (λu hu=>by cases hu),λi x hx=>by simp at hx⟩
 | sl _ _ _ hq b off cap vs hok hlen hcap hsz hcell hrep=>
  have hszz:∀i y,ys[i]?=some y→sz'=sz:=λi y hy=>by rw[←hsz i y hy,(hall y (List.mem_of_getElem? hy)).1]
  have hc:aO (aP w ok objs blk) sz ⟨(List.range (ys.length*sz)).map λq=>vs (q / sz) (q % sz)⟩ ys:=by
   intro i y hy
   have hi:i<ys.length:=(List.getElem?_eq_some_iff.1 hy).1
   have hc0:=(hall y (List.mem_of_getElem? hy)).1
   refine⟨hc0,λj p hp=>?_⟩
   have hj:j<sz:=by rw[←hc0];exact (List.getElem?_eq_some_iff.1 hp).1
   have hmul:(i+1)*sz≤ys.length*sz:=mul_le_mul_right _ hi
   rw[add_mul,one_mul]at hmul
   refine⟨vs i j,?_,.aF (hrep i y j p hy hp)⟩
   have h1:(i*sz+j) / sz=i:=by rw[mul_comm,Nat.mul_add_div (by omega),Nat.div_eq_of_lt hj,add_zero]
   have h2:(i*sz+j) % sz=j:=by rw[mul_comm,Nat.mul_add_mod,Nat.mod_eq_of_lt hj]
   simp[show i*sz+j<ys.length*sz by omega,h1,h2]
  refine⟨_,Src.ofSlice w hu ⟨b,off,none⟩ ys.length cap _ (by simp) (λq u Qo=>?_) (cells_one hc (by simp) hone),hc⟩
  rw[List.getElem?_map]at Qo
  cases hr:(List.range (ys.length*sz))[q]? with
  | none=>rw[hr]at Qo;simp at Qo
  | some q'=>
   obtain⟨hq1,hq2⟩:=List.getElem?_eq_some_iff.1 hr
   simp at hq1 hq2
   subst hq2
   rw[hr]at Qo
   simp only[Option.map_some,Option.some.injEq]at Qo
   have hi:q / sz<ys.length:=by rw[Nat.div_lt_iff_lt_mul (by omega)];exact hq1
   have hj:q % sz<sz:=mod_lt _ (by omega)
   have hs:=hszz _ _ (List.getElem?_eq_getElem hi)
   have hcl:=hsz _ _ (List.getElem?_eq_getElem hi)
   have:=hcell (q / sz) _ (q % sz) _ (List.getElem?_eq_getElem hi) (List.getElem?_eq_getElem (by rw[hcl,hs];exact hj))
   rw[add_lit,←Qo,←this,hs]
   congr 2
   have e:q / sz*sz+q % sz=q:=by rw[mul_comm];exact Nat.div_add_mod q sz
   omega
theorem X3{tx:TypeId}{x:Operand}{sz:Nat}{K:List PV→Prop}(hD:∀t,eP P t (D t))(R:Rel base ah w0 S blk a w)(hpos:sz≠0)(h:kX D tx (S.ev x) S.objs λys _=>K ys)
  (hall:∀ys,K ys→∀y∈ys,y.cells.length=sz∧y.cells.all PV.storable=true) :
  ∃ys news,K ys∧Src P sz tx (a.eval x) ys.length news w∧aO (aP w (aV base S.objs blk) S.objs blk) sz ⟨news⟩ ys:=by
 have hx:=R.ev x
 have hone:∀ys,K ys→∀y∈ys,∀p∈y.cells,∀v,aP w (aV base S.objs blk) S.objs blk p v→v.oneCell'=true:=
  λys hk y hy p hp v hv=>(je hv (List.all_eq_true.1 (hall ys hk y hy).2 p hp)).1
 unfold kX at h
 split at h
 ·rename_i e sz' ys q hk e1
  rw[e1]at hx
  have hu:=(hD tx).slice hk
  have hx':=hx.sl
  generalize a.eval x=v at hx'
  cases hx' with
  | slnil=>exact⟨[],[],h,Src.ofNil w hu 0,λi x hx=>by simp at hx⟩
  | Cy _ _ _ a cap=>exact⟨[],[],h,Src.ofSlice w hu a 0 cap [] (by simp) (λj u hu=>by simp at hu) (λu hu=>by cases hu),λi x hx=>by simp at hx⟩
  | sl _ _ _ hq b off cap vs hok hlen hcap hsz hcell hrep=>
   have hszz:∀i y,ys[i]?=some y→sz'=sz:=λi y hy=>by rw[←hsz i y hy,(hall ys h y (List.mem_of_getElem? hy)).1]
   have hc:aO (aP w (aV base S.objs blk) S.objs blk) sz ⟨(List.range (ys.length*sz)).map λq=>vs (q / sz) (q % sz)⟩ ys:=by
    intro i y hy
    have hi:i<ys.length:=(List.getElem?_eq_some_iff.1 hy).1
    have hc0:=(hall ys h y (List.mem_of_getElem? hy)).1
    refine⟨hc0,λj p hp=>?_⟩
    have hj:j<sz:=by rw[←hc0];exact (List.getElem?_eq_some_iff.1 hp).1
    have hmul:(i+1)*sz≤ys.length*sz:=mul_le_mul_right _ hi
    rw[add_mul,one_mul]at hmul
    refine⟨vs i j,?_,.aF (hrep i y j p hy hp)⟩
    have h1:(i*sz+j) / sz=i:=by rw[mul_comm,Nat.mul_add_div (by omega),Nat.div_eq_of_lt hj,add_zero]
    have h2:(i*sz+j) % sz=j:=by rw[mul_comm,Nat.mul_add_mod,Nat.mod_eq_of_lt hj]
    simp[show i*sz+j<ys.length*sz by omega,h1,h2]
   refine⟨ys,_,h,Src.ofSlice w hu ⟨b,off,none⟩ ys.length cap _ (by simp) (λq u Qo=>?_) (cells_one hc (by simp) (hone ys h)),hc⟩
   rw[List.getElem?_map]at Qo
   cases hr:(List.range (ys.length*sz))[q]? with
   | none=>rw[hr]at Qo;simp at Qo
   | some q'=>
    obtain⟨hq1,hq2⟩:=List.getElem?_eq_some_iff.1 hr
    simp at hq1 hq2
    subst hq2
    rw[hr]at Qo
    simp only[Option.map_some,Option.some.injEq]at Qo
    have hi:q / sz<ys.length:=by rw[Nat.div_lt_iff_lt_mul (by omega)];exact hq1
    have hj:q % sz<sz:=mod_lt _ (by omega)
    have hs:=hszz _ _ (List.getElem?_eq_getElem hi)
    have hcl:=hsz _ _ (List.getElem?_eq_getElem hi)
    have:=hcell (q / sz) _ (q % sz) _ (List.getElem?_eq_getElem hi) (List.getElem?_eq_getElem (by rw[hcl,hs];exact hj))
    rw[add_lit,←Qo,←this,hs]
    congr 2
    have e:q / sz*sz+q % sz=q:=by rw[mul_comm];exact Nat.div_add_mod q sz
    omega
 ·rename_i e k ver hk e1
  rw[e1]at hx
  have hu:=(hD tx).slice hk
  obtain⟨o,h1,h2,h3,h⟩:=h
  have hh:=hx.aW h1 h2 h3
  unfold sH at hh
  cases hb:blk k with
  | none=>
   rw[hb]at hh
   rw[hh.2]at h
   rw[hh.1]
   exact⟨[],[],h,Src.ofNil w hu 0,λi x hx=>by simp at hx⟩
  | some g=>
   rw[hb]at hh
   obtain⟨cap,c,hv,x1,x2,x3,x4⟩:=hh
   obtain⟨c',y1,y2,y3⟩:=jf R h1 h2 hb (hx.qC h1 h2 h3)
   rw[x1]at y1;cases y1
   have hszz:∀i y,o.xs[i]?=some y→o.sz=sz:=λi y hy=>by rw[←(y3 i y hy).1,(hall o.xs h y (List.mem_of_getElem? hy)).1]
   rw[hv]
   by_cases hn:o.xs=[]
   ·rw[hn]at h ⊢
    exact⟨[],[],h,Src.ofSlice w hu _ 0 cap [] (by simp) (λj u hu=>by simp at hu) (λu hu=>by cases hu),λi x hx=>by simp at hx⟩
   ·have hpos':0<o.xs.length:=List.length_pos_iff.2 hn
    have hs:=hszz 0 _ (List.getElem?_eq_getElem hpos')
    rw[hs]at y2 y3
    have ht:=y3.take
    have hlen:(c.toList.take (o.xs.length*sz)).length=o.xs.length*sz:=by simp only[length_take,Array.length_toList];omega
    refine⟨o.xs,_,h,Src.ofSlice w hu ⟨g,0,none⟩ o.xs.length cap _ hlen (λj u hju=>?_) (cells_one ht hlen (hone o.xs h)),ht⟩
    rw[List.getElem?_take]at hju
    split at hju
    ·rw[add_lit];simp only[World.cell?,x1];simpa using hju
    ·cases hju
 ·rename_i s hk e1
  rw[e1]at hx
  have hu:=(hD tx).Qi hk
  rw[hx.str]
  have h1:sz=1∨s=[]:=by
   cases s with
   | nil=>exact .inr rfl
   | cons b s=>exact .inl ((hall _ h (.int .u8 b.toNat) (by simp)).1.symm)
  rcases h1 with h1 | h1
  ·subst h1
   have hs:=Src.ofString (P:=P) w hu (ByteArray.mk ⟨s⟩)
   rw[size_mk]at hs
   refine⟨_,byteCells ⟨⟨s⟩⟩,h,by simpa using hs,λi y hy=>?_⟩
   rw[List.getElem?_map]at hy
   cases hb:s[i]? with
   | none=>rw[hb]at hy;simp at hy
   | some b=>
    rw[hb]at hy
    simp only[Option.map_some,Option.some.injEq]at hy
    subst hy
    refine⟨rfl,λj p hp=>?_⟩
    cases j with
    | zero=>
     simp[PV.cells]at hp
     subst hp
     exact⟨.int .u8 b.toNat,by simp[byteCells,hb],.aF (.int _ _)⟩
    | succ j=>simp[PV.cells]at hp
  ·subst h1
   refine⟨[],[],h,⟨.inr hu,λ_=>rfl,?_,?_,by simp,λu hu=>by cases hu⟩,λi x hx=>by simp at hx⟩
   ·simp[Builtin.firstCells]
   ·simp[Builtin.firstCells]
 ·exact h.elim
theorem F3{w':World}{okk:Nat→Prop}{ai:List Obj}{aj:Nat→Option Nat}{k:Nat}{o:Obj}{gb:Option Nat}{R:PV→Value→Prop}(hb:aj k=gb)
  (h:match gb with
    | none=>o.xs=[]
    | some g=>∃cap c,w'.heap[g]?=some (.cells c o.ty (0,0))∧o.xs.length≤cap∧c.size=cap*o.sz∧aO R o.sz c o.xs) (hM:o.ty≠MT)
  (hr:∀p v,R p v→aP w' okk ai aj p v):bf w' okk ai aj k o:=by
 unfold bf
 rw[hb]
 cases gb with
 | none=>exact h
 | some g=>
  obtain⟨cap,c,h1,h2,h3,h4⟩:=h
  exact⟨c,by rw[jc hM];exact h1,oP hM (by rw[h3];exact mul_le_mul_right _ h2),λi x hx=>⟨(h4 i x hx).1,λj p hp=>let ⟨v,u1,u2⟩:=(h4 i x hx).2 j p hp;⟨v,u1,hr _ _ u2⟩⟩⟩
theorem MS{t u:TypeId}{s x:Operand}{o:Oper}{K:KT}(ho:o.op=.call { callee:=.builtin .append,args:=#[s,x],argTypes:=#[t,u] })(hD:∀t,eP P t (D t))
  (R:Rel base ah w0 S blk a w) (h:dh D t u (S.ev s) (S.ev x) S.objs K):Out P base ah w0 S o a w K:=by
 have hs:=R.ev s
 unfold dh at h
 split at h
 ·rename_i e hk
  obtain⟨hke,hpos,hz,hzs,h⟩:=h
  have hu:=(hD t).slice hk
  obtain⟨ys,news,⟨q,hys,h⟩,hsrc,hcells⟩:=X3 hD R hpos (Vf h) (λys hy=>hy.choose_spec.1)
  have AU:∀v' w',(Builtin.append_ #[t,u] o.type #[a.eval s,a.eval x]).run P w=.ok v' w'→(execOp a.eval o).run P w=.ok (.value v') w':=by
   intro v' w' hr
   simp[execOp,ho,resolve,invoke,builtin,hr]
  split at h
  ·rename_i k ver e1
   rw[e1]at hs
   obtain⟨ob,h1,h2,h3,h4,hty,h5,h6,hne,h7⟩:=h
   have hh:=hs.aW h1 h2 h3
   have hM:=hs.qC h1 h2 h3
   obtain⟨v',w',gb,q1,q2,q3,q4,q5⟩:=sJ (ty:=o.type) (R:=aP w (aV base S.objs blk) S.objs blk) (gOld:=blk k) (v:=a.eval s) (x:=a.eval x) (xs:=ob.xs) hu (hD e) hke hz hzs (by
    unfold sH at hh
    cases hb:blk k with
    | none=>rw[hb]at hh;exact hh
    | some g=>
     rw[hb]at hh
     obtain⟨cap,c,hv,x1,x2,x3,x4⟩:=hh
     obtain⟨c',y1,y2,y3⟩:=jf R h1 h2 hb hM
     rw[x1]at y1;cases y1
     rw[hty]at x1
     rw[h4]at x4 y3
     exact⟨cap,c,hv,x1,x2,x3,x4,y3⟩) hsrc hcells h5 h6
   refine⟨v',w',.aW k (ver+1),_,_,aC blk k gb,.inl (AU _ _ q1),h7,?_,?_,.same (by simp)⟩
   ·refine R.setObj q2.2 (o':={ ob with xs:=ob.xs++ys,ver:=ver+1 }) h1 h2 h2 q2.1 q3 q4 (by simp;omega) (λhv=>by simp at hv;omega) (λhr=>?_)
    refine F3 (gb:=gb) (R:=aP w (aV base S.objs blk) S.objs blk) (by unfold aC;rw[if_pos rfl]) ?_ hM hr
    cases gb with
    | none=>exact q5.2
    | some g=>
     obtain⟨cap,c,_,z1,z2,z3,z4,z5⟩:=q5
     simp only[hty,h4]
     exact⟨cap,c,z1,z2,z4,z5⟩
   ·have hone:v'.oneCell'=true:=by
      cases gb with
      | none=>rw[q5.1];rfl
      | some g=>obtain⟨cap,c,hv,_⟩:=q5;rw[hv];rfl
    refine⟨hone,{ ob with xs:=ob.xs++ys,ver:=ver+1 },?_,Nat.le_refl _,λ_ _=>⟨hM,?_⟩⟩
    ·rw[List.getElem?_set];simp[(List.getElem?_eq_some_iff.1 h1).1]
    ·unfold sH
     have:aC blk k gb k=gb:=by unfold aC;rw[if_pos rfl]
     rw[this]
     cases gb with
     | none=>exact q5
     | some g=>
      obtain⟨cap,c,hv,z1,z2,z3,z4,z5⟩:=q5
      simp only[hty,h4]
      exact⟨cap,c,hv,z1,z2,z3,z4⟩
  ·rename_i sz xs e1
   rw[e1]at hs
   obtain⟨h4,ZC,h5,h6,abj,h7⟩:=h
   have hcl:bQ w (aV base S.objs blk) (.cl sz xs) (a.eval s):=hs
   have fin:∀v,a.eval s=v→bQ w (aV base S.objs blk) (.sl sz xs none) v→(∀b l c,v=.slice b l c→c=l)→∃v' w' gb,(Builtin.append_ #[t,u] o.type #[a.eval s,a.eval x]).run P w=.ok v' w'∧(w.heap.size≤w'.heap.size∧Sm w w')∧
       (∀(b:Nat) y,w.heap[b]?=some y→w'.heap[b]?=some y)∧gb=w.heap.size∧(∃cap c,v'=.slice (some ⟨gb,0,none⟩) (xs++ys).length cap∧w'.heap[gb]?=some (.cells c e (0,0))∧(xs++ys).length≤cap∧cap≤maxLen∧c.size=cap*(D e).size∧aO (aP w (aV base S.objs blk) S.objs blk) (D e).size c (xs++ys)):=by
    intro v hv hr hc
    obtain⟨olds,o1,o2⟩:=Vg (P:=P) (w:=w) (objs:=S.objs) (blk:=blk) hu hr hpos ZC
    have key:∀b l c,v=.slice b l c→l=xs.length→∃v' w' gb,(Builtin.append_ #[t,u] o.type #[v,a.eval x]).run P w=.ok v' w'∧(w.heap.size≤w'.heap.size∧Sm w w')∧
     (∀(b:Nat) y,w.heap[b]?=some y→w'.heap[b]?=some y)∧gb=w.heap.size∧(∃cap c,v'=.slice (some ⟨gb,0,none⟩) (xs++ys).length cap∧w'.heap[gb]?=some (.cells c e (0,0))∧(xs++ys).length≤cap∧cap≤maxLen∧c.size=cap*(D e).size∧aO (aP w (aV base S.objs blk) S.objs blk) (D e).size c (xs++ys)):=by
     intro b l c e1 e2
     have e3:=hc b l c e1
     subst e3;subst e2
     have hl:0<ys.length:=List.length_pos_iff.2 abj
     obtain⟨v',w',gb,q1,q2,q3,q4,q5⟩:=AV (P:=P) (w:=w) (ty:=o.type) (R:=aP w (aV base S.objs blk) S.objs blk) (xs:=xs) (ys:=ys) hu (hD e) hke hz hzs hsrc hcells h5 h6 b xs.length olds o1.newsLen o2 (by
      have:=o1.cellsD
      rw[e1]at this
      exact this) (by omega)
     exact⟨v',w',w.heap.size,by rw[e1];exact q1,q2,q3,rfl,q5⟩
    rw[hv]
    cases hr with
    | slnil=>exact key _ _ _ rfl rfl
    | Cy=>exact key _ _ _ rfl rfl
    | sl=>exact key _ _ _ rfl rfl
   have hex:∃v' w' gb,(Builtin.append_ #[t,u] o.type #[a.eval s,a.eval x]).run P w=.ok v' w'∧(w.heap.size≤w'.heap.size∧Sm w w')∧
       (∀(b:Nat) y,w.heap[b]?=some y→w'.heap[b]?=some y)∧gb=w.heap.size∧(∃cap c,v'=.slice (some ⟨gb,0,none⟩) (xs++ys).length cap∧w'.heap[gb]?=some (.cells c e (0,0))∧(xs++ys).length≤cap∧cap≤maxLen∧c.size=cap*(D e).size∧aO (aP w (aV base S.objs blk) S.objs blk) (D e).size c (xs++ys)):=by
    generalize hv:a.eval s=v at hcl
    rw[←hv]
    cases hcl with
    | cl _ _ _ hr hc=>exact fin v hv hr hc
   obtain⟨v',w',gb,q1,q2,q3,q4,cap,c,z0,z1,z2,z3,z4,z5⟩:=hex
   refine⟨v',w',.aW S.objs.length 1,_,_,aC blk S.objs.length (some gb),.inl (AU _ _ q1),h7,?_,?_,?_⟩
   ·refine R.Hy ⟨q2.1,λb y hy=>q3 b y hy,q2.2⟩ (λg hg=>by cases hg;omega) ?_
    exact⟨c,by rw[jc ((hD e).notM hke)];exact z1,oP ((hD e).notM hke) (by rw[z4];exact mul_le_mul_right _ z2),z5⟩
   ·refine⟨by rw[z0];rfl,_,uU _ _ _ _,Nat.le_refl _,λ_ _=>⟨(hD e).notM hke,?_⟩⟩
    unfold sH
    have:aC blk S.objs.length (some gb) S.objs.length=some gb:=by unfold aC;rw[if_pos rfl]
    rw[this]
    exact⟨cap,c,z0,z1,z2,z3,z4⟩
   ·exact .of λi y hy j p hp=>by
      obtain⟨v,_,h⟩:=(z5 i y hy).2 j p hp
      exact l5 h
  ·rename_i sz e1
   rw[e1]at hs
   obtain⟨h5,h6,h7⟩:=h
   have hv:a.eval s=.slice none 0 0:=by
    have:=hs.sl
    generalize a.eval s=v at this
    cases this with
    | slnil=>rfl
    | Cy _ _ hq=>exact absurd rfl hq
    | sl _ _ _ hq=>exact absurd rfl hq
   obtain⟨v',w',gb,q1,q2,q3,q4,q5⟩:=sJ (ty:=o.type) (R:=aP w (aV base S.objs blk) S.objs blk) (gOld:=none) (v:=a.eval s) (x:=a.eval x) (xs:=[]) hu (hD e) hke hz hzs ⟨hv,rfl⟩ hsrc hcells (by simpa using h5) (by simpa using h6)
   simp only[List.nil_append]at q5
   refine⟨v',w',.aW S.objs.length 1,_,_,aC blk S.objs.length gb,.inl (AU _ _ q1),h7,?_,?_,?_⟩
   ·refine R.Hy ⟨q2.1,λb y hy=>q3 b y (by simp) hy,q2.2⟩ (λg hg=>(q4 g hg).resolve_left (by simp)) ?_
    cases gb with
    | none=>exact q5.2
    | some g=>
     obtain⟨cap,c,_,z1,z2,z3,z4,z5⟩:=q5
     exact⟨c,by rw[jc ((hD e).notM hke)];exact z1,oP ((hD e).notM hke) (by rw[z4];exact mul_le_mul_right _ z2),z5⟩
   ·have hone:v'.oneCell'=true:=by
      cases gb with
      | none=>rw[q5.1];rfl
      | some g=>obtain⟨cap,c,hv,_⟩:=q5;rw[hv];rfl
    refine⟨hone,_,uU _ _ _ _,Nat.le_refl _,λ_ _=>⟨(hD e).notM hke,?_⟩⟩
    unfold sH
    have:aC blk S.objs.length gb S.objs.length=gb:=by unfold aC;rw[if_pos rfl]
    rw[this]
    cases gb with
    | none=>exact q5
    | some g=>
     obtain⟨cap,c,hv,z1,z2,z3,z4,z5⟩:=q5
     exact⟨cap,c,hv,z1,z2,z3,z4⟩
   ·exact .of λi y hy j p hp=>by
      obtain⟨v,_,h⟩:=(hcells i y hy).2 j p hp
      exact l5 h
  ·exact h.elim
 ·exact h.elim
end
end Lp
namespace Lp
open Go
section
variable {P:Program}{base ah:Nat→Prop}{w0:Wz}{S:St}{blk:Nat→Option Nat}{a:Act}{w:World}{D:TypeId→ay}
theorem Qp{t:TypeId}{x:Operand}{lo hi:Option Operand}{o:Oper}{K:KT}(ho:o.op=.slice t x lo hi none)(hD:∀t,eP P t (D t))(R:Rel base ah w0 S blk a w)
  (h:gu D t (S.ev x) (lo.map S.ev) (hi.map S.ev) S.objs K):Out P base ah w0 S o a w K:=by
 have hx:=R.ev x
 unfold gu at h
 split at h
 ·rename_i s hk e1
  rw[e1]at hx
  have hv:=hx.str
  have hu:=(hD t).Qi hk
  obtain⟨l,h',g1,_,_,_,g2⟩:=nS (P:=P) (b:=false) R (Nat.le_refl s.length) h
  refine .pure R ?_ g2 (.aF (.str _))
  simp[execOp,ho,hv,Instr.sliceAt,Instr.slice,run_underlying hu,size_mk,g1,extract_mk]
 ·rename_i e sz xs q hk e1
  rw[e1]at hx
  have hu:=(hD t).slice hk
  obtain⟨hke,hsz,h⟩:=h
  have hx':=hx.sl
  generalize hv:a.eval x=v at hx'
  cases hx' with
  | slnil _ _ hq=>
   obtain⟨l,h',g1,p1,p2,p3,g2⟩:=nS (P:=P) (b:=true) R (Nat.le_refl 0) h
   simp at p3
   have e1:l=0:=by omega
   have e2:h'=0:=by omega
   subst e1;subst e2
   refine .pure R (v:=.slice none 0 0) ?_ g2 (.aF (by simpa using bQ.slnil sz q hq))
   simp[execOp,ho,hv,Instr.sliceAt,Instr.slice,run_underlying hu,g1,(hD e).bY hke]
  | Cy _ _ hq a' cap hcap=>
   obtain⟨l,h',g1,p1,p2,p3,g2⟩:=nS (P:=P) (b:=true) R (Nat.zero_le cap) h
   simp at p3
   have e1:l=0:=by omega
   have e2:h'=0:=by omega
   subst e1;subst e2
   refine .pure R (v:=.slice (some (if cap=0 then a' else a'.add (0*(D e).size))) 0 (cap-0)) ?_ g2 (.aF (by simpa using bQ.Cy sz q hq _ cap hcap))
   simp[execOp,ho,hv,Instr.sliceAt,Instr.slice,run_underlying hu,g1,(hD e).bY hke]
   try (split<;>rfl)
  | sl _ _ _ hq b off cap vs hok hlen hcap hsz' hcell hrep=>
   obtain⟨l,h',g1,p1,p2,p3,g2⟩:=nS (P:=P) (b:=true) R hlen h
   have JZ:(List.drop l.toNat (List.take h'.toNat xs)).length=h'.toNat-l.toNat:=by simp;omega
   refine .pure R (v:=.slice (some (if cap=l.toNat then ⟨b,off,none⟩ else ⟨b,off+l.toNat*(D e).size,none⟩)) (h'.toNat-l.toNat) (cap-l.toNat)) ?_ g2 (.aF ?_)
   ·simp[execOp,ho,hv,Instr.sliceAt,Instr.slice,run_underlying hu,g1,(hD e).bY hke,add_lit]
    split<;>rfl
   ·have key:∀off',(cap≠l.toNat→off'=off+l.toNat*(D e).size)→bQ w (aV base S.objs blk) (.sl sz (List.drop l.toNat (List.take h'.toNat xs)) q) (.slice (some ⟨b,off',none⟩) (h'.toNat-l.toNat) (cap-l.toNat)):=by
      intro off' hoff
      rw[←JZ]
      have hget:∀(i:Nat) (y:PV),(List.drop l.toNat (List.take h'.toNat xs))[i]?=some y→xs[l.toNat+i]?=some y∧off'=off+l.toNat*sz:=by
       intro i y hy
       rw[List.getElem?_drop,List.getElem?_take]at hy
       split at hy
       ·rename_i hlt
        have:xs≠[]:=by rintro rfl;simp at hy
        rw[←hsz.resolve_left this]
        exact⟨hy,hoff (by omega)⟩
       ·cases hy
      refine .sl sz _ q hq b off' (cap-l.toNat) (λi j=>vs (l.toNat+i) j) (λhn=>hok (by rintro rfl;simp at hn)) (by rw[JZ];omega) (by omega) (λi y hy=>hsz' _ _ (hget i y hy).1) ?_ ?_
      ·intro i y j p hy hp
       rw[←hcell _ _ j p (hget i y hy).1 hp,(hget i y hy).2,Nat.add_mul]
       congr 2
       omega
      ·intro i y j p hy hp
       exact hrep _ _ j p (hget i y hy).1 hp
    split
    ·exact key off (λhc=>absurd (by assumption) hc)
    ·exact key _ (λ_=>rfl)
 ·rename_i e k ver hk e1
  rw[e1]at hx
  have hu:=(hD t).slice hk
  obtain⟨hke,ob,h1,h2,h3,hsz,hlo,h⟩:=h
  have abk:lo=none:=by cases lo<;>simp at hlo ⊢
  subst abk
  have hh:=hx.aW h1 h2 h3
  have hM:=hx.qC h1 h2 h3
  obtain⟨h',g1,p1,p2,g2⟩:∃h':Int,(∀cap,ob.xs.length≤cap→(Instr.sliceBounds true ob.xs.length cap none (hi.map a.eval) none).run P w=.ok (0,h'.toNat,cap) w)∧0≤h'∧h'≤ob.xs.length∧
    K (.aW k (ver+1)) (S.objs.set k { ob with xs:=ob.xs.take h'.toNat,ver:=ver+1 }) (5+2*k):=by
   cases hi with
   | none=>
    rw[Option.map_none,oV]at h
    exact⟨ob.xs.length,λcap hc=>by simp[Instr.sliceBounds],h⟩
   | some y=>
    obtain⟨k',n,hv,h⟩:=oU R h
    exact⟨n,λcap hc=>by simp[Instr.sliceBounds,run_sliceBound hv h.1 (show n≤(cap:Int) by omega)],h⟩
  have hlen:(ob.xs.take h'.toNat).length=h'.toNat:=by simp;omega
  have hk':k<S.objs.length:=(List.getElem?_eq_some_iff.1 h1).1
  have hrel:Rel base ah w0 ⟨S.tmps,S.objs.set k { ob with xs:=ob.xs.take h'.toNat,ver:=ver+1 }⟩ (aC blk k (blk k)) a w:=by
   refine R.setObj (.refl w) (o':={ ob with xs:=ob.xs.take h'.toNat,ver:=ver+1 }) h1 h2 h2 (Nat.le_refl _) (λ_ _ _ h=>h) (λg hg=>.inl hg) (by simp;omega) (λhv=>by simp at hv;omega) (λhr=>?_)
   have uV:=R.objs.ob k ob h1 h2
   unfold bf at uV ⊢
   have:aC blk k (blk k) k=blk k:=by unfold aC;rw[if_pos rfl]
   rw[this]
   cases hb:blk k with
   | none=>rw[hb]at uV;simp[uV]
   | some g=>
    rw[hb]at uV hr
    obtain⟨c,x1,x2,x3⟩:=uV
    refine⟨c,x1,oP hM (Nat.le_trans (Nat.mul_le_mul_right _ (by rw[hlen];omega)) x2.1),λi y hy=>?_⟩
    simp only[List.getElem?_take]at hy
    split at hy
    ·refine⟨(x3 i y hy).1,λj p hp=>?_⟩
     obtain⟨v,u1,u2⟩:=(x3 i y hy).2 j p hp
     exact⟨v,u1,hr _ _ u2⟩
    ·cases hy
  unfold sH at hh
  cases hb:blk k with
  | none=>
   rw[hb]at hh
   have hx0:=hh.2
   have e0:h'=0:=by rw[hx0]at p2;simp at p2;omega
   refine⟨.slice none 0 0,w,_,_,_,_,.inl ?_,g2,hrel,⟨rfl,_,by rw[List.getElem?_set];simp[hk'];rfl,Nat.le_refl _,λ_ _=>?_⟩,.same (by simp)⟩
   ·have:=g1 0 (by rw[hx0];simp)
    rw[hx0,e0]at this
    simp at this
    simp[execOp,ho,hh.1,Instr.sliceAt,Instr.slice,run_underlying hu,this,(hD e).bY hke]
   ·refine⟨hM,?_⟩
    unfold sH
    have:aC blk k (blk k) k=none:=by unfold aC;rw[if_pos rfl,hb]
    rw[this]
    exact⟨rfl,by simp[hx0]⟩
  | some g=>
   rw[hb]at hh
   obtain⟨cap,c,hv,x1,x2,x3,x4⟩:=hh
   refine⟨.slice (some ⟨g,0,none⟩) h'.toNat cap,w,_,_,_,_,.inl ?_,g2,hrel,⟨rfl,_,by rw[List.getElem?_set];simp[hk'];rfl,Nat.le_refl _,λ_ _=>?_⟩,.same (by simp)⟩
   ·simp[execOp,ho,hv,Instr.sliceAt,Instr.slice,run_underlying hu,g1 cap x2,(hD e).bY hke,add_lit]
   ·refine⟨hM,?_⟩
    unfold sH
    have:aC blk k (blk k) k=some g:=by unfold aC;rw[if_pos rfl,hb]
    rw[this]
    exact⟨cap,c,by rw[hlen],x1,by rw[hlen];omega,x3,x4⟩
 ·rename_i m e cs hk e1
  rw[e1]at hx
  have hu:=(hD t).arr hk
  obtain⟨hke,hsz,hag,hcl,hml,hna,h⟩:=h
  have hx':=hx.addr
  generalize hv:a.eval x=v at hx'
  cases hx' with
  | addr _ b off vs hok hcell hrep=>
   obtain⟨l,h',g1,p1,p2,p3,g2⟩:=nS (P:=P) (b:=false) R (Nat.le_refl m) h
   have JZ:(List.drop l.toNat (List.take h'.toNat cs)).length=h'.toNat-l.toNat:=by simp;omega
   refine .pure R (v:=.slice (some (if m=l.toNat then ⟨b,off,none⟩ else ⟨b,off+l.toNat*(D e).size,none⟩)) (h'.toNat-l.toNat) (m-l.toNat)) ?_ g2 (.aF ?_)
   ·simp[execOp,ho,hv,Instr.sliceAt,Instr.sureAddr,run_underlying hu,g1,(hD e).bY hke,add_lit]
   ·have hcells:∀(y:PV),y∈cs→y.cells=[y]:=by
      intro y hy
      have:=nD hna y hy
      revert this;cases y<;>simp[PV.isAgg,PV.cells]
    have key:∀off',(m≠l.toNat→off'=off+l.toNat)→bQ w (aV base S.objs blk) (.sl 1 (List.drop l.toNat (List.take h'.toNat cs)) none) (.slice (some ⟨b,off',none⟩) (h'.toNat-l.toNat) (m-l.toNat)):=by
     intro off' hoff
     rw[←JZ]
     have hget:∀(i:Nat) (y:PV),(List.drop l.toNat (List.take h'.toNat cs))[i]?=some y→cs[l.toNat+i]?=some y∧off'=off+l.toNat:=by
      intro i y hy
      rw[List.getElem?_drop,List.getElem?_take]at hy
      split at hy
      ·rename_i hlt;exact⟨hy,hoff (by omega)⟩
      ·cases hy
     refine .sl 1 _ _ (by simp) b off' (m-l.toNat) (λi j=>vs (l.toNat+i+j)) (λ_=>hok) (by rw[JZ];omega) ?_ ?_ ?_ ?_
     ·simp only[maxLen];omega
     ·intro i y hy;rw[hcells y (List.mem_of_getElem? (hget i y hy).1)];rfl
     ·intro i y j p hy hp
      rw[hcells y (List.mem_of_getElem? (hget i y hy).1)]at hp
      cases j with
      | zero=>
       have:=hcell (l.toNat+i) y (hget i y hy).1
       rw[(hget i y hy).2]
       simp only[Nat.mul_one,Nat.add_zero]
       rw[←this];congr 2;omega
      | succ j=>simp at hp
     ·intro i y j p hy hp
      rw[hcells y (List.mem_of_getElem? (hget i y hy).1)]at hp
      cases j with
      | zero=>simp at hp;subst hp;exact hrep (l.toNat+i) y (hget i y hy).1
      | succ j=>simp at hp
    split
    ·exact key off (λhc=>absurd (by assumption) hc)
    ·rw[hsz,Nat.mul_one];exact key _ (λ_=>rfl)
 ·exact h.elim
theorem J2{x:Operand}{o:Oper}{K:KT}(ho:o.op=.move x∨o.op=.assign x)(R:Rel base ah w0 S blk a w)(h:K (S.ev x) S.objs 0):Out P base ah w0 S o a w K:=by
 refine .pure R (v:=a.eval x) ?_ h (R.ev x)
 rcases ho with ho | ho<;>simp[execOp,ho]
def rW(c x y:PV)(objs:List Obj)(K:KT):Prop:=
 match c with
 | .bool b=>K (if b then x else y) objs 0
 | _=>False
theorem SK{c x y:Operand}{o:Oper}{K:KT}(ho:o.op=.pick c x y)(R:Rel base ah w0 S blk a w)(h:rW (S.ev c) (S.ev x) (S.ev y) S.objs K):Out P base ah w0 S o a w K:=by
 have hc:=R.ev c
 unfold rW at h
 split at h
 ·rename_i b e
  rw[e]at hc
  have hc:=hc.bool
  refine .pure R (v:=if b then a.eval x else a.eval y) ?_ h ?_
  ·simp[execOp,ho,hc,asBool]
  ·cases b
   ·exact R.ev y
   ·exact R.ev x
 ·exact h.elim
theorem Vh{op:BinOp}{t u:TypeId}{x y:Operand}{o:Oper}{K:KT}(ho:o.op=.binOp op t x y u)(hD:∀t,eP P t (D t))(R:Rel base ah w0 S blk a w)
  (h:nQ P (D t) t op (S.ev x) (S.ev y) λr=>K r S.objs 0):Out P base ah w0 S o a w K:=by
 obtain⟨r,v,h1,h2,h3,h4⟩:=SH (hD t) R h
 exact .pure R (by simp[execOp,ho,h1,h2]) h3 h4
theorem X4{op:UnOp}{t:TypeId}{x:Operand}{o:Oper}{K:KT}(ho:o.op=.unOp op t x)(R:Rel base ah w0 S blk a w)
  (h:JF op (S.ev x) λr=>K r S.objs 0):Out P base ah w0 S o a w K:=by
 obtain⟨r,v,h2,h3,h4⟩:=U9 (P:=P) R h
 exact .pure R (by simp[execOp,ho,h2]) h3 h4
theorem CK{s t:TypeId}{x:PV}{objs:List Obj}{K:KT}(h:∀k ver,x≠.aW k ver):oQ D s t x objs K=nR (D s) (D t) x λr=>K r objs 0:=by
 cases x<;>first | rfl | exact absurd rfl (h _ _)
theorem SL{s t:TypeId}{x:Operand}{o:Oper}{K:KT}(ho:o.op=.convert s t x)(hD:∀t,eP P t (D t))(R:Rel base ah w0 S blk a w)
  (h:oQ D s t (S.ev x) S.objs K):Out P base ah w0 S o a w K:=by
 by_cases hx:∃k ver,S.ev x=.aW k ver
 ·obtain⟨k,ver,e1⟩:=hx
  have hr:=R.ev x
  rw[e1]at h hr
  obtain⟨ob,bs,h1,h2,h3,h4,hne,h5,h6,⟨e,h7,h8⟩,h9⟩:=h
  have hh:=hr.aW h1 h2 h3
  have hs:=(hD s).slice h7
  have he:P.underlying e=some (.int .u8):=by
   have:=hD e
   unfold eP at this
   rw[h8]at this
   rcases this with h | h
   ·cases h
   ·exact h.2
  have ht:=(hD t).Qi h6
  unfold sH at hh
  cases hb:blk k with
  | none=>rw[hb]at hh;rw[h5]at hh;exact absurd (List.map_eq_nil_iff.1 hh.2) hne
  | some g=>
   rw[hb]at hh
   obtain⟨cap,c,hv,x1,x2,x3,x4⟩:=hh
   obtain⟨c',y1,y2,y3⟩:=jf R h1 h2 hb (hr.qC h1 h2 h3)
   rw[x1]at y1;cases y1
   have hl:ob.xs.length=bs.length:=by rw[h5];simp
   rw[hl]at hv
   refine .pure R ?_ h9 (.aF (.str _))
   have:=run_convert_bytes_back (P:=P) w s t e ⟨g,0,none⟩ cap bs hs he ht (λj hj=>by
    rw[add_lit]
    obtain⟨z1,z2⟩:=y3 j (.int .u8 (bs[j].toNat)) (by rw[h5];simp[hj])
    obtain⟨v,u1,u2⟩:=z2 0 (.int .u8 (bs[j].toNat)) rfl
    have hu:bQ w _ (.int .u8 (bs[j].toNat)) v:=u2
    cases hu
    rw[h4,Nat.mul_one,Nat.add_zero]at u1
    simp only[World.cell?,x1,Nat.zero_add]
    simpa using u1)
   simp[execOp,ho,hv,this]
 ·rw[CK λk ver e=>hx ⟨k,ver,e⟩]at h
  obtain⟨r,v,h2,h3,h4⟩:=Qg (hD s) (hD t) R h
  exact .pure R (by simp[execOp,ho,h2]) h3 h4
theorem HV{x:Operand}{o:Oper}{K:KT}(ho:o.op=.nilCheck x)(R:Rel base ah w0 S blk a w)(h:bX (S.ev x) S.objs K):Out P base ah w0 S o a w K:=by
 have hx:=R.ev x
 unfold bX at h
 split at h
 ·rename_i p e
  have hx':aL w (aV base S.objs blk) S.objs blk (.addr p) (a.eval x):=by rw[←e];exact hx
  have hx'':=hx'.addr
  refine .pure R (v:=a.eval x) ?_ h hx
  generalize hv:a.eval x=v at hx''
  cases hx'' with
  | addr _ b off vs hok hcell hrep=>simp[execOp,ho,hv]
 ·rename_i k ver i f e
  obtain⟨ob,h1,h2,h3,h4⟩:=h
  have hx':aL w (aV base S.objs blk) S.objs blk (.aT k ver i f) (a.eval x):=by rw[←e];exact hx
  obtain⟨g,hb,hv,hty⟩:=hx'.aT h1 h2 h3
  exact .pure R (v:=a.eval x) (by simp[execOp,ho,hv]) h4 hx
 ·exact h.elim
theorem p9{f:Operand→PV}{g:Operand→Value}{Rr:PV→Value→Prop}(xs:List Operand)(h:∀x∈xs,Rr (f x) (g x)):a_ Rr (xs.map f) (xs.map g):=by
 refine⟨by simp,λi p v hp hv=>?_⟩
 rw[List.getElem?_map]at hp hv
 cases hx:xs[i]? with
 | none=>rw[hx]at hp;simp at hp
 | some x=>
  rw[hx]at hp hv
  simp only[Option.map_some,Option.some.injEq]at hp hv
  subst hp;subst hv
  exact h x (List.mem_of_getElem? hx)
def jg(f:FuncId)(first cap:List PV)(objs:List Obj)(K:KT):Prop:=
 first.all PV.storable=true∧cap.all PV.storable=true∧K (.fn f first cap) objs 0
theorem HY{f:FuncId}{first cap:Array Operand}{o:Oper}{K:KT}(ho:o.op=.makeFunc (.func f) first cap)(R:Rel base ah w0 S blk a w)
  (h:jg f (first.toList.map S.ev) (cap.toList.map S.ev) S.objs K):Out P base ah w0 S o a w K:=by
 obtain⟨h1,h2,h3⟩:=h
 refine .pure R (v:=.func (.func f) ⟨first.toList.map a.eval⟩ ⟨cap.toList.map a.eval⟩) ?_ h3 ⟨_,_,rfl,p9 _ λx hx=>?_,p9 _ λx hx=>?_⟩
 ·have e1:(Array.mk (first.toList.map a.eval))=first.map a.eval:=by apply Array.ext';simp
  have e2:(Array.mk (cap.toList.map a.eval))=cap.map a.eval:=by apply Array.ext';simp
  rw[e1,e2]
  simp[execOp,ho,Instr.makeFunc]
 ·exact p8 (R.ev x) (List.all_eq_true.1 h1 _ (List.mem_map.2 ⟨x,hx,rfl⟩))
 ·exact p8 (R.ev x) (List.all_eq_true.1 h2 _ (List.mem_map.2 ⟨x,hx,rfl⟩))
def bL(x:PV)(i:Nat)(objs:List Obj)(K:KT):Prop:=
 match x with
 | .bP cs=>∃p,cs[i]?=some p∧K p objs 0
 | _=>False
theorem J3{x:Operand}{i:Nat}{o:Oper}{K:KT}(ho:o.op=.extract x i)(R:Rel base ah w0 S blk a w)(h:bL (S.ev x) i S.objs K):Out P base ah w0 S o a w K:=by
 have hx:=R.ev x
 unfold bL at h
 split at h
 ·rename_i cs e
  rw[e]at hx
  obtain⟨p,h1,h2⟩:=h
  obtain⟨vs,hv,hr⟩:=hx
  obtain⟨v,h3,h4⟩:=hr.get h1
  refine .pure R (v:=v) ?_ h2 (.dG h4)
  have:(Array.mk vs)[i]?=some v:=by simpa using h3
  simp[execOp,ho,hv,Instr.extract,this]
 ·exact h.elim
theorem a_.splice {Rr:PV→Value→Prop}{cs ps:List PV}{vs us:List Value}(h:a_ Rr cs vs)(h':a_ Rr ps us)(off:Nat)(hl:off+ps.length≤cs.length) :
  a_ Rr (cs.take off++ps++cs.drop (off+ps.length)) (vs.take off++us++vs.drop (off+us.length)):=by
 have e1:=h.1
 have e2:=h'.1
 refine⟨by simp;omega,λi p v hp hv=>?_⟩
 rw[iN _ _ _ _ hl]at hp
 rw[iN _ _ _ _ (by omega)]at hv
 by_cases c1:i<off
 ·rw[if_pos c1]at hp hv;exact h.2 _ _ _ hp hv
 ·rw[if_neg c1]at hp hv
  by_cases c2:i<off+ps.length
  ·rw[if_pos c2]at hp;rw[if_pos (by omega)]at hv;exact h'.2 _ _ _ hp hv
  ·rw[if_neg c2]at hp;rw[if_neg (by omega)]at hv;exact h.2 _ _ _ hp hv
theorem F4{Rr:PV→Value→Prop}{place:Nat→Option (Nat×Nat)}:∀(parts:List (Nat×Operand)) (f:Operand→PV) (g:Operand→Value) (cs:List PV) (vs:List Value) (K:List PV→Prop),
  (∀x∈parts,∃us,(g x.2).cells=⟨us⟩∧a_ Rr (f x.2).cells us)→a_ Rr cs vs→mO place cs (parts.map λx=>(x.1,f x.2)) K→
  ∃cs' vs',Instr.fill place ⟨vs⟩ (parts.map λx=>(x.1,g x.2))=some ⟨vs'⟩∧a_ Rr cs' vs'∧K cs'
 | [],f,g,cs,vs,K,_,hr,h=>⟨cs,vs,rfl,hr,h⟩
 | x::parts,f,g,cs,vs,K,hp,hr,h=>by
  obtain⟨pl,h1,h2,h3,h4⟩:=h
  obtain⟨us,u1,u2⟩:=hp x (by simp)
  have hn:us.length=(f x.2).cells.length:=u2.1.symm
  obtain⟨cs',vs',r1,r2,r3⟩:=F4 parts f g _ _ K (λy hy=>hp y (by simp[hy])) (hr.splice u2 pl.1 h3) h4
  refine⟨cs',vs',?_,r2,r3⟩
  simp only[List.map_cons]
  unfold Instr.fill
  simp only[h1,u1]
  have hc:¬ ((Array.mk us).size≠pl.2∨pl.1+(Array.mk us).size > (Array.mk vs).size):=by
   simp only[List.size_toArray,hn,h2]
   rw[h2]at h3
   have:=hr.1
   simp;omega
  simp only[Bool.or_eq_true,decide_eq_true_eq]
  rw[if_neg hc,fold_eq]
  have hfit:pl.1+0+us.length≤(Array.mk vs).size:=by simp;rw[hn,←hr.1];omega
  obtain⟨g1,g2⟩:=foldl_set pl.1 us 0 ⟨vs⟩ hfit
  have:(us.zipIdx 0).foldl (λ(cs:Array Value) (x:Value×Nat)=>cs.setIfInBounds (pl.1+x.2) x.1) ⟨vs⟩=⟨vs.take pl.1++us++vs.drop (pl.1+us.length)⟩:=by
   apply Array.ext_getElem?
   intro q
   rw[g2]
   simp only[Nat.add_zero,List.getElem?_toArray]
   rw[iN _ _ _ _ (by simpa using hfit)]
   by_cases c1:q<pl.1
   ·rw[if_neg (by omega),if_pos c1]
   ·rw[if_neg c1]
    by_cases c2:q<pl.1+us.length
    ·rw[if_pos (by omega),if_pos c2]
    ·rw[if_neg (by omega),if_neg c2]
  rw[this]
  exact r1
theorem J4{fl:List Field}{n:Field→Nat}(h:∀f∈fl,(Go.sizeOf f.type).run P w=.ok (n f) w) :
  (fl.mapM λf=>do pure (f.offset,←Go.sizeOf f.type):Sem (List (Nat×Nat))).run P w=.ok (fl.map λf=>(f.offset,n f)) w:=by
 induction fl with
 | nil=>simp
 | cons f fl ih=>
  rw[List.mapM_cons]
  simp only[Sem.run_bind,h f (by simp),Result.andThen_ok,Sem.run_pure,ih (λg hg=>h g (by simp[hg])),List.map_cons]
def sK(p:PV):Bool:=p.cells.all PV.storable
def cO(D:TypeId→ay)(t:TypeId)(parts:List (Nat×PV))(objs:List Obj)(K:KT):Prop:=
 (D t).agg=true∧(aG (D t)).isAgg=true∧parts.all (λp=>sK p.2)=true∧mr D t parts objs K
theorem Qq{t:TypeId}{parts:Array (Nat×Operand)}{o:Oper}{K:KT}(ho:o.op=.build t parts)(hD:∀t,eP P t (D t))(R:Rel base ah w0 S blk a w)
  (h:cO D t (parts.toList.map λx=>(x.1,S.ev x.2)) S.objs K):Out P base ah w0 S o a w K:=by
 obtain⟨hagg,WR,hparts,h⟩:=h
 have hk:(D t).kind≠.none:=by intro e;simp[ay.agg,e]at hagg
 obtain⟨i,hi,hsz,_,hzero⟩:=(hD t).info hk
 obtain⟨ZE,hz1⟩:∃ZE,aG (D t)=.agg ZE:=by
  cases hz:aG (D t)<;>rw[hz]at WR<;>simp[PV.isAgg]at WR;exact⟨_,rfl⟩
 have hzr:=qB w (aV base S.objs blk) (D t).zero
 have hz1':PV.uR (D t).zero=.agg ZE:=hz1
 rw[hz1']at hzr
 obtain⟨ZF,hz2,hz3⟩:∃ZF,(D t).zero=.agg ⟨ZF⟩∧a_ (aP w (aV base S.objs blk) S.objs blk) ZE ZF:=by
  generalize (D t).zero=z at hzr
  cases hzr with
  | agg _ vs hl hh=>exact⟨vs,rfl,hl,λi p v a b=>.aF (hh i p v a b)⟩
 have hp:∀x∈parts.toList,∃us,(a.eval x.2).cells=⟨us⟩∧a_ (aP w (aV base S.objs blk) S.objs blk) (S.ev x.2).cells us:=by
  intro x hx
  have:=List.all_eq_true.1 hparts (x.1,S.ev x.2) (List.mem_map.2 ⟨x,hx,rfl⟩)
  obtain⟨us,u1,u2,_⟩:=iM (R.ev x.2) this
  exact⟨us,u1,u2⟩
 unfold mr at h
 have WS:∀(place:Nat→Option (Nat×Nat)),mO place (aG (D t)).cells (parts.toList.map λx=>(x.1,S.ev x.2)) (λcs=>K (.agg cs) S.objs 0)→
     ∃cs' vs',Instr.fill place ⟨ZF⟩ (parts.map λx=>(x.1,a.eval x.2)).toList=some ⟨vs'⟩∧a_ (aP w (aV base S.objs blk) S.objs blk) cs' vs'∧K (.agg cs') S.objs 0:=by
  intro place h
  rw[hz1]at h
  rw[Array.toList_map]
  exact F4 parts.toList S.ev a.eval ZE ZF _ hp hz3 h
 split at h
 ·rename_i fs hkk
  obtain⟨hfs,h⟩:=h
  have:=(hD t).resolve_left hk
  rw[hkk]at this
  obtain⟨_,fl,hu,hm⟩:=this
  have X5:∀f∈fl.toList,(Go.sizeOf f.type).run P w=.ok (D f.type).size w:=by
   intro f hf
   exact (hD f.type).bY (hfs (f.offset,f.type) (by rw[←hm];exact List.mem_map.2 ⟨f,hf,rfl⟩)) w
  have Vi:=J4 (P:=P) (w:=w) (n:=λf=>(D f.type).size) X5
  obtain⟨cs',vs',q1,q2,q3⟩:=WS _ h
  have hpl:(λ(i:Nat)=>(fs[i]?).map λ(x:Nat×TypeId)=>(x.1,(D x.2).size))=λ(i:Nat)=>((fl.map λf=>(f.offset,(D f.type).size))[i]?:Option (Nat×Nat)):=by
   funext i
   rw[←hm]
   simp
   cases fl[i]?<;>rfl
  rw[hpl]at q1
  refine .pure R (v:=.agg ⟨vs'⟩) ?_ q3 ⟨vs',rfl,q2⟩
  have hmm:(fl.mapM λf=>do pure (f.offset,←Go.sizeOf f.type):Sem (Array (Nat×Nat))).run P w=.ok (fl.map λf=>(f.offset,(D f.type).size)) w:=by
   rw[Array.mapM_eq_mapM_toList]
   simp only[Sem.run_map,Vi,Result.andThen_ok]
   congr 1
   apply Array.ext';simp
  simp only[execOp,ho,Instr.build,Sem.run_bind,zeroValue,typeInfo,run_program,Result.andThen_ok,hi,hzero,Sem.run_pure,hz2,Value.cells,run_underlying hu,hmm,q1]
 ·rename_i m e hkk
  obtain⟨hke,h⟩:=h
  have hu:=(hD t).arr hkk
  obtain⟨cs',vs',q1,q2,q3⟩:=WS _ h
  refine .pure R (v:=.agg ⟨vs'⟩) ?_ q3 ⟨vs',rfl,q2⟩
  simp only[execOp,ho,Instr.build,Sem.run_bind,zeroValue,typeInfo,run_program,Result.andThen_ok,hi,hzero,Sem.run_pure,hz2,Value.cells,run_underlying hu,(hD e).bY hke,q1]
 ·exact h.elim
theorem CO{isMax:Bool}{xs:Array Operand}{ts:Array TypeId}{o:Oper}{K:KT}(ho:o.op=.call { callee:=.builtin (if isMax then .max else .min),args:=xs,argTypes:=ts })(R:Rel base ah w0 S blk a w)
  (h:fH isMax (xs.toList.map S.ev) λr=>K r S.objs 0):Out P base ah w0 S o a w K:=by
 unfold fH at h
 split at h
 ·rename_i k m k' n e
  obtain⟨x,y,hxy⟩:∃x y,xs.toList=[x,y]:=by
   match hl:xs.toList with
   | []=>rw[hl]at e;simp at e
   | [_]=>rw[hl]at e;simp at e
   | [x,y]=>exact⟨x,y,rfl⟩
   | _::_::_::_=>rw[hl]at e;simp at e
  rw[hxy]at e
  simp only[List.map_cons,List.map_nil,List.cons.injEq,and_true]at e
  obtain⟨rfl,h⟩:=h
  have hx:=R.ev x;rw[e.1]at hx
  have hy:=R.ev y;rw[e.2]at hy
  have hx:=hx.int
  have hy:=hy.int
  have hxs:xs=#[x,y]:=by apply Array.ext';simpa using hxy
  subst hxs
  refine .pure R (v:=.int k (if isMax then (if n > m then n else m) else (if n<m then n else m))) ?_ h (.aF (.int _ _))
  cases isMax
  ·simp[execOp,ho,resolve,invoke,builtin,Builtin.min_,Builtin.min2,hx,hy]
  ·simp[execOp,ho,resolve,invoke,builtin,Builtin.max_,Builtin.max2,hx,hy]
 ·exact h.elim
end
end Lp
namespace Lp
open Go
def MU:TK→PV→PV→Option Bool
 | .str,.str a,.str b=>some (decide (a=b))
 | .int _,.int k a,.int k' b=>if k=k' then some (decide (a=b)) else none
 | _,_,_=>none
def jY(t:TK)(key:PV):List PV→Nat→Option (Option (Nat×PV))
 | [],_=>some none
 | .agg [k,v]::es,i=>match MU t key k with
  | some true=>some (some (i,v))
  | some false=>jY t key es (i+1)
  | none=>none
 | _::_,_=>none
def kI(D:TypeId→ay)(t:TypeId)(objs:List Obj)(K:KT):Prop:=
 match (D t).kind with
 | .map _ _=>K (.fw objs.length 1) (newObj objs MT 2 []) (5+2*objs.length)
 | _=>False
def found(ti:ay)(m:Option (Nat×PV))(ok:Bool):PV:=
 match m with
 | some (_,v)=>if ok then .bP [v,.bool true] else v
 | none=>if ok then .bP [aG ti,.bool false] else aG ti
def iC(D:TypeId→ay)(t:TypeId)(x ix:PV)(ok:Bool)(objs:List Obj)(K:KT):Prop:=
 match (D t).kind,x with
 | .map kt et,.fw k ver=>((D kt).kind=.str∨∃i,(D kt).kind=.int i)∧(D et).kind≠.none∧∃o,objs[k]?=some o∧o.live=true∧o.ver=ver∧o.sz=2∧
   ∃m,jY (D kt).kind ix o.xs 0=some m∧K (found (D et) m ok) objs (4+2*k)
 | _,_=>False
def zS(key v:PV)(xs:List PV)(m:Option (Nat×PV)):List PV:=
 match m with
 | some (i,_)=>xs.set i (.agg [key,v])
 | none=>xs++[.agg [key,v]]
def dU(D:TypeId→ay)(t:TypeId)(x key v:PV)(objs:List Obj)(K:KT):Prop:=
 match (D t).kind,x with
 | .map kt _,.fw k ver=>((D kt).kind=.str∨∃i,(D kt).kind=.int i)∧key.storable=true∧v.storable=true∧∃o,objs[k]?=some o∧o.live=true∧o.ver=ver∧o.sz=2∧
   ∃m,jY (D kt).kind key o.xs 0=some m∧K .dead (objs.set k { o with xs:=zS key v o.xs m }) (5+2*k)
 | _,_=>False
section
variable {P:Program}{base ah:Nat→Prop}{w0:Wz}{S:St}{blk:Nat→Option Nat}{a:Act}{w:World}{D:TypeId→ay}{objs:List Obj}{ok:Nat→Prop}
theorem fO(c:Array Value):(mapOf c).size=c.size / 2:=by simp[mapOf]
theorem fD(c:Array Value)(i:Nat)(h:i<c.size / 2):(mapOf c)[i]?=some { key:=c.getD (2*i) undef,val:=c.getD (2*i+1) undef,born:=i }:=by
 simp[mapOf,List.getElem?_map,h]
theorem MV{c:Array Value}{n:Nat}(hc:c.size=2*n)(k v:Value):mapOf ((c.push k).push v)=(mapOf c).push { key:=k,val:=v,born:=n }:=by
 have h2:((c.push k).push v).size / 2=n+1:=by simp;omega
 have h1:c.size / 2=n:=by omega
 apply Array.ext_getElem?
 intro i
 by_cases hi:i<n
 ·rw[fD _ _ (by omega),Array.getElem?_push,fO,h1,if_neg (by omega),fD _ _ (by omega)]
  have e1:((c.push k).push v).getD (2*i) undef=c.getD (2*i) undef:=by
   simp only[Array.getD_eq_getD_getElem?,Array.getElem?_push]
   rw[if_neg (by simp;omega),if_neg (by omega)]
  have e2:((c.push k).push v).getD (2*i+1) undef=c.getD (2*i+1) undef:=by
   simp only[Array.getD_eq_getD_getElem?,Array.getElem?_push]
   rw[if_neg (by simp;omega),if_neg (by omega)]
  rw[e1,e2]
 ·by_cases he:i=n
  ·subst he
   rw[fD _ _ (by omega),Array.getElem?_push,fO,h1,if_pos rfl]
   have e1:((c.push k).push v).getD (2*i) undef=k:=by
    simp only[Array.getD_eq_getD_getElem?,Array.getElem?_push]
    rw[if_neg (by simp;omega),if_pos (by omega)];rfl
   have e2:((c.push k).push v).getD (2*i+1) undef=v:=by
    simp only[Array.getD_eq_getD_getElem?,Array.getElem?_push]
    rw[if_pos (by simp;omega)];rfl
   rw[e1,e2]
  ·rw[Array.getElem?_eq_none (by rw[fO];omega),Array.getElem?_eq_none (by simp[fO];omega)]
theorem Qr{c:Array Value}{n i:Nat}(hc:c.size=2*n)(hi:i<n)(k v:Value) :
  mapOf ((c.setIfInBounds (2*i) k).setIfInBounds (2*i+1) v)=(mapOf c).modify i λe=>{ e with key:=k,val:=v }:=by
 have h1:c.size / 2=n:=by omega
 apply Array.ext_getElem?
 intro j
 by_cases hj:j<n
 ·rw[fD _ _ (by simp;omega),Array.getElem?_modify,fD _ _ (by omega)]
  simp only[Array.getD_eq_getD_getElem?,Array.getElem?_setIfInBounds,Array.size_setIfInBounds]
  by_cases e:i=j
  ·subst e
   rw[if_neg (by omega),if_pos (by omega),if_pos (by omega)]
   simp only[if_true,Option.map_some]
   rw[if_pos (by omega)]
   simp
  ·rw[if_neg (by omega),if_neg (by omega),if_neg (by omega),if_neg (by omega),if_neg e]
 ·rw[Array.getElem?_eq_none (by rw[fO];simp;omega),Array.getElem?_eq_none (by simp[fO];omega)]
theorem qF{g:Nat}{es:Array MapEntry}{n:Nat}(h:w.heap[g]?=some (.map es n)):(getObj g).run P w=.ok (.map es n) w:=by
 simp[getObj,Sem.run,h]
theorem CP{g:Nat}{es:Array MapEntry}{n:Nat}(o:Go.Obj)(h:w.heap[g]?=some (.map es n)):(setObj g o).run P w=.ok () { w with heap:=w.heap.setIfInBounds g o }:=by
 simp[setObj,Sem.run,h]
theorem bytes_beq(a b:List UInt8):((ByteArray.mk ⟨a⟩)==(ByteArray.mk ⟨b⟩))=decide (a=b):=by
 show ByteArray.beq _ _=_
 unfold ByteArray.beq
 simp only[List.beq_toArray]
 rw[Bool.eq_iff_iff];simp
theorem Vj{p q:PV}{r:Bool}(h:MU .str p q=some r):∃a b,p=.str a∧q=.str b∧r=decide (a=b):=by
 cases p<;>cases q<;>simp only[MU,Option.some.injEq,reduceCtorEq]at h
 exact⟨_,_,rfl,rfl,h.symm⟩
theorem Vk{p q:PV}{r:Bool}{i:IntKind}(h:MU (.int i) p q=some r):∃k a b,p=.int k a∧q=.int k b∧r=decide (a=b):=by
 cases p<;>cases q<;>simp only[MU,reduceCtorEq]at h
 split at h
 ·rename_i hk
  subst hk
  simp only[Option.some.injEq]at h
  exact⟨_,_,_,rfl,rfl,h.symm⟩
 ·cases h
theorem Pb{t:TK}{p q:PV}{u v:Value}{r:Bool}{d:TypeDesc}(h:MU t p q=some r)(ht:(t=.str∧d=.string)∨∃i,t=.int i∧d=.int i)(hp:aL w ok objs blk p u)(hq:aP w ok objs blk q v) :
  Instr.sameNow d u v=some r∧(r=true→Instr.sameBits 10000 v u=true):=by
 rcases ht with ⟨rfl,rfl⟩ | ⟨i,rfl,rfl⟩
 ·obtain⟨a,b,rfl,rfl,rfl⟩:=Vj h
  have hp':bQ w ok (.str a) u:=hp
  have hq':bQ w ok (.str b) v:=hq
  cases hp';cases hq'
  simp only[Instr.sameNow,Instr.sameBits,bytes_beq]
  exact⟨trivial,λh=>by simpa[eq_comm] using h⟩
 ·obtain⟨k,a,b,rfl,rfl,rfl⟩:=Vk h
  have hp':bQ w ok (.int k a) u:=hp
  have hq':bQ w ok (.int k b) v:=hq
  cases hp';cases hq'
  simp only[Instr.sameNow,Instr.sameBits,if_true]
  refine⟨?_,λh=>?_⟩
  ·congr 1
  ·simp only[decide_eq_true_eq]at h
   simp[h]
theorem MW{t:TK}{key x:PV}{xs:List PV}{i:Nat}{m:Option (Nat×PV)}(h:jY t key (x::xs) i=some m) :
  ∃k v,x=.agg [k,v]∧((MU t key k=some true∧m=some (i,v))∨(MU t key k=some false∧jY t key xs (i+1)=some m)):=by
 match x,h with
 | .agg [k,v],h=>
  refine⟨k,v,rfl,?_⟩
  have h':(match MU t key k with | some true=>some (some (i,v)) | some false=>jY t key xs (i+1) | none=>none)=some m:=h
  clear h
  generalize hk:MU t key k=o at h' ⊢
  match o,h' with
  | some true,h'=>exact .inl ⟨rfl,by simpa using h'.symm⟩
  | some false,h'=>exact .inr ⟨rfl,h'⟩
theorem sM{t:TK}{key:PV}{u:Value}{d:TypeDesc}(ht:(t=.str∧d=.string)∨∃i,t=.int i∧d=.int i)(hp:aL w ok objs blk key u):∀(xs:List PV) (es:List MapEntry) (i:Nat) (m:Option (Nat×PV)),xs.length=es.length→
  (∀(j:Nat) (k v:PV),xs[j]?=some (.agg [k,v])→∃e,es[j]?=some e∧aP w ok objs blk k e.key)→jY t key xs i=some m→
  match m with
  | none=>Instr.findNow d u es i=some none
  | some (n,v)=>i≤n∧∃k e,xs[n-i]?=some (.agg [k,v])∧es[n-i]?=some e∧Instr.findNow d u es i=some (some (n,e.val))∧Instr.sameBits 10000 e.key u=true
 | [],es,i,m,hl,_,h=>by
  have:es=[]:=List.eq_nil_of_length_eq_zero hl.symm
  subst this
  simp only[jY,Option.some.injEq]at h
  subst h
  rfl
 | x::xs,[],i,m,hl,_,h=>by simp at hl
 | x::xs,e::es,i,m,hl,he,h=>by
  obtain⟨k,v,hx,h2⟩:=MW h
  clear h
  subst hx
  obtain⟨e',h0,hk⟩:=he 0 k v rfl
  simp only[List.getElem?_cons_zero,Option.some.injEq]at h0
  subst h0
  rcases h2 with ⟨h1,hm⟩ | ⟨h1,h⟩
  ·subst hm
   obtain⟨s1,s2⟩:=Pb h1 ht hp hk
   exact⟨Nat.le_refl _,k,e,by simp,by simp,by simp[Instr.findNow,s1],s2 rfl⟩
  ·obtain⟨s1,_⟩:=Pb h1 ht hp hk
   have ih:=sM ht hp xs es (i+1) m (by simpa using hl) (λj k v hj=>he (j+1) k v (by simpa using hj)) h
   have hf:Instr.findNow d u (e::es) i=Instr.findNow d u es (i+1):=by simp[Instr.findNow,s1]
   cases m with
   | none=>simp only[]at ih ⊢;rw[hf];exact ih
   | some nv=>
    obtain⟨n,v'⟩:=nv
    simp only[]at ih ⊢
    obtain⟨g1,k',e',g2,g3,g4,g5⟩:=ih
    have hn:n-i=(n-(i+1))+1:=by omega
    exact⟨by omega,k',e',by rw[hn];simpa using g2,by rw[hn];simpa using g3,by rw[hf];exact g4,g5⟩
theorem eP.X6 {t:TypeId}{ti:ay}{k e:TypeId}(h:eP P t ti)(hk:ti.kind=.map k e):P.underlying t=some (.map k e):=by
 have:=h.resolve_left (by rw[hk];simp)
 rw[hk]at this;exact this.2
theorem eP.abl {t:TypeId}{ti:ay}{k:IntKind}(h:eP P t ti)(hk:ti.kind=.int k):P.underlying t=some (.int k):=by
 have:=h.resolve_left (by rw[hk];simp)
 rw[hk]at this;exact this.2
theorem J5{kt:TypeId}(hD:∀t,eP P t (D t))(h:(D kt).kind=.str∨∃i,(D kt).kind=.int i) :
  ∃d,P.underlying kt=some d∧(((D kt).kind=.str∧d=.string)∨∃i,(D kt).kind=.int i∧d=.int i):=by
 rcases h with h | ⟨i,h⟩
 ·exact⟨_,(hD kt).Qi h,.inl ⟨h,rfl⟩⟩
 ·exact⟨_,(hD kt).abl h,.inr ⟨i,h,rfl⟩⟩
theorem p_{kt:TypeId}{d:TypeDesc}{u:Value}(b:Bool)(hu:P.underlying kt=some d)(h:d=.string∨∃i,d=.int i):(Instr.checkKey b 10000 kt u).run P w=.ok () w:=by
 have key:∀n,(Instr.checkKey b (n+1) kt u).run P w=.ok () w:=by
  intro n
  rcases h with rfl | ⟨i,rfl⟩<;>simp[Instr.checkKey,run_underlying hu]
 exact key 9999
theorem BQ(R:Rel base ah w0 S blk a w){k:Nat}{o:Obj}{g:Nat}(h1:S.objs[k]?=some o)(h2:o.live=true)(hb:blk k=some g)(hty:o.ty=MT)(hsz:o.sz=2) :
  ∃c,w.heap[g]?=some (.map (mapOf c) o.xs.length)∧c.size=2*o.xs.length∧
   ∀i x,o.xs[i]?=some x→x.cells.length=2∧∀j p,x.cells[j]?=some p→∃v,c[i*2+j]?=some v∧aP w (aV base S.objs blk) S.objs blk p v:=by
 have h:=R.objs.ob k o h1 h2
 unfold bf at h
 rw[hb]at h
 obtain⟨c,x1,x2,x3⟩:=h
 have hc:c.size=2*o.xs.length:=by have:=x2.2 hty;rw[hsz]at this;omega
 refine⟨c,?_,hc,by rw[hsz]at x3;exact x3⟩
 rw[x1]
 unfold kW
 rw[if_pos hty,if_pos hsz]
 congr 2
 omega
theorem oW{R:PV→Value→Prop}{xs:List PV}{c:Array Value}(hc:c.size=2*xs.length)
  (hx:∀(i:Nat) (x:PV),xs[i]?=some x→x.cells.length=2∧∀(j:Nat) (p:PV),x.cells[j]?=some p→∃v,c[i*2+j]?=some v∧R p v) :
  ∀(j:Nat) (k v:PV),xs[j]?=some (.agg [k,v])→∃e,(mapOf c).toList[j]?=some e∧R k e.key∧R v e.val:=by
 intro j k v hj
 have hlt:j<xs.length:=(List.getElem?_eq_some_iff.1 hj).1
 obtain⟨_,h⟩:=hx j _ hj
 obtain⟨v0,a1,a2⟩:=h 0 k rfl
 obtain⟨v1,b1,b2⟩:=h 1 v rfl
 refine⟨_,by rw[Array.getElem?_toList];exact fD c j (by omega),?_,?_⟩
 ·have:c.getD (2*j) undef=v0:=by rw[Array.getD_eq_getD_getElem?,show 2*j=j*2+0 by omega,a1];rfl
  rw[this];exact a2
 ·have:c.getD (2*j+1) undef=v1:=by rw[Array.getD_eq_getD_getElem?,show 2*j+1=j*2+1 by omega,b1];rfl
  rw[this];exact b2
theorem HZ(objs:List Obj)(blk:Nat→Option Nat)(w:World)(ok:Nat→Prop)(g:Nat) :
  aL w ok (newObj objs MT 2 []) (aC blk objs.length (some g)) (.fw objs.length 1) (.map (some g)):=
 ⟨rfl,_,uU objs MT 2 [],Nat.le_refl _,λ_ _=>⟨rfl,g,by unfold aC;rw[if_pos rfl],rfl⟩⟩
theorem J6{t:TypeId}{o:Oper}{K:KT}(ho:o.op=.makeMap t none)(R:Rel base ah w0 S blk a w)(h:kI D t S.objs K):Out P base ah w0 S o a w K:=by
 unfold kI at h
 split at h
 ·refine⟨.map (some w.heap.size),{ w with heap:=w.heap.push (.map #[] 0) },_,_,_,_,.inl ?_,h,R.newObj (c:=#[]) ?_ ⟨rfl,rfl⟩ ?_ (λi x hx=>by simp at hx),HZ _ _ _ _ _,.of λi x hx=>by simp at hx⟩
  ·simp[execOp,ho,Instr.makeMap]
  ·simp[kW,mapOf]
  ·exact⟨by simp,λ_=>by simp⟩
 ·exact h.elim
theorem CQ{ok:Nat→Prop}{objs:List Obj}{ti:ay}{v:Value}{p:PV}{b:Bool}(h:aP w ok objs blk p v)(b2:Bool) :
  aL w ok objs blk (if b then .bP [p,.bool b2] else p) (if b then .tuple #[v,.bool b2] else v):=by
 cases b with
 | true=>
  refine⟨[v,.bool b2],rfl,rfl,λi q u h1 h2=>?_⟩
  match i with
  | 0=>simp at h1 h2;subst h1;subst h2;exact h
  | 1=>simp at h1 h2;subst h1;subst h2;exact .aF (.bool _)
  | i+2=>simp at h1
 | false=>exact .dG h
theorem MX{t:TypeId}{x ix:Operand}{ok:Bool}{o:Oper}{K:KT}(ho:o.op=.lookup t x ix ok)(hD:∀t,eP P t (D t))(R:Rel base ah w0 S blk a w)
  (h:iC D t (S.ev x) (S.ev ix) ok S.objs K):Out P base ah w0 S o a w K:=by
 have hx:=R.ev x
 have hi:=R.ev ix
 unfold iC at h
 split at h
 ·rename_i kt et k ver hk e
  rw[e]at hx
  obtain⟨hkk,hke,ob,h1,h2,h3,hsz,m,hm,h⟩:=h
  obtain⟨g,hb,hv,hty⟩:=hx.fw h1 h2 h3
  rw[JS,if_pos hsz]at hv
  have hu:=(hD t).X6 hk
  obtain⟨d,hd,hdk⟩:=J5 hD hkk
  obtain⟨c,g1,g2,g3⟩:=BQ R h1 h2 hb hty hsz
  have hent:=oW g2 g3
  have hck:∀b,(Instr.checkKey b 10000 kt (a.eval ix)).run P w=.ok () w:=λb=>p_ b hd (by rcases hdk with ⟨_,h⟩ | ⟨i,_,h⟩<;>simp[h])
  have hf:=sM hdk hi ob.xs (mapOf c).toList 0 m (by rw[Array.length_toList,fO];omega) (λj k v hj=>let ⟨e,q1,q2,_⟩:=hent j k v hj;⟨e,q1,q2⟩) hm
  obtain⟨i,abm,_,_,hz⟩:=(hD et).info hke
  cases m with
  | none=>
   simp only[]at hf
   refine .pure R (v:=if ok then .tuple #[(D et).zero,.bool false] else (D et).zero) ?_ h ?_
   ·simp only[execOp,ho,hv,Instr.lookup,Sem.run_bind,run_underlying hu,Result.andThen_ok,qF g1,hck,Sem.run_pure,Instr.findKey,run_underlying hd,hf,zeroValue,typeInfo,run_program,abm,hz]
   ·exact CQ (ti:=D et) (.aF (qB w _ (D et).zero)) false
  | some nv=>
   obtain⟨n,v⟩:=nv
   simp only[]at hf
   obtain⟨_,k',e',q2,q3,q4,_⟩:=hf
   obtain⟨e'',r1,_,r3⟩:=hent _ _ _ q2
   rw[q3]at r1
   cases r1
   refine .pure R (v:=if ok then .tuple #[e'.val,.bool true] else e'.val) ?_ h ?_
   ·simp only[execOp,ho,hv,Instr.lookup,Sem.run_bind,run_underlying hu,Result.andThen_ok,qF g1,hck,Sem.run_pure,Instr.findKey,run_underlying hd,q4]
   ·exact CQ (ti:=D et) r3 true
 ·exact h.elim
theorem wo{t:TypeId}{x y z:Operand}{o:Oper}{K:KT}(ho:o.op=.mapUpdate t x y z∨o.op=.insert t x y z)(hD:∀t,eP P t (D t))(R:Rel base ah w0 S blk a w)
  (h:dU D t (S.ev x) (S.ev y) (S.ev z) S.objs K):Out P base ah w0 S o a w K:=by
 have hx:=R.ev x
 have hy:=R.ev y
 have hz:=R.ev z
 unfold dU at h
 split at h
 ·rename_i kt et k ver hk e
  rw[e]at hx
  obtain⟨hkk,hks,hvs,ob,h1,h2,h3,hsz,m,hm,h⟩:=h
  obtain⟨g,hb,hv,hty⟩:=hx.fw h1 h2 h3
  rw[JS,if_pos hsz]at hv
  have hu:=(hD t).X6 hk
  obtain⟨d,hd,hdk⟩:=J5 hD hkk
  obtain⟨c,g1,g2,g3⟩:=BQ R h1 h2 hb hty hsz
  have hent:=oW g2 g3
  have hck:∀b,(Instr.checkKey b 10000 kt (a.eval y)).run P w=.ok () w:=λb=>p_ b hd (by rcases hdk with ⟨_,h⟩ | ⟨i,_,h⟩<;>simp[h])
  have hf:=sM hdk hy ob.xs (mapOf c).toList 0 m (by rw[Array.length_toList,fO];omega) (λj k v hj=>let ⟨e,q1,q2,_⟩:=hent j k v hj;⟨e,q1,q2⟩) hm
  have hyS:=p8 hy hks
  have hzS:=p8 hz hvs
  have hgl:g<w.heap.size:=(Array.getElem?_eq_some_iff.1 g1).1
  obtain⟨c',hc1,hc2,hc3,hrun⟩:∃c':Array Value,c'.size=2*(zS (S.ev y) (S.ev z) ob.xs m).length∧
    (∀(R':PV→Value→Prop),(∀p v,aP w (aV base S.objs blk) S.objs blk p v→R' p v)→∀(i:Nat) (x:PV),(zS (S.ev y) (S.ev z) ob.xs m)[i]?=some x→x.cells.length=2∧∀(j:Nat) (p:PV),x.cells[j]?=some p→∃v,c'[i*2+j]?=some v∧R' p v)∧
    True∧(execOp a.eval o).run P w=.ok .skip { w with heap:=w.heap.setIfInBounds g (.map (mapOf c') (c'.size / 2)) }:=by
   cases m with
   | none=>
    simp only[]at hf
    refine⟨(c.push (a.eval y)).push (a.eval z),by simp[zS];omega,λR' hR i x hxi=>?_,trivial,?_⟩
    ·simp only[zS]at hxi
     rw[List.getElem?_append]at hxi
     split at hxi
     ·rename_i hi
      obtain⟨q1,q2⟩:=g3 i x hxi
      refine⟨q1,λj p hp=>?_⟩
      obtain⟨v,u1,u2⟩:=q2 j p hp
      have hj:j<2:=by rw[←q1];exact (List.getElem?_eq_some_iff.1 hp).1
      refine⟨v,?_,hR _ _ u2⟩
      rw[Array.getElem?_push,if_neg (by simp;omega),Array.getElem?_push,if_neg (by omega)]
      exact u1
     ·rename_i hi
      have h0:i-ob.xs.length=0:=by
       cases hj:i-ob.xs.length with
       | zero=>rfl
       | succ j=>rw[hj]at hxi;simp at hxi
      rw[h0]at hxi
      simp only[List.getElem?_cons_zero,Option.some.injEq]at hxi
      subst hxi
      refine⟨rfl,λj p hp=>?_⟩
      match j with
      | 0=>
       simp only[PV.cells,List.getElem?_cons_zero,Option.some.injEq]at hp
       subst hp
       exact⟨a.eval y,by rw[Array.getElem?_push,if_neg (by simp;omega),Array.getElem?_push,if_pos (by omega)],hR _ _ hyS⟩
      | 1=>
       simp only[PV.cells,List.getElem?_cons_succ,List.getElem?_cons_zero,Option.some.injEq]at hp
       subst hp
       exact⟨a.eval z,by rw[Array.getElem?_push,if_pos (by simp;omega)],hR _ _ hzS⟩
      | j+2=>simp[PV.cells]at hp
    ·rw[MV g2]
     have hs:((c.push (a.eval y)).push (a.eval z)).size / 2=ob.xs.length+1:=by simp;omega
     rw[hs]
     rcases ho with ho | ho<;>simp only[execOp,ho,hv,Instr.mapUpdate,Sem.run_bind,run_underlying hu,Result.andThen_ok,qF g1,hck,Sem.run_pure,Instr.findKey,run_underlying hd,hf,CP _ g1]
   | some nv=>
    obtain⟨n,v⟩:=nv
    simp only[]at hf
    obtain⟨_,k',e',q2,q3,q4,q5⟩:=hf
    rw[Nat.sub_zero]at q2 q3
    have hn:n<ob.xs.length:=(List.getElem?_eq_some_iff.1 q2).1
    refine⟨(c.setIfInBounds (2*n) (a.eval y)).setIfInBounds (2*n+1) (a.eval z),by simp[zS];omega,λR' hR i x hxi=>?_,trivial,?_⟩
    ·simp only[zS]at hxi
     rw[List.getElem?_set]at hxi
     by_cases hin:n=i
     ·subst hin
      simp[hn]at hxi
      subst hxi
      refine⟨rfl,λj p hp=>?_⟩
      match j with
      | 0=>
       simp only[PV.cells,List.getElem?_cons_zero,Option.some.injEq]at hp
       subst hp
       exact⟨a.eval y,by rw[Array.getElem?_setIfInBounds,if_neg (by omega),Array.getElem?_setIfInBounds,if_pos (by omega),if_pos (by omega)],hR _ _ hyS⟩
      | 1=>
       simp only[PV.cells,List.getElem?_cons_succ,List.getElem?_cons_zero,Option.some.injEq]at hp
       subst hp
       exact⟨a.eval z,by rw[Array.getElem?_setIfInBounds,if_pos (by omega),if_pos (by simp;omega)],hR _ _ hzS⟩
      | j+2=>simp[PV.cells]at hp
     ·rw[if_neg hin]at hxi
      obtain⟨q1,q2⟩:=g3 i x hxi
      refine⟨q1,λj p hp=>?_⟩
      obtain⟨v,u1,u2⟩:=q2 j p hp
      have hj:j<2:=by rw[←q1];exact (List.getElem?_eq_some_iff.1 hp).1
      refine⟨v,?_,hR _ _ u2⟩
      rw[Array.getElem?_setIfInBounds,if_neg (by omega),Array.getElem?_setIfInBounds,if_neg (by omega)]
      exact u1
    ·rw[Qr g2 hn]
     have hs:((c.setIfInBounds (2*n) (a.eval y)).setIfInBounds (2*n+1) (a.eval z)).size / 2=ob.xs.length:=by simp;omega
     rw[hs]
     have hes:(mapOf c)[n]?=some e':=by rw[←Array.getElem?_toList];exact q3
     rcases ho with ho | ho<;>simp only[execOp,ho,hv,Instr.mapUpdate,Sem.run_bind,run_underlying hu,Result.andThen_ok,qF g1,hck,Sem.run_pure,Instr.findKey,run_underlying hd,q4,hes,Option.map_some,Option.getD_some,Instr.keyThatStays,q5,if_true,CP _ g1]
  have hheap:({ w with heap:=w.heap.setIfInBounds g (.map (mapOf c') (c'.size / 2)) }:World).heap[g]?=some (.map (mapOf c') (c'.size / 2)):=by simp[hgl]
  refine⟨undef,_,.dead,_,_,aC blk k (blk k),.inr ⟨hrun,rfl⟩,h,?_,.aF (.dead _),.same (by simp)⟩
  refine R.setObj (o':={ ob with xs:=zS (S.ev y) (S.ev z) ob.xs m }) ⟨rfl,rfl⟩ h1 h2 h2 (by simp) ?_ (λg' hg'=>.inl hg') (Nat.le_refl _) ?_ ?_
  ·intro b z hbz hz
   have:g≠b:=λe=>hbz (by rw[hb,e])
   simp[this];exact hz
  ·intro _
   refine⟨rfl,rfl,rfl,λhne=>absurd hty hne,λg' c' hg' hc'=>?_⟩
   rw[hb]at hg';cases hg'
   rw[g1]at hc';cases hc'
  ·intro hmono
   unfold bf
   have hbk:aC blk k (blk k) k=some g:=by unfold aC;rw[if_pos rfl,hb]
   rw[hbk]
   refine⟨c',?_,⟨?_,λ_=>?_⟩,?_⟩
   ·rw[hheap];unfold kW;rw[if_pos hty,if_pos hsz]
   ·show (zS (S.ev y) (S.ev z) ob.xs m).length*ob.sz≤_
    rw[hsz];omega
   ·show _=(zS (S.ev y) (S.ev z) ob.xs m).length*ob.sz
    rw[hsz];omega
   ·intro i x hx
    obtain⟨u1,u2⟩:=hc2 _ hmono i x hx
    have e:∀j,i*ob.sz+j=i*2+j:=λj=>by rw[hsz]
    refine⟨by rw[u1];exact hsz.symm,λj p hp=>?_⟩
    obtain⟨v,y1,y2⟩:=u2 j p hp
    exact⟨v,by show c'[i*ob.sz+j]?=some v;rw[e];exact y1,y2⟩
 ·exact h.elim
end
end Lp
namespace Lp
open Go
def pR(k kv n:Nat)(seen:List Nat)(ver:Nat):Obj:=⟨MT,1,.fw k kv::.int .i64 n::seen.map λi:Nat=>.int .i64 i,true,ver⟩
def qG(D:TypeId→ay)(t:TypeId)(x:PV)(objs:List Obj)(K:KT):Prop:=
 match (D t).kind,x with
 | .map _ _,.fw k ver=>∃o,objs[k]?=some o∧o.live=true∧o.ver=ver∧o.sz=2∧K (.fw objs.length 1) (objs++[pR k ver o.xs.length [] 1]) 2
 | _,_=>False
def nextR(x:PV)(objs:List Obj)(K:KT):Prop:=
 match x with
 | .fw j ver=>∃(k kv n:Nat) (seen:List Nat) (mo:Obj),objs[j]?=some (pR k kv n seen ver)∧objs[k]?=some mo∧mo.live=true∧mo.ver=kv∧mo.sz=2∧mo.xs.length=n∧
   ((∀i,i<n→i∈seen)→K (.bP [.bool false]) objs 2)∧
   ∀i key v,¬ i∈seen→mo.xs[i]?=some (.agg [key,v])→K (.bP [.bool true,key,v]) (objs.set j (pR k kv n (seen++[i]) ver)) 2
 | _=>False
def qH(x:PV)(objs:List Obj)(K:KT):Prop:=
 match x with
 | .fw j ver=>∃(k kv n:Nat) (seen:List Nat) (i:Nat) (mo:Obj) (key v:PV),objs[j]?=some (pR k kv n (seen++[i]) ver)∧objs[k]?=some mo∧mo.live=true∧mo.ver=kv∧mo.sz=2∧mo.xs.length=n∧
   mo.xs[i]?=some (.agg [key,v])∧K (.bP [key,v]) objs 1
 | _=>False
section
variable {P:Program}{base ah:Nat→Prop}{w0:Wz}{S:St}{blk:Nat→Option Nat}{a:Act}{w:World}{D:TypeId→ay}{objs:List Obj}{ok:Nat→Prop}
theorem F5(c:Array Value)(l:List Nat)(hl:c.size=l.length+2)(h:∀(i:Nat) n,l[i]?=some n→c[i+2]?=some (.int .i64 (n:Int))):(c.toList.drop 2).map Cz=l:=by
 apply List.ext_getElem?
 intro i
 rw[List.getElem?_map,List.getElem?_drop]
 cases hi:l[i]? with
 | none=>
  have:l.length≤i:=List.getElem?_eq_none_iff.1 hi
  rw[List.getElem?_eq_none (by rw[Array.length_toList];omega)];rfl
 | some n=>
  have:=h i n hi
  rw[Array.getElem?_toList,Nat.add_comm 2 i,this]
  simp[Cz]
theorem SN(R:Rel base ah w0 S blk a w){j ver k kv n:Nat}{seen:List Nat}{g:Nat}(h1:S.objs[j]?=some (pR k kv n seen ver))(hb:blk j=some g){mo:Obj}(h2:S.objs[k]?=some mo)(h3:mo.live=true)(h4:mo.ver=kv)(h5:mo.sz=2)(h6:mo.xs.length=n) :
  ∃gm c cm,blk k=some gm∧w.heap[g]?=some (.mapIter (some gm) n seen.toArray n)∧w.heap[g]?=some (JR c)∧c.size=seen.length+2∧c[0]?=some (.map (some gm))∧c[1]?=some (.int .i64 (n:Int))∧(∀(i:Nat) n,seen[i]?=some n→c[i+2]?=some (.int .i64 (n:Int)))∧
   w.heap[gm]?=some (.map (mapOf cm) n)∧cm.size=2*n∧(∀i x,mo.xs[i]?=some x→x.cells.length=2∧∀j p,x.cells[j]?=some p→∃v,cm[i*2+j]?=some v∧aP w (aV base S.objs blk) S.objs blk p v)∧
   ∀(i:Nat) (p:PV),(pR k kv n seen ver).xs[i]?=some p→p.cells=[p]∧∃v,c[i]?=some v∧aP w (aV base S.objs blk) S.objs blk p v:=by
 have h:=R.objs.ob j _ h1 rfl
 unfold bf at h
 rw[hb]at h
 obtain⟨c,x1,x2,x3⟩:=h
 have hs:c.size=seen.length+2:=by have:=x2.2 rfl;simpa[pR] using this
 have ec:∀(i:Nat) (p:PV),(pR k kv n seen ver).xs[i]?=some p→p.cells=[p]:=λi p hp=>by
  have:=List.mem_of_getElem? hp
  simp only[pR,List.mem_cons,List.mem_map]at this
  rcases this with rfl | rfl | ⟨_,_,rfl⟩<;>rfl
 have e0:∀(i:Nat) (p:PV),(pR k kv n seen ver).xs[i]?=some p→p.cells=[p]→∃v,c[i]?=some v∧aP w (aV base S.objs blk) S.objs blk p v:=λi p hp hc=>by
  obtain⟨_,y⟩:=x3 i p hp
  obtain⟨v,z1,z2⟩:=y 0 p (by rw[hc];rfl)
  exact⟨v,by simpa[pR] using z1,z2⟩
 obtain⟨v0,a1,a2⟩:=e0 0 (.fw k kv) rfl rfl
 obtain⟨v1,b1,b2⟩:=e0 1 (.int .i64 n) rfl rfl
 obtain⟨gm,m1,m2,m3⟩:=(show aL w (aV base S.objs blk) S.objs blk (.fw k kv) v0 from a2).fw h2 h3 h4
 rw[JS,if_pos h5]at m2
 subst m2
 have b3:v1=.int .i64 n:=by
  have b2':bQ w (aV base S.objs blk) (.int .i64 n) v1:=b2
  cases b2';rfl
 subst b3
 have WT:∀(i:Nat) m,seen[i]?=some m→c[i+2]?=some (.int .i64 (m:Int)):=λi m hm=>by
  obtain⟨v,d1,d2⟩:=e0 (i+2) (.int .i64 m) (by simp[pR,hm]) rfl
  have d2':bQ w (aV base S.objs blk) (.int .i64 m) v:=d2
  cases d2';exact d1
 have hg:w.heap[g]?=some (JR c):=by
  rw[x1];rfl
 have hit:JR c=.mapIter (some gm) n seen.toArray n:=by
  unfold JR
  rw[a1,F5 c seen hs WT,Array.getD_eq_getD_getElem?,b1]
  simp[X0,Cz]
 obtain⟨cm,y1,y2,y3⟩:=BQ R h2 h3 m1 m3 h5
 rw[h6]at y1 y2
 exact⟨gm,c,cm,m1,by rw[hg,hit],hg,hs,a1,b1,WT,y1,y2,y3,λi p hp=>⟨ec i p hp,e0 i p hp (ec i p hp)⟩⟩
theorem SQ{j ver k kv n:Nat}{seen:List Nat}(h1:S.objs[j]?=some (pR k kv n seen ver)){v:Value}(hv:aL w (aV base S.objs blk) S.objs blk (.fw j ver) v):∃g,blk j=some g∧v=.pointer (some ⟨g,0,none⟩):=by
 obtain⟨g,m1,m2,_⟩:=hv.fw h1 rfl rfl
 exact⟨g,m1,m2⟩
theorem Qs{t:TypeId}{x:Operand}{o:Oper}{K:KT}(ho:o.op=.range t x)(hD:∀t,eP P t (D t))(R:Rel base ah w0 S blk a w)(h:qG D t (S.ev x) S.objs K):Out P base ah w0 S o a w K:=by
 have hx:=R.ev x
 unfold qG at h
 split at h
 ·rename_i kt et k ver hk e
  rw[e]at hx
  obtain⟨ob,h1,h2,h3,hsz,h⟩:=h
  obtain⟨g,hb,hv,hty⟩:=hx.fw h1 h2 h3
  rw[JS,if_pos hsz]at hv
  have hu:=(hD t).X6 hk
  obtain⟨c,g1,g2,g3⟩:=BQ R h1 h2 hb hty hsz
  have hkl:k<S.objs.length:=(List.getElem?_eq_some_iff.1 h1).1
  refine⟨.pointer (some ⟨w.heap.size,0,none⟩),w.alloc (.mapIter (some g) ob.xs.length #[] ob.xs.length),_,_,_,_,.inl ?_,h,
   R.newObj (sz:=1) (xs:=[.fw k ver,.int .i64 ob.xs.length]) (c:=#[.map (some g),.int .i64 ob.xs.length]) (ty:=MT) ?_ ⟨rfl,rfl⟩ ⟨by simp,λ_=>by simp⟩ ?_,?_,?_⟩
  ·simp only[execOp,ho,hv]
   have:=run_range_map (P:=P) w t kt et g (mapOf c) ob.xs.length hu g1
   rw[Sem.run_bind,this];rfl
  ·have hn:Cz (.int .i64 (ob.xs.length:Int))=ob.xs.length:=Int.toNat_natCast _
   have e:kW MT 1 #[.map (some g),.int .i64 ob.xs.length]=.mapIter (some g) ob.xs.length #[] ob.xs.length:=by
    show Go.Obj.mapIter (some g) (Cz (.int .i64 (ob.xs.length:Int))) #[] (Cz (.int .i64 (ob.xs.length:Int)))=_
    rw[hn]
   rw[e];rfl
  ·intro i x hx
   match i with
   | 0=>
    simp only[List.getElem?_cons_zero,Option.some.injEq]at hx
    subst hx
    refine⟨rfl,λj p hp=>?_⟩
    cases j with
    | zero=>
     simp only[PV.cells,List.getElem?_cons_zero,Option.some.injEq]at hp
     subst hp
     exact⟨.map (some g),by simp,rfl,ob,h1,by omega,λ_ _=>⟨hty,g,hb,by rw[JS,if_pos hsz]⟩⟩
    | succ j=>simp[PV.cells]at hp
   | 1=>
    simp only[List.getElem?_cons_succ,List.getElem?_cons_zero,Option.some.injEq]at hx
    subst hx
    refine⟨rfl,λj p hp=>?_⟩
    cases j with
    | zero=>
     simp only[PV.cells,List.getElem?_cons_zero,Option.some.injEq]at hp
     subst hp
     exact⟨.int .i64 ob.xs.length,by simp,.aF (.int _ _)⟩
    | succ j=>simp[PV.cells]at hp
   | i+2=>simp at hx
  ·exact⟨rfl,_,uU S.objs MT 1 [.fw k ver,.int .i64 ob.xs.length],Nat.le_refl _,λ_ _=>⟨rfl,w.heap.size,by unfold aC;rw[if_pos rfl],rfl⟩⟩
  ·intro o1 he x hx p hp
   have he':pR k ver ob.xs.length [] 1=o1:=by simpa using he
   rw[←he']at hx
   simp only[pR,List.map_nil,List.mem_cons,List.not_mem_nil,or_false]at hx
   rcases hx with rfl | rfl
   ·simp only[PV.cells,List.mem_singleton]at hp
    subst hp
    simpa[PV.nO] using hkl
   ·simp only[PV.cells,List.mem_singleton]at hp
    subst hp;rfl
 ·exact h.elim
theorem Qt{x:PV}(h:x.cells.length=2):∃k v,x=.agg [k,v]:=by
 cases x with
 | agg cs=>
  match cs,h with
  | [k,v],_=>exact⟨k,v,rfl⟩
 | _=>simp[PV.cells]at h
theorem F6{c:Array Value}{n:Nat}(hc:c.size=2*n){e:MapEntry}(h:e∈(mapOf c).toList):∃i,i<n∧e={ key:=c.getD (2*i) undef,val:=c.getD (2*i+1) undef,born:=i }:=by
 obtain⟨i,hi⟩:=List.mem_iff_getElem?.1 h
 rw[Array.getElem?_toList]at hi
 have hl:i<n:=by
  have:=(Array.getElem?_eq_some_iff.1 hi).1
  rw[fO]at this;omega
 rw[fD c i (by omega)]at hi
 cases hi
 exact⟨i,hl,rfl⟩
theorem SS{x:Operand}{o:Oper}{K:KT}(ho:o.op=.next x false)(R:Rel base ah w0 S blk a w)(h:nextR (S.ev x) S.objs K):Out P base ah w0 S o a w K:=by
 have hx:=R.ev x
 unfold nextR at h
 split at h
 ·rename_i j ver e
  rw[e]at hx
  obtain⟨k,kv,n,seen,mo,h1,h2,h3,h4,h5,h6,hd,hn⟩:=h
  obtain⟨g,hb,hv⟩:=SQ h1 hx
  obtain⟨gm,c,cm,m1,m2,m2',m3,m4,m5,m6,m7,m8,m9,m10⟩:=SN R h1 hb h2 h3 h4 h5 h6
  have hold:∀e∈(mapOf cm).toList,e.born<n:=λe he=>by
   obtain⟨i,hi,rfl⟩:=F6 m8 he
   exact hi
  have hent:=oW (by rw[h6];exact m8) m9
  have hsub:∀e:MapEntry,e∈(leftOf (mapOf cm) seen.toArray).toList↔e∈(mapOf cm).toList∧¬ e.born∈seen:=λe=>by
   unfold leftOf
   simp
  rcases run_next_at (P:=P) w o.type g gm n n seen.toArray (mapOf cm) n m2 m7 hold (Nat.le_refl _) with ⟨r1,r2⟩ | ⟨en,r1,w1,r2,r3⟩
  ·have hall:∀i,i<n→i∈seen:=λi hi=>by
     by_cases hs:i∈seen
     ·exact hs
     ·exfalso
      have hm:({ key:=cm.getD (2*i) undef,val:=cm.getD (2*i+1) undef,born:=i }:MapEntry)∈(mapOf cm).toList:=by
       rw[List.mem_iff_getElem?]
       exact⟨i,by rw[Array.getElem?_toList];exact fD cm i (by omega)⟩
      have:=(hsub _).2 ⟨hm,hs⟩
      rw[Array.eq_empty_of_size_eq_zero r1]at this
      simp at this
   refine .pure R (v:=.tuple #[.bool false]) ?_ (hd hall) ?_
   ·simp only[execOp,ho,hv,Sem.run_bind,r2,Result.andThen_ok];rfl
   ·exact⟨[.bool false],rfl,rfl,λi p v h1 h2=>by
      match i with
      | 0=>simp at h1 h2;subst h1;subst h2;exact .aF (.bool _)
      | i+1=>simp at h1⟩
  ·obtain⟨q1,q2⟩:=(hsub en).1 r1
   obtain⟨i,hi,rfl⟩:=F6 m8 q1
   have hxi:mo.xs[i]?=some (mo.xs[i]'(by omega)):=List.getElem?_eq_getElem _
   obtain⟨key,val,hkv⟩:=Qt (m9 i _ hxi).1
   rw[hkv]at hxi
   obtain⟨e',u1,u2,u3⟩:=hent i key val hxi
   rw[Array.getElem?_toList,fD cm i (by omega)]at u1
   cases u1
   have hgl:g<w.heap.size:=(Array.getElem?_eq_some_iff.1 m2).1
   have X7:w1.heap=w.heap∧Sm w w1:=by rcases r2 with rfl | rfl<;>exact⟨rfl,rfl,rfl⟩
   let w':World:=Go.ChangeMaps.setBlock w1 g (.mapIter (some gm) n (seen.toArray.push i) n)
   have Qu:w'.heap=w.heap.setIfInBounds g (.mapIter (some gm) n (seen.toArray.push i) n):=by
    show w1.heap.setIfInBounds _ _=_
    rw[X7.1]
   have hR':=R.setObj (w':=w') (o':=pR k kv n (seen++[i]) ver) (gb:=blk j) (k:=j) ⟨X7.2.1,X7.2.2⟩ h1 rfl rfl (by rw[Qu];simp)
    (λb z hbz hz=>by
     have:g≠b:=λe=>hbz (by rw[hb,e])
     rw[Qu];simp[this];exact hz)
    (λg' hg'=>.inl hg') (Nat.le_refl _)
    (λ_=>⟨rfl,rfl,rfl,λhne=>absurd rfl hne,λg' c' hg' hc'=>by
     rw[hb]at hg';cases hg'
     rw[m2]at hc';cases hc'⟩)
    (λhmono=>by
     unfold bf
     have hbk:aC blk j (blk j) j=some g:=by unfold aC;rw[if_pos rfl,hb]
     rw[hbk]
     refine⟨c.push (.int .i64 i),?_,⟨?_,λ_=>?_⟩,?_⟩
     ·rw[Qu]
      have hs':((c.push (.int .i64 (i:Int))).toList.drop 2).map Cz=seen++[i]:=F5 _ _ (by simp;omega) λz y hz=>by
       rw[List.getElem?_append]at hz
       rw[Array.getElem?_push]
       split at hz
       ·rename_i hlt
        rw[if_neg (by omega)];exact m6 z y hz
       ·rename_i hlt
        have:z-seen.length=0:=by
         cases hq:z-seen.length with
         | zero=>rfl
         | succ q=>rw[hq]at hz;simp at hz
        rw[this]at hz
        simp only[List.getElem?_cons_zero,Option.some.injEq]at hz
        subst hz
        rw[if_pos (by omega)]
      have e0:(c.push (.int .i64 (i:Int)))[0]?=some (.map (some gm)):=by rw[Array.getElem?_push,if_neg (by omega)];exact m4
      have e1:(c.push (.int .i64 (i:Int))).getD 1 undef=.int .i64 (n:Int):=by rw[Array.getD_eq_getD_getElem?,Array.getElem?_push,if_neg (by omega),m5];rfl
      have ei:JR (c.push (.int .i64 (i:Int)))=.mapIter (some gm) n (seen.toArray.push i) n:=by
       unfold JR
       rw[hs',e0,e1]
       simp[X0,Cz]
      have:kW MT 1 (c.push (.int .i64 (i:Int)))=JR (c.push (.int .i64 (i:Int))):=rfl
      show _=some (kW MT 1 (c.push (.int .i64 (i:Int))))
      rw[this,ei]
      simp[hgl]
     ·simp[pR];omega
     ·simp[pR];omega
     ·intro z y hz
      rw[show (pR k kv n (seen++[i]) ver).xs=(pR k kv n seen ver).xs++[.int .i64 (i:Int)] by simp[pR]]at hz
      have hxl:(pR k kv n seen ver).xs.length=seen.length+2:=by simp[pR]
      rw[List.getElem?_append]at hz
      split at hz
      ·rename_i hlt
       obtain⟨w1,v,w2,w3⟩:=m10 z y hz
       refine⟨by rw[w1];rfl,λq p hp=>?_⟩
       rw[w1]at hp
       cases q with
       | zero=>
        simp only[List.getElem?_cons_zero,Option.some.injEq]at hp
        subst hp
        exact⟨v,by show (c.push _)[z*1+0]?=_;rw[Array.getElem?_push,if_neg (by omega),show z*1+0=z by omega];exact w2,hmono _ _ w3⟩
       | succ q=>simp at hp
      ·rename_i hlt
       have hz0:z-(pR k kv n seen ver).xs.length=0:=by
        cases hq:z-(pR k kv n seen ver).xs.length with
        | zero=>rfl
        | succ q=>rw[hq]at hz;simp at hz
       rw[hz0]at hz
       simp only[List.getElem?_cons_zero,Option.some.injEq]at hz
       subst hz
       refine⟨rfl,λq p hp=>?_⟩
       cases q with
       | zero=>
        simp only[PV.cells,List.getElem?_cons_zero,Option.some.injEq]at hp
        subst hp
        exact⟨.int .i64 i,by show (c.push _)[z*1+0]?=_;rw[Array.getElem?_push,if_pos (by omega)],.aF (.int _ _)⟩
       | succ q=>simp[PV.cells]at hp)
   have hblk:∀q,aC blk j (blk j) q=blk q:=λq=>by unfold aC;split<;>simp_all
   have hget:∀(q:Nat) (ob:Obj),(S.objs.set j (pR k kv n (seen++[i]) ver))[q]?=some ob→(q=j∧ob.live=true)∨S.objs[q]?=some ob:=λq ob hq=>by
    rw[List.getElem?_set]at hq
    split at hq
    ·rename_i e
     split at hq
     ·cases hq;exact .inl ⟨e.symm,rfl⟩
     ·cases hq
    ·exact .inr hq
   have hmono:∀p v,aP w (aV base S.objs blk) S.objs blk p v→aP w' (aV base (S.objs.set j (pR k kv n (seen++[i]) ver)) (aC blk j (blk j))) (S.objs.set j (pR k kv n (seen++[i]) ver)) (aC blk j (blk j)) p v:=λp v hp=>by
    refine hp.mono (by rw[Qu];simp) (λb _ hok=>⟨hok.1,λq ob hq hlv=>?_⟩) (λb z hok hz=>?_) ?_
    ·rw[hblk]
     rcases hget q ob hq with ⟨rfl,_⟩ | hq'
     ·exact hok.2 q _ h1 rfl
     ·exact hok.2 q ob hq' hlv
    ·have:g≠b:=λe=>hok.2 j _ h1 rfl (by rw[hb,e])
     rw[Qu];simp[this];exact hz
    ·intro q ob hq
     by_cases hqj:q=j
     ·subst hqj
      rw[h1]at hq;cases hq
      refine⟨pR k kv n (seen++[i]) ver,by rw[List.getElem?_set_self (List.getElem?_eq_some_iff.1 h1).1],Nat.le_refl _,λ_ _=>⟨rfl,hblk _,rfl,rfl,λhne=>absurd rfl hne,λg' c' hg' hc'=>?_⟩⟩
      rw[hb]at hg';cases hg'
      rw[m2]at hc';cases hc'
     ·refine⟨ob,by rw[List.getElem?_set_ne (λe=>hqj e.symm)];exact hq,Nat.le_refl _,λhl _=>⟨hl,hblk _,rfl,rfl,λ_=>rfl,λg' c' hg' hc'=>⟨c',?_,rfl⟩⟩⟩
      have:g≠g':=λe=>by rw[←e,m2]at hc';cases hc'
      rw[Qu];simp[this];exact hc'
   refine⟨.tuple #[.bool true,cm.getD (2*i) undef,cm.getD (2*i+1) undef],w',.bP [.bool true,key,val],_,_,_,.inl ?_,hn i key val q2 hxi,hR',?_,.same (by simp)⟩
   ·simp only[execOp,ho,hv,Sem.run_bind,r3,Result.andThen_ok];rfl
   ·refine⟨[.bool true,cm.getD (2*i) undef,cm.getD (2*i+1) undef],rfl,rfl,λz p v h1 h2=>?_⟩
    match z with
    | 0=>simp at h1 h2;subst h1;subst h2;exact .aF (.bool _)
    | 1=>simp only[List.getElem?_cons_succ,List.getElem?_cons_zero,Option.some.injEq]at h1 h2;subst h1;subst h2;exact hmono _ _ u2
    | 2=>simp only[List.getElem?_cons_succ,List.getElem?_cons_zero,Option.some.injEq]at h1 h2;subst h1;subst h2;exact hmono _ _ u3
    | z+3=>simp at h1
 ·exact h.elim
theorem Qv{x:Operand}{o:Oper}{K:KT}(ho:o.op=.entry x)(R:Rel base ah w0 S blk a w)(h:qH (S.ev x) S.objs K):Out P base ah w0 S o a w K:=by
 have hx:=R.ev x
 unfold qH at h
 split at h
 ·rename_i j ver e
  rw[e]at hx
  obtain⟨k,kv,n,seen,i,mo,key,val,h1,h2,h3,h4,h5,h6,h7,hK⟩:=h
  obtain⟨g,hb,hv⟩:=SQ h1 hx
  obtain⟨gm,c,cm,m1,m2,m2',m3,m4,m5,m6,m7,m8,m9,m10⟩:=SN R h1 hb h2 h3 h4 h5 h6
  have hi:i<n:=by rw[←h6];exact (List.getElem?_eq_some_iff.1 h7).1
  have hent:=oW (by rw[h6];exact m8) m9
  obtain⟨e',u1,u2,u3⟩:=hent i key val h7
  rw[Array.getElem?_toList,fD cm i (by omega)]at u1
  cases u1
  have hm:({ key:=cm.getD (2*i) undef,val:=cm.getD (2*i+1) undef,born:=i }:MapEntry)∈(mapOf cm).toList:=by
   rw[List.mem_iff_getElem?]
   exact⟨i,by rw[Array.getElem?_toList];exact fD cm i (by omega)⟩
  have hnd:((mapOf cm).toList.map (·.born)).Nodup:=by
   have:(mapOf cm).toList.map (·.born)=List.range (cm.size / 2):=by simp[mapOf,Function.comp_def]
   rw[this];exact List.nodup_range
  have hr:w.heap[g]?=some (.mapIter (some gm) n (seen.toArray.push i) n):=by rw[m2];simp
  have hrun:=run_entry_at (P:=P) w g gm n seen.toArray (mapOf cm) n _ hr m7 hm hnd
  refine .pure R (v:=.tuple #[cm.getD (2*i) undef,cm.getD (2*i+1) undef]) ?_ hK ?_
  ·simp only[execOp,ho,hv,Sem.run_bind,hrun,Result.andThen_ok];rfl
  ·refine⟨[cm.getD (2*i) undef,cm.getD (2*i+1) undef],rfl,rfl,λz p v h1 h2=>?_⟩
   match z with
   | 0=>simp only[List.getElem?_cons_zero,Option.some.injEq]at h1 h2;subst h1;subst h2;exact u2
   | 1=>simp only[List.getElem?_cons_succ,List.getElem?_cons_zero,Option.some.injEq]at h1 h2;subst h1;subst h2;exact u3
   | z+2=>simp at h1
 ·exact h.elim
end
end Lp
namespace Lp
open Go
def Enters(P:Program)(f:FuncId):Prop:=∃fn,P.funcs[f]?=some fn∧(fn.name== "runtime.NumGoroutine")=false∧fn.body.isNone=false
def av(P:Program)(f:FuncId)(args:List PV)(objs:List Obj)(r:PV)(ai:List Obj):Prop:=
 Enters P f∧
 ∀(w:World) (blk:Nat→Option Nat) (vs:List Value) (base:Nat→Prop),(kV.holds w.heap∧∀b,w.heap.size≤b→base b)→
  bW base (λb=>b<w.heap.size∧aH objs blk b) objs blk w→a_ (aL w (aV base objs blk) objs blk) args vs→
  Calls P f ⟨vs⟩ w λe w'=>∃v aj,e=.returned v∧bW base (λb=>b<w.heap.size∧aH objs blk b) ai aj w'∧
   aL w' (aV base ai aj) ai aj r v∧(∀b,b<w.heap.size→aH objs blk b→w'.heap[b]?=w.heap[b]?)∧w.heap.size≤w'.heap.size∧Sm w w'
def PV.jO (n:Nat):PV→PV
 | .aW k ver=>.aW (k+n) ver
 | .aT k ver i f=>.aT (k+n) ver i f
 | .fw k ver=>.fw (k+n) ver
 | p=>p
def PV.shift (n:Nat):PV→PV
 | .fn f a c=>.fn f (a.map (.jO n)) (c.map (.jO n))
 | .bP cs=>.bP (cs.map (.jO n))
 | .agg cs=>.agg (cs.map (.jO n))
 | p=>p.jO n
def PV.wu:PV→Bool
 | .int .. | .bool _ | .str _ | .xZ | .zP | .Cw | .Cx | .sl _ [] (some true)=>true
 | _=>false
def PV.flat:PV→Bool
 | .bP cs=>cs.all PV.wu
 | p=>p.wu
def bg(objs:List Obj):Prop:=∀o∈objs,∀x∈o.xs,∀p∈x.cells,p.ref=false
def X8(objs:List Obj)(p:PV)(p':PV):Prop:=
 match p with
 | .aW k ver=>∃o,objs[k]?=some o∧o.live=true∧o.ver=ver∧(∀x∈o.xs,∀c∈x.cells,c.ref=false)∧p'=.sl o.sz o.xs none
 | .aT k ver i f=>∃o e,objs[k]?=some o∧o.live=true∧o.ver=ver∧o.xs[i]?=some e∧f=0∧(∀c∈e.cells,c.ref=false)∧p'=.addr e
 | p=>p.pure=true∧p'=p
def J7(objs:List Obj):List PV→List PV→Prop
 | [],[]=>True
 | p::ps,q::qs=>X8 objs p q∧J7 objs ps qs
 | _,_=>False
def PV.atom:PV→Bool
 | .int .. | .bool _ | .str _=>true
 | _=>false
def CR(P:Program)(f:FuncId)(args:List PV)(objs:List Obj)(r:PV)(ai:List Obj):Prop:=
 Enters P f∧ai.length=objs.length∧
 ∀(base ah:Nat→Prop) (w0:Wz) (tmps:List PV) (blk:Nat→Option Nat) (a:Act) (w:World) (vs:List Value),Rel base ah w0 ⟨tmps,objs⟩ blk a w→
  a_ (aL w (aV base objs blk) objs blk) args vs→
  Calls P f ⟨vs⟩ w λe w'=>∃v aj,e=.returned v∧Rel base ah w0 ⟨tmps,ai⟩ aj a w'∧aL w' (aV base ai aj) ai aj r v
inductive kJ (P:Program) (f:FuncId) (args:List PV) (objs:List Obj):PV→List Obj→Nat→Prop
 | pure (r:PV) (hargs:args.all PV.pure=true) (h:av P f args [] r []):kJ P f args objs r objs 0
 | made (r:PV) (o:Obj) (hargs:args.all PV.pure=true) (hnew:bg [o]) (h:av P f args [] r [o]):kJ P f args objs (r.shift objs.length) (objs++[o]) 2
 | used (r:PV) (ai:List Obj) (h:CR P f args objs r ai):kJ P f args objs r ai 2
 | J8 (ver:Nat) (o:Obj) (args':List PV) (hargs:J7 objs args args') (hnew:∀x∈o.xs,∀p∈x.cells,p.atom=true) (h:av P f args' [] (.aW 0 ver) [o]):kJ P f args objs (.aW objs.length ver) (objs++[o]) 2
 | O9 (ver:Nat) (q:PV) (o:Obj) (args':List PV) (hargs:J7 objs args args') (hnew:∀x∈o.xs,∀p∈x.cells,p.atom=true) (hq:q.atom=true) (h:av P f args' [] (.bP [.aW 0 ver,q]) [o]):kJ P f args objs (.bP [.aW objs.length ver,q]) (objs++[o]) 2
 | Vm (r:PV) (args':List PV) (hargs:J7 objs args args') (hr:r.flat=true) (h:av P f args' [] r []):kJ P f args objs r objs 1
def CS(P:Program)(f:PV)(args:List PV)(objs:List Obj)(K:KT):Prop:=
 match f with
 | .fn g first cap=>∃r ai t,kJ P g (first++args++cap) objs r ai t∧K r ai t
 | _=>False
def dH(D:TypeId→ay)(b:Builtin)(ts:List TypeId)(args:List Operand)(ev:Operand→PV)(objs:List Obj)(K:KT):Prop:=
 match b,ts,args with
 | .len,[t],[x]=>oI D t (ev x) objs K
 | .append,[t,u],[s,x]=>dh D t u (ev s) (ev x) objs K
 | .max,_,xs=>fH true (xs.map ev) λr=>K r objs 0
 | .min,_,xs=>fH false (xs.map ev) λr=>K r objs 0
 | _,_,_=>False
def EG(P:Program)(D:TypeId→ay)(own:Bool)(ev:Operand→PV)(objs:List Obj)(op:Op)(K:KT):Prop:=
 match op with
 | .move x | .assign x=>K (ev x) objs 0
 | .pick c x y=>rW (ev c) (ev x) (ev y) objs K
 | .alloc t=>pE t (D t) objs K
 | .box t x=>Hu t (D t) (ev x) objs K
 | .build t ps=>cO D t (ps.toList.map λx=>(x.1,ev x.2)) objs K
 | .buildSlice t n ps=>bB D own t n (ps.toList.map λx=>(x.1,ev x.2)) objs K
 | .load t x=>dK (D t) (ev x) objs K
 | .store t x y=>iq (D t) (ev x) (ev y) objs K
 | .nilCheck x=>bX (ev x) objs K
 | .binOp b t x y _=>nQ P (D t) t b (ev x) (ev y) λr=>K r objs 0
 | .unOp u _ x=>JF u (ev x) λr=>K r objs 0
 | .convert s t x=>oQ D s t (ev x) objs K
 | .makeFunc (.func f) first cap=>jg f (first.toList.map ev) (cap.toList.map ev) objs K
 | .makeSlice t l c=>dJ D t (ev l) (ev c) objs K
 | .slice t x lo hi none=>gu D t (ev x) (lo.map ev) (hi.map ev) objs K
 | .fieldAddr t x f=>aN D t (ev x) f objs K
 | .field t x f=>mq D t (ev x) f objs K
 | .indexAddr t x i=>aZ D t (ev x) (ev i) objs K
 | .index t x i=>jN D t (ev x) (ev i) objs K
 | .extract x i=>bL (ev x) i objs K
 | .call { callee:=.builtin b,args,argTypes }=>dH D b argTypes.toList args.toList ev objs K
 | .call { callee:=.value f,args,.. }=>CS P (ev f) (args.toList.map ev) objs K
 | .makeMap t none=>kI D t objs K
 | .lookup t x ix ok=>iC D t (ev x) (ev ix) ok objs K
 | .mapUpdate t x k v=>dU D t (ev x) (ev k) (ev v) objs K
 | .insert t x k v=>dU D t (ev x) (ev k) (ev v) objs K
 | .range t x=>qG D t (ev x) objs K
 | .entry x=>qH (ev x) objs K
 | _=>False
section
variable {P:Program}{base ah:Nat→Prop}{w0:Wz}{S:St}{blk:Nat→Option Nat}{a:Act}{w:World}{D:TypeId→ay}
theorem qa{f:FuncId}{args:Array Value}{R:Ending→World→Prop}(h:Calls P f args w R)(l:Option Nat):CallsIn (x9 l) 0 P f args w R:=by
 have h':CallsIn Fence.wide 0 P f args w R:=callsIn_wide.2 h
 cases l with
 | none=>exact h'
 | some l=>exact h'.inRound l
theorem bQ.nT {ok:Nat→Prop}{p:PV}{v:Value}(h:bQ w ok p v){ok':Nat→Prop}(hok:∀b,b<w.heap.size→ok b→ok' b):bQ w ok' p v:=
 h.mono (Nat.le_refl _) hok (λ_ _ _ h=>h)
theorem F7{w':World}{ok ok':Nat→Prop}{p:PV}{v:Value}(hp:p.wu=true)(h:bQ w ok p v):bQ w' ok' p v:=by
 cases h with
 | sl sz xs q hq=>
  exfalso
  unfold PV.wu at hp
  split at hp<;>first | (cases hp;done) | skip
  all_goals first | (rename_i e;cases e;done) | (rename_i e;injection e with _ _ e3;exact hq e3) | skip
 | Cy sz q hq=>
  exfalso
  unfold PV.wu at hp
  split at hp<;>first | (cases hp;done) | skip
  all_goals first | (rename_i e;cases e;done) | (rename_i e;injection e with _ _ e3;exact hq e3) | skip
 | slnil sz q hq=>exact .slnil sz q hq
 | int=>exact .int _ _
 | bool=>exact .bool _
 | str=>exact .str _
 | xZ=>exact .xZ
 | zP=>exact .zP
 | Cw=>exact .Cw
 | Cx=>exact .Cx
 | _=>simp[PV.wu]at hp
theorem F8{p:PV}(h:p.wu=true):p.ref=false:=by
 cases p<;>first | rfl | (simp[PV.wu]at h)
theorem SV{ok ok':Nat→Prop}{objs ai:List Obj}{blk aj:Nat→Option Nat}{w':World}{r:PV}{v:Value}(hr:r.flat=true)(h:aL w ok objs blk r v):aL w' ok' ai aj r v:=by
 cases r with
 | bP cs=>
  obtain⟨vs,rfl,h1,h2⟩:=h
  refine⟨vs,rfl,h1,λi p u hp hu=>?_⟩
  have hf:=List.all_eq_true.1 hr p (List.mem_of_getElem? hp)
  exact .aF (F7 hf ((h2 i p u hp hu).wQ (F8 hf)))
 | fn f a c=>simp[PV.flat,PV.wu]at hr
 | agg cs=>simp[PV.flat,PV.wu]at hr
 | _=>
  simp only[PV.flat]at hr
  exact .aF (F7 hr (aP.wQ (w:=w) (ok:=ok) (objs:=objs) (blk:=blk) h (F8 hr)))
theorem Vn(objs:List Obj)(o:Obj):(objs++[o])[objs.length]?=some o:=by simp
def nU(base:Nat→Prop)(S:St)(blk:Nat→Option Nat)(w:World)(b:Nat):Prop:=aV base S.objs blk b∨w.heap.size≤b
theorem dO(blk:Nat→Option Nat)(b:Nat):aH [] blk b:=λk o h=>by simp at h
theorem H6{ai:List Obj}{aj:Nat→Option Nat}(R:Rel base ah w0 S blk a w){b:Nat}(h:aV (nU base S blk w) ai aj b):aV base S.objs blk b:=by
 rcases h.1 with h | h
 ·exact h
 ·refine⟨R.bs b (Nat.le_trans R.gr h),λk o h1 h2 h3=>?_⟩
  have:=qE R.objs h1 h2 h3
  omega
theorem J9{o:Obj}{aj:Nat→Option Nat}(R:Rel base ah w0 S blk a w)(ho:o.live=true){b:Nat}(h:aV (nU base S blk w) [o] aj b) :
  aV base (S.objs++[o]) (aC blk S.objs.length (aj 0)) b:=by
 have h0:=H6 R h
 refine⟨h0.1,λk ob h1 h2=>?_⟩
 rcases kH h1 with ⟨hk,h1⟩ | ⟨rfl,rfl⟩
 ·unfold aC;rw[if_neg (by omega)];exact h0.2 k ob h1 h2
 ·unfold aC;rw[if_pos rfl];exact h.2 0 ob rfl h2
theorem Rel.made {w':World}{aj:Nat→Option Nat}{o:Obj}(R:Rel base ah w0 S blk a w)(hg:jd w w')(hnew:bg [o])
  (h:bW (nU base S blk w) (λb=>b<w.heap.size∧aH [] blk b) [o] aj w') :
  Rel base ah w0 ⟨S.tmps,S.objs++[o]⟩ (aC blk S.objs.length (aj 0)) a w':=by
 cases ho:o.live with
 | false=>
  have hb:∀k,k<S.objs.length→aC blk S.objs.length (aj 0) k=blk k:=λk hk=>by unfold aC;rw[if_neg (by omega)]
  have ho':lD w w' S.objs (S.objs++[o]) blk (aC blk S.objs.length (aj 0)):=by
   intro k ob hk
   have hkl:=(List.getElem?_eq_some_iff.1 hk).1
   exact⟨ob,by rw[List.getElem?_append,if_pos hkl];exact hk,Nat.le_refl _,λhl _=>⟨hl,hb k hkl,rfl,rfl,λ_=>rfl,λg c _ hc=>⟨c,hg.2.1 g _ hc,rfl⟩⟩⟩
  have hget:∀(k:Nat) (ob:Obj),(S.objs++[o])[k]?=some ob→ob.live=true→k<S.objs.length∧S.objs[k]?=some ob:=by
   intro k ob h1 h2
   rcases kH h1 with h1 | ⟨_,rfl⟩
   ·exact h1
   ·rw[ho]at h2;cases h2
  have hok:∀b,aV base S.objs blk b→aV base (S.objs++[o]) (aC blk S.objs.length (aj 0)) b:=λb hb0=>⟨hb0.1,λk ob h1 h2=>by
   obtain⟨hk,h1⟩:=hget k ob h1 h2
   rw[hb k hk];exact hb0.2 k ob h1 h2⟩
  refine R.change hg.1 (λb x _ h=>hg.2.1 b x h) (λb _ h=>hok b h) ho' ⟨?_,?_,?_⟩ hg.2.2
  ·intro k ob h1 h2
   obtain⟨hk,h1⟩:=hget k ob h1 h2
   have hh:=R.objs.ob k ob h1 h2
   unfold bf at hh ⊢
   rw[hb k hk]
   cases hbk:blk k with
   | none=>rw[hbk]at hh;exact hh
   | some g=>
    rw[hbk]at hh
    obtain⟨c',x1,x2,x3⟩:=hh
    refine⟨c',hg.2.1 g _ x1,x2,λi x hx=>⟨(x3 i x hx).1,λj p hp=>?_⟩⟩
    obtain⟨v,y1,y2⟩:=(x3 i x hx).2 j p hp
    exact⟨v,y1,y2.mono hg.1 (λb _ h=>hok b h) (λb x _ h=>hg.2.1 b x h) ho'⟩
  ·intro k k' ob WO g hne h1 h2 h3 h4 h5 h6
   obtain⟨hk,h1⟩:=hget k ob h1 h2
   obtain⟨hk',h3⟩:=hget k' WO h3 h4
   rw[hb k hk]at h5;rw[hb k' hk']at h6
   exact R.objs.xR k k' ob WO g hne h1 h2 h3 h4 h5 h6
  ·intro k ob g h1 h2 h3 h4
   obtain⟨hk,h1⟩:=hget k ob h1 h2
   rw[hb k hk]at h3
   exact R.objs.np k ob g h1 h2 h3 h4
 | true=>
  refine R.zR hg (λg hgb=>?_) λhr=>?_
  ·rcases Nat.lt_or_ge g w.heap.size with hlt | hge
   ·exact absurd ⟨hlt,dO blk g⟩ (h.np 0 o g rfl ho hgb)
   ·exact hge
  ·have hh:=h.ob 0 o rfl ho
   unfold bf at hh ⊢
   have hb':aC blk S.objs.length (aj 0) S.objs.length=aj 0:=by unfold aC;rw[if_pos rfl]
   rw[hb']
   cases hb0:aj 0 with
   | none=>rw[hb0]at hh;exact hh
   | some g=>
    rw[hb0]at hh
    obtain⟨c,x1,x2,x3⟩:=hh
    refine⟨c,x1,x2,λi x hx=>⟨(x3 i x hx).1,λj p hp=>?_⟩⟩
    obtain⟨v,y1,y2⟩:=(x3 i x hx).2 j p hp
    refine⟨v,y1,.aF ((y2.wQ (hnew o (by simp) x (List.mem_of_getElem? hx) p (List.mem_of_getElem? hp))).nT λb _ hbk=>?_)⟩
    rw[←hb0]
    exact J9 R ho hbk
theorem uW(base ah:Nat→Prop)(blk:Nat→Option Nat)(w:World):bW base ah [] blk w:=
 ⟨λk o h=>by simp at h,λk k' o o' g _ h=>by simp at h,λk o g h=>by simp at h⟩
theorem F9{args:List PV}{vs:List Value}(h:a_ (aL w (aV base S.objs blk) S.objs blk) args vs)(hp:args.all PV.pure=true) :
  a_ (aL w (aV (nU base S blk w) [] blk) [] blk) args vs:=
 ⟨h.1,λi p v a b=>.aF (((h.2 i p v a b).wQ (List.all_eq_true.1 hp p (List.mem_of_getElem? a))).nT λ_ _ hb=>⟨.inl hb,dO _ _⟩)⟩
theorem jD{w':World}(h:∀b,b<w.heap.size→aH [] blk b→w'.heap[b]?=w.heap[b]?)(hs:w.heap.size≤w'.heap.size∧Sm w w'):jd w w':=
 ⟨hs.1,λb x hx=>by rw[h b (Array.getElem?_eq_some_iff.1 hx).1 (dO _ _)];exact hx,hs.2⟩
theorem SX(R:Rel base ah w0 S blk a w){p p':PV}{v:Value}(h:X8 S.objs p p')(hr:aL w (aV base S.objs blk) S.objs blk p v):bQ w (λ_=>True) p' v:=by
 cases p with
 | aW k ver=>
  obtain⟨o,h1,h2,h3,h4,rfl⟩:=h
  have hh:=hr.aW h1 h2 h3
  unfold sH at hh
  cases hb:blk k with
  | none=>
   rw[hb]at hh
   rw[hh.1,hh.2]
   exact .slnil _ _ (by simp)
  | some g=>
   rw[hb]at hh
   obtain⟨cap,c,hv,x1,x2,x3,x4⟩:=hh
   obtain⟨c',y1,y2,y3⟩:=jf R h1 h2 hb (hr.qC h1 h2 h3)
   rw[x1]at y1;cases y1
   rw[hv]
   refine .sl o.sz o.xs none (by simp) g 0 cap (λi j=>(c[i*o.sz+j]?).getD undef) (λ_=>⟨trivial,(Array.getElem?_eq_some_iff.1 x1).1⟩) x2 x3 (λi x hx=>(y3 i x hx).1) ?_ ?_
   ·intro i x j p hx hp
    obtain⟨u,u1,_⟩:=(y3 i x hx).2 j p hp
    simp[World.cell?,x1,u1]
   ·intro i x j p hx hp
    obtain⟨u,u1,u2⟩:=(y3 i x hx).2 j p hp
    rw[u1,Option.getD_some]
    exact (u2.wQ (h4 x (List.mem_of_getElem? hx) p (List.mem_of_getElem? hp))).nT λ_ _ _=>trivial
 | aT k ver i f=>
  obtain⟨o,e,h1,h2,h3,h4,rfl,h5,rfl⟩:=h
  obtain⟨g,hb,hv,hty⟩:=hr.aT h1 h2 h3
  obtain⟨y1,y2⟩:=MQ R.objs h1 h2 h4 hb hty
  obtain⟨c,x1,_⟩:=jf R h1 h2 hb hty
  rw[hv]
  refine .Va ⟨trivial,(Array.getElem?_eq_some_iff.1 x1).1⟩ λj p hp=>?_
  obtain⟨u,u1,u2⟩:=y2 j p hp
  exact⟨u,u1,(u2.wQ (h5 p (List.mem_of_getElem? hp))).nT λ_ _ _=>trivial⟩
 | _=>
  obtain⟨h1,rfl⟩:=h
  exact (hr.wQ h1).nT λ_ _ _=>trivial
theorem uX(R:Rel base ah w0 S blk a w):∀{ps qs:List PV}{vs:List Value},J7 S.objs ps qs→a_ (aL w (aV base S.objs blk) S.objs blk) ps vs→a_ (bQ w (λ_=>True)) qs vs
 | [],[],vs,_,h=>⟨h.1,λi p v hp=>by simp at hp⟩
 | p::ps,q::qs,vs,h,hr=>by
  obtain⟨h1,h2⟩:=h
  match vs,hr with
  | [],hr=>exact absurd hr.1 (by simp)
  | v::vs,hr=>
   have ih:=uX R h2 ⟨by simpa using hr.1,λi p u a b=>hr.2 (i+1) p u (by simpa using a) (by simpa using b)⟩
   refine⟨by simpa using ih.1,λi p' u hp hu=>?_⟩
   cases i with
   | zero=>simp at hp hu;subst hp;subst hu;exact SX R h1 (hr.2 0 p v rfl rfl)
   | succ i=>exact ih.2 i p' u (by simpa using hp) (by simpa using hu)
theorem aP.X9 {w':World}{ok:Nat→Prop}{aj:Nat→Option Nat}{p:PV}{v:Value}(h:aP w' ok [] aj p v):bQ w' ok p v:=by
 cases p with
 | aW k ver=>obtain⟨_,o,h,_⟩:=h;simp at h
 | aT k ver i f=>obtain⟨_,o,h,_⟩:=h;simp at h
 | fw k ver=>obtain⟨_,o,h,_⟩:=h;simp at h
 | _=>exact h
def PV.MZ (f:PV→PV):PV→PV
 | .fn g a c=>.fn g (a.map f) (c.map f)
 | .bP cs=>.bP (cs.map f)
 | .agg cs=>.agg (cs.map f)
 | p=>f p
theorem aL.MZ {w':World}{ok ok':Nat→Prop}{objs ai:List Obj}{blk aj:Nat→Option Nat}{p:PV}{v:Value}{f:PV→PV}(h:aL w' ok objs blk p v)
  (hf:∀q u,aP w' ok objs blk q u→aP w' ok' ai aj (f q) u) :
  aL w' ok' ai aj (p.MZ f) v:=by
 have hl:∀cs vs,a_ (aP w' ok objs blk) cs vs→a_ (aP w' ok' ai aj) (cs.map f) vs:=by
  intro cs vs h
  refine⟨by simpa using h.1,λi p v hp hv=>?_⟩
  rw[List.getElem?_map]at hp
  cases hc:cs[i]? with
  | none=>rw[hc]at hp;simp at hp
  | some q=>rw[hc]at hp;simp at hp;subst hp;exact hf q v (h.2 i q v hc hv)
 cases p with
 | fn g a c=>obtain⟨va,vc,rfl,h1,h2⟩:=h;exact⟨va,vc,rfl,hl _ _ h1,hl _ _ h2⟩
 | bP cs=>obtain⟨vs,rfl,h1⟩:=h;exact⟨vs,rfl,hl _ _ h1⟩
 | agg cs=>obtain⟨vs,rfl,h1⟩:=h;exact⟨vs,rfl,hl _ _ h1⟩
 | _=>exact .dG (hf _ _ h)
theorem SY(n:Nat)(p:PV):p.shift n=p.MZ (.jO n):=by
 cases p<;>rfl
theorem id_eq(p:PV):p=p.MZ id:=by
 cases p<;>simp[PV.MZ]
theorem qI{p:PV}(h:p.atom=true):p.ref=false:=by cases p<;>first | rfl | (simp[PV.atom]at h)
theorem J_{w':World}{ok ok':Nat→Prop}{objs ai:List Obj}{blk aj:Nat→Option Nat}{p:PV}{v:Value}(hp:p.atom=true)(h:aP w ok objs blk p v):aP w' ok' ai aj p v:=by
 have h':=h.wQ (qI hp)
 refine .aF ?_
 cases p<;>simp[PV.atom]at hp<;>cases h'<;>constructor
theorem CU{base' X_ gD:Nat→Prop}{o:Obj}{aj:Nat→Option Nat}{w':World}(h:bW base' gD [o] aj w')(ho:∀x∈o.xs,∀p∈x.cells,p.atom=true):bW X_ gD [o] aj w':=by
 refine⟨λk ob h1 h2=>?_,h.xR,h.np⟩
 have hh:=h.ob k ob h1 h2
 have he:ob=o:=by
  cases k with
  | zero=>simp at h1;exact h1.symm
  | succ k=>simp at h1
 subst he
 unfold bf at hh ⊢
 cases hb:aj k with
 | none=>rw[hb]at hh;exact hh
 | some g=>
  rw[hb]at hh
  obtain⟨c,x1,x2,x3⟩:=hh
  exact⟨c,x1,x2,λi x hx=>⟨(x3 i x hx).1,λj p hp=>let ⟨v,y1,y2⟩:=(x3 i x hx).2 j p hp;⟨v,y1,J_ (ho x (List.mem_of_getElem? hx) p (List.mem_of_getElem? hp)) y2⟩⟩⟩
theorem M0{f:FuncId}{args:List PV}{vs:List Value}{r:PV}{ai:List Obj}{t:Nat}(R:Rel base ah w0 S blk a w)(h:kJ P f args S.objs r ai t)
  (hargs:a_ (aL w (aV base S.objs blk) S.objs blk) args vs) :
  Enters P f∧Calls P f ⟨vs⟩ w λe w'=>∃v aj,e=.returned v∧Rel base ah w0 ⟨S.tmps,ai⟩ aj a w'∧aL w' (aV base ai aj) ai aj r v:=by
 cases h with
 | pure r hp h=>
  refine⟨h.1,(h.2 w blk vs (nU base S blk w) ⟨R.jM,λb hb=>.inr hb⟩ (uW _ _ _ _) (F9 hargs hp)).mono λe w' ⟨v,aj,h1,h2,h3,h4,h5⟩=>?_⟩
  have hg:=jD h4 h5
  refine⟨v,blk,h1,R.grew hg,?_⟩
  rw[id_eq r]
  refine h3.MZ (f:=id) λq u hq=>?_
  have hq':=hq.X9
  refine .aF (hq'.mono (Nat.le_refl _) (λb _ hb=>?_) (λ_ _ _ h=>h))
  exact H6 R hb
 | made r o hp hnew h=>
  refine⟨h.1,(h.2 w blk vs (nU base S blk w) ⟨R.jM,λb hb=>.inr hb⟩ (uW _ _ _ _) (F9 hargs hp)).mono λe w' ⟨v,aj,h1,h2,h3,h4,h5⟩=>?_⟩
  have hg:=jD h4 h5
  refine⟨v,aC blk S.objs.length (aj 0),h1,R.made hg hnew h2,?_⟩
  rw[SY]
  refine h3.MZ λq u hq=>?_
  have h0:∀(k:Nat) (ob:Obj),[o][k]?=some ob→k=0∧ob=o:=by
   intro k ob hk
   cases k with
   | zero=>simp at hk;exact⟨rfl,hk.symm⟩
   | succ k=>simp at hk
  have hbl:aC blk S.objs.length (aj 0) S.objs.length=aj 0:=by unfold aC;rw[if_pos rfl]
  cases q with
  | aW k ver=>
   obtain⟨ho,ob,g1,g2,g3⟩:=hq
   obtain⟨rfl,rfl⟩:=h0 k ob g1
   refine⟨ho,ob,by simp,g2,λhl hv=>?_⟩
   obtain⟨hM,this⟩:=g3 hl hv
   refine⟨hM,?_⟩
   unfold sH at this ⊢
   rw[Nat.zero_add,hbl];exact this
  | aT k ver i f=>
   obtain⟨ho,ob,g1,g2,g3⟩:=hq
   obtain⟨rfl,rfl⟩:=h0 k ob g1
   refine⟨ho,ob,by simp,g2,λhl hv=>?_⟩
   obtain⟨hM,g,e1,e2⟩:=g3 hl hv
   exact⟨hM,g,by rw[Nat.zero_add,hbl];exact e1,e2⟩
  | fw k ver=>
   obtain⟨ho,ob,g1,g2,g3⟩:=hq
   obtain⟨rfl,rfl⟩:=h0 k ob g1
   refine⟨ho,ob,by simp,g2,λhl hv=>?_⟩
   obtain⟨hM,g,e1,e2⟩:=g3 hl hv
   exact⟨hM,g,by rw[Nat.zero_add,hbl];exact e1,e2⟩
  | _=>
   have hq':bQ w' _ _ u:=hq
   cases hl:o.live with
   | true=>exact .aF (hq'.mono (Nat.le_refl _) (λb _ hb=>J9 R hl hb) (λ_ _ _ h=>h))
   | false=>
    refine .aF (hq'.mono (Nat.le_refl _) (λb _ hb=>?_) (λ_ _ _ h=>h))
    have h0:=H6 R hb
    refine⟨h0.1,λk ob m1 m2=>?_⟩
    rcases kH m1 with ⟨hk,m3⟩ | ⟨_,eo⟩
    ·unfold aC;rw[if_neg (by omega)];exact h0.2 k ob m3 m2
    ·rw[eo,hl]at m2;cases m2
 | used r ai h=>exact⟨h.1,h.2.2 base ah w0 S.tmps blk a w vs R hargs⟩
 | J8 ver o args' hl hnew h=>
  have ha:=uX R hl hargs
  refine⟨h.1,(h.2 w blk vs (λ_=>True) ⟨R.jM,λ_ _=>trivial⟩ (uW _ _ _ _) ⟨ha.1,λi p v a b=>.aF ((ha.2 i p v a b).nT λ_ _ _=>⟨trivial,dO _ _⟩)⟩).mono λe w' ⟨v,aj,h1,h2,h3,h4,h5⟩=>?_⟩
  have hg:=jD h4 h5
  have hn:bg [o]:=λob uV x hx p hp=>by
   have:ob=o:=by simpa using uV
   subst this
   exact qI (hnew x hx p hp)
  refine⟨v,aC blk S.objs.length (aj 0),h1,R.made hg hn (CU h2 hnew),?_⟩
  have hbl:aC blk S.objs.length (aj 0) S.objs.length=aj 0:=by unfold aC;rw[if_pos rfl]
  obtain⟨ho,ob,g1,g2,g3⟩:=h3
  have he:ob=o:=by simpa using g1.symm
  subst he
  refine⟨ho,ob,by simp,g2,λhl hv=>?_⟩
  obtain⟨hM,this⟩:=g3 hl hv
  refine⟨hM,?_⟩
  unfold sH at this ⊢
  rw[hbl];exact this
 | O9 ver q o args' hl hnew hq h=>
  have ha:=uX R hl hargs
  refine⟨h.1,(h.2 w blk vs (λ_=>True) ⟨R.jM,λ_ _=>trivial⟩ (uW _ _ _ _) ⟨ha.1,λi p v a b=>.aF ((ha.2 i p v a b).nT λ_ _ _=>⟨trivial,dO _ _⟩)⟩).mono λe w' ⟨v,aj,h1,h2,h3,h4,h5⟩=>?_⟩
  have hg:=jD h4 h5
  have hn:bg [o]:=λob uV x hx p hp=>by
   have:ob=o:=by simpa using uV
   subst this
   exact qI (hnew x hx p hp)
  refine⟨v,aC blk S.objs.length (aj 0),h1,R.made hg hn (CU h2 hnew),?_⟩
  have hbl:aC blk S.objs.length (aj 0) S.objs.length=aj 0:=by unfold aC;rw[if_pos rfl]
  obtain⟨us,rfl,h3⟩:=h3
  refine⟨us,rfl,h3.1,λi p u hp hu=>?_⟩
  match i with
  | 0=>
   cases hp
   obtain⟨ho,ob,g1,g2,g3⟩:=h3.2 0 _ u rfl hu
   have he:ob=o:=by simpa using g1.symm
   subst he
   refine⟨ho,ob,by simp,g2,λhl hv=>?_⟩
   obtain⟨hM,this⟩:=g3 hl hv
   refine⟨hM,?_⟩
   unfold sH at this ⊢
   rw[hbl];exact this
  | 1=>
   cases hp
   exact J_ hq (h3.2 1 _ u rfl hu)
  | i+2=>simp at hp
 | Vm r args' hl hr h=>
  have ha:=uX R hl hargs
  refine⟨h.1,(h.2 w blk vs (λ_=>True) ⟨R.jM,λ_ _=>trivial⟩ (uW _ _ _ _) ⟨ha.1,λi p v a b=>.aF ((ha.2 i p v a b).nT λ_ _ _=>⟨trivial,dO _ _⟩)⟩).mono λe w' ⟨v,aj,h1,h2,h3,h4,h5⟩=>?_⟩
  exact⟨v,blk,h1,R.grew (jD h4 h5),SV hr h3⟩
theorem Qw{f:FuncId}{args:List PV}{objs ai:List Obj}{r:PV}{t:Nat}(h:kJ P f args objs r ai t):AP objs ai:=by
 cases h with
 | pure _ _ _=>exact .same rfl
 | Vm _ _ _ _ _=>exact .same rfl
 | used _ _ h=>exact .same h.2.1
 | J8 ver o _ _ hnew _=>
  refine .of λi x hx j p hp=>?_
  have:=hnew x (List.mem_of_getElem? hx) p (List.mem_of_getElem? hp)
  cases p<;>first | rfl | (simp[PV.atom]at this)
 | O9 ver q o _ _ hnew _ _=>
  refine .of λi x hx j p hp=>?_
  have:=hnew x (List.mem_of_getElem? hx) p (List.mem_of_getElem? hp)
  cases p<;>first | rfl | (simp[PV.atom]at this)
 | made r o _ hnew _=>
  refine .of λi x hx j p hp=>?_
  have:=hnew o (by simp) x (List.mem_of_getElem? hx) p (List.mem_of_getElem? hp)
  cases p<;>first | rfl | (simp[PV.ref]at this)
theorem F_{own:Bool}{o:Oper}{K:KT}{next:Act→World→Prop}{Q:Exit→Act→World→Prop}(l:Option Nat)(hD:∀t,eP P t (D t))(R:Rel base ah w0 S blk a w)
  (h:EG P D own S.ev S.objs o.op K)
  (hn:∀r ai t v w' aj,K r ai t→Rel base ah w0 ⟨S.tmps,ai⟩ aj a w'→aL w' (aV base ai aj) ai aj r v→AP S.objs ai→next (a.put o.dst v) w') :
  o.wpIn (x9 l) 0 P a w next Q:=by
 have fin:(∀c,o.op≠.defer c)→Out P base ah w0 S o a w K→o.wpIn (x9 l) 0 P a w next Q:=by
  rintro hd ⟨v,w',r,ai,t,aj,h1,h2,h3,h4,h5⟩
  exact AQ hd h1 (hn r ai t v w' aj h2 h3 h4 h5)
 unfold EG at h
 split at h<;>rename_i ho
 ·exact fin (by rw[ho];simp) (J2 (.inl ho) R h)
 ·exact fin (by rw[ho];simp) (J2 (.inr ho) R h)
 ·exact fin (by rw[ho];simp) (SK ho R h)
 ·exact fin (by rw[ho];simp) (Qk ho hD R h)
 ·exact fin (by rw[ho];simp) (Vd ho hD R h)
 ·exact fin (by rw[ho];simp) (Qq ho hD R h)
 ·exact fin (by rw[ho];simp) (CJ ho hD R h)
 ·exact fin (by rw[ho];simp) (SI ho hD R h)
 ·exact fin (by rw[ho];simp) (Ql ho hD R h)
 ·exact fin (by rw[ho];simp) (HV ho R h)
 ·exact fin (by rw[ho];simp) (Vh ho hD R h)
 ·exact fin (by rw[ho];simp) (X4 ho R h)
 ·exact fin (by rw[ho];simp) (SL ho hD R h)
 ·exact fin (by rw[ho];simp) (HY ho R h)
 ·exact fin (by rw[ho];simp) (EL ho hD R h)
 ·exact fin (by rw[ho];simp) (Qp ho hD R h)
 ·exact fin (by rw[ho];simp) (EJ ho hD R h)
 ·exact fin (by rw[ho];simp) (Qh ho hD R h)
 ·exact fin (by rw[ho];simp) (EK ho hD R h)
 ·exact fin (by rw[ho];simp) (Qj ho hD R h)
 ·exact fin (by rw[ho];simp) (J3 ho R h)
 ·rename_i b args argTypes
  refine fin (by rw[ho];simp) ?_
  unfold dH at h
  split at h
  ·rename_i t x e1 e2
   have WU:argTypes=#[t]:=by apply Array.ext';simpa using e1
   have e2':args=#[x]:=by apply Array.ext';simpa using e2
   subst WU;subst e2'
   exact Vb ho hD R h
  ·rename_i t u s x e1 e2
   have WU:argTypes=#[t,u]:=by apply Array.ext';simpa using e1
   have e2':args=#[s,x]:=by apply Array.ext';simpa using e2
   subst WU;subst e2'
   exact MS ho hD R h
  ·exact CO (isMax:=true) ho R h
  ·exact CO (isMax:=false) ho R h
  ·exact h.elim
 ·rename_i f args argTypes
  unfold CS at h
  split at h
  ·rename_i g first cap e
   obtain⟨r,ai,t,hc,hK⟩:=h
   have hf:=R.ev f
   rw[e]at hf
   obtain⟨va,vc,hv,r1,r2⟩:=hf
   have hargs:a_ (aL w (aV base S.objs blk) S.objs blk) (first++args.toList.map S.ev++cap) (va++args.toList.map a.eval++vc):=by
    have app:∀{ps qs:List PV}{us ws:List Value}{Rr:PV→Value→Prop},a_ Rr ps us→a_ Rr qs ws→a_ Rr (ps++qs) (us++ws):=by
     intro ps qs us ws Rr h1 h2
     refine⟨by simp[h1.1,h2.1],λi p v hp hv=>?_⟩
     rw[List.getElem?_append]at hp hv
     by_cases hi:i<ps.length
     ·rw[if_pos hi]at hp;rw[if_pos (by rw[←h1.1];exact hi)]at hv;exact h1.2 _ _ _ hp hv
     ·rw[if_neg hi]at hp;rw[if_neg (by rw[←h1.1];exact hi)]at hv;rw[←h1.1]at hv;exact h2.2 _ _ _ hp hv
    exact app (app (r1.mono λ_ _ h=>.dG h) (p9 _ λx _=>R.ev x)) (r2.mono λ_ _ h=>.dG h)
   obtain⟨⟨fn,hfn,hname,hbody⟩,M4⟩:=M0 R hc hargs
   refine⟨λ_ _=>trivial,?_⟩
   rw[Oper.semAt_eq _ _ _ (by rw[ho];simp)]
   have hrun:(execOp a.eval o).run P w=.ok (.enter g ⟨va++args.toList.map a.eval++vc⟩) w:=by
    have e1:(Array.mk va)++args.map a.eval++(Array.mk vc)=Array.mk (va++args.toList.map a.eval++vc):=by apply Array.ext';simp
    simp only[execOp,ho,resolve,hv,Deferred.ofValue,Sem.run_bind,Sem.run_pure,Result.andThen_ok,invoke,callFunc,run_program,hfn,hname,hbody,Bool.false_eq_true,if_false]
    rw[e1]
   rw[hrun]
   refine⟨(λh=>by cases h),?_⟩
   refine CallsIn.mono (qa M4 l) λe w' ⟨v,aj,h1,h2,h3⟩=>?_
   subst h1
   exact hn r ai t v w' aj hK h2 h3 (Qw hc)
  ·exact h.elim
 ·exact fin (by rw[ho];simp) (J6 ho R h)
 ·exact fin (by rw[ho];simp) (MX ho hD R h)
 ·exact fin (by rw[ho];simp) (wo (.inl ho) hD R h)
 ·exact fin (by rw[ho];simp) (wo (.inr ho) hD R h)
 ·exact fin (by rw[ho];simp) (Qs ho hD R h)
 ·exact fin (by rw[ho];simp) (Qv ho R h)
 ·exact h.elim
theorem yh{own:Bool}{o:Oper}{K:KT}{next:Act→World→Prop}{Q:Exit→Act→World→Prop}(l:Option Nat)(hD:∀t,eP P t (D t))(R:Rel base ah w0 S blk a w)
  (h:EG P D own S.ev S.objs o.op K)
  (hn:∀r ai t v w' aj,K r ai t→Rel base ah w0 ⟨S.tmps,ai⟩ aj a w'→aL w' (aV base ai aj) ai aj r v→next (a.put o.dst v) w') :
  o.wpIn (x9 l) 0 P a w next Q:=F_ l hD R h λr ai t v w' aj h1 h2 h3 _=>hn r ai t v w' aj h1 h2 h3
end
end Lp
