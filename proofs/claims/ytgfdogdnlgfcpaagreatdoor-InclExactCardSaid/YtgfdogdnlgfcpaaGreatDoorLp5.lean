/-
  Part 5 of what the statement rests on: LpHN1, LpHN2, LpHN3, LpD7, LpD8, LpE1, LpD5, LpV10, LpD6, LpD9, LpD10, LpD11, LpD12, LpE2, LpE3, LpC9, LpY4, LpTN, LpEqY, LpTB1, LpC10, LpTB1p, LpTB2, LpTB3, LpE4, LpE5, LpE6, LpTC1, LpTR, LpE7, LpE8, LpTC2, LpTB4, LpTD1, LpTF0, LpTF2, LpTE1, LpTE2, LpTE3, LpTF3, LpTF4, LpTF5, LpE9. No condition.
-/
import Derived.Test.YtgfdogdnlgfcpaaGreatDoorLp4
import Derived.Laws.IdiomStrings
import Derived.WalkKit
import Derived.Sort.Row

set_option linter.all false
set_option maxHeartbeats 8000000
set_option maxRecDepth 100000
namespace Lp
open Go
open List (drop_eq_nil_of_le)
def ve:List UInt8→List UInt8→Int
 | [],[]=>0
 | [],y::ys=>if 48<y.toNat then -1 else ve [] ys
 | x::xs,[]=>if 48<x.toNat then 1 else ve xs []
 | x::xs,y::ys=>if x.toNat<y.toNat then -1 else if y.toNat<x.toNat then 1 else ve xs ys
theorem Sy{s:List UInt8}(h:gT s=true):∀c∈s,48≤c.toNat∧c.toNat≤57:=by
 intro c hc
 obtain⟨i,hi,rfl⟩:=List.getElem_of_mem hc
 exact rO h (List.getElem?_eq_getElem hi)
theorem O3(n:Nd)(i:Nat):A7 n ((n.s.length:Int)+n.e-1-i)=match n.s[i]? with | some c=>(c.toNat:Int)-48 | none=>0:=by
 have e:(n.s.length:Int)-1-((n.s.length:Int)+n.e-1-i-n.e)=i:=by omega
 simp only[A7,e]
 rw[if_neg (by omega),Int.toNat_natCast]
 try rfl
theorem Sz(a b:Nd)(ha:gT a.s=true)(hb:gT b.s=true)(ht:(a.s.length:Int)+a.e=b.s.length+b.e):∀(k i:Nat),a.s.length≤i+k→b.s.length≤i+k→nU a b k ((a.s.length:Int)+a.e-1-i)=ve (a.s.drop i) (b.s.drop i)
 | 0,i,h1,h2=>by
  rw[drop_eq_nil_of_le (by omega),drop_eq_nil_of_le (by omega)]
  simp only[nU,ve]
 | k+1,i,h1,h2=>by
  have ih:=Sz a b ha hb ht k (i+1) (by omega) (by omega)
  have e:(a.s.length:Int)+a.e-1-((i+1:Nat):Int)=(a.s.length:Int)+a.e-1-i-1:=by omega
  rw[e]at ih
  have fa:=O3 a i
  have fb:=O3 b i
  rw[←ht]at fb
  simp only[nU,ih]
  rcases Nat.lt_or_ge i a.s.length with la | la<;>rcases Nat.lt_or_ge i b.s.length with lb | lb
  ·rw[List.getElem?_eq_getElem la]at fa
   rw[List.getElem?_eq_getElem lb]at fb
   simp only at fa fb
   rw[List.drop_eq_getElem_cons la,List.drop_eq_getElem_cons lb,ve,fa,fb]
   by_cases c1:a.s[i].toNat<b.s[i].toNat
   ·rw[if_pos (by omega),if_pos c1]
   ·rw[if_neg (by omega),if_neg c1]
    by_cases c2:b.s[i].toNat<a.s[i].toNat
    ·rw[if_pos (by omega),if_pos c2]
    ·rw[if_neg (by omega),if_neg c2]
  ·rw[List.getElem?_eq_getElem la]at fa
   rw[List.getElem?_eq_none lb]at fb
   simp only at fa fb
   have:=rO ha (List.getElem?_eq_getElem la)
   rw[List.drop_eq_getElem_cons la,drop_eq_nil_of_le lb,drop_eq_nil_of_le (by omega:b.s.length≤i+1),ve,fa,fb]
   by_cases c1:48<a.s[i].toNat
   ·rw[if_neg (by omega),if_pos (by omega),if_pos c1]
   ·rw[if_neg (by omega),if_neg (by omega),if_neg c1]
  ·rw[List.getElem?_eq_none la]at fa
   rw[List.getElem?_eq_getElem lb]at fb
   simp only at fa fb
   have:=rO hb (List.getElem?_eq_getElem lb)
   rw[List.drop_eq_getElem_cons lb,drop_eq_nil_of_le la,drop_eq_nil_of_le (by omega:a.s.length≤i+1),ve,fa,fb]
   by_cases c1:48<b.s[i].toNat
   ·rw[if_pos (by omega),if_pos c1]
   ·rw[if_neg (by omega),if_neg (by omega),if_neg c1]
  ·rw[List.getElem?_eq_none la]at fa
   rw[List.getElem?_eq_none lb]at fb
   simp only at fa fb
   rw[drop_eq_nil_of_le la,drop_eq_nil_of_le lb,drop_eq_nil_of_le (by omega:a.s.length≤i+1),drop_eq_nil_of_le (by omega:b.s.length≤i+1),fa,fb]
   simp
theorem JV:∀ys:List UInt8,(∀c∈ys,48≤c.toNat)→ys≠[]→ys.getLast?≠some 48→ve [] ys=-1
 | [],_,h,_=>absurd rfl h
 | [y],hf,_,hl=>by
  have h1:=hf y (List.mem_cons_self ..)
  have h2:y.toNat≠48:=λh=>hl (by rw[List.getLast?_singleton];congr 1;exact UInt8.toNat_inj.1 (by simpa using h))
  rw[ve,if_pos (by omega)]
 | y::z::ys,hf,_,hl=>by
  rw[ve]
  split
  ·rfl
  ·exact JV (z::ys) (λc hc=>hf c (List.mem_cons_of_mem _ hc)) (by simp) (by rwa[List.getLast?_cons_cons]at hl)
theorem zP:∀xs ys:List UInt8,ve ys xs=-ve xs ys
 | [],[]=>by simp[ve]
 | [],y::ys=>by
  simp only[ve];split
  ·rfl
  ·exact zP [] ys
 | x::xs,[]=>by
  simp only[ve];split
  ·rfl
  ·exact zP xs []
 | x::xs,y::ys=>by
  simp only[ve]
  have:=zP xs ys
  repeat' split
  all_goals omega
theorem SA:∀xs ys:List UInt8,(∀c∈xs,48≤c.toNat)→(∀c∈ys,48≤c.toNat)→xs.getLast?≠some 48→ys.getLast?≠some 48→ve xs ys=ko xs ys
 | [],[],_,_,_,_=>by simp[ve,ko,Op.bytesLess]
 | [],y::ys,_,hb,_,lb=>by rw[JV (y::ys) hb (by simp) lb];rfl
 | x::xs,[],ha,_,la,_=>by rw[zP,JV (x::xs) ha (by simp) la];rfl
 | x::xs,y::ys,ha,hb,la,lb=>by
  have hla:xs.getLast?≠some 48:=by
   cases xs with
   | nil=>simp
   | cons z zs=>rwa[List.getLast?_cons_cons]at la
  have hlb:ys.getLast?≠some 48:=by
   cases ys with
   | nil=>simp
   | cons z zs=>rwa[List.getLast?_cons_cons]at lb
  have ih:=SA xs ys (λc hc=>ha c (List.mem_cons_of_mem _ hc)) (λc hc=>hb c (List.mem_cons_of_mem _ hc)) hla hlb
  rw[ve]
  by_cases h1:x.toNat<y.toNat
  ·have:x<y:=UInt8.lt_iff_toNat_lt.2 h1
   rw[if_pos h1]
   simp[ko,Op.bytesLess,this]
  ·rw[if_neg h1]
   have hn:¬ x<y:=λh=>h1 (UInt8.lt_iff_toNat_lt.1 h)
   by_cases h2:y.toNat<x.toNat
   ·have hxy:x≠y:=λh=>by rw[h]at h2;omega
    rw[if_pos h2]
    simp[ko,Op.bytesLess,hn,hxy]
   ·have hxy:x=y:=UInt8.toNat_inj.1 (by omega)
    subst hxy
    rw[if_neg h2,ih]
    simp[ko,Op.bytesLess]
theorem ja(n:Nd)(p:Int)(h:(n.s.length:Int)+n.e≤p):A7 n p=0:=by
 simp only[A7]
 rw[if_pos (by omega)]
theorem zQ(n:Nd)(hf:gT n.s=true)(hs:n.s≠[])(hh:n.s.head?≠some 48):0<A7 n ((n.s.length:Int)+n.e-1):=by
 have h:=O3 n 0
 cases hns:n.s with
 | nil=>exact absurd hns hs
 | cons c t=>
  have h0:n.s[0]?=some c:=by rw[hns];rfl
  rw[h0]at h
  simp only[Int.natCast_zero,Int.sub_zero]at h
  have hc:=rO hf h0
  have hne:c.toNat≠48:=λhe=>hh (by rw[hns,List.head?_cons];congr 1;exact UInt8.toNat_inj.1 (by simpa using he))
  rw[←hns,h]
  omega
theorem XP(a b:Nd)(k:Nat)(p:Int)(hk:2≤k)(h0:A7 a p=A7 b p)(h1:A7 a (p-1)<A7 b (p-1)):nU a b k p=-1:=by
 obtain⟨k,rfl⟩:∃q,k=q+2:=⟨k-2,by omega⟩
 rw[nU,if_neg (by omega),if_neg (by omega),nU,if_pos h1]
theorem XQ(a b:Nd)(k:Nat)(p:Int)(hk:2≤k)(h0:A7 a p=A7 b p)(h1:A7 b (p-1)<A7 a (p-1)):nU a b k p=1:=by
 obtain⟨k,rfl⟩:∃q,k=q+2:=⟨k-2,by omega⟩
 rw[nU,if_neg (by omega),if_neg (by omega),nU,if_neg (by omega),if_pos h1]
theorem Ni(a b:Nd)(h:∀p,A7 a p=A7 b p):∀(k:Nat) (p:Int),nU a b k p=0
 | 0,_=>rfl
 | k+1,p=>by
  have:=h p
  rw[nU,if_neg (by omega),if_neg (by omega)]
  exact Ni a b h k (p-1)
end Lp
namespace Lp
open Go
theorem FL(a b:Nd)(t:Int)(h:∀q,t≤q→A7 a q=A7 b q)(k:Nat):∀d:Nat,nU a b (k+d) (t+d)=nU a b k t
 | 0=>by simp
 | d+1=>by
  have:=h (t+((d+1:Nat):Int)) (by omega)
  rw[show k+(d+1)=(k+d)+1 by omega,nU,if_neg (by omega),if_neg (by omega),show t+((d+1:Nat):Int)-1=t+d by omega]
  exact FL a b t h k d
theorem ZH(a b:Nd)(ha:tN a=true)(hb:tN b=true):nU a b (lY a b-kV a b+1).toNat (lY a b)=qh a b:=by
 have A:=(pR a).1 ha
 have B:=(pR b).1 hb
 have hl:∀x:Nd,x.s≠[]→0<x.s.length:=λx h=>List.length_pos_iff.2 h
 have zero:∀n:Nd,n.s=[]→∀p,A7 n p=0:=by
  intro n hn p
  simp only[A7,hn]
  split
  ·rfl
  ·simp
 by_cases sa:a.s=[]
 ·have ea:a.e=0:=by have:=A.2.2.2.2.2.2;rw[if_pos sa]at this;exact this.2
  by_cases sb:b.s=[]
  ·rw[Ni a b (λp=>by rw[zero a sa,zero b sb]),qh,if_pos (.inl sa),sa,sb];rfl
  ·have hb2:=B.2.2.2.2.2.2
   rw[if_neg sb]at hb2
   have hlb:=hl b sb
   have first:=zQ b B.2.1 sb hb2.1
   rw[qh,if_pos (.inl sa),sa,vL,if_pos (by simp;omega)]
   have low:kV a b≤b.e:=by unfold kV;split<;>omega
   have htop:(b.s.length:Int)+b.e≤lY a b:=by unfold lY;split<;>omega
   have hsk:=FL a b ((b.s.length:Int)+b.e) (λq hq=>by rw[zero a sa,ja b q hq]) ((b.s.length:Int)+b.e-kV a b+1).toNat (lY a b-(b.s.length+b.e)).toNat
   rw[show ((b.s.length:Int)+b.e-kV a b+1).toNat+(lY a b-(b.s.length+b.e)).toNat=(lY a b-kV a b+1).toNat by omega,show ((b.s.length:Int)+b.e)+((lY a b-(b.s.length+b.e)).toNat:Int)=lY a b by omega]at hsk
   rw[hsk]
   refine XP a b _ _ (by omega) ?_ ?_
   ·rw[zero a sa,ja b _ (Int.le_refl _)]
   ·rw[zero a sa];exact first
 by_cases sb:b.s=[]
 ·have eb:b.e=0:=by have:=B.2.2.2.2.2.2;rw[if_pos sb]at this;exact this.2
  have ha2:=A.2.2.2.2.2.2
  rw[if_neg sa]at ha2
  have hla:=hl a sa
  have first:=zQ a A.2.1 sa ha2.1
  rw[qh,if_pos (.inr sb),sb,vL,if_neg (by simp),if_pos (by simp;omega)]
  have low:kV a b≤a.e:=by unfold kV;split<;>omega
  have htop:(a.s.length:Int)+a.e≤lY a b:=by unfold lY;split<;>omega
  have hsk:=FL a b ((a.s.length:Int)+a.e) (λq hq=>by rw[zero b sb,ja a q hq]) ((a.s.length:Int)+a.e-kV a b+1).toNat (lY a b-(a.s.length+a.e)).toNat
  rw[show ((a.s.length:Int)+a.e-kV a b+1).toNat+(lY a b-(a.s.length+a.e)).toNat=(lY a b-kV a b+1).toNat by omega,show ((a.s.length:Int)+a.e)+((lY a b-(a.s.length+a.e)).toNat:Int)=lY a b by omega]at hsk
  rw[hsk]
  refine XQ a b _ _ (by omega) ?_ ?_
  ·rw[zero b sb,ja a _ (Int.le_refl _)]
  ·rw[zero b sb];exact first
 ·have ha2:=A.2.2.2.2.2.2
  have hb2:=B.2.2.2.2.2.2
  rw[if_neg sa]at ha2
  rw[if_neg sb]at hb2
  have hla:=hl a sa
  have hlb:=hl b sb
  have fa:=zQ a A.2.1 sa ha2.1
  have fb:=zQ b B.2.1 sb hb2.1
  rw[qh,if_neg (by simp[sa,sb])]
  have low:kV a b≤a.e∧kV a b≤b.e:=by unfold kV;split<;>omega
  by_cases ht:(a.s.length:Int)+a.e=b.s.length+b.e
  ·rw[if_pos ((qJ.zero _ _ trivial trivial).2 ht)]
   have htop:lY a b=a.s.length+a.e:=by unfold lY;split<;>omega
   rw[htop]
   obtain⟨k,hk⟩:∃k,((a.s.length:Int)+a.e-kV a b+1).toNat=k+1:=⟨((a.s.length:Int)+a.e-kV a b).toNat,by omega⟩
   rw[hk,nU,ja a _ (Int.le_refl _),ja b _ (by omega),if_neg (by omega),if_neg (by omega)]
   have:=Sz a b A.2.1 B.2.1 ht k 0 (by omega) (by omega)
   simp only[Int.natCast_zero,Int.sub_zero,List.drop_zero]at this
   rw[this]
   exact SA _ _ (λc hc=>(Sy A.2.1 c hc).1) (λc hc=>(Sy B.2.1 c hc).1) ha2.2 hb2.2
  ·rw[if_neg (λh=>ht ((qJ.zero _ _ trivial trivial).1 h))]
   rcases Int.lt_or_gt_of_ne ht with hlt | hgt
   ·have htop:lY a b=b.s.length+b.e:=by unfold lY;split<;>omega
    rw[htop,vL,if_pos hlt]
    refine XP a b _ _ (by omega) ?_ ?_
    ·rw[ja a _ (by omega),ja b _ (Int.le_refl _)]
    ·rw[ja a _ (by omega)];exact fb
   ·have htop:lY a b=a.s.length+a.e:=by unfold lY;split<;>omega
    rw[htop,vL,if_neg (by omega),if_pos hgt]
    refine XQ a b _ _ (by omega) ?_ ?_
    ·rw[ja b _ (by omega),ja a _ (Int.le_refl _)]
    ·rw[ja b _ (by omega)];exact fa
theorem adJ(a b:Nd)(ha:tN a=true)(hb:tN b=true):jM a b=Yd a b:=by
 have h:=ZH a b ha hb
 have h2:=Ur a b
 simp only[jM,h]
 cases hx:a.neg<;>cases hy:b.neg<;>simp[Yd,hx,hy,h2]
end Lp
namespace Lp
open Go
theorem SB:∀(f:Nat) (a b:Vl),Rt a→Rt b→iH jM f a b=uz f a b
 | 0,a,b,_,_=>by simp[iH]
 | f+1,[],b,ha,_=>absurd rfl ha.one.ne
 | f+1,n::r,[],_,hb=>absurd rfl hb.one.ne
 | f+1,n::r,m::q,ha,hb=>by
  have hp:=xP ha
  have hq:=xP hb
  have pn:=ha.parts.1
  have pm:=hb.parts.1
  have e:fG (iH jM f) (partsOf n r) (partsOf m q)=fG (uz f) (partsOf n r) (partsOf m q):=
   FZ _ _ λx hx y hy=>SB f x y (hp x hx).2 (hq y hy).2
  by_cases hk:n.kind=m.kind
  ·by_cases h3:n.kind=3
   ·have:=adJ n m (rP pn h3) (rP pm (hk ▸ h3))
    simp only[uz,iH,this,e]
   ·simp only[uz,iH,if_neg h3,e]
  ·simp only[uz,iH,ne_eq,hk,not_false_eq_true,if_true]
end Lp
namespace Lp
open Go Go.Proofs
open Int (reduceEq)
def DV(m e:Int):Bool:=decide (-1000≤e) && decide (e≤1000) && decide (m+e≤1000)
theorem O4(m e:Int)(hm:0≤m∧m≤1000000):ai Tryz.prog 134 [.int .i64 m,.int .i64 e] [] (.bool (DV m e)) []:=by
 refine K4.aX (T:=aR Tryz.prog []) 0 hD (aj ah) aV (by decide) λQ hQ=>?_
 rcases tf (-1000≤e) with h1 | h1
 rotate_left 1
 ·have hr:DV m e=false:=by have:¬ (-1000≤e):=λh=>by rw[h1]at h;exact h
                           simp[DV,this]
  (conv=>arg 4;cbv);simp (maxSteps:=400000) only[↓aS,aT,BEq.rfl,seval,hQ,h1,hr]
 rcases tf (e≤1000) with h2 | h2
 rotate_left 1
 ·have hr:DV m e=false:=by have:¬ (e≤1000):=λh=>by rw[h2]at h;exact h
                           simp[DV,this]
  (conv=>arg 4;cbv);simp (maxSteps:=400000) only[↓aS,aT,BEq.rfl,seval,hQ,h1,h2,hr]
 have h1':=of_eq_true h1
 have h2':=of_eq_true h2
 have hr:DV m e=decide (m+e≤1000):=by simp[DV,h1',h2']
 (conv=>arg 4;cbv);simp (maxSteps:=400000) only[↓aS,aT,BEq.rfl,seval,hQ,h1,h2,hr]
 exact⟨by omega,by omega⟩
def jw:dD:=λargs objs K=>match args with
 | [.int .i64 m,.int .i64 e]=>(0≤m∧m≤1000000)∧K (.bool (DV m e)) objs 0
 | _=>False
theorem A9:aC Tryz.prog 134 (jw):=by
 intro args objs K h
 unfold jw at h
 split at h
 ·rename_i m e
  obtain⟨h1,hk⟩:=h
  exact⟨_,_,_,.pure _ rfl (O4 m e h1),hk⟩
 ·exact h.elim
theorem JW(s:List UInt8)(hs:s.length≤4611686018427387904):ai Tryz.prog 131 [.str s] [] (.bool (gT s)) []:=by
 refine G_.aX (T:=aR Tryz.prog [(154,wz)]) 0 hD (aj (af Ld ah)) aV (by decide) λQ hQ=>?_
 have hf:=Vg s
 (conv=>arg 4;cbv);simp (maxSteps:=400000) only[↓aS,aT,BEq.rfl,seval,hQ,↓wz]
 refine⟨hs,?_⟩
 rw[Bool.eq_iff_iff,←hf,decide_eq_true_iff]
 constructor
 ·intro h;rw[h]
 ·intro h
  generalize Lib.trimF nk ⟨⟨s⟩⟩=t at h
  obtain⟨⟨t⟩⟩:=t
  have h':t=[]:=h
  rw[h']
def dL:dD:=λargs objs K=>match args with
 | [.str s]=>(s.length≤4611686018427387904)∧K (.bool (gT s)) objs 0
 | _=>False
theorem xu:aC Tryz.prog 131 (dL):=by
 intro args objs K h
 unfold dL at h
 split at h
 ·rename_i s
  obtain⟨h1,hk⟩:=h
  exact⟨_,_,_,.pure _ rfl (JW s h1),hk⟩
 ·exact h.elim
theorem ZI(n:Nd)(hk:n.kind=3)(hn:n.name=[])(hs:n.s.length≤4611686018427387904):ai Tryz.prog 168 [aB n] [] (.bool (tN n)) []:=by
 refine Ro.aX (T:=aR Tryz.prog [(134,jw),(131,dL),(185,Dy)]) 0 hD (aj (af A9 (af xu (af RU ah)))) aV (by decide) λQ hQ=>?_
 (conv=>arg 4;cbv);simp (maxSteps:=400000) only[↓aS,aT,BEq.rfl,seval,hQ]
 refine aN _ (Weak.freeze 1 0 (Nat.le_refl _) _) ?_
 have key:=pR n
 have hpw:∀b,DV n.s.length n.e=b→(b=true↔-1000≤n.e∧n.e≤1000∧n.s.length+n.e≤1000):=λb hb=>by
  rw[←hb];simp[DV,and_assoc]
 cases hp:DV n.s.length n.e
 ·have hr:tN n=false:=jL λh=>by
    have g:=(hpw _ hp).2 ⟨(key.1 h).2.2.2.1,(key.1 h).2.2.2.2.1,(key.1 h).2.2.2.2.2.1⟩
    cases g
  simp (maxSteps:=400000) only[↓aS,aT,BEq.rfl,seval,hQ,jT,↓jw,hk,hn,reduceEq,hp,hr]
  refine λh0 h1=>⟨by omega,by omega⟩
 have ab5:=(hpw _ hp).1 rfl
 cases hf:gT n.s
 ·have hr:tN n=false:=jL λh=>by have:=(key.1 h).2.1;rw[hf]at this;cases this
  simp (maxSteps:=400000) only[↓aS,aT,BEq.rfl,seval,hQ,jT,↓jw,↓dL,hk,hn,reduceEq,hp,hf,hr]
  refine λh0 h1=>⟨⟨by omega,by omega⟩,hs⟩
 by_cases hz:n.s=[]
 ·rw[if_pos hz]at key
  have hf0:gT []=true:=rfl
  rw[hz]at hp key
  have hp0:DV 0 n.e=true:=hp
  simp (maxSteps:=400000) only[↓aS,aT,BEq.rfl,seval,hQ,jT,↓jw,↓dL,hk,hn,reduceEq,hp0,hf0,hz]
  refine⟨λh0=>⟨λhng=>?_,λhng=>?_⟩,λh0=>jL λhb=>h0 (key.1 hb).1⟩
  ·exact jL λhb=>by have:=(key.1 hb).2.2.2.2.2.2.1;rw[hng]at this;cases this
  ·rw[Bool.eq_iff_iff,decide_eq_true_iff,key]
   refine⟨λh=>h.2.2.2.2.2.2.2,λh=>⟨h0,rfl,by simp,ab5.1,ab5.2.1,by simp;omega,by simpa using hng,h⟩⟩
 ·rw[if_neg hz]at key
  have htr:=Vh n.s 48
  have hz':(n.s=[])=False:=eq_false hz
  simp (maxSteps:=400000) only[↓aS,aT,BEq.rfl,seval,hQ,jT,↓jw,↓dL,↓Dy,hk,hn,reduceEq,hp,hf,hz']
  refine⟨λh0=>⟨λh=>jL λhb=>?_,λh1=>⟨⟨by omega,by omega⟩,hs,hs,?_⟩⟩,λh0=>jL λhb=>h0 (key.1 hb).1⟩
  ·have:=key.1 hb;omega
  ·rw[Bool.eq_iff_iff,decide_eq_true_iff,key,htr]
   exact⟨λh=>h.2.2.2.2.2.2,λh=>⟨h0,hf,by omega,ab5.1,ab5.2.1,ab5.2.2,h⟩⟩
def nV:dD:=λargs objs K=>match args with
 | [a0]=>dZ aB a0 (HK.mk:HK λn=>(n.kind=3)∧(n.name=[])∧(n.s.length≤4611686018427387904)∧K (.bool (tN n)) objs 0)
 | _=>False
theorem VF:aC Tryz.prog 168 (nV):=by
 intro args objs K h
 unfold nV at h
 split at h
 ·rename_i a0
  obtain⟨n,rfl,h1,h2,h3,hk⟩:=h
  exact⟨_,_,_,.pure _ rfl (ZI n h1 h2 h3),hk⟩
 ·exact h.elim
theorem O5(n:Nd)(hl:n.s.length≤4611686018427387904):ai Tryz.prog 141 [aB n] [] (.bool (bR n)) []:=by
 refine K3.aX (T:=aR Tryz.prog [(142,fB),(168,nV)]) 0 hD (aj (af Dx (af VF ah))) aV (by decide) λQ hQ=>?_
 (conv=>arg 4;cbv);simp (maxSteps:=400000) only[↓aS,aT,BEq.rfl,seval,hQ,nmP,ahO]
 refine aN _ (Weak.freeze 1 0 (Nat.le_refl _) _) ?_
 have hn0:∀h,eZ 1 0 [⟨27,6,[aB { kind:=n.kind,many:=n.many,name:=[],s:=n.s,neg:=n.neg,e:=n.e }],true,1⟩] (.bP 0 1 0 0)=h→.addr (aB ⟨n.kind,n.many,[],n.s,n.neg,n.e⟩)=h:=λ_ h=>h
 have h8:n.kind=0∨n.kind=1∨n.kind=2∨n.kind=3∨n.kind=4∨n.kind=5∨n.kind=6∨(n.kind≠0∧n.kind≠1∧n.kind≠2∧n.kind≠3∧n.kind≠4∧n.kind≠5∧n.kind≠6):=by omega
 rcases h8 with hk | hk | hk | hk | hk | hk | hk | ⟨k0,k1,k2,k3,k4,k5,k6⟩
 ·simp (maxSteps:=400000) only[↓aS,aT,BEq.rfl,seval,hQ,jT,↓fB,↓nV,hk,reduceEq]
  rw[Bool.eq_iff_iff]
  simp[bR,hk,and_assoc]
 ·simp (maxSteps:=400000) only[↓aS,aT,BEq.rfl,seval,hQ,jT,↓fB,↓nV,hk,reduceEq]
  rw[Bool.eq_iff_iff]
  simp[bR,hk,and_assoc]
 ·simp (maxSteps:=400000) only[↓aS,aT,BEq.rfl,seval,hQ,jT,↓fB,↓nV,hk,reduceEq]
  rw[Bool.eq_iff_iff]
  simp[bR,hk,and_assoc]
 ·simp (maxSteps:=400000) only[↓aS,aT,BEq.rfl,seval,hQ,jT,↓fB,↓nV,hk,reduceEq]
  refine⟨hl,?_⟩
  simp[bR,hk,tN]
 ·simp (maxSteps:=400000) only[↓aS,aT,BEq.rfl,seval,hQ,jT,↓fB,↓nV,hk,reduceEq]
  refine⟨hl,?_⟩
  cases hu:utf n.s
  ·simp[BH,bR,hk,hu]
  ·simp only[ifR]
   rw[Bool.eq_iff_iff]
   simp[bR,hk,hu,and_assoc]
 ·simp (maxSteps:=400000) only[↓aS,aT,BEq.rfl,seval,hQ,jT,↓fB,↓nV,hk,reduceEq]
  refine⟨λhm=>?_,λhm=>?_⟩
  ·rw[Bool.eq_iff_iff]
   simp[bR,hk,hm,and_assoc]
  ·simp[bR,hk,hm]
 ·simp (maxSteps:=400000) only[↓aS,aT,BEq.rfl,seval,hQ,jT,↓fB,↓nV,hk,reduceEq]
  refine⟨λhm=>?_,λhm=>?_⟩
  ·rw[Bool.eq_iff_iff]
   simp[bR,hk,hm,and_assoc]
  ·simp[bR,hk,hm]
 ·simp (maxSteps:=400000) only[↓aS,aT,BEq.rfl,seval,hQ,jT,↓fB,↓nV,k0,k1,k2,k3,k4,k5,k6]
  simp[bR,k0,k1,k2,k3,k4,k5,k6]
def gZ:dD:=λargs objs K=>match args with
 | [a0]=>dZ aB a0 (HK.mk:HK λn=>(n.s.length≤4611686018427387904)∧K (.bool (bR n)) objs 0)
 | _=>False
theorem Li:aC Tryz.prog 141 (gZ):=by
 intro args objs K h
 unfold gZ at h
 split at h
 ·rename_i a0
  obtain⟨n,rfl,h1,hk⟩:=h
  exact⟨_,_,_,.pure _ rfl (O5 n h1),hk⟩
 ·exact h.elim
end Lp
namespace Lp
open Go Go.Proofs
open List (length_reverse map_cons map_map map_nil take_zero)
def jk(o:Cs):PV:=.agg [.int .i64 o.kind,.int .i64 o.left,.bool o.first,.str o.last]
def DW(l:List Cs):PV:=.sl 4 (l.map jk) none
theorem JX:∀a b,jk a=jk b→a=b:=by
 intro a b h
 cases a;cases b
 simp only[jk,PV.agg.injEq,List.cons.injEq,PV.int.injEq,PV.str.injEq,PV.bool.injEq,true_and,and_true]at h
 obtain⟨rfl,rfl,rfl,rfl⟩:=h
 rfl
theorem FM :
  (∀o,(jk o).cells=[.int .i64 o.kind,.int .i64 o.left,.bool o.first,.str o.last])∧(∀o,(jk o).isAgg=true)∧(∀o,(jk o).pure=true)∧(∀d m O o,eZ d m O (jk o)=jk o)∧(∀d m O o,iB d m O (jk o)=jk o)∧type_of% (aW JX):=
 ⟨λ_=>rfl,λ_=>rfl,λ_=>rfl,λ_ _ _ _=>rfl,λ_ _ _ _=>rfl,aW JX⟩
theorem hO:∀l,DW l=.sl 4 (l.map jk) none:=λ_=>rfl
theorem Nj:∀a b,DW a=DW b→a=b:=o5 hO JX
theorem inO:xk jk:=by intro d n o x;cases d<;>rfl
theorem ab6:type_of% FM∧type_of% (uQ hO)∧type_of% (kE hO)∧type_of% (uR hO)∧type_of% (aW Nj)∧type_of% (jv hO inO):=
 ⟨FM,uQ hO,kE hO,uR hO,aW Nj,jv hO inO⟩
def yM(o:Cs):Bool:=decide (0<o.left)
theorem VG(o:Cs):ai Tryz.prog 144 [jk o] [] (.bool (yM o)) []:=by
 unfold yM
 refine K5.aX (T:=aR Tryz.prog []) 0 hD (aj ah) aV (by decide) λQ hQ=>?_
 (conv=>arg 4;cbv);simp (maxSteps:=400000) only[↓aS,aT,BEq.rfl,seval,hQ,jk]
def yN:dD:=λargs objs K=>match args with
 | [a0]=>dZ jk a0 (HK.mk:HK λo=>K (.bool (yM o)) objs 0)
 | _=>False
theorem SC:aC Tryz.prog 144 (yN):=by
 intro args objs K h
 unfold yN at h
 split at h
 ·rename_i a0
  obtain⟨o,rfl,hk⟩:=h
  exact⟨_,_,_,.pure _ rfl (VG o),hk⟩
 ·exact h.elim
def idxOf{α:Type}(p:α→Bool)(l:List α):Int:=match l.findIdx? p with
 | some i=>i
 | none=>-1
theorem idxOf_hit{α:Type}{p:α→Bool}{l:List α}{i:Nat}{x:α}(h:l[i]?=some x)(hx:p x=true)(hb:∀(j:Nat) y,j<i→l[j]?=some y→p y=false):idxOf p l=i:=by
 have:l.findIdx? p=some i:=by
  rw[List.findIdx?_eq_some_iff_getElem]
  obtain⟨hi,he⟩:=List.getElem?_eq_some_iff.1 h
  refine⟨hi,by rw[he];exact hx,λj hj=>?_⟩
  have:=hb j _ hj (List.getElem?_eq_getElem (by omega))
  simp[this]
 simp[idxOf,this]
theorem wE{α:Type}{p:α→Bool}{l:List α}(hb:∀(j:Nat) y,l[j]?=some y→p y=false):idxOf p l=-1:=by
 have:l.findIdx? p=none:=by
  rw[List.findIdx?_eq_none_iff]
  intro x hx
  obtain⟨i,hi⟩:=List.mem_iff_getElem?.1 hx
  exact hb i x hi
 simp[idxOf,this]
theorem zR{α:Type}(p:α→Bool)(l:List α):decide (0≤idxOf p l)=l.any p:=by
 rw[Bool.eq_iff_iff,decide_eq_true_iff]
 cases h:l.findIdx? p with
 | none=>
  rw[List.findIdx?_eq_none_iff]at h
  have:l.any p=false:=by rw[List.any_eq_false];intro x hx;simp[h x hx]
  simp[idxOf,List.findIdx?_eq_none_iff.2 h,this]
 | some i=>
  have h':=h
  rw[List.findIdx?_eq_some_iff_getElem]at h'
  obtain⟨hi,hp,_⟩:=h'
  have:l.any p=true:=List.any_eq_true.2 ⟨_,List.getElem_mem hi,hp⟩
  simp[idxOf,h,this]
theorem O6(l:List Cs)(hl:l.length≤4611686018427387904):ai Tryz.prog 170 [DW l,.fn 144 [] []] [] (.int .i64 (idxOf yM l)) []:=by
 refine kU.aX (T:=aR Tryz.prog [(144,yN)]) 0 hD (aj (af SC ah)) aV (by decide) λQ hQ=>?_
 (conv=>arg 4;cbv);simp (maxSteps:=400000) only[↓aS,aT,BEq.rfl,seval,hQ,ab6]
 refine aF (λm S=>∃i:Nat,i+m=l.length∧(∀(j:Nat) y,j<i→l[j]?=some y→yM y=false)∧S=⟨dG 19 [(0,DW l),(1,.fn 144 [] []),(7,.int .i64 l.length),(8,.int .i64 i)],[]⟩) l.length ⟨0,by omega,λj y h=>absurd h (Nat.not_lt_zero j),?_⟩ ?_
 ·simp only[bN,keepR,Nat.reduceAdd,lJ,Nat.reduceBEq,map_nil]
  rfl
 rintro m S ⟨i,him,hb,rfl⟩
 rcases Nat.lt_or_ge i l.length with h | h
 rotate_left 1
 ·have hlt:((i:Int)<(l.length:Int))=False:=eq_false (by omega)
  have hr:=wE (l:=l) λj y hj=>hb j y (by have:=(List.getElem?_eq_some_iff.1 hj).1;omega) hj
  simp (maxSteps:=400000) only[↓aS,aT,BEq.rfl,seval,hQ,hlt,hr]
 have hlt:((i:Int)<(l.length:Int))=True:=eq_true (by omega)
 have zi:(0≤(i:Int))=True:=eq_true (by omega)
 have hgi:=List.getElem?_eq_getElem h
 generalize l[i]=o at hgi
 cases hp:yM o
 rotate_left 1
 ·have hr:idxOf yM l=i:=idxOf_hit hgi hp hb
  simp (maxSteps:=400000) only[↓aS,aT,BEq.rfl,seval,hQ,hlt,zi,ab6,hgi,↓yN,hp,hr]
 ·simp (maxSteps:=400000) only[↓aS,aT,BEq.rfl,seval,hQ,hlt,zi,ab6,hgi,↓yN,hp]
  refine⟨⟨by omega,by omega⟩,m-1,by omega,i+1,by omega,λj y hj hy=>?_,rfl⟩
  rcases Nat.lt_or_ge j i with g | g
  ·exact hb j y g hy
  ·have:j=i:=by omega
   subst this
   rw[hgi]at hy;cases hy
   exact hp
def wF:dD:=λargs objs K=>match args with
 | [a0,a1]=>dZ DW a0 (HK.mk:HK λl=>a1=(.fn 144 [] [])∧(l.length≤4611686018427387904)∧K (.int .i64 (idxOf yM l)) objs 0)
 | _=>False
theorem Lj:aC Tryz.prog 170 (wF):=by
 intro args objs K h
 unfold wF at h
 split at h
 ·rename_i a0 a1
  obtain⟨l,rfl,rfl,h1,hk⟩:=h
  exact⟨_,_,_,.pure _ rfl (O6 l h1),hk⟩
 ·exact h.elim
theorem O7(l:List Cs)(hl:l.length≤4611686018427387904):ai Tryz.prog 143 [DW l,.fn 144 [] []] [] (.bool (l.any yM)) []:=by
 refine j4.aX (T:=aR Tryz.prog [(170,wF)]) 0 hD (aj (af Lj ah)) aV (by decide) λQ hQ=>?_
 (conv=>arg 4;cbv);simp (maxSteps:=400000) only[↓aS,aT,BEq.rfl,seval,hQ,ab6,↓wF,zR]
 exact hl
def wG:dD:=λargs objs K=>match args with
 | [a0,a1]=>dZ DW a0 (HK.mk:HK λl=>a1=(.fn 144 [] [])∧(l.length≤4611686018427387904)∧K (.bool (l.any yM)) objs 0)
 | _=>False
theorem Ll:aC Tryz.prog 143 (wG):=by
 intro args objs K h
 unfold wG at h
 split at h
 ·rename_i a0 a1
  obtain⟨l,rfl,rfl,h1,hk⟩:=h
  exact⟨_,_,_,.pure _ rfl (O7 l h1),hk⟩
 ·exact h.elim
theorem pU(objs:List Obj)(K:KT) :
  (∀k m,bM D 167 [(0,.int .i64 k),(1,.int .i64 m)] objs K=K (jk ⟨k,m,false,[]⟩) objs 0)∧
  (∀k m b,bM D 167 [(0,.int .i64 k),(1,.int .i64 m),(2,.bool b)] objs K=K (jk ⟨k,m,b,[]⟩) objs 0):=by
 have z:aL (D 167)=jk ⟨0,0,false,[]⟩:=by kernel_rfl
 have a:(D 167).agg=true:=by kernel_rfl
 simp only[bS]at z a
 refine⟨λk m=>?_,λk m b=>?_⟩
 all_goals
  simp[bM,mI,a,z,bS,nD,jk,PV.isAgg,q9,PV.cells,PV.storable,PV.mV,PV.pure]
theorem zOl:(PV.xH (Value.agg { toList:=[Value.int IntKind.i64 0,Value.int IntKind.i64 0,Value.bool false,Value.string { data:={ toList:=[] } }] })).cells.length=4:=rfl
theorem zOs:(PV.xH (Value.agg { toList:=[Value.int IntKind.i64 0,Value.int IntKind.i64 0,Value.bool false,Value.string { data:={ toList:=[] } }] })).cells.all PV.storable=true:=rfl
def SE(s:List Cs)(ver:Nat):Obj:=⟨167,4,s.reverse.map jk,true,ver⟩
theorem BS:(∀(o:Cs) (m:Int),(jk o).putCells 1 [.int .i64 m]=jk { o with left:=m })∧(∀(o:Cs) (b:Bool),(jk o).putCells 2 [.bool b]=jk { o with first:=b })∧(∀(o:Cs) (t:List UInt8),(jk o).putCells 3 [.str t]=jk { o with last:=t }):=⟨λ_ _=>rfl,λ_ _=>rfl,λ_ _=>rfl⟩
theorem JY(d n:Nat)(O:List Obj)(t:TypeId)(sz:Nat)(l:List Cs)(ver:Nat):f_ d n O ⟨t,sz,l.map jk,true,ver⟩=⟨t,sz,l.map jk,true,ver⟩:=by
 have:(l.map jk).map (PV.bL (eZ d n O))=l.map jk:=by
  rw[map_map]
  exact List.map_congr_left λx _=>rfl
 simp only[f_,this]
theorem Lm(v:Vl)(hs:Small v):ai Tryz.prog 127 [aJ v] [] (.bool (dI v)) []:=by
 have hl:=hs.len
 refine Rp.aX (T:=aR Tryz.prog [(141,gZ),(142,fB),(143,wG)]) 1 hD (aj (af Li (af Dx (af Ll ah)))) aV (by decide) λQ hQ=>?_
 (conv=>arg 4;cbv);simp (maxSteps:=400000) only[↓aS,aT,BEq.rfl,seval,hQ,La,Lb,pU,zOl,zOs,FM]
 refine aF (λm S=>∃(s:List Cs) (i ver:Nat),i+m=v.length∧IU v.length s (v.drop i)=dI v∧s.length≤i+1∧(∀o∈s,0≤o.left∧o.left≤1000000)∧S=⟨dG 123 [(0,aJ v),(3,.bO 0 ver),(10,aJ v),(11,.int .i64 v.length),(12,.int .i64 i)],[SE s ver]⟩) v.length
  ⟨[⟨5,1,false,[]⟩],0,1,by omega,Uu v,by simp,by simp,?_⟩ ?_ (hz:=Nat.zero_le _)
 ·simp only[bN,keepR,Nat.reduceAdd,lJ,Nat.reduceBEq,map_nil]
  rfl
 rintro m S ⟨s,i,ver,him,hrun,hsl,hle,rfl⟩
 rcases Nat.lt_or_ge i v.length with h | h
 rotate_left 1
 ·have hlt:((i:Int)<(v.length:Int))=False:=eq_false (by omega)
  have hr:dI v=Bool.not (s.any yM):=by
   rw[←hrun,List.drop_eq_nil_of_le h,IU];rfl
  have hf:eZ 1 0 [⟨167,4,s.reverse.map jk,true,ver⟩] (.bO 0 ver)=DW s.reverse:=by
   simp only[eZ,Nat.not_lt_zero,if_false,gX,List.getElem?_cons_zero,Nat.le_refl,decide_true,Bool.true_and,beq_self_eq_true,if_true]
   rw[map_map]
   rfl
  unfold SE
  simp (maxSteps:=400000) only[↓aS,aT,BEq.rfl,seval,hQ,hlt]
  refine aN _ (Weak.freeze 1 0 (Nat.zero_le _) _) ?_
  rcases Nat.eq_zero_or_pos v.length with h0 | h0
  ·have h0':((0:Int)<(v.length:Int))=False:=eq_false (by omega)
   have hrf:dI v=false:=by
    have:v=[]:=List.length_eq_zero_iff.1 h0
    rw[this];rfl
   simp (maxSteps:=400000) only[↓aS,aT,BEq.rfl,seval,hQ,h0',hrf]
  ·have h0':((0:Int)<(v.length:Int))=True:=eq_true (by omega)
   simp (maxSteps:=400000) only[↓aS,aT,BEq.rfl,seval,hQ,h0',hf,ab6,↓wG]
   exact⟨by rw[length_reverse];omega,by rw[hr,List.any_reverse]⟩
 have hlt:((i:Int)<(v.length:Int))=True:=eq_true (by omega)
 have zi:(0≤(i:Int))=True:=eq_true (by omega)
 have hgi:=List.getElem?_eq_getElem h
 have hdi:=List.drop_eq_getElem_cons h
 have htx:=hs.txt _ (List.getElem_mem h)
 generalize v[i]=n at hgi hdi htx
 simp (maxSteps:=400000) only[↓aS,aT,BEq.rfl,seval,hQ,hlt,zi,hgi,La,Lb,bT,bU]
 rw[hdi]at hrun
 have hll:(n.many≤(v.length:Int))=(n.many≤(v.length:Int)):=rfl
 refine aF (λm' S=>∃(s':List Cs) (Lr:Nat),s'.length=m'∧s'.dropWhile (λo=>o.left==0)=s.dropWhile (λo=>o.left==0)∧s'.length≤i+1∧(∀o∈s',0≤o.left∧o.left≤1000000)∧
  S=⟨dG 123 [(0,aJ v),(3,.bO 0 Lr),(5,.bP 1 1 0 0),(10,aJ v),(11,.int .i64 v.length),(12,.int .i64 i)],[SE s' Lr,⟨27,6,[aB n],true,1⟩]⟩) s.length ⟨s,ver,rfl,rfl,hsl,hle,?_⟩ ?_
 ·simp only[bN,keepR,Nat.reduceAdd,lJ,Nat.reduceBEq,map_nil]
 rintro m' S ⟨s',Lr,hm',hdw,ahS,hle',rfl⟩
 cases s' with
 | nil=>
  have h00:((0:Int)<((0:Nat):Int))=False:=eq_false (by omega)
  have h01:(((0:Nat):Int)=0)=True:=eq_true rfl
  have hr:dI v=false:=by rw[←hrun,IU,←hdw];rfl
  unfold SE
  simp (maxSteps:=400000) only[↓aS,aT,BEq.rfl,seval,hQ,h00,h01,hr,List.reverse_nil]
 | cons o t=>
 have hst:∀w,SE (o::t) w=⟨167,4,t.reverse.map jk++[jk o],true,w⟩:=λw=>by simp[SE]
 have hget:∀x:PV,(t.reverse.map jk++[x])[t.length]?=some x:=λx=>by rw[List.getElem?_append_right (by simp)];simp
 have hset:∀x y:PV,(t.reverse.map jk++[x]).set t.length y=t.reverse.map jk++[y]:=λx y=>by rw[List.set_append_right _ _ (by simp)];simp
 have hpos:((0:Int)<((t.length+1:Nat):Int))=True:=eq_true (by omega)
 have hne0:(((t.length+1:Nat):Int)=0)=False:=eq_false (by omega)
 have t1:(((t.length+1:Nat):Int)-1).toNat=t.length:=by omega
 have z1:(0≤((t.length+1:Nat):Int)-1)=True:=eq_true (by omega)
 have lt1:(((t.length+1:Nat):Int)-1<((t.length+1:Nat):Int))=True:=eq_true (by omega)
 have le1:(((t.length+1:Nat):Int)-1≤((t.length+1:Nat):Int))=True:=eq_true (by omega)
 simp only[List.length_cons]at ahS hm'
 have i1:(-9223372036854775808≤((t.length+1:Nat):Int)-1∧((t.length+1:Nat):Int)-1≤9223372036854775807)=True:=eq_true ⟨by omega,by omega⟩
 have hlo:=hle' o (by simp)
 by_cases h0:o.left=0
 ·have h0':(o.left=0)=True:=eq_true h0
  rw[hst]
  simp (maxSteps:=400000) only[↓aS,aT,BEq.rfl,seval,hQ,hpos,t1,z1,lt1,le1,i1,hget,hset,h0',FM,length_reverse]
  refine⟨m'-1,by omega,t,Lr+1,by omega,?_,by omega,λx hx=>hle' x (List.mem_cons_of_mem _ hx),?_⟩
  ·rw[←hdw];exact (List.dropWhile_cons_of_pos (by simpa using h0)).symm
  ·rw[List.take_left' (by simp)];rfl
 have h0':(o.left=0)=False:=eq_false h0
 have ahT:s.dropWhile (λo=>o.left==0)=o::t:=by rw[←hdw];exact List.dropWhile_cons_of_neg (by simpa using h0)
 have hstep:dI v=(bR n && decide (n.many≤v.length) && gI o n.name && IU v.length (⟨n.kind,n.many,true,[]⟩::⟨o.kind,o.left-1,false,n.name⟩::t) (v.drop (i+1))):=by
  rw[←hrun,IU,ahT]
 rw[hst]
 cases hpl:bR n
 ·have hr:dI v=false:=by rw[hstep,hpl];rfl
  simp (maxSteps:=400000) only[↓aS,aT,BEq.rfl,seval,hQ,hpos,hne0,t1,z1,lt1,le1,i1,hget,hset,h0',FM,length_reverse,↓gZ,hpl,hr]
  exact htx.1
 by_cases hmL:n.many≤v.length
 rotate_left 1
 ·have O8:((v.length:Int)<n.many)=True:=eq_true (by omega)
  have hr:dI v=false:=by rw[hstep,decide_eq_false hmL];simp
  simp (maxSteps:=400000) only[↓aS,aT,BEq.rfl,seval,hQ,hpos,hne0,t1,z1,lt1,le1,i1,hget,hset,h0',FM,length_reverse,↓gZ,hpl,O8,hr]
  exact htx.1
 have O8:((v.length:Int)<n.many)=False:=eq_false (by omega)
 have hm0:0≤n.many:=by
  by_cases hk:n.kind=5∨n.kind=6
  ·exact (za hpl hk).1
  ·rw[vN hpl hk];exact Int.le_refl 0
 have hA:∀x y:Cs,t.reverse.map jk++[jk x]++[jk y]=(t.reverse++[x,y]).map jk:=λx y=>by simp
 have fin:∀hn:gI o n.name=true,∃ag3,ag3<m∧∃(s:List Cs) (Im ver:Nat),Im+ag3=v.length∧IU v.length s (v.drop Im)=dI v∧s.length≤Im+1∧(∀o∈s,0≤o.left∧o.left≤1000000)∧
     (⟨dG 123 [(0,aJ v),(3,.bO 0 (Lr+1)),(10,aJ v),(11,.int .i64 v.length),(12,.int .i64 ((i:Int)+1))],[⟨167,4,t.reverse.map jk++[jk ⟨o.kind,o.left-1,false,n.name⟩]++[jk ⟨n.kind,n.many,true,[]⟩],true,Lr+1⟩]⟩:St)=
     ⟨dG 123 [(0,aJ v),(3,.bO 0 ver),(10,aJ v),(11,.int .i64 v.length),(12,.int .i64 Im)],[SE s ver]⟩:=λhn=>by
  refine⟨m-1,by omega,⟨n.kind,n.many,true,[]⟩::⟨o.kind,o.left-1,false,n.name⟩::t,i+1,Lr+1,by omega,?_,by simp only[List.length_cons];omega,λx hx=>?_,?_⟩
  ·rw[hstep,hpl,hn,decide_eq_true hmL];simp
  ·rcases List.mem_cons.1 hx with rfl | hx
   ·exact⟨hm0,by simp only;omega⟩
   ·rcases List.mem_cons.1 hx with rfl | hx
    ·simp only;omega
    ·exact hle' x (List.mem_cons_of_mem _ hx)
  ·simp[SE]
 by_cases k6:o.kind=6
 rotate_left 1
 ·have k6':(o.kind=6)=False:=eq_false k6
  by_cases hnm:n.name=[]
  rotate_left 1
  ·have hnm':(n.name=[])=False:=eq_false hnm
   have hr:dI v=false:=by
    have:gI o n.name=false:=by simp[gI,k6,hnm]
    rw[hstep,this];simp
   simp (maxSteps:=400000) only[↓aS,aT,BEq.rfl,seval,hQ,hpos,hne0,t1,z1,lt1,le1,i1,hget,hset,h0',FM,length_reverse,↓gZ,hpl,O8,k6',dU,BS,pU,zOl,zOs,hnm',hr]
   exact htx.1
  ·have hnm':(n.name=[])=True:=eq_true hnm
   simp (maxSteps:=400000) only[↓aS,aT,BEq.rfl,seval,hQ,hpos,hne0,t1,z1,lt1,le1,i1,hget,hset,h0',FM,length_reverse,↓gZ,hpl,O8,k6',dU,BS,pU,zOl,zOs,hnm']
   have hn:gI o n.name=true:=by simp[gI,k6,hnm]
   obtain⟨m1,e0,s1,j1,w1,e1,e2,e3,e4,e5⟩:=fin hn
   refine⟨htx.1,⟨by omega,by omega⟩,rfl,by omega,by omega,⟨by omega,by omega⟩,m1,e0,s1,j1,w1,e1,e2,e3,e4,?_⟩
   rw[←e5]
   simp only[hA,List.take_succ_cons,take_zero,map_cons (f:=f_ _ _ _),map_nil,JY]
   rfl
 have k6':(o.kind=6)=True:=eq_true k6
 cases hu:utf n.name
 ·have hr:dI v=false:=by
    have:gI o n.name=false:=by simp[gI,k6,hu]
    rw[hstep,this];simp
  simp (maxSteps:=400000) only[↓aS,aT,BEq.rfl,seval,hQ,hpos,hne0,t1,z1,lt1,le1,i1,hget,hset,h0',FM,length_reverse,↓gZ,hpl,O8,k6',dU,BS,pU,zOl,zOs,↓fB,hu,hr]
  exact⟨htx.1,htx.2⟩
 cases hfst:o.first
 rotate_left 1
 ·have hn:gI o n.name=true:=by simp[gI,k6,hu,hfst]
  simp (maxSteps:=400000) only[↓aS,aT,BEq.rfl,seval,hQ,hpos,hne0,t1,z1,lt1,le1,i1,hget,hset,h0',FM,length_reverse,↓gZ,hpl,O8,k6',dU,BS,pU,zOl,zOs,↓fB,hu,hfst]
  obtain⟨m1,e0,s1,j1,w1,e1,e2,e3,e4,e5⟩:=fin hn
  refine⟨htx.1,htx.2,⟨by omega,by omega⟩,rfl,by omega,by omega,⟨by omega,by omega⟩,m1,e0,s1,j1,w1,e1,e2,e3,e4,?_⟩
  rw[←e5]
  simp only[hA,List.take_succ_cons,take_zero,map_cons (f:=f_ _ _ _),map_nil,JY]
  rfl
 cases hbl:Op.bytesLess n.name o.last
 rotate_left 1
 ·have hr:dI v=false:=by
    have:gI o n.name=false:=by simp[gI,k6,hu,hfst,ny _ _ hbl]
    rw[hstep,this];simp
  simp (maxSteps:=400000) only[↓aS,aT,BEq.rfl,seval,hQ,hpos,hne0,t1,z1,lt1,le1,i1,hget,hset,h0',FM,length_reverse,↓gZ,hpl,O8,k6',dU,BS,pU,zOl,zOs,↓fB,hu,hfst,hbl,hr]
  exact⟨htx.1,htx.2⟩
 by_cases heq:n.name=o.last
 ·have heq':(n.name=o.last)=True:=eq_true heq
  have hr:dI v=false:=by
   have:gI o n.name=false:=by simp[gI,k6,hu,hfst,heq,fw]
   rw[hstep,this];simp
  simp (maxSteps:=400000) only[↓aS,aT,BEq.rfl,seval,hQ,hpos,hne0,t1,z1,lt1,le1,i1,hget,hset,h0',FM,length_reverse,↓gZ,hpl,O8,k6',dU,BS,pU,zOl,zOs,↓fB,hu,hfst,hbl,heq',hr]
  exact⟨htx.1,htx.2⟩
 ·have heq':(n.name=o.last)=False:=eq_false heq
  have hn:gI o n.name=true:=by
   have:Op.bytesLess o.last n.name=true:=by
    rcases EO o.last n.name with g | g | g
    ·exact g
    ·exact absurd g.symm heq
    ·rw[g]at hbl;cases hbl
   simp[gI,k6,hu,this]
  simp (maxSteps:=400000) only[↓aS,aT,BEq.rfl,seval,hQ,hpos,hne0,t1,z1,lt1,le1,i1,hget,hset,h0',FM,length_reverse,↓gZ,hpl,O8,k6',dU,BS,pU,zOl,zOs,↓fB,hu,hfst,hbl,heq']
  obtain⟨m1,e0,s1,j1,w1,e1,e2,e3,e4,e5⟩:=fin hn
  refine⟨htx.1,htx.2,⟨by omega,by omega⟩,rfl,by omega,by omega,⟨by omega,by omega⟩,m1,e0,s1,j1,w1,e1,e2,e3,e4,?_⟩
  rw[←e5]
  simp only[hA,List.take_succ_cons,take_zero,map_cons (f:=f_ _ _ _),map_nil,JY]
  rfl
def pV:dD:=λargs objs K=>match args with
 | [a0]=>dZ aJ a0 (HK.mk:HK λv=>(Small v)∧K (.bool (dI v)) objs 0)
 | _=>False
theorem JZ:aC Tryz.prog 127 (pV):=by
 intro args objs K h
 unfold pV at h
 split at h
 ·rename_i a0
  obtain⟨v,rfl,h1,hk⟩:=h
  exact⟨_,_,_,.pure _ rfl (Lm v h1),hk⟩
 ·exact h.elim
end Lp
namespace Lp
open Go Go.Proofs
open Int (reduceEq)
def qE(n:Nd):Prop:=n.s.length≤4611686018427387904∧n.name.length≤4611686018427387904
theorem qE.small {n:Nd}(h:qE n):Small [n]:=⟨by simp,λm hm=>by rw[List.mem_singleton]at hm;subst hm;exact h⟩
theorem SF(n:Nd)(h:qE n):ai Tryz.prog 115 [aB n] [] (.bool (qW n)) []:=by
 unfold qW
 refine JB.aX (T:=aR Tryz.prog [(127,pV)]) 0 hD (aj (af JZ ah)) aV (by decide) λQ hQ=>?_
 (conv=>arg 4;cbv);simp (maxSteps:=400000) only[↓bf,bg,BEq.rfl,seval,hQ]
 refine aN _ (Weak.freeze 1 0 (Nat.zero_le _) _) ?_
 rcases tf (n.kind<5) with hk | hk
 ·simp (maxSteps:=400000) only[↓bf,bg,BEq.rfl,seval,hQ,jT,hk,↓pV,bT,bU,Bool.false_and]
  exact h.small
 ·simp (maxSteps:=400000) only[↓bf,bg,BEq.rfl,seval,hQ,jT,hk,↓pV,bT,bU,Bool.false_and]
def qR:dD:=λargs objs K=>match args with
 | [a0]=>dZ aB a0 (HK.mk:HK λn=>(qE n)∧K (.bool (qW n)) objs 0)
 | _=>False
theorem O9:aC Tryz.prog 115 (qR):=by
 intro args objs K h
 unfold qR at h
 split at h
 ·rename_i a0
  obtain⟨n,rfl,h1,hk⟩:=h
  exact⟨_,_,_,.pure _ rfl (SF n h1),hk⟩
 ·exact h.elim
theorem SG(n:Nd)(h:qE n):ai Tryz.prog 26 [aB n] [] (.bool (qW n)) []:=by
 unfold qW
 refine BD.aX (T:=aR Tryz.prog [(36,rJ)]) 0 hD (aj (af Gl ah)) aV (by decide) λQ hQ=>?_
 (conv=>arg 4;cbv);simp (maxSteps:=400000) only[↓bf,bg,BEq.rfl,seval,hQ]
 refine aN _ (Weak.freeze 1 0 (Nat.zero_le _) _) ?_
 rcases tf (n.kind<5) with hk | hk
 ·simp (maxSteps:=400000) only[↓bf,bg,BEq.rfl,seval,hQ,jT,hk,↓rJ,bT,bU,Bool.false_and]
  exact h.small
 ·simp (maxSteps:=400000) only[↓bf,bg,BEq.rfl,seval,hQ,jT,hk,↓rJ,bT,bU,Bool.false_and]
def mZ:dD:=λargs objs K=>match args with
 | [a0]=>dZ aB a0 (HK.mk:HK λn=>(qE n)∧K (.bool (qW n)) objs 0)
 | _=>False
theorem DX:aC Tryz.prog 26 (mZ):=by
 intro args objs K h
 unfold mZ at h
 split at h
 ·rename_i a0
  obtain⟨n,rfl,h1,hk⟩:=h
  exact⟨_,_,_,.pure _ rfl (SG n h1),hk⟩
 ·exact h.elim
theorem SH(a:gG)(h:qE a.c):ai Tryz.prog 9 [b_ a] [] (.bool (fO a)) []:=by
 unfold fO
 refine BF.aX (T:=aR Tryz.prog [(26,mZ)]) 0 hD (aj (af DX ah)) aV (by decide) λQ hQ=>?_
 (conv=>arg 4;cbv);simp (maxSteps:=400000) only[↓bf,bg,BEq.rfl,seval,hQ]
 refine aN _ (Weak.freeze 1 0 (Nat.zero_le _) _) ?_
 rcases tf (0≤a.n) with h1 | h1
 rotate_left 1
 ·simp (maxSteps:=400000) only[↓bf,bg,BEq.rfl,seval,hQ,Rx,h1,Bool.false_and]
 rcases tf (a.n≤5) with h2 | h2
 rotate_left 1
 ·simp (maxSteps:=400000) only[↓bf,bg,BEq.rfl,seval,hQ,Rx,h1,h2,Bool.false_and,Bool.and_false]
 simp (maxSteps:=400000) only[↓bf,bg,BEq.rfl,seval,hQ,Rx,h1,h2,↓mZ]
 exact h
def iI:dD:=λargs objs K=>match args with
 | [a0]=>dZ b_ a0 (HK.mk:HK λa=>(qE a.c)∧K (.bool (fO a)) objs 0)
 | _=>False
theorem DY:aC Tryz.prog 9 (iI):=by
 intro args objs K h
 unfold iI at h
 split at h
 ·rename_i a0
  obtain⟨a,rfl,h1,hk⟩:=h
  exact⟨_,_,_,.pure _ rfl (SH a h1),hk⟩
 ·exact h.elim
theorem J2(how c:Int):(how=0∧mQ how c=decide (c=0))∨(how=1∧mQ how c=!decide (c=0))∨(how=2∧mQ how c=decide (c<0))∨(how=3∧mQ how c=decide (c≤0))∨(how=4∧mQ how c=decide (0<c))∨
  ((how=0)=False∧(how=1)=False∧(how=2)=False∧(how=3)=False∧(how=4)=False∧mQ how c=decide (0≤c)):=by
 by_cases h0:how=0
 ·exact .inl ⟨h0,by simp[mQ,h0]⟩
 by_cases h1:how=1
 ·exact .inr (.inl ⟨h1,by simp[mQ,h1]⟩)
 by_cases h2:how=2
 ·exact .inr (.inr (.inl ⟨h2,by simp[mQ,h2]⟩))
 by_cases h3:how=3
 ·exact .inr (.inr (.inr (.inl ⟨h3,by simp[mQ,h3]⟩)))
 by_cases h4:how=4
 ·exact .inr (.inr (.inr (.inr (.inl ⟨h4,by simp[mQ,h4]⟩))))
 ·exact .inr (.inr (.inr (.inr (.inr ⟨eq_false h0,eq_false h1,eq_false h2,eq_false h3,eq_false h4,by simp[mQ,h0,h1,h2,h3,h4]⟩))))
theorem ZJ(how c:Int):ai Tryz.prog 50 [.int .i64 how,.int .i64 c] [] (.bool (mQ how c)) []:=by
 refine Dh.aX (T:=aR Tryz.prog []) 0 hD (aj ah) aV (by decide) λQ hQ=>?_
 rcases J2 how c with ⟨h,hr⟩ | ⟨h,hr⟩ | ⟨h,hr⟩ | ⟨h,hr⟩ | ⟨h,hr⟩ | ⟨k0,k1,k2,k3,k4,hr⟩
 ·rw[h]at hr
  (conv=>arg 4;cbv);simp (maxSteps:=400000) only[↓bf,bg,BEq.rfl,seval,hQ,hr,h]
 ·rw[h]at hr
  (conv=>arg 4;cbv);simp (maxSteps:=400000) only[↓bf,bg,BEq.rfl,seval,hQ,hr,h,reduceEq]
 ·rw[h]at hr
  (conv=>arg 4;cbv);simp (maxSteps:=400000) only[↓bf,bg,BEq.rfl,seval,hQ,hr,h,reduceEq]
 ·rw[h]at hr
  (conv=>arg 4;cbv);simp (maxSteps:=400000) only[↓bf,bg,BEq.rfl,seval,hQ,hr,h,reduceEq]
 ·rw[h]at hr
  (conv=>arg 4;cbv);simp (maxSteps:=400000) only[↓bf,bg,BEq.rfl,seval,hQ,hr,h,reduceEq]
 ·(conv=>arg 4;cbv);simp (maxSteps:=400000) only[↓bf,bg,BEq.rfl,seval,hQ,k0,k1,k2,k3,k4,hr]
def Iy:dD:=λargs objs K=>match args with
 | [.int .i64 how,.int .i64 c]=>K (.bool (mQ how c)) objs 0
 | _=>False
theorem VH:aC Tryz.prog 50 (Iy):=by
 intro args objs K h
 unfold Iy at h
 split at h
 ·rename_i how c
  have hk:=h
  exact⟨_,_,_,.pure _ rfl (ZJ how c),hk⟩
 ·exact h.elim
structure fE (n:Nd):Prop where
 sc:qW n=true
 len:n.s.length≤1000000
theorem fE.few {n:Nd}(h:fE n):ag2 [n] 1:=by
 have hr:dI [n]=true:=by
  have:=h.sc
  simp only[qW,Bool.and_eq_true]at this
  exact this.2
 have hrt:=uF hr
 have hpl:=O1 hr
 refine⟨by simp,hrt,⟨hrt.one,by simp,λm hm=>?_⟩,⟨hrt.one,by simp,λm hm hk3=>XO (rP (hpl m hm) hk3)⟩⟩
 have hp:=hpl m hm
 rw[List.mem_singleton]at hm
 subst hm
 exact ZG hp h.len
theorem SI(a:gG)(n:Nd)(ha:fE a.c)(hn:fE n):ai Tryz.prog 117 [b_ a,aB n] [] (.bool (iY a n)) []:=by
 obtain⟨f,hf⟩:∃f:Nat,f=1:=⟨1,rfl⟩
 have hh:iY a n=mQ a.n (uz f [n] [a.c]):=by rw[hf];rfl
 rw[hh]
 have hl:[n].length≤f:=by rw[hf];exact Nat.le_refl _
 have o1:=hn.few.ok
 have o2:=ha.few.ok
 refine Ol.aX (T:=aR Tryz.prog [(128,(zO f))]) 0 hD (aj (af (OZ f) ah)) aV (by decide) λQ hQ=>?_
 generalize hc:uz f [n] [a.c]=c
 (conv=>arg 4;cbv);simp (maxSteps:=400000) only[↓bf,bg,BEq.rfl,seval,hQ]
 refine aN _ (Weak.freeze 1 0 (Nat.zero_le _) _) ?_
 simp (maxSteps:=400000) only[↓bf,bg,BEq.rfl,seval,hQ,abB,abC,↓zO,hc,bT,bU]
 refine⟨hl,o1,o2,?_⟩
 rcases J2 a.n c with ⟨h,hr⟩ | ⟨h,hr⟩ | ⟨h,hr⟩ | ⟨h,hr⟩ | ⟨h,hr⟩ | ⟨k0,k1,k2,k3,k4,hr⟩
 ·rw[h]at hr
  simp (maxSteps:=400000) only[↓bf,bg,BEq.rfl,seval,hQ,hr,h]
 ·rw[h]at hr
  simp (maxSteps:=400000) only[↓bf,bg,BEq.rfl,seval,hQ,hr,h,reduceEq]
 ·rw[h]at hr
  simp (maxSteps:=400000) only[↓bf,bg,BEq.rfl,seval,hQ,hr,h,reduceEq]
 ·rw[h]at hr
  simp (maxSteps:=400000) only[↓bf,bg,BEq.rfl,seval,hQ,hr,h,reduceEq]
 ·rw[h]at hr
  simp (maxSteps:=400000) only[↓bf,bg,BEq.rfl,seval,hQ,hr,h,reduceEq]
 ·simp (maxSteps:=400000) only[↓bf,bg,BEq.rfl,seval,hQ,k0,k1,k2,k3,k4,hr]
def zS:dD:=λargs objs K=>match args with
 | [a0,a1]=>dZ b_ a0 (HK.mk:HK λa=>dZ aB a1 (HK.mk:HK λn=>(fE a.c)∧(fE n)∧K (.bool (iY a n)) objs 0))
 | _=>False
theorem O_:aC Tryz.prog 117 (zS):=by
 intro args objs K h
 unfold zS at h
 split at h
 ·rename_i a0 a1
  obtain⟨a,rfl,n,rfl,h1,h2,hk⟩:=h
  exact⟨_,_,_,.pure _ rfl (SI a n h1 h2),hk⟩
 ·exact h.elim
theorem SK(a:gG)(n:Nd)(ha:fE a.c)(hn:fE n):ai Tryz.prog 19 [b_ a,aB n] [] (.bool (iY a n)) []:=by
 obtain⟨f,hf⟩:∃f:Nat,f=1:=⟨1,rfl⟩
 have hh:iY a n=mQ a.n (iH jM f [n] [a.c]):=by rw[hf,SB 1 _ _ hn.few.rt ha.few.rt];rfl
 rw[hh]
 have hl:[n].length≤f:=by rw[hf];exact Nat.le_refl _
 have o1:=hn.few.ok2
 have o2:=ha.few.ok2
 refine BG.aX (T:=aR Tryz.prog [(51,(o7 f)),(50,Iy)]) 0 hD (aj (af (BR f) (af VH ah))) aV (by decide) λQ hQ=>?_
 (conv=>arg 4;cbv);simp (maxSteps:=400000) only[↓bf,bg,BEq.rfl,seval,hQ]
 refine aN _ (Weak.freeze 1 0 (Nat.zero_le _) _) ?_
 simp (maxSteps:=400000) only[↓bf,bg,BEq.rfl,seval,hQ,abB,abC,↓o7,↓Iy,bT,bU]
 exact⟨hl,o1,o2⟩
def oU:dD:=λargs objs K=>match args with
 | [a0,a1]=>dZ b_ a0 (HK.mk:HK λa=>dZ aB a1 (HK.mk:HK λn=>(fE a.c)∧(fE n)∧K (.bool (iY a n)) objs 0))
 | _=>False
theorem DZ:aC Tryz.prog 19 (oU):=by
 intro args objs K h
 unfold oU at h
 split at h
 ·rename_i a0 a1
  obtain⟨a,rfl,n,rfl,h1,h2,hk⟩:=h
  exact⟨_,_,_,.pure _ rfl (SK a n h1 h2),hk⟩
 ·exact h.elim
end Lp
namespace Lp
open Go Go.Proofs
end Lp
namespace Lp
open Go
structure Sel (names:List (List UInt8)) (l:List Vl) (q:EM) (done:List Bool) (m:Nat):Prop where
 par:names.length=l.length
 len:done.length=names.length
 cnt:q.length+m=names.length
 left:done.count false=m
 mem:∀x:List UInt8×Vl,x∈q↔∃i:Nat,done[i]?=some true∧names[i]?=some x.1∧l[i]?=some x.2
 rise:uG (q.map (·.1))
 utf:∀x∈q,utf x.1=true
 low:∀(i:Nat) nm,done[i]?=some false→names[i]?=some nm→∀x∈q,Op.bytesLess nm x.1=false
 one:∀(i j:Nat) nm,done[i]?=some true→done[j]?=some true→names[i]?=some nm→names[j]?=some nm→i=j
theorem Sel.above {names:List (List UInt8)}{l:List Vl}{q:EM}{done:List Bool}{m:Nat}(h:Sel names l q done m){b:Nat}{nm:List UInt8}(hb:done[b]?=some false)(hn:names[b]?=some nm)
  (hl:∀x,q.getLast?=some x→x.1≠nm):∀x∈q,Op.bytesLess x.1 nm=true:=by
 have hlow:=h.low b nm hb hn
 rcases List.eq_nil_or_concat q with rfl | ⟨q',z,rfl⟩
 ·intro x hx;cases hx
 rw[List.concat_eq_append]at *
 have hz:z∈q'++[z]:=by simp
 have hzl:Op.bytesLess z.1 nm=true:=by
  rcases EO z.1 nm with g | g | g
  ·exact g
  ·exact absurd g (hl z (by simp))
  ·rw[hlow z hz]at g;cases g
 intro x hx
 have hr:=h.rise
 rw[List.map_append]at hr
 rcases List.mem_append.1 hx with hx | hx
 ·exact pu _ _ _ ((List.pairwise_append.1 hr).2.2 x.1 (List.mem_map.2 ⟨x,hx,rfl⟩) z.1 (by simp)) hzl
 ·simp only[List.mem_singleton]at hx
  subst hx;exact hzl
theorem Sel.step {names:List (List UInt8)}{l:List Vl}{q:EM}{done:List Bool}{m:Nat}(h:Sel names l q done (m+1)){b:Nat}{nm:List UInt8}{v:Vl}(hb:done[b]?=some false)(hn:names[b]?=some nm)(hv:l[b]?=some v)
  (hmin:∀(i:Nat) Ou,done[i]?=some false→names[i]?=some Ou→Op.bytesLess Ou nm=false) (hu:Lp.utf nm=true) (hl:∀x,q.getLast?=some x→x.1≠nm) :
  Sel names l (q++[(nm,v)]) (done.set b true) m:=by
 have hbl:=(List.getElem?_eq_some_iff.1 hb).1
 have hab:=h.above hb hn hl
 have hset:∀i c,(done.set b true)[i]?=some c→(i=b∧c=true)∨(i≠b∧done[i]?=some c):=λi c hc=>by
  rw[List.getElem?_set]at hc
  split at hc
  ·rename_i e
   subst e
   exact .inl ⟨rfl,by simpa[hbl] using hc.symm⟩
  ·rename_i e
   exact .inr ⟨λe'=>e e'.symm,hc⟩
 have hset':∀i c,i≠b→done[i]?=some c→(done.set b true)[i]?=some c:=λi c hi hc=>by
  rw[List.getElem?_set_ne (λe=>hi e.symm)];exact hc
 have hsb:(done.set b true)[b]?=some true:=by rw[List.getElem?_set_self hbl]
 refine⟨h.par,by simp[h.len],by have:=h.cnt;simp;omega,?_,λx=>?_,?_,?_,?_,?_⟩
 ·have h1:=h.left
  have e:done=done.take b++false::done.drop (b+1):=by
   have:=List.getElem?_eq_some_iff.1 hb
   obtain⟨_,e⟩:=this
   conv=>lhs;rw[←List.take_append_drop b done,List.drop_eq_getElem_cons hbl,e]
  have e2:done.set b true=done.take b++true::done.drop (b+1):=by
   rw[List.set_eq_take_append_cons_drop,if_pos hbl]
  rw[e2,List.count_append,List.count_cons]
  rw[e,List.count_append,List.count_cons]at h1
  simp at h1 ⊢
  omega
 ·rw[List.mem_append,h.mem]
  constructor
  ·rintro (⟨i,h1,h2,h3⟩ | hx)
   ·have:i≠b:=λe=>by subst e;rw[hb]at h1;cases h1
    exact⟨i,hset' i _ this h1,h2,h3⟩
   ·simp only[List.mem_singleton]at hx
    subst hx
    exact⟨b,hsb,hn,hv⟩
  ·rintro⟨i,h1,h2,h3⟩
   rcases hset i _ h1 with ⟨rfl,_⟩ | ⟨hi,hd⟩
   ·right
    rw[hn]at h2;rw[hv]at h3
    simp only[Option.some.injEq]at h2 h3
    simp[h2,h3]
   ·exact .inl ⟨i,hd,h2,h3⟩
 ·rw[List.map_append]
  refine List.pairwise_append.2 ⟨h.rise,by simp,λx hx y hy=>?_⟩
  simp only[List.map_cons,List.map_nil,List.mem_singleton]at hy
  subst hy
  obtain⟨z,hz,rfl⟩:=List.mem_map.1 hx
  exact hab z hz
 ·intro x hx
  rcases List.mem_append.1 hx with hx | hx
  ·exact h.utf x hx
  ·simp only[List.mem_singleton]at hx
   subst hx;exact hu
 ·intro i Ou h1 h2 x hx
  rcases hset i _ h1 with ⟨_,hc⟩ | ⟨hi,hd⟩
  ·cases hc
  ·rcases List.mem_append.1 hx with hx | hx
   ·exact h.low i Ou hd h2 x hx
   ·simp only[List.mem_singleton]at hx
    subst hx
    exact hmin i Ou hd h2
 ·intro i j Ou h1 h2 h3 h4
  have key:∀k,k≠b→done[k]?=some true→names[k]?=some Ou→Ou≠nm:=λk hk hd hnk e=>by
   subst e
   have hkl:k<l.length:=by rw[←h.par];exact (List.getElem?_eq_some_iff.1 hnk).1
   have:=hab (Ou,l[k]) ((h.mem _).2 ⟨k,hd,hnk,List.getElem?_eq_getElem hkl⟩)
   rw[fw]at this;cases this
  rcases hset i _ h1 with ⟨rfl,_⟩ | ⟨hi,hd⟩
  ·rcases hset j _ h2 with ⟨rfl,_⟩ | ⟨hj,hd'⟩
   ·rfl
   ·rw[hn]at h3
    simp only[Option.some.injEq]at h3
    exact absurd h3.symm (key j hj hd' h4)
  ·rcases hset j _ h2 with ⟨rfl,_⟩ | ⟨hj,hd'⟩
   ·rw[hn]at h4
    simp only[Option.some.injEq]at h4
    exact absurd h4.symm (key i hi hd h3)
   ·exact h.one i j Ou hd hd' h3 h4
theorem Sel.all {names:List (List UInt8)}{l:List Vl}{q:EM}{done:List Bool}(h:Sel names l q done 0){i:Nat}(hi:i<names.length):done[i]?=some true:=by
 have h1:=List.getElem?_eq_getElem (by rw[h.len];exact hi:i<done.length)
 rw[h1]
 cases hd:done[i]'(by rw[h.len];exact hi) with
 | true=>rfl
 | false=>
  have:=h.left
  rw[List.count_eq_zero]at this
  exact absurd (by rw[←hd];exact List.getElem_mem _) this
theorem Sel.end {names:List (List UInt8)}{l:List Vl}{q:EM}{done:List Bool}(h:Sel names l q done 0):sI names l.length=true∧q=NG (names.zip l):=by
 have hq:∀(i:Nat) (hi:i<names.length),(names[i],l[i]'(by rw[←h.par];exact hi))∈q:=λi hi=>
  (h.mem _).2 ⟨i,h.all hi,List.getElem?_eq_getElem hi,List.getElem?_eq_getElem _⟩
 have hok:sI names l.length=true:=by
  rw[mP]
  refine⟨h.par,?_,λx hx=>?_⟩
  ·refine List.pairwise_iff_getElem.2 λi j hi hj hij e=>?_
   have:=h.one i j names[i] (h.all hi) (h.all hj) (List.getElem?_eq_getElem hi) (by rw[e];exact List.getElem?_eq_getElem hj)
   omega
  ·obtain⟨i,hi,rfl⟩:=List.mem_iff_getElem.1 hx
   exact h.utf _ (hq i hi)
 refine⟨hok,QD hok h.rise λx=>?_⟩
 constructor
 ·intro hx
  obtain⟨i,_,h2,h3⟩:=(h.mem x).1 hx
  refine List.mem_iff_getElem?.2 ⟨i,?_⟩
  rw[List.getElem?_zip_eq_some]
  exact⟨h2,h3⟩
 ·intro hx
  obtain⟨i,hi⟩:=List.mem_iff_getElem?.1 hx
  rw[List.getElem?_zip_eq_some]at hi
  exact (h.mem x).2 ⟨i,h.all (List.getElem?_eq_some_iff.1 hi.1).1,hi.1,hi.2⟩
theorem Sel.some {names:List (List UInt8)}{l:List Vl}{q:EM}{done:List Bool}{m:Nat}(h:Sel names l q done (m+1)):∃i:Nat,done[i]?=Option.some false:=by
 have:0<done.count false:=by rw[h.left];omega
 exact List.mem_iff_getElem?.1 (List.count_pos_iff.1 this)
end Lp
namespace Lp
open Go Go.Proofs
theorem VI{α:Type}{f:PV→PV}(enc:α→PV)(h:∀x,(enc x).bL f=enc x)(l:List α):(l.map enc).map (PV.bL f)=l.map enc:=by
 rw[List.map_map]
 exact List.map_congr_left λx _=>h x
end Lp
namespace Lp
open Go Go.Proofs
theorem aO.VJ {P:Program}{D:TypeId→aH}{T:Know}{f:FuncId}{n t u:Nat}{ty uy:TypeId}{C:LC}{args:List PV}{r:PV}(h:aO P f n [.cell t ty,.cell u uy] C)(d:Nat)(hD:∀t,je P t (D t))(hT:Ii P none tY T)(hm:P.follows .mixedOrders=true)(ht:t<n)(hu:u<n)
  (hw:∀Q:Exit→St→Prop,(∀l ob,Q .ret ⟨dG n l,ob⟩=fQ (D ty) (nu l t) ob λp _ _=>fQ (D uy) (nu l u) ob λq _ _=>r=.bY [iB d 0 ob p,iB d 0 ob q])→l7 P D T C Q (cK args n)):ai P f args [] r []:=by
 refine h.pure d hD hT hm (by simp) (hw _ λl ob=>?_)
 simp only[oh,jZ,tZ.2.1 n l t ht,tZ.2.1 n l u hu,List.map_cons,List.map_nil,fU]
def lC:Vl→Int
 | []=>0
 | n::_=>n.kind
def rQ(v:Vl)(nm:List UInt8):Option Vl:=if lC v=6 then QB (Xe v) nm else none
def kM(v:Vl)(nm:List UInt8):Vl:=(rQ v nm).getD []
def vg(v:Vl)(nm:List UInt8):Bool:=(rQ v nm).isSome
def wH(v:Vl)(nm:List UInt8):PV:=match rQ v nm with
 | some x=>.bY [aJ x,.bool true]
 | none=>.bY [.sl 0 [] (some true),.bool false]
theorem fI.lt {O:List Obj}(h:fI O):kL O:=λo ho x hx c hc=>by
 have:=h o ho x hx c hc
 cases c<;>first | rfl | (simp[PV.ref]at this)
theorem Ls(v:Vl)(nm:List UInt8):lX (wH v nm) (.bY [aJ (kM v nm),.bool (vg v nm)]):=by
 unfold wH kM vg
 split
 ·rename_i x h;rw[h];exact .refl _
 ·rename_i h;rw[h];exact Ot (.inr rfl) (lT 0 6) (.refl _)
end Lp
namespace Lp
open Go Go.Proofs Go.RowKit Go.Sort
end Lp
namespace Lp
open Go Go.Proofs Go.RowKit
end Lp
namespace Lp
open Go Go.Proofs
theorem ZK(P:Program)(D:TypeId→aH)(T:Know)(w pt:Bool)(ev:Operand→PV)(objs:List Obj)(K:KT) :
  (∀t x ix ok,mg P D T w pt ev objs (.lookup t x ix ok) K=mF D t (ev x) (ev ix) ok objs K)∧
  (∀t x y z,mg P D T w pt ev objs (.mapUpdate t x y z) K=gW D t (ev x) (ev y) (ev z) objs K)∧
  (∀t,mg P D T w pt ev objs (.makeMap t none) K=l9 D t objs K):=⟨λ_ _ _ _=>rfl,λ_ _ _ _=>rfl,λ_=>rfl⟩
theorem VK(ti:aH):(∀i v,found ti (some (i,v)) true=.bY [v,.bool true])∧(∀i v,found ti (some (i,v)) false=v)∧(found ti none true=.bY [aL ti,.bool false])∧(found ti none false=aL ti):=⟨λ_ _=>rfl,λ_ _=>rfl,rfl,rfl⟩
end Lp
namespace Lp
open Go Go.Proofs
theorem ZL(mask kind:Int)(hm:0≤mask∧mask≤1000000)(hk:0≤kind∧kind≤1000000):ai Tryz.prog 73 [.int .i64 mask,.int .i64 kind] [] (.bool (om mask kind)) []:=by
 refine Di.aX (T:=aR Tryz.prog []) 0 hD (aj ah) aV (by decide) λQ hQ=>?_
 (conv=>arg 4;cbv);simp (maxSteps:=400000) only[↓bf,bg,BEq.rfl,seval,hQ]
 refine aF (λm S=>∃(i x:Nat),i+m=kind.toNat∧x=mask.toNat / 2 ^ i∧S=⟨dG 16 [(0,.int .i64 x),(1,.int .i64 kind),(5,.int .i64 i)],[]⟩) kind.toNat ⟨0,mask.toNat,by omega,by simp,?_⟩ ?_
 ·simp only[bN,keepR,Nat.reduceAdd,lJ,Nat.reduceBEq,List.map_nil]
  rw[Int.toNat_of_nonneg hm.1];rfl
 rintro m S ⟨i,x,him,hx,rfl⟩
 have hxm:x≤mask.toNat:=by rw[hx];exact Nat.div_le_self ..
 rcases Nat.lt_or_ge i kind.toNat with h | h
 rotate_left 1
 ·have hlt:((i:Int)<kind)=False:=eq_false (by omega)
  have hi:i=kind.toNat:=by omega
  have hr:om mask kind=decide ((x:Int).tmod 2=1):=by
   have e:(x:Int).tmod 2=((x % 2:Nat):Int):=rfl
   rw[e,om,←hi,←hx,Bool.eq_iff_iff,beq_iff_eq,decide_eq_true_iff]
   omega
  simp (maxSteps:=400000) only[↓bf,bg,BEq.rfl,seval,hQ,hlt,hr]
 ·have hlt:((i:Int)<kind)=True:=eq_true (by omega)
  simp (maxSteps:=400000) only[↓bf,bg,BEq.rfl,seval,hQ,hlt]
  have e:(x:Int).tdiv 2=((x / 2:Nat):Int):=rfl
  refine⟨⟨by omega,by omega⟩,⟨by omega,by omega⟩,m-1,by omega,i+1,x / 2,by omega,?_,by simp[e]⟩
  rw[hx,Nat.div_div_eq_div_mul,Nat.pow_succ]
def D5:dD:=λargs objs K=>match args with
 | [.int .i64 mask,.int .i64 kind]=>(0≤mask∧mask≤1000000)∧(0≤kind∧kind≤1000000)∧K (.bool (om mask kind)) objs 0
 | _=>False
theorem VL:aC Tryz.prog 73 (D5):=by
 intro args objs K h
 unfold D5 at h
 split at h
 ·rename_i mask kind
  obtain⟨h1,h2,hk⟩:=h
  exact⟨_,_,_,.pure _ rfl (ZL mask kind h1 h2),hk⟩
 ·exact h.elim
theorem ag4(P:Program)(D:TypeId→aH)(T:Know)(w pt:Bool)(ev:Operand→PV)(objs:List Obj)(K:KT) :
  ∀t x y z,mg P D T w pt ev objs (.insert t x y z) K=gW D t (ev x) (ev y) (ev z) objs K:=λ_ _ _ _=>rfl
theorem VN(how:Int)(h:0≤how∧how≤5):ai Tryz.prog 89 [.int .i64 how] [] (.int .i64 (MB how)) []:=by
 refine Rq.aX (T:=aR Tryz.prog []) 0 hD (aj ah) aV (by decide) λQ hQ=>?_
 have:how=0∨how=1∨how=2∨how=3∨how=4∨how=5:=by omega
 rcases this with rfl | rfl | rfl | rfl | rfl | rfl
 all_goals
  (conv=>arg 4;cbv);simp (maxSteps:=400000) only[↓bf,bg,BEq.rfl,seval,hQ,↓ZK,↓ag4,l9,gW,mF]
  repeat refine⟨.inr ⟨_,rfl⟩,_,rfl,?_⟩
  rfl
def D6:dD:=λargs objs K=>match args with
 | [.int .i64 how]=>(0≤how∧how≤5)∧K (.int .i64 (MB how)) objs 0
 | _=>False
theorem SL:aC Tryz.prog 89 (D6):=by
 intro args objs K h
 unfold D6 at h
 split at h
 ·rename_i how
  obtain⟨h1,hk⟩:=h
  exact⟨_,_,_,.pure _ rfl (VN how h1),hk⟩
 ·exact h.elim
theorem ZM(a:gG)(n:Nd)(ha:fE a.c)(hn:fE n):ai Tryz.prog 116 [b_ a,.addr (aB n)] [] (.bool (Bool.not (iY a n))) []:=by
 refine He.aX (T:=aR Tryz.prog [(117,zS)]) 0 hD (aj (af O_ ah)) aV (by decide) λQ hQ=>?_
 (conv=>arg 4;cbv);simp (maxSteps:=400000) only[↓bf,bg,BEq.rfl,seval,hQ]
 refine aN _ (Weak.freeze 1 0 (Nat.zero_le _) _) ?_
 simp (maxSteps:=400000) only[↓bf,bg,BEq.rfl,seval,hQ,Rx,↓zS]
 exact⟨ha,hn⟩
def D7(n:Nd):dD:=λargs objs K=>match args with
 | [a0,a1]=>dZ b_ a0 (HK.mk:HK λa=>a1=(.addr (aB n))∧(fE a.c)∧(fE n)∧K (.bool (Bool.not (iY a n))) objs 0)
 | _=>False
theorem VO(n:Nd):aC Tryz.prog 116 (D7 n):=by
 intro args objs K h
 unfold D7 at h
 split at h
 ·rename_i a0 a1
  obtain⟨a,rfl,rfl,h1,h2,hk⟩:=h
  exact⟨_,_,_,.pure _ rfl (ZM a n h1 h2),hk⟩
 ·exact h.elim
def mq(n:Nd)(a:gG):Bool:=Bool.not (iY a n)
theorem Pb(l:List gG)(n:Nd)(hl:l.length≤4611686018427387904)(ha:∀a∈l,fE a.c)(hn:fE n):ai Tryz.prog 104 [bG l,.fn 116 [] [.addr (aB n)]] [] (.int .i64 (idxOf (mq n) l)) []:=by
 refine gH.aX (T:=aR Tryz.prog [(116,(D7 n))]) 0 hD (aj (af (VO n) ah)) aV (by decide) λQ hQ=>?_
 (conv=>arg 4;cbv);simp (maxSteps:=400000) only[↓bf,bg,BEq.rfl,seval,hQ]
 refine aF (λm S=>∃i:Nat,i+m=l.length∧(∀(j:Nat) y,j<i→l[j]?=some y→mq n y=false)∧S=⟨dG 19 [(0,bG l),(1,.fn 116 [] [.addr (aB n)]),(7,.int .i64 l.length),(8,.int .i64 i)],[]⟩) l.length ⟨0,by omega,λj y h=>absurd h (Nat.not_lt_zero j),?_⟩ ?_
 ·simp only[bN,keepR,Nat.reduceAdd,lJ,Nat.reduceBEq,List.map_nil]
  rfl
 rintro m S ⟨i,him,hb,rfl⟩
 rcases Nat.lt_or_ge i l.length with h | h
 rotate_left 1
 ·have hlt:((i:Int)<(l.length:Int))=False:=eq_false (by omega)
  have hr:=wE (l:=l) λj y hj=>hb j y (by have:=(List.getElem?_eq_some_iff.1 hj).1;omega) hj
  simp (maxSteps:=400000) only[↓bf,bg,BEq.rfl,seval,hQ,hlt,hr]
 have hlt:((i:Int)<(l.length:Int))=True:=eq_true (by omega)
 have zi:(0≤(i:Int))=True:=eq_true (by omega)
 have hgi:=List.getElem?_eq_getElem h
 have hao:=ha _ (List.getElem_mem h)
 generalize l[i]=o at hgi hao
 cases hp:iY o n
 ·have hr:idxOf (mq n) l=i:=idxOf_hit hgi (by simp[mq,hp]) hb
  simp (maxSteps:=400000) only[↓bf,bg,BEq.rfl,seval,hQ,hlt,zi,hgi,↓D7,hp,hr]
  exact⟨hao,hn⟩
 ·simp (maxSteps:=400000) only[↓bf,bg,BEq.rfl,seval,hQ,hlt,zi,hgi,↓D7,hp]
  refine⟨hao,hn,⟨by omega,by omega⟩,m-1,by omega,i+1,by omega,λj y hj hy=>?_,rfl⟩
  rcases Nat.lt_or_ge j i with g | g
  ·exact hb j y g hy
  ·have:j=i:=by omega
   subst this
   rw[hgi]at hy;cases hy
   simp[mq,hp]
def wI(n:Nd):dD:=λargs objs K=>match args with
 | [a0,a1]=>dZ bG a0 (HK.mk:HK λl=>a1=(.fn 116 [] [.addr (aB n)])∧(l.length≤4611686018427387904)∧(∀a∈l,fE a.c)∧(fE n)∧K (.int .i64 (idxOf (mq n) l)) objs 0)
 | _=>False
theorem Lu(n:Nd):aC Tryz.prog 104 (wI n):=by
 intro args objs K h
 unfold wI at h
 split at h
 ·rename_i a0 a1
  obtain⟨l,rfl,rfl,h1,h2,h3,hk⟩:=h
  exact⟨_,_,_,.pure _ rfl (Pb l n h1 h2 h3),hk⟩
 ·exact h.elim
theorem Pf(l:List gG)(n:Nd)(hl:l.length≤4611686018427387904)(ha:∀a∈l,fE a.c)(hn:fE n):ai Tryz.prog 86 [bG l,.fn 116 [] [.addr (aB n)]] [] (.bool (l.any (mq n))) []:=by
 refine fJ.aX (T:=aR Tryz.prog [(104,(wI n))]) 0 hD (aj (af (Lu n) ah)) aV (by decide) λQ hQ=>?_
 (conv=>arg 4;cbv);simp (maxSteps:=400000) only[↓bf,bg,BEq.rfl,seval,hQ,↓wI,zR]
 exact⟨hl,ha,hn⟩
def wJ(n:Nd):dD:=λargs objs K=>match args with
 | [a0,a1]=>dZ bG a0 (HK.mk:HK λl=>a1=(.fn 116 [] [.addr (aB n)])∧(l.length≤4611686018427387904)∧(∀a∈l,fE a.c)∧(fE n)∧K (.bool (l.any (mq n))) objs 0)
 | _=>False
theorem Lv(n:Nd):aC Tryz.prog 86 (wJ n):=by
 intro args objs K h
 unfold wJ at h
 split at h
 ·rename_i a0 a1
  obtain⟨l,rfl,rfl,h1,h2,h3,hk⟩:=h
  exact⟨_,_,_,.pure _ rfl (Pf l n h1 h2 h3),hk⟩
 ·exact h.elim
theorem ab7{mask kind:Int}(hm:0≤mask∧mask≤31)(hk:0≤kind∧kind<5):Az .and .i64 (mask.fdiv (2 ^ min kind.toNat IntKind.i64.bits)) 1=if om mask kind then 1 else 0:=by
 have key:∀(m:Fin 32) (k:Fin 5),Az .and .i64 ((m.val:Int).fdiv (2 ^ min k.val IntKind.i64.bits)) 1=if (m.val / 2 ^ k.val) % 2==1 then 1 else 0:=by decide +kernel
 have:=key ⟨mask.toNat,by omega⟩ ⟨kind.toNat,by omega⟩
 simp only[Int.toNat_of_nonneg hm.1]at this
 exact this
theorem Pg(mask:Int)(l:List gG)(n:Nd)(hm:0≤mask∧mask≤31)(hl:l.length≤1000000)(ha:∀a∈l,fE a.c)(hn:qE n)(hs:n.s.length≤1000000):ai Tryz.prog 103 [.int .i64 mask,bG l,aB n] [] (.bool (bV mask l n)) []:=by
 refine K6.aX (T:=aR Tryz.prog [(115,qR),(86,(wJ n))]) 0 hD (aj (af O9 (af (Lv n) ah))) aV (by decide) λQ hQ=>?_
 (conv=>arg 4;cbv);simp (maxSteps:=400000) only[↓bf,bg,BEq.rfl,seval,hQ]
 refine aN _ (Weak.freeze 1 0 (Nat.zero_le _) _) ?_
 cases hp:qW n
 ·have hr:bV mask l n=false:=by simp[bV,hp]
  simp (maxSteps:=400000) only[↓bf,bg,BEq.rfl,seval,hQ,jT,↓qR,hp,hr]
  exact hn
 have hk:=(pz hp).2.2
 have hbit:=ab7 hm ⟨hk.1,hk.2.1⟩
 have hk0:(0≤n.kind)=True:=eq_true hk.1
 cases hb:om mask n.kind
 ·have hr:bV mask l n=false:=by simp[bV,hb]
  rw[hb,if_neg (by decide)]at hbit
  simp (maxSteps:=400000) only[↓bf,bg,BEq.rfl,seval,hQ,jT,↓qR,hp,hr,p_,hbit,hk0]
  exact hn
 ·have hr:bV mask l n=!(l.any (mq n)):=by simp[bV,hp,hb,List.all_eq_not_any_not,mq];rfl
  rw[hb,if_pos rfl]at hbit
  simp (maxSteps:=400000) only[↓bf,bg,BEq.rfl,seval,hQ,jT,↓qR,hp,hr,p_,hbit,hk0,↓wJ,Int.reduceEq]
  exact⟨hn,by omega,ha,hp,hs⟩
end Lp
namespace Lp
open Go Go.Proofs
theorem Ph(mask:Int)(l:List gG)(n:Nd)(hm:0≤mask∧mask≤1000000)(hl:l.length≤1000000)(ha:∀a∈l,fE a.c)(hn:qE n)(hs:n.s.length≤1000000):ai Tryz.prog 40 [.int .i64 mask,bG l,aB n] [] (.bool (bV mask l n)) []:=by
 refine Ak.aX (T:=aR Tryz.prog [(26,mZ),(73,D5),(19,oU)]) 0 hD (aj (af DX (af VL (af DZ ah)))) aV (by decide) λQ hQ=>?_
 (conv=>arg 4;cbv);simp (maxSteps:=400000) only[↓bf,bg,BEq.rfl,seval,hQ]
 refine aN _ (Weak.freeze 1 0 (Nat.zero_le _) _) ?_
 cases hp:qW n
 ·have hr:bV mask l n=false:=by simp[bV,hp]
  simp (maxSteps:=400000) only[↓bf,bg,BEq.rfl,seval,hQ,jT,↓mZ,hp,hr]
  exact hn
 have hk:=(pz hp).2.2
 have hk':0≤n.kind∧n.kind≤1000000:=⟨hk.1,by omega⟩
 cases hb:om mask n.kind
 ·have hr:bV mask l n=false:=by simp[bV,hb]
  simp (maxSteps:=400000) only[↓bf,bg,BEq.rfl,seval,hQ,jT,↓mZ,↓D5,hp,hr,hb]
  exact⟨hn,hm,hk'⟩
 have hr:bV mask l n=l.all λa=>iY a n:=by simp[bV,hp,hb]
 simp (maxSteps:=400000) only[↓bf,bg,BEq.rfl,seval,hQ,jT,↓mZ,↓D5,hp,hr,hb]
 refine⟨hn,hm,hk',?_⟩
 refine aF (λm S=>∃i:Nat,i+m=l.length∧(∀(j:Nat) y,j<i→l[j]?=some y→iY y n=true)∧S=⟨dG 31 [(1,bG l),(5,.addr (aB n)),(7,.int .i64 i)],[]⟩) l.length ⟨0,by omega,λj y h=>absurd h (Nat.not_lt_zero j),?_⟩ ?_
 ·simp only[bN,keepR,Nat.reduceAdd,lJ,Nat.reduceBEq,List.map_nil]
  rfl
 rintro m S ⟨i,him,hbf,rfl⟩
 rcases Nat.lt_or_ge i l.length with h | h
 rotate_left 1
 ·have hlt:((i:Int)<(l.length:Int))=False:=eq_false (by omega)
  have hall:(l.all λa=>iY a n)=true:=List.all_eq_true.2 λx hx=>by
   obtain⟨j,hj⟩:=List.mem_iff_getElem?.1 hx
   exact hbf j x (by have:=(List.getElem?_eq_some_iff.1 hj).1;omega) hj
  simp (maxSteps:=400000) only[↓bf,bg,BEq.rfl,seval,hQ,hlt,hr,hall]
 have hlt:((i:Int)<(l.length:Int))=True:=eq_true (by omega)
 have zi:(0≤(i:Int))=True:=eq_true (by omega)
 have hgi:=List.getElem?_eq_getElem h
 have hao:=ha _ (List.getElem_mem h)
 have hmem:=List.getElem_mem h
 generalize l[i]=o at hgi hao hmem
 cases hh:iY o n
 ·have hall:(l.all λa=>iY a n)=false:=List.all_eq_false.2 ⟨o,hmem,by simp[hh]⟩
  simp (maxSteps:=400000) only[↓bf,bg,BEq.rfl,seval,hQ,hlt,zi,hgi,↓oU,hh,hr,hall]
  exact⟨hao,hp,hs⟩
 ·simp (maxSteps:=400000) only[↓bf,bg,BEq.rfl,seval,hQ,hlt,zi,hgi,↓oU,hh]
  refine⟨hao,⟨hp,hs⟩,⟨by omega,by omega⟩,m-1,by omega,i+1,by omega,λj y hj hy=>?_,rfl⟩
  rcases Nat.lt_or_ge j i with g | g
  ·exact hbf j y g hy
  ·have:j=i:=by omega
   subst this
   rw[hgi]at hy;cases hy
   exact hh
end Lp
namespace Lp
open Go Go.Proofs
theorem D8:aO Tryz.prog 31 41 [.tmp 4] (gen [] [(35,none)] [] Tryz.f31):=a_ Tryz.func31 rfl (by kernel_rfl)
theorem BU:aO Tryz.prog 24 43 [.tmp 4] (gen [] [(35,none)] [] Tryz.f24):=a_ Tryz.func24 rfl (by kernel_rfl)
theorem BV:aO Tryz.prog 33 74 [.tmp 4] (gen [] [(227,some (1,0))] [] Tryz.f33):=a_ Tryz.func33 rfl (by kernel_rfl)
theorem tu:aO Tryz.prog 35 54 [.tmp 6] (gen [] [(391,none)] [] Tryz.f35):=a_ Tryz.func35 rfl (by kernel_rfl)
theorem BX:aO Tryz.prog 14 87 [.tmp 2] (gen [] [(9,none)] [] Tryz.f14):=a_ Tryz.func14 rfl (by kernel_rfl)
theorem BZ:aO Tryz.prog 38 44 [.tmp 4] (gen [7] [(99,none)] [] Tryz.f38):=a_ Tryz.func38 rfl (by kernel_rfl)
theorem B_:aO Tryz.prog 41 5 [.tmp 2] (gen [] [] [] Tryz.f41):=a_ Tryz.func41 rfl (by kernel_rfl)
theorem D9:aO Tryz.prog 16 35 [.tmp 2] (gen [] [(9,some (1,0))] [] Tryz.f16):=a_ Tryz.func16 rfl (by kernel_rfl)
theorem FN:aO Tryz.prog 7 12 [.tmp 4] (gen [] [] [] Tryz.f7):=a_ Tryz.func7 rfl (by kernel_rfl)
theorem D_:aO Tryz.prog 112 64 [.cell 6 27,.tmp 7] (gen [] [(71,none),(71,none)] [] Tryz.f112):=a_ Tryz.func112 rfl (by kernel_rfl)
theorem Ap:aO Tryz.prog 109 19 [.tmp 4] (gen [] [(100,none)] [] Tryz.f109):=a_ Tryz.func109 rfl (by kernel_rfl)
theorem Aq:aO Tryz.prog 98 60 [.cell 4 27,.tmp 5] (gen [] [] [] Tryz.f98):=a_ Tryz.func98 rfl (by kernel_rfl)
theorem vk:aO Tryz.prog 71 98 [.tmp 2] (gen [14] [(25,some (1,1)),(521,none)] [] Tryz.f71):=a_ Tryz.func71 rfl (by kernel_rfl)
theorem Ca:aO Tryz.prog 37 28 [.cell 4 27,.tmp 5] (gen [] [(211,none)] [] Tryz.f37):=a_ Tryz.func37 rfl (by kernel_rfl)
theorem Cb:aO Tryz.prog 43 47 [.tmp 2] (gen [9,28] [(57,none)] [11] Tryz.f43):=a_ Tryz.func43 rfl (by kernel_rfl)
theorem Cc:aO Tryz.prog 75 34 [.tmp 2] (gen [6] [(57,none)] [] Tryz.f75):=a_ Tryz.func75 rfl (by kernel_rfl)
theorem Ea:aO Tryz.prog 13 26 [.tmp 4] (gen [] [(35,none)] [] Tryz.f13):=a_ Tryz.func13 rfl (by kernel_rfl)
theorem SN:aO Tryz.prog 94 19 [.tmp 4] (gen [] [(35,none)] [] Tryz.f94):=a_ Tryz.func94 rfl (by kernel_rfl)
theorem SQ:aO Tryz.prog 93 28 [] (gen [] [(779,none)] [] Tryz.f93):=a_ Tryz.func93 rfl (by kernel_rfl)
theorem ZN:aO Tryz.prog 63 4 [.tmp 2] (gen [] [] [] Tryz.f63):=a_ Tryz.func63 rfl (by kernel_rfl)
theorem jB:aO Tryz.prog 28 8 [.tmp 2] (gen [5] [] [] Tryz.f28):=a_ Tryz.func28 rfl (by kernel_rfl)
theorem VP:aO Tryz.prog 52 24 [.tmp 2] (gen [] [(0,none)] [7] Tryz.f52):=a_ Tryz.func52 rfl (by kernel_rfl)
theorem Pj:aO Tryz.prog 101 35 [.tmp 4] (gen [] [(3670048,some (1,1))] [] Tryz.f101):=a_ Tryz.func101 rfl (by kernel_rfl)
theorem J3:aO Tryz.prog 84 10 [.tmp 2] (gen [] [] [] Tryz.f84):=a_ Tryz.func84 rfl (by kernel_rfl)
end Lp
namespace Lp
open Go
open List (cons_append drop_eq_getElem_cons flatten_cons length_drop length_take nil_append)
namespace Y
theorem rH(L:Nat)(v:aD):iX L v 0=some 0:=by cases v<;>rfl
theorem Ox(L:Nat):∀(v:aD) (k c i:Nat),iX L v k=some c→i<c→∃k' c',iX L (v.drop i) (k'+1)=some c'
 | v,0,c,i,h,hi=>by rw[rH]at h;cases h;omega
 | [],k+1,c,i,h,hi=>by simp[iX]at h
 | n::v,k+1,c,0,h,hi=>⟨k,c,by simpa using h⟩
 | n::v,k+1,c,i+1,h,hi=>by
  rw[iX]at h
  split at h
  ·cases h
  ·cases hs:iX L v (k+n.many.toNat) with
   | none=>rw[hs]at h;simp at h
   | some c'=>
    rw[hs]at h
    simp only[Option.map_some,Option.some.injEq]at h
    simpa using Ox L v _ c' i hs (by omega)
theorem uY(L:Nat):∀(v:aD) (j k c:Nat),iX L v (j+k)=some c→∃c1 c2,iX L v j=some c1∧iX L (v.drop c1) k=some c2∧c=c1+c2
 | v,0,k,c,h=>⟨0,c,rH L v,by simpa using h,by simp⟩
 | [],j+1,k,c,h=>by
  rw[show j+1+k=(j+k)+1 by omega]at h
  simp[iX]at h
 | n::v,j+1,k,c,h=>by
  rw[show j+1+k=(j+k)+1 by omega,iX]at h
  split at h
  ·cases h
  ·rename_i hn
   cases hs:iX L v (j+k+n.many.toNat) with
   | none=>rw[hs]at h;simp at h
   | some c'=>
    rw[hs]at h
    simp only[Option.map_some,Option.some.injEq]at h
    rw[show j+k+n.many.toNat=(j+n.many.toNat)+k by omega]at hs
    obtain⟨c1,c2,h1,h2,rfl⟩:=uY L v _ k c' hs
    refine⟨c1+1,c2,?_,by simpa using h2,by omega⟩
    rw[iX,if_neg hn,h1];rfl
theorem nP(L:Nat):∀(v:aD) (k c:Nat),skip v k=some c→c≤L→iX L v k=some c
 | v,0,c,h,_=>by cases v<;>simpa[iX,skip] using h
 | [],k+1,c,h,_=>by simp[skip]at h
 | n::v,k+1,c,h,hc=>by
  obtain⟨hm,c',rfl,h'⟩:=dF h
  have:=dS _ _ _ h'
  rw[iX,if_neg (by omega),nP L v _ c' h' (by omega)];rfl
def qc(t:aD)(i:Nat):aD:=match skip (t.drop i) 1 with | some c=>(t.drop i).take c | none=>[]
theorem uj{t:aD}{i:Nat}{x:dR}(ho:One t)(hx:t[i]?=some x):∃ps c,0≤x.many∧x.many≤t.length∧parts x.many.toNat (t.drop (i+1))=some ps∧skip (t.drop (i+1)) x.many.toNat=some c∧ps.flatten=(t.drop (i+1)).take c∧(∀p∈ps,One p)∧
  qc t i=x::ps.flatten∧i+1+c≤t.length:=by
 obtain⟨hi,rfl⟩:=List.getElem?_eq_some_iff.1 hx
 obtain⟨c,hc⟩:=ho.at hi
 have hc0:=hc
 rw[drop_eq_getElem_cons hi]at hc
 obtain⟨hm,c',rfl,h'⟩:=dF (k:=0) hc
 rw[Nat.zero_add]at h'
 obtain⟨ps,h1,h2,h3⟩:=fF _ _ _ h'
 have hl:=dS _ _ _ h'
 rw[length_drop]at hl
 refine⟨ps,c',hm,by omega,h1,h',h2,h3,?_,by omega⟩
 unfold qc
 rw[hc0]
 simp only
 rw[drop_eq_getElem_cons hi,List.take_succ_cons,h2]
theorem VQ{t:aD}(ho:One t):qc t 0=t:=by
 unfold qc
 rw[List.drop_zero,show skip t 1=some t.length from ho]
 simp
end Y
def nW(x:dR):Option (List UInt8)→List aD→Bool
 | _,[]=>true
 | prev,p::ps=>xE x p && (x.kind !=2 || (match prev with | none=>true | some a=>Op.bytesLess a (Y.nameOf p))) && nW x (some (Y.nameOf p)) ps
theorem SS(x:dR):∀(ps:List aD) (prev:Option (List UInt8)),nW x prev ps=(ps.all (xE x) && (x.kind !=2 || xQ ((match prev with | none=>[] | some a=>[a])++ps.map Y.nameOf)))
 | [],prev=>by cases prev<;>simp[nW,xQ]
 | p::ps,prev=>by
  have ih:=SS x ps (some (Y.nameOf p))
  simp only[nW,ih,List.all_cons,List.map_cons]
  cases prev with
  | none=>
   simp only[nil_append,cons_append]
   cases xE x p<;>cases ps.all (xE x)<;>cases (x.kind !=2)<;>simp
  | some a=>
   simp only[nil_append,cons_append]
   rw[xQ]
   cases xE x p<;>cases ps.all (xE x)<;>cases (x.kind !=2)<;>simp
theorem ZO(x:dR)(ps:List aD):nW x none ps=sJ x ps:=by
 rw[SS];rfl
def Ce(t:aD)(i:Nat):Bool:=match t.drop i with
 | n::r=>(match Y.parts n.many.toNat r with | some ps=>sJ n ps | none=>false)
 | []=>true
def lZ(t:aD)(i:Nat):Bool:=match t.drop i with
 | n::r=>(match Y.parts n.many.toNat r with | some ps=>xg cO n ps | none=>false)
 | []=>true
theorem VR{t:aD}{i:Nat}{n:dR}(hi:t[i]?=some n):Y.gF (jo bA cO) (t.drop i)=(bQ bA n && Ce t i && lZ t i && Y.gF (jo bA cO) (t.drop (i+1))):=by
 have hl:=(List.getElem?_eq_some_iff.1 hi).1
 have hd:=drop_eq_getElem_cons hl
 rw[List.getElem?_eq_getElem hl]at hi
 cases hi
 simp only[Ce,lZ,hd,Y.gF]
 cases Y.parts (t[i]).many.toNat (t.drop (i+1)) with
 | none=>simp
 | some ps=>simp[jo]
def kF(t:aD)(i:Nat)(p:List Stp):Int:=match fD p (Y.qc t i) with
 | some j=>(i+j:Nat)
 | none=>-1
theorem yO:∀(p:List Stp) (t:aD) (j:Nat),Y.One t→fD p t=some j→j<t.length
 | [],t,j,ho,h=>by
  simp only[fD,Option.some.injEq]at h
  subst h
  exact List.length_pos_iff.2 ho.ne
 | s::p,[],j,ho,_=>absurd rfl ho.ne
 | s::p,x::r,j,ho,h=>by
  obtain⟨hm,ps,h1,h2,h3⟩:=ho.parts
  have hp:Y.partsOf x r=ps:=by simp[Y.partsOf,h1]
  simp only[fD,hp]at h
  split at h
  ·cases hf:kS s.name 1 ps with
   | none=>rw[hf]at h;cases h
   | some oq=>
    obtain⟨o,q⟩:=oq
    rw[hf]at h
    simp only[Option.map_eq_some_iff]at h
    obtain⟨k,hk,rfl⟩:=h
    have gen:∀(qs:List aD) (o0:Nat),kS s.name o0 qs=some (o,q)→q∈qs∧o+q.length≤o0+qs.flatten.length:=by
     intro qs
     induction qs with
     | nil=>intro o0 h;simp[kS]at h
     | cons a t ih=>
      intro o0 h
      simp only[kS]at h
      split at h
      ·simp only[Option.some.injEq,Prod.mk.injEq]at h
       obtain⟨rfl,rfl⟩:=h
       exact⟨List.mem_cons_self ..,by simp only[flatten_cons,List.length_append];omega⟩
      ·obtain⟨g1,g2⟩:=ih _ h
       exact⟨List.mem_cons_of_mem _ g1,by simp only[flatten_cons,List.length_append];omega⟩
    obtain⟨g1,g2⟩:=gen ps 1 hf
    have:=yO p q k (h3 q g1) hk
    rw[h2]at g2
    simp only[List.length_cons]
    omega
  ·cases h
theorem SV{t:aD}{i:Nat}{p:List Stp}(ho:Y.One t)(hi:i<t.length):kF t i p<t.length∧(0≤kF t i p∨kF t i p=-1):=by
 unfold kF
 cases h:fD p (Y.qc t i) with
 | none=>
  show (-1:Int)<t.length∧(0≤(-1:Int)∨(-1:Int)=-1)
  exact⟨by omega,.inr rfl⟩
 | some j=>
  obtain⟨ps,c,_,_,_,_,h5,h6,h7,h8⟩:=Y.uj ho (List.getElem?_eq_getElem hi)
  have hs:(Y.qc t i).length=1+c:=by
   rw[h7,List.length_cons,h5,length_take,length_drop];omega
  have hone:Y.One (Y.qc t i):=by
   rw[h7]
   exact Y.One.made (by
    have:=Y.bD _ _ _ ‹Y.parts _ _=some ps›
    omega) h6
  have:=yO p _ j hone h
  simp only
  omega
theorem adK{t:aD}{i j:Nat}(ho:Y.One t)(hi:i<t.length)(hj:j<(Y.qc t i).length):(Y.qc t i)[j]?=t[i+j]?:=by
 obtain⟨ps,c,_,_,_,_,h5,h6,h7,h8⟩:=Y.uj ho (List.getElem?_eq_getElem hi)
 have e:Y.qc t i=(t.drop i).take (c+1):=by rw[h7,h5,drop_eq_getElem_cons hi,List.take_succ_cons]
 rw[e]at hj ⊢
 rw[length_take,length_drop]at hj
 rw[List.getElem?_take,if_pos (by omega),List.getElem?_drop]
theorem sub_one{t:aD}{i:Nat}(ho:Y.One t)(hi:i<t.length):Y.One (Y.qc t i):=by
 obtain⟨ps,c,_,_,h3,_,h5,h6,h7,h8⟩:=Y.uj ho (List.getElem?_eq_getElem hi)
 rw[h7]
 exact Y.One.made (by have:=Y.bD _ _ _ h3;omega) h6
theorem ab8{t:aD}{i:Nat}{p:List Stp}(ho:Y.One t)(hi:i<t.length):(fo p (Y.qc t i)).isSome=true↔0≤kF t i p∧∃x,t[(kF t i p).toNat]?=some x∧x.kind=1:=by
 unfold fo kF
 cases h:fD p (Y.qc t i) with
 | none=>simp
 | some j=>
  have hj:=yO p _ j (sub_one ho hi) h
  have hr:=adK ho hi hj
  simp only[Int.toNat_natCast]
  rw[hr]
  constructor
  ·intro hs
   split at hs
   ·rename_i hk
    cases hx:t[i+j]? with
    | none=>rw[hx]at hk;simp at hk
    | some x=>rw[hx]at hk;exact⟨by omega,x,rfl,by simpa using hk⟩
   ·cases hs
  ·rintro⟨_,x,hx,hk⟩
   rw[hx,Option.map_some,hk]
   rfl
def gy(t:aD):Bool:=!t.isEmpty && Y.nameOf t==[] && Y.kindOf t !=9 && (Y.iX t.length t 1==some t.length) && Y.gF (jo bA cO) t
def ql(t:aD):Bool:=gy t && Y.gF IW t
theorem vo{t:aD}(h:gy t=true):oC bA cO t:=by
 simp only[gy,Bool.and_eq_true,beq_iff_eq,bne_iff_ne]at h
 obtain⟨⟨⟨⟨_,h1⟩,h2⟩,h3⟩,h4⟩:=h
 exact⟨Y.o_ _ _ _ _ h3,h1,h2,(Y.lM t).1 h4⟩
theorem Nk{pk:List UInt8→Bool}{pth:List UInt8→List Stp}{n:dR}{ps:List aD}(hk:n.kind=1)(ab9:sJ n ps=true)(ho:∀p∈ps,Y.One p)(hg:∀p∈ps,Y.Good (jo pk pth) p) :
  ps.flatten.length=ps.length∧∀x∈ps.flatten,fO (iW x)=true∧x.kind=9∧x.s=[]∧x.many=0:=by
 have hone:∀p∈ps,∃x,p=[x]∧x.kind=9∧x.s=[]∧x.many=0∧fO (iW x)=true:=λp hp=>by
  refine ME (ho p hp) (hg p hp) ?_
  simp only[sJ,Bool.and_eq_true,List.all_eq_true]at ab9
  have:=ab9.1 p hp
  simp only[xE,Bool.and_eq_true,hk]at this
  have h9:=this.1.1
  simpa using h9
 clear ab9 ho hg
 induction ps with
 | nil=>exact⟨rfl,λx hx=>by cases hx⟩
 | cons q qs ih=>
  obtain⟨i1,i2⟩:=ih λp hp=>hone p (List.mem_cons_of_mem _ hp)
  obtain⟨x,rfl,x1,x2,x3,x4⟩:=hone q (List.mem_cons_self ..)
  refine⟨by simp[i1],λy hy=>?_⟩
  simp only[flatten_cons,cons_append,nil_append,List.mem_cons]at hy
  rcases hy with rfl | hy
  ·exact⟨x4,x1,x2,x3⟩
  ·exact i2 y hy
theorem XR{t:aD}{i:Nat}{n:dR}(hr:oC bA cO t)(hn:t[i]?=some n)(hk:n.kind=1) :
  ∃ps,Y.parts n.many.toNat (t.drop (i+1))=some ps∧ps.flatten=(t.drop (i+1)).take n.many.toNat∧0≤n.many∧i+1+n.many.toNat≤t.length∧1≤n.n∧n.n≤31∧∀x∈ps.flatten,fO (iW x)=true:=by
 obtain⟨hi,rfl⟩:=List.getElem?_eq_some_iff.1 hn
 obtain⟨ps,c,h1,h2,h3,h4,h5,h6,h7,h8⟩:=Y.uj hr.one (List.getElem?_eq_getElem hi)
 obtain⟨qs,q1,q2⟩:=hr.good i t[i] (t.drop (i+1)) (drop_eq_getElem_cons hi)
 rw[h3]at q1;cases q1
 simp only[jo,Bool.and_eq_true]at q2
 have hgs:Y.Good (jo bA cO) ps.flatten:=by
  have hg0:=hr.good
  rw[←List.take_append_drop (i+1) t]at hg0
  have hg1:=hg0.suf
  rw[←List.take_append_drop c (t.drop (i+1)),←h5]at hg1
  have hone:Y.skip ps.flatten ps.length=some ps.flatten.length:=Y.lK ps h6
  intro j m s hd
  obtain⟨qs,e1,e2⟩:=hg1 j m (s++(t.drop (i+1)).drop c) (Y.xO hd)
  have hj:j<ps.flatten.length:=by
   rcases Nat.lt_or_ge j ps.flatten.length with h | h
   ·exact h
   ·rw[List.drop_eq_nil_of_le h]at hd;cases hd
  obtain⟨k',c',hk'⟩:=Y.qI ps.flatten ps.length _ j hone hj
  rw[hd]at hk'
  obtain⟨_,c2,rfl,hk2⟩:=Y.dF hk'
  obtain⟨ca,cb,hka,_,_⟩:=Y.pq _ m.many.toNat k' c2 (by rw[Nat.add_comm];exact hk2)
  obtain⟨rs,r1,_,_⟩:=Y.fF _ _ _ hka
  have:=Y.jd _ _ ((t.drop (i+1)).drop c) _ r1
  rw[e1]at this;cases this
  exact⟨qs,r1,e2⟩
 obtain⟨a1,a2⟩:=Nk hk q2.1.2 h6 (Y.Good.jm ps h6 hgs)
 have hpl:=Y.bD _ _ _ h3
 have hcl:ps.flatten.length=c:=by rw[h5,length_take,length_drop];omega
 have hc:c=(t[i]).many.toNat:=by omega
 have hp:=q2.1.1
 simp only[bQ,hk,Int.reduceEq,if_false,if_true,Bool.and_eq_true,decide_eq_true_eq]at hp
 exact⟨ps,h3,by rw[h5,hc],h1,by omega,hp.1.1.1.2,hp.1.1.2,λx hx=>(a2 x hx).1⟩
def zT(t:aD)(i:Nat):Bool:=match t.drop i with
 | n::r=>(match Y.parts n.many.toNat r with | some ps=>IW n ps | none=>false)
 | []=>true
theorem VS{t:aD}{i:Nat}{n:dR}(hi:t[i]?=some n):Y.gF IW (t.drop i)=(zT t i && Y.gF IW (t.drop (i+1))):=by
 have hl:=(List.getElem?_eq_some_iff.1 hi).1
 have hd:=drop_eq_getElem_cons hl
 rw[List.getElem?_eq_getElem hl]at hi
 cases hi
 simp only[zT,hd,Y.gF]
 rfl
end Lp
namespace Lp
open Go Go.Proofs
def rR(v:aD)(i:Nat):Int:=match Y.iX v.length (v.drop i) 1 with
 | some c=>(i+c:Nat)
 | none=>-1
theorem Cf{v:aD}{i:Nat}(h:(Y.iX v.length (v.drop i) 1).map (λc=>i+c)=none):rR v i=-1:=by
 unfold rR
 cases hx:Y.iX v.length (v.drop i) 1 with
 | none=>rfl
 | some c=>rw[hx]at h;simp at h
theorem J4{v:aD}{i j:Nat}(h:(Y.iX v.length (v.drop i) 1).map (λc=>i+c)=some j):rR v i=j:=by
 unfold rR
 cases hx:Y.iX v.length (v.drop i) 1 with
 | none=>rw[hx]at h;simp at h
 | some c=>rw[hx]at h;simp only[Option.map_some,Option.some.injEq]at h;rw[←h]
theorem Nl(L:Nat)(v:aD):Y.iX L v 0=some 0:=by cases v<;>rfl
theorem VT(v:aD)(i:Nat)(hi:i≤v.length)(hl:v.length≤1000000):ai Tryz.prog 31 [ay v,.int .i64 i] [] (.int .i64 (rR v i)) []:=by
 refine D8.aX (T:=aR Tryz.prog []) 0 hD (aj ah) aV (by decide) λQ hQ=>?_
 (conv=>arg 4;cbv);simp (maxSteps:=400000) only[↓ak,au,BEq.rfl,seval,hQ]
 refine aF (λm S=>∃j k:Nat,j+m=v.length∧k≤1+j*1000000∧(Y.iX v.length (v.drop i) 1).map (λc=>i+c)=(Y.iX v.length (v.drop j) k).map (λc=>j+c)∧
  S=⟨dG 41 [(0,ay v),(1,.int .i64 j),(5,.int .i64 k)],[]⟩) (v.length-i) ⟨i,1,by omega,by omega,rfl,?_⟩ ?_
 ·simp only[bN,keepR,Nat.reduceAdd,lJ,Nat.reduceBEq,List.map_nil]
  rfl
 rintro m S ⟨j,k,hjm,hk,hn,rfl⟩
 rcases Nat.lt_or_ge j v.length with h | h
 ·have hg:=List.getElem?_eq_getElem h
  have hd:=List.drop_eq_getElem_cons h
  generalize v[j]=n at hg hd
  simp (maxSteps:=400000) only[↓ak,au,BEq.rfl,seval,hQ,hg]
  refine⟨λhk0=>⟨λh'=>absurd h' (by omega),λ_=>⟨by omega,λhm=>?_,λhm=>⟨by omega,λhm2=>?_,λhm2=>?_⟩⟩⟩,λhk0=>?_⟩
  ·obtain⟨k,rfl⟩:∃q,k=q+1:=⟨k-1,by omega⟩
   rw[hd,Y.iX,if_pos (.inl hm)]at hn
   rw[Cf hn]
  ·obtain⟨k,rfl⟩:∃q,k=q+1:=⟨k-1,by omega⟩
   rw[hd,Y.iX,if_pos (.inr hm2)]at hn
   rw[Cf hn]
  ·obtain⟨k,rfl⟩:∃q,k=q+1:=⟨k-1,by omega⟩
   rw[hd,Y.iX,if_neg (by omega)]at hn
   have hk2:(((k+1:Nat):Int)-1+n.many)=((k+n.many.toNat:Nat):Int):=by omega
   refine⟨⟨by omega,by omega⟩,by omega,⟨by omega,by omega⟩,⟨by omega,by omega⟩,m-1,by omega,j+1,k+n.many.toNat,by omega,by omega,?_,?_⟩
   ·rw[hn]
    cases Y.iX v.length (v.drop (j+1)) (k+n.many.toNat) with
    | none=>rfl
    | some c=>simp;omega
   ·rw[hk2];rfl
  ·have hk1:k=0:=by omega
   subst hk1
   rw[Nl]at hn
   rw[J4 (j:=j) (by simpa using hn)]
 ·simp (maxSteps:=400000) only[↓ak,au,BEq.rfl,seval,hQ]
  refine⟨λhk0=>⟨λ_=>?_,λh'=>absurd (by omega) h'⟩,λhk0=>?_⟩
  ·obtain⟨k,rfl⟩:∃q,k=q+1:=⟨k-1,by omega⟩
   rw[List.drop_eq_nil_of_le h]at hn
   simp only[Y.iX,Option.map_none]at hn
   rw[Cf hn]
  ·have hk1:k=0:=by omega
   subst hk1
   rw[Nl]at hn
   rw[J4 (j:=j) (by simpa using hn)]
theorem SX(v:aD)(i:Int)(h0:0≤i)(hi:i.toNat≤v.length)(hl:v.length≤1000000):ai Tryz.prog 31 [ay v,.int .i64 i] [] (.int .i64 (rR v i.toNat)) []:=by
 have e:i=(i.toNat:Int):=by omega
 rw[e]
 exact VT v i.toNat hi hl
def fM:dD:=λargs objs K=>match args with
 | [a0,.int .i64 i]=>dZ ay a0 (HK.mk:HK λv=>(0≤i)∧(i.toNat≤v.length)∧(v.length≤1000000)∧K (.int .i64 (rR v i.toNat)) objs 0)
 | _=>False
theorem nX:aC Tryz.prog 31 (fM):=by
 intro args objs K h
 unfold fM at h
 split at h
 ·rename_i a0 i
  obtain⟨v,rfl,h1,h2,h3,hk⟩:=h
  exact⟨_,_,_,.pure _ rfl (SX v i h1 h2 h3),hk⟩
 ·exact h.elim
theorem yP{t:aD}{i c:Nat}(h:Y.iX t.length (t.drop i) 1=some c):rR t i=(i+c:Nat):=by
 simp only[rR,h]
theorem tC(objs:List Obj)(K:KT) :
  (∀k m nm,bM D 51 [(0,.int .i64 k),(1,.int .i64 m),(2,.str nm)] objs K=K (aP ⟨k,m,nm,[],0,aQ⟩) objs 0)∧
  (∀k n m,bM D 51 [(0,.int .i64 k),(4,.int .i64 n),(1,.int .i64 m)] objs K=K (aP ⟨k,m,[],[],n,aQ⟩) objs 0)∧
  (∀k n c,bM D 51 [(0,.int .i64 k),(4,.int .i64 n),(5,aB c)] objs K=K (aP ⟨k,0,[],[],n,c⟩) objs 0)∧
  (∀k n,bM D 51 [(0,.int .i64 k),(4,.int .i64 n)] objs K=K (aP ⟨k,0,[],[],n,aQ⟩) objs 0)∧
  (∀k,bM D 51 [(0,.int .i64 k)] objs K=K (aP ⟨k,0,[],[],0,aQ⟩) objs 0)∧
  (bM D 51 [] objs K=K (aP ⟨0,0,[],[],0,aQ⟩) objs 0):=by
 have z:aL (D 51)=aP ⟨0,0,[],[],0,aQ⟩:=by kernel_rfl
 have a:(D 51).agg=true:=by kernel_rfl
 simp only[bS]at z a
 refine⟨λk m nm=>?_,λk n m=>?_,λk n c=>?_,λk n=>?_,λk=>?_,?_⟩
 all_goals
  simp[bM,mI,a,z,bS,nD,aP,aB,aQ,PV.isAgg,q9,PV.cells,PV.storable,PV.mV,PV.pure]
theorem iy:PV.xH (.agg ⟨[.int .i64 0,.int .i64 0,.string ⟨⟨[]⟩⟩,.string ⟨⟨[]⟩⟩,.int .i64 0,.int .i64 0,.int .i64 0,.string ⟨⟨[]⟩⟩,.string ⟨⟨[]⟩⟩,.bool false,.int .i64 0]⟩)=aP ⟨0,0,[],[],0,aQ⟩:=rfl
theorem atB(objs:List Obj)(K:KT):(∀n c,bM D 29 [(0,.int .i64 n),(1,aB c)] objs K=K (b_ ⟨n,c⟩) objs 0):=by
 have z:aL (D 29)=b_ ⟨0,aQ⟩:=by kernel_rfl
 have a:(D 29).agg=true:=by kernel_rfl
 simp only[bS]at z a
 intro n c
 simp[bM,mI,a,z,bS,nD,b_,aB,aQ,PV.isAgg,q9,PV.cells,PV.storable,PV.mV,PV.pure]
theorem iJ(a:dR)(k m:Int)(nm s:List UInt8)(n ck cm:Int)(cn cs:List UInt8)(cg:Bool)(ce:Int):(aP a).putCells 0 [.int .i64 k,.int .i64 m,.str nm,.str s,.int .i64 n,.int .i64 ck,.int .i64 cm,.str cn,.str cs,.bool cg,.int .i64 ce]=aP ⟨k,m,nm,s,n,⟨ck,cm,cn,cs,cg,ce⟩⟩:=rfl
theorem vw:(∀x:dR,PV.agg [.int .i64 x.kind,.int .i64 x.many,.str x.name,.str x.s,.int .i64 x.n,.int .i64 x.c.kind,.int .i64 x.c.many,.str x.c.name,.str x.c.s,.bool x.c.neg,.int .i64 x.c.e]=aP x)∧
  (∀(x:dR) nm,PV.agg [.int .i64 x.kind,.int .i64 x.many,.str nm,.str x.s,.int .i64 x.n,.int .i64 x.c.kind,.int .i64 x.c.many,.str x.c.name,.str x.c.s,.bool x.c.neg,.int .i64 x.c.e]=aP { x with name:=nm }):=⟨λ_=>rfl,λ_ _=>rfl⟩
theorem dm(n:Nd):Nd.mk n.kind n.many n.name n.s n.neg n.e=n:=rfl
theorem eG(x:dR):dR.mk x.kind x.many x.name x.s x.n x.c=x:=rfl
theorem ab_:PV.xH (.agg ⟨[.int .i64 0,.int .i64 0,.int .i64 0,.string ⟨⟨[]⟩⟩,.string ⟨⟨[]⟩⟩,.bool false,.int .i64 0]⟩)=b_ ⟨0,aQ⟩:=rfl
theorem Iz(v:List gG)(ver:Nat)(t:TypeId)(rest:List Obj):eZ 1 0 (⟨t,7,v.map b_,true,ver⟩::rest) (.bO 0 ver)=bG v:=by
 have:(v.map b_).map (PV.bL (gX 0 0 (⟨t,7,v.map b_,true,ver⟩::rest)))=v.map b_:=by
  rw[List.map_map];exact List.map_congr_left λx _=>rfl
 simp only[eZ,Nat.not_lt_zero,if_false,gX,List.getElem?_cons_zero,Nat.le_refl,decide_true,Bool.true_and,beq_self_eq_true,if_true,this]
 rfl
theorem VU:∀d X v,eZ d 1 X (.bO 0 v)=.bO 0 v:=λ_ _ _=>rfl
end Lp
namespace Lp
open Go Go.Proofs
section
variable {P:Program}
theorem SY{w:World}{d:Nat}{ok:Nat→Prop}{xs ys:Array Value}{gs:List Field}{r2:Bool}(hg:(Op.eqFields (d+1) xs ys gs).run P w=.ok r2 w):∀(fs:List Field) (k:Nat) (aa bs:List PV) (r:Bool),yx P k fs aa bs=true→Ac aa bs=some r→
  (∀i p,aa[i]?=some p→∃v,xs[k+i]?=some v∧dM w ok p v)→(∀i p,bs[i]?=some p→∃v,ys[k+i]?=some v∧dM w ok p v)→
  (Op.eqFields (d+1) xs ys (fs++gs)).run P w=.ok (r && r2) w
 | [],k,aa,bs,r,hf,he,_,_=>by
  cases aa<;>cases bs<;>simp[yx]at hf
  simp only[Ac,Option.some.injEq]at he
  subst he
  simpa using hg
 | f::fs,k,aa,bs,r,hf,he,ha,hb=>by
  cases aa with
  | nil=>cases bs<;>simp[yx]at hf
  | cons p aa=>
   cases bs with
   | nil=>simp[yx]at hf
   | cons q bs=>
    simp only[yx,Bool.and_eq_true,beq_iff_eq,bne_iff_ne]at hf
    obtain⟨⟨⟨hn,ho⟩,ht⟩,hr⟩:=hf
    obtain⟨v,hv,rv⟩:=ha 0 p rfl
    obtain⟨u,hu,ru⟩:=hb 0 q rfl
    obtain⟨b,hb1,hb2,e,he1,he2⟩:=abw (d:=d) ht rv ru
    simp only[Ac,hb1]at he
    cases hq:Ac aa bs with
    | none=>rw[hq]at he;simp at he
    | some r'=>
     rw[hq]at he
     simp only[Option.some.injEq]at he
     subst he
     have ih:=SY (w:=w) (d:=d) (ok:=ok) (xs:=xs) (ys:=ys) hg fs (k+1) aa bs r' hr hq (λi p h=>by have:=ha (i+1) p (by simpa using h);rwa[show k+(i+1)=k+1+i by omega]at this) (λi p h=>by have:=hb (i+1) p (by simpa using h);rwa[show k+(i+1)=k+1+i by omega]at this)
     have p1:=yA (w:=w) (xs:=xs) (o:=f.offset) he1 he2 (by rw[ho];simpa using hv)
     have p2:=yA (w:=w) (xs:=ys) (o:=f.offset) he1 he2 (by rw[ho];simpa using hu)
     simp only[List.cons_append,Op.eqFields,ne_eq,hn,not_false_eq_true,if_true,Sem.run_bind,p1,Result.andThen_ok,p2,hb2]
     cases b
     ·simp
     ·simpa using ih
theorem XT:∀{a1 b1 a2 b2:List PV}{r:Bool},a1.length=b1.length→Ac (a1++a2) (b1++b2)=some r→∃r1 r2,Ac a1 b1=some r1∧Ac a2 b2=some r2∧r=(r1 && r2)
 | [],[],a2,b2,r,_,h=>⟨true,r,rfl,h,by simp⟩
 | [],_::_,_,_,_,hl,_=>by simp at hl
 | _::_,[],_,_,_,hl,_=>by simp at hl
 | p::a1,q::b1,a2,b2,r,hl,h=>by
  simp only[List.cons_append,Ac]at h
  cases hs:eqS p q with
  | none=>rw[hs]at h;simp at h
  | some x=>
   cases ht:Ac (a1++a2) (b1++b2) with
   | none=>rw[hs,ht]at h;simp at h
   | some y=>
    rw[hs,ht]at h
    simp only[Option.some.injEq]at h
    obtain⟨r1,r2,h1,h2,rfl⟩:=XT (by simpa using hl) ht
    refine⟨x && r1,r2,by simp[Ac,hs,h1],h2,?_⟩
    rw[←h,Bool.and_assoc]
theorem ZP{t:TypeId}{fs:List Field}{g:Field}{a1 a2 b1 b2:List PV}(hgd:P.eqGuardType P.depth t=false)(ht:P.underlying t=some (.struct (P.fieldsOf t)))(hp:P.stoodInHeld t=false)
  (hfs:(P.fieldsOf t).toList=fs++[g]) (hf:yx P 0 fs a1 b1=true) (hn:g.name≠ "_") (ho:g.offset=a1.length) (hl1:a1.length=b1.length) (hl2:a2.length=b2.length)
  (hu:P.underlying g.type=some (.struct (P.fieldsOf g.type))) (hp2:P.stoodInHeld g.type=false) (hs:∀w,(Go.sizeOf g.type).run P w=.ok a2.length w) (hf2:yx P 0 (P.fieldsOf g.type).toList a2 b2=true) :
  Cy P t (a1++a2) (b1++b2):=by
 refine⟨hgd,λw ok vs us r hr h1 h2=>?_⟩
 obtain⟨r1,r2,e1,e2,rfl⟩:=XT hl1 hr
 have e:Op.equal t (.agg ⟨vs⟩) (.agg ⟨us⟩)=Op.equalIn (9999+1) t (.agg ⟨vs⟩) (.agg ⟨us⟩):=rfl
 rw[e,run_equalIn_struct w 9999 t _ _ ht hp,hfs]
 have get:∀{xs:List Value}{c1 c2:List PV},dB (dM w ok) (c1++c2) xs→(∀i p,c1[i]?=some p→∃v,(⟨xs⟩:Array Value)[0+i]?=some v∧dM w ok p v)∧(∀i p,c2[i]?=some p→∃v,(⟨xs⟩:Array Value)[c1.length+i]?=some v∧dM w ok p v):=by
  intro xs c1 c2 h
  have hlen:=h.1
  rw[List.length_append]at hlen
  constructor
  ·intro i p hi
   have hlt:=(List.getElem?_eq_some_iff.1 hi).1
   have hv:xs[i]?=some (xs[i]'(by omega)):=List.getElem?_eq_getElem _
   exact⟨_,by simpa using hv,h.2 i p _ (by rw[List.getElem?_append_left hlt];exact hi) hv⟩
  ·intro i p hi
   have hlt:=(List.getElem?_eq_some_iff.1 hi).1
   have hv:xs[c1.length+i]?=some (xs[c1.length+i]'(by omega)):=List.getElem?_eq_getElem _
   exact⟨_,by simpa using hv,h.2 _ p _ (by rw[List.getElem?_append_right (by omega)];simpa using hi) hv⟩
 obtain⟨g1,g2⟩:=get h1
 obtain⟨k1,k2⟩:=get h2
 refine SY (d:=9998) (ok:=ok) ?_ fs 0 a1 b1 r1 hf e1 g1 k1
 have pt:∀xs:Array Value,(part g.type xs g.offset).run P w=.ok (.agg (xs.extract g.offset (g.offset+a2.length))) w:=λxs=>by
  simp[part,isAgg,run_underlying hu,hs]
 have ext:∀{xs:Array Value}{c:List PV},c.length=a2.length→(∀i p,c[i]?=some p→∃v,xs[g.offset+i]?=some v∧dM w ok p v)→∀i p,c[i]?=some p→∃v,(xs.extract g.offset (g.offset+a2.length))[0+i]?=some v∧dM w ok p v:=by
  intro xs c hc h i p hi
  have hlt:=(List.getElem?_eq_some_iff.1 hi).1
  obtain⟨v,q1,q2⟩:=h i p hi
  refine⟨v,?_,q2⟩
  have hx:=(Array.getElem?_eq_some_iff.1 q1).1
  rw[Nat.zero_add,Array.getElem?_extract,if_pos (by omega)]
  exact q1
 have hin:=Oq (d:=9997) (w:=w) (ok:=ok) (xs:=Array.extract ⟨vs⟩ g.offset (g.offset+a2.length)) (ys:=Array.extract ⟨us⟩ g.offset (g.offset+a2.length)) _ 0 a2 b2 r2 hf2 e2
  (ext rfl (by rw[ho];exact g2)) (ext hl2.symm (by rw[ho,hl1];exact k2))
 have hst:=run_equalIn_struct w 9998 g.type (Array.extract ⟨vs⟩ g.offset (g.offset+a2.length)) (Array.extract ⟨us⟩ g.offset (g.offset+a2.length)) hu hp2
 have hst':(Op.equalIn (9998+1) g.type (.agg (Array.extract ⟨vs⟩ g.offset (g.offset+a2.length))) (.agg (Array.extract ⟨us⟩ g.offset (g.offset+a2.length)))).run P w=.ok r2 w:=hst.trans hin
 simp only[Op.eqFields,ne_eq,hn,not_false_eq_true,if_true,Sem.run_bind,pt,Result.andThen_ok,hst']
 cases r2<;>simp
end
theorem acd(a b:dR):Cy Tryz.prog 51 (aP a).cells (aP b).cells:=by
 have h:(Tryz.prog.fieldsOf 51).toList.map (λf=>(f.name != "_",f.offset,f.type))=[(true,0,3),(true,1,3),(true,2,9),(true,3,9),(true,4,3),(true,5,27)]:=by kernel_rfl
 generalize hfs:(Tryz.prog.fieldsOf 51).toList=fs at h
 obtain _ | ⟨f0,_ | ⟨f1,_ | ⟨f2,_ | ⟨f3,_ | ⟨f4,_ | ⟨f5,_ | ⟨f6,fr⟩⟩⟩⟩⟩⟩⟩:=fs
 all_goals simp only[List.map_cons,List.map_nil,List.cons.injEq,Prod.mk.injEq,and_true,reduceCtorEq,and_false]at h
 obtain⟨⟨a0,b0,c0⟩,⟨a1,b1,c1⟩,⟨a2,b2,c2⟩,⟨a3,b3,c3⟩,⟨a4,b4,c4⟩,⟨a5,b5,c5⟩⟩:=h
 have u3:Tryz.prog.underlying 3=some (.int .i64):=by kernel_rfl
 have u9:Tryz.prog.underlying 9=some .string:=by kernel_rfl
 have hN:=abx a.c b.c
 have key:=ZP (P:=Tryz.prog) (t:=51) (fs:=[f0,f1,f2,f3,f4]) (g:=f5) (a1:=[.int .i64 a.kind,.int .i64 a.many,.str a.name,.str a.s,.int .i64 a.n]) (b1:=[.int .i64 b.kind,.int .i64 b.many,.str b.name,.str b.s,.int .i64 b.n]) (a2:=(aB a.c).cells) (b2:=(aB b.c).cells)
  (by kernel_rfl) (by kernel_rfl) (by kernel_rfl) (by rw[hfs];rfl)
  (by simp only[yx,Y8,a0,b0,c0,a1,b1,c1,a2,b2,c2,a3,b3,c3,a4,b4,c4,u3,u9,Bool.and_true,BEq.rfl,decide_true,Nat.zero_add,Nat.reduceAdd])
  (by simpa using a5) (by rw[b5];rfl) rfl rfl (by rw[c5];kernel_rfl) (by rw[c5];kernel_rfl) (λw=>by rw[c5];have h:=(hD 27).dQ (by simp[bS]) w;simp only[bS]at h;exact h) (by
   rw[c5]
   have h:(Tryz.prog.fieldsOf 27).toList.map (λf=>(f.name != "_",f.offset,Tryz.prog.underlying f.type))=[(true,0,some (.int .i64)),(true,1,some (.int .i64)),(true,2,some .string),(true,3,some .string),(true,4,some .bool),(true,5,some (.int .i64))]:=by kernel_rfl
   generalize (Tryz.prog.fieldsOf 27).toList=fs at h
   obtain _ | ⟨f0,_ | ⟨f1,_ | ⟨f2,_ | ⟨f3,_ | ⟨f4,_ | ⟨f5,_ | ⟨f6,fr⟩⟩⟩⟩⟩⟩⟩:=fs
   all_goals simp only[List.map_cons,List.map_nil,List.cons.injEq,Prod.mk.injEq,and_true,reduceCtorEq,and_false]at h
   obtain⟨⟨a0,b0,c0⟩,⟨a1,b1,c1⟩,⟨a2,b2,c2⟩,⟨a3,b3,c3⟩,⟨a4,b4,c4⟩,⟨a5,b5,c5⟩⟩:=h
   simp only[yx,Y8,aB,PV.cells,a0,b0,c0,a1,b1,c1,a2,b2,c2,a3,b3,c3,a4,b4,c4,a5,b5,c5,Bool.and_true,BEq.rfl,decide_true,Nat.zero_add,Nat.reduceAdd])
 exact key
theorem ag5(ti:aH)(K:PV→Prop) :
  (∀a b,pM Tryz.prog ti 51 .eql (aP a) (aP b) K=K (.bool (decide (a=b))))∧
  (∀a b,pM Tryz.prog ti 51 .neq (aP a) (aP b) K=K (.bool (!decide (a=b)))):=by
 refine⟨λa b=>?_,λa b=>?_⟩
 ·show (Cy Tryz.prog 51 (aP a).cells (aP b).cells∧∃r,Ac (aP a).cells (aP b).cells=some r∧K (.bool r))=_
  rw[afA]
  simp[acd]
 ·show (Cy Tryz.prog 51 (aP a).cells (aP b).cells∧∃r,Ac (aP a).cells (aP b).cells=some r∧K (.bool (!r)))=_
  rw[afA]
  simp[acd]
end Lp
namespace Lp
open Go Go.Proofs
def jN(n:dR):Bool:=decide (n.s.length≤100) && decide (n.name.length≤100) && decide (n.c.s.length≤100)
theorem VW(t:aD)(k:Nat)(hk:k≤1000000)(hl:t.length≤4611686018427387904)(htx:∀n∈t,n.s.length≤4611686018427387904∧n.name.length≤4611686018427387904∧n.c.s.length≤4611686018427387904) :
  ai Tryz.prog 24 [ay t,.int .i64 k] [] (.bool (decide (t.length≤k) && t.all jN)) []:=by
 refine BU.aX (T:=aR Tryz.prog []) 0 hD (aj ah) aV (by decide) λQ hQ=>?_
 (conv=>arg 4;cbv);simp (maxSteps:=400000) only[↓ak,au,BEq.rfl,seval,hQ]
 refine aF (λm S=>∃i:Nat,i+m=t.length∧i≤k∧(∀(j:Nat) x,j<i→t[j]?=some x→jN x=true)∧S=⟨dG 43 [(0,ay t),(1,.int .i64 k),(5,.int .i64 i)],[]⟩) t.length ⟨0,by omega,by omega,λj x h=>absurd h (Nat.not_lt_zero j),?_⟩ ?_
 ·simp only[bN,keepR,Nat.reduceAdd,lJ,Nat.reduceBEq,List.map_nil]
  rfl
 rintro m S ⟨i,him,hik,hb,rfl⟩
 have zi:(0≤(i:Int))=True:=eq_true (by omega)
 rcases Nat.lt_or_ge i t.length with h | h
 ·have hlt:((i:Int)<(t.length:Int))=True:=eq_true (by omega)
  have hgi:=List.getElem?_eq_getElem h
  have ahU:=htx _ (List.getElem_mem h)
  generalize t[i]=x at hgi ahU
  have no:jN x=false→(decide (t.length≤k) && t.all jN)=false:=λhx=>by
   have:t.all jN=false:=by rw[List.all_eq_false];exact⟨x,List.mem_of_getElem? hgi,by simp[hx]⟩
   simp[this]
  rcases Nat.lt_or_ge i k with g | g
  rotate_left 1
  ·have hkl:((k:Int)≤(i:Int))=True:=eq_true (by omega)
   have hr:(decide (t.length≤k) && t.all jN)=false:=by
    have:decide (t.length≤k)=false:=decide_eq_false (by omega)
    simp[this]
   simp (maxSteps:=400000) only[↓ak,au,BEq.rfl,seval,hQ,hlt,zi,hgi,hkl,hr]
  have hkl:((k:Int)≤(i:Int))=False:=eq_false (by omega)
  by_cases h1:x.s.length≤100
  rotate_left 1
  ·have e1:((100:Int)<(x.s.length:Int))=True:=eq_true (by omega)
   have hr:=no (by simp[jN,h1])
   simp (maxSteps:=400000) only[↓ak,au,BEq.rfl,seval,hQ,hlt,zi,hgi,hkl,e1,hr]
  have e1:((100:Int)<(x.s.length:Int))=False:=eq_false (by omega)
  by_cases h2:x.name.length≤100
  rotate_left 1
  ·have e2:((100:Int)<(x.name.length:Int))=True:=eq_true (by omega)
   have hr:=no (by simp[jN,h2])
   simp (maxSteps:=400000) only[↓ak,au,BEq.rfl,seval,hQ,hlt,zi,hgi,hkl,e1,e2,hr]
  have e2:((100:Int)<(x.name.length:Int))=False:=eq_false (by omega)
  by_cases h3:x.c.s.length≤100
  rotate_left 1
  ·have e3:((100:Int)<(x.c.s.length:Int))=True:=eq_true (by omega)
   have hr:=no (by simp[jN,h3])
   simp (maxSteps:=400000) only[↓ak,au,BEq.rfl,seval,hQ,hlt,zi,hgi,hkl,e1,e2,e3,hr]
  have e3:((100:Int)<(x.c.s.length:Int))=False:=eq_false (by omega)
  simp (maxSteps:=400000) only[↓ak,au,BEq.rfl,seval,hQ,hlt,zi,hgi,hkl,e1,e2,e3]
  refine⟨⟨by omega,by omega⟩,m-1,by omega,i+1,by omega,by omega,λj y hj hy=>?_,rfl⟩
  rcases Nat.lt_or_ge j i with g' | g'
  ·exact hb j y g' hy
  ·have:j=i:=by omega
   subst this
   rw[hgi]at hy;cases hy
   simp[jN,h1,h2,h3]
 ·have hlt:((i:Int)<(t.length:Int))=False:=eq_false (by omega)
  have hr:(decide (t.length≤k) && t.all jN)=true:=by
   have h1:decide (t.length≤k)=true:=decide_eq_true (by omega)
   have h2:t.all jN=true:=by
    rw[List.all_eq_true];intro x hx
    obtain⟨j,hj⟩:=List.mem_iff_getElem?.1 hx
    have:=(List.getElem?_eq_some_iff.1 hj).1
    exact hb j x (by omega) hj
   rw[h1,h2];rfl
  simp (maxSteps:=400000) only[↓ak,au,BEq.rfl,seval,hQ,hlt,hr]
def rT:dD:=λargs objs K=>match args with
 | [a0,.int .i64 k]=>dZ ay a0 (HK.mk:HK λt=>(0≤k)∧(k≤1000000)∧(t.length≤4611686018427387904)∧(∀n∈t,n.s.length≤4611686018427387904∧n.name.length≤4611686018427387904∧n.c.s.length≤4611686018427387904)∧K (.bool (decide (t.length≤k.toNat) && t.all jN)) objs 0)
 | _=>False
theorem Lx:aC Tryz.prog 24 (rT):=by
 intro args objs K h
 unfold rT at h
 split at h
 ·rename_i a0 k
  obtain⟨t,rfl,h1,h2,h3,h4,hk⟩:=h
  exact⟨_,_,_,.pure _ rfl ((by have:=VW t k.toNat (by omega) h3 h4;rwa[Int.toNat_of_nonneg h1]at this)),hk⟩
 ·exact h.elim
end Lp
namespace Lp
open Go Go.Proofs
def dw:LC:=
 (.cond (.tmp 105)
        .skip
        (.seq (.reg [⟨some 107,.binOp .eql 3 (.tmp 14) (.const (.int .i64 5)) 3,none,false⟩,
         ⟨some 105,.assign (.tmp 107),none,false⟩])
        (.cond (.tmp 105)
         .skip
         (.reg [⟨some 108,.binOp .eql 3 (.tmp 14) (.const (.int .i64 6)) 3,none,false⟩,
          ⟨some 105,.assign (.tmp 108),none,false⟩]))))
def eT:LC:=
 (.cond (.tmp 117)
         .skip
         (.reg [⟨some 119,.binOp .eql 3 (.tmp 14) (.const (.int .i64 8)) 3,none,false⟩,
          ⟨some 117,.assign (.tmp 119),none,false⟩]))
def eX:LC:=
 (.cond (.tmp 117)
         (.seq (.reg [⟨some 121,.fieldAddr 51 (.tmp 1) 3,none,false⟩,
          ⟨some 122,.load 9 (.tmp 121),none,false⟩,
          ⟨some 123,.call ⟨.value (.func 34),⟨[(.tmp 122)]⟩,⟨[9]⟩⟩,none,false⟩,
          ⟨some 120,.move (.tmp 123),none,false⟩,
          ⟨some 124,.extract (.tmp 120) 0,none,false⟩,
          ⟨some 125,.extract (.tmp 120) 1,none,false⟩,
          ⟨some 4,.assign (.tmp 124),none,false⟩,
          ⟨some 5,.assign (.tmp 125),none,false⟩])
         (.seq (.reg [⟨some 126,.fieldAddr 51 (.tmp 1) 3,none,false⟩,
          ⟨some 127,.load 9 (.tmp 126),none,false⟩,
          ⟨some 128,.fieldAddr 51 (.tmp 3) 3,none,false⟩,
          ⟨none,.store 9 (.tmp 128) (.tmp 127),none,false⟩])
         (.seq (.reg [⟨some 129,.load 51 (.tmp 1),none,false⟩,
          ⟨some 130,.load 51 (.tmp 3),none,false⟩,
          ⟨some 131,.binOp .eql 51 (.tmp 129) (.tmp 130) 51,none,false⟩,
          ⟨some 132,.move (.tmp 131),none,false⟩,
          ⟨some 133,.fieldAddr 51 (.tmp 1) 1,some (some 132,true),false⟩,
          ⟨some 134,.load 3 (.tmp 133),some (some 132,true),false⟩,
          ⟨some 135,.binOp .eql 3 (.tmp 134) (.const (.int .i64 1)) 3,some (some 132,true),false⟩,
          ⟨some 136,.pick (.tmp 132) (.tmp 135) (.const (.bool false)),none,false⟩,
          ⟨some 137,.move (.tmp 136),none,false⟩,
          ⟨some 138,.move (.tmp 5),some (some 137,true),false⟩,
          ⟨some 139,.pick (.tmp 137) (.tmp 138) (.const (.bool false)),none,false⟩,
          ⟨some 2,.assign (.tmp 139),none,false⟩])
         .ret)))
         .skip)
def dx:LC:=
 (.cond (.tmp 105)
        (.seq (.reg [⟨some 109,.load 51 (.tmp 1),none,false⟩,
         ⟨some 110,.load 51 (.tmp 3),none,false⟩,
         ⟨some 111,.binOp .eql 51 (.tmp 109) (.tmp 110) 51,none,false⟩,
         ⟨some 112,.move (.tmp 111),none,false⟩,
         ⟨some 113,.fieldAddr 51 (.tmp 1) 1,some (some 112,true),false⟩,
         ⟨some 114,.load 3 (.tmp 113),some (some 112,true),false⟩,
         ⟨some 115,.binOp .eql 3 (.tmp 114) (.const (.int .i64 1)) 3,some (some 112,true),false⟩,
         ⟨some 116,.pick (.tmp 112) (.tmp 115) (.const (.bool false)),none,false⟩,
         ⟨some 2,.assign (.tmp 116),none,false⟩])
        .ret)
        (.seq (.seq (.weak (.reg [⟨some 118,.binOp .eql 3 (.tmp 14) (.const (.int .i64 7)) 3,none,false⟩,
         ⟨some 117,.assign (.tmp 118),none,false⟩]))
        eT)
        eX))
def iP:LC:=
 (.cond (.tmp 95)
       (.seq (.reg [⟨some 97,.load 51 (.tmp 1),none,false⟩,
        ⟨some 98,.load 51 (.tmp 3),none,false⟩,
        ⟨some 99,.binOp .eql 51 (.tmp 97) (.tmp 98) 51,none,false⟩,
        ⟨some 100,.move (.tmp 99),none,false⟩,
        ⟨some 101,.fieldAddr 51 (.tmp 1) 1,some (some 100,true),false⟩,
        ⟨some 102,.load 3 (.tmp 101),some (some 100,true),false⟩,
        ⟨some 103,.binOp .geq 3 (.tmp 102) (.const (.int .i64 0)) 3,some (some 100,true),false⟩,
        ⟨some 104,.pick (.tmp 100) (.tmp 103) (.const (.bool false)),none,false⟩,
        ⟨some 2,.assign (.tmp 104),none,false⟩])
       .ret)
       (.seq (.seq (.weak (.reg [⟨some 106,.binOp .eql 3 (.tmp 14) (.const (.int .i64 3)) 3,none,false⟩,
        ⟨some 105,.assign (.tmp 106),none,false⟩]))
       dw)
       dx))
def iQ:LC:=
 (.cond (.tmp 72)
   (.seq (.reg [⟨some 74,.fieldAddr 51 (.tmp 1) 4,none,false⟩,
    ⟨some 75,.load 3 (.tmp 74),none,false⟩,
    ⟨some 76,.fieldAddr 51 (.tmp 3) 4,none,false⟩,
    ⟨none,.store 3 (.tmp 76) (.tmp 75),none,false⟩])
   (.seq (.reg [⟨some 77,.load 51 (.tmp 1),none,false⟩,
    ⟨some 78,.load 51 (.tmp 3),none,false⟩,
    ⟨some 79,.binOp .eql 51 (.tmp 77) (.tmp 78) 51,none,false⟩,
    ⟨some 80,.move (.tmp 79),none,false⟩,
    ⟨some 81,.fieldAddr 51 (.tmp 1) 1,some (some 80,true),false⟩,
    ⟨some 82,.load 3 (.tmp 81),some (some 80,true),false⟩,
    ⟨some 83,.binOp .geq 3 (.tmp 82) (.const (.int .i64 0)) 3,some (some 80,true),false⟩,
    ⟨some 84,.pick (.tmp 80) (.tmp 83) (.const (.bool false)),none,false⟩,
    ⟨some 85,.move (.tmp 84),none,false⟩,
    ⟨some 86,.fieldAddr 51 (.tmp 1) 4,some (some 85,true),false⟩,
    ⟨some 87,.load 3 (.tmp 86),some (some 85,true),false⟩,
    ⟨some 88,.binOp .eql 3 (.tmp 87) (.const (.int .i64 0)) 3,some (some 85,true),false⟩,
    ⟨some 89,.move (.tmp 88),some (some 85,true),false⟩,
    ⟨some 90,.fieldAddr 51 (.tmp 1) 4,some (some 89,false),false⟩,
    ⟨some 91,.load 3 (.tmp 90),some (some 89,false),false⟩,
    ⟨some 92,.binOp .eql 3 (.tmp 91) (.const (.int .i64 1)) 3,some (some 89,false),false⟩,
    ⟨some 93,.pick (.tmp 89) (.const (.bool true)) (.tmp 92),some (some 85,true),false⟩,
    ⟨some 94,.pick (.tmp 85) (.tmp 93) (.const (.bool false)),none,false⟩,
    ⟨some 2,.assign (.tmp 94),none,false⟩])
   .ret))
   (.seq (.weak (.reg [⟨some 96,.binOp .eql 3 (.tmp 14) (.const (.int .i64 4)) 3,none,false⟩,
    ⟨some 95,.assign (.tmp 96),none,false⟩]))
   iP))
def iR:LC:=
 (.cond (.tmp 48)
   (.seq (.reg [⟨some 50,.fieldAddr 51 (.tmp 1) 4,none,false⟩,
    ⟨some 51,.load 3 (.tmp 50),none,false⟩,
    ⟨some 52,.fieldAddr 51 (.tmp 3) 4,none,false⟩,
    ⟨none,.store 3 (.tmp 52) (.tmp 51),none,false⟩])
   (.seq (.reg [⟨some 53,.fieldAddr 51 (.tmp 1) 5,none,false⟩,
    ⟨some 54,.load 27 (.tmp 53),none,false⟩,
    ⟨some 55,.fieldAddr 51 (.tmp 3) 5,none,false⟩,
    ⟨none,.store 27 (.tmp 55) (.tmp 54),none,false⟩])
   (.seq (.reg [⟨some 56,.load 51 (.tmp 1),none,false⟩,
    ⟨some 57,.load 51 (.tmp 3),none,false⟩,
    ⟨some 58,.binOp .eql 51 (.tmp 56) (.tmp 57) 51,none,false⟩,
    ⟨some 59,.move (.tmp 58),none,false⟩,
    ⟨some 60,.fieldAddr 51 (.tmp 1) 1,some (some 59,true),false⟩,
    ⟨some 61,.load 3 (.tmp 60),some (some 59,true),false⟩,
    ⟨some 62,.binOp .eql 3 (.tmp 61) (.const (.int .i64 0)) 3,some (some 59,true),false⟩,
    ⟨some 63,.pick (.tmp 59) (.tmp 62) (.const (.bool false)),none,false⟩,
    ⟨some 64,.move (.tmp 63),none,false⟩,
    ⟨some 65,.fieldAddr 51 (.tmp 1) 4,some (some 64,true),false⟩,
    ⟨some 66,.load 3 (.tmp 65),some (some 64,true),false⟩,
    ⟨some 67,.fieldAddr 51 (.tmp 1) 5,some (some 64,true),false⟩,
    ⟨some 68,.load 27 (.tmp 67),some (some 64,true),false⟩,
    ⟨some 69,.build 29 ⟨[(0,(.tmp 66)),(1,(.tmp 68))]⟩,some (some 64,true),false⟩,
    ⟨some 70,.call ⟨.value (.func 9),⟨[(.tmp 69)]⟩,⟨[29]⟩⟩,some (some 64,true),false⟩,
    ⟨some 71,.pick (.tmp 64) (.tmp 70) (.const (.bool false)),none,false⟩,
    ⟨some 2,.assign (.tmp 71),none,false⟩])
   .ret)))
   (.seq (.weak (.reg [⟨some 73,.binOp .eql 3 (.tmp 14) (.const (.int .i64 2)) 3,none,false⟩,
    ⟨some 72,.assign (.tmp 73),none,false⟩]))
   iQ))
def iT:LC:=
 (.cond (.tmp 25)
  (.seq (.reg [⟨some 27,.fieldAddr 51 (.tmp 1) 4,none,false⟩,
   ⟨some 28,.load 3 (.tmp 27),none,false⟩,
   ⟨some 29,.fieldAddr 51 (.tmp 3) 4,none,false⟩,
   ⟨none,.store 3 (.tmp 29) (.tmp 28),none,false⟩])
  (.seq (.reg [⟨some 30,.load 51 (.tmp 1),none,false⟩,
   ⟨some 31,.load 51 (.tmp 3),none,false⟩,
   ⟨some 32,.binOp .eql 51 (.tmp 30) (.tmp 31) 51,none,false⟩,
   ⟨some 33,.move (.tmp 32),none,false⟩,
   ⟨some 34,.fieldAddr 51 (.tmp 1) 1,some (some 33,true),false⟩,
   ⟨some 35,.load 3 (.tmp 34),some (some 33,true),false⟩,
   ⟨some 36,.binOp .geq 3 (.tmp 35) (.const (.int .i64 0)) 3,some (some 33,true),false⟩,
   ⟨some 37,.pick (.tmp 33) (.tmp 36) (.const (.bool false)),none,false⟩,
   ⟨some 38,.move (.tmp 37),none,false⟩,
   ⟨some 39,.fieldAddr 51 (.tmp 1) 4,some (some 38,true),false⟩,
   ⟨some 40,.load 3 (.tmp 39),some (some 38,true),false⟩,
   ⟨some 41,.binOp .geq 3 (.tmp 40) (.const (.int .i64 1)) 3,some (some 38,true),false⟩,
   ⟨some 42,.pick (.tmp 38) (.tmp 41) (.const (.bool false)),none,false⟩,
   ⟨some 43,.move (.tmp 42),none,false⟩,
   ⟨some 44,.fieldAddr 51 (.tmp 1) 4,some (some 43,true),false⟩,
   ⟨some 45,.load 3 (.tmp 44),some (some 43,true),false⟩,
   ⟨some 46,.binOp .leq 3 (.tmp 45) (.const (.int .i64 31)) 3,some (some 43,true),false⟩,
   ⟨some 47,.pick (.tmp 43) (.tmp 46) (.const (.bool false)),none,false⟩,
   ⟨some 2,.assign (.tmp 47),none,false⟩])
  .ret))
  (.seq (.weak (.reg [⟨some 49,.binOp .eql 3 (.tmp 14) (.const (.int .i64 9)) 3,none,false⟩,
   ⟨some 48,.assign (.tmp 49),none,false⟩]))
  iR))
def iU:LC:=
 (.cond (.tmp 15)
  (.seq (.reg [⟨some 17,.load 51 (.tmp 1),none,false⟩,
   ⟨some 18,.load 51 (.tmp 3),none,false⟩,
   ⟨some 19,.binOp .eql 51 (.tmp 17) (.tmp 18) 51,none,false⟩,
   ⟨some 20,.move (.tmp 19),none,false⟩,
   ⟨some 21,.fieldAddr 51 (.tmp 1) 1,some (some 20,true),false⟩,
   ⟨some 22,.load 3 (.tmp 21),some (some 20,true),false⟩,
   ⟨some 23,.binOp .eql 3 (.tmp 22) (.const (.int .i64 0)) 3,some (some 20,true),false⟩,
   ⟨some 24,.pick (.tmp 20) (.tmp 23) (.const (.bool false)),none,false⟩,
   ⟨some 2,.assign (.tmp 24),none,false⟩])
  .ret)
  (.seq (.weak (.reg [⟨some 26,.binOp .eql 3 (.tmp 14) (.const (.int .i64 1)) 3,none,false⟩,
   ⟨some 25,.assign (.tmp 26),none,false⟩]))
  iT))
def oz:LC:=
 (.seq (.reg [⟨some 2,.assign (.const (.bool false)),none,false⟩])
 .ret)
def rV:LC:=
 (.seq (.reg [⟨some 1,.box 51 (.tmp 0),none,false⟩,
  ⟨some 2,.assign (.const (.bool false)),none,false⟩])
 (.seq (.reg [⟨some 6,.fieldAddr 51 (.tmp 1) 0,none,false⟩,
  ⟨some 7,.load 3 (.tmp 6),none,false⟩,
  ⟨some 8,.fieldAddr 51 (.tmp 1) 1,none,false⟩,
  ⟨some 9,.load 3 (.tmp 8),none,false⟩,
  ⟨some 10,.fieldAddr 51 (.tmp 1) 2,none,false⟩,
  ⟨some 11,.load 9 (.tmp 10),none,false⟩,
  ⟨some 12,.build 51 ⟨[(0,(.tmp 7)),(1,(.tmp 9)),(2,(.tmp 11))]⟩,none,false⟩,
  ⟨some 3,.alloc 51,none,false⟩,
  ⟨none,.store 51 (.tmp 3) (.tmp 12),none,false⟩])
 (.seq (.seq (.reg [⟨some 13,.fieldAddr 51 (.tmp 1) 0,none,false⟩,
  ⟨some 14,.load 3 (.tmp 13),none,false⟩])
 (.block 0 (.seq (.weak (.reg [⟨some 16,.binOp .eql 3 (.tmp 14) (.const (.int .i64 0)) 3,none,false⟩,
  ⟨some 15,.assign (.tmp 16),none,false⟩]))
  iU)))
 oz)))
theorem Cg:aO Tryz.prog 32 140 [.tmp 2] rV:=⟨_,_,Tryz.func32,by kernel_rfl,rfl,Tryz.ntmps32,rfl,by kernel_rfl⟩
end Lp
namespace Lp
open Go Go.Proofs
open Int (reduceEq)
theorem ol(a:dR):(∀n,(aP a).putCells 4 [.int .i64 n]=aP { a with n:=n })∧(∀x,(aP a).putCells 3 [.str x]=aP { a with s:=x })∧
  (∀ck cm cn cs cg ce,(aP a).putCells 5 [.int .i64 ck,.int .i64 cm,.str cn,.str cs,.bool cg,.int .i64 ce]=aP { a with c:=⟨ck,cm,cn,cs,cg,ce⟩ }):=⟨λ_=>rfl,λ_=>rfl,λ_ _ _ _ _ _=>rfl⟩
theorem afH(t:dR):decide (t=⟨t.kind,t.many,t.name,[],0,aQ⟩)=(t.s==[] && t.n==0 && t.c==aQ):=by
 obtain⟨k,m,nm,s,n,c⟩:=t
 rw[Bool.eq_iff_iff];simp[and_assoc]
theorem ag6(t:dR):decide (t=⟨t.kind,t.many,t.name,[],t.n,aQ⟩)=(t.s==[] && t.c==aQ):=by
 obtain⟨k,m,nm,s,n,c⟩:=t
 rw[Bool.eq_iff_iff];simp
theorem ahV(t:dR):decide (t=⟨t.kind,t.many,t.name,[],t.n,t.c⟩)=(t.s==[]):=by
 obtain⟨k,m,nm,s,n,c⟩:=t
 rw[Bool.eq_iff_iff];simp
theorem ahW(t:dR):decide (t=⟨t.kind,t.many,t.name,t.s,0,aQ⟩)=(t.n==0 && t.c==aQ):=by
 obtain⟨k,m,nm,s,n,c⟩:=t
 rw[Bool.eq_iff_iff];simp
theorem ahX(pk:List UInt8→Bool)(t:dR)(k:t.kind=0):bQ pk t=(decide (t=⟨t.kind,t.many,t.name,[],0,aQ⟩) && decide (t.many=0)):=by
 rw[afH]
 have b:∀i:Int,(t.many==i)=decide (t.many=i):=λ_=>rfl
 have c:∀i:Int,(t.n==i)=decide (t.n=i):=λ_=>rfl
 simp only[bQ,k,reduceEq,if_true,if_false,false_or,or_false,or_self,true_or,or_true,b,c]
 ac_rfl
theorem ahY(pk:List UInt8→Bool)(t:dR)(k:t.kind=1):bQ pk t=(decide (t=⟨t.kind,t.many,t.name,[],t.n,aQ⟩) && (decide (0≤t.many) && decide (1≤t.n) && decide (t.n≤31))):=by
 rw[ag6]
 have b:∀i:Int,(t.many==i)=decide (t.many=i):=λ_=>rfl
 have c:∀i:Int,(t.n==i)=decide (t.n=i):=λ_=>rfl
 simp only[bQ,k,reduceEq,if_true,if_false,false_or,or_false,or_self,true_or,or_true,b,c]
 ac_rfl
theorem ahZ(pk:List UInt8→Bool)(t:dR)(k:t.kind=9):bQ pk t=(decide (t=⟨t.kind,t.many,t.name,[],t.n,t.c⟩) && (decide (t.many=0) && fO ⟨t.n,t.c⟩)):=by
 rw[ahV]
 have b:∀i:Int,(t.many==i)=decide (t.many=i):=λ_=>rfl
 have c:∀i:Int,(t.n==i)=decide (t.n=i):=λ_=>rfl
 simp only[bQ,k,reduceEq,if_true,if_false,false_or,or_false,or_self,true_or,or_true,b,c]
 ac_rfl
theorem ah0(pk:List UInt8→Bool)(t:dR)(k:t.kind=2):bQ pk t=(decide (t=⟨t.kind,t.many,t.name,[],t.n,aQ⟩) && (decide (0≤t.many) && (decide (t.n=0) || decide (t.n=1)))):=by
 rw[ag6]
 have b:∀i:Int,(t.many==i)=decide (t.many=i):=λ_=>rfl
 have c:∀i:Int,(t.n==i)=decide (t.n=i):=λ_=>rfl
 simp only[bQ,k,reduceEq,if_true,if_false,false_or,or_false,or_self,true_or,or_true,b,c]
 ac_rfl
theorem ah1(pk:List UInt8→Bool)(t:dR)(k:t.kind=4):bQ pk t=(decide (t=⟨t.kind,t.many,t.name,[],0,aQ⟩) && decide (0≤t.many)):=by
 rw[afH]
 have b:∀i:Int,(t.many==i)=decide (t.many=i):=λ_=>rfl
 have c:∀i:Int,(t.n==i)=decide (t.n=i):=λ_=>rfl
 simp only[bQ,k,reduceEq,if_true,if_false,false_or,or_false,or_self,true_or,or_true,b,c]
 ac_rfl
theorem afI(pk:List UInt8→Bool)(t:dR)(k:t.kind=3∨t.kind=5∨t.kind=6):bQ pk t=(decide (t=⟨t.kind,t.many,t.name,[],0,aQ⟩) && decide (t.many=1)):=by
 rw[afH]
 have b:∀i:Int,(t.many==i)=decide (t.many=i):=λ_=>rfl
 have c:∀i:Int,(t.n==i)=decide (t.n=i):=λ_=>rfl
 rcases k with k | k | k<;>simp only[bQ,k,reduceEq,if_true,if_false,false_or,or_false,or_self,true_or,or_true,b,c]<;>ac_rfl
theorem ag7(pk:List UInt8→Bool)(t:dR)(k:t.kind=7∨t.kind=8):bQ pk t=(decide (t=⟨t.kind,t.many,t.name,t.s,0,aQ⟩) && (decide (t.many=1) && pk t.s)):=by
 rw[ahW]
 have b:∀i:Int,(t.many==i)=decide (t.many=i):=λ_=>rfl
 have c:∀i:Int,(t.n==i)=decide (t.n=i):=λ_=>rfl
 rcases k with k | k<;>simp only[bQ,k,reduceEq,if_true,if_false,false_or,or_false,or_self,true_or,or_true,b,c]<;>ac_rfl
theorem fP(k m n ck cm ce k' m' n' ck' cm' ce':Int)(nm s cn cs Ou s' cn' cs':List UInt8)(cg cg':Bool):Cy Tryz.prog 51 [.int .i64 k,.int .i64 m,.str nm,.str s,.int .i64 n,.int .i64 ck,.int .i64 cm,.str cn,.str cs,.bool cg,.int .i64 ce] [.int .i64 k',.int .i64 m',.str Ou,.str s',.int .i64 n',.int .i64 ck',.int .i64 cm',.str cn',.str cs',.bool cg',.int .i64 ce']=True:=eq_true (acd ⟨k,m,nm,s,n,⟨ck,cm,cn,cs,cg,ce⟩⟩ ⟨k',m',Ou,s',n',⟨ck',cm',cn',cs',cg',ce'⟩⟩)
theorem jC(k m n ck cm ce k' m' n' ck' cm' ce':Int)(nm s cn cs Ou s' cn' cs':List UInt8)(cg cg':Bool):Ac [.int .i64 k,.int .i64 m,.str nm,.str s,.int .i64 n,.int .i64 ck,.int .i64 cm,.str cn,.str cs,.bool cg,.int .i64 ce] [.int .i64 k',.int .i64 m',.str Ou,.str s',.int .i64 n',.int .i64 ck',.int .i64 cm',.str cn',.str cs',.bool cg',.int .i64 ce']=some (decide ((⟨k,m,nm,s,n,⟨ck,cm,cn,cs,cg,ce⟩⟩:dR)=⟨k',m',Ou,s',n',⟨ck',cm',cn',cs',cg',ce'⟩⟩)):=afA ⟨k,m,nm,s,n,⟨ck,cm,cn,cs,cg,ce⟩⟩ ⟨k',m',Ou,s',n',⟨ck',cm',cn',cs',cg',ce'⟩⟩
theorem Pk(t:dR)(hs:t.s.length≤1000000000)(hc:qE t.c):ai Tryz.prog 32 [aP t] [] (.bool (bQ bA t)) []:=by
 refine Cg.aX (T:=aR Tryz.prog [(9,iI),(34,fK)]) 0 hD (aj (af DY (af wC ah))) aV (by decide) λQ hQ=>?_
 obtain⟨kd,m,nm,s,n,c⟩:=t
 simp only at hs hc
 simp (maxSteps:=400000) only[↓ak,au,BEq.rfl,seval,hQ,rV,tC,iy,iJ,ol,fP,jC,dm,eG,reduceEq]
 refine aN _ (Weak.refl _ _) ?_
 by_cases k0:kd=0
 ·subst k0
  have hp:bQ bA ⟨0,m,nm,s,n,c⟩=(decide ((⟨0,m,nm,s,n,c⟩:dR)=⟨0,m,nm,[],0,aQ⟩) && decide (m=0)):=ahX bA ⟨0,m,nm,s,n,c⟩ rfl
  cases hb:decide ((⟨0,m,nm,s,n,c⟩:dR)=⟨0,m,nm,[],0,aQ⟩) with
  | false=>
   rw[hb,Bool.false_and]at hp
   simp (maxSteps:=400000) only[↓ak,au,BEq.rfl,seval,hQ,iU,hb,hp,tC,iy,iJ,ol,fP,jC,dm,eG,reduceEq]
   repeat' (first | (omega) | exact hs | exact hc | intro _ | refine⟨?_,?_⟩)
  | true=>
   rw[hb,Bool.true_and]at hp
   simp (maxSteps:=400000) only[↓ak,au,BEq.rfl,seval,hQ,iU,hb,hp,tC,iy,iJ,ol,fP,jC,dm,eG,reduceEq]
   repeat' (first | (omega) | exact hs | exact hc | ((simp[*];done)) | intro _ | refine⟨?_,?_⟩)
 have n0:=eq_false k0
 simp (maxSteps:=400000) only[↓ak,au,BEq.rfl,seval,hQ,iU,n0,tC,iy,iJ,ol,fP,jC,dm,eG,reduceEq]
 refine aN _ (Weak.refl _ _) ?_
 by_cases k1:kd=1
 ·subst k1
  have hp:bQ bA ⟨1,m,nm,s,n,c⟩=(decide ((⟨1,m,nm,s,n,c⟩:dR)=⟨1,m,nm,[],n,aQ⟩) && (decide (0≤m) && decide (1≤n) && decide (n≤31))):=ahY bA ⟨1,m,nm,s,n,c⟩ rfl
  cases hb:decide ((⟨1,m,nm,s,n,c⟩:dR)=⟨1,m,nm,[],n,aQ⟩) with
  | false=>
   rw[hb,Bool.false_and]at hp
   simp (maxSteps:=400000) only[↓ak,au,BEq.rfl,seval,hQ,iT,hb,hp,tC,iy,iJ,ol,fP,jC,dm,eG,reduceEq]
   repeat' (first | (omega) | exact hs | exact hc | intro _ | refine⟨?_,?_⟩)
  | true=>
   rw[hb,Bool.true_and]at hp
   simp (maxSteps:=400000) only[↓ak,au,BEq.rfl,seval,hQ,iT,hb,hp,tC,iy,iJ,ol,fP,jC,dm,eG,reduceEq]
   repeat' (first | (omega) | exact hs | exact hc | ((simp[*];done)) | intro _ | refine⟨?_,?_⟩)
 have n1:=eq_false k1
 simp (maxSteps:=400000) only[↓ak,au,BEq.rfl,seval,hQ,iT,n1,tC,iy,iJ,ol,fP,jC,dm,eG,reduceEq]
 refine aN _ (Weak.refl _ _) ?_
 by_cases k9:kd=9
 ·subst k9
  have hp:bQ bA ⟨9,m,nm,s,n,c⟩=(decide ((⟨9,m,nm,s,n,c⟩:dR)=⟨9,m,nm,[],n,c⟩) && (decide (m=0) && fO ⟨n,c⟩)):=ahZ bA ⟨9,m,nm,s,n,c⟩ rfl
  cases hb:decide ((⟨9,m,nm,s,n,c⟩:dR)=⟨9,m,nm,[],n,c⟩) with
  | false=>
   rw[hb,Bool.false_and]at hp
   simp (maxSteps:=400000) only[↓ak,au,BEq.rfl,seval,hQ,iR,hb,hp,↓iI,tC,iy,iJ,ol,fP,jC,dm,eG,reduceEq]
   repeat' (first | (omega) | exact hs | exact hc | intro _ | refine⟨?_,?_⟩)
  | true=>
   rw[hb,Bool.true_and]at hp
   simp (maxSteps:=400000) only[↓ak,au,BEq.rfl,seval,hQ,iR,hb,hp,↓iI,tC,iy,iJ,ol,fP,jC,dm,eG,reduceEq]
   repeat' (first | (omega) | exact hs | exact hc | ((simp[*];done)) | intro _ | refine⟨?_,?_⟩)
 have n9:=eq_false k9
 simp (maxSteps:=400000) only[↓ak,au,BEq.rfl,seval,hQ,iR,n9,tC,iy,iJ,ol,fP,jC,dm,eG,reduceEq]
 refine aN _ (Weak.refl _ _) ?_
 by_cases k2:kd=2
 ·subst k2
  have hp:bQ bA ⟨2,m,nm,s,n,c⟩=(decide ((⟨2,m,nm,s,n,c⟩:dR)=⟨2,m,nm,[],n,aQ⟩) && (decide (0≤m) && (decide (n=0) || decide (n=1)))):=ah0 bA ⟨2,m,nm,s,n,c⟩ rfl
  cases hb:decide ((⟨2,m,nm,s,n,c⟩:dR)=⟨2,m,nm,[],n,aQ⟩) with
  | false=>
   rw[hb,Bool.false_and]at hp
   simp (maxSteps:=400000) only[↓ak,au,BEq.rfl,seval,hQ,iQ,hb,hp,tC,iy,iJ,ol,fP,jC,dm,eG,reduceEq]
   repeat' (first | (omega) | exact hs | exact hc | intro _ | refine⟨?_,?_⟩)
  | true=>
   rw[hb,Bool.true_and]at hp
   simp (maxSteps:=400000) only[↓ak,au,BEq.rfl,seval,hQ,iQ,hb,hp,tC,iy,iJ,ol,fP,jC,dm,eG,reduceEq]
   repeat' (first | (omega) | exact hs | exact hc | ((simp[*];done)) | intro _ | refine⟨?_,?_⟩)
 have n2:=eq_false k2
 simp (maxSteps:=400000) only[↓ak,au,BEq.rfl,seval,hQ,iQ,n2,tC,iy,iJ,ol,fP,jC,dm,eG,reduceEq]
 refine aN _ (Weak.refl _ _) ?_
 by_cases k4:kd=4
 ·subst k4
  have hp:bQ bA ⟨4,m,nm,s,n,c⟩=(decide ((⟨4,m,nm,s,n,c⟩:dR)=⟨4,m,nm,[],0,aQ⟩) && decide (0≤m)):=ah1 bA ⟨4,m,nm,s,n,c⟩ rfl
  cases hb:decide ((⟨4,m,nm,s,n,c⟩:dR)=⟨4,m,nm,[],0,aQ⟩) with
  | false=>
   rw[hb,Bool.false_and]at hp
   simp (maxSteps:=400000) only[↓ak,au,BEq.rfl,seval,hQ,iP,hb,hp,tC,iy,iJ,ol,fP,jC,dm,eG,reduceEq]
   repeat' (first | (omega) | exact hs | exact hc | intro _ | refine⟨?_,?_⟩)
  | true=>
   rw[hb,Bool.true_and]at hp
   simp (maxSteps:=400000) only[↓ak,au,BEq.rfl,seval,hQ,iP,hb,hp,tC,iy,iJ,ol,fP,jC,dm,eG,reduceEq]
   repeat' (first | (omega) | exact hs | exact hc | ((simp[*];done)) | intro _ | refine⟨?_,?_⟩)
 have n4:=eq_false k4
 simp (maxSteps:=400000) only[↓ak,au,BEq.rfl,seval,hQ,iP,n4,tC,iy,iJ,ol,fP,jC,dm,eG,reduceEq]
 refine aN _ (Weak.refl _ _) ?_
 by_cases k3:kd=3
 ·subst k3
  have hp:bQ bA ⟨3,m,nm,s,n,c⟩=(decide ((⟨3,m,nm,s,n,c⟩:dR)=⟨3,m,nm,[],0,aQ⟩) && decide (m=1)):=afI bA ⟨3,m,nm,s,n,c⟩ (.inl rfl)
  cases hb:decide ((⟨3,m,nm,s,n,c⟩:dR)=⟨3,m,nm,[],0,aQ⟩) with
  | false=>
   rw[hb,Bool.false_and]at hp
   simp (maxSteps:=400000) only[↓ak,au,BEq.rfl,seval,hQ,dx,dw,hb,hp,tC,iy,iJ,ol,fP,jC,dm,eG,reduceEq]
   repeat' (first | (omega) | exact hs | exact hc | intro _ | refine⟨?_,?_⟩)
  | true=>
   rw[hb,Bool.true_and]at hp
   simp (maxSteps:=400000) only[↓ak,au,BEq.rfl,seval,hQ,dx,dw,hb,hp,tC,iy,iJ,ol,fP,jC,dm,eG,reduceEq]
   repeat' (first | (omega) | exact hs | exact hc | ((simp[*];done)) | intro _ | refine⟨?_,?_⟩)
 have n3:=eq_false k3
 by_cases k5:kd=5
 ·subst k5
  have hp:bQ bA ⟨5,m,nm,s,n,c⟩=(decide ((⟨5,m,nm,s,n,c⟩:dR)=⟨5,m,nm,[],0,aQ⟩) && decide (m=1)):=afI bA ⟨5,m,nm,s,n,c⟩ (.inr (.inl rfl))
  cases hb:decide ((⟨5,m,nm,s,n,c⟩:dR)=⟨5,m,nm,[],0,aQ⟩) with
  | false=>
   rw[hb,Bool.false_and]at hp
   simp (maxSteps:=400000) only[↓ak,au,BEq.rfl,seval,hQ,dx,dw,hb,hp,tC,iy,iJ,ol,fP,jC,dm,eG,reduceEq]
   repeat' (first | (omega) | exact hs | exact hc | intro _ | refine⟨?_,?_⟩)
  | true=>
   rw[hb,Bool.true_and]at hp
   simp (maxSteps:=400000) only[↓ak,au,BEq.rfl,seval,hQ,dx,dw,hb,hp,tC,iy,iJ,ol,fP,jC,dm,eG,reduceEq]
   repeat' (first | (omega) | exact hs | exact hc | ((simp[*];done)) | intro _ | refine⟨?_,?_⟩)
 have n5:=eq_false k5
 by_cases k6:kd=6
 ·subst k6
  have hp:bQ bA ⟨6,m,nm,s,n,c⟩=(decide ((⟨6,m,nm,s,n,c⟩:dR)=⟨6,m,nm,[],0,aQ⟩) && decide (m=1)):=afI bA ⟨6,m,nm,s,n,c⟩ (.inr (.inr rfl))
  cases hb:decide ((⟨6,m,nm,s,n,c⟩:dR)=⟨6,m,nm,[],0,aQ⟩) with
  | false=>
   rw[hb,Bool.false_and]at hp
   simp (maxSteps:=400000) only[↓ak,au,BEq.rfl,seval,hQ,dx,dw,hb,hp,tC,iy,iJ,ol,fP,jC,dm,eG,reduceEq]
   repeat' (first | (omega) | exact hs | exact hc | intro _ | refine⟨?_,?_⟩)
  | true=>
   rw[hb,Bool.true_and]at hp
   simp (maxSteps:=400000) only[↓ak,au,BEq.rfl,seval,hQ,dx,dw,hb,hp,tC,iy,iJ,ol,fP,jC,dm,eG,reduceEq]
   repeat' (first | (omega) | exact hs | exact hc | ((simp[*];done)) | intro _ | refine⟨?_,?_⟩)
 have n6:=eq_false k6
 simp (maxSteps:=400000) only[↓ak,au,BEq.rfl,seval,hQ,dx,dw,n3,n5,n6,tC,iy,iJ,ol,fP,jC,dm,eG,reduceEq]
 refine aN _ (Weak.refl _ _) ?_
 by_cases k7:kd=7
 ·subst k7
  have hp:bQ bA ⟨7,m,nm,s,n,c⟩=(decide ((⟨7,m,nm,s,n,c⟩:dR)=⟨7,m,nm,s,0,aQ⟩) && (decide (m=1) && bA s)):=ag7 bA ⟨7,m,nm,s,n,c⟩ (.inl rfl)
  cases hb:decide ((⟨7,m,nm,s,n,c⟩:dR)=⟨7,m,nm,s,0,aQ⟩) with
  | false=>
   rw[hb,Bool.false_and]at hp
   simp (maxSteps:=400000) only[↓ak,au,BEq.rfl,seval,hQ,eX,eT,hb,hp,↓fK,eY,tC,iy,iJ,ol,fP,jC,dm,eG,reduceEq]
   repeat' (first | (omega) | exact hs | exact hc | intro _ | refine⟨?_,?_⟩)
  | true=>
   rw[hb,Bool.true_and]at hp
   simp (maxSteps:=400000) only[↓ak,au,BEq.rfl,seval,hQ,eX,eT,hb,hp,↓fK,eY,tC,iy,iJ,ol,fP,jC,dm,eG,reduceEq]
   repeat' (first | (omega) | exact hs | exact hc | ((simp[*];done)) | intro _ | refine⟨?_,?_⟩)
 have n7:=eq_false k7
 by_cases k8:kd=8
 ·subst k8
  have hp:bQ bA ⟨8,m,nm,s,n,c⟩=(decide ((⟨8,m,nm,s,n,c⟩:dR)=⟨8,m,nm,s,0,aQ⟩) && (decide (m=1) && bA s)):=ag7 bA ⟨8,m,nm,s,n,c⟩ (.inr rfl)
  cases hb:decide ((⟨8,m,nm,s,n,c⟩:dR)=⟨8,m,nm,s,0,aQ⟩) with
  | false=>
   rw[hb,Bool.false_and]at hp
   simp (maxSteps:=400000) only[↓ak,au,BEq.rfl,seval,hQ,eX,eT,hb,hp,↓fK,eY,tC,iy,iJ,ol,fP,jC,dm,eG,reduceEq]
   repeat' (first | (omega) | exact hs | exact hc | intro _ | refine⟨?_,?_⟩)
  | true=>
   rw[hb,Bool.true_and]at hp
   simp (maxSteps:=400000) only[↓ak,au,BEq.rfl,seval,hQ,eX,eT,hb,hp,↓fK,eY,tC,iy,iJ,ol,fP,jC,dm,eG,reduceEq]
   repeat' (first | (omega) | exact hs | exact hc | ((simp[*];done)) | intro _ | refine⟨?_,?_⟩)
 have n8:=eq_false k8
 simp (maxSteps:=400000) only[↓ak,au,BEq.rfl,seval,hQ,eX,eT,n7,n8,tC,iy,iJ,ol,fP,jC,dm,eG,reduceEq]
 have hp:bQ bA ⟨kd,m,nm,s,n,c⟩=false:=by simp[bQ,k0,k1,k9,k2,k4,k3,k5,k6,k7,k8]
 simp (maxSteps:=400000) only[↓ak,au,BEq.rfl,seval,hQ,oz,hp]
def g_:dD:=λargs objs K=>match args with
 | [a0]=>dZ aP a0 (HK.mk:HK λt=>(t.s.length≤1000000000)∧(qE t.c)∧K (.bool (bQ bA t)) objs 0)
 | _=>False
theorem LA:aC Tryz.prog 32 (g_):=by
 intro args objs K h
 unfold g_ at h
 split at h
 ·rename_i a0
  obtain⟨t,rfl,h1,h2,hk⟩:=h
  exact⟨_,_,_,.pure _ rfl (Pk t h1 h2),hk⟩
 ·exact h.elim
end Lp
namespace Lp
open Go Go.Proofs
open Int (reduceEq toNat_natCast)
structure qd (t:aD):Prop where
 len:t.length≤1000000
 txt:∀n∈t,n.s.length≤1000000000∧n.name.length≤1000000000∧qE n.c
theorem adL(d n:Nat)(O:List Obj)(t:TypeId)(sz:Nat)(l:aD)(ver:Nat):f_ d n O ⟨t,sz,l.map aP,true,ver⟩=⟨t,sz,l.map aP,true,ver⟩:=by
 have:(l.map aP).map (PV.bL (eZ d n O))=l.map aP:=by
  rw[List.map_map]
  exact List.map_congr_left λx _=>rfl
 simp only[f_,this]
theorem VX(x:dR)(prev:Option (List UInt8))(p:aD)(ps:List aD):nW x prev (p::ps)=(xE x p && (x.kind !=2 || (match prev with | none=>true | some a=>Op.bytesLess a (Y.nameOf p))) && nW x (some (Y.nameOf p)) ps):=by cases prev<;>rfl
theorem Pm(t:aD)(at':Nat)(n:dR)(hs:qd t)(ho:Y.One t)(hat:t[at']?=some n) :
  ai Tryz.prog 33 [ay t,.int .i64 at'] [] (.bool (Ce t at')) []:=by
 obtain⟨hl,htx⟩:=hs
 have adD:=(List.getElem?_eq_some_iff.1 hat).1
 obtain⟨ps,c,hm,hmL,hps,hsk,hfl,hone,_,_⟩:=Y.uj ho hat
 have hpl:=Y.bD _ _ _ hps
 have hres:Ce t at'=nW n none ps:=by
  rw[ZO]
  have hd:=List.drop_eq_getElem_cons adD
  rw[List.getElem?_eq_getElem adD]at hat
  cases hat
  simp only[Ce,hd,hps]
 rw[hres]
 refine BV.aX (T:=aR Tryz.prog [(25,gq),(31,fM)]) 0 hD (aj (af zG (af nX ah))) aV (by decide) λQ hQ=>?_
 (conv=>arg 4;cbv);simp (maxSteps:=400000) only[↓ak,au,BEq.rfl,seval,hQ]
 refine⟨⟨by omega,by omega⟩,?_⟩
 refine aF (λm S=>∃(i:Nat) (rest:List aD) (prev:Option (List UInt8)) (last:List UInt8),m=rest.length∧rest.length≤ps.length∧Y.parts rest.length (t.drop i)=some rest∧i≤t.length∧nW n prev rest=nW n none ps∧
  ((prev=none∧rest.length=ps.length)∨(prev=some last∧rest.length<ps.length))∧
  S=⟨dG 74 [(0,ay t),(1,.int .i64 at'),(5,.int .i64 i),(6,.str last),(7,.int .i64 ((ps.length:Int)-rest.length))],[]⟩) ps.length (hz:=Nat.zero_le _) ⟨at'+1,ps,none,[],rfl,Nat.le_refl _,by rw[hpl];exact hps,by omega,rfl,.inl ⟨rfl,rfl⟩,?_⟩ ?_
 ·simp only[bN,keepR,Nat.reduceAdd,lJ,Nat.reduceBEq,List.map_nil]
  simp only[Int.sub_self]
  rfl
 rintro m S ⟨i,rest,prev,last,rfl,hrl,hrp,hit,hrb,aeV,rfl⟩
 have hmn:n.many=(ps.length:Int):=by omega
 have z0:(0≤(at':Int))=True:=eq_true (by omega)
 have zi:(0≤(i:Int))=True:=eq_true (by omega)
 cases rest with
 | nil=>
  have hlt:((ps.length:Int)-0<(ps.length:Int))=False:=eq_false (by omega)
  have hr:nW n none ps=true:=by rw[←hrb];rfl
  simp (maxSteps:=400000) only[↓ak,au,BEq.rfl,seval,hQ,hat,hmn,z0,List.length_nil,hlt,hr]
 | cons p qs=>
  obtain⟨pc,qs',h1,h2,h3⟩:=Y.d9 (k:=qs.length) hrp
  simp only[List.cons.injEq]at h2
  obtain⟨hp,rfl⟩:=h2
  have hpc:=Y.dS _ _ _ h1
  simp only[List.length_drop]at hpc
  have hil:i<t.length:=by omega
  have hgi:=List.getElem?_eq_getElem hil
  have hdi:=List.drop_eq_getElem_cons hil
  have Hf:=htx _ (List.getElem_mem hil)
  generalize t[i]=pn at hgi hdi Hf
  obtain⟨q,hq⟩:∃q,pc=q+1:=⟨pc-1,by omega⟩
  have hname:Y.nameOf p=pn.name:=by rw[hp,hdi,hq];rfl
  have hkind:Y.kindOf p=pn.kind:=by rw[hp,hdi,hq];rfl
  have hnx:rR t i=(i+pc:Nat):=yP (Y.nP _ _ _ _ h1 (by omega))
  simp only[List.length_cons]at hrl aeV
  have h3':Y.parts qs.length (t.drop (i+pc))=some qs:=by rw[←List.drop_drop];exact h3
  have ug:((ps.length:Int)-((qs.length+1:Nat):Int)<(ps.length:Int))=True:=eq_true (by omega)
  have hlt1:(-9223372036854775808≤(ps.length:Int)-((qs.length+1:Nat):Int)+1∧(ps.length:Int)-((qs.length+1:Nat):Int)+1≤9223372036854775807)=True:=eq_true ⟨by omega,by omega⟩
  have e:(ps.length:Int)-((qs.length+1:Nat):Int)+1=(ps.length:Int)-qs.length:=by omega
  rw[VX,xE,hname,hkind]at hrb
  have step:nW n (some pn.name) qs=nW n none ps→∃m',m'<qs.length+1∧∃(Im:Nat) (rest:List aD) (prev:Option (List UInt8)) (last:List UInt8),m'=rest.length∧rest.length≤ps.length∧Y.parts rest.length (t.drop Im)=some rest∧Im≤t.length∧nW n prev rest=nW n none ps∧
      ((prev=none∧rest.length=ps.length)∨(prev=some last∧rest.length<ps.length))∧
      (⟨dG 74 [(0,ay t),(1,.int .i64 at'),(5,.int .i64 (i+pc:Nat)),(6,.str pn.name),(7,.int .i64 ((ps.length:Int)-((qs.length+1:Nat):Int)+1))],[]⟩:St)=⟨dG 74 [(0,ay t),(1,.int .i64 at'),(5,.int .i64 Im),(6,.str last),(7,.int .i64 ((ps.length:Int)-rest.length))],[]⟩:=λhx=>
   ⟨qs.length,by omega,i+pc,qs,some pn.name,pn.name,rfl,by omega,h3',by omega,hx,.inr ⟨rfl,by omega⟩,by rw[e]⟩
  by_cases hb:(pn.kind=9)=(n.kind=1)
  rotate_left 1
  ·
   have hr:nW n none ps=false:=by
    rw[←hrb]
    have:(pn.kind==9)≠(n.kind==1):=λh=>hb (by rw[Bool.eq_iff_iff,beq_iff_eq,beq_iff_eq]at h;exact propext h)
    simp[this]
   by_cases k9:pn.kind=9
   ·have k1:(n.kind=1)=False:=eq_false λk1=>hb (by simp[k9,k1])
    have k9':=eq_true k9
    simp (maxSteps:=400000) only[↓ak,au,BEq.rfl,seval,hQ,hat,hmn,z0,zi,hgi,ug,k9,k1,hr,tC,iy,iJ,vw,dm,eG,reduceEq]
   ·have k1:n.kind=1:=Decidable.of_not_not λk1=>hb (by simp[k9,k1])
    have k9':=eq_false k9
    simp (maxSteps:=400000) only[↓ak,au,BEq.rfl,seval,hQ,hat,hmn,z0,zi,hgi,ug,k9',k1,hr,tC,iy,iJ,vw,dm,eG,reduceEq]
  have hbb:(pn.kind==9)=(n.kind==1):=by
   rw[Bool.eq_iff_iff];simpa using hb
  rw[hbb]at hrb
  by_cases k2:n.kind=2
  ·have k9:(pn.kind=9)=False:=by rw[hb,k2];simp
   have hk1:¬ n.kind=1:=by omega
   simp only[k2,BEq.rfl,bne_self_eq_false,Bool.true_or,Bool.false_or,Bool.true_and]at hrb
   cases hu:utf pn.name with
   | false=>
    have hr:nW n none ps=false:=by rw[←hrb,hu];simp
    simp (maxSteps:=400000) only[↓ak,au,BEq.rfl,seval,hQ,hat,hmn,z0,zi,hgi,ug,k9,k2,hu,↓gq,hr,tC,iy,iJ,vw,dm,eG,reduceEq]
    repeat' (first | (omega) | intro _ | refine⟨?_,?_⟩)
   | true=>
    rw[hu]at hrb
    rcases aeV with ⟨rfl,hq0⟩ | ⟨rfl,hq0⟩
    ·have kz:((0:Int)<(ps.length:Int)-((qs.length+1:Nat):Int))=False:=eq_false (by omega)
     have hst:=step (by simpa using hrb)
     simp (maxSteps:=400000) only[↓ak,au,BEq.rfl,seval,hQ,hat,hmn,z0,zi,hgi,ug,hlt1,k9,k2,hu,↓gq,kz,↓fM,hnx,toNat_natCast,tC,iy,iJ,vw,dm,eG,reduceEq]
     repeat' (first | exact hst | (omega) | intro _ | refine⟨?_,?_⟩)
    ·have kz:((0:Int)<(ps.length:Int)-((qs.length+1:Nat):Int))=True:=eq_true (by omega)
     simp only[Bool.true_and]at hrb
     cases hbl:Op.bytesLess last pn.name with
     | true=>
      have hne:(pn.name=last)=False:=eq_false λh=>by rw[h,fw]at hbl;cases hbl
      have ace:=ny _ _ hbl
      have hst:=step (by rw[←hrb,hbl];simp)
      simp (maxSteps:=400000) only[↓ak,au,BEq.rfl,seval,hQ,hat,hmn,z0,zi,hgi,ug,hlt1,k9,k2,hu,↓gq,kz,hne,ace,↓fM,hnx,toNat_natCast,tC,iy,iJ,vw,dm,eG,reduceEq]
      repeat' (first | exact hst | (omega) | intro _ | refine⟨?_,?_⟩)
     | false=>
      have hr:nW n none ps=false:=by rw[←hrb,hbl];simp
      by_cases he:pn.name=last
      ·have he':=eq_true he
       have ace:Op.bytesLess pn.name last=false:=by rw[he,fw]
       simp (maxSteps:=400000) only[↓ak,au,BEq.rfl,seval,hQ,hat,hmn,z0,zi,hgi,ug,k9,k2,hu,↓gq,kz,he',ace,hr,tC,iy,iJ,vw,dm,eG,reduceEq]
       repeat' (first | (omega) | intro _ | refine⟨?_,?_⟩)
      ·have he':=eq_false he
       have ace:Op.bytesLess pn.name last=true:=by
        rcases EO pn.name last with g | g | g
        ·exact g
        ·exact absurd g he
        ·rw[g]at hbl;cases hbl
       simp (maxSteps:=400000) only[↓ak,au,BEq.rfl,seval,hQ,hat,hmn,z0,zi,hgi,ug,k9,k2,hu,↓gq,kz,he',ace,hr,tC,iy,iJ,vw,dm,eG,reduceEq]
       repeat' (first | (omega) | intro _ | refine⟨?_,?_⟩)
  ·have k2':=eq_false k2
   have k2b:(n.kind==2)=false:=by simpa using k2
   have k2n:(n.kind !=2)=true:=by simpa using k2
   simp only[BEq.rfl,k2b,k2n,Bool.true_and,Bool.false_or,Bool.true_or,Bool.and_true]at hrb
   by_cases hnm:pn.name=[]
   ·have hnm':=eq_true hnm
    have hst:=step (by rw[←hrb,hnm];simp)
    by_cases k1:n.kind=1
    ·have k9:(pn.kind=9)=True:=by rw[hb];exact eq_true k1
     have k1':=eq_true k1
     simp (maxSteps:=400000) only[↓ak,au,BEq.rfl,seval,hQ,hat,hmn,z0,zi,hgi,ug,hlt1,k9,k1,hnm',↓fM,hnx,toNat_natCast,tC,iy,iJ,vw,dm,eG,reduceEq]
     repeat' (first | exact hst | (omega) | intro _ | refine⟨?_,?_⟩)
    ·have k1':=eq_false k1
     have k9:(pn.kind=9)=False:=by rw[hb];exact k1'
     simp (maxSteps:=400000) only[↓ak,au,BEq.rfl,seval,hQ,hat,hmn,z0,zi,hgi,ug,hlt1,k9,k1',k2',hnm',↓fM,hnx,toNat_natCast,tC,iy,iJ,vw,dm,eG,reduceEq]
     repeat' (first | exact hst | (omega) | intro _ | refine⟨?_,?_⟩)
   ·have hnm':=eq_false hnm
    have hr:nW n none ps=false:=by rw[←hrb];simp[hnm]
    by_cases k1:n.kind=1
    ·have k9:(pn.kind=9)=True:=by rw[hb];exact eq_true k1
     simp (maxSteps:=400000) only[↓ak,au,BEq.rfl,seval,hQ,hat,hmn,z0,zi,hgi,ug,k9,k1,hnm',hr,tC,iy,iJ,vw,dm,eG,reduceEq]
    ·have k1':=eq_false k1
     have k9:(pn.kind=9)=False:=by rw[hb];exact k1'
     simp (maxSteps:=400000) only[↓ak,au,BEq.rfl,seval,hQ,hat,hmn,z0,zi,hgi,ug,k9,k1',k2',hnm',hr,tC,iy,iJ,vw,dm,eG,reduceEq]
def jb:dD:=λargs objs K=>match args with
 | [a0,.int .i64 i]=>dZ ay a0 (HK.mk:HK λt=>(0≤i)∧(i.toNat<t.length)∧(qd t)∧(Y.One t)∧K (.bool (Ce t i.toNat)) objs 0)
 | _=>False
theorem Pn:aC Tryz.prog 33 (jb):=by
 intro args objs K h
 unfold jb at h
 split at h
 ·rename_i a0 i
  obtain⟨t,rfl,h1,h2,h3,h4,hk⟩:=h
  exact⟨_,_,_,.pure _ rfl ((by have:=Pm t i.toNat _ h3 h4 (List.getElem?_eq_getElem h2);rwa[Int.toNat_of_nonneg h1]at this)),hk⟩
 ·exact h.elim
theorem VY(nm:List UInt8)(o:Nat)(q:aD)(qs:List aD):kS nm o (q::qs)=if Y.nameOf q=nm then some (o,q) else kS nm (o+q.length) qs:=rfl
theorem Gv(t:aD)(hs:qd t)(ho:Y.One t):∀(p:List Stp) (at':Nat),at'<t.length→p.length≤1000000→ai Tryz.prog 35 [ay t,.int .i64 at',dO p] [] (.int .i64 (kF t at' p)) []
 | [],at',hat,hp=>by
  refine tu.aX (T:=aR Tryz.prog []) 0 hD (aj ah) aV (by decide) λQ hQ=>?_
  have hr:kF t at' []=at':=by simp[kF,fD]
  have c00:((0:Nat):Int)=0:=rfl
  (conv=>arg 4;cbv);simp (maxSteps:=400000) only[↓ak,au,BEq.rfl,seval,hQ,hr,c00]
 | s::p,at',hat,hp=>by
  have hok:aC Tryz.prog 35 (λargs objs K=>∃i:Int,args=[ay t,.int .i64 i,dO p]∧0≤i∧i<t.length∧K (.int .i64 (kF t i.toNat p)) objs 0):=by
   rintro args objs K ⟨i,rfl,h1,h2,hk⟩
   have:=Gv t hs ho p i.toNat (by omega) (by simp only[List.length_cons]at hp;omega)
   rw[Int.toNat_of_nonneg h1]at this
   exact⟨_,_,_,.pure _ rfl this,hk⟩
  refine tu.aX (T:=aR Tryz.prog [(31,fM),(35,_)]) 0 hD (aj (af nX (af hok ah))) aV (by decide) λQ hQ=>?_
  have hl:=hs.len
  have hgt:=List.getElem?_eq_getElem hat
  generalize t[at']=n at hgt
  obtain⟨ps,c,hm,hmL,hps,hsk,hfl,hone,hsub,hle⟩:=Y.uj ho hgt
  have hpl:=Y.bD _ _ _ hps
  have hpo:Y.partsOf n ps.flatten=ps:=by
   have:=Y.iE ps hone
   rw[hpl]at this
   simp[Y.partsOf,this]
  have z0:(0≤(at':Int))=True:=eq_true (by omega)
  have hg0:(s::p)[0]?=some s:=rfl
  have hdr:(s::p).drop 1=p:=rfl
  have hpn:(((s::p).length:Int)=0)=False:=eq_false (by simp only[List.length_cons];omega)
  have hwl:1≤(s::p).length:=by simp
  generalize hsp:s::p=w at *
  by_cases hk:n.kind=2∧s.part=false
  rotate_left 1
  ·have hr:kF t at' w=-1:=by
     simp only[kF,hsub,←hsp,fD];rw[if_neg hk]
   by_cases k2:n.kind=2
   ·have hpt:s.part=true:=by
      cases h:s.part with
      | true=>rfl
      | false=>exact absurd ⟨k2,h⟩ hk
    (conv=>arg 4;cbv);simp (maxSteps:=400000) only[↓ak,au,BEq.rfl,seval,hQ,hpn,hgt,z0,k2,hg0,hpt,hr,reduceEq]
   ·have k2':=eq_false k2
    (conv=>arg 4;cbv);simp (maxSteps:=400000) only[↓ak,au,BEq.rfl,seval,hQ,hpn,hgt,z0,k2',hr]
  obtain⟨k2,hpt⟩:=hk
  have hr:kF t at' w=match kS s.name 1 ps with | some (o,q)=>(match (fD p q).map (o+·) with | some j=>((at'+j:Nat):Int) | none=>-1) | none=>-1:=by
   simp only[kF,hsub,←hsp,fD]
   rw[if_pos ⟨k2,hpt⟩,hpo]
   cases kS s.name 1 ps with
   | none=>rfl
   | some oq=>rfl
  (conv=>arg 4;cbv);simp (maxSteps:=400000) only[↓ak,au,BEq.rfl,seval,hQ,hpn,hgt,z0,k2,hg0,hpt,reduceEq]
  refine⟨⟨by omega,by omega⟩,?_⟩
  refine aF (λm S=>∃(i:Nat) (rest:List aD),m=rest.length∧rest.length≤ps.length∧at'+1≤i∧Y.parts rest.length (t.drop i)=some rest∧i≤t.length∧kS s.name (i-at') rest=kS s.name 1 ps∧
   S=⟨dG 54 [(0,ay t),(1,.int .i64 at'),(2,dO w),(7,.int .i64 i),(8,.int .i64 ((ps.length:Int)-rest.length))],[]⟩) ps.length ⟨at'+1,ps,rfl,Nat.le_refl _,Nat.le_refl _,by rw[hpl];exact hps,by omega,by rw[show at'+1-at'=1 by omega],?_⟩ ?_
  ·simp only[bN,keepR,Nat.reduceAdd,lJ,Nat.reduceBEq,List.map_nil]
   simp
  rintro m S ⟨i,rest,rfl,hrl,hia,hrp,hit,hrb,rfl⟩
  have hmn:n.many=(ps.length:Int):=by omega
  have zi:(0≤(i:Int))=True:=eq_true (by omega)
  cases rest with
  | nil=>
   have hlt:((ps.length:Int)-0<(ps.length:Int))=False:=eq_false (by omega)
   have hr':kF t at' w=-1:=by rw[hr,←hrb];rfl
   simp (maxSteps:=400000) only[↓ak,au,BEq.rfl,seval,hQ,hgt,hmn,z0,List.length_nil,hlt,hr']
  | cons q qs=>
   obtain⟨pc,qs',h1,h2,h3⟩:=Y.d9 (k:=qs.length) hrp
   simp only[List.cons.injEq]at h2
   obtain⟨hp',rfl⟩:=h2
   have hpc:=Y.dS _ _ _ h1
   simp only[List.length_drop]at hpc
   have hil:i<t.length:=by omega
   have hgi:=List.getElem?_eq_getElem hil
   have hdi:=List.drop_eq_getElem_cons hil
   generalize t[i]=pn at hgi hdi
   obtain⟨k,hk⟩:∃k,pc=k+1:=⟨pc-1,by omega⟩
   have hname:Y.nameOf q=pn.name:=by rw[hp',hdi,hk];rfl
   have hnx:rR t i=(i+pc:Nat):=yP (Y.nP _ _ _ _ h1 (by omega))
   have hsq:Y.qc t i=q:=by unfold Y.qc;rw[h1];exact hp'.symm
   have hql:q.length=pc:=by rw[hp',List.length_take,List.length_drop];omega
   simp only[List.length_cons]at hrl
   have h3':Y.parts qs.length (t.drop (i+pc))=some qs:=by rw[←List.drop_drop];exact h3
   have ug:((ps.length:Int)-((qs.length+1:Nat):Int)<(ps.length:Int))=True:=eq_true (by omega)
   have hlt1:(-9223372036854775808≤(ps.length:Int)-((qs.length+1:Nat):Int)+1∧(ps.length:Int)-((qs.length+1:Nat):Int)+1≤9223372036854775807)=True:=eq_true ⟨by omega,by omega⟩
   have e:(ps.length:Int)-((qs.length+1:Nat):Int)+1=(ps.length:Int)-qs.length:=by omega
   rw[VY,hname]at hrb
   by_cases hnm:pn.name=s.name
   ·have hnm':=eq_true hnm
    rw[if_pos hnm]at hrb
    have hr':kF t at' w=kF t i p:=by
     rw[hr,←hrb]
     simp only[kF,hsq]
     cases fD p q with
     | none=>rfl
     | some j=>simp only[Option.map_some];omega
    simp (maxSteps:=400000) only[↓ak,au,BEq.rfl,seval,hQ,hgt,hmn,z0,zi,hgi,hg0,ug,hnm',hr',List.take_length,hdr,toNat_natCast]
    repeat' (first | (omega) | exact rfl | exact⟨(i:Int),rfl,by omega,by omega,by rw[toNat_natCast]⟩ | intro _ | refine⟨?_,?_⟩)
   ·have hnm':=eq_false hnm
    rw[if_neg hnm]at hrb
    simp (maxSteps:=400000) only[↓ak,au,BEq.rfl,seval,hQ,hgt,hmn,z0,zi,hgi,hg0,ug,hlt1,hnm',↓fM,hnx,toNat_natCast]
    repeat' (first | (omega) | exact⟨qs.length,by omega,i+pc,qs,rfl,by omega,by omega,h3',by omega,by rw[show i+pc-at'=i-at'+q.length by omega];exact hrb,by rw[e]⟩ | intro _ | refine⟨?_,?_⟩)
def lU:dD:=λargs objs K=>match args with
 | [a0,.int .i64 i,a2]=>dZ ay a0 (HK.mk:HK λt=>dZ dO a2 (HK.mk:HK λp=>(0≤i)∧(i<t.length)∧(qd t)∧(Y.One t)∧(p.length≤1000000)∧K (.int .i64 (kF t i.toNat p)) objs 0))
 | _=>False
theorem Po:aC Tryz.prog 35 (lU):=by
 intro args objs K h
 unfold lU at h
 split at h
 ·rename_i a0 i a2
  obtain⟨t,rfl,p,rfl,h1,h2,h3,h4,h5,hk⟩:=h
  exact⟨_,_,_,.pure _ rfl ((by have:=Gv t h3 h4 p i.toNat (by omega) h5;rwa[Int.toNat_of_nonneg h1]at this)),hk⟩
 ·exact h.elim
def pW(t:aD)(p:List Stp):PV:=.bY [.int .i64 (match fo p t with | some i=>(i:Int) | none=>0),.bool (fo p t).isSome]
end Lp
namespace Lp
open Go Go.Proofs
open List (length_drop map_nil)
open Int (toNat_natCast)
theorem VZ{x:dR}(h:bQ bA x=true)(hk:x.kind=7∨x.kind=8):x.many=1:=by
 rcases hk with k | k<;>simp only[bQ,k,Int.reduceEq,if_false,if_true,or_false,or_true,false_or,true_or,Bool.and_eq_true,beq_iff_eq]at h<;>exact h.1.1.1
theorem ZQ{t:aD}{i:Nat}{x:dR}(ho:Y.One t)(hx:t[i]?=some x)(hm:(x.kind=7∨x.kind=8)→x.many=1) :
  (x.kind=7∨x.kind=8→i+1<t.length∧(lZ t i=true↔0≤kF t (i+1) (cO x.s)∧∃y,t[(kF t (i+1) (cO x.s)).toNat]?=some y∧y.kind=1))∧(¬ (x.kind=7∨x.kind=8)→lZ t i=true):=by
 obtain⟨ps,c,h1,h2,h3,h4,h5,h6,h7,h8⟩:=Y.uj ho hx
 have hl:=(List.getElem?_eq_some_iff.1 hx).1
 have hd:=List.drop_eq_getElem_cons hl
 have he:lZ t i=xg cO x ps:=by
  rw[List.getElem?_eq_getElem hl]at hx
  cases hx
  simp only[lZ,hd,h3]
 rw[he]
 constructor
 ·intro hk
  rw[hm hk]at h3 h4
  obtain⟨pc,qs,g1,g2,g3⟩:=Y.d9 (k:=0) h3
  have hq:qs=[]:=by simpa[Y.parts] using g3.symm
  subst hq
  have hil:i+1<t.length:=by
   have:=Y.dS _ _ _ g1
   rw[length_drop]at this;omega
  have hsub:Y.qc t (i+1)=(t.drop (i+1)).take pc:=by unfold Y.qc;rw[g1]
  refine⟨hil,?_⟩
  rw[←ab8 ho hil,hsub]
  simp only[xg,if_pos hk,g2]
 ·intro hk
  simp only[xg,if_neg hk]
theorem Pp(t:aD)(hs:qd t):ai Tryz.prog 14 [ay t] [] (.bool (gy t)) []:=by
 have hl:=hs.len
 refine BX.aX (T:=aR Tryz.prog [(31,fM),(32,g_),(33,jb),(34,fK),(35,lU)]) 0 hD (aj (af nX (af LA (af Pn (af wC (af Po ah)))))) aV (by decide) λQ hQ=>?_
 rcases Nat.eq_zero_or_pos t.length with hv | hv
 ·have hr:gy t=false:=by
    have:t=[]:=List.length_eq_zero_iff.1 hv
    rw[this];rfl
  have hv':((t.length:Int)=0)=True:=eq_true (by omega)
  (conv=>arg 4;cbv);simp (maxSteps:=400000) only[↓ak,au,BEq.rfl,seval,hQ,hr,hv']
 have hv':((t.length:Int)=0)=False:=eq_false (by omega)
 obtain⟨n0,r0,Io⟩:∃n r,t=n::r:=by
  cases t with
  | nil=>simp at hv
  | cons n r=>exact⟨n,r,rfl⟩
 have hg0:t[0]?=some n0:=by rw[Io];rfl
 have hnm:Y.nameOf t=n0.name:=by rw[Io];rfl
 have hkd:Y.kindOf t=n0.kind:=by rw[Io];rfl
 have hne:t.isEmpty=false:=by rw[Io];rfl
 by_cases hname:n0.name=[]
 rotate_left 1
 ·have hr:gy t=false:=by simp[gy,hnm,hname]
  (conv=>arg 4;cbv);simp (maxSteps:=400000) only[↓ak,au,BEq.rfl,seval,hQ,hr,hv',hg0,hname]
 by_cases hk9:n0.kind=9
 ·have hr:gy t=false:=by simp[gy,hkd,hk9]
  (conv=>arg 4;cbv);simp (maxSteps:=400000) only[↓ak,au,BEq.rfl,seval,hQ,hr,hv',hg0,hname,hk9]
 have ag8:=eq_false hk9
 have hz:Int.toNat 0=0:=rfl
 by_cases hnx:rR t 0=(t.length:Int)
 rotate_left 1
 ·have hr:gy t=false:=by
    have:Y.iX t.length t 1≠some t.length:=λh=>hnx (by rw[yP (i:=0) (by simpa using h)];simp)
    simp[gy,this]
  have ah2:=eq_false hnx
  (conv=>arg 4;cbv);simp (maxSteps:=400000) only[↓ak,au,BEq.rfl,seval,hQ,hr,hv',hg0,hname,ag8,hz,↓fM,ah2]
  exact⟨Nat.zero_le _,hl⟩
 have hn:Y.iX t.length t 1=some t.length:=by
  unfold rR at hnx
  rw[List.drop_zero]at hnx
  cases hx:Y.iX t.length t 1 with
  | none=>rw[hx]at hnx;simp only at hnx;omega
  | some c=>rw[hx]at hnx;simp only at hnx;congr 1;omega
 have ho:Y.One t:=Y.o_ _ _ _ _ hn
 have hr:gy t=Y.gF (jo bA cO) t:=by
  simp[gy,hnm,hkd,hname,hk9,hn,hne]
 (conv=>arg 4;cbv);simp (maxSteps:=400000) only[↓ak,au,BEq.rfl,seval,hQ,hv',hg0,hname,ag8,hz,↓fM,hnx]
 refine⟨Nat.zero_le _,hl,?_⟩
 refine aF (λm S=>∃i:Nat,i+m=t.length∧Y.gF (jo bA cO) (t.drop i)=Y.gF (jo bA cO) t∧S=⟨dG 87 [(0,ay t),(3,.int .i64 i)],[]⟩) t.length ⟨0,by omega,rfl,?_⟩ ?_
 ·simp only[bN,keepR,Nat.reduceAdd,lJ,Nat.reduceBEq,map_nil]
  rfl
 rintro m S ⟨i,him,hgd,rfl⟩
 rcases Nat.lt_or_ge i t.length with h | h
 ·have hg:=List.getElem?_eq_getElem h
  have htx:=hs.txt _ (List.getElem_mem h)
  generalize t[i]=n at hg htx
  have hd:=VR hg
  rw[hgd,←hr]at hd
  have zi:(0≤(i:Int))=True:=eq_true (by omega)
  have Qv:(0≤(i:Int)+1)=True:=eq_true (by omega)
  have OM:((i:Int)+1).toNat=i+1:=by omega
  have hlt:((i:Int)<(t.length:Int))=True:=eq_true (by omega)
  have next:gy t=Y.gF (jo bA cO) (t.drop (i+1))→∃m',m'<m∧∃Im:Nat,Im+m'=t.length∧Y.gF (jo bA cO) (t.drop Im)=Y.gF (jo bA cO) t∧(⟨dG 87 [(0,ay t),(3,.int .i64 ((i:Int)+1))],[]⟩:St)=⟨dG 87 [(0,ay t),(3,.int .i64 Im)],[]⟩:=λe=>
   ⟨m-1,by omega,i+1,by omega,by rw[←e,hr],rfl⟩
  cases hp:bQ bA n
  ·have hr2:gy t=false:=by rw[hd,hp];rfl
   simp (maxSteps:=400000) only[↓ak,au,BEq.rfl,seval,hQ,hg,↓g_,↓jb,hp,zi,hlt,hr2]
   exact⟨htx.1,htx.2.2⟩
  cases hq:Ce t i
  ·have hr2:gy t=false:=by rw[hd,hp,hq];rfl
   simp (maxSteps:=400000) only[↓ak,au,BEq.rfl,seval,hQ,hg,↓g_,↓jb,toNat_natCast,hp,hq,zi,hlt,hr2]
   exact⟨htx.1,htx.2.2,h,hs,ho⟩
  rw[hp,hq,Bool.true_and,Bool.true_and]at hd
  obtain⟨l1,l2⟩:=ZQ ho hg (VZ hp)
  by_cases hk:n.kind=7∨n.kind=8
  rotate_left 1
  ·have k7:(n.kind=7)=False:=eq_false λh=>hk (.inl h)
   have k8:(n.kind=8)=False:=eq_false λh=>hk (.inr h)
   rw[l2 hk,Bool.true_and]at hd
   have hst:=next hd
   simp (maxSteps:=400000) only[↓ak,au,BEq.rfl,seval,hQ,hg,↓g_,↓jb,toNat_natCast,hp,hq,zi,hlt,k7,k8]
   repeat' (first | omega | exact htx.1 | exact htx.2.2 | exact hs | exact ho | exact hst | refine⟨?_,?_⟩)
  obtain⟨hil,hli⟩:=l1 hk
  have hpl:=FJ n.s
  have hlr:=SV (p:=cO n.s) ho hil
  by_cases h7:n.kind=7
  ·have k7:=eq_true h7
   generalize hL:kF t (i+1) (cO n.s)=L at *
   by_cases hn0:L<0
   ·have Pq:=eq_true hn0
    have hr2:gy t=false:=by
     rw[hd]
     have:lZ t i=false:=by
      cases hx:lZ t i with
      | false=>rfl
      | true=>exact absurd (hli.1 hx).1 (by omega)
     rw[this];rfl
    simp (maxSteps:=400000) only[↓ak,au,BEq.rfl,seval,hQ,hg,↓g_,↓jb,↓fK,↓lU,eY,toNat_natCast,OM,hp,hq,zi,hlt,k7,hL,Pq,hr2]
    repeat' (first | omega | exact htx.1 | exact htx.2.2 | exact hs | exact ho | refine⟨?_,?_⟩)
   ·have Pq:=eq_false hn0
    obtain⟨j,rfl⟩:∃j:Nat,L=j:=⟨L.toNat,by omega⟩
    rw[toNat_natCast]at hli
    have hjl:j<t.length:=by omega
    have hgj:=List.getElem?_eq_getElem hjl
    have zj:(0≤(j:Int))=True:=eq_true (by omega)
    generalize t[j]=y at hgj
    by_cases hk1:y.kind=1
    ·have hla:lZ t i=true:=hli.2 ⟨by omega,y,hgj,hk1⟩
     rw[hla,Bool.true_and]at hd
     have hst:=next hd
     simp (maxSteps:=400000) only[↓ak,au,BEq.rfl,seval,hQ,hg,↓g_,↓jb,↓fK,↓lU,eY,toNat_natCast,OM,hp,hq,zi,hlt,k7,hL,Pq,zj,hgj,hk1]
     repeat' (first | omega | exact htx.1 | exact htx.2.2 | exact hs | exact ho | exact hst | refine⟨?_,?_⟩)
    ·have V3:=eq_false hk1
     have hr2:gy t=false:=by
      rw[hd]
      have:lZ t i=false:=by
       cases hx:lZ t i with
       | false=>rfl
       | true=>obtain⟨_,z,hz1,hz2⟩:=hli.1 hx;rw[hgj]at hz1;cases hz1;exact absurd hz2 hk1
      rw[this];rfl
     simp (maxSteps:=400000) only[↓ak,au,BEq.rfl,seval,hQ,hg,↓g_,↓jb,↓fK,↓lU,eY,toNat_natCast,OM,hp,hq,zi,hlt,k7,hL,Pq,zj,hgj,V3,hr2]
     repeat' (first | omega | exact htx.1 | exact htx.2.2 | exact hs | exact ho | refine⟨?_,?_⟩)
  ·have k7:=eq_false h7
   have k8:=eq_true (hk.resolve_left h7)
   generalize hL:kF t (i+1) (cO n.s)=L at *
   by_cases hn0:L<0
   ·have Pq:=eq_true hn0
    have hr2:gy t=false:=by
     rw[hd]
     have:lZ t i=false:=by
      cases hx:lZ t i with
      | false=>rfl
      | true=>exact absurd (hli.1 hx).1 (by omega)
     rw[this];rfl
    simp (maxSteps:=400000) only[↓ak,au,BEq.rfl,seval,hQ,hg,↓g_,↓jb,↓fK,↓lU,eY,toNat_natCast,OM,hp,hq,zi,hlt,k7,k8,hL,Pq,hr2]
    repeat' (first | omega | exact htx.1 | exact htx.2.2 | exact hs | exact ho | refine⟨?_,?_⟩)
   ·have Pq:=eq_false hn0
    obtain⟨j,rfl⟩:∃j:Nat,L=j:=⟨L.toNat,by omega⟩
    rw[toNat_natCast]at hli
    have hjl:j<t.length:=by omega
    have hgj:=List.getElem?_eq_getElem hjl
    have zj:(0≤(j:Int))=True:=eq_true (by omega)
    generalize t[j]=y at hgj
    by_cases hk1:y.kind=1
    ·have hla:lZ t i=true:=hli.2 ⟨by omega,y,hgj,hk1⟩
     rw[hla,Bool.true_and]at hd
     have hst:=next hd
     simp (maxSteps:=400000) only[↓ak,au,BEq.rfl,seval,hQ,hg,↓g_,↓jb,↓fK,↓lU,eY,toNat_natCast,OM,hp,hq,zi,hlt,k7,k8,hL,Pq,zj,hgj,hk1]
     repeat' (first | omega | exact htx.1 | exact htx.2.2 | exact hs | exact ho | exact hst | refine⟨?_,?_⟩)
    ·have V3:=eq_false hk1
     have hr2:gy t=false:=by
      rw[hd]
      have:lZ t i=false:=by
       cases hx:lZ t i with
       | false=>rfl
       | true=>obtain⟨_,z,hz1,hz2⟩:=hli.1 hx;rw[hgj]at hz1;cases hz1;exact absurd hz2 hk1
      rw[this];rfl
     simp (maxSteps:=400000) only[↓ak,au,BEq.rfl,seval,hQ,hg,↓g_,↓jb,↓fK,↓lU,eY,toNat_natCast,OM,hp,hq,zi,hlt,k7,k8,hL,Pq,zj,hgj,V3,hr2]
     repeat' (first | omega | exact htx.1 | exact htx.2.2 | exact hs | exact ho | refine⟨?_,?_⟩)
 ·have hlt:((i:Int)<(t.length:Int))=False:=eq_false (by omega)
  have hr2:gy t=true:=by rw[hr,←hgd,List.drop_eq_nil_of_le h];rfl
  simp (maxSteps:=400000) only[↓ak,au,BEq.rfl,seval,hQ,hlt,hr2]
def rW:dD:=λargs objs K=>match args with
 | [a0]=>dZ ay a0 (HK.mk:HK λt=>(qd t)∧K (.bool (gy t)) objs 0)
 | _=>False
theorem LB:aC Tryz.prog 14 (rW):=by
 intro args objs K h
 unfold rW at h
 split at h
 ·rename_i a0
  obtain⟨t,rfl,h1,hk⟩:=h
  exact⟨_,_,_,.pure _ rfl (Pp t h1),hk⟩
 ·exact h.elim
theorem aeW:(b_ ⟨0,aQ⟩).cells.length=7∧(∀a,(b_ a).cells.length=7)∧(∀a,(b_ a).cells.all PV.storable=true):=⟨rfl,λ_=>rfl,λ_=>rfl⟩
theorem Ps(t:aD)(at':Nat)(n:dR)(hl:t.length≤1000000)(hat:t[at']?=some n)(hm:n.kind=1→0≤n.many∧at'+1+n.many.toNat≤t.length)(hb:-1000000000≤n.many∧n.many≤1000000000) :
  ai Tryz.prog 38 [ay t,.int .i64 at'] [] (bG (if n.kind=1 then ((t.drop (at'+1)).take n.many.toNat).map iW else [])) []:=by
 have adD:=(List.getElem?_eq_some_iff.1 hat).1
 have z0:(0≤(at':Int))=True:=eq_true (by omega)
 generalize hR:(if n.kind=1 then ((t.drop (at'+1)).take n.many.toNat).map iW else [])=R
 refine BZ.aX (T:=aR Tryz.prog []) 1 hD (aj ah) aV (by decide) λQ hQ=>?_
 (conv=>arg 4;cbv);simp (maxSteps:=400000) only[↓ak,au,BEq.rfl,seval,hQ,atB,ab_,aeW]
 refine⟨⟨by omega,by omega⟩,?_⟩
 by_cases hk:n.kind=1
 rotate_left 1
 ·rw[if_neg hk]at hR
  subst hR
  have hk':=eq_false hk
  refine aF (λm S=>∃_u:Unit,S=⟨dG 44 [(0,ay t),(1,.int .i64 at'),(5,.bO 0 1),(6,.int .i64 ((at':Int)+1))],[⟨29,7,[],true,1⟩]⟩) 0 ⟨(),?_⟩ ?_
  ·simp only[bN,keepR,Nat.reduceAdd,lJ,Nat.reduceBEq,map_nil]
  rintro m S ⟨_,rfl⟩
  have e0:∀ver,eZ 1 0 [⟨29,7,[],true,ver⟩] (.bO 0 ver)=bG []:=λver=>Iz [] ver 29 []
  by_cases hgt:(at':Int)+1≤(at':Int)+n.many
  ·have afJ:=eq_true hgt
   simp (maxSteps:=400000) only[↓ak,au,BEq.rfl,seval,hQ,hat,z0,hk',afJ,e0]
   repeat' (first | (omega) | exact rfl | intro _ | refine⟨?_,?_⟩)
  ·have afJ:=eq_false hgt
   simp (maxSteps:=400000) only[↓ak,au,BEq.rfl,seval,hQ,hat,z0,hk',afJ,e0]
   repeat' (first | (omega) | exact rfl | intro _ | refine⟨?_,?_⟩)
 rw[if_pos hk]at hR
 subst hR
 obtain⟨hm0,hm1⟩:=hm hk
 have hk':=eq_true hk
 refine aF (λm S=>∃(i ver:Nat),i+m=n.many.toNat∧S=⟨dG 44 [(0,ay t),(1,.int .i64 at'),(5,.bO 0 ver),(6,.int .i64 ((at':Int)+1+i))],[⟨29,7,(((t.drop (at'+1)).take i).map iW).map b_,true,ver⟩]⟩) n.many.toNat ⟨0,1,by omega,?_⟩ ?_
 ·simp only[bN,keepR,Nat.reduceAdd,lJ,Nat.reduceBEq,map_nil]
  simp
 rintro m S ⟨i,ver,him,rfl⟩
 rcases Nat.lt_or_ge i n.many.toNat with h | h
 ·have hlt:((at':Int)+1+(i:Int)≤(at':Int)+n.many)=True:=eq_true (by omega)
  have hil:at'+1+i<t.length:=by omega
  have ti:((at':Int)+1+(i:Int)).toNat=at'+1+i:=by omega
  have zi:(0≤(at':Int)+1+(i:Int))=True:=eq_true (by omega)
  have hgi:=List.getElem?_eq_getElem hil
  have hgd:(t.drop (at'+1))[i]?=some t[at'+1+i]:=by rw[List.getElem?_drop];exact hgi
  generalize t[at'+1+i]=x at hgi hgd
  have htk:((t.drop (at'+1)).take (i+1)).map iW=((t.drop (at'+1)).take i).map iW++[⟨x.n,x.c⟩]:=by
   rw[List.take_add_one,hgd];simp[iW]
  have tl:((t.drop (at'+1)).take i).length=i:=by rw[List.length_take,length_drop];omega
  simp (maxSteps:=400000) only[↓ak,au,BEq.rfl,seval,hQ,hat,z0,hk',hlt,ti,zi,hgi,atB,ab_,aeW,tl]
  repeat' (first | (omega) | exact⟨m-1,by omega,i+1,ver+1,by omega,by rw[htk,List.map_append,List.map_cons,map_nil,Int.natCast_add,Int.natCast_one,Int.add_assoc]⟩ | exact rfl | intro _ | refine⟨?_,?_⟩)
 ·have hi:i=n.many.toNat:=by omega
  subst hi
  have hlt:((at':Int)+1+(n.many.toNat:Int)≤(at':Int)+n.many)=False:=eq_false (by omega)
  simp (maxSteps:=400000) only[↓ak,au,BEq.rfl,seval,hQ,hat,z0,hk',hlt,Iz]
  repeat' (first | (omega) | exact rfl | intro _ | refine⟨?_,?_⟩)
def mG(t:aD)(i:Nat):List gG:=match t[i]? with
 | some n=>if n.kind=1 then ((t.drop (i+1)).take n.many.toNat).map iW else []
 | none=>[]
theorem LD(t:aD)(i:Int)(h0:0≤i)(hi:i.toNat<t.length)(hl:t.length≤1000000)(ho:Y.One t):ai Tryz.prog 38 [ay t,.int .i64 i] [] (bG (mG t i.toNat)) []:=by
 have hg:=List.getElem?_eq_getElem hi
 generalize t[i.toNat]=n at hg
 obtain⟨ps,c,h1,h2,h3,h4,h5,h6,h7,h8⟩:=Y.uj ho hg
 have hpl:=Y.bD _ _ _ h3
 have hfl:ps.length≤ps.flatten.length:=by
  have:∀qs:List aD,(∀p∈qs,Y.One p)→qs.length≤qs.flatten.length:=by
   intro qs
   induction qs with
   | nil=>intro _;simp
   | cons q qs ih=>
    intro h
    have a:=ih λp hp=>h p (List.mem_cons_of_mem _ hp)
    have b:=List.length_pos_iff.2 (h q (List.mem_cons_self ..)).ne
    simp only[List.length_cons,List.flatten_cons,List.length_append];omega
  exact this ps h6
 rw[h5,List.length_take,length_drop]at hfl
 have:=Ps t i.toNat n hl hg (λ_=>⟨h1,by omega⟩) ⟨by omega,by omega⟩
 rw[Int.toNat_of_nonneg h0]at this
 simp only[mG,hg]
 exact this
def j5:dD:=λargs objs K=>match args with
 | [a0,.int .i64 i]=>dZ ay a0 (HK.mk:HK λt=>(0≤i)∧(i.toNat<t.length)∧(t.length≤1000000)∧(Y.One t)∧K (bG (mG t i.toNat)) objs 0)
 | _=>False
theorem xw:aC Tryz.prog 38 (j5):=by
 intro args objs K h
 unfold j5 at h
 split at h
 ·rename_i a0 i
  obtain⟨t,rfl,h1,h2,h3,h4,hk⟩:=h
  exact⟨_,_,_,.pure _ rfl (LD t i h1 h2 h3 h4),hk⟩
 ·exact h.elim
theorem Pt(t:aD):mG t 0=bI t:=by
 cases t with
 | nil=>rfl
 | cons n r=>simp[mG,bI]
theorem S9(t:aD)(hl:t.length≤1000000)(ho:Y.One t):ai Tryz.prog 41 [ay t] [] (bG (bI t)) []:=by
 refine B_.aX (T:=aR Tryz.prog [(38,j5)]) 0 hD (aj (af xw ah)) aV (by decide) λQ hQ=>?_
 have h0:0<t.length:=List.length_pos_iff.2 ho.ne
 have hz:Int.toNat 0=0:=rfl
 have e:=Pt t
 (conv=>arg 4;cbv);simp (maxSteps:=400000) only[↓ak,au,BEq.rfl,seval,hQ,↓j5,hz,e]
 repeat' (first | omega | exact ho | refine⟨?_,?_⟩)
def wK:dD:=λargs objs K=>match args with
 | [a0]=>dZ ay a0 (HK.mk:HK λt=>(t.length≤1000000)∧(Y.One t)∧K (bG (bI t)) objs 0)
 | _=>False
theorem LF:aC Tryz.prog 41 (wK):=by
 intro args objs K h
 unfold wK at h
 split at h
 ·rename_i a0
  obtain⟨t,rfl,h1,h2,hk⟩:=h
  exact⟨_,_,_,.pure _ rfl (S9 t h1 h2),hk⟩
 ·exact h.elim
end Lp
namespace Lp
open Go Go.Proofs Go.RowKit
theorem J5(s:List UInt8):ai Tryz.prog 132 [.str s,.str [48]] [] (.str (Lib.trimLeftB s 48)) []:=by
 refine ai.sZ ⟨_,Tryz.XI.f161,by kernel_rfl,by kernel_rfl⟩ λw vs ok hg hr=>?_
 obtain⟨u,v,rfl,h,h'⟩:=RQ hr
 cases lu h
 cases lu h'
 refine (Any.strings_TrimLeft_one Tryz.XI ⟨⟨s⟩⟩ 48 (by decide) w).mono ?_
 rintro e w' ⟨h1,rfl⟩
 exact⟨_,h1,λw ok=>.str _,.refl _ _⟩
theorem Ho(s:List UInt8)(c:UInt8)(hc:c.toNat<128)(hs:s.length≤4611686018427387904):ai Tryz.prog 133 [.str s,.str [c]] [] (.str (Lib.trimRightB s c)) []:=by
 refine ai.sZ ⟨_,Tryz.XJ.f162,by kernel_rfl,by kernel_rfl⟩ λw vs ok hg hr=>?_
 obtain⟨u,v,rfl,h,h'⟩:=RQ hr
 cases lu h
 cases lu h'
 refine (Any.strings_TrimRight_one Tryz.XJ ⟨⟨s⟩⟩ c hc w (by rw[Lib.size_eq];simp;omega)).mono ?_
 rintro e w' ⟨h1,rfl⟩
 exact⟨_,h1,λw ok=>.str _,.refl _ _⟩
def lV:dD:=λargs objs K=>match args with
 | [.str s,a1]=>a1=(.str [48])∧K (.str (Lib.trimLeftB s 48)) objs 0
 | _=>False
theorem Pv:aC Tryz.prog 132 (lV):=by
 intro args objs K h
 unfold lV at h
 split at h
 ·rename_i s a1
  obtain⟨rfl,hk⟩:=h
  exact⟨_,_,_,.pure _ rfl (J5 s),hk⟩
 ·exact h.elim
def jO(c:UInt8):dD:=λargs objs K=>match args with
 | [.str s,a1]=>a1=(.str [c])∧(c.toNat<128)∧(s.length≤4611686018427387904)∧K (.str (Lib.trimRightB s c)) objs 0
 | _=>False
theorem wL(c:UInt8):aC Tryz.prog 133 (jO c):=by
 intro args objs K h
 unfold jO at h
 split at h
 ·rename_i s a1
  obtain⟨rfl,h1,h2,hk⟩:=h
  exact⟨_,_,_,.pure _ rfl (Ho s c h1 h2),hk⟩
 ·exact h.elim
theorem acf:Builder.Extra Tryz.prog Tryz.Gq where
 sizeBuilder:=by kernel_rfl
 liesBuilder:=by kernel_rfl
 t5:=Tryz.zH.t5
 a5:=Tryz.zH.a5
 z5:=Tryz.zH.z5
 v5:=Tryz.zH.v5
 infoByte:=by kernel_rfl
 cellsByte:=by kernel_rfl
 sizeByte:=by kernel_rfl
 neB5:=by decide
theorem Gw(c:UInt8):∀n,Lib.repeatL [c] n=List.replicate n c
 | 0=>rfl
 | n+1=>by rw[Lib.repeatL,Gw c n,List.replicate_succ];rfl
theorem S_(c:UInt8)(n:Int)(h:0≤n∧n≤1000000000):ai Tryz.prog 126 [.str [c],.int .i64 n] [] (.str (List.replicate n.toNat c)) []:=by
 obtain⟨n,rfl⟩:∃k:Nat,n=k:=⟨n.toNat,by omega⟩
 refine ai.sZ ⟨_,Tryz.zH.f105,by kernel_rfl,by kernel_rfl⟩ λw vs ok hg hr=>?_
 obtain⟨u,v,rfl,h,h'⟩:=RQ hr
 cases lu h
 cases RS h'
 refine (Any.strings_Repeat Tryz.zH acf ⟨⟨[c]⟩⟩ n w (by omega) (by rw[Lib.size_eq];simp;omega)).mono ?_
 rintro e w' ⟨h1,h2⟩
 refine⟨_,h1,λw ok=>?_,h2⟩
 have e1:(⟨⟨[c]⟩⟩:ByteArray).data.toList=[c]:=rfl
 rw[e1,Gw]
 exact .str _
def nY(c:UInt8):dD:=λargs objs K=>match args with
 | [a0,.int .i64 n]=>a0=(.str [c])∧(0≤n∧n≤1000000000)∧K (.str (List.replicate n.toNat c)) objs 0
 | _=>False
theorem Ch(c:UInt8):aC Tryz.prog 126 (nY c):=by
 intro args objs K h
 unfold nY at h
 split at h
 ·rename_i a0 n
  obtain⟨rfl,h1,hk⟩:=h
  exact⟨_,_,_,.pure _ rfl (S_ c n h1),hk⟩
 ·exact h.elim
theorem aO.J6 {P:Program}{D:TypeId→aH}{T:Know}{f:FuncId}{n t u:Nat}{ty:TypeId}{C:LC}{args:List PV}{r:PV}(h:aO P f n [.cell t ty,.tmp u] C)(d:Nat)(hD:∀t,je P t (D t))(hT:Ii P none tY T)(hm:P.follows .mixedOrders=true)(ht:t<n)(hu:u<n)
  (hw:∀Q:Exit→St→Prop,(∀l ob,Q .ret ⟨dG n l,ob⟩=fQ (D ty) (nu l t) ob λp _ _=>r=.bY [iB d 0 ob p,iB d 0 ob (nu l u)])→l7 P D T C Q (cK args n)):ai P f args [] r []:=by
 refine h.pure d hD hT hm (by simp) (hw _ λl ob=>?_)
 simp only[oh,jZ,tZ.2.1 n l t ht,tZ.2.1 n l u hu,List.map_cons,List.map_nil,fU]
def eH(neg:Bool)(f:List UInt8)(e:Int):PV:=.bY [aB (dX neg f e).1,.int .i64 (dX neg f e).2]
theorem oV(s:List UInt8)(c:UInt8):(Lib.trimRightB s c).length≤s.length:=by
 unfold Lib.trimRightB
 rw[List.length_reverse]
 exact Nat.le_trans (List.dropWhile_suffix _).length_le (by rw[List.length_reverse];exact Nat.le_refl _)
theorem V4(s:List UInt8)(c:UInt8):(Lib.trimLeftB s c).length≤s.length:=(List.dropWhile_suffix _).length_le
theorem ZR(neg:Bool)(f:List UInt8)(e:Int)(hf:f.length≤1000000)(he:-1000000000≤e∧e≤1000000000):ai Tryz.prog 123 [.bool neg,.str f,.int .i64 e] [] (eH neg f e) []:=by
 refine UZ.J6 (T:=aR Tryz.prog [(131,dL),(132,lV),(133,jO 48),(134,jw)]) 0 hD (aj (af xu (af Pv (af (wL 48) (af A9 ah))))) aV (by decide) (by decide) λQ hQ=>?_
 have c48:(48:UInt8).toNat<128:=by decide
 have hf':f.length≤4611686018427387904:=by omega
 have hlL:=V4 f 48
 generalize hs:Lib.trimLeftB f 48=s at *
 have hlR:=oV s 48
 generalize ht:Lib.trimRightB s 48=t at *
 cases h1:gT f
 ·have hr:eH neg f e=.bY [aB ⟨0,0,[],[],false,0⟩,.int .i64 4]:=by simp[eH,dX,h1,aQ]
  (conv=>arg 4;cbv);simp (maxSteps:=400000) only[↓bf,bg,BEq.rfl,seval,hQ,↓dL,h1,hr,bT,bU]
  repeat' (first | omega | exact c48 | refine⟨?_,?_⟩)
 by_cases h2:s=[]
 ·have hr:eH neg f e=.bY [aB ⟨3,0,[],[],false,0⟩,.int .i64 0]:=by simp[eH,dX,h1,hs,h2]
  have h2':(s=[])=True:=eq_true h2
  (conv=>arg 4;cbv);simp (maxSteps:=400000) only[↓bf,bg,BEq.rfl,seval,hQ,↓dL,↓lV,h1,hs,h2',hr,bT,bU]
  repeat' (first | omega | exact c48 | refine⟨?_,?_⟩)
 have h2':(s=[])=False:=eq_false h2
 rcases tf (e < -100000000) with h3 | h3
 ·have hr:eH neg f e=.bY [aB ⟨0,0,[],[],false,0⟩,.int .i64 2]:=by simp[eH,dX,h1,hs,h2,of_eq_true h3,aQ]
  (conv=>arg 4;cbv);simp (maxSteps:=400000) only[↓bf,bg,BEq.rfl,seval,hQ,↓dL,↓lV,h1,hs,h2',h3,hr,bT,bU]
  repeat' (first | omega | exact c48 | refine⟨?_,?_⟩)
 rcases tf (100000000<e) with h4 | h4
 ·have hr:eH neg f e=.bY [aB ⟨0,0,[],[],false,0⟩,.int .i64 2]:=by simp[eH,dX,h1,hs,h2,of_eq_true h4,aQ]
  (conv=>arg 4;cbv);simp (maxSteps:=400000) only[↓bf,bg,BEq.rfl,seval,hQ,↓dL,↓lV,h1,hs,h2',h3,h4,hr,bT,bU]
  repeat' (first | omega | exact c48 | refine⟨?_,?_⟩)
 have h3':=of_eq_false h3
 have h4':=of_eq_false h4
 rcases tf (100<(t.length:Int)) with h5 | h5
 ·have hr:eH neg f e=.bY [aB ⟨0,0,[],[],false,0⟩,.int .i64 2]:=by
    have:100<t.length:=by have:=of_eq_true h5;omega
    simp[eH,dX,h1,hs,h2,h3',h4',ht,this,aQ]
  (conv=>arg 4;cbv);simp (maxSteps:=400000) only[↓bf,bg,BEq.rfl,seval,hQ,↓dL,↓lV,↓jO,h1,hs,ht,h2',h3,h4,h5,hr,bT,bU]
  repeat' (first | omega | exact c48 | refine⟨?_,?_⟩)
 have h5':¬ 100<t.length:=by have:=of_eq_false h5;omega
 have hpb:QF t.length (e+(s.length-t.length))=DV t.length (e+(s.length-t.length)):=rfl
 cases h6:DV t.length (e+(s.length-t.length))
 ·have hr:eH neg f e=.bY [aB ⟨0,0,[],[],false,0⟩,.int .i64 2]:=by
    simp[eH,dX,h1,hs,h2,h3',h4',ht,hpb,h6,aQ]
  (conv=>arg 4;cbv);simp (maxSteps:=400000) only[↓bf,bg,BEq.rfl,seval,hQ,↓dL,↓lV,↓jO,↓jw,h1,hs,ht,h2',h3,h4,h5,h6,hr,bT,bU]
  repeat' (first | omega | exact c48 | refine⟨?_,?_⟩)
 ·have hr:eH neg f e=.bY [aB ⟨3,0,[],t,neg,e+(s.length-t.length)⟩,.int .i64 0]:=by
    simp[eH,dX,h1,hs,h2,h3',h4',ht,hpb,h6,h5']
  (conv=>arg 4;cbv);simp (maxSteps:=400000) only[↓bf,bg,BEq.rfl,seval,hQ,↓dL,↓lV,↓jO,↓jw,h1,hs,ht,h2',h3,h4,h5,h6,hr,bT,bU]
  repeat' (first | omega | exact c48 | refine⟨?_,?_⟩)
theorem ZT(neg:Bool)(f:List UInt8)(e:Int):(dX neg f e).1.s.length≤100:=by
 unfold dX
 split
 ·simp[aQ]
 split
 ·simp
 split
 ·simp[aQ]
 split
 ·simp[aQ]
 ·rename_i h
  have:=λh'=>h (.inl h')
  simpa using this
def wM:dD:=λargs objs K=>match args with
 | [.bool neg,.str f,.int .i64 e]=>(f.length≤1000000)∧(-1000000000≤e∧e≤1000000000)∧K (eH neg f e) objs 0
 | _=>False
theorem V5:aC Tryz.prog 123 (wM):=by
 intro args objs K h
 unfold wM at h
 split at h
 ·rename_i neg f e
  obtain⟨h1,h2,hk⟩:=h
  exact⟨_,_,_,.pure _ rfl (ZR neg f e h1 h2),hk⟩
 ·exact h.elim
end Lp
namespace Lp
open Go Go.Proofs Go.RowKit
theorem Nn(c:UInt8)(h:c.toNat<128):(Utf8.encode (c.toNat:Int)).data.toList=[c]:=by
 have hv:Utf8.valid (c.toNat:Int)=true:=by
  simp only[Utf8.valid,Bool.or_eq_true,Bool.and_eq_true,decide_eq_true_eq]
  exact .inl ⟨by omega,by omega⟩
 simp only[Utf8.encode,hv,if_true,Int.toNat_natCast,if_pos h]
 show [UInt8.ofNat c.toNat]=[c]
 simp
theorem Ci{s:List UInt8}{c:UInt8}(h:0<(Lib.trimRightB s c).length):∃d,s[(Lib.trimRightB s c).length-1]?=some d∧d≠c:=by
 have ag9:(s.reverse.dropWhile (·==c))≠[]:=by
  intro hh;simp[Lib.trimRightB,hh]at h
 obtain⟨d,r,hr⟩:=List.exists_cons_of_ne_nil ag9
 have hd:d≠c:=by
  have:=List.head_dropWhile_not (·==c) (l:=s.reverse) ag9
  simp only[hr,List.head_cons]at this
  simpa using this
 have hpre:Lib.trimRightB s c <+:s:=by
  unfold Lib.trimRightB
  have:=List.dropWhile_suffix (l:=s.reverse) (·==c)
  rwa[←List.reverse_prefix,List.reverse_reverse]at this
 have ht:Lib.trimRightB s c=r.reverse++[d]:=by simp[Lib.trimRightB,hr]
 rw[ht]at hpre ⊢
 obtain⟨q,hq⟩:=hpre
 refine⟨d,?_,hd⟩
 rw[←hq,List.getElem?_append_left (by simp)]
 simp
theorem wrap32{c:UInt8}:IntKind.i32.wrap (c.toNat:Int)=(c.toNat:Int):=by
 have h:=c.toNat_lt
 have hm:(c.toNat:Int) % 4294967296=c.toNat:=by omega
 unfold IntKind.wrap
 simp[IntKind.bits,IntKind.signed,hm]
 omega
theorem adM(s:List UInt8)(hf:gT s=true)(hs:s.length≤1000000):ai Tryz.prog 124 [.str s] [] (.str (QG s)) []:=by
 refine Y7.aX (T:=aR Tryz.prog [(133,(jO 57)),(126,(nY 48))]) 0 hD (aj (af (wL 57) (af (Ch 48) ah))) aV (by decide) λQ hQ=>?_
 have hle:=oV s 57
 have c57:(57:UInt8).toNat<128:=by decide
 by_cases h0:(Lib.trimRightB s 57).length=0
 ·have h0':(((Lib.trimRightB s 57).length:Int)=0)=True:=eq_true (by omega)
  have hr:QG s=49::List.replicate s.length 48:=by simp[QG,h0]
  (conv=>arg 4;cbv);simp (maxSteps:=400000) only[↓bf,bg,BEq.rfl,seval,hQ,↓jO,↓nY,h0',hr]
  have e:((s.length:Int)-((Lib.trimRightB s 57).length:Int)).toNat=s.length:=by omega
  rw[e]
  exact⟨by omega,by omega,by omega,by omega,rfl⟩
 ·have h0':(((Lib.trimRightB s 57).length:Int)=0)=False:=eq_false (by omega)
  obtain⟨d,hd,hne⟩:=Ci (s:=s) (c:=57) (by omega)
  have hdf:=rO hf hd
  have hr:QG s=s.take ((Lib.trimRightB s 57).length-1)++(d+1)::List.replicate (s.length-(Lib.trimRightB s 57).length) 48:=by simp[QG,h0,List.getD_eq_getElem?_getD,hd]
  generalize hn:(Lib.trimRightB s 57).length=n at *
  have e1:((n:Int)-1).toNat=n-1:=by omega
  have e2:((s.length:Int)-(n:Int)).toNat=s.length-n:=by omega
  have aim:d.toNat≤56:=by
   have:d.toNat≠57:=λh=>hne (UInt8.toNat_inj.1 h)
   omega
  have e3:((d+1).toNat:Int)=(d.toNat:Int)+1:=by
   rw[UInt8.toNat_add]
   have:(1:UInt8).toNat=1:=rfl
   omega
  have e4:IntKind.i32.wrap ((d.toNat:Int)+1)=((d+1).toNat:Int):=by rw[←e3];exact wrap32
  have e5:=Nn (d+1) (by omega)
  (conv=>arg 4;cbv);simp (maxSteps:=400000) only[↓bf,bg,BEq.rfl,seval,hQ,↓jO,↓nY,hn,h0',hr,e1,e2,hd,kZ,ou,e4,e5,List.drop_zero,List.length_take,List.append_assoc,List.cons_append,List.nil_append]
  repeat' (first | omega | exact c57 | exact trivial | refine⟨?_,?_⟩)
def XU:dD:=λargs objs K=>match args with
 | [.str s]=>(gT s=true)∧(s.length≤1000000)∧K (.str (QG s)) objs 0
 | _=>False
theorem acg:aC Tryz.prog 124 (XU):=by
 intro args objs K h
 unfold XU at h
 split at h
 ·rename_i s
  obtain⟨h1,h2,hk⟩:=h
  exact⟨_,_,_,.pure _ rfl (adM s h1 h2),hk⟩
 ·exact h.elim
theorem ZU(s:List UInt8)(hf:gT s=true)(h0:0<(Lib.trimRightB s 48).length)(hs:s.length≤1000000):ai Tryz.prog 125 [.str s] [] (.str (pE s)) []:=by
 refine Rs.aX (T:=aR Tryz.prog [(133,(jO 48)),(126,(nY 57))]) 0 hD (aj (af (wL 48) (af (Ch 57) ah))) aV (by decide) λQ hQ=>?_
 have hle:=oV s 48
 have c48:(48:UInt8).toNat<128:=by decide
 obtain⟨d,hd,hne⟩:=Ci (s:=s) (c:=48) h0
 have hdf:=rO hf hd
 have hr:pE s=s.take ((Lib.trimRightB s 48).length-1)++(d-1)::List.replicate (s.length-(Lib.trimRightB s 48).length) 57:=by simp[pE,List.getD_eq_getElem?_getD,hd]
 generalize hn:(Lib.trimRightB s 48).length=n at *
 have e1:((n:Int)-1).toNat=n-1:=by omega
 have e2:((s.length:Int)-(n:Int)).toNat=s.length-n:=by omega
 have ain:49≤d.toNat:=by
  have:d.toNat≠48:=λh=>hne (UInt8.toNat_inj.1 h)
  omega
 have e3:((d-1).toNat:Int)=(d.toNat:Int)-1:=by
  rw[UInt8.toNat_sub_of_le _ _ (by rw[UInt8.le_iff_toNat_le];have:(1:UInt8).toNat=1:=rfl;omega)]
  have:(1:UInt8).toNat=1:=rfl
  omega
 have e4:IntKind.i32.wrap ((d.toNat:Int)-1)=((d-1).toNat:Int):=by rw[←e3];exact wrap32
 have e5:=Nn (d-1) (by omega)
 (conv=>arg 4;cbv);simp (maxSteps:=400000) only[↓bf,bg,BEq.rfl,seval,hQ,↓jO,↓nY,hn,hr,e1,e2,hd,kZ,ou,e4,e5,List.drop_zero,List.length_take,List.append_assoc,List.cons_append,List.nil_append]
 repeat' (first | omega | exact c48 | exact trivial | refine⟨?_,?_⟩)
def Eb:dD:=λargs objs K=>match args with
 | [.str s]=>(gT s=true)∧(0<(Lib.trimRightB s 48).length)∧(s.length≤1000000)∧K (.str (pE s)) objs 0
 | _=>False
theorem V6:aC Tryz.prog 125 (Eb):=by
 intro args objs K h
 unfold Eb at h
 split at h
 ·rename_i s
  obtain⟨h1,h2,h3,hk⟩:=h
  exact⟨_,_,_,.pure _ rfl (ZU s h1 h2 h3),hk⟩
 ·exact h.elim
end Lp
namespace Lp
open Go Go.Proofs Go.RowKit
open List (length_append length_replicate)
structure Pw (n:Nd):Prop where
 len:n.s.length≤100
 gT:gT n.s=true
 lo:-1000≤n.e
 hi:n.e≤1000
 last:n.s≠[]→0<(Lib.trimRightB n.s 48).length
def dV(n:Nd)(above:Bool):PV:=.bY [aB (dH n above).1,.bool (dH n above).2]
theorem Gx(a b:List UInt8)(ha:gT a=true)(hb:gT b=true):gT (a++b)=true:=by
 unfold gT at *
 simp only[List.all_append,ha,hb,Bool.and_self]
theorem Ta(n:Nat):gT (List.replicate n 48)=true:=by
 unfold gT
 rw[List.all_eq_true]
 intro x hx
 rw[(List.mem_replicate.1 hx).2]
 decide
theorem Np(s:List UInt8)(n:Nat):Lib.trimRightB (s++List.replicate n 48) 48=Lib.trimRightB s 48:=by
 have:∀(k:Nat) (l:List UInt8),List.dropWhile (·==(48:UInt8)) (List.replicate k 48++l)=List.dropWhile (·==(48:UInt8)) l:=by
  intro k l
  induction k with
  | zero=>rfl
  | succ k ih=>rw[List.replicate_succ,List.cons_append,List.dropWhile_cons];simp[ih]
 unfold Lib.trimRightB
 rw[List.reverse_append,List.reverse_replicate,this]
theorem adN(s:List UInt8):(QG s).length≤s.length+1:=by
 unfold QG
 have:=oV s 57
 split
 ·simp
 ·simp only[length_append,List.length_take,List.length_cons,length_replicate];omega
theorem Nq(s:List UInt8):(pE s).length≤s.length+1:=by
 unfold pE
 have:=oV s 48
 simp only[length_append,List.length_take,List.length_cons,length_replicate];omega
theorem adO(above:Bool):eH (!above) [49] (-1000)=.bY [aB ⟨3,0,[],[49],!above,-1000⟩,.int .i64 0]:=by
 cases above<;>rfl
theorem Tc(n:Nd)(above:Bool)(hn:Pw n):ai Tryz.prog 114 [aB n,.bool above] [] (dV n above) []:=by
 refine K7.J6 (T:=aR Tryz.prog [(123,wM),(126,nY 48),(124,XU),(125,Eb)]) 0 hD (aj (af V5 (af (Ch 48) (af acg (af V6 ah))))) aV (by decide) (by decide) λQ hQ=>?_
 by_cases hs:n.s=[]
 ·have hr:dV n above=.bY [aB ⟨3,0,[],[49],!above,-1000⟩,.bool true]:=by simp[dV,dH,hs]
  have b0:=adO above
  (conv=>arg 4;cbv);simp (maxSteps:=400000) only[↓bf,bg,BEq.rfl,seval,hQ,↓wM,b0,hs,hr,bT,bU,bq]
 have hs':(n.s=[])=False:=eq_false hs
 have l1:=hn.len
 have l2:=hn.lo
 have l3:=hn.hi
 have hE:∀T:Int,kQ n above=max (T-100) (-1000)→(if (-1000:Int) > T-100 then (-1000:Int) else T-100)=kQ n above:=λT h=>by rw[h];split<;>omega
 have l4:(0:Int)<n.s.length:=by
  cases h:n.s with
  | nil=>exact absurd h hs
  | cons x r=>simp
 have hEb:-1000≤kQ n above∧kQ n above≤1000∧kQ n above≤n.e:=by
  unfold kQ
  split<;>omega
 generalize Xx:kQ n above=E at *
 have Hq:nA n E=n.s++List.replicate (n.e-E).toNat 48:=rfl
 have hpl:(nA n E).length≤3000:=by rw[Hq,length_append,length_replicate];omega
 have hpf:gT (nA n E)=true:=Gx _ _ hn.gT (Ta _)
 have hpt:0<(Lib.trimRightB (nA n E) 48).length:=by rw[Hq,Np];exact hn.last hs
 have hul:=adN (nA n E)
 have hdl:=Nq (nA n E)
 have hpl':n.s.length+(n.e-E).toNat≤3000:=by have:=hpl;rw[Hq,length_append,length_replicate]at this;exact this
 have hpp:(nA n E).length=n.s.length+(n.e-E).toNat:=by rw[Hq,length_append,length_replicate]
 by_cases hg:n.neg=above
 ·have hg':(n.neg=above)=True:=eq_true hg
  have hr:dV n above=.bY [aB (dX n.neg (pE (nA n E)) E).1,.bool (decide ((dX n.neg (pE (nA n E)) E).2=0))]:=by
   simp only[dV,dH,if_neg hs,if_pos hg,Xx]
  by_cases h49:n.s=[49]
  ·have Px:(n.s=[49])=True:=eq_true h49
   have hEe:=hE (n.s.length+n.e-1) (by rw[←Xx];unfold kQ;rw[if_pos ⟨hg,h49⟩])
   (conv=>arg 4;cbv);simp (maxSteps:=400000) only[↓bf,bg,BEq.rfl,seval,hQ,↓wM,↓nY,↓Eb,hs',hg',Px,bT,bU,bq,hEe,←Hq,hr,eH]
   repeat' (first | omega | exact hpf | exact hpt | exact (by decide) | refine⟨?_,?_⟩)
  ·have Px:(n.s=[49])=False:=eq_false h49
   have hEe:=hE (n.s.length+n.e) (by rw[←Xx];unfold kQ;rw[if_neg λh=>h49 h.2])
   (conv=>arg 4;cbv);simp (maxSteps:=400000) only[↓bf,bg,BEq.rfl,seval,hQ,↓wM,↓nY,↓Eb,hs',hg',Px,bT,bU,bq,hEe,←Hq,hr,eH]
   repeat' (first | omega | exact hpf | exact hpt | exact (by decide) | refine⟨?_,?_⟩)
 ·have hg':(n.neg=above)=False:=eq_false hg
  have hr:dV n above=.bY [aB (dX n.neg (QG (nA n E)) E).1,.bool (decide ((dX n.neg (QG (nA n E)) E).2=0))]:=by
   simp only[dV,dH,if_neg hs,if_neg hg,Xx]
  have hEe:=hE (n.s.length+n.e) (by rw[←Xx];unfold kQ;rw[if_neg λh=>hg h.1])
  (conv=>arg 4;cbv);simp (maxSteps:=400000) only[↓bf,bg,BEq.rfl,seval,hQ,↓wM,↓nY,↓XU,hs',hg',bT,bU,bq,hEe,←Hq,hr,eH]
  repeat' (first | omega | exact hpf | exact hpt | exact (by decide) | refine⟨?_,?_⟩)
def oW:dD:=λargs objs K=>match args with
 | [a0,.bool above]=>dZ aB a0 (HK.mk:HK λn=>(Pw n)∧K (dV n above) objs 0)
 | _=>False
theorem Py:aC Tryz.prog 114 (oW):=by
 intro args objs K h
 unfold oW at h
 split at h
 ·rename_i a0 above
  obtain⟨n,rfl,h1,hk⟩:=h
  exact⟨_,_,_,.pure _ rfl (Tc n above h1),hk⟩
 ·exact h.elim
end Lp
namespace Lp
open Go Go.Proofs Go.RowKit
open List (length_cons map_nil)
theorem V7(s:List UInt8):Lib.trimLeftB (48::s) 48=Lib.trimLeftB s 48:=rfl
theorem V8{c:UInt8}{s:List UInt8}(h:c≠48):Lib.trimLeftB (c::s) 48=c::s:=by
 unfold Lib.trimLeftB
 have:(c==(48:UInt8))=false:=by simpa using h
 simp[this]
theorem V9(s:List UInt8):Lib.trimRightB (s++[48]) 48=Lib.trimRightB s 48:=by
 unfold Lib.trimRightB
 rw[List.reverse_append];rfl
theorem V_{c:UInt8}{s:List UInt8}(h:c≠48):Lib.trimRightB (s++[c]) 48=s++[c]:=by
 unfold Lib.trimRightB
 have:(c==(48:UInt8))=false:=by simpa using h
 rw[List.reverse_append]
 simp[this]
theorem Wd{c:UInt8}{s:List UInt8}(h:c≠48):Lib.trimRightB (c::s) 48≠[]:=by
 unfold Lib.trimRightB
 have hc:(c==(48:UInt8))=false:=by simpa using h
 rw[List.reverse_cons,List.dropWhile_append]
 split
 ·simp[hc]
 ·simp
def xA(t:List UInt8)(e:Int):Bool:=decide (100<t.length) || decide (e < -1000) || decide (1000<(t.length:Int)+e)
theorem Wh{neg:Bool}{f s t:List UInt8}{e e':Int}(h1:gT f=true)(h2:Lib.trimLeftB f 48=s)(h3:s≠[])(h4:¬ (e < -100000000∨100000000<e))(h5:Lib.trimRightB s 48=t)(h6:e'+t.length=e+s.length) :
  dX neg f e=if xA t e' then (aQ,2) else (⟨3,0,[],t,neg,e'⟩,0):=by
 have h4a:¬ e < -100000000:=λh=>h4 (.inl h)
 have h4b:¬ 100000000<e:=λh=>h4 (.inr h)
 have he:e+((s.length:Int)-(t.length:Int))=e':=by omega
 unfold dX
 rw[if_neg (by simp[h1]),h2,if_neg h3,if_neg h4,h5,he]
 by_cases hb:xA t e'=true
 ·rw[if_pos hb,if_pos]
  simp only[xA,Bool.or_eq_true,decide_eq_true_eq]at hb
  rcases hb with (hb | hb) | hb
  ·exact .inl hb
  ·right;simp[QF];omega
  ·right;simp[QF];omega
 ·rw[if_neg hb,if_neg]
  simp only[xA,Bool.or_eq_true,decide_eq_true_eq,not_or]at hb
  rintro (h | h)
  ·exact hb.1.1 h
  ·simp only[QF,Bool.and_eq_false_iff,decide_eq_false_iff_not]at h;omega
theorem Pz(neg:Bool)(f:List UInt8)(e:Int)(hf:f.length≤1000000)(he:-1000000000≤e∧e≤1000000000):ai Tryz.prog 112 [.bool neg,.str f,.int .i64 e] [] (eH neg f e) []:=by
 refine D_.J6 (T:=aR Tryz.prog [(108,qB)]) 0 hD (aj (af JH ah)) aV (by decide) (by decide) λQ hQ=>?_
 cases h1:gT f
 ·have hr:eH neg f e=.bY [aB ⟨0,0,[],[],false,0⟩,.int .i64 4]:=by simp[eH,dX,h1,aQ]
  (conv=>arg 4;cbv);simp (maxSteps:=400000) only[↓bf,bg,BEq.rfl,seval,hQ,↓qB,h1,hr,bT,bU]
  repeat' (first | omega | exact rfl | refine⟨?_,?_⟩)
 (conv=>arg 4;cbv);simp (maxSteps:=400000) only[↓bf,bg,BEq.rfl,seval,hQ,↓qB,h1,bT,bU]
 refine⟨by omega,?_⟩
 refine aF (λm S=>∃s:List UInt8,s.length=m∧m≤f.length∧Lib.trimLeftB f 48=Lib.trimLeftB s 48∧S=⟨dG 64 [(0,.bool neg),(1,.str s),(2,.int .i64 e),(6,.bP 0 1 0 0)],[⟨27,6,[aB ⟨0,0,[],[],false,0⟩],true,1⟩]⟩) f.length ⟨f,rfl,Nat.le_refl _,rfl,?_⟩ ?_
 ·simp only[bN,keepR,Nat.reduceAdd,lJ,Nat.reduceBEq,map_nil]
 rintro m S ⟨s,hsl,hmf,htl,rfl⟩
 cases s with
 | nil=>
  have z0:((0:Int)<(([]:List UInt8).length:Int))=False:=eq_false (by simp)
  have hr:eH neg f e=.bY [aB ⟨3,0,[],[],false,0⟩,.int .i64 0]:=by
   have:Lib.trimLeftB f 48=[]:=by rw[htl];rfl
   simp[eH,dX,h1,this]
  have he0:(([]:List UInt8)=[])=True:=eq_true rfl
  simp (maxSteps:=400000) only[↓bf,bg,BEq.rfl,seval,hQ,z0,he0,hr,bT,bU,List.length_nil]
  repeat' (first | omega | exact rfl | refine⟨?_,?_⟩)
 | cons c s=>
  simp only[length_cons]at hsl
  have zl:((0:Int)<((c::s).length:Int))=True:=eq_true (by simp only[length_cons];omega)
  have hg0:(c::s)[0]?=some c:=rfl
  have hdr:(c::s).drop 1=s:=rfl
  have b48:(c.toNat:Int)=48↔c=48:=nC (k:=48) (by omega)
  by_cases hc:(c.toNat:Int)=48
  ·have hcc:=b48.1 hc
   subst hcc
   rw[V7]at htl
   have hwl:((48:UInt8)::s).length=m:=by simp only[length_cons];omega
   generalize hw:(48:UInt8)::s=w at *
   simp (maxSteps:=400000) only[↓bf,bg,BEq.rfl,seval,hQ,zl,hg0,hc,List.take_length,hdr]
   repeat' (first | omega | exact⟨m-1,by omega,s,by omega,by omega,htl,rfl⟩ | exact rfl | refine⟨?_,?_⟩)
  have hc':=eq_false hc
  have hcn:c≠48:=λh=>hc (b48.2 h)
  rw[V8 hcn]at htl
  have hne:(c::s=[])=False:=eq_false (by simp)
  have hth:=Wd (s:=s) hcn
  have hwl:(c::s).length=m:=by simp only[length_cons];omega
  generalize hw:c::s=w at *
  have hwne:w≠[]:=λh=>hne.mp h
  rcases tf (e < -100000000) with h3 | h3
  ·have hr:eH neg f e=.bY [aB ⟨0,0,[],[],false,0⟩,.int .i64 2]:=by simp[eH,dX,h1,htl,hwne,of_eq_true h3,aQ]
   simp (maxSteps:=400000) only[↓bf,bg,BEq.rfl,seval,hQ,zl,hg0,hc',hne,h3,hr,bT,bU]
   repeat' (first | omega | exact rfl | refine⟨?_,?_⟩)
  rcases tf (100000000<e) with h4 | h4
  ·have hr:eH neg f e=.bY [aB ⟨0,0,[],[],false,0⟩,.int .i64 2]:=by simp[eH,dX,h1,htl,hwne,of_eq_true h4,aQ]
   simp (maxSteps:=400000) only[↓bf,bg,BEq.rfl,seval,hQ,zl,hg0,hc',hne,h3,h4,hr,bT,bU]
   repeat' (first | omega | exact rfl | refine⟨?_,?_⟩)
  have h3':=of_eq_false h3
  have h4':=of_eq_false h4
  have hrg:¬ (e < -100000000∨100000000<e):=by omega
  simp (maxSteps:=400000) only[↓bf,bg,BEq.rfl,seval,hQ,zl,hg0,hc',hne,h3,h4]
  refine aF (λm' S=>∃(u:List UInt8) (e':Int),u.length=m'∧m'≤m∧Lib.trimRightB w 48=Lib.trimRightB u 48∧e'+u.length=e+w.length∧S=⟨dG 64 [(0,.bool neg),(1,.str u),(2,.int .i64 e'),(6,.bP 0 1 0 0)],[⟨27,6,[aB ⟨0,0,[],[],false,0⟩],true,1⟩]⟩) m ⟨w,e,hwl,Nat.le_refl _,rfl,rfl,?_⟩ ?_
  ·simp only[bN,keepR,Nat.reduceAdd,lJ,Nat.reduceBEq,map_nil]
  rintro m' S ⟨u,e',hul,hum,htr,hee,rfl⟩
  have hun:u≠[]:=λh=>by rw[htr,h]at hth;exact hth rfl
  have hup:0<u.length:=List.length_pos_iff.2 hun
  have hlt:u.length-1<u.length:=by omega
  have hgl:=List.getElem?_eq_getElem hlt
  have hsplit:u=u.take (u.length-1)++[u[u.length-1]]:=by
   conv=>lhs;rw[←List.take_append_drop (u.length-1) u]
   rw[List.drop_eq_getElem_cons hlt,List.drop_eq_nil_of_le (by omega)]
  generalize u[u.length-1]=d at hgl hsplit
  have tl:((u.length:Int)-1).toNat=u.length-1:=by omega
  have zl1:(0≤(u.length:Int)-1)=True:=eq_true (by omega)
  have ll1:((u.length:Int)-1<(u.length:Int))=True:=eq_true (by omega)
  have i1:(-9223372036854775808≤(u.length:Int)-1∧(u.length:Int)-1≤9223372036854775807)=True:=eq_true ⟨by omega,by omega⟩
  have d48:(d.toNat:Int)=48↔d=48:=nC (k:=48) (by omega)
  by_cases hd:(d.toNat:Int)=48
  ·have hdd:=d48.1 hd
   have ah3:Lib.trimRightB w 48=Lib.trimRightB (u.take (u.length-1)) 48:=by
    have hs2:u=u.take (u.length-1)++[48]:=by rw[←hdd];exact hsplit
    rw[htr]
    conv=>lhs;rw[hs2]
    exact V9 _
   have aio:(u.take (u.length-1)).length=u.length-1:=by rw[List.length_take];omega
   simp (maxSteps:=400000) only[↓bf,bg,BEq.rfl,seval,hQ,tl,zl1,ll1,i1,hgl,hd]
   repeat' (first | omega | exact⟨m'-1,by omega,u.take (u.length-1),e'+1,by omega,by omega,ah3,by omega,rfl⟩ | exact rfl | refine⟨?_,?_⟩)
  have hd':=eq_false hd
  have htu:Lib.trimRightB w 48=u:=by rw[htr,hsplit];exact V_ λh=>hd (d48.2 h)
  have hmk:=Wh (neg:=neg) h1 htl hwne hrg htu hee
  rcases tf (100<(u.length:Int)) with g1 | g1
  ·have hr:eH neg f e=.bY [aB ⟨0,0,[],[],false,0⟩,.int .i64 2]:=by
     have:xA u e'=true:=by have:=of_eq_true g1;simp[xA];omega
     rw[eH,hmk,this];rfl
   simp (maxSteps:=400000) only[↓bf,bg,BEq.rfl,seval,hQ,tl,zl1,ll1,i1,hgl,hd',g1,hr,bT,bU]
   repeat' (first | omega | exact rfl | refine⟨?_,?_⟩)
  rcases tf (e' < -1000) with g2 | g2
  ·have hr:eH neg f e=.bY [aB ⟨0,0,[],[],false,0⟩,.int .i64 2]:=by
     have:xA u e'=true:=by have:=of_eq_true g2;simp[xA];omega
     rw[eH,hmk,this];rfl
   simp (maxSteps:=400000) only[↓bf,bg,BEq.rfl,seval,hQ,tl,zl1,ll1,i1,hgl,hd',g1,g2,hr,bT,bU]
   repeat' (first | omega | exact rfl | refine⟨?_,?_⟩)
  rcases tf (1000<(u.length:Int)+e') with g3 | g3
  ·have hr:eH neg f e=.bY [aB ⟨0,0,[],[],false,0⟩,.int .i64 2]:=by
     have:xA u e'=true:=by have:=of_eq_true g3;simp[xA];omega
     rw[eH,hmk,this];rfl
   simp (maxSteps:=400000) only[↓bf,bg,BEq.rfl,seval,hQ,tl,zl1,ll1,i1,hgl,hd',g1,g2,g3,hr,bT,bU]
   repeat' (first | omega | exact rfl | refine⟨?_,?_⟩)
  ·have hr:eH neg f e=.bY [aB ⟨3,0,[],u,neg,e'⟩,.int .i64 0]:=by
     have:xA u e'=false:=by
      have g1':=of_eq_false g1
      have g2':=of_eq_false g2
      have g3':=of_eq_false g3
      simp only[xA,Bool.or_eq_false_iff,decide_eq_false_iff_not];omega
     rw[eH,hmk,this];rfl
   simp (maxSteps:=400000) only[↓bf,bg,BEq.rfl,seval,hQ,tl,zl1,ll1,i1,hgl,hd',g1,g2,g3,hr,bT,bU]
   repeat' (first | omega | exact rfl | refine⟨?_,?_⟩)
def nZ:dD:=λargs objs K=>match args with
 | [.bool neg,.str f,.int .i64 e]=>(f.length≤1000000)∧(-1000000000≤e∧e≤1000000000)∧K (eH neg f e) objs 0
 | _=>False
theorem Td:aC Tryz.prog 112 (nZ):=by
 intro args objs K h
 unfold nZ at h
 split at h
 ·rename_i neg f e
  obtain⟨h1,h2,hk⟩:=h
  exact⟨_,_,_,.pure _ rfl (Pz neg f e h1 h2),hk⟩
 ·exact h.elim
theorem Te(n:Nd)(e:Int)(h1:-2000≤e∧e≤n.e∧n.e≤2000)(h2:n.s.length≤100000):ai Tryz.prog 109 [aB n,.int .i64 e] [] (.str (nA n e)) []:=by
 refine Ap.aX (T:=aR Tryz.prog []) 0 hD (aj ah) aV (by decide) λQ hQ=>?_
 (conv=>arg 4;cbv);simp (maxSteps:=400000) only[↓bf,bg,BEq.rfl,seval,hQ]
 refine aF (λm S=>∃k:Nat,(k:Int)+m=n.e-e∧S=⟨dG 19 [(2,.bP 0 1 0 0),(5,.str (n.s++List.replicate k 48)),(6,.int .i64 (e+k))],[⟨27,6,[aB n],true,1⟩]⟩) (n.e-e).toNat ⟨0,by omega,?_⟩ ?_
 ·simp only[bN,keepR,Nat.reduceAdd,lJ,Nat.reduceBEq,map_nil]
  simp
 rintro m S ⟨k,hkm,rfl⟩
 have hl:(n.s++List.replicate k 48).length=n.s.length+k:=by rw[List.length_append,List.length_replicate]
 rcases Nat.eq_zero_or_pos m with h0 | h0
 ·have hlt:(e+(k:Int)<n.e)=False:=eq_false (by omega)
  have hr:nA n e=n.s++List.replicate k 48:=by unfold nA;congr 2;omega
  simp (maxSteps:=400000) only[↓bf,bg,BEq.rfl,seval,hQ,hlt,hr]
 ·have hlt:(e+(k:Int)<n.e)=True:=eq_true (by omega)
  have hs:n.s++List.replicate k 48++[48]=n.s++List.replicate (k+1) 48:=by rw[List.append_assoc,List.replicate_succ']
  simp (maxSteps:=400000) only[↓bf,bg,BEq.rfl,seval,hQ,hlt]
  repeat' (first | omega | exact⟨m-1,by omega,k+1,by omega,by rw[hs,Int.natCast_add,Int.natCast_one,Int.add_assoc]⟩ | exact rfl | refine⟨?_,?_⟩)
def lW:dD:=λargs objs K=>match args with
 | [a0,.int .i64 e]=>dZ aB a0 (HK.mk:HK λn=>(-2000≤e∧e≤n.e∧n.e≤2000)∧(n.s.length≤100000)∧K (.str (nA n e)) objs 0)
 | _=>False
theorem PD:aC Tryz.prog 109 (lW):=by
 intro args objs K h
 unfold lW at h
 split at h
 ·rename_i a0 e
  obtain⟨n,rfl,h1,h2,hk⟩:=h
  exact⟨_,_,_,.pure _ rfl (Te n e h1 h2),hk⟩
 ·exact h.elim
end Lp
namespace Lp
open Go Go.Proofs Go.Sort Go.RowKit
open List (length_cons length_take)
def iOf:Value→Int
 | .int _ q=>q
 | _=>0
def l6(b:UInt8):Value:=.int .u8 (b.toNat:Int)
set_option maxRecDepth 1000000 in
set_option maxHeartbeats 4000000 in
theorem ZV(s:List UInt8)(hlen:s.length≤1000000)(w:World)(cap:Nat)(W1:World)(g n:Nat)(d0:Array UInt8)(hn:d0.size=n+1)(h0:∃j,j≤n∧d0[j]!≠57)(hn1:n≤1000000)
 (Nr:(convert 9 146 (.string (⟨#[48]⟩++⟨⟨s⟩⟩))).run Tryz.prog w=.ok (.slice (some ⟨g,0,none⟩) (n+1) cap) W1)
 (hH:Holds l6 W1 g 0 d0)
 (hback:∀dk:Array UInt8,dk.size=n+1→(convert 146 9 (.slice (some ⟨g,0,none⟩) (n+1) cap)).run Tryz.prog (putRow l6 W1 g 0 dk)=.ok (.string ⟨dk⟩) (putRow l6 W1 g 0 dk)) :
 Calls Tryz.prog 110 #[.string ⟨⟨s⟩⟩] w λe w'=>∃(k:Nat) (dk:Array UInt8),k≤n∧dk.size=n+1∧(∀j,j≤k→dk[j]! =d0[j]!)∧(∀j,k<j→j≤n→dk[j]! =48∧d0[j]! =57)∧d0[k]!≠57∧e=.returned (.string ⟨dk.setIfInBounds k (dk[k]!+1)⟩)∧w'=putRow l6 W1 g 0 (dk.setIfInBounds k (dk[k]!+1)):=by
 go_enter Tryz.func110,Tryz.ntmps110
 go_wp2
 rw[←putRow_self l6 W1 g 0 d0 hH]
 go_loopw [4] (λi wr=>∃(k:Nat) (dk:Array UInt8),k≤n∧i=.int .i64 k∧dk.size=n+1∧(∀j,j≤k→dk[j]! =d0[j]!)∧(∀j,k<j→j≤n→dk[j]! =48∧d0[j]! =57)∧wr=putRow l6 W1 g 0 dk) (λi _=>(iOf i).toNat)
 case atStart=>exact⟨n,d0,Nat.le_refl _,by simp,hn,λ_ _=>rfl,λj h1 h2=>by omega,rfl⟩
 case round=>
  obtain⟨k,dk,hk,rfl,hdk,hr1,hr2,rfl⟩:=hrel
  have hc:=cell?_putRow l6 W1 g 0 d0 dk hH (by omega) k (by omega)
  have hf:(putRow l6 W1 g 0 dk).frozen? ⟨g,0+k,none⟩=false:=by rw[frozen?_putRow];exact (hH k (by omega)).2
  rw[Nat.zero_add]at hc hf
  have hs1:=putRow_set l6 W1 g 0 dk k 48 (by omega)
  have hs2:=putRow_set l6 W1 g 0 dk k (dk[k]!+1) (by omega)
  rw[Nat.zero_add]at hs1 hs2
  have hb2:=hback (dk.setIfInBounds k (dk[k]!+1)) (by simpa using hdk)
  obtain⟨x,hx⟩:∃x,dk[k]! =x:=⟨_,rfl⟩
  rw[hx]at hc hb2 hs2
  have eS:(x.toNat:Int)=57↔x=57:=⟨λh=>UInt8.toNat_inj.1 (by have:(57:UInt8).toNat=57:=rfl;omega),λh=>by rw[h];rfl⟩
  have hx1:((x+1).toNat:Int)=((x.toNat:Int)+1) % 256:=by
   have h1:(1:UInt8).toNat=1:=rfl
   have h2:=x.toNat_lt
   rw[UInt8.toNat_add];omega
  unfold l6 at hc hs1 hs2 hb2
  rw[hx1]at hs2
  have hP:(((48:UInt8).toNat:Nat):Int)=48:=rfl
  rw[hP]at hs1
  generalize hwq:putRow (λb:UInt8=>Value.int .u8 (b.toNat:Int)) W1 g 0 dk=wq at *
  have afK:putRow l6 W1 g 0 dk=wq:=hwq
  rw[afK]at hf ⊢
  generalize hX:(x.toNat:Int)=X at *
  by_cases hS:X=57
  ·subst hS
   have hxS:=eS.1 rfl
   have hk1:1≤k:=by
    rcases Nat.eq_zero_or_pos k with h | h
    ·subst h
     obtain⟨j,hj1,hj2⟩:=h0
     rcases Nat.eq_zero_or_pos j with h' | h'
     ·subst h'
      exact absurd ((hr1 0 (Nat.le_refl _)).symm.trans (hx.trans hxS)) hj2
     ·exact absurd (hr2 j h' hj1).2 hj2
    ·exact h
   go_wp2
   refine⟨⟨k-1,dk.setIfInBounds k 48,by omega,by congr 1;omega,by simpa using hdk,λj hj=>?_,λj h1 h2=>?_,rfl⟩,by simp[iOf];omega⟩
   ·rw[getElem!_set_other dk k j 48 (by omega)];exact hr1 j (by omega)
   ·by_cases hjk:j=k
    ·subst hjk
     rw[getElem!_set_same dk j 48 (by omega),←hr1 j (Nat.le_refl _),hx]
     exact⟨rfl,hxS⟩
    ·rw[getElem!_set_other dk k j 48 hjk];exact hr2 j (by omega) h2
  ·have hSb:(X==57)=false:=by simpa using hS
   go_wp2
   go_ret
   refine⟨k,dk,hk,hdk,hr1,hr2,?_,by rw[hx];rfl,?_⟩
   ·rw[←hr1 k (Nat.le_refl _),hx];intro h;exact hS (eS.2 h)
   ·rw[hx];rfl
set_option maxRecDepth 1000000 in
set_option maxHeartbeats 4000000 in
theorem ZW(s:List UInt8)(hlen:s.length≤1000000)(w:World)(cap:Nat)(W1:World)(g n:Nat)(d0:Array UInt8)(hn:d0.size=n+1)(h0:∃j,j≤n∧d0[j]!≠48)(hn1:n≤1000000)
 (Nr:(convert 9 146 (.string ⟨⟨s⟩⟩)).run Tryz.prog w=.ok (.slice (some ⟨g,0,none⟩) (n+1) cap) W1)
 (hH:Holds l6 W1 g 0 d0)
 (hback:∀dk:Array UInt8,dk.size=n+1→(convert 146 9 (.slice (some ⟨g,0,none⟩) (n+1) cap)).run Tryz.prog (putRow l6 W1 g 0 dk)=.ok (.string ⟨dk⟩) (putRow l6 W1 g 0 dk)) :
 Calls Tryz.prog 111 #[.string ⟨⟨s⟩⟩] w λe w'=>∃(k:Nat) (dk:Array UInt8),k≤n∧dk.size=n+1∧(∀j,j≤k→dk[j]! =d0[j]!)∧(∀j,k<j→j≤n→dk[j]! =57∧d0[j]! =48)∧d0[k]!≠48∧e=.returned (.string ⟨dk.setIfInBounds k (dk[k]!-1)⟩)∧w'=putRow l6 W1 g 0 (dk.setIfInBounds k (dk[k]!-1)):=by
 go_enter Tryz.func111,Tryz.ntmps111
 go_wp2
 rw[←putRow_self l6 W1 g 0 d0 hH]
 go_loopw [4] (λi wr=>∃(k:Nat) (dk:Array UInt8),k≤n∧i=.int .i64 k∧dk.size=n+1∧(∀j,j≤k→dk[j]! =d0[j]!)∧(∀j,k<j→j≤n→dk[j]! =57∧d0[j]! =48)∧wr=putRow l6 W1 g 0 dk) (λi _=>(iOf i).toNat)
 case atStart=>exact⟨n,d0,Nat.le_refl _,by simp,hn,λ_ _=>rfl,λj h1 h2=>by omega,rfl⟩
 case round=>
  obtain⟨k,dk,hk,rfl,hdk,hr1,hr2,rfl⟩:=hrel
  have hc:=cell?_putRow l6 W1 g 0 d0 dk hH (by omega) k (by omega)
  have hf:(putRow l6 W1 g 0 dk).frozen? ⟨g,0+k,none⟩=false:=by rw[frozen?_putRow];exact (hH k (by omega)).2
  rw[Nat.zero_add]at hc hf
  have hs1:=putRow_set l6 W1 g 0 dk k 57 (by omega)
  have hs2:=putRow_set l6 W1 g 0 dk k (dk[k]!-1) (by omega)
  rw[Nat.zero_add]at hs1 hs2
  have hb2:=hback (dk.setIfInBounds k (dk[k]!-1)) (by simpa using hdk)
  obtain⟨x,hx⟩:∃x,dk[k]! =x:=⟨_,rfl⟩
  rw[hx]at hc hb2 hs2
  have eS:(x.toNat:Int)=48↔x=48:=⟨λh=>UInt8.toNat_inj.1 (by have:(48:UInt8).toNat=48:=rfl;omega),λh=>by rw[h];rfl⟩
  have hx1:((x-1).toNat:Int)=((x.toNat:Int)-1) % 256:=by
   have h1:(1:UInt8).toNat=1:=rfl
   have h2:=x.toNat_lt
   rw[UInt8.toNat_sub];omega
  unfold l6 at hc hs1 hs2 hb2
  rw[hx1]at hs2
  have hP:(((57:UInt8).toNat:Nat):Int)=57:=rfl
  rw[hP]at hs1
  generalize hwq:putRow (λb:UInt8=>Value.int .u8 (b.toNat:Int)) W1 g 0 dk=wq at *
  have afK:putRow l6 W1 g 0 dk=wq:=hwq
  rw[afK]at hf ⊢
  generalize hX:(x.toNat:Int)=X at *
  by_cases hS:X=48
  ·subst hS
   have hxS:=eS.1 rfl
   have hk1:1≤k:=by
    rcases Nat.eq_zero_or_pos k with h | h
    ·subst h
     obtain⟨j,hj1,hj2⟩:=h0
     rcases Nat.eq_zero_or_pos j with h' | h'
     ·subst h'
      exact absurd ((hr1 0 (Nat.le_refl _)).symm.trans (hx.trans hxS)) hj2
     ·exact absurd (hr2 j h' hj1).2 hj2
    ·exact h
   go_wp2
   refine⟨⟨k-1,dk.setIfInBounds k 57,by omega,by congr 1;omega,by simpa using hdk,λj hj=>?_,λj h1 h2=>?_,rfl⟩,by simp[iOf];omega⟩
   ·rw[getElem!_set_other dk k j 57 (by omega)];exact hr1 j (by omega)
   ·by_cases hjk:j=k
    ·subst hjk
     rw[getElem!_set_same dk j 57 (by omega),←hr1 j (Nat.le_refl _),hx]
     exact⟨rfl,hxS⟩
    ·rw[getElem!_set_other dk k j 57 hjk];exact hr2 j (by omega) h2
  ·have hSb:(X==48)=false:=by simpa using hS
   go_wp2
   go_ret
   refine⟨k,dk,hk,hdk,hr1,hr2,?_,by rw[hx];rfl,?_⟩
   ·rw[←hr1 k (Nat.le_refl _),hx];intro h;exact hS (eS.2 h)
   ·rw[hx];rfl
theorem below_putRow{B:Nat}{a w:World}(h:Below B a w){g:Nat}(hg:B≤g)(d:Array UInt8):Below B a (putRow l6 w g 0 d):=
 h.trans ⟨rfl,rfl,rfl,by simp,λk hk=>by simp only[putRow,mapBlock,Array.getElem?_modify];rw[if_neg (by omega)]⟩
theorem Tf(w:World)(l:List UInt8):∃(cap:Nat) (W1:World),(convert 9 146 (.string ⟨⟨l⟩⟩)).run Tryz.prog w=.ok (.slice (some ⟨w.heap.size,0,none⟩) l.length cap) W1∧Holds l6 W1 w.heap.size 0 ⟨l⟩∧Below w.heap.size w W1∧
  ∀dk:Array UInt8,dk.size=l.length→(convert 146 9 (.slice (some ⟨w.heap.size,0,none⟩) l.length cap)).run Tryz.prog (putRow l6 W1 w.heap.size 0 dk)=.ok (.string ⟨dk⟩) (putRow l6 W1 w.heap.size 0 dk):=by
 have us:Tryz.prog.underlying 9=some .string:=by kernel_rfl
 have ub:Tryz.prog.underlying 146=some (.slice 5):=by kernel_rfl
 have u8:Tryz.prog.underlying 5=some (.int .u8):=by kernel_rfl
 have Nr:=run_bytes_of_string (P:=Tryz.prog) w 9 146 5 ⟨⟨l⟩⟩ us ub u8
 have hsz:(ByteArray.mk ⟨l⟩).size=l.length:=by simp[ByteArray.size]
 rw[hsz]at Nr
 generalize hcap:grownCap w l.length 0 5=cap at Nr
 generalize hC:bytesRow ⟨⟨l⟩⟩ cap=C at Nr
 have hCl:l.length≤C.size:=by rw[←hC];simp[bytesRow]
 have hH:Holds l6 (w.drew.alloc (.cells C 5 (C.size,C.size+1))) w.heap.size 0 ⟨l⟩:=by
  intro j hj
  have hj':j<l.length:=hj
  have h1:=World.cell?_alloc_mark w.drew C 5 (C.size,C.size+1) (0+j)
  have h2:=World.frozen?_alloc_mark w.drew C 5 C.size (C.size+1) (0+j)
  have hh:w.drew.heap.size=w.heap.size:=rfl
  rw[hh]at h1 h2
  refine⟨h1.trans ?_,h2.trans ?_⟩
  ·rw[Nat.zero_add,←hC,bytesRow_at ⟨⟨l⟩⟩ cap j hj]
   simp[l6,hj']
  ·have:decide (C.size≤0+j)=false:=decide_eq_false (by omega)
   rw[this];rfl
 refine⟨cap,_,Nr,hH,(Below.refl _ _).drew.alloc (Nat.le_refl _) _,λdk hdk=>?_⟩
 have ag_:=holds_putRow l6 _ w.heap.size 0 ⟨l⟩ dk hH hdk
 have:=run_convert_bytes_back (P:=Tryz.prog) (putRow l6 (w.drew.alloc (.cells C 5 (C.size,C.size+1))) w.heap.size 0 dk) 146 9 5 ⟨w.heap.size,0,none⟩ cap dk.toList ub u8 us (λj hj=>by
  have hj':j<dk.size:=by simpa using hj
  have:=(ag_ j hj').1
  rw[add_lit,this,l6]
  simp[hj'])
 have hl:dk.toList.length=l.length:=by simpa using hdk
 rw[hl]at this
 simpa using this
theorem Tg{b:List UInt8}{c:UInt8}{k:Nat}(hk:k<b.length)(h1:b[k]?≠some c)(h2:∀j,k<j→j<b.length→b[j]?=some c):(Lib.trimRightB b c).length=k+1:=by
 have hb:b=b.take k++[b[k]]++List.replicate (b.length-(k+1)) c:=by
  apply List.ext_getElem?
  intro j
  rcases Nat.lt_trichotomy j k with h | h | h
  ·rw[List.append_assoc,List.getElem?_append_left (by rw[length_take];omega),List.getElem?_take,if_pos h]
  ·subst h
   rw[List.getElem?_append_left (by simp;omega),List.getElem?_append_right (by rw[length_take];omega),List.getElem?_eq_getElem hk]
   simp[Nat.min_eq_left (Nat.le_of_lt hk)]<;>omega
  ·have hl:(b.take k++[b[k]]).length=k+1:=by simp;omega
   rw[List.getElem?_append_right (by omega),hl,List.getElem?_replicate]
   rcases Nat.lt_or_ge j b.length with g | g
   ·rw[if_pos (by omega),h2 j h g]
   ·rw[if_neg (by omega),List.getElem?_eq_none g]
 have hne:b[k]≠c:=λe=>h1 (by rw[List.getElem?_eq_getElem hk,e])
 have Hq:∀(n:Nat) (l:List UInt8),List.dropWhile (·==c) (List.replicate n c++l)=List.dropWhile (·==c) l:=by
  intro n l
  induction n with
  | zero=>rfl
  | succ n ih=>rw[List.replicate_succ,List.cons_append,List.dropWhile_cons];simp[ih]
 unfold Lib.trimRightB
 rw[hb,List.reverse_append,List.reverse_replicate,Hq,List.reverse_append]
 have:(b[k]==c)=false:=by simpa using hne
 simp only[List.reverse_cons,List.reverse_nil,List.nil_append,List.cons_append,List.dropWhile_cons,this,Bool.false_eq_true,if_false,List.length_append,List.length_reverse,length_cons,List.length_nil,length_take]
 omega
def ach(b:List UInt8):List UInt8:=b.take ((Lib.trimRightB b 57).length-1)++(b.getD ((Lib.trimRightB b 57).length-1) 0+1)::List.replicate (b.length-(Lib.trimRightB b 57).length) 48
def tF(s:List UInt8):List UInt8:=ach (48::s)
theorem Ti{b:List UInt8}{dk:Array UInt8}{k:Nat}{x p:UInt8}(hdk:dk.size=b.length)(hk:k<b.length)(h1:∀j,j≤k→dk[j]! =(⟨b⟩:Array UInt8)[j]!)(h2:∀j,k<j→j<b.length→dk[j]! =p) :
  dk.setIfInBounds k x=(b.take k++x::List.replicate (b.length-(k+1)) p).toArray:=by
 apply Array.ext_getElem?
 intro j
 rw[Array.getElem?_setIfInBounds,hdk]
 have hg:∀(i:Nat) (_:i<dk.size),dk[i]?=some dk[i]!:=λi hi=>by rw[getElem!_pos dk i hi];exact Array.getElem?_eq_getElem hi
 have hR:(b.take k++x::List.replicate (b.length-(k+1)) p).toArray[j]?=(b.take k++x::List.replicate (b.length-(k+1)) p)[j]?:=List.getElem?_toArray
 rw[hR]
 rcases Nat.lt_trichotomy j k with h | h | h
 ·rw[if_neg (by omega),hg j (by omega),h1 j (by omega),List.getElem?_append_left (by rw[length_take];omega),List.getElem?_take,if_pos h,getElem!_pos (⟨b⟩:Array UInt8) j (by simp;omega),List.getElem?_eq_getElem (by omega)]
  rfl
 ·subst h
  rw[if_pos rfl,if_pos hk,List.getElem?_append_right (by rw[length_take];omega)]
  simp[Nat.min_eq_left (Nat.le_of_lt hk)]
 ·rw[if_neg (by omega)]
  have hl:(b.take k).length=k:=by rw[length_take];omega
  rw[List.getElem?_append_right (by omega),hl,show j-k=(j-k-1)+1 by omega,List.getElem?_cons_succ,List.getElem?_replicate]
  rcases Nat.lt_or_ge j b.length with g | g
  ·rw[if_pos (by omega),hg j (by omega),h2 j h g]
  ·rw[if_neg (by omega),Array.getElem?_eq_none (by omega)]
theorem wN{b:List UInt8}{j:Nat}(h:j<b.length):b[j]?=some ((⟨b⟩:Array UInt8)[j]!):=by
 rw[getElem!_pos (⟨b⟩:Array UInt8) j (by simpa using h),List.getElem?_eq_getElem h];rfl
theorem ZX(s:List UInt8)(hs:s.length≤1000000):ai Tryz.prog 110 [.str s] [] (.str (tF s)) []:=by
 refine ai.sZ ⟨_,Tryz.func110,by kernel_rfl,by kernel_rfl⟩ λw vs ok hg hr=>?_
 obtain⟨u,rfl,h⟩:=afD hr
 cases lu h
 obtain⟨cap,W1,h1,h2,h3,h4⟩:=Tf w (48::s)
 have hB:(⟨#[48]⟩++⟨⟨s⟩⟩:ByteArray)=⟨⟨48::s⟩⟩:=by
  apply ByteArray.ext
  rw[ByteArray.data_append]
  apply Array.ext'
  simp
 refine (ZV s hs w cap W1 w.heap.size s.length ⟨48::s⟩ (by simp) ⟨0,Nat.zero_le _,by rw[show (⟨48::s⟩:Array UInt8)[0]! =48 from rfl];decide⟩ hs (by rw[hB];exact h1) h2 h4).mono ?_
 rintro e w' ⟨k,dk,k1,k2,k3,k4,k5,rfl,rfl⟩
 have kl:k<(48::s).length:=by simp only[length_cons];omega
 have ht:=Tg (b:=48::s) (c:=57) kl (by rw[wN kl];exact λe=>k5 (Option.some.inj e)) (λj h1 h2=>by
  rw[wN h2,(k4 j h1 (by simp only[length_cons]at h2;omega)).2])
 have hrow:=Ti (b:=48::s) (x:=dk[k]!+1) (p:=48) (by rw[k2];rfl) kl k3 (λj h1 h2=>(k4 j h1 (by simp only[length_cons]at h2;omega)).1)
 have hres:(48::s).take k++(dk[k]!+1)::List.replicate ((48::s).length-(k+1)) 48=tF s:=by
  rw[tF,ach,ht,Nat.add_sub_cancel,List.getD_eq_getElem?_getD,wN kl,k3 k (Nat.le_refl _)];rfl
 rw[hres]at hrow
 exact⟨_,rfl,λw ok=>by rw[hrow];exact .str _,below_putRow h3 (Nat.le_refl _) _⟩
theorem ZY(s:List UInt8)(h0:0<(Lib.trimRightB s 48).length)(hs:s.length≤1000000):ai Tryz.prog 111 [.str s] [] (.str (pE s)) []:=by
 refine ai.sZ ⟨_,Tryz.func111,by kernel_rfl,by kernel_rfl⟩ λw vs ok hg hr=>?_
 obtain⟨u,rfl,h⟩:=afD hr
 cases lu h
 obtain⟨cap,W1,h1,h2,h3,h4⟩:=Tf w s
 obtain⟨d,hd,hne⟩:=Ci h0
 have hdl:=(List.getElem?_eq_some_iff.1 hd).1
 obtain⟨n,hn⟩:∃n,s.length=n+1:=⟨s.length-1,by omega⟩
 rw[hn]at h1 h4
 refine (ZW s hs w cap W1 w.heap.size n ⟨s⟩ hn ⟨(Lib.trimRightB s 48).length-1,by omega,by
  rw[wN hdl]at hd;rw[Option.some.inj hd];exact hne⟩ (by omega) h1 h2 h4).mono ?_
 rintro e w' ⟨k,dk,k1,k2,k3,k4,k5,rfl,rfl⟩
 have kl:k<s.length:=by omega
 have ht:=Tg (b:=s) (c:=48) kl (by rw[wN kl];exact λe=>k5 (Option.some.inj e)) (λj h1 h2=>by
  rw[wN h2,(k4 j h1 (by omega)).2])
 have hrow:=Ti (b:=s) (x:=dk[k]!-1) (p:=57) (by rw[k2,hn]) kl k3 (λj h1 h2=>(k4 j h1 (by omega)).1)
 have hres:s.take k++(dk[k]!-1)::List.replicate (s.length-(k+1)) 57=pE s:=by
  rw[pE,ht,Nat.add_sub_cancel,List.getD_eq_getElem?_getD,wN kl,k3 k (Nat.le_refl _)];rfl
 rw[hres]at hrow
 exact⟨_,rfl,λw ok=>by rw[hrow];exact .str _,below_putRow h3 (Nat.le_refl _) _⟩
def Ec:dD:=λargs objs K=>match args with
 | [.str s]=>(s.length≤1000000)∧K (.str (tF s)) objs 0
 | _=>False
theorem Wi:aC Tryz.prog 110 (Ec):=by
 intro args objs K h
 unfold Ec at h
 split at h
 ·rename_i s
  obtain⟨h1,hk⟩:=h
  exact⟨_,_,_,.pure _ rfl (ZX s h1),hk⟩
 ·exact h.elim
def wO:dD:=λargs objs K=>match args with
 | [.str s]=>(0<(Lib.trimRightB s 48).length)∧(s.length≤1000000)∧K (.str (pE s)) objs 0
 | _=>False
theorem Wj:aC Tryz.prog 111 (wO):=by
 intro args objs K h
 unfold wO at h
 split at h
 ·rename_i s
  obtain⟨h1,h2,hk⟩:=h
  exact⟨_,_,_,.pure _ rfl (ZY s h1 h2),hk⟩
 ·exact h.elim
theorem Z0(s:List UInt8):(tF s).length≤s.length+2:=by
 unfold tF ach
 have:=oV (48::s) 57
 simp only[List.length_append,length_take,length_cons,List.length_replicate]at *;omega
theorem Wl(neg:Bool)(x:List UInt8)(e:Int):dX neg (48::x) e=dX neg x e:=by
 have h1:gT (48::x)=gT x:=by simp[gT]
 have h2:Lib.trimLeftB (48::x) 48=Lib.trimLeftB x 48:=rfl
 unfold dX
 rw[h1,h2]
theorem Wm(neg:Bool)(s:List UInt8)(e:Int):dX neg (tF s) e=dX neg (QG s) e:=by
 have hrev:Lib.trimRightB (48::s) 57=if Lib.trimRightB s 57=[] then [48] else 48::Lib.trimRightB s 57:=by
  unfold Lib.trimRightB
  rw[List.reverse_cons]
  cases h:s.reverse.dropWhile (·==(57:UInt8)) with
  | nil=>
   have:(s.reverse++[48]).dropWhile (·==(57:UInt8))=[48]:=by
    rw[List.dropWhile_append,h];rfl
   rw[this];rfl
  | cons a t=>
   have:(s.reverse++[48]).dropWhile (·==(57:UInt8))=(a::t)++[48]:=by
    rw[List.dropWhile_append,h];rfl
   rw[this]
   simp
 by_cases h:Lib.trimRightB s 57=[]
 ·rw[if_pos h]at hrev
  have:tF s=QG s:=by
   rw[tF,ach,hrev,QG,h];rfl
  rw[this]
 ·rw[if_neg h]at hrev
  have hl:0<(Lib.trimRightB s 57).length:=List.length_pos_iff.2 h
  have:tF s=48::QG s:=by
   rw[tF,ach,hrev,QG,if_neg (by omega)]
   obtain⟨n,hn⟩:∃n,(Lib.trimRightB s 57).length=n+1:=⟨_,(Nat.succ_pred_eq_of_pos hl).symm⟩
   simp[hn]
  rw[this,Wl]
end Lp
namespace Lp
open Go Go.Proofs Go.RowKit
open List (append_assoc append_nil cons_append length_append length_cons length_map length_nil map_nil nil_append take_length)
open Nat (le_succ lt_irrefl lt_or_ge reduceAdd)
theorem ah4:xk bG:=by intro d n o x;cases d<;>rfl
theorem aha(l:List gG):eZ 1 0 [⟨56,1,[bG l],true,1⟩] (.bP 0 1 0 0)=.addr (bG l):=by
 simp only[eZ,Nat.not_lt_zero,if_false,gX,List.getElem?_cons_zero,Nat.zero_le,decide_true,Bool.and_self,BEq.rfl,if_true]
 rw[ah4]
theorem Hr(l:List gG):ai Tryz.prog 102 [bG l] [] (.fn 113 [] [.addr (bG l)]) []:=by
 refine Dg.aX (T:=aR Tryz.prog []) 0 hD (aj ah) aV (by decide) λQ hQ=>?_
 (conv=>arg 4;cbv);simp (maxSteps:=400000) only[↓bf,bg,BEq.rfl,seval,hQ]
 refine aN _ (Weak.freeze 1 0 (Nat.zero_le _) _) ?_
 simp (maxSteps:=400000) only[↓bf,bg,BEq.rfl,seval,hQ,aha]
theorem afL(O:List Obj) :
  (∀x X,(O++x::X)[O.length]?=some x)∧(∀x y X,(O++x::y::X)[O.length+1]?=some y)∧(∀x y z X,(O++x::y::z::X)[O.length+2]?=some z)∧
  (∀x z X,(O++x::X).set O.length z=O++z::X)∧(∀x y z X,(O++x::y::X).set (O.length+1) z=O++x::z::X)∧(∀x y z u X,(O++x::y::z::X).set (O.length+2) u=O++x::y::u::X):=by
 refine⟨λx X=>?_,λx y X=>?_,λx y z X=>?_,λx z X=>?_,λx y z X=>?_,λx y z u X=>?_⟩
 ·rw[List.getElem?_append_right (Nat.le_refl _)];simp
 ·rw[List.getElem?_append_right (by omega)];simp
 ·rw[List.getElem?_append_right (by omega)];simp
 ·rw[List.set_append_right _ _ (Nat.le_refl _)];simp
 ·rw[List.set_append_right _ _ (by omega)];simp
 ·rw[List.set_append_right _ _ (by omega)];simp
theorem Tj:PV.xH (.agg ⟨[.int .i64 0,.int .i64 0,.int .i64 0,.string ⟨⟨[]⟩⟩,.string ⟨⟨[]⟩⟩,.bool false,.int .i64 0]⟩)=b_ ⟨0,⟨0,0,[],[],false,0⟩⟩:=rfl
def vz(xs:List Nd)(ver:Nat):Obj:=⟨27,6,xs.map aB,true,ver⟩
def Ed(a:gG):List Nd:=if a.c.kind=3 then a.c::((if (dH a.c true).2 then [(dH a.c true).1] else [])++if (dH a.c false).2 then [(dH a.c false).1] else []) else []
def Ee(a:gG):List Nd:=if a.c.kind=4 then [a.c,⟨4,0,[],a.c.s++[0],false,0⟩] else []
theorem wP:∀l,kR l=(l.map Ed).flatten
 | []=>rfl
 | a::l=>by simp only[kR,List.map_cons,List.flatten_cons,wP l];rfl
theorem wQ:∀l,mR l=(l.map Ee).flatten
 | []=>rfl
 | a::l=>by simp only[mR,List.map_cons,List.flatten_cons,wQ l];rfl
theorem J7{l:List gG}{i:Nat}{a:gG}(h:l[i]?=some a):kR (l.take (i+1))=kR (l.take i)++Ed a:=by
 rw[wP,wP,List.take_add_one,h];simp
theorem J8{l:List gG}{i:Nat}{a:gG}(h:l[i]?=some a):mR (l.take (i+1))=mR (l.take i)++Ee a:=by
 rw[wQ,wQ,List.take_add_one,h];simp
theorem vB:∀l:List gG,(kR l).length≤3*l.length
 | []=>by simp[kR]
 | a::l=>by
  have:=vB l
  simp only[kR,length_append,length_cons]
  split
  ·simp only[length_cons,length_append]
   split<;>split<;>simp only[length_cons,length_nil]<;>omega
  ·simp only[length_nil];omega
theorem zU:∀l:List gG,(mR l).length≤2*l.length
 | []=>by simp[mR]
 | a::l=>by
  have:=zU l
  simp only[mR,length_append,length_cons]
  split
  ·simp only[length_cons,length_nil];omega
  ·simp only[length_nil];omega
def Ef:List Nd:=[⟨0,0,[],[],false,0⟩,⟨1,0,[],[],false,0⟩,⟨2,0,[],[],false,0⟩,⟨3,0,[],[],false,0⟩]
def IA(a:gG)(b:Bool):List Nd:=if (dH a.c b).2 then [(dH a.c b).1] else []
theorem FO{a:gG}(h:a.c.kind=3):Ed a=[a.c]++IA a true++IA a false:=by
 rw[Ed,if_pos h];simp[IA]
theorem xB(xs:List Nd)(n:Nd):List.map aB xs++[aB n]=List.map aB (xs++[n]):=by simp
theorem aeX(xs:List Nd)(n m:Nd):List.map aB xs++[aB n,aB m]=List.map aB (xs++[n,m]):=by simp
theorem Ht(n:Nd):Nd.mk n.kind n.many n.name n.s n.neg n.e=n:=rfl
theorem Tk(xs:List Nd)(ver:Nat):Obj.mk 27 6 (List.map aB xs) true ver=vz xs ver:=rfl
theorem PE:(∀xs v,(vz xs v).live=true)∧(∀xs v,(vz xs v).ver=v)∧(∀xs v,(vz xs v).sz=6)∧(∀xs v,(vz xs v).ty=27)∧(∀xs v,(vz xs v).xs=List.map aB xs):=
 ⟨λ_ _=>rfl,λ_ _=>rfl,λ_ _=>rfl,λ_ _=>rfl,λ_ _=>rfl⟩
theorem adP{O:List Obj}(h:kL O)(xs:List Nd)(ver:Nat):kL (O++[vz xs ver]):=by
 intro o ho x hx c hc
 rw[length_append]
 rcases List.mem_append.1 ho with ho | ho
 ·have:=h o ho x hx c hc
  exact Jq (Nat.le_add_right _ _) this
 ·rw[List.mem_singleton]at ho;subst ho
  obtain⟨n,_,rfl⟩:=List.mem_map.1 hx
  simp only[aB,PV.cells,List.mem_cons,List.not_mem_nil,or_false]at hc
  rcases hc with rfl | rfl | rfl | rfl | rfl | rfl<;>rfl
theorem ahb{O:List Obj}(h:kL O) :
  (∀d xs ver X,List.map (f_ d (O.length+1) (O++vz xs ver::X)) (List.take (O.length+1) (O++vz xs ver::X))=O++[vz xs ver])∧
  (∀d X ver,eZ d (O.length+1) X (.bO O.length ver)=.bO O.length ver)∧
  (∀x (a:gG),eZ 1 (O.length+1) (O++[x,⟨29,7,[b_ a],true,1⟩]) (.bP (O.length+1) 1 0 0)=.addr (b_ a)):=by
 refine⟨λd xs ver X=>?_,λd X ver=>?_,λx a=>?_⟩
 ·have e:List.take (O.length+1) (O++vz xs ver::X)=O++[vz xs ver]:=by
    rw[List.take_append,List.take_of_length_le (by omega)];simp
  rw[e]
  have:=Ic (d:=d) (objs':=O++vz xs ver::X) (adP h xs ver)
  rwa[length_append]at this
 ·simp[eZ]
 ·have:(O++[x,⟨29,7,[b_ a],true,1⟩])[O.length+1]?=some ⟨29,7,[b_ a],true,1⟩:=by
    rw[List.getElem?_append_right (by omega)];simp
  simp only[eZ,lt_irrefl,if_false,gX,this,Nat.le_refl,decide_true,Bool.and_self,BEq.rfl,if_true]
  rfl
theorem aeY{O:List Obj}(h:kL O) :
  (∀d X,List.map (f_ d O.length (O++X)) (List.take O.length (O++X))=O)∧
  (∀xs v,eZ 1 O.length (O++[vz xs v]) (.bO O.length v)=aJ xs):=by
 refine⟨λd X=>?_,λxs v=>?_⟩
 ·rw[List.take_append_of_le_length (Nat.le_refl _),take_length]
  exact Ic h
 ·have:(O++[vz xs v])[O.length]?=some (vz xs v):=by
    rw[List.getElem?_append_right (Nat.le_refl _)];simp
  simp only[eZ,lt_irrefl,if_false,gX,this,PE,Nat.le_refl,decide_true,Bool.and_self,BEq.rfl,if_true]
  rw[VI aB λn=>rfl]
  rfl
theorem ahc{O:List Obj}(h:kL O) :
  (∀d X,List.map (f_ d O.length (O++X)) (List.take O.length (O++X))=O)∧
  (∀n:Nd,eZ 1 O.length (O++[⟨27,6,[aB n],true,1⟩]) (.bP O.length 1 0 0)=.addr (aB n)):=by
 refine⟨(aeY h).1,λn=>?_⟩
 have:(O++[⟨27,6,[aB n],true,1⟩])[O.length]?=some ⟨27,6,[aB n],true,1⟩:=by
  rw[List.getElem?_append_right (Nat.le_refl _)];simp
 simp only[eZ,lt_irrefl,if_false,gX,this,Nat.le_refl,decide_true,Bool.and_self,BEq.rfl,if_true]
 rfl
theorem Wn(l:List gG)(hl:l.length≤1000000)(hn:∀a∈l,a.c.kind=3→Pw a.c)(hs:∀a∈l,a.c.s.length≤1000000):Gives Tryz.prog 113 [.addr (bG l)] ((iM l).map λc=>[aB c]):=by
 refine Aj.gives (fnT:=uO [(114,oW)]) hD (af Py ah) aV ?_
 intro I J objs y hI KY hJl
 have hO:=(KY 0 objs hI).2
 (conv=>arg 4;cbv);simp (maxSteps:=400000) only[↓bf,bg,BEq.rfl,seval,bT,bU]
 refine aF (λm S=>∃(i ver:Nat),i+m=l.length∧S=⟨dG 90 [(0,.H7 y),(1,.addr (bG l)),(3,.bO objs.length ver),(19,bG l),(20,.int .i64 l.length),(21,.int .i64 i)],objs++[vz (Ef++kR (l.take i)) ver]⟩) l.length ⟨0,1,by omega,?_⟩ ?_
 ·simp only[bN,keepR,reduceAdd,lJ,Nat.reduceBEq,map_nil]
  rfl
 rintro m S ⟨i,ver,him,rfl⟩
 rcases lt_or_ge i l.length with h | h
 ·have hlt:((i:Int)<(l.length:Int))=True:=eq_true (by omega)
  have zi:(0≤(i:Int))=True:=eq_true (by omega)
  have hgi:=List.getElem?_eq_getElem h
  generalize l[i]=a at hgi
  have oB:=afL objs
  have oF:=ahb hO
  have hxl:(Ef++kR (l.take i)).length≤4+3*i:=by
   have h1:=vB (l.take i)
   have h2:(l.take i).length≤i:=List.length_take_le i l
   have h3:Ef.length=4:=rfl
   rw[length_append];omega
  have htk:=J7 hgi
  have c0:Ef++kR (l.take (i+1))=(Ef++kR (l.take i))++Ed a:=by rw[htk,append_assoc]
  generalize hX:Ef++kR (l.take i)=X at hxl c0
  by_cases hk:a.c.kind=3
  rotate_left 1
  ·have k3:(a.c.kind=3)=False:=eq_false hk
   simp (maxSteps:=400000) only[↓bf,bg,BEq.rfl,seval,hlt,zi,hgi,k3,oB,Tj,Ht,append_assoc,cons_append,nil_append,length_append,length_cons,length_nil]
   refine aN _ (Weak.freeze 1 (objs.length+1) (le_succ _) _) ?_
   simp (maxSteps:=400000) only[↓bf,bg,BEq.rfl,seval,oF]
   have e1:Ed a=[]:=if_neg hk
   exact⟨⟨by omega,by omega⟩,m-1,by omega,i+1,ver,by omega,by rw[c0,e1,append_nil];rfl⟩
  ·have k3:(a.c.kind=3)=True:=eq_true hk
   have adQ:=hn a (List.mem_of_getElem? hgi) hk
   simp (maxSteps:=400000) only[↓bf,bg,BEq.rfl,seval,hlt,zi,hgi,k3,oB,Tj,bT,bU,Ht,PE,append_assoc,cons_append,nil_append,length_append,length_cons,length_nil,length_map,xB,Tk]
   refine⟨by omega,by omega,?_⟩
   refine aN _ (Weak.freeze 1 (objs.length+1) (le_succ _) _) ?_
   simp (maxSteps:=400000) only[↓bf,bg,BEq.rfl,seval,oF]
   have l1:(IA a true).length≤1:=by unfold IA;split<;>simp
   have l2:(IA a false).length≤1:=by unfold IA;split<;>simp
   have st:∀(j:Int) (xs:List Nd) (v:Nat),St:=λj xs v=>⟨dG 90 [(0,.H7 y),(1,.addr (bG l)),(3,.bO objs.length v),(5,.addr (b_ a)),(19,bG l),(20,.int .i64 l.length),(21,.int .i64 i),(34,.sl 1 [.bool true,.bool false] none),(35,.int .i64 2),(36,.int .i64 j)],objs++[vz xs v]⟩
   refine aF (λm' S=>∃(v:Nat) (j:Int) (xs:List Nd),(j=0∧m'=2∧xs=X++[a.c]∨j=1∧m'=1∧xs=X++[a.c]++IA a true∨j=2∧m'=0∧xs=X++[a.c]++IA a true++IA a false)∧S=⟨dG 90 [(0,.H7 y),(1,.addr (bG l)),(3,.bO objs.length v),(5,.addr (b_ a)),(19,bG l),(20,.int .i64 l.length),(21,.int .i64 i),(34,.sl 1 [.bool true,.bool false] none),(35,.int .i64 2),(36,.int .i64 j)],objs++[vz xs v]⟩) 2 ⟨ver+1,0,_,.inl ⟨rfl,rfl,rfl⟩,?_⟩ ?_
   ·simp only[bN,keepR,reduceAdd,lJ,Nat.reduceBEq,map_nil]
   rintro m' S ⟨v,j,xs,hj,rfl⟩
   have n2:((2:Nat):Int)=2:=rfl
   rcases hj with ⟨rfl,rfl,hxs⟩ | ⟨rfl,rfl,hxs⟩ | ⟨rfl,rfl,hxs⟩
   ·have Z4:xs.length≤8+3*i:=by rw[hxs];simp only[length_append,length_cons,length_nil];omega
    cases hb:(dH a.c true).2
    ·simp (maxSteps:=400000) only[↓bf,bg,BEq.rfl,seval,n2,Int.reduceLT,oB,bT,bU,Ht,PE,↓oW,dV,hb,bq,append_assoc,cons_append,nil_append,length_append,length_cons,length_nil,length_map,xB,Tk]
     refine⟨adQ,?_⟩
     refine aN _ (Weak.freeze 1 (objs.length+1) (le_succ _) _) ?_
     simp (maxSteps:=400000) only[↓bf,bg,BEq.rfl,seval,oF]
     have hbs:IA a true=[]:=by simp[IA,hb]
     exact⟨1,by omega,v,1,xs,.inr (.inl ⟨rfl,rfl,by rw[hxs,hbs,append_nil]⟩),rfl⟩
    ·simp (maxSteps:=400000) only[↓bf,bg,BEq.rfl,seval,n2,Int.reduceLT,oB,bT,bU,Ht,PE,↓oW,dV,hb,bq,append_assoc,cons_append,nil_append,length_append,length_cons,length_nil,length_map,xB,Tk]
     refine⟨adQ,by omega,by omega,?_⟩
     refine aN _ (Weak.freeze 1 (objs.length+1) (le_succ _) _) ?_
     simp (maxSteps:=400000) only[↓bf,bg,BEq.rfl,seval,oF]
     have hbs:IA a true=[(dH a.c true).1]:=by simp[IA,hb]
     exact⟨1,by omega,v+1,1,xs++[(dH a.c true).1],.inr (.inl ⟨rfl,rfl,by rw[hxs,hbs]⟩),rfl⟩
   ·have Z4:xs.length≤8+3*i:=by rw[hxs];simp only[length_append,length_cons,length_nil];omega
    cases hb:(dH a.c false).2
    ·simp (maxSteps:=400000) only[↓bf,bg,BEq.rfl,seval,n2,Int.reduceLT,oB,bT,bU,Ht,PE,↓oW,dV,hb,bq,append_assoc,cons_append,nil_append,length_append,length_cons,length_nil,length_map,xB,Tk]
     refine⟨adQ,?_⟩
     refine aN _ (Weak.freeze 1 (objs.length+1) (le_succ _) _) ?_
     simp (maxSteps:=400000) only[↓bf,bg,BEq.rfl,seval,oF]
     have hbs:IA a false=[]:=by simp[IA,hb]
     exact⟨0,by omega,v,2,xs,.inr (.inr ⟨rfl,rfl,by rw[hxs,hbs,append_nil]⟩),rfl⟩
    ·simp (maxSteps:=400000) only[↓bf,bg,BEq.rfl,seval,n2,Int.reduceLT,oB,bT,bU,Ht,PE,↓oW,dV,hb,bq,append_assoc,cons_append,nil_append,length_append,length_cons,length_nil,length_map,xB,Tk]
     refine⟨adQ,by omega,by omega,?_⟩
     refine aN _ (Weak.freeze 1 (objs.length+1) (le_succ _) _) ?_
     simp (maxSteps:=400000) only[↓bf,bg,BEq.rfl,seval,oF]
     have hbs:IA a false=[(dH a.c false).1]:=by simp[IA,hb]
     exact⟨0,by omega,v+1,2,xs++[(dH a.c false).1],.inr (.inr ⟨rfl,rfl,by rw[hxs,hbs]⟩),rfl⟩
   ·simp (maxSteps:=400000) only[↓bf,bg,BEq.rfl,seval,n2,Int.reduceLT]
    refine aN _ (Weak.freeze 1 (objs.length+1) (le_succ _) _) ?_
    simp (maxSteps:=400000) only[↓bf,bg,BEq.rfl,seval,oF]
    exact⟨⟨by omega,by omega⟩,m-1,by omega,i+1,v,by omega,by rw[c0,FO hk,hxs,append_assoc,append_assoc,append_assoc];rfl⟩
 ·have hlt:((i:Int)<(l.length:Int))=False:=eq_false (by omega)
  have oB:=afL objs
  have oF:=ahb hO
  have hxl:(Ef++kR (l.take i)).length≤4+3*i:=by
   have h1:=vB (l.take i)
   have h2:(l.take i).length≤i:=List.length_take_le i l
   have h3:Ef.length=4:=rfl
   rw[length_append];omega
  have hi:i=l.length:=by omega
  rw[hi,take_length]
  rw[hi,take_length]at hxl
  generalize hX:Ef++kR l=X at hxl
  have hlt2:((l.length:Int)<(l.length:Int))=False:=eq_false (by omega)
  simp (maxSteps:=400000) only[↓bf,bg,BEq.rfl,seval,hlt2,oB,bT,bU,Ht,PE,append_assoc,cons_append,nil_append,length_append,length_cons,length_nil,length_map,xB,Tk]
  refine⟨by omega,by omega,?_⟩
  refine aF (λm S=>∃(i ver:Nat),i+m=l.length∧S=⟨dG 90 [(0,.H7 y),(3,.bO objs.length ver),(58,bG l),(59,.int .i64 l.length),(60,.int .i64 i)],objs++[vz (X++⟨4,0,[],[],false,0⟩::mR (l.take i)) ver]⟩) l.length ⟨0,ver+1,by omega,?_⟩ ?_
  ·simp only[bN,keepR,reduceAdd,lJ,Nat.reduceBEq,map_nil]
   rfl
  rintro m S ⟨i,ver,him,rfl⟩
  have Z4:(X++⟨4,0,[],[],false,0⟩::mR (l.take i)).length≤8+3*l.length+2*i:=by
   have h1:=zU (l.take i)
   have h2:(l.take i).length≤i:=List.length_take_le i l
   rw[length_append,length_cons];omega
  rcases lt_or_ge i l.length with h | h
  ·have hlt:((i:Int)<(l.length:Int))=True:=eq_true (by omega)
   have zi:(0≤(i:Int))=True:=eq_true (by omega)
   have hgi:=List.getElem?_eq_getElem h
   generalize l[i]=a at hgi
   have has:=hs a (List.mem_of_getElem? hgi)
   have c0:X++⟨4,0,[],[],false,0⟩::mR (l.take (i+1))=(X++⟨4,0,[],[],false,0⟩::mR (l.take i))++Ee a:=by rw[J8 hgi];simp
   generalize hY:X++⟨4,0,[],[],false,0⟩::mR (l.take i)=Y at Z4 c0
   by_cases hk:a.c.kind=4
   rotate_left 1
   ·have k4:(a.c.kind=4)=False:=eq_false hk
    simp (maxSteps:=400000) only[↓bf,bg,BEq.rfl,seval,hlt,zi,hgi,k4,oB,Tj,bT,bU,Ht,PE,append_assoc,cons_append,nil_append,length_append,length_cons,length_nil,length_map,xB,aeX,Tk]
    refine aN _ (Weak.freeze 1 (objs.length+1) (le_succ _) _) ?_
    simp (maxSteps:=400000) only[↓bf,bg,BEq.rfl,seval,oF]
    have e1:Ee a=[]:=if_neg hk
    exact⟨⟨by omega,by omega⟩,m-1,by omega,i+1,ver,by omega,by rw[c0,e1,append_nil];rfl⟩
   ·have k4:(a.c.kind=4)=True:=eq_true hk
    simp (maxSteps:=400000) only[↓bf,bg,BEq.rfl,seval,hlt,zi,hgi,k4,oB,Tj,bT,bU,Ht,PE,append_assoc,cons_append,nil_append,length_append,length_cons,length_nil,length_map,xB,aeX,Tk]
    refine⟨by omega,λy hy=>by simp only[List.mem_cons,List.not_mem_nil,or_false]at hy;rcases hy with rfl | rfl<;>exact⟨rfl,rfl⟩,by omega,by omega,?_⟩
    refine aN _ (Weak.freeze 1 (objs.length+1) (le_succ _) _) ?_
    simp (maxSteps:=400000) only[↓bf,bg,BEq.rfl,seval,oF]
    have e1:Ee a=[a.c,⟨4,0,[],a.c.s++[0],false,0⟩]:=if_pos hk
    exact⟨⟨by omega,by omega⟩,m-1,by omega,i+1,ver+1,by omega,by rw[c0,e1];rfl⟩
  have hi:i=l.length:=by omega
  have hlt2:((l.length:Int)<(l.length:Int))=False:=eq_false (by omega)
  rw[hi,take_length]
  rw[hi,take_length]at Z4
  have hC:X++⟨4,0,[],[],false,0⟩::mR l=iM l:=by rw[←hX];rfl
  rw[hC]
  rw[hC]at Z4
  generalize iM l=C at Z4
  simp (maxSteps:=400000) only[↓bf,bg,BEq.rfl,seval,hlt2]
  refine aN _ (Weak.freeze 1 objs.length (Nat.le_refl _) _) ?_
  have o1:=aeY hO
  simp (maxSteps:=400000) only[↓bf,bg,BEq.rfl,seval,o1]
  refine aF (λm S=>∃(i:Nat) (O:List Obj),i+m=C.length∧I i O∧S=⟨dG 90 [(0,.H7 y),(79,aJ C),(80,.int .i64 C.length),(81,.int .i64 i)],O⟩) C.length ⟨0,objs,by omega,hI,?_⟩ ?_
  ·simp only[bN,keepR,reduceAdd,lJ,Nat.reduceBEq,map_nil]
   rfl
  rintro m S ⟨i,O,him,hIi,rfl⟩
  have hOl:=(KY i O hIi).1
  have hOO:=(KY i O hIi).2
  rcases lt_or_ge i C.length with h | h
  ·have hlt:((i:Int)<(C.length:Int))=True:=eq_true (by omega)
   have zi:(0≤(i:Int))=True:=eq_true (by omega)
   have hgi:=List.getElem?_eq_getElem h
   generalize C[i]=c at hgi
   have oB:=afL O
   simp (maxSteps:=400000) only[↓bf,bg,BEq.rfl,seval,hlt,zi,hgi,oB,bT,bU,Ht]
   refine aN _ (Weak.freeze 1 O.length hOl _) ?_
   have o2:=ahc hOO
   simp (maxSteps:=400000) only[↓bf,bg,BEq.rfl,seval,o2,Yof]
   refine⟨rfl,i,hIi,by rw[hgi];rfl,λO' hI'=>⟨⟨by omega,by omega⟩,m-1,by omega,i+1,O',by omega,hI',rfl⟩,λO' hJ'=>⟨.inr rfl,.inr ⟨i,h,hJ'⟩⟩⟩
  ·have hlt:((i:Int)<(C.length:Int))=False:=eq_false (by omega)
   simp (maxSteps:=400000) only[↓bf,bg,BEq.rfl,seval,hlt]
   have hi:i=C.length:=by omega
   subst hi
   exact⟨.inl rfl,.inl hIi⟩
end Lp
namespace Lp
open Go Go.Proofs Go.RowKit
open List (mem_cons mem_singleton not_mem_nil)
def Eg:dD:=λargs objs K=>match args with
 | [a0]=>dZ bG a0 (HK.mk:HK λl=>K (.fn 113 [] [.addr (bG l)]) objs 0)
 | _=>False
theorem Tm:aC Tryz.prog 102 (Eg):=by
 intro args objs K h
 unfold Eg at h
 split at h
 ·rename_i a0
  obtain⟨l,rfl,hk⟩:=h
  exact⟨_,_,_,.pure _ rfl (Hr l),hk⟩
 ·exact h.elim
def Eh:dD:=λargs objs K=>match args with
 | [.int .i64 mask,a1,a2]=>dZ bG a1 (HK.mk:HK λl=>dZ aB a2 (HK.mk:HK λn=>(0≤mask∧mask≤31)∧(l.length≤1000000)∧(∀a∈l,fE a.c)∧(qE n)∧(n.s.length≤1000000)∧K (.bool (bV mask l n)) objs 0))
 | _=>False
theorem Wo:aC Tryz.prog 103 (Eh):=by
 intro args objs K h
 unfold Eh at h
 split at h
 ·rename_i mask a1 a2
  obtain⟨l,rfl,n,rfl,h1,h2,h3,h4,h5,hk⟩:=h
  exact⟨_,_,_,.pure _ rfl (Pg mask l n h1 h2 h3 h4 h5),hk⟩
 ·exact h.elim
def leO(mask:Int)(l:List gG)(x:Nd)(b:Bool):List Obj:=[⟨3,1,[.int .i64 mask],true,1⟩,⟨56,1,[bG l],true,1⟩,⟨27,6,[aB x],true,1⟩,⟨4,1,[.bool b],true,1⟩]
theorem J9(mask:Int)(l:List gG)(x:Nd)(b:Bool):fI (leO mask l x b++[xN,hole]):=by
 intro o ho y hy c hc
 simp only[leO,List.cons_append,List.nil_append,mem_cons,not_mem_nil,or_false]at ho
 rcases ho with rfl | rfl | rfl | rfl | rfl | rfl
 ·simp only[mem_singleton]at hy;subst hy
  simp only[PV.cells,mem_singleton]at hc;subst hc;rfl
 ·simp only[mem_singleton]at hy;subst hy
  simp only[bG,PV.cells,mem_singleton]at hc;subst hc;rfl
 ·simp only[mem_singleton]at hy;subst hy
  simp only[aB,PV.cells,mem_cons,not_mem_nil,or_false]at hc
  rcases hc with rfl | rfl | rfl | rfl | rfl | rfl<;>rfl
 ·simp only[mem_singleton]at hy;subst hy
  simp only[PV.cells,mem_singleton]at hc;subst hc;rfl
 ·cases hy
 ·cases hy
theorem aci(mask:Int)(l:List gG)(x:Nd)(b:Bool):Gh 4 (leO mask l x b++[xN,hole]):=⟨Nat.le_refl _,(J9 mask l x b).lt,rfl,rfl⟩
def lD(mask:Int)(l:List gG):PV:=.bY [aB (kJ mask l).1,.bool (kJ mask l).2]
theorem Wp(l:List Nd):∀y∈l.map (λs=>[aB s]),y.length=1:=by
 intro y hy
 obtain⟨p,_,rfl⟩:=List.mem_map.1 hy
 rfl
theorem Wq{l:List Nd}{i:Nat}{args:List PV}(h:(l.map λs=>[aB s])[i]?=some args):∃s,l[i]?=some s∧args=[aB s]:=by
 rw[List.getElem?_map]at h
 cases hx:l[i]? with
 | none=>rw[hx]at h;simp at h
 | some p=>rw[hx]at h;exact⟨p,rfl,by simpa using h.symm⟩
theorem Ns{mask:Int}{l:List gG}{i:Nat}{c:Nd}(h:(iM l)[i]?=some c)(hm:bV mask l c=true)(hb:∀(j:Nat) d,j<i→(iM l)[j]?=some d→bV mask l d=false):kJ mask l=(c,true):=by
 have:(iM l).find? (λn=>bV mask l n)=some c:=by
  rw[List.find?_eq_some_iff_getElem]
  obtain⟨hi,he⟩:=List.getElem?_eq_some_iff.1 h
  refine⟨hm,i,hi,he,λj hj=>?_⟩
  have:=hb j _ hj (List.getElem?_eq_getElem (by omega))
  simp[this]
 simp[kJ,this]
theorem J_{mask:Int}{l:List gG}(hb:∀(j:Nat) d,(iM l)[j]?=some d→bV mask l d=false):kJ mask l=(aQ,false):=by
 have:(iM l).find? (λn=>bV mask l n)=none:=by
  rw[List.find?_eq_none]
  intro x hx
  obtain⟨i,hi⟩:=List.mem_iff_getElem?.1 hx
  simp[hb i x hi]
 simp[kJ,this]
theorem Tn(mask:Int)(l:List gG)(x:Nd)(b:Bool)(o:Obj)(tm:List PV):(St.norm [] (some (1,6)) ⟨tm,leO mask l x b++[xN,hole,o]⟩).objs=leO mask l x b++[xN,hole]:=
 Ic (objs:=leO mask l x b++[xN,hole]) (J9 mask l x b).lt
theorem fE.num {n:Nd}(h:fE n)(hk:n.kind=3):Pw n:=by
 have hb:=(pR n).1 (rP (pz h.sc).1 hk)
 refine⟨hb.2.2.1,hb.2.1,hb.2.2.2.1,hb.2.2.2.2.1,λhs=>?_⟩
 have hl:=hb.2.2.2.2.2.2
 rw[if_neg hs]at hl
 unfold Lib.trimRightB
 have hne:n.s.reverse≠[]:=by simpa using hs
 obtain⟨x,r,hx⟩:=List.exists_cons_of_ne_nil hne
 have hx0:x≠48:=λe=>hl.2 (by rw[←List.head?_reverse,hx,e];rfl)
 have:(x==(48:UInt8))=false:=by simpa using hx0
 rw[hx,List.dropWhile_cons,this]
 simp
theorem Ws(neg:Bool)(f:List UInt8)(e:Int):(dX neg f e).1.name=[]:=by
 unfold dX
 split
 ·rfl
 split
 ·rfl
 split
 ·rfl
 split<;>rfl
theorem PG(n:Nd)(b:Bool):(dH n b).1.s.length≤100∧(dH n b).1.name=[]:=by
 unfold dH
 split
 ·exact⟨by simp,rfl⟩
 ·exact⟨ZT _ _ _,Ws _ _ _⟩
theorem Ka{l:List gG}(hc:∀a∈l,fE a.c)(hs:∀a∈l,a.c.s.length≤500000):∀c∈iM l,qE c∧c.s.length≤500001:=by
 have key:∀c:Nd,c.name=[]→c.s.length≤500001→qE c∧c.s.length≤500001:=λc h1 h2=>⟨⟨by omega,by rw[h1];simp⟩,h2⟩
 intro c hcm
 simp only[iM,List.mem_append,mem_cons,not_mem_nil,or_false,wP,wQ,List.mem_flatten,List.mem_map]at hcm
 rcases hcm with ((rfl | rfl | rfl | rfl) | ⟨x,⟨a,ha,rfl⟩,hx⟩) | rfl | ⟨x,⟨a,ha,rfl⟩,hx⟩
 ·exact key _ rfl (by simp)
 ·exact key _ rfl (by simp)
 ·exact key _ rfl (by simp)
 ·exact key _ rfl (by simp)
 ·by_cases hk:a.c.kind=3
  ·rw[FO hk]at hx
   simp only[List.mem_append,mem_cons,not_mem_nil,or_false]at hx
   have hb:∀b,c∈IA a b→qE c∧c.s.length≤500001:=λb hb=>by
    unfold IA at hb
    split at hb
    ·rw[mem_singleton]at hb;subst hb
     have:=PG a.c b
     exact key _ this.2 (by omega)
    ·cases hb
   rcases hx with (rfl | hx) | hx
   ·exact key _ (pz (hc a ha).sc).2.1 (by have:=hs a ha;omega)
   ·exact hb _ hx
   ·exact hb _ hx
  ·rw[show Ed a=[] from if_neg hk]at hx;cases hx
 ·exact key _ rfl (by simp)
 ·by_cases hk:a.c.kind=4
  ·rw[show Ee a=[a.c,⟨4,0,[],a.c.s++[0],false,0⟩] from if_pos hk]at hx
   have hsa:=hs a ha
   simp only[mem_cons,not_mem_nil,or_false]at hx
   rcases hx with rfl | rfl
   ·exact key _ (pz (hc a ha).sc).2.1 (by omega)
   ·exact key _ rfl (by simp;omega)
  ·rw[show Ee a=[] from if_neg hk]at hx;cases hx
theorem Wt(mask:Int)(l:List gG)(hm:0≤mask∧mask≤31)(hl:l.length≤1000000)(hc:∀a∈l,fE a.c)(hs:∀a∈l,a.c.s.length≤500000):ai Tryz.prog 85 [.int .i64 mask,bG l] [] (lD mask l) []:=by
 refine Om.VJ (T:=aR Tryz.prog [(102,Eg),(103,Eh)]) 1 hD (aj (af Tm (af Wo ah))) aV (by decide) (by decide) λQ hQ=>?_
 have hgv:=Wn l hl (λa ha hk=>(hc a ha).num hk) (λa ha=>by have:=hs a ha;omega)
 (conv=>arg 4;cbv);simp (maxSteps:=400000) only[↓bf,bg,BEq.rfl,seval,hQ,↓Eg,bT,bU]
 refine XC 113 [.addr (bG l)] ((iM l).map λc=>[aB c])
  (λi O=>(∀(j:Nat) d,j<i→(iM l)[j]?=some d→bV mask l d=false)∧i≤(iM l).length∧O=leO mask l ⟨0,0,[],[],false,0⟩ false++[xN,hole])
  (λi O=>∃c,(iM l)[i]?=some c∧bV mask l c=true∧(∀(j:Nat) d,j<i→(iM l)[j]?=some d→bV mask l d=false)∧O=leO mask l c true++[xN,hole]) .ret rfl rfl rfl rfl (Nat.le_refl _) hgv (Wp _) ⟨λj q h=>absurd h (Nat.not_lt_zero j),Nat.zero_le _,rfl⟩ ?_ ?_ ?_ ?_ ?_
 ·rintro i O ⟨_,_,rfl⟩
  exact aci _ _ _ _
 ·rintro i O ⟨c,_,_,_,rfl⟩
  exact⟨aci _ _ _ _,J9 _ _ _ _⟩
 ·rintro i args O ⟨hb,hi,rfl⟩ ha
  obtain⟨c,hci,rfl⟩:=Wq ha
  have hil:=(List.getElem?_eq_some_iff.1 hci).1
  unfold leO
  have hsm:=Ka hc hs c (List.mem_of_getElem? hci)
  cases he:bV mask l c
  ·simp (maxSteps:=400000) only[↓bf,bg,BEq.rfl,seval,hQ,rG,knI,bT,bU,Ht,↓Eh,he]
   refine⟨hm,hl,hc,hsm.1,by omega,λj d hj hd=>?_,by omega,Tn mask l ⟨0,0,[],[],false,0⟩ false _ _⟩
   rcases Nat.lt_or_ge j i with g | g
   ·exact hb j d g hd
   ·have:j=i:=by omega
    subst this
    rw[hci]at hd;cases hd;exact he
  ·simp (maxSteps:=400000) only[↓bf,bg,BEq.rfl,seval,hQ,rG,knI,bT,bU,Ht,↓Eh,he]
   exact⟨hm,hl,hc,hsm.1,by omega,rfl,c,hci,he,hb,Tn mask l c true _ _⟩
 ·rintro O ⟨hb,hi,rfl⟩
  unfold leO
  simp (maxSteps:=400000) only[↓bf,bg,BEq.rfl,seval,hQ,bT,bU]
  have hr:lD mask l=.bY [aB aQ,.bool false]:=by
   have:=J_ (mask:=mask) (l:=l) λj d hd=>hb j d (by rw[List.length_map];exact (List.getElem?_eq_some_iff.1 hd).1) hd
   simp[lD,this]
  exact⟨by decide,rfl,by rw[hr];rfl⟩
 ·rintro i O hi ⟨c,hci,he,hb,rfl⟩
  unfold leO
  simp (maxSteps:=400000) only[↓bf,bg,BEq.rfl,seval,hQ,bT,bU]
  have hr:lD mask l=.bY [aB c,.bool true]:=by
   simp[lD,Ns hci he hb]
  rw[hr]
  exact⟨_,_,rfl,rfl,rfl,rfl,Nat.le_refl _,rfl,_,_,rfl,rfl,rfl,rfl,Nat.le_refl _,rfl,rfl⟩
def rX:dD:=λargs objs K=>match args with
 | [.int .i64 mask,a1]=>dZ bG a1 (HK.mk:HK λl=>(0≤mask∧mask≤31)∧(l.length≤1000000)∧(∀a∈l,fE a.c)∧(∀a∈l,a.c.s.length≤500000)∧K (lD mask l) objs 0)
 | _=>False
theorem Gy:aC Tryz.prog 85 (rX):=by
 intro args objs K h
 unfold rX at h
 split at h
 ·rename_i mask a1
  obtain⟨l,rfl,h1,h2,h3,h4,hk⟩:=h
  exact⟨_,_,_,.pure _ rfl (Wt mask l h1 h2 h3 h4),hk⟩
 ·exact h.elim
end Lp
namespace Lp
open Go Go.Proofs Go.RowKit
open List (append_assoc append_nil getElem_mem length_append length_cons length_nil map_nil take_succ_cons take_zero)
theorem Z5{neg:Bool}{f:List UInt8}{e:Int}(h:¬ (dX neg f e).2=0):(dX neg f e).1=aQ:=by
 unfold dX at h ⊢
 split
 ·rfl
 ·rename_i h1
  rw[if_neg h1]at h
  split
  ·rename_i h2;rw[if_pos h2]at h;exact absurd rfl h
  ·rename_i h2
   rw[if_neg h2]at h
   split
   ·rfl
   ·rename_i h3
    rw[if_neg h3]at h
    split
    ·rfl
    ·rename_i h4;rw[if_neg h4]at h;exact absurd rfl h
theorem Kb(n:Nd)(above:Bool)(hn:Pw n):ai Tryz.prog 98 [aB n,.bool above] [] (dV n above) []:=by
 refine Aq.J6 (T:=aR Tryz.prog [(112,nZ),(109,lW),(110,Ec),(111,wO)]) 0 hD (aj (af Td (af PD (af Wi (af Wj ah))))) aV (by decide) (by decide) λQ hQ=>?_
 by_cases hs:n.s=[]
 ·have hr:dV n above=.bY [aB ⟨3,0,[],[49],!above,-1000⟩,.bool true]:=by simp[dV,dH,hs]
  (conv=>arg 4;cbv);simp (maxSteps:=400000) only[↓bf,bg,BEq.rfl,seval,hQ,hs,hr,bT,bU]
  repeat' (first | omega | exact rfl | refine⟨?_,?_⟩)
 have hs':(n.s=[])=False:=eq_false hs
 have l1:=hn.len
 have l2:=hn.lo
 have l3:=hn.hi
 have hE:∀T:Int,kQ n above=max (T-100) (-1000)→(if (-1000:Int) > T-100 then (-1000:Int) else T-100)=kQ n above:=λT h=>by rw[h];split<;>omega
 have l4:(0:Int)<n.s.length:=by
  cases h:n.s with
  | nil=>exact absurd h hs
  | cons x r=>simp
 have hEb:-1000≤kQ n above∧kQ n above≤1000∧kQ n above≤n.e:=by
  unfold kQ
  split<;>omega
 generalize Xx:kQ n above=E at *
 have Hq:nA n E=n.s++List.replicate (n.e-E).toNat 48:=rfl
 have hpl:(nA n E).length≤3000:=by rw[Hq,length_append,List.length_replicate];omega
 have hpf:gT (nA n E)=true:=Gx _ _ hn.gT (Ta _)
 have hpt:0<(Lib.trimRightB (nA n E) 48).length:=by rw[Hq,Np];exact hn.last hs
 have hul:=Z0 (nA n E)
 have hdl:=Nq (nA n E)
 have fin:∀X:List UInt8,dV n above=.bY [aB (dX n.neg X E).1,.bool (decide ((dX n.neg X E).2=0))]→(¬ (dX n.neg X E).2=0→dV n above=.bY [aB ⟨0,0,[],[],false,0⟩,.bool false])∧((dX n.neg X E).2=0→dV n above=.bY [aB (dX n.neg X E).1,.bool true]):=λX h=>
  ⟨λg=>by rw[h,Z5 g,decide_eq_false g];rfl,λg=>by rw[h,decide_eq_true g]⟩
 by_cases hg:n.neg=above
 ·have hg':(n.neg=above)=True:=eq_true hg
  have hr:dV n above=.bY [aB (dX n.neg (pE (nA n E)) E).1,.bool (decide ((dX n.neg (pE (nA n E)) E).2=0))]:=by
   simp only[dV,dH,if_neg hs,if_pos hg,Xx]
  obtain⟨f1,f2⟩:=fin _ hr
  generalize hX:pE (nA n E)=X at *
  by_cases h49:n.s=[49]
  ·have Px:(n.s=[49])=True:=eq_true h49
   have hEe:=hE (n.s.length+n.e-1) (by rw[←Xx];unfold kQ;rw[if_pos ⟨hg,h49⟩])
   by_cases hM:(dX n.neg X E).2=0
   ·have hM':=eq_true hM
    have hr2:=f2 hM
    (conv=>arg 4;cbv);simp (maxSteps:=400000) only[↓bf,bg,BEq.rfl,seval,hQ,↓nZ,↓lW,↓wO,hs',hg',Px,bT,bU,dm,La,Lb,eY,hEe,hX,eH,hM',hr2]
    repeat' (first | omega | exact hpf | exact hpt | exact rfl | refine⟨?_,?_⟩)
   ·have hM':=eq_false hM
    have hr2:=f1 hM
    (conv=>arg 4;cbv);simp (maxSteps:=400000) only[↓bf,bg,BEq.rfl,seval,hQ,↓nZ,↓lW,↓wO,hs',hg',Px,bT,bU,dm,La,Lb,eY,hEe,hX,eH,hM',hr2]
    repeat' (first | omega | exact hpf | exact hpt | exact rfl | refine⟨?_,?_⟩)
  ·have Px:(n.s=[49])=False:=eq_false h49
   have hEe:=hE (n.s.length+n.e) (by rw[←Xx];unfold kQ;rw[if_neg λh=>h49 h.2])
   by_cases hM:(dX n.neg X E).2=0
   ·have hM':=eq_true hM
    have hr2:=f2 hM
    (conv=>arg 4;cbv);simp (maxSteps:=400000) only[↓bf,bg,BEq.rfl,seval,hQ,↓nZ,↓lW,↓wO,hs',hg',Px,bT,bU,dm,La,Lb,eY,hEe,hX,eH,hM',hr2]
    repeat' (first | omega | exact hpf | exact hpt | exact rfl | refine⟨?_,?_⟩)
   ·have hM':=eq_false hM
    have hr2:=f1 hM
    (conv=>arg 4;cbv);simp (maxSteps:=400000) only[↓bf,bg,BEq.rfl,seval,hQ,↓nZ,↓lW,↓wO,hs',hg',Px,bT,bU,dm,La,Lb,eY,hEe,hX,eH,hM',hr2]
    repeat' (first | omega | exact hpf | exact hpt | exact rfl | refine⟨?_,?_⟩)
 ·have hg':(n.neg=above)=False:=eq_false hg
  have hr:dV n above=.bY [aB (dX n.neg (tF (nA n E)) E).1,.bool (decide ((dX n.neg (tF (nA n E)) E).2=0))]:=by
   rw[Wm]
   simp only[dV,dH,if_neg hs,if_neg hg,Xx]
  obtain⟨f1,f2⟩:=fin _ hr
  have hEe:=hE (n.s.length+n.e) (by rw[←Xx];unfold kQ;rw[if_neg λh=>hg h.1])
  generalize hX:tF (nA n E)=X at *
  by_cases hM:(dX n.neg X E).2=0
  ·have hM':=eq_true hM
   have hr2:=f2 hM
   (conv=>arg 4;cbv);simp (maxSteps:=400000) only[↓bf,bg,BEq.rfl,seval,hQ,↓nZ,↓lW,↓Ec,hs',hg',bT,bU,dm,La,Lb,eY,hEe,hX,eH,hM',hr2]
   repeat' (first | omega | exact hpf | exact hpt | exact rfl | refine⟨?_,?_⟩)
  ·have hM':=eq_false hM
   have hr2:=f1 hM
   (conv=>arg 4;cbv);simp (maxSteps:=400000) only[↓bf,bg,BEq.rfl,seval,hQ,↓nZ,↓lW,↓Ec,hs',hg',bT,bU,dm,La,Lb,eY,hEe,hX,eH,hM',hr2]
   repeat' (first | omega | exact hpf | exact hpt | exact rfl | refine⟨?_,?_⟩)
def mM:dD:=λargs objs K=>match args with
 | [a0,.bool above]=>dZ aB a0 (HK.mk:HK λn=>(Pw n)∧K (dV n above) objs 0)
 | _=>False
theorem LG:aC Tryz.prog 98 (mM):=by
 intro args objs K h
 unfold mM at h
 split at h
 ·rename_i a0 above
  obtain⟨n,rfl,h1,hk⟩:=h
  exact⟨_,_,_,.pure _ rfl (Kb n above h1),hk⟩
 ·exact h.elim
theorem XV(objs:List Obj)(K:KT):(∀k,bM D 27 [(0,.int .i64 k)] objs K=K (aB ⟨k,0,[],[],false,0⟩) objs 0)∧(∀k s,bM D 27 [(0,.int .i64 k),(3,.str s)] objs K=K (aB ⟨k,0,[],s,false,0⟩) objs 0):=by
 have z:aL (D 27)=aB ⟨0,0,[],[],false,0⟩:=by kernel_rfl
 have a:(D 27).agg=true:=by kernel_rfl
 simp only[bS]at z a
 refine⟨λk=>?_,λk s=>?_⟩
 all_goals
  simp[bM,mI,a,z,bS,nD,aB,PV.isAgg,q9,PV.cells,PV.storable,PV.mV,PV.pure]
def Hu:List Nd:=[⟨0,0,[],[],false,0⟩,⟨1,0,[],[],false,0⟩,⟨2,0,[],[],false,0⟩,⟨3,0,[],[],false,0⟩]
theorem Wu(v:Vl)(ver:Nat)(t:TypeId)(rest:List Obj):eZ 1 0 (⟨t,6,v.map aB,true,ver⟩::rest) (.bO 0 ver)=aJ v:=Zp v ver t rest
theorem xb{n i:Nat}(h:n≤1000000)(hi:i≤1000000):((n+1)*64≤140737488355328∧n≤9223372036854775806)∧((n+1+1)*64≤140737488355328∧n≤9223372036854775805)∧
  ((n+1+1+1)*64≤140737488355328∧n≤9223372036854775804)∧(-9223372036854775808≤(i:Int)+1∧(i:Int)+1≤9223372036854775807):=by omega
theorem PI(l:List gG)(hl:l.length≤100000)(hn:∀a∈l,a.c.kind=3→Pw a.c)(hs:∀a∈l,a.c.s.length≤1000000000):ai Tryz.prog 71 [bG l] [] (aJ (iM l)) []:=by
 refine vk.aX (T:=aR Tryz.prog [(98,mM)]) 1 hD (aj (af LG ah)) aV (by decide) λQ hQ=>?_
 (conv=>arg 4;cbv);simp (maxSteps:=400000) only[↓bf,bg,BEq.rfl,seval,hQ,XV,La,Lb]
 refine aF (λm S=>∃i ver:Nat,i+m=l.length∧S=⟨dG 98 [(0,bG l),(3,.bO 0 ver),(4,.int .i64 i)],[⟨27,6,(Hu++kR (l.take i)).map aB,true,ver⟩]⟩) l.length ⟨0,1,by omega,?_⟩ ?_ (hz:=Nat.zero_le _)
 ·simp only[bN,keepR,Nat.reduceAdd,lJ,Nat.reduceBEq,map_nil]
  rfl
 rintro m S ⟨i,ver,him,rfl⟩
 have zi:(0≤(i:Int))=True:=eq_true (by omega)
 have hcl:=vB (l.take i)
 rw[List.length_take]at hcl
 rcases Nat.lt_or_ge i l.length with h | h
 ·have hlt:((i:Int)<(l.length:Int))=True:=eq_true (by omega)
  have hgi:=List.getElem?_eq_getElem h
  have hni:=hn _ (getElem_mem h)
  generalize l[i]=a at hgi hni
  have htk:=J7 hgi
  have hA:∀(A B:List Nd),A.map aB++B.map aB=(A++B).map aB:=λA B=>by rw[List.map_append]
  by_cases hk:a.c.kind=3
  rotate_left 1
  ·have hk':=eq_false hk
   have e1:Ed a=[]:=if_neg hk
   rw[e1,append_nil]at htk
   simp (maxSteps:=400000) only[↓bf,bg,BEq.rfl,seval,hQ,hlt,zi,hgi,hk',VU,take_succ_cons,take_zero,rM]
   exact⟨⟨by omega,by omega⟩,m-1,by omega,i+1,ver,by omega,by rw[htk,Int.natCast_add,Int.natCast_one]⟩
  have hk':=eq_true hk
  have hnr:=hni hk
  have e1:=FO hk
  generalize hX:Hu++kR (l.take i)=X at *
  have hXl:X.length≤1000000:=by rw[←hX,length_append];have:Hu.length=4:=rfl;omega
  have hX':Hu++kR (l.take (i+1))=X++Ed a:=by rw[htk,←append_assoc,hX]
  have s1:∀x:Nd,X.map aB++[aB x]=(X++[x]).map aB:=λx=>by simp
  have fin:∀(v:Nat) (Y:List Nd),Hu++kR (l.take (i+1))=Y→∃m',m'<m∧∃Im aeZ:Nat,Im+m'=l.length∧(⟨dG 98 [(0,bG l),(3,.bO 0 v),(4,.int .i64 ((i:Int)+1))],[⟨27,6,Y.map aB,true,v⟩]⟩:St)=⟨dG 98 [(0,bG l),(3,.bO 0 aeZ),(4,.int .i64 Im)],[⟨27,6,(Hu++kR (l.take Im)).map aB,true,aeZ⟩]⟩:=λv Y hy=>
   ⟨m-1,by omega,i+1,v,by omega,by rw[hy,Int.natCast_add,Int.natCast_one]⟩
  rw[e1]at hX'
  obtain⟨x1,x2,x3,iw⟩:=xb hXl (Nat.le_trans (Nat.le_of_lt h) (Nat.le_trans hl (by decide:100000≤1000000)))
  cases hb1:(dH a.c true).2 with
  | false=>
   cases hb2:(dH a.c false).2 with
   | false=>
    have hX2:=hX'
    simp only[IA,hb1,hb2,Bool.false_eq_true,if_true,if_false,append_nil]at hX2
    simp (maxSteps:=400000) only[↓bf,bg,BEq.rfl,seval,hQ,hlt,zi,hgi,hk',↓mM,dV,eY,hb1,hb2,bT,bU,dm,La,Lb,xB,VU,take_succ_cons,take_zero,rM,length_append,length_cons,length_nil]
    exact⟨x1.1,x1.2,hnr,hnr,iw,fin _ _ (by rw[hX2])⟩
   | true=>
    have hX2:=hX'
    simp only[IA,hb1,hb2,Bool.false_eq_true,if_true,if_false,append_nil]at hX2
    simp (maxSteps:=400000) only[↓bf,bg,BEq.rfl,seval,hQ,hlt,zi,hgi,hk',↓mM,dV,eY,hb1,hb2,bT,bU,dm,La,Lb,xB,VU,take_succ_cons,take_zero,rM,length_append,length_cons,length_nil]
    exact⟨x1.1,x1.2,hnr,hnr,x2.1,x2.2,iw,fin _ _ (by rw[hX2];simp only[append_assoc])⟩
  | true=>
   cases hb2:(dH a.c false).2 with
   | false=>
    have hX2:=hX'
    simp only[IA,hb1,hb2,Bool.false_eq_true,if_true,if_false,append_nil]at hX2
    simp (maxSteps:=400000) only[↓bf,bg,BEq.rfl,seval,hQ,hlt,zi,hgi,hk',↓mM,dV,eY,hb1,hb2,bT,bU,dm,La,Lb,xB,VU,take_succ_cons,take_zero,rM,length_append,length_cons,length_nil]
    exact⟨x1.1,x1.2,hnr,x2.1,x2.2,hnr,iw,fin _ _ (by rw[hX2];simp only[append_assoc])⟩
   | true=>
    have hX2:=hX'
    simp only[IA,hb1,hb2,Bool.false_eq_true,if_true,if_false,append_nil]at hX2
    simp (maxSteps:=400000) only[↓bf,bg,BEq.rfl,seval,hQ,hlt,zi,hgi,hk',↓mM,dV,eY,hb1,hb2,bT,bU,dm,La,Lb,xB,VU,take_succ_cons,take_zero,rM,length_append,length_cons,length_nil]
    exact⟨x1.1,x1.2,hnr,x2.1,x2.2,hnr,x3.1,x3.2,iw,fin _ _ (by rw[hX2];simp only[append_assoc])⟩
 have hi:i=l.length:=by omega
 subst hi
 have hlt:((l.length:Int)<(l.length:Int))=False:=eq_false (by omega)
 rw[List.take_of_length_le (Nat.le_refl _)]
 rw[List.take_of_length_le (Nat.le_refl _)]at hcl
 simp (maxSteps:=400000) only[↓bf,bg,BEq.rfl,seval,hQ,hlt,XV,La,Lb]
 have hc0:Hu.length=4:=rfl
 have hY:(Hu++kR l).map aB++[aB ⟨4,0,[],[],false,0⟩]=(Hu++kR l++[(⟨4,0,[],[],false,0⟩:Nd)]).map aB:=by simp
 rw[hY]
 refine⟨by omega,by omega,?_⟩
 generalize hX:Hu++kR l++[(⟨4,0,[],[],false,0⟩:Nd)]=X
 have hXl:X.length≤300005:=by rw[←hX];simp[Hu];omega
 refine aF (λm S=>∃i ver:Nat,i+m=l.length∧S=⟨dG 98 [(0,bG l),(3,.bO 0 ver),(9,.int .i64 i)],[⟨27,6,(X++mR (l.take i)).map aB,true,ver⟩]⟩) l.length ⟨0,ver+1,by omega,?_⟩ ?_
 ·simp only[bN,keepR,Nat.reduceAdd,lJ,Nat.reduceBEq,map_nil]
  simp[mR]
 rintro m' S ⟨i,Lr,him',rfl⟩
 have zi:(0≤(i:Int))=True:=eq_true (by omega)
 have hsl:=zU (l.take i)
 rw[List.length_take]at hsl
 rcases Nat.lt_or_ge i l.length with h' | h'
 ·have hlt:((i:Int)<(l.length:Int))=True:=eq_true (by omega)
  have hgi:=List.getElem?_eq_getElem h'
  have hsi:=hs _ (getElem_mem h')
  generalize l[i]=a at hgi hsi
  have htk:=J8 hgi
  by_cases hk:a.c.kind=4
  ·have hk':=eq_true hk
   have e1:Ee a=[a.c,⟨4,0,[],a.c.s++[0],false,0⟩]:=if_pos hk
   simp (maxSteps:=400000) only[↓bf,bg,BEq.rfl,seval,hQ,hlt,zi,hgi,hk',XV,La,Lb]
   have hrow:∀y,y∈[aB a.c,aB ⟨4,0,[],a.c.s++[0],false,0⟩]→y.cells.length=6∧y.cells.all PV.storable=true:=λy hy=>by
    simp only[List.mem_cons,List.not_mem_nil,or_false]at hy
    rcases hy with rfl | rfl<;>exact⟨rfl,rfl⟩
   have hXs:X.length+(mR (l.take i)).length≤600000:=by omega
   exact⟨by omega,hrow,by omega,by omega,rfl,⟨by omega,by omega⟩,m'-1,by omega,i+1,Lr+1,by omega,by
    rw[htk,e1,←append_assoc,List.map_append (l₁:=X++mR _),Int.natCast_add,Int.natCast_one];rfl⟩
  ·have hk':=eq_false hk
   have e1:Ee a=[]:=if_neg hk
   rw[e1,append_nil]at htk
   simp (maxSteps:=400000) only[↓bf,bg,BEq.rfl,seval,hQ,hlt,zi,hgi,hk',XV,La,Lb]
   repeat' (first | omega | exact⟨m'-1,by omega,i+1,Lr,by omega,by rw[htk];rfl⟩ | refine⟨?_,?_⟩)
 ·have hlt:((i:Int)<(l.length:Int))=False:=eq_false (by omega)
  have hr:iM l=X++mR (l.take i):=by
   rw[List.take_of_length_le h',←hX];simp[iM,Hu]
  simp (maxSteps:=400000) only[↓bf,bg,BEq.rfl,seval,hQ,hlt,Wu,hr]
def Ei:dD:=λargs objs K=>match args with
 | [a0]=>dZ bG a0 (HK.mk:HK λl=>(l.length≤100000)∧(∀a∈l,a.c.kind=3→Pw a.c)∧(∀a∈l,a.c.s.length≤1000000000)∧K (aJ (iM l)) objs 0)
 | _=>False
theorem Tp:aC Tryz.prog 71 (Ei):=by
 intro args objs K h
 unfold Ei at h
 split at h
 ·rename_i a0
  obtain⟨l,rfl,h1,h2,h3,hk⟩:=h
  exact⟨_,_,_,.pure _ rfl (PI l h1 h2 h3),hk⟩
 ·exact h.elim
def rY:dD:=λargs objs K=>match args with
 | [.int .i64 mask,a1,a2]=>dZ bG a1 (HK.mk:HK λl=>dZ aB a2 (HK.mk:HK λn=>(0≤mask∧mask≤31)∧(l.length≤1000000)∧(∀a∈l,fE a.c)∧(qE n)∧(n.s.length≤1000000)∧K (.bool (bV mask l n)) objs 0))
 | _=>False
theorem Gz:aC Tryz.prog 40 (rY):=by
 intro args objs K h
 unfold rY at h
 split at h
 ·rename_i mask a1 a2
  obtain⟨l,rfl,n,rfl,h1,h2,h3,h4,h5,hk⟩:=h
  exact⟨_,_,_,.pure _ rfl (Ph mask l n ⟨h1.1,by omega⟩ h2 h3 h4 h5),hk⟩
 ·exact h.elim
theorem LH(mask:Int)(l:List gG)(hm:0≤mask∧mask≤31)(hl:l.length≤100000)(hc:∀a∈l,fE a.c)(hs:∀a∈l,a.c.s.length≤500000):ai Tryz.prog 37 [.int .i64 mask,bG l] [] (lD mask l) []:=by
 refine Ca.J6 (T:=aR Tryz.prog [(71,Ei),(40,rY)]) 0 hD (aj (af Tp (af Gz ah))) aV (by decide) (by decide) λQ hQ=>?_
 have hcs:=Ka hc hs
 have hnr:∀a∈l,a.c.kind=3→Pw a.c:=λa ha hk=>(hc a ha).num hk
 have hsb:∀a∈l,a.c.s.length≤1000000000:=λa ha=>by have:=hs a ha;omega
 have hcl:(iM l).length≤1000000:=by
  have h1:=vB l
  have h2:=zU l
  simp only[iM,length_append,length_cons,length_nil];omega
 (conv=>arg 4;cbv);simp (maxSteps:=400000) only[↓bf,bg,BEq.rfl,seval,hQ,↓Ei,bT,bU]
 refine⟨hl,hnr,hsb,?_⟩
 refine aF (λm S=>∃i:Nat,i+m=(iM l).length∧(∀(j:Nat) d,j<i→(iM l)[j]?=some d→bV mask l d=false)∧S=⟨dG 28 [(0,.int .i64 mask),(1,bG l),(4,.bP 0 1 0 0),(6,aJ (iM l)),(7,.int .i64 i)],[⟨27,6,[aB ⟨0,0,[],[],false,0⟩],true,1⟩]⟩) (iM l).length ⟨0,by omega,λj d h=>absurd h (Nat.not_lt_zero j),?_⟩ ?_
 ·simp only[bN,keepR,Nat.reduceAdd,lJ,Nat.reduceBEq,map_nil]
  rfl
 rintro m S ⟨i,him,hb,rfl⟩
 have zi:(0≤(i:Int))=True:=eq_true (by omega)
 rcases Nat.lt_or_ge i (iM l).length with h | h
 ·have hlt:((i:Int)<((iM l).length:Int))=True:=eq_true (by omega)
  have hgi:=List.getElem?_eq_getElem h
  have hsi:=hcs _ (getElem_mem h)
  generalize (iM l)[i]=c at hgi hsi
  cases hmem:bV mask l c with
  | true=>
   have hr:lD mask l=.bY [aB c,.bool true]:=by simp[lD,Ns hgi hmem hb]
   simp (maxSteps:=400000) only[↓bf,bg,BEq.rfl,seval,hQ,hlt,zi,hgi,↓rY,hmem,bT,bU,dm,La,Lb,hr]
   repeat' (first | omega | exact hc | exact hsi.1 | exact rfl | refine⟨?_,?_⟩)
  | false=>
   have hb':∀(j:Nat) d,j<i+1→(iM l)[j]?=some d→bV mask l d=false:=λj d hj hd=>by
    rcases Nat.lt_or_ge j i with g | g
    ·exact hb j d g hd
    ·have:j=i:=by omega
     subst this
     rw[hgi]at hd;cases hd;exact hmem
   simp (maxSteps:=400000) only[↓bf,bg,BEq.rfl,seval,hQ,hlt,zi,hgi,↓rY,hmem,bT,bU,dm,La,Lb]
   repeat' (first | omega | exact hc | exact hsi.1 | exact⟨m-1,by omega,i+1,by omega,hb',rfl⟩ | refine⟨?_,?_⟩)
 ·have hlt:((i:Int)<((iM l).length:Int))=False:=eq_false (by omega)
  have hr:lD mask l=.bY [aB ⟨0,0,[],[],false,0⟩,.bool false]:=by
   have:=J_ (mask:=mask) (l:=l) λj d hd=>hb j d (by have:=(List.getElem?_eq_some_iff.1 hd).1;omega) hd
   simp[lD,this,aQ]
  simp (maxSteps:=400000) only[↓bf,bg,BEq.rfl,seval,hQ,hlt,bT,bU,La,Lb,hr]
  repeat' (first | omega | exact rfl | refine⟨?_,?_⟩)
def vC:dD:=λargs objs K=>match args with
 | [.int .i64 mask,a1]=>dZ bG a1 (HK.mk:HK λl=>(0≤mask∧mask≤31)∧(l.length≤100000)∧(∀a∈l,fE a.c)∧(∀a∈l,a.c.s.length≤500000)∧K (lD mask l) objs 0)
 | _=>False
theorem PK:aC Tryz.prog 37 (vC):=by
 intro args objs K h
 unfold vC at h
 split at h
 ·rename_i mask a1
  obtain⟨l,rfl,h1,h2,h3,h4,hk⟩:=h
  exact⟨_,_,_,.pure _ rfl (LH mask l h1 h2 h3 h4),hk⟩
 ·exact h.elim
end Lp
namespace Lp
open Go Go.Proofs
theorem Nt{a:gG}(h:fO a=true)(hs:a.c.s.length≤500000):fE a.c:=by
 simp only[fO,Bool.and_eq_true]at h
 exact⟨h.2,by omega⟩
theorem Tq(t:aD)(hs:qd t)(hl5:t.length≤100000)(hc:∀n∈t,n.c.s.length≤500000):ai Tryz.prog 16 [ay t] [] (.bool (ql t)) []:=by
 have hl:=hs.len
 refine D9.aX (T:=aR Tryz.prog [(14,rW),(38,j5),(37,vC)]) 0 hD (aj (af LB (af xw (af PK ah)))) aV (by decide) λQ hQ=>?_
 cases hr:gy t with
 | false=>
  have hg:ql t=false:=by simp[ql,hr]
  (conv=>arg 4;cbv);simp (maxSteps:=400000) only[↓ak,au,BEq.rfl,seval,hQ,↓rW,hr,hg]
  exact hs
 | true=>
  have hrt:=vo hr
  have ho:=hrt.one
  have hg:ql t=Y.gF IW t:=by simp[ql,hr]
  (conv=>arg 4;cbv);simp (maxSteps:=400000) only[↓ak,au,BEq.rfl,seval,hQ,↓rW,hr]
  refine⟨hs,?_⟩
  refine aF (λm S=>∃i:Nat,i+m=t.length∧Y.gF IW (t.drop i)=ql t∧S=⟨dG 35 [(0,ay t),(3,.int .i64 i)],[]⟩) t.length (hz:=Nat.zero_le _) ⟨0,by omega,by rw[hg];rfl,?_⟩ ?_
  ·simp only[bN,keepR,Nat.reduceAdd,lJ,Nat.reduceBEq,List.map_nil]
   rfl
  rintro m S ⟨i,him,hgd,rfl⟩
  rcases Nat.lt_or_ge i t.length with h | h
  ·have hgi:=List.getElem?_eq_getElem h
   have hcx:=hc _ (List.getElem_mem h)
   generalize t[i]=n at hgi hcx
   have hd:=VS hgi
   rw[hgd]at hd
   have zi:(0≤(i:Int))=True:=eq_true (by omega)
   have hlt:((i:Int)<(t.length:Int))=True:=eq_true (by omega)
   have next:ql t=Y.gF IW (t.drop (i+1))→∃m',m'<m∧∃Im:Nat,Im+m'=t.length∧Y.gF IW (t.drop Im)=ql t∧(⟨dG 35 [(0,ay t),(3,.int .i64 ((i:Int)+1))],[]⟩:St)=⟨dG 35 [(0,ay t),(3,.int .i64 Im)],[]⟩:=λe=>
    ⟨m-1,by omega,i+1,by omega,e.symm,rfl⟩
   by_cases hk:n.kind=1
   rotate_left 1
   ·have hk':=eq_false hk
    have hla:zT t i=true:=by
     obtain⟨ps,c,_,_,h3,_⟩:=Y.uj ho hgi
     have hd0:=List.drop_eq_getElem_cons h
     rw[List.getElem?_eq_getElem h]at hgi
     cases hgi
     simp only[zT,hd0,h3,IW]
     simp[hk]
    rw[hla,Bool.true_and]at hd
    have hst:=next hd
    simp (maxSteps:=400000) only[↓ak,au,BEq.rfl,seval,hQ,hlt,zi,hgi,hk']
    repeat' (first | omega | exact hst | refine⟨?_,?_⟩)
   ·have hk':=eq_true hk
    obtain⟨ps,p1,p2,p3,p4,p5,p6,p7⟩:=XR hrt hgi hk
    have hat:mG t i=ps.flatten.map iW:=by simp only[mG,hgi,hk,if_true,p2]
    have hal:(mG t i).length≤100000:=by rw[hat,List.length_map,p2,List.length_take,List.length_drop];omega
    have hmem:∀x∈ps.flatten,x∈t:=λx hx=>by rw[p2]at hx;exact List.mem_of_mem_drop (List.mem_of_mem_take hx)
    have hsm:∀a∈mG t i,a.c.s.length≤500000:=λa ha=>by
     rw[hat]at ha
     obtain⟨x,hx,rfl⟩:=List.mem_map.1 ha
     exact hc x (hmem x hx)
    have hcm:∀a∈mG t i,fE a.c:=λa ha=>by
     have hsa:=hsm a ha
     rw[hat]at ha
     obtain⟨x,hx,rfl⟩:=List.mem_map.1 ha
     exact Nt (p7 x hx) hsa
    have hla:zT t i=(kJ n.n (mG t i)).2:=by
     have hd0:=List.drop_eq_getElem_cons h
     have hx:=hgi
     rw[List.getElem?_eq_getElem h]at hx
     cases hx
     simp only[zT,hd0,p1,IW,hat]
     simp[hk]
    rw[hla]at hd
    cases hls:(kJ n.n (mG t i)).2 with
    | false=>
     rw[hls]at hd
     have hr2:ql t=false:=by rw[hd];rfl
     simp (maxSteps:=400000) only[↓ak,au,BEq.rfl,seval,hQ,hlt,zi,hgi,hk',↓j5,Int.toNat_natCast,↓vC,lD,eY,bT,bU,La,Lb,hls,hr2]
     repeat' (first | omega | exact hcm | exact hsm | exact ho | exact rfl | refine⟨?_,?_⟩)
    | true=>
     rw[hls,Bool.true_and]at hd
     have hst:=next hd
     simp (maxSteps:=400000) only[↓ak,au,BEq.rfl,seval,hQ,hlt,zi,hgi,hk',↓j5,Int.toNat_natCast,↓vC,lD,eY,bT,bU,La,Lb,hls]
     repeat' (first | omega | exact hcm | exact hsm | exact ho | exact hst | exact rfl | refine⟨?_,?_⟩)
  ·have hlt:((i:Int)<(t.length:Int))=False:=eq_false (by omega)
   have hr2:ql t=true:=by rw[←hgd,List.drop_eq_nil_of_le h];rfl
   simp (maxSteps:=400000) only[↓ak,au,BEq.rfl,seval,hQ,hlt,hr2]
def m_:dD:=λargs objs K=>match args with
 | [a0]=>dZ ay a0 (HK.mk:HK λt=>(qd t)∧(t.length≤100000)∧(∀n∈t,n.c.s.length≤500000)∧K (.bool (ql t)) objs 0)
 | _=>False
theorem Ej:aC Tryz.prog 16 (m_):=by
 intro args objs K h
 unfold m_ at h
 split at h
 ·rename_i a0
  obtain⟨t,rfl,h1,h2,h3,hk⟩:=h
  exact⟨_,_,_,.pure _ rfl (Tq t h1 h2 h3),hk⟩
 ·exact h.elim
def El(t:aD)(k:Nat):Bool:=decide (t.length≤k) && t.all jN && ql t
theorem Wv(t:aD)(k:Nat)(hk:k≤100000)(hl:t.length≤4611686018427387904)(htx:∀n∈t,n.s.length≤4611686018427387904∧n.name.length≤4611686018427387904∧n.c.s.length≤4611686018427387904)(hcn:∀n∈t,n.c.name.length≤4611686018427387904) :
  ai Tryz.prog 7 [ay t,.int .i64 k] [] (.bool (El t k)) []:=by
 refine FN.aX (T:=aR Tryz.prog [(24,rT),(16,m_)]) 0 hD (aj (af Lx (af Ej ah))) aV (by decide) λQ hQ=>?_
 cases hsh:(decide (t.length≤k) && t.all jN) with
 | false=>
  have hr:El t k=false:=by simp only[El,hsh,Bool.false_and]
  (conv=>arg 4;cbv);simp (maxSteps:=400000) only[↓ak,au,BEq.rfl,seval,hQ,↓rT,Int.toNat_natCast,hsh,hr]
  repeat' (first | omega | exact htx | refine⟨?_,?_⟩)
 | true=>
  have hr:El t k=ql t:=by simp only[El,hsh,Bool.true_and]
  simp only[Bool.and_eq_true,decide_eq_true_eq,List.all_eq_true]at hsh
  have hsh':(decide (t.length≤k) && t.all jN)=true:=by simp only[Bool.and_eq_true,decide_eq_true_eq,List.all_eq_true];exact hsh
  have hs1:∀n∈t,n.s.length≤100∧n.name.length≤100∧n.c.s.length≤100:=λn hn=>by
   have:=hsh.2 n hn
   simp only[jN,Bool.and_eq_true,decide_eq_true_eq]at this
   exact⟨this.1.1,this.1.2,this.2⟩
  have hsm:qd t:=⟨by omega,λn hn=>by have:=hs1 n hn;exact⟨by omega,by omega,⟨by omega,hcn n hn⟩⟩⟩
  have hcs:∀n∈t,n.c.s.length≤500000:=λn hn=>by have:=hs1 n hn;omega
  (conv=>arg 4;cbv);simp (maxSteps:=400000) only[↓ak,au,BEq.rfl,seval,hQ,↓rT,Int.toNat_natCast,hsh',↓m_,hr]
  have hl5:t.length≤100000:=by omega
  repeat' (first | omega | exact htx | exact hsm | exact hcs | refine⟨?_,?_⟩)
def kG:dD:=λargs objs K=>match args with
 | [a0,.int .i64 k]=>dZ ay a0 (HK.mk:HK λt=>(0≤k∧k≤100000)∧(t.length≤4611686018427387904)∧(∀n∈t,n.s.length≤4611686018427387904∧n.name.length≤4611686018427387904∧n.c.s.length≤4611686018427387904)∧(∀n∈t,n.c.name.length≤4611686018427387904)∧K (.bool (El t k.toNat)) objs 0)
 | _=>False
theorem Tt:aC Tryz.prog 7 (kG):=by
 intro args objs K h
 unfold kG at h
 split at h
 ·rename_i a0 k
  obtain⟨t,rfl,h1,h2,h3,h4,hk⟩:=h
  exact⟨_,_,_,.pure _ rfl ((by have:=Wv t k.toNat (by omega) h2 h3 h4;rwa[Int.toNat_of_nonneg h1.1]at this)),hk⟩
 ·exact h.elim
end Lp
namespace Lp
open Go Go.Proofs
open List (length_cons length_drop length_nil map_map map_nil)
def xK(l:List aD)(ver:Nat):Obj:=⟨23,1,l.map ay,true,ver⟩
theorem zV(f:PV→PV)(hf:∀l,f (ay l)=ay l)(D:List aD):(D.map ay).map (PV.bL f)=D.map ay:=by
 rw[map_map]
 exact List.map_congr_left λx _=>hf x
theorem Em(f:PV→PV)(hf:∀x:dR,(aP x).bL f=aP x)(D:aD):(D.map aP).map (PV.bL f)=D.map aP:=by
 rw[map_map]
 exact List.map_congr_left λx _=>hf x
theorem adR(o:Obj)(D:aD)(ver:Nat)(t:TypeId)(rest:List Obj):eZ 1 1 (o::⟨t,11,D.map aP,true,ver⟩::rest) (.bO 1 ver)=ay D:=by
 simp only[eZ,Nat.lt_irrefl,if_false,gX,List.getElem?_cons_succ,List.getElem?_cons_zero,Nat.le_refl,decide_true,Bool.true_and,beq_self_eq_true,if_true,Em (gX 0 1 _) (λ_=>rfl)]
 rfl
theorem acj(o:Obj)(x:dR)(q:aD)(ver:Nat)(t:TypeId)(rest:List Obj):eZ 1 1 (o::⟨t,11,aP x::q.map aP,true,ver⟩::rest) (.bO 1 ver)=ay (x::q):=adR o (x::q) ver t rest
theorem Kc(d n:Nat)(X:List Obj)(T:TypeId)(D:List aD)(u:Nat):f_ d n X ⟨T,1,D.map ay,true,u⟩=⟨T,1,D.map ay,true,u⟩:=by
 simp only[f_,zV (eZ d n X) (λ_=>rfl)]
theorem XW(D:List aD)(ver:Nat)(t:TypeId)(rest:List Obj):eZ 1 0 (⟨t,1,D.map ay,true,ver⟩::rest) (.bO 0 ver)=dh D:=by
 simp only[eZ,Nat.not_lt_zero,if_false,gX,List.getElem?_cons_zero,Nat.le_refl,decide_true,Bool.true_and,beq_self_eq_true,if_true,zV (gX 0 0 _) (λ_=>rfl)]
 rfl
theorem mO(t:aD)(ho:Y.One t):∃n r ps,t=n::r∧0≤n.many∧Y.parts n.many.toNat r=some ps∧ps.flatten=r∧(∀p∈ps,Y.One p)∧Y.partsOf n r=ps∧n.many=(ps.length:Int)∧ps.length≤r.length:=by
 obtain⟨n,r,rfl⟩:∃n r,t=n::r:=by
  cases t with
  | nil=>exact absurd rfl ho.ne
  | cons n r=>exact⟨n,r,rfl⟩
 obtain⟨hm,ps,h1,h2,h3⟩:=ho.parts
 have hl:=Y.bD _ _ _ h1
 exact⟨n,r,ps,rfl,hm,h1,h2,h3,by simp[Y.partsOf,h1],by omega,by have:=Y.fu _ _ _ h1;omega⟩
theorem LJ(t:aD)(ho:Y.One t)(hl:t.length≤1000000):ai Tryz.prog 43 [ay t] [] (dh (ax t)) []:=by
 obtain⟨n,r,ps,hv,hm,hp,hfl,hps,hpo,hmn,Fy⟩:=mO t ho
 have hg0:t[0]?=some n:=by rw[hv];rfl
 have hr:ax t=if n.kind=1 then [] else ps.map Y.ic:=by rw[hv,ax,hpo]
 have hd1:t.drop 1=r:=by rw[hv];rfl
 have hrl:r.length+1=t.length:=by rw[hv];rfl
 have hpl:=Y.bD _ _ _ hp
 refine Cb.aX (T:=aR Tryz.prog [(31,fM)]) 1 hD (aj (af nX ah)) aV (by decide) λQ hQ=>?_
 (conv=>arg 4;cbv);simp (maxSteps:=400000) only[↓ak,au,BEq.rfl,seval,hQ,iy]
 refine aF (λm S=>∃(i ver:Nat) (done:List aD) (rest:List aD),m=rest.length∧(done=[]∨n.kind≠1)∧done.length+rest.length=ps.length∧done++rest.map Y.ic=ps.map Y.ic∧Y.parts rest.length (t.drop i)=some rest∧
  S=⟨dG 47 [(0,ay t),(3,.bO 0 ver),(4,.int .i64 i),(5,.int .i64 done.length)],[⟨23,1,done.map ay,true,ver⟩]⟩) ps.length ⟨1,1,[],ps,rfl,.inl rfl,by simp,rfl,by rw[hd1,hpl];exact hp,?_⟩ ?_
 ·simp only[bN,keepR,Nat.reduceAdd,lJ,Nat.reduceBEq,map_nil]
  rfl
 rintro m S ⟨i,ver,done,rest,rfl,hdn,hdl,hdr,hrp,rfl⟩
 cases rest with
 | nil=>
  simp only[length_nil,Nat.add_zero]at hdl
  have hlt:((done.length:Int)<(ps.length:Int))=False:=eq_false (by omega)
  simp only[map_nil,List.append_nil]at hdr
  have hres:ax t=done:=by
   rw[hr]
   split
   ·rename_i h1;exact (hdn.resolve_right (λh=>h h1)).symm
   ·exact hdr.symm
  simp (maxSteps:=400000) only[↓ak,au,BEq.rfl,seval,hQ,hg0,hmn,hlt,XW,hres]
 | cons p qs=>
  obtain⟨c,qs',h1,h2,h3⟩:=Y.d9 (k:=qs.length) hrp
  simp only[List.cons.injEq]at h2
  obtain⟨hp1,rfl⟩:=h2
  simp only[length_cons]at hdl
  have hlt:((done.length:Int)<(ps.length:Int))=True:=eq_true (by omega)
  by_cases hk:n.kind=1
  ·have hk':=eq_true hk
   have hd:=hdn.resolve_right (λh=>h hk)
   have hres:ax t=done:=by rw[hr,if_pos hk,hd]
   simp (maxSteps:=400000) only[↓ak,au,BEq.rfl,seval,hQ,hg0,hmn,hlt,hk',XW,hres]
  rw[if_neg hk]at hr
  have hk':=eq_false hk
  have hc:=Y.dS _ _ _ h1
  simp only[length_drop]at hc
  have hnx:rR t i=(i+c:Nat):=yP (Y.nP _ _ _ _ h1 (by omega))
  have zi:(0≤(i:Int))=True:=eq_true (by omega)
  have c1:((i:Int)≤((i+c:Nat):Int))=True:=eq_true (by omega)
  have c2:(((i+c:Nat):Int)≤(t.length:Int))=True:=eq_true (by omega)
  have hpe:List.drop i (List.take (i+c) t)=p:=by
   rw[List.drop_take,hp1,show i+c-i=c by omega]
  obtain⟨x,q,hxq⟩:∃x q,p=x::q:=by
   cases hh:p with
   | nil=>rw[hh]at hp1;have:=congrArg List.length hp1;simp at this;omega
   | cons x q=>exact⟨x,q,rfl⟩
  have ahd:p.length≤t.length:=by rw[hp1,List.length_take,length_drop];omega
  have hsz:∀y:dR,y∈(x::q:aD)→(aP y).cells.length=11∧(aP y).cells.all PV.storable=true:=λy _=>⟨rfl,rfl⟩
  rw[hxq]at hpe ahd
  simp only[length_cons]at ahd
  simp (maxSteps:=400000) only[↓ak,au,BEq.rfl,seval,hQ,hg0,hmn,hlt,hk',↓fM,Int.toNat_natCast,hnx,zi,c1,c2,hpe,iy,iJ,vw,dm,eG,List.set_cons_zero]
  refine⟨by omega,hl,λy hy=>?_,by omega,by omega,by omega,by omega,?_⟩
  ·have:y∈(x::q:aD).map aP:=hy
   obtain⟨z,_,rfl⟩:=List.mem_map.1 this
   exact⟨rfl,rfl⟩
  refine aN _ (Weak.freeze 1 1 (Nat.zero_le _) _) ?_
  simp (maxSteps:=400000) only[↓ak,au,BEq.rfl,seval,hQ,acj,VU,Kc,List.take_succ_cons,List.take_zero]
  have ah5:Y.ic p={ x with name:=[] }::q:=by rw[hxq];rfl
  refine⟨by omega,by omega,⟨by omega,by omega⟩,qs.length,by omega,i+c,ver+1,done++[Y.ic p],qs,rfl,.inr hk,by simp only[List.length_append,length_cons,length_nil];omega,by rw[←hdr];simp,by rw[←List.drop_drop];exact h3,?_⟩
  rw[ah5]
  simp
def d_:dD:=λargs objs K=>match args with
 | [a0]=>dZ ay a0 (HK.mk:HK λt=>(Y.One t)∧(t.length≤1000000)∧K (dh (ax t)) objs 0)
 | _=>False
theorem A_:aC Tryz.prog 43 (d_):=by
 intro args objs K h
 unfold d_ at h
 split at h
 ·rename_i a0
  obtain⟨t,rfl,h1,h2,hk⟩:=h
  exact⟨_,_,_,.pure _ rfl (LJ t h1 h2),hk⟩
 ·exact h.elim
theorem PL(t:aD)(ho:Y.One t)(hl:t.length≤1000000):ai Tryz.prog 75 [ay t] [] (jQ (bE t)) []:=by
 obtain⟨n,r,ps,hv,hm,hp,hfl,hps,hpo,hmn,Fy⟩:=mO t ho
 have hg0:t[0]?=some n:=by rw[hv];rfl
 have hr:bE t=if n.kind=2 then ps.map Y.nameOf else []:=by rw[hv,bE,hpo]
 have hd1:t.drop 1=r:=by rw[hv];rfl
 have hrl:r.length+1=t.length:=by rw[hv];rfl
 have hpl:=Y.bD _ _ _ hp
 refine Cc.aX (T:=aR Tryz.prog [(31,fM)]) 1 hD (aj (af nX ah)) aV (by decide) λQ hQ=>?_
 (conv=>arg 4;cbv);simp (maxSteps:=400000) only[↓ak,au,BEq.rfl,seval,hQ]
 refine aF (λm S=>∃(i ver:Nat) (done:List (List UInt8)) (rest:List aD),m=rest.length∧(done=[]∨n.kind=2)∧done.length+rest.length=ps.length∧done++rest.map Y.nameOf=ps.map Y.nameOf∧Y.parts rest.length (t.drop i)=some rest∧
  S=⟨dG 34 [(0,ay t),(3,.bO 0 ver),(4,.int .i64 i),(5,.int .i64 done.length)],[⟨9,1,done.map .str,true,ver⟩]⟩) ps.length ⟨1,1,[],ps,rfl,.inl rfl,by simp,rfl,by rw[hd1,hpl];exact hp,?_⟩ ?_
 ·simp only[bN,keepR,Nat.reduceAdd,lJ,Nat.reduceBEq,map_nil]
  rfl
 rintro m S ⟨i,ver,done,rest,rfl,hdn,hdl,hdr,hrp,rfl⟩
 have ef:eZ 1 0 [⟨9,1,done.map .str,true,ver⟩] (.bO 0 ver)=jQ done:=by
  have:(done.map PV.str).map (PV.bL (gX 0 0 [⟨9,1,done.map .str,true,ver⟩]))=done.map PV.str:=by
   rw[map_map];exact List.map_congr_left λx _=>rfl
  simp only[eZ,Nat.not_lt_zero,if_false,gX,List.getElem?_cons_zero,Nat.le_refl,decide_true,Bool.true_and,beq_self_eq_true,if_true,this]
  rfl
 cases rest with
 | nil=>
  simp only[length_nil,Nat.add_zero]at hdl
  have hlt:((done.length:Int)<(ps.length:Int))=False:=eq_false (by omega)
  simp only[map_nil,List.append_nil]at hdr
  have hres:bE t=done:=by
   rw[hr]
   split
   ·exact hdr.symm
   ·rename_i h1;exact (hdn.resolve_right h1).symm
  simp (maxSteps:=400000) only[↓ak,au,BEq.rfl,seval,hQ,hg0,hmn,hlt,ef,hres]
 | cons p qs=>
  obtain⟨c,qs',h1,h2,h3⟩:=Y.d9 (k:=qs.length) hrp
  simp only[List.cons.injEq]at h2
  obtain⟨hp1,rfl⟩:=h2
  simp only[length_cons]at hdl
  have hlt:((done.length:Int)<(ps.length:Int))=True:=eq_true (by omega)
  by_cases hk:n.kind=2
  rotate_left 1
  ·have hk':=eq_false hk
   have hd:=hdn.resolve_right hk
   have hres:bE t=done:=by rw[hr,if_neg hk,hd]
   simp (maxSteps:=400000) only[↓ak,au,BEq.rfl,seval,hQ,hg0,hmn,hlt,hk',ef,hres]
  rw[if_pos hk]at hr
  have hc:=Y.dS _ _ _ h1
  simp only[length_drop]at hc
  have hnx:rR t i=(i+c:Nat):=yP (Y.nP _ _ _ _ h1 (by omega))
  have zi:(0≤(i:Int))=True:=eq_true (by omega)
  have hil:i<t.length:=by omega
  have hgi:=List.getElem?_eq_getElem hil
  have hdi:=List.drop_eq_getElem_cons hil
  generalize t[i]=pn at hgi hdi
  have hname:Y.nameOf p=pn.name:=by
   obtain⟨w,hw⟩:∃w,c=w+1:=⟨c-1,by omega⟩
   rw[hp1,hdi,hw];rfl
  simp (maxSteps:=400000) only[↓ak,au,BEq.rfl,seval,hQ,hg0,hmn,hlt,hk,↓fM,Int.toNat_natCast,hnx,zi,hgi]
  refine⟨by omega,by omega,by omega,hl,⟨by omega,by omega⟩,qs.length,by omega,i+c,ver+1,done++[pn.name],qs,rfl,by simp only[List.length_append,length_cons,length_nil];omega,by rw[←hdr,List.map_cons,hname];simp,by rw[←List.drop_drop];exact h3,by simp⟩
def wR:dD:=λargs objs K=>match args with
 | [a0]=>dZ ay a0 (HK.mk:HK λt=>(Y.One t)∧(t.length≤1000000)∧K (jQ (bE t)) objs 0)
 | _=>False
theorem LK:aC Tryz.prog 75 (wR):=by
 intro args objs K h
 unfold wR at h
 split at h
 ·rename_i a0
  obtain⟨t,rfl,h1,h2,hk⟩:=h
  exact⟨_,_,_,.pure _ rfl (PL t h1 h2),hk⟩
 ·exact h.elim
theorem Tv(a b:aD)(ha:a.length≤1000000)(hb:b.length≤1000000):ai Tryz.prog 13 [ay a,ay b] [] (.bool (decide (a=b))) []:=by
 refine Ea.aX (T:=aR Tryz.prog []) 0 hD (aj ah) aV (by decide) λQ hQ=>?_
 by_cases hl:a.length=b.length
 rotate_left 1
 ·have hl':((a.length:Int)=(b.length:Int))=False:=eq_false (by omega)
  have hr:decide (a=b)=false:=decide_eq_false λh=>hl (by rw[h])
  (conv=>arg 4;cbv);simp (maxSteps:=400000) only[↓ak,au,BEq.rfl,seval,hQ,hl',hr]
 have hl':((a.length:Int)=(b.length:Int))=True:=eq_true (by omega)
 (conv=>arg 4;cbv);simp (maxSteps:=400000) only[↓ak,au,BEq.rfl,seval,hQ,hl']
 refine aF (λm S=>∃i:Nat,i+m=a.length∧(∀j,j<i→a[j]?=b[j]?)∧S=⟨dG 26 [(0,ay a),(1,ay b),(5,.int .i64 i)],[]⟩) a.length ⟨0,by omega,λj h=>absurd h (by omega),?_⟩ ?_
 ·simp only[bN,keepR,Nat.reduceAdd,lJ,Nat.reduceBEq,map_nil]
  rfl
 rintro m S ⟨i,him,hj,rfl⟩
 have zi:(0≤(i:Int))=True:=eq_true (by omega)
 rcases Nat.lt_or_ge i a.length with h | h
 rotate_left 1
 ·have hlt:((i:Int)<(a.length:Int))=False:=eq_false (by omega)
  have hab:a=b:=List.ext_getElem? λj=>by
   by_cases hji:j<i
   ·exact hj j hji
   ·rw[List.getElem?_eq_none (by omega),List.getElem?_eq_none (by omega)]
  have hr:decide (a=b)=true:=decide_eq_true hab
  simp (maxSteps:=400000) only[↓ak,au,BEq.rfl,seval,hQ,hlt,hr]
 have hlt:((i:Int)<(a.length:Int))=True:=eq_true (by omega)
 have ga:=List.getElem?_eq_getElem h
 have gb:b[i]?=some (b[i]'(by omega)):=List.getElem?_eq_getElem (by omega)
 generalize a[i]=x at ga
 generalize b[i]'(by omega)=y at gb
 by_cases hxy:x=y
 ·have hxy':(x=y)=True:=eq_true hxy
  simp (maxSteps:=400000) only[↓ak,au,BEq.rfl,seval,hQ,hlt,zi,ga,gb,ag5,hxy']
  refine⟨⟨by omega,by omega⟩,m-1,by omega,i+1,by omega,?_,by simp⟩
  intro j hji
  by_cases hjj:j=i
  ·subst hjj;rw[ga,gb,hxy]
  ·exact hj j (by omega)
 ·have hxy':(x=y)=False:=eq_false hxy
  have hr:decide (a=b)=false:=decide_eq_false λh=>hxy (by rw[h,gb]at ga;exact (Option.some.inj ga).symm)
  simp (maxSteps:=400000) only[↓ak,au,BEq.rfl,seval,hQ,hlt,zi,ga,gb,ag5,hxy',hr]
def zW:dD:=λargs objs K=>match args with
 | [a0,a1]=>dZ ay a0 (HK.mk:HK λa=>dZ ay a1 (HK.mk:HK λb=>(a.length≤1000000)∧(b.length≤1000000)∧K (.bool (decide (a=b))) objs 0))
 | _=>False
theorem PN:aC Tryz.prog 13 (zW):=by
 intro args objs K h
 unfold zW at h
 split at h
 ·rename_i a0 a1
  obtain⟨a,rfl,b,rfl,h1,h2,hk⟩:=h
  exact⟨_,_,_,.pure _ rfl (Tv a b h1 h2),hk⟩
 ·exact h.elim
end Lp
namespace Lp
open Go Go.Proofs
end Lp
namespace Lp
open Go Go.Proofs
open List (length_cons length_map mem_cons_of_mem)
structure yQ (t:aD):Prop where
 rt:oC bA cO t
 len:t.length≤100000
 cs:∀n∈t,n.c.s.length≤500000
 nm:∀n∈t,n.name.length≤4611686018427387904
theorem yQ.part {n:dR}{r:aD}(h:yQ (n::r)):∀p∈ax (n::r),yQ p∧p.length≤r.length:=by
 intro p hp
 have h1:=h.rt.part p hp
 have hl:=h.len
 simp only[length_cons]at hl
 refine⟨⟨h1.1,by omega,?_,?_⟩,h1.2⟩
 all_goals
  by_cases hk:n.kind=1
  ·simp only[ax,hk,if_true]at hp;cases hp
  simp only[ax,hk,if_false]at hp
  obtain⟨_,_,ps,h3,h4,_⟩:=h.rt.parts
  rw[dN h3]at hp
  obtain⟨q,hq,rfl⟩:=List.mem_map.1 hp
  have hr:∀x∈q,x∈r:=λx hx=>by rw[←h4];exact List.mem_flatten.2 ⟨q,hq,hx⟩
  intro x hx
  cases q with
  | nil=>cases hx
  | cons y z=>
   rcases List.mem_cons.1 hx with rfl | hx
   ·first
      | exact h.cs y (mem_cons_of_mem _ (hr y (List.mem_cons_self ..)))
      | exact Nat.zero_le _
   ·first
      | exact h.cs x (mem_cons_of_mem _ (hr x (mem_cons_of_mem _ hx)))
      | exact h.nm x (mem_cons_of_mem _ (hr x (mem_cons_of_mem _ hx)))
theorem yQ.atoms {n:dR}{r:aD}(h:yQ (n::r))(hk:n.kind=1):(0≤n.n∧n.n≤31)∧(bI (n::r)).length≤100000∧(∀a∈bI (n::r),fE a.c)∧(∀a∈bI (n::r),a.c.s.length≤500000):=by
 obtain⟨ps,p1,p2,p3,p4,p5,p6,p7⟩:=XR (i:=0) h.rt rfl hk
 have hl:=h.len
 simp only[length_cons,List.drop_succ_cons,List.drop_zero]at hl p1 p2 p4
 have ha:bI (n::r)=ps.flatten.map iW:=by simp only[bI,hk,if_true,p2]
 have hm:∀x∈ps.flatten,x∈r:=λx hx=>by rw[p2]at hx;exact List.mem_of_mem_take hx
 have hs:∀a∈bI (n::r),a.c.s.length≤500000:=λa h'=>by
  rw[ha]at h'
  obtain⟨x,hx,rfl⟩:=List.mem_map.1 h'
  exact h.cs x (mem_cons_of_mem _ (hm x hx))
 refine⟨⟨by omega,by omega⟩,?_,λa h'=>?_,hs⟩
 ·rw[ha,length_map,p2,List.length_take];omega
 ·have h2:=hs a h'
  rw[ha]at h'
  obtain⟨x,hx,rfl⟩:=List.mem_map.1 h'
  exact Nt (p7 x hx) h2
theorem ack(l:List Vl)(ver:Nat)(t:TypeId)(rest:List Obj):eZ 1 0 (⟨t,1,l.map aJ,true,ver⟩::rest) (.bO 0 ver)=iq l:=by
 have:(l.map aJ).map (PV.bL (gX 0 0 (⟨t,1,l.map aJ,true,ver⟩::rest)))=l.map aJ:=by
  rw[List.map_map];exact List.map_congr_left λx _=>rfl
 simp only[eZ,Nat.not_lt_zero,if_false,gX,List.getElem?_cons_zero,Nat.le_refl,decide_true,Bool.true_and,beq_self_eq_true,if_true,this]
 rfl
theorem Tw{n:dR}{r:aD}(h:yQ (n::r)):(ax (n::r)).length≤100000∧((ax (n::r)).map Bg).flatten.length≤100000:=by
 have h1:=sK h.rt
 have hl:=h.len
 simp only[length_cons]at hl
 have:∀qs:List aD,(∀q∈qs,(Bg q).length≤q.length)→(qs.map Bg).flatten.length≤qs.flatten.length:=by
  intro qs
  induction qs with
  | nil=>intro _;simp
  | cons a t ih=>
   intro hq
   have h1:=hq a (List.mem_cons_self ..)
   have h2:=ih λq hx=>hq q (mem_cons_of_mem _ hx)
   simp only[List.map_cons,List.flatten_cons,List.length_append];omega
 have h2:=this _ λq hq=>(aaG (h.rt.part q hq).1).1
 omega
theorem yQ.names {n:dR}{r:aD}(h:yQ (n::r)):(bE (n::r)).length≤100000∧∀s∈bE (n::r),s.length≤4611686018427387904:=by
 have hl:=h.len
 simp only[length_cons]at hl
 by_cases hk:n.kind=2
 ·obtain⟨_,_,ps,h3,h4,_⟩:=h.rt.parts
  have e:bE (n::r)=ps.map Y.nameOf:=by simp only[bE,hk,if_true,dN h3]
  have h1:=sK h.rt
  have e2:ax (n::r)=ps.map Y.ic:=by simp only[ax,hk,dN h3];rfl
  rw[e2,length_map]at h1
  rw[e]
  refine⟨by rw[length_map];omega,λs hs=>?_⟩
  obtain⟨q,hq,rfl⟩:=List.mem_map.1 hs
  cases q with
  | nil=>exact Nat.zero_le _
  | cons y z=>exact h.nm y (mem_cons_of_mem _ (by rw[←h4];exact List.mem_flatten.2 ⟨_,hq,List.mem_cons_self ..⟩))
 ·have e:bE (n::r)=[]:=by simp[bE,hk]
  rw[e];exact⟨Nat.zero_le _,λs hs=>by cases hs⟩
end Lp
namespace Lp
open Go Go.Proofs
open List (length_cons length_drop length_nil nil_append tail_drop)
open Nat (reduceAdd reduceSub)
theorem PO(v:aD)(i c:Nat)(hv:v.length≤4611686018427387904)(h:Y.skip (v.drop i) 1=some c):ai Tryz.prog 94 [ay v,.int .i64 i] [] (.int .i64 (i+c:Nat)) []:=by
 refine SN.pure (T:=aR Tryz.prog []) 0 hD (aj ah) aV (by decide) ?_
 (conv=>arg 4;cbv);simp only[↓Bq,Gf,↓CY,↓Af,↓CZ,Ag,↓nN,oh,jZ,fU,Fg,reduceAdd,reduceSub,sG,bS,Ik,Il,yo]
 refine aF (λm S=>∃(j k c':Nat),m=c'∧Y.skip (v.drop j) k=some c'∧j+c'=i+c∧S=⟨mkT 19 [(0,ay v),(1,.int .i64 j),(5,.int .i64 k)],[]⟩) c ⟨i,1,c,rfl,h,rfl,?_⟩ ?_
 ·simp only[Uq,ay,sG];rfl
 rintro m S ⟨j,k,c',rfl,hs,hj,rfl⟩
 simp only[↓Bq,Gf,↓CY,↓Af,↓CZ,Ag,↓nN,oh,jZ,fU,Fg,reduceAdd,reduceSub,sG,Uq,bS,ay,aP,Ik,Il,yo,bC,fQ,aK,eu,↓AU,↓M9,KH,uP,G8,Jz,Bool.not_false,Bool.and_self,Nat.reduceLeDiff,forall_const,ne_eq,reduceCtorEq,not_false_eq_true,true_and,PV.bool.injEq,Int.toNat_natCast,Nat.zero_add,decide_eq_true_eq,length_cons,length_nil]
 refine⟨λhk=>?_,λhk=>?_⟩
 ·obtain⟨k,rfl⟩:∃k',k=k'+1:=⟨k-1,by omega⟩
  have hjl:j<v.length:=by
   rcases Nat.lt_or_ge j v.length with h' | h'
   ·exact h'
   ·rw[List.drop_eq_nil_of_le h']at hs;simp[Y.skip]at hs
  rw[List.drop_eq_getElem_cons hjl]at hs
  obtain⟨hm,c'',rfl,hs'⟩:=Y.dF hs
  have hle:=Y.dS _ _ _ hs'
  simp only[length_drop]at hle
  have hk2:((k+1:Nat):Int)+(v[j].many-1)=((k+v[j].many.toNat:Nat):Int):=by omega
  exact⟨by omega,v[j],List.getElem?_eq_getElem hjl,by omega,by omega,by omega,c'',by omega,j+1,k+v[j].many.toNat,c'',rfl,hs',by omega,by rw[hk2];rfl⟩
 ·rw[if_pos trivial]
  have hk0:k=0:=by have:=of_decide_eq_false hk;omega
  subst hk0
  have:m=0:=by cases hd:v.drop j<;>rw[hd]at hs<;>simp[Y.skip]at hs<;>exact hs.symm
  subst this
  congr 1;omega
def xL(v:aD):Obj:=⟨51,11,v.map aP,true,0⟩
theorem yR(v:aD):fI [xL v]:=by
 intro o ho x hx p hp
 simp only[List.mem_singleton]at ho
 subst ho
 simp only[xL,List.mem_map]at hx
 obtain⟨n,_,rfl⟩:=hx
 simp only[aP,PV.cells,List.mem_cons,List.not_mem_nil,or_false]at hp
 rcases hp with rfl | rfl | rfl | rfl | rfl | rfl | rfl | rfl | rfl | rfl | rfl<;>rfl
theorem Ww(n:dR):(aP n).cells.length=11∧(aP n).cells.all PV.storable=true:=⟨rfl,rfl⟩
theorem acn(d n:Nat)(objs:List Obj)(v:aD):(v.map aP).map (PV.bL (eZ d n objs))=v.map aP:=by
 rw[List.map_map]
 exact List.map_congr_left λx _=>rfl
theorem Wx:ai Tryz.prog 28 [.sl 11 [] (some true)] [] (.bO 0 0) [xL []]:=by
 refine jB.made (T:=aR Tryz.prog []) 0 hD (aj ah) aV ?_
 (conv=>arg 4;cbv);simp only[↓Bq,Gf,↓CY,↓Af,↓CZ,Ag,↓nN,Gg,Fg,reduceAdd,reduceSub,sG,Uq,bS,Ik,Il,yo,eP,forall_const,reduceCtorEq,false_imp_iff,and_true,TK.slice.injEq,exists_eq',true_and]
 exact⟨_,0,0,_,Weak.Gb 2 51 11 rfl,rfl,rfl,rfl,rfl,rfl,yR []⟩
theorem Tx(v:aD)(hv:v.length≤1099511627776):ai Tryz.prog 28 [.sl 11 (v.map aP) (some false)] [] (.bO 0 0) [xL v]:=by
 refine jB.made (T:=aR Tryz.prog []) 0 hD (aj ah) aV ?_
 (conv=>arg 4;cbv);simp only[↓Bq,Gf,↓CY,↓Af,↓CZ,Ag,↓nN,Gg,Fg,reduceAdd,reduceSub,sG,Uq,bS,Ik,Il,yo,eP,forall_const,reduceCtorEq,false_imp_iff,and_true,TK.slice.injEq,exists_eq',true_and]
 simp only[bW,eB,nE,newObj,jq,bS,ne_eq,reduceCtorEq,not_false_eq_true,true_and,if_true,List.all_nil,Nat.zero_mul,Nat.zero_le,nil_append,length_nil,List.getElem?_cons_zero,Option.some.injEq]
 refine⟨rfl,rfl,rfl,rfl,?_,_,rfl,rfl,rfl,rfl,rfl,?_,?_,λ_ _ h=>h.elim,_,0,2,_,Weak.refl _ _,rfl,rfl,rfl,rfl,?_,yR v⟩
 ·intro y hy
  obtain⟨n,_,rfl⟩:=List.mem_map.1 hy
  exact Ww n
 ·simp;omega
 ·simp;omega
 ·simp only[f_,xL,List.replicate_zero,nil_append,acn]
theorem Tz(v:aD)(hv:v.length≤1099511627776):ai Tryz.prog 28 [ay v] [] (.bO 0 0) [xL v]:=
 ai.split (pre:=[]) (post:=[]) (λh=>by
  have:v=[]:=by simpa using h
  subst this
  exact Wx) (Tx v hv)
theorem Wy(t:aD)(i:Int)(h0:0≤i)(hi:i.toNat<t.length)(hl:t.length≤1000000)(ho:Y.One t):ai Tryz.prog 94 [ay t,.int .i64 i] [] (.int .i64 (i.toNat+(Y.qc t i.toNat).length:Nat)) []:=by
 obtain⟨c,hc⟩:=ho.at hi
 have hle:=Y.dS _ _ _ hc
 rw[length_drop]at hle
 have hs:(Y.qc t i.toNat).length=c:=by unfold Y.qc;rw[hc];simp only[List.length_take,length_drop];omega
 have:=PO t i.toNat c (by omega) hc
 rw[Int.toNat_of_nonneg h0]at this
 rw[hs]
 exact this
def rZ:dD:=λargs objs K=>match args with
 | [a0,.int .i64 i]=>dZ ay a0 (HK.mk:HK λt=>(0≤i)∧(i.toNat<t.length)∧(t.length≤1000000)∧(Y.One t)∧K (.int .i64 (i.toNat+(Y.qc t i.toNat).length:Nat)) objs 0)
 | _=>False
theorem LM:aC Tryz.prog 94 (rZ):=by
 intro args objs K h
 unfold rZ at h
 split at h
 ·rename_i a0 i
  obtain⟨t,rfl,h1,h2,h3,h4,hk⟩:=h
  exact⟨_,_,_,.pure _ rfl ((Wy t i h1 h2 h3 h4)),hk⟩
 ·exact h.elim
def jV:Nat→List aD→List (List PV)
 | _,[]=>[]
 | i,p::ps=>[.int .i64 i,.int .i64 (i+p.length:Nat)]::jV (i+p.length) ps
theorem vD:∀(ps:List aD) (i:Nat),(jV i ps).length=ps.length
 | [],_=>rfl
 | p::ps,i=>by simp only[jV,length_cons,vD ps]
theorem FP:∀(ps:List aD) (i:Nat),∀y∈jV i ps,y.length=2
 | [],_,y,h=>by cases h
 | p::ps,i,y,h=>by
  rcases List.mem_cons.1 h with rfl | h
  ·rfl
  ·exact FP ps _ y h
theorem WA(t:aD):ai Tryz.prog 63 [ay t] [] (.fn 93 [] [.addr (ay t)]) []:=by
 refine ZN.pure (T:=aR Tryz.prog []) 1 hD (aj ah) aV (by decide) ?_
 (conv=>arg 4;cbv);simp only[↓Bq,Gf,↓CY,↓Af,↓CZ,Ag,↓nN,oh,jZ,fU,reduceAdd,reduceSub,sG,bS,KN,kH,newObj,ay,G8,Jz,ne_eq,reduceCtorEq,not_false_eq_true,true_and,length_cons,length_nil,nil_append]
 exact⟨rfl,rfl,rfl⟩
def vE:dD:=λargs objs K=>match args with
 | [a0]=>dZ ay a0 (HK.mk:HK λt=>K (.fn 93 [] [.addr (ay t)]) objs 0)
 | _=>False
theorem GA:aC Tryz.prog 63 (vE):=by
 intro args objs K h
 unfold vE at h
 split at h
 ·rename_i a0
  obtain⟨t,rfl,hk⟩:=h
  exact⟨_,_,_,.pure _ rfl (WA t),hk⟩
 ·exact h.elim
theorem GD(t:aD)(n:dR)(ps:List aD)(ho:Y.One t)(hl:t.length≤1000000)(hg0:t[0]?=some n)(hp:Y.parts n.many.toNat (t.drop 1)=some ps)(hm:0≤n.many) :
  Gives Tryz.prog 93 [.addr (ay t)] (if n.kind=1 then [] else jV 1 ps):=by
 refine SQ.gives (fnT:=uO [(94,rZ)]) hD (af LM ah) aV ?_
 intro I J objs y hI KY hJl
 have hpl:=Y.bD _ _ _ hp
 have Fy:=Y.fu _ _ _ hp
 rw[length_drop]at Fy
 have hmn:n.many=(ps.length:Int):=by omega
 (conv=>arg 4;cbv);simp (maxSteps:=400000) only[↓ak,au,BEq.rfl,seval,hg0]
 refine aF (λm S=>∃(k i:Nat) (O:List Obj) (rest:List aD),k+rest.length=ps.length∧m=rest.length∧Y.parts rest.length (t.drop i)=some rest∧ps.drop k=rest∧(jV 1 ps).drop k=jV i rest∧(if n.kind=1 then O=objs else I k O)∧
  S=⟨dG 28 [(0,.H7 y),(1,.addr (ay t)),(3,.int .i64 i),(8,.int .i64 n.many),(9,.int .i64 k)],O⟩) ps.length ⟨0,1,objs,ps,by omega,rfl,by rw[hpl];exact hp,rfl,rfl,by split;rfl;exact hI,?_⟩ ?_
 ·simp only[bN,keepR,reduceAdd,lJ,Nat.reduceBEq,List.map_nil]
  rfl
 rintro m S ⟨k,i,O,rest,hk,rfl,hps,hd,hrw,Zc,rfl⟩
 cases rest with
 | nil=>
  simp only[length_nil,Nat.add_zero]at hk
  have hlt:((k:Int)<(ps.length:Int))=False:=eq_false (by omega)
  simp (maxSteps:=400000) only[↓ak,au,BEq.rfl,seval,hmn,hlt]
  refine⟨.inl rfl,.inl ?_⟩
  by_cases h1:n.kind=1
  ·rw[if_pos h1]at Zc ⊢;rw[Zc];exact hI
  ·rw[if_neg h1]at Zc ⊢;rw[vD,←hk];exact Zc
 | cons p qs=>
  simp only[length_cons]at hk
  obtain⟨c,qs',h1,h2,h3⟩:=Y.d9 (k:=qs.length) hps
  simp only[List.cons.injEq]at h2
  obtain⟨hp1,rfl⟩:=h2
  have hc:=Y.dS _ _ _ h1
  simp only[length_drop]at hc
  have hlt:((k:Int)<(ps.length:Int))=True:=eq_true (by omega)
  have hpc:p.length=c:=by rw[hp1,List.length_take,length_drop];omega
  have hsub:(Y.qc t i).length=c:=by
   have e:Y.qc t i=p:=by unfold Y.qc;rw[h1];exact hp1.symm
   rw[e,hpc]
  have zi:(0≤(i:Int))=True:=eq_true (by omega)
  by_cases hk1:n.kind=1
  ·have V3:=eq_true hk1
   simp (maxSteps:=400000) only[↓ak,au,BEq.rfl,seval,hmn,hlt,↓rZ,Int.toNat_natCast,hsub,hg0,V3]
   rw[if_pos hk1]at Zc
   have e1:(jV 1 ps).drop (k+1)=jV (i+c) qs:=by
    have:=congrArg List.tail hrw
    simpa[jV,tail_drop,hpc] using this
   have e2:ps.drop (k+1)=qs:=by
    have:=congrArg List.tail hd
    simpa[tail_drop] using this
   exact⟨by omega,by omega,hl,ho,⟨by omega,by omega⟩,qs.length,by omega,k+1,i+c,O,qs,by omega,rfl,by rw[←List.drop_drop];exact h3,e2,e1,Zc,by rw[Int.natCast_add k 1];rfl⟩
  ·have V3:=eq_false hk1
   simp (maxSteps:=400000) only[↓ak,au,BEq.rfl,seval,hmn,hlt,↓rZ,Int.toNat_natCast,hsub,hg0,V3,Yof]
   have e1:(jV 1 ps).drop (k+1)=jV (i+c) qs:=by
    have:=congrArg List.tail hrw
    simpa[jV,tail_drop,hpc] using this
   have e2:ps.drop (k+1)=qs:=by
    have:=congrArg List.tail hd
    simpa[tail_drop] using this
   have e3:(jV 1 ps)[k]?=some [.int .i64 (i:Int),.int .i64 (i+c:Nat)]:=by
    have:=congrArg (λl=>l[0]?) hrw
    simpa[jV,hpc] using this
   rw[if_neg hk1]at Zc
   exact⟨by omega,by omega,hl,ho,rfl,k,Zc,e3,λO' hI'=>⟨⟨by omega,by omega⟩,qs.length,by omega,k+1,i+c,O',qs,by omega,rfl,by rw[←List.drop_drop];exact h3,e2,e1,hI',by rw[Int.natCast_add k 1];rfl⟩,
    λO' hJ'=>⟨.inr rfl,.inr ⟨k,by rw[vD];omega,hJ'⟩⟩⟩
end Lp
namespace Lp
open Go Go.Proofs
open List (mem_singleton)
def jP:dD:=λargs objs K=>match args with
 | [a]=>dZ ay a (HK.mk:HK λt=>t.length≤1000000∧K (.bO objs.length 0) (objs++[xL t]) 2)
 | _=>False
theorem wS:aC Tryz.prog 28 jP:=by
 intro args objs K h
 unfold jP at h
 split at h
 ·rename_i a
  obtain⟨t,rfl,hv,hk⟩:=h
  have h:=nJ.made (P:=Tryz.prog) (objs:=objs) _ _ rfl (yR t) (Tz t (by omega))
  exact⟨_,_,_,h,by simpa[PV.shift,PV.rq] using hk⟩
 ·exact h.elim
theorem FQ(t:aD):∀(ps:List aD) (i0 k:Nat) (args:List PV),ps.flatten=(t.drop i0).take ps.flatten.length→(jV i0 ps)[k]?=some args→
  ∃p o,ps[k]?=some p∧args=[.int .i64 (o:Nat),.int .i64 (o+p.length:Nat)]∧(t.drop o).take p.length=p
 | [],i0,k,args,_,h=>by simp[jV]at h
 | p::ps,i0,0,args,hf,h=>by
  simp only[jV,List.getElem?_cons_zero,Option.some.injEq]at h
  refine⟨p,i0,rfl,h.symm,?_⟩
  have:=congrArg (List.take p.length) hf
  simp only[List.flatten_cons,List.take_left,List.length_append]at this
  rw[List.take_take,Nat.min_eq_left (by omega)]at this
  exact this.symm
 | p::ps,i0,k+1,args,hf,h=>by
  simp only[jV,List.getElem?_cons_succ]at h
  have:=congrArg (List.drop p.length) hf
  simp only[List.flatten_cons,List.drop_left,List.length_append]at this
  rw[List.drop_take,List.drop_drop,Nat.add_sub_cancel_left]at this
  obtain⟨q,o,h1,h2,h3⟩:=FQ t ps (i0+p.length) k args this h
  exact⟨q,o,by simpa using h1,h2,h3⟩
def Ar(t:aD):Obj:=⟨23,1,[ay t],true,1⟩
def Hw(t:aD):List aD→Nat→List Obj
 | [],_=>[Ar t,⟨54,1,[.sl 0 [] (some true)],true,1⟩]
 | p::ps,v=>[Ar t,⟨54,1,[.bO 2 v],true,1⟩,xK (p::ps) v]
theorem adS(t:aD)(l:List aD)(v:Nat):2≤(Hw t l v).length∧kL (Hw t l v):=by
 cases l with
 | nil=>
  refine⟨by simp[Hw],?_⟩
  intro o ho x hx c hc
  simp only[Hw,Ar,List.mem_cons,List.not_mem_nil,or_false]at ho
  rcases ho with rfl | rfl
  ·simp only[mem_singleton]at hx;subst hx
   simp only[ay,PV.cells,mem_singleton]at hc;subst hc;rfl
  ·simp only[mem_singleton]at hx;subst hx
   simp only[PV.cells,mem_singleton]at hc;subst hc;rfl
 | cons p ps=>
  refine⟨by simp[Hw],?_⟩
  intro o ho x hx c hc
  simp only[Hw,Ar,xK,List.mem_cons,List.not_mem_nil,or_false]at ho
  rcases ho with rfl | rfl | rfl
  ·simp only[mem_singleton]at hx;subst hx
   simp only[ay,PV.cells,mem_singleton]at hc;subst hc;rfl
  ·simp only[mem_singleton]at hx;subst hx
   simp only[PV.cells,mem_singleton]at hc;subst hc;simp[Hw,PV.xG]
  ·simp only[List.mem_map]at hx
   obtain⟨y,_,rfl⟩:=hx
   simp only[ay,PV.cells,mem_singleton]at hc;subst hc;rfl
theorem aco(x:dR)(q:aD):(xL (x::q)).live=true∧(xL (x::q)).ver=0∧(xL (x::q)).sz=11∧(xL (x::q)).ty=51∧(xL (x::q)).xs=aP x::q.map aP:=⟨rfl,rfl,rfl,rfl,rfl⟩
theorem adT(l:List aD)(v:Nat):(xK l v).live=true∧(xK l v).ver=v∧(xK l v).sz=1∧(xK l v).ty=23∧(xK l v).xs=l.map ay:=⟨rfl,rfl,rfl,rfl,rfl⟩
theorem PS(k:Nat)(X:List Obj)(x:dR)(q:aD)(ver:Nat)(t:TypeId)(h:X[k]?=some ⟨t,11,aP x::q.map aP,true,ver⟩):eZ 1 k X (.bO k ver)=ay (x::q):=by
 have e:(aP x::q.map aP).map (PV.bL (gX 0 k X))=aP x::q.map aP:=Em (gX 0 k X) (λ_=>rfl) (x::q)
 simp only[eZ,Nat.lt_irrefl,if_false,gX,h,Nat.le_refl,decide_true,Bool.true_and,beq_self_eq_true,if_true,e]
 rfl
theorem acp(a b:Obj)(D:List aD)(ver:Nat):eZ 2 0 [a,b,xK D ver] (.bO 2 ver)=dh D:=by
 simp only[xK,eZ,Nat.not_lt_zero,if_false,gX,List.getElem?_cons_succ,List.getElem?_cons_zero,Nat.zero_le,decide_true,Bool.true_and,beq_self_eq_true,if_true,zV (gX 1 0 _) (λ_=>rfl)]
 rfl
theorem Ke :
  (∀d X v i f,eZ d 2 X (.bP 1 v i f)=.bP 1 v i f)∧(∀d X v i f,eZ d 3 X (.bP 1 v i f)=.bP 1 v i f)∧
  (∀d n X T t u,f_ d n X ⟨T,1,[ay t],true,u⟩=⟨T,1,[ay t],true,u⟩)∧
  (∀d n X T u,f_ d n X ⟨T,1,[.sl 0 [] (some true)],true,u⟩=⟨T,1,[.sl 0 [] (some true)],true,u⟩)∧
  (∀d X T v u,f_ d 3 X ⟨T,1,[.bO 2 v],true,u⟩=⟨T,1,[.bO 2 v],true,u⟩)∧
  (∀d n X l v,f_ d n X (xK l v)=xK l v):=
 ⟨λ_ _ _ _ _=>rfl,λ_ _ _ _ _=>rfl,λ_ _ _ _ _ _=>rfl,λ_ _ _ _ _=>rfl,λ_ _ _ _ _=>rfl,λd n X l v=>Kc d n X 23 l v⟩
def ae0(l:List aD):PV:=if l=[] then .sl 0 [] (some true) else dh l
theorem LP(t:aD)(ho:Y.One t)(hl:t.length≤1000000):ai Tryz.prog 52 [ay t] [] (ae0 (ax t)) []:=by
 obtain⟨n,r,ps,hv,hm,hp,hfl,hps,hpo,hmn,Fy⟩:=mO t ho
 have hg0:t[0]?=some n:=by rw[hv];rfl
 have hd1:t.drop 1=r:=by rw[hv];rfl
 have hrl:r.length+1=t.length:=by rw[hv];rfl
 have hr:ax t=if n.kind=1 then [] else ps.map Y.ic:=by rw[hv,ax,hpo]
 have hgv:=GD t n ps ho hl hg0 (by rw[hd1];exact hp) hm
 refine VP.aX (T:=aR Tryz.prog [(63,vE),(28,jP)]) 2 hD (aj (af GA (af wS ah))) aV (by decide) λQ hQ=>?_
 (conv=>arg 4;cbv);simp (maxSteps:=400000) only[↓ak,au,BEq.rfl,seval,hQ,↓vE]
 obtain⟨qs,hqs,hrows⟩:∃qs:List aD,qs=(if n.kind=1 then [] else ps)∧(if n.kind=1 then [] else jV 1 ps)=jV 1 qs:=by
  by_cases h1:n.kind=1
  ·exact⟨[],by rw[if_pos h1],by rw[if_pos h1];rfl⟩
  ·exact⟨ps,by rw[if_neg h1],by rw[if_neg h1]⟩
 have hr':ax t=qs.map Y.ic:=by
  rw[hr,hqs];split<;>rfl
 have hqf:qs.flatten=(t.drop 1).take qs.flatten.length:=by
  rw[hqs];split
  ·rfl
  ·rw[hd1,hfl];simp
 have hql:qs.length≤t.length:=by
  rw[hqs];split
  ·simp
  ·omega
 have ahe:∀p∈qs,Y.One p:=by
  rw[hqs];split
  ·intro p h;cases h
  ·exact hps
 rw[hrows]at hgv
 clear hqs hrows hr
 refine UW 93 [.addr (ay t)] (jV 1 qs) (λi O=>∃ver,i≤qs.length∧O=Hw t ((qs.take i).map Y.ic) ver) rfl rfl rfl trivial hgv (FP qs 1) ⟨0,Nat.zero_le _,rfl⟩ ?_ ?_ ?_
 ·rintro i O ⟨ver,_,rfl⟩
  exact adS _ _ _
 ·rintro i args O ⟨ver,hi,rfl⟩ ha
  obtain⟨p,o,h1,rfl,h3⟩:=FQ t qs 1 i args hqf ha
  have hil:=(List.getElem?_eq_some_iff.1 h1).1
  have htk:(qs.take (i+1)).map Y.ic=(qs.take i).map Y.ic++[Y.ic p]:=by rw[List.take_add_one,h1];simp
  have ah6:=(ahe p (List.mem_of_getElem? h1)).ne
  obtain⟨x,q,hpx⟩:∃x q,p=x::q:=by
   cases p with
   | nil=>exact absurd rfl ah6
   | cons x q=>exact⟨x,q,rfl⟩
  have hxl:p.length=q.length+1:=by rw[hpx];rfl
  have hol:o+p.length≤t.length:=by
   have:=congrArg List.length h3
   rw[List.length_take,List.length_drop]at this
   omega
  have zo:(0≤(o:Int))=True:=eq_true (by omega)
  have c1:((o:Int)≤((o+p.length:Nat):Int))=True:=eq_true (by omega)
  have c2:(((o+p.length:Nat):Int)≤(t.length:Int))=True:=eq_true (by omega)
  have hsl:List.drop o (List.take (o+p.length) t)=p:=by rw[List.drop_take,show o+p.length-o=p.length by omega,h3]
  subst hpx
  simp only[List.length_cons]at c1 c2 hsl hol
  clear hxl
  cases hD:(qs.take i).map Y.ic with
  | nil=>
   unfold Hw Ar
   simp (maxSteps:=400000) only[↓ak,au,BEq.rfl,seval,hQ,rG,knI,↓jP,zo,c1,c2,hsl,aco,List.set_cons_zero]
   refine⟨by omega,by omega,?_⟩
   refine aN _ (Weak.freeze 1 2 ?_ _) ?_
   ·exact Nat.le_refl _
   have hz:∀a b:Obj,eZ 1 2 [a,b,⟨51,11,aP { x with name:=[] }::q.map aP,true,0⟩] (.bO 2 0)=ay ({ x with name:=[] }::q):=λa b=>PS 2 _ _ q 0 _ rfl
   simp (maxSteps:=400000) only[↓ak,au,BEq.rfl,seval,hQ,hz,Ke,List.take_succ_cons,List.take_zero]
   refine⟨1,by omega,?_⟩
   rw[htk,hD];rfl
  | cons d ds=>
   unfold Hw Ar
   simp (maxSteps:=400000) only[↓ak,au,BEq.rfl,seval,hQ,rG,knI,↓jP,zo,c1,c2,hsl,aco,List.set_cons_zero]
   refine⟨by omega,by omega,?_⟩
   refine aN _ (Weak.freeze 1 3 ?_ _) ?_
   ·exact (by decide:2≤3)
   have hz:∀a b c:Obj,eZ 1 3 [a,b,c,⟨51,11,aP { x with name:=[] }::q.map aP,true,0⟩] (.bO 3 0)=ay ({ x with name:=[] }::q):=λa b c=>PS 3 _ _ q 0 _ rfl
   have hdl:ds.length≤t.length:=by
    have:=congrArg List.length hD
    simp only[List.length_map,List.length_take,List.length_cons]at this
    omega
   simp (maxSteps:=400000) only[↓ak,au,BEq.rfl,seval,hQ,hz,Ke,adT,List.take_succ_cons,List.take_zero]
   refine⟨by omega,by omega,ver+1,by omega,?_⟩
   rw[htk,hD]
   simp only[List.cons_append,xK,List.map_cons,List.map_append,List.map_nil]
   rfl
 ·rintro O ⟨ver,_,rfl⟩
  rw[vD,List.take_length,←hr']
  cases hD:ax t with
  | nil=>
   unfold Hw Ar
   simp (maxSteps:=400000) only[↓ak,au,BEq.rfl,seval,hQ]
   rw[hD];rfl
  | cons d ds=>
   unfold Hw Ar
   simp (maxSteps:=400000) only[↓ak,au,BEq.rfl,seval,hQ]
   rw[hD]
   exact (acp _ _ _ _).symm
theorem PU(t:aD)(ho:Y.One t)(hl:t.length≤1000000):ai Tryz.prog 52 [ay t] [] (dh (ax t)) []:=by
 refine (LP t ho hl).res ?_
 unfold ae0
 split
 ·rename_i h;rw[h];exact lT 0 1
 ·exact .refl _
def lF:dD:=λargs objs K=>match args with
 | [a0]=>dZ ay a0 (HK.mk:HK λt=>(Y.One t)∧(t.length≤1000000)∧K (dh (ax t)) objs 0)
 | _=>False
theorem um:aC Tryz.prog 52 (lF):=by
 intro args objs K h
 unfold lF at h
 split at h
 ·rename_i a0
  obtain⟨t,rfl,h1,h2,hk⟩:=h
  exact⟨_,_,_,.pure _ rfl (PU t h1 h2),hk⟩
 ·exact h.elim
end Lp
namespace Lp
open Go Go.Proofs
theorem XY{n:Nat}{l m:List (Nat×PV)}(h:∀i,nu l i=nu m i):dG n l=dG n m:=
 zB (by simp[oP]) λi hi=>by rw[wm,if_pos hi,h]
theorem TA(t:aD)(n:dR)(hl:t.length≤1000000)(hg0:t[0]?=some n)(hm:0≤n.many)(hml:1+n.many.toNat≤t.length):ai Tryz.prog 101 [ay t,.int .i64 0] [] (bG (((t.drop 1).take n.many.toNat).map iW)) []:=by
 refine Pj.aX (T:=aR Tryz.prog []) 1 hD (aj ah) aV (by decide) λQ hQ=>?_
 have e1:(0:Int)+1=1:=rfl
 have e2:Int.toNat 1=1:=rfl
 have t1:(1+n.many).toNat=1+n.many.toNat:=by omega
 have c1:((1:Int)≤1+n.many)=True:=eq_true (by omega)
 have c2:(1+n.many≤(t.length:Int))=True:=eq_true (by omega)
 have hR:List.drop 1 (List.take (1+n.many.toNat) t)=(t.drop 1).take n.many.toNat:=by rw[List.drop_take];congr 1;omega
 have hRl:((t.drop 1).take n.many.toNat).length=n.many.toNat:=by rw[List.length_take,List.length_drop];omega
 (conv=>arg 4;cbv);simp (maxSteps:=400000) only[↓ak,au,BEq.rfl,seval,hQ,hg0,e1,e2,t1,c1,c2,hR]
 generalize (t.drop 1).take n.many.toNat=R at *
 refine⟨⟨by omega,by omega⟩,?_⟩
 refine M8 (hz:=Nat.zero_le _) ⟨dG 35 [(5,.bO 0 0),(19,ay R),(20,.int .i64 R.length),(21,.int .i64 0)],[⟨29,7,[],true,0⟩]⟩ R.length ?_ ?_ ?_
  (I:=λm S=>∃i ver:Nat,i+m=R.length∧S=⟨dG 35 [(5,.bO 0 ver),(19,ay R),(20,.int .i64 R.length),(21,.int .i64 i)],[⟨29,7,((R.take i).map iW).map b_,true,ver⟩]⟩)
 ·simp (maxSteps:=400000) only[↓ak,au,BEq.rfl,seval,List.take_nil]
  refine (Weak.Gb 5 29 7 (by rfl)).trans ?_
  rw[tZ.1,XY (m:=[(5,.bO 0 0),(19,ay R),(20,.int .i64 R.length),(21,.int .i64 0)])]
  ·exact Weak.refl _ _
  ·intro i
   simp only[nu]
   by_cases h3:i=5
   ·subst h3;rfl
   ·simp only[h3,if_false]
 ·exact⟨0,0,by omega,rfl⟩
 rintro m S ⟨i,ver,him,rfl⟩
 rcases Nat.lt_or_ge i R.length with h | h
 ·have hlt:((i:Int)<(R.length:Int))=True:=eq_true (by omega)
  have hgi:=List.getElem?_eq_getElem h
  generalize R[i]=x at hgi
  have htk:(R.take (i+1)).map iW=(R.take i).map iW++[⟨x.n,x.c⟩]:=by rw[List.take_add_one,hgi];simp[iW]
  have hti:(R.take i).length=i:=by rw[List.length_take];omega
  simp (maxSteps:=400000) only[↓ak,au,BEq.rfl,seval,hQ,hlt,hgi,iy,iJ,vw,dm,eG,atB,ab_,hti,VU,List.take_succ_cons,List.take_zero]
  refine⟨by omega,by omega,by omega,⟨by omega,by omega⟩,m-1,by omega,i+1,ver+1,by omega,?_⟩
  have hk:∀d m O (l:List gG) v,f_ d m O ⟨29,7,l.map b_,true,v⟩=⟨29,7,l.map b_,true,v⟩:=λd m O l v=>by
   have:(l.map b_).map (PV.bL (eZ d m O))=l.map b_:=by rw[List.map_map];exact List.map_congr_left λx _=>rfl
   simp only[f_,this]
  have e:List.map b_ (List.map iW (List.take i R))++[b_ ⟨x.n,x.c⟩]=(((R.take (i+1)).map iW).map b_):=by rw[htk];simp
  simp only[e,List.map_cons,List.map_nil,hk]
  rfl
 ·have hlt:((i:Int)<(R.length:Int))=False:=eq_false (by omega)
  rw[List.take_of_length_le h]
  simp (maxSteps:=400000) only[↓ak,au,BEq.rfl,seval,hQ,hlt,Iz]
theorem PX(t:aD)(hl:t.length≤1000000)(ho:Y.One t):ai Tryz.prog 84 [ay t] [] (if Y.kindOf t=1 then bG (bI t) else .sl 0 [] (some true)) []:=by
 obtain⟨n,r,ps,hv,hm,hp,hfl,hps,hpo,hmn,Fy⟩:=mO t ho
 have hg0:t[0]?=some n:=by rw[hv];rfl
 have hkd:Y.kindOf t=n.kind:=by rw[hv];rfl
 rw[hkd]
 by_cases hk:n.kind=1
 ·rw[if_pos hk]
  have ha:bI t=((t.drop 1).take n.many.toNat).map iW:=by rw[hv];simp[bI,hk]
  have hml:1+n.many.toNat≤t.length:=by rw[hv,List.length_cons];omega
  rw[ha]
  have hsp:=TA t n hl hg0 hm hml
  generalize ((t.drop 1).take n.many.toNat).map iW=A at *
  have hok:aC Tryz.prog 101 (λargs objs K=>args=[ay t,.int .i64 0]∧K (bG A) objs 0):=by
   rintro args objs K ⟨rfl,hk⟩
   exact⟨_,_,_,.pure _ rfl hsp,hk⟩
  refine J3.aX (T:=aR Tryz.prog [(101,_)]) 0 hD (aj (af hok ah)) aV (by decide) λQ hQ=>?_
  (conv=>arg 4;cbv);simp (maxSteps:=400000) only[↓ak,au,BEq.rfl,seval,hQ,hg0,hk]
 ·rw[if_neg hk]
  have hk':=eq_false hk
  refine J3.aX (T:=aR Tryz.prog []) 0 hD (aj ah) aV (by decide) λQ hQ=>?_
  (conv=>arg 4;cbv);simp (maxSteps:=400000) only[↓ak,au,BEq.rfl,seval,hQ,hg0,hk']
theorem LQ(t:aD)(hl:t.length≤1000000)(ho:Y.One t):ai Tryz.prog 84 [ay t] [] (bG (bI t)) []:=by
 refine (PX t hl ho).res ?_
 split
 ·exact .refl _
 ·rename_i h
  have:bI t=[]:=by
   cases t with
   | nil=>rfl
   | cons n r=>have hk:¬ n.kind=1:=h;simp[bI,hk]
  rw[this]
  exact lT 0 7
def r9:dD:=λargs objs K=>match args with
 | [a0]=>dZ ay a0 (HK.mk:HK λt=>(t.length≤1000000)∧(Y.One t)∧K (bG (bI t)) objs 0)
 | _=>False
theorem LU:aC Tryz.prog 84 (r9):=by
 intro args objs K h
 unfold r9 at h
 split at h
 ·rename_i a0
  obtain⟨t,rfl,h1,h2,hk⟩:=h
  exact⟨_,_,_,.pure _ rfl (LQ t h1 h2),hk⟩
 ·exact h.elim
end Lp
namespace Lp
open Go Go.Proofs
end Lp
namespace Lp
open Go Go.Proofs
end Lp
namespace Lp
open Go Go.Proofs
def ty0:aD:=[⟨0,0,[],[],0,aQ⟩]
theorem PY{t:aD}(h:gy t=true)(hl:t.length≤100000)(hc:∀n∈t,n.c.s.length≤500000∧n.name.length≤4611686018427387904):yQ t:=
 ⟨vo h,hl,λn hn=>(hc n hn).1,λn hn=>(hc n hn).2⟩
theorem acr{t:aD}{k:Nat}(hk:k≤100000)(h:El t k=true):yQ t∧t.length≤k:=by
 simp only[El,Bool.and_eq_true,decide_eq_true_eq,List.all_eq_true]at h
 obtain⟨⟨h1,h2⟩,h3⟩:=h
 simp only[ql,Bool.and_eq_true]at h3
 refine⟨PY h3.1 (by omega) λn hn=>?_,h1⟩
 have:=h2 n hn
 simp only[jN,Bool.and_eq_true,decide_eq_true_eq]at this
 omega
structure XZ (t:aD):Prop where
 len:t.length≤4611686018427387904
 txt:∀n∈t,n.s.length≤4611686018427387904∧n.name.length≤4611686018427387904∧n.c.s.length≤4611686018427387904
 cnm:∀n∈t,n.c.name.length≤4611686018427387904
end Lp
namespace Lp
open Go Go.Proofs Go.RowKit
end Lp
