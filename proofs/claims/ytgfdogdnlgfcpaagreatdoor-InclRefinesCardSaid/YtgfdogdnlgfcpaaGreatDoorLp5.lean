/-
  Part 5 of what the statement rests on: LpH8, LpD3, LpH9, LpH20, LpH21, LpH24, LpHN1, LpHN2, LpHN3, LpD7, LpD8, LpE1, LpD5, LpV10, LpD6, LpD9, LpD10, LpD11, LpD12, LpE2, LpE3, LpC9, LpY4, LpTN, LpEqY, LpTB1, LpC10, LpTB1p, LpTB2, LpTB3, LpE4, LpE5, LpE6, LpTC1, LpTR, LpE7, LpE8. No condition.
-/
import Derived.Test.YtgfdogdnlgfcpaaGreatDoorLp4
import Derived.Laws.IdiomStrings
import Derived.WalkKit
import Derived.Sort.Row

set_option linter.all false
set_option maxHeartbeats 8000000
set_option maxRecDepth 100000
namespace Lp
open Go Go.Proofs
open Nat (reduceAdd reduceLeDiff reduceMul reduceSub)
def wU:dN:=fun args objs K=>match args with
 | [.int .i64 x,.int .i64 y]=>K (.int .i64 (sF x y)) objs 0
 | _=>False
theorem F4:aD Tryz.prog 145 (wU):=by
 intro args objs K h
 unfold wU at h
 split at h
 · rename_i x y
   have hk:=h
   exact ⟨_,_,_,.pure _ rfl (CF x y),hk⟩
 · exact h.elim
def wV:dN:=fun args objs K=>match args with
 | [.str x,.str y]=>K (.int .i64 (jw x y)) objs 0
 | _=>False
theorem F5:aD Tryz.prog 147 (wV):=by
 intro args objs K h
 unfold wV at h
 split at h
 · rename_i x y
   have hk:=h
   exact ⟨_,_,_,.pure _ rfl (rP x y),hk⟩
 · exact h.elim
theorem UE (a b:Nd) (ha:a.s.length≤1000000) (hb:b.s.length≤1000000) (hae:-1000≤a.e∧a.e≤1000) (hbe:-1000≤b.e∧b.e≤1000):ai Tryz.prog 172 [av a,av b] [] (.int .i64 (oo a b)) []:=by
 refine PL.pure (T:=aU Tryz.prog [(145,wU),(147,wV)]) 0 hD (aj (af F4 (af F5 ah))) aY (by decide) ?_
 (conv=>arg 4;cbv);simp(maxSteps:=400000)only[↓aN,aO,BEq.rfl,reduceIte,reduceCtorEq,Nat.reduceLT,reduceAdd,reduceSub,reduceMul,Nat.reduceBEq,reduceLeDiff,Int.reduceToNat,Int.reduceLE]
 refine aT _ (Weak.freeze 1 0 (Nat.le_refl _) _) ?_
 simp(maxSteps:=400000)only[↓aN,aO,BEq.rfl,reduceIte,reduceCtorEq,Nat.reduceLT,reduceAdd,reduceSub,reduceMul,Nat.reduceBEq,reduceLeDiff,Int.reduceToNat,Int.reduceLE,WI,WJ,↓wU,↓wV]
 refine ⟨fun h=>?_,fun h=>⟨fun h'=>?_,fun h'=>⟨⟨by omega,by omega⟩,⟨by omega,by omega⟩,fun h0=>?_,fun h0=>?_⟩⟩⟩
 · rw [oo,if_pos (.inl h)]
 · rw [oo,if_pos (.inr h')]
 · rw [oo,if_neg (by simp [h,h']),if_pos h0]
 · rw [oo,if_neg (by simp [h,h']),if_neg h0]
def Xi (n:Nd):Prop:=n.s.length≤1000000∧-1000≤n.e∧n.e≤1000
def EB:dN:=fun args objs K=>match args with
 | [a0,a1]=>gu av a0 (HK.mk:HK fun a=>gu av a1 (HK.mk:HK fun b=>(Xi a)∧(Xi b)∧K (.int .i64 (oo a b)) objs 0))
 | _=>False
theorem Qx:aD Tryz.prog 172 (EB):=by
 intro args objs K h
 unfold EB at h
 split at h
 · rename_i a0 a1
   obtain ⟨a,rfl,b,rfl,h1,h2,hk⟩:=h
   exact ⟨_,_,_,.pure _ rfl (UE a b h1.1 h2.1 h1.2 h2.2),hk⟩
 · exact h.elim
theorem NP (a b:Nd) (ha:Xi a) (hb:Xi b):ai Tryz.prog 146 [av a,av b] [] (.int .i64 (SI a b)) []:=by
 refine Ua.pure (T:=aU Tryz.prog [(172,EB)]) 0 hD (aj (af Qx ah)) aY (by decide) ?_
 (conv=>arg 4;cbv);simp(maxSteps:=400000)only[↓aN,aO,BEq.rfl,reduceIte,reduceCtorEq,Nat.reduceLT,reduceAdd,reduceSub,reduceMul,Nat.reduceBEq,reduceLeDiff,Int.reduceToNat,Int.reduceLE]
 refine aT _ (Weak.freeze 1 0 (Nat.le_refl _) _) ?_
 simp(maxSteps:=400000)only[↓aN,aO,BEq.rfl,reduceIte,reduceCtorEq,Nat.reduceLT,reduceAdd,reduceSub,reduceMul,Nat.reduceBEq,reduceLeDiff,Int.reduceToNat,Int.reduceLE,WI,WJ,↓EB]
 cases hx:a.neg <;> cases hy:b.neg
 all_goals simp only [ZI,SI,hx,hy,Bool.not_true,Bool.not_false,reduceIte,Bool.and_true,Bool.and_false,Bool.and_self,Bool.false_eq_true,ha,hb]
 all_goals exact ⟨trivial,trivial,trivial⟩
def wW:dN:=fun args objs K=>match args with
 | [a0,a1]=>gu av a0 (HK.mk:HK fun a=>gu av a1 (HK.mk:HK fun b=>(Xi a)∧(Xi b)∧K (.int .i64 (SI a b)) objs 0))
 | _=>False
theorem KM:aD Tryz.prog 146 (wW):=by
 intro args objs K h
 unfold wW at h
 split at h
 · rename_i a0 a1
   obtain ⟨a,rfl,b,rfl,h1,h2,hk⟩:=h
   exact ⟨_,_,_,.pure _ rfl (NP a b h1 h2),hk⟩
 · exact h.elim
end Lp
namespace Lp
open Go Go.Proofs
theorem NQ (v:Vl) (hl:v.length≤1099511627776) (ho:One v):ai Tryz.prog 151 [aM v] [] (lY (bK v)) []:=by
 cases v with
 | nil=>exact absurd rfl ho.ne
 | cons n r=>
  obtain ⟨hm,ps,h1,_,_⟩:=ho.parts
  have:=PY (n::r) n r ps rfl hl hm h1
  rw [bK,lY,(fP h1).1,List.map_map]
  exact this
theorem NR (v:Vl) (hl:v.length≤1099511627776) (ho:One v):ai Tryz.prog 149 [aM v] [] (lX (fe v)) []:=by
 cases v with
 | nil=>exact absurd rfl ho.ne
 | cons n r=>
  obtain ⟨hm,ps,h1,_,_⟩:=ho.parts
  have:=PZ (n::r) n r ps rfl hl hm h1
  rw [JI] at this
  rw [fe,lX,(fP h1).2]
  exact this
def Ba:dN:=fun args objs K=>match args with
 | [a0]=>gu aM a0 (HK.mk:HK fun v=>(v.length≤1099511627776)∧(One v)∧K (lY (bK v)) objs 0)
 | _=>False
theorem NS:aD Tryz.prog 151 (Ba):=by
 intro args objs K h
 unfold Ba at h
 split at h
 · rename_i a0
   obtain ⟨v,rfl,h1,h2,hk⟩:=h
   exact ⟨_,_,_,.pure _ rfl (NQ v h1 h2),hk⟩
 · exact h.elim
def Bb:dN:=fun args objs K=>match args with
 | [a0]=>gu aM a0 (HK.mk:HK fun v=>(v.length≤1099511627776)∧(One v)∧K (lX (fe v)) objs 0)
 | _=>False
theorem NT:aD Tryz.prog 149 (Bb):=by
 intro args objs K h
 unfold Bb at h
 split at h
 · rename_i a0
   obtain ⟨v,rfl,h1,h2,hk⟩:=h
   exact ⟨_,_,_,.pure _ rfl (NR v h1 h2),hk⟩
 · exact h.elim
end Lp
namespace Lp
open Go Go.Proofs
def KN:dN:=fun args objs K=>match args with
 | [a0,a1]=>gu lX a0 (HK.mk:HK fun a=>gu lX a1 (HK.mk:HK fun b=>(a.length≤9223372036854775807)∧(b.length≤9223372036854775807)∧K (.int .i64 (eD jw a b)) objs 0))
 | _=>False
theorem UF:aD Tryz.prog 148 (KN):=by
 intro args objs K h
 unfold KN at h
 split at h
 · rename_i a0 a1
   obtain ⟨a,rfl,b,rfl,h1,h2,hk⟩:=h
   exact ⟨_,_,_,.pure _ rfl (zm a b h1 h2),hk⟩
 · exact h.elim
def Sn (f:Nat):dN:=fun args objs K=>match args with
 | [a0,a1,a2]=>gu lY a0 (HK.mk:HK fun x=>gu lY a1 (HK.mk:HK fun y=>a2=(.fn 128 [] [])∧(x.length≤9223372036854775807)∧(∀ p ∈ x,∀ q ∈ y,ai Tryz.prog 128 [aM p,aM q] [] (.int .i64 (qM f p q)) [])∧K (.int .i64 (eD (qM f) x y)) objs 0))
 | _=>False
theorem Xj (f:Nat):aD Tryz.prog 150 (Sn f):=by
 intro args objs K h
 unfold Sn at h
 split at h
 · rename_i a0 a1 a2
   obtain ⟨x,rfl,y,rfl,rfl,h1,h2,hk⟩:=h
   exact ⟨_,_,_,.pure _ rfl (tH x y _ _ h1 h2),hk⟩
 · exact h.elim
structure Ok (v:Vl):Prop where
 one:One v
 len:v.length≤1099511627776
 all:∀ n ∈ v,Xi n
theorem Ok.parts {v:Vl}(h:Ok v):(bK v).length≤1099511627776∧(fe v).length≤1099511627776∧∀ p ∈ bK v,Ok p∧p.length+1≤v.length:=by
 cases v with
 | nil=>exact absurd rfl h.one.ne
 | cons n r=>
  obtain ⟨hm,ps,h1,h2,h3⟩:=h.one.parts
  have hpl:=fZ _ _ _ h1
  have hpn:=bN _ _ _ h1
  have hlen:=h.len
  simp only [List.length_cons] at hlen
  refine ⟨?_,?_,?_⟩
  · rw [bK,(fP h1).1,List.length_map];omega
  · rw [fe];split
    · rw [(fP h1).2,List.length_map];omega
    · simp
  · intro p hp
    rw [bK,(fP h1).1] at hp
    obtain ⟨q,hq,rfl⟩:=List.mem_map.1 hp
    have Vr:=kP hq
    rw [h2] at Vr
    refine ⟨⟨(h3 q hq).jW,by rw [iG];omega,?_⟩,by rw [iG,List.length_cons];omega⟩
    have hin:∀ x ∈ q,Xi x:=fun x hx=>h.all x (List.mem_cons_of_mem _ (by rw [← h2];exact List.mem_flatten.2 ⟨q,hq,hx⟩))
    intro x hx
    cases q with
    | nil=>cases hx
    | cons m s=>
     rcases List.mem_cons.1 hx with rfl | hx
     · exact hin m (List.mem_cons_self ..)
     · exact hin x (List.mem_cons_of_mem _ hx)
theorem yA:∀ (f:Nat) (a b:Vl),a.length≤f→Ok a→Ok b→ai Tryz.prog 128 [aM a,aM b] [] (.int .i64 (qM f a b)) []
 | 0,a,b,h,ha,_=>by have:=ha.one.ne;cases a <;> simp at h this
 | f+1,[],b,_,ha,_=>absurd rfl ha.one.ne
 | f+1,n::r,[],_,_,hb=>absurd rfl hb.one.ne
 | f+1,n::r,m::q,h,ha,hb=>by
  have hpa:=ha.parts
  have hpb:=hb.parts
  have ih:∀ p ∈ bK (n::r),∀ p' ∈ bK (m::q),ai Tryz.prog 128 [aM p,aM p'] [] (.int .i64 (qM f p p')) []:=
   fun p hp p' hp'=>yA f p p' (by have:=(hpa.2.2 p hp).2;omega) (hpa.2.2 p hp).1 (hpb.2.2 p' hp').1
  refine MX.pure (T:=aU Tryz.prog [(145,wU),(146,wW),(147,wV),(148,KN),(149,Bb),(151,Ba),(150,(Sn f))]) 0 hD (aj (af F4 (af KM (af F5 (af UF (af NT (af NS (af (Xj f) ah)))))))) aY (by decide) ?_
  (conv=>arg 4;cbv);simp(maxSteps:=400000)only[↓aN,aO,BEq.rfl,reduceIte,reduceCtorEq,Nat.reduceLT,Nat.reduceAdd,Nat.reduceSub,Nat.reduceMul,Nat.reduceBEq,Nat.reduceLeDiff,Int.reduceToNat,Int.reduceLE,↓wU,↓wW,↓wV,↓KN,↓Bb,↓Ba,↓Sn]
  have e1:Xi n:=ha.all n (List.mem_cons_self ..)
  have e2:Xi m:=hb.all m (List.mem_cons_self ..)
  have l1:r.length≤1099511627775:=by have:=ha.len;simp only [List.length_cons] at this;omega
  have l2:q.length≤1099511627775:=by have:=hb.len;simp only [List.length_cons] at this;omega
  have l3:(bK (n::r)).length≤9223372036854775807:=by have:=hpa.1;omega
  have l4:(fe (n::r)).length≤9223372036854775807:=by have:=hpa.2.1;omega
  have l5:(fe (m::q)).length≤9223372036854775807:=by have:=hpb.2.1;omega
  refine ⟨fun hk=>?_,fun hk=>?_⟩
  · have hk:n.kind=m.kind:=(oU.zero _ _ trivial trivial).1 hk
    have k0:¬ (n.kind≠m.kind):=fun h=>h hk
    refine ⟨fun h3=>⟨e1,e2,?_⟩,fun h3=>⟨fun h4=>?_,fun h4=>⟨fun h6=>⟨l1,ha.one,l2,hb.one,l4,l5,fun hl=>⟨l1,ha.one,l2,hb.one,l3,ih,?_⟩,fun hl=>?_⟩,fun h6=>⟨fun h5=>⟨l1,ha.one,l2,hb.one,l3,ih,?_⟩,fun h5=>?_⟩⟩⟩⟩
    · simp only [qM,jh,if_neg k0,if_pos h3]
    · simp only [qM,jh,if_neg k0,if_neg h3,if_pos h4]
    · have h5:¬ n.kind=5:=by omega
      have h6':m.kind=6:=by omega
      simp only [fe,if_pos h6,if_pos h6'] at hl
      simp only [qM,jh,if_neg k0,if_neg h3,if_neg h4,if_neg h5,if_pos h6,if_pos hl,bK]
    · have h5:¬ n.kind=5:=by omega
      have h6':m.kind=6:=by omega
      simp only [fe,if_pos h6,if_pos h6'] at hl ⊢
      simp only [qM,jh,if_neg k0,if_neg h3,if_neg h4,if_neg h5,if_pos h6,if_neg hl]
    · simp only [qM,jh,if_neg k0,if_neg h3,if_neg h4,if_pos h5,bK]
    · simp only [qM,jh,if_neg k0,if_neg h3,if_neg h4,if_neg h5,if_neg h6]
  · have hk':n.kind≠m.kind:=fun h=>hk ((oU.zero _ _ trivial trivial).2 h)
    simp only [qM,jh,if_pos hk']
def wX (f:Nat):dN:=fun args objs K=>match args with
 | [a0,a1]=>gu aM a0 (HK.mk:HK fun a=>gu aM a1 (HK.mk:HK fun b=>(a.length≤f)∧(Ok a)∧(Ok b)∧K (.int .i64 (qM f a b)) objs 0))
 | _=>False
theorem KO (f:Nat):aD Tryz.prog 128 (wX f):=by
 intro args objs K h
 unfold wX at h
 split at h
 · rename_i a0 a1
   obtain ⟨a,rfl,b,rfl,h1,h2,h3,hk⟩:=h
   exact ⟨_,_,_,.pure _ rfl (yA f a b h1 h2 h3),hk⟩
 · exact h.elim
end Lp
namespace Lp
open Go Go.Proofs
open Nat (lt_or_ge reduceAdd reduceLeDiff reduceMul reduceSub)
open Int (reduceLE reduceToNat)
def Dr (a b:Bool):Int:=if b then 0 else if a then -1 else 1
theorem UG (a b:Bool):ai Tryz.prog 78 [.bool a,.bool b] [] (.int .i64 (Dr a b)) []:=by
 refine Am.bE (T:=aU Tryz.prog []) 0 hD (aj ah) aY (by decide) fun Q hQ=>?_
 cases a <;> cases b
 all_goals (conv=>arg 4;cbv);simp(maxSteps:=400000)only[↓aN,aO,BEq.rfl,reduceIte,reduceCtorEq,Nat.reduceLT,reduceAdd,reduceSub,reduceMul,Nat.reduceBEq,reduceLeDiff,reduceToNat,reduceLE,hQ,Dr]
def gD:dN:=fun args objs K=>match args with
 | [.bool a,.bool b]=>K (.int .i64 (Dr a b)) objs 0
 | _=>False
theorem zq:aD Tryz.prog 78 (gD):=by
 intro args objs K h
 unfold gD at h
 split at h
 · rename_i a b
   have hk:=h
   exact ⟨_,_,_,.pure _ rfl (UG a b),hk⟩
 · exact h.elim
theorem Jp {α:Type}(f:α→α→Int) (a b:List α) (h:a=[]∨b=[]):eD f a b=Dr (decide ((a.length:Int)<b.length)) (decide ((a.length:Int)=b.length)):=by
 rcases h with rfl | rfl
 · cases b with
   | nil=>rfl
   | cons y ys=>
    have h1:decide ((([]:List α).length:Int)<((y::ys).length:Int))=true:=by simp <;> omega
    have h2:decide ((([]:List α).length:Int)=((y::ys).length:Int))=false:=by simp <;> omega
    rw [h1,h2];rfl
 · cases a with
   | nil=>rfl
   | cons y ys=>
    have h1:decide (((y::ys).length:Int)<(([]:List α).length:Int))=false:=by simp <;> omega
    have h2:decide (((y::ys).length:Int)=(([]:List α).length:Int))=false:=by simp <;> omega
    rw [h1,h2];rfl
theorem HY (a b:List (List UInt8)) (ha:a.length≤1000000) (hb:b.length≤1000000):ai Tryz.prog 81 [lX a,lX b] [] (.int .i64 (eD jw a b)) []:=by
 refine yT.bE (T:=aU Tryz.prog [(78,gD)]) 0 hD (aj (af zq ah)) aY (by decide) fun Q hQ=>?_
 (conv=>arg 4;cbv);simp(maxSteps:=400000)only[↓aN,aO,BEq.rfl,reduceIte,reduceCtorEq,Nat.reduceLT,reduceAdd,reduceSub,reduceMul,Nat.reduceBEq,reduceLeDiff,reduceToNat,reduceLE,hQ]
 refine aH (fun m S=>∃ i:Nat,i+m=a.length∧i≤b.length∧eD jw (a.drop i) (b.drop i)=eD jw a b∧S=⟨dU 48 [(0,lX a),(1,lX b),(5,.int .i64 i)],[]⟩) a.length ⟨0,by omega,by omega,rfl,?_⟩ ?_
 · simp only [dh,keepR,reduceAdd,oC,Nat.reduceBEq,List.map_nil]
   rfl
 rintro m S ⟨i,him,hib,hlx,rfl⟩
 have zi:(0≤(i:Int))=True:=eq_true (by omega)
 have fin:a.length≤i∨b.length≤i→eD jw a b=Dr (decide ((a.length:Int)<b.length)) (decide ((a.length:Int)=b.length)):=by
  intro h
  rw [← hlx,Jp]
  · simp only [List.length_drop]
    congr 1
    · exact decide_eq_decide.2 (by omega)
    · exact decide_eq_decide.2 (by omega)
  · rcases h with h | h
    · exact .inl (List.drop_eq_nil_of_le h)
    · exact .inr (List.drop_eq_nil_of_le h)
 rcases lt_or_ge i a.length with h | h
 rotate_left 1
 · have hlt:((i:Int)<(a.length:Int))=False:=eq_false (by omega)
   simp(maxSteps:=400000)only[↓aN,aO,BEq.rfl,reduceIte,reduceCtorEq,Nat.reduceLT,reduceAdd,reduceSub,reduceMul,Nat.reduceBEq,reduceLeDiff,reduceToNat,reduceLE,hQ,hlt,↓gD]
   rw [fin (.inl h)]
 have hlt:((i:Int)<(a.length:Int))=True:=eq_true (by omega)
 rcases lt_or_ge i b.length with h' | h'
 rotate_left 1
 · have hlt2:((i:Int)<(b.length:Int))=False:=eq_false (by omega)
   simp(maxSteps:=400000)only[↓aN,aO,BEq.rfl,reduceIte,reduceCtorEq,Nat.reduceLT,reduceAdd,reduceSub,reduceMul,Nat.reduceBEq,reduceLeDiff,reduceToNat,reduceLE,hQ,hlt,hlt2,↓gD]
   rw [fin (.inr h')]
 have hlt2:((i:Int)<(b.length:Int))=True:=eq_true (by omega)
 have ga:=List.getElem?_eq_getElem h
 have gb:=List.getElem?_eq_getElem h'
 have da:=List.drop_eq_getElem_cons h
 have db:=List.drop_eq_getElem_cons h'
 generalize a[i]=x at ga da
 generalize b[i]=y at gb db
 rw [da,db,eD] at hlx
 by_cases hxy:x=y
 · subst hxy
   rw [if_pos ((BO.zero _ _ trivial trivial).2 rfl)] at hlx
   simp(maxSteps:=400000)only[↓aN,aO,BEq.rfl,reduceIte,reduceCtorEq,Nat.reduceLT,reduceAdd,reduceSub,reduceMul,Nat.reduceBEq,reduceLeDiff,reduceToNat,reduceLE,hQ,hlt,hlt2,zi,ga,gb,↓gD]
   exact ⟨⟨by omega,by omega⟩,m-1,by omega,i+1,by omega,by omega,hlx,by simp⟩
 · have hne:jw x y≠0:=fun h=>hxy ((BO.zero _ _ trivial trivial).1 h)
   rw [if_neg hne] at hlx
   simp(maxSteps:=400000)only[↓aN,aO,BEq.rfl,reduceIte,reduceCtorEq,Nat.reduceLT,reduceAdd,reduceSub,reduceMul,Nat.reduceBEq,reduceLeDiff,reduceToNat,reduceLE,hQ,hlt,hlt2,zi,ga,gb,hxy,↓gD]
   rw [← hlx]
   rcases jN x y with ⟨h1,e1⟩ | ⟨h1,_⟩ | ⟨h1,e1⟩
   · rw [e1,h1];rfl
   · exact absurd h1 hxy
   · rw [e1,lD _ _ h1];rfl
def qx:dN:=fun args objs K=>match args with
 | [a0,a1]=>gu lX a0 (HK.mk:HK fun a=>gu lX a1 (HK.mk:HK fun b=>(a.length≤1000000)∧(b.length≤1000000)∧K (.int .i64 (eD jw a b)) objs 0))
 | _=>False
theorem F6:aD Tryz.prog 81 (qx):=by
 intro args objs K h
 unfold qx at h
 split at h
 · rename_i a0 a1
   obtain ⟨a,rfl,b,rfl,h1,h2,hk⟩:=h
   exact ⟨_,_,_,.pure _ rfl (HY a b h1 h2),hk⟩
 · exact h.elim
def Bc (f:Vl→Vl→Int):dN:=fun args objs K=>match args with
 | [a0,a1]=>gu aM a0 (HK.mk:HK fun p=>gu aM a1 (HK.mk:HK fun q=>(ai Tryz.prog 51 [aM p,aM q] [] (.int .i64 (f p q)) [])∧K (.int .i64 (f p q)) objs 0))
 | _=>False
theorem Qy (f:Vl→Vl→Int):aD Tryz.prog 51 (Bc f):=by
 intro args objs K h
 unfold Bc at h
 split at h
 · rename_i a0 a1
   obtain ⟨p,rfl,q,rfl,h1,hk⟩:=h
   exact ⟨_,_,_,.pure _ rfl (h1),hk⟩
 · exact h.elim
theorem KP (f:Vl→Vl→Int) (a b:List Vl) (ha:a.length≤1000000) (hb:b.length≤1000000) (hf:∀ p ∈ a,∀ q ∈ b,ai Tryz.prog 51 [aM p,aM q] [] (.int .i64 (f p q)) []):ai Tryz.prog 80 [lY a,lY b] [] (.int .i64 (eD f a b)) []:=by
 refine Ao.bE (T:=aU Tryz.prog [(51,(Bc f)),(78,gD)]) 0 hD (aj (af (Qy f) (af zq ah))) aY (by decide) fun Q hQ=>?_
 (conv=>arg 4;cbv);simp(maxSteps:=400000)only[↓aN,aO,BEq.rfl,reduceIte,reduceCtorEq,Nat.reduceLT,reduceAdd,reduceSub,reduceMul,Nat.reduceBEq,reduceLeDiff,reduceToNat,reduceLE,hQ]
 refine aH (fun m S=>∃ i:Nat,i+m=a.length∧i≤b.length∧eD f (a.drop i) (b.drop i)=eD f a b∧S=⟨dU 42 [(0,lY a),(1,lY b),(5,.int .i64 i)],[]⟩) a.length ⟨0,by omega,by omega,rfl,?_⟩ ?_
 · simp only [dh,keepR,reduceAdd,oC,Nat.reduceBEq,List.map_nil]
   rfl
 rintro m S ⟨i,him,hib,hlx,rfl⟩
 have zi:(0≤(i:Int))=True:=eq_true (by omega)
 have fin:a.length≤i∨b.length≤i→eD f a b=Dr (decide ((a.length:Int)<b.length)) (decide ((a.length:Int)=b.length)):=by
  intro h
  rw [← hlx,Jp]
  · simp only [List.length_drop]
    congr 1
    · exact decide_eq_decide.2 (by omega)
    · exact decide_eq_decide.2 (by omega)
  · rcases h with h | h
    · exact .inl (List.drop_eq_nil_of_le h)
    · exact .inr (List.drop_eq_nil_of_le h)
 rcases lt_or_ge i a.length with h | h
 rotate_left 1
 · have hlt:((i:Int)<(a.length:Int))=False:=eq_false (by omega)
   simp(maxSteps:=400000)only[↓aN,aO,BEq.rfl,reduceIte,reduceCtorEq,Nat.reduceLT,reduceAdd,reduceSub,reduceMul,Nat.reduceBEq,reduceLeDiff,reduceToNat,reduceLE,hQ,hlt,↓gD]
   rw [fin (.inl h)]
 have hlt:((i:Int)<(a.length:Int))=True:=eq_true (by omega)
 rcases lt_or_ge i b.length with h' | h'
 rotate_left 1
 · have hlt2:((i:Int)<(b.length:Int))=False:=eq_false (by omega)
   simp(maxSteps:=400000)only[↓aN,aO,BEq.rfl,reduceIte,reduceCtorEq,Nat.reduceLT,reduceAdd,reduceSub,reduceMul,Nat.reduceBEq,reduceLeDiff,reduceToNat,reduceLE,hQ,hlt,hlt2,↓gD]
   rw [fin (.inr h')]
 have hlt2:((i:Int)<(b.length:Int))=True:=eq_true (by omega)
 have ga:=List.getElem?_eq_getElem h
 have gb:=List.getElem?_eq_getElem h'
 have da:=List.drop_eq_getElem_cons h
 have db:=List.drop_eq_getElem_cons h'
 have hfx:=hf _ (List.getElem_mem h) _ (List.getElem_mem h')
 generalize a[i]=x at ga da hfx
 generalize b[i]=y at gb db hfx
 rw [da,db,eD] at hlx
 by_cases hxy:f x y=0
 · rw [if_pos hxy] at hlx
   simp(maxSteps:=400000)only[↓aN,aO,BEq.rfl,reduceIte,reduceCtorEq,Nat.reduceLT,reduceAdd,reduceSub,reduceMul,Nat.reduceBEq,reduceLeDiff,reduceToNat,reduceLE,hQ,hlt,hlt2,zi,ga,gb,hxy,↓gD,↓Bc]
   exact ⟨by rw [← hxy];exact hfx,⟨by omega,by omega⟩,m-1,by omega,i+1,by omega,by omega,hlx,by simp⟩
 · rw [if_neg hxy] at hlx
   simp(maxSteps:=400000)only[↓aN,aO,BEq.rfl,reduceIte,reduceCtorEq,Nat.reduceLT,reduceAdd,reduceSub,reduceMul,Nat.reduceBEq,reduceLeDiff,reduceToNat,reduceLE,hQ,hlt,hlt2,zi,ga,gb,hxy,↓gD,↓Bc]
   exact ⟨hfx,by rw [hlx]⟩
end Lp
namespace Lp
open Go Go.Proofs
open Nat (reduceAdd reduceLeDiff reduceMul reduceSub)
open Int (reduceEq reduceLE reduceToNat)
structure YW (v:Vl):Prop where
 one:One v
 len:v.length≤1000000
 all:∀ n ∈ v,n.kind=3→A_ n
theorem YW.parts {v:Vl}(h:YW v):(bK v).length≤1000000∧(fe v).length≤1000000∧∀ p ∈ bK v,YW p∧p.length+1≤v.length:=by
 cases v with
 | nil=>exact absurd rfl h.one.ne
 | cons n r=>
  obtain ⟨hm,ps,h1,h2,h3⟩:=h.one.parts
  have hpl:=fZ _ _ _ h1
  have hpn:=bN _ _ _ h1
  have hlen:=h.len
  simp only [List.length_cons] at hlen
  refine ⟨?_,?_,?_⟩
  · rw [bK,(fP h1).1,List.length_map];omega
  · rw [fe];split
    · rw [(fP h1).2,List.length_map];omega
    · simp
  · intro p hp
    rw [bK,(fP h1).1] at hp
    obtain ⟨q,hq,rfl⟩:=List.mem_map.1 hp
    have Vr:=kP hq
    rw [h2] at Vr
    refine ⟨⟨(h3 q hq).jW,by rw [iG];omega,?_⟩,by rw [iG,List.length_cons];omega⟩
    have hin:∀ x ∈ q,x.kind=3→A_ x:=fun x hx=>h.all x (List.mem_cons_of_mem _ (by rw [← h2];exact List.mem_flatten.2 ⟨q,hq,hx⟩))
    intro x hx
    cases q with
    | nil=>cases hx
    | cons m s=>
     rcases List.mem_cons.1 hx with rfl | hx
     · intro hk
       have:=hin m (List.mem_cons_self ..) hk
       exact ⟨this.len,this.fI,this.lo,this.hi⟩
     · exact hin x (List.mem_cons_of_mem _ hx)
def Bd (f:Vl→Vl→Int):dN:=fun args objs K=>match args with
 | [a0,a1]=>gu lY a0 (HK.mk:HK fun x=>gu lY a1 (HK.mk:HK fun y=>(x.length≤1000000)∧(y.length≤1000000)∧(∀ p ∈ x,∀ q ∈ y,ai Tryz.prog 51 [aM p,aM q] [] (.int .i64 (f p q)) [])∧K (.int .i64 (eD f x y)) objs 0))
 | _=>False
theorem Qz (f:Vl→Vl→Int):aD Tryz.prog 80 (Bd f):=by
 intro args objs K h
 unfold Bd at h
 split at h
 · rename_i a0 a1
   obtain ⟨x,rfl,y,rfl,h1,h2,h3,hk⟩:=h
   exact ⟨_,_,_,.pure _ rfl (KP f x y h1 h2 h3),hk⟩
 · exact h.elim
theorem F7 {a b a' b':Nd}(h1:∀ p,yx a p=yx a' p) (h2:∀ p,yx b p=yx b' p):∀ (k:Nat) (p:Int),l9 a b k p=l9 a' b' k p
 | 0,_=>rfl
 | k+1,p=>by simp only [l9,h1,h2,F7 h1 h2 k]
theorem QA (n m:Nd) (k l:Int) (x y:List UInt8):kL { n with kind:=k,name:=x } { m with kind:=l,name:=y }=kL n m:=by
 have hd:∀ (j:Nat) (p:Int),l9 { n with kind:=k,name:=x } { m with kind:=l,name:=y } j p=l9 n m j p:=F7 (fun _=>rfl) (fun _=>rfl)
 simp only [kL,hd]
 rfl
theorem Be:∀ (f:Nat) (a b:Vl),a.length≤f→YW a→YW b→ai Tryz.prog 51 [aM a,aM b] [] (.int .i64 (jh kL f a b)) []
 | 0,a,b,h,ha,_=>by have:=ha.one.ne;cases a <;> simp at h this
 | f+1,[],b,_,ha,_=>absurd rfl ha.one.ne
 | f+1,n::r,[],_,_,hb=>absurd rfl hb.one.ne
 | f+1,n::r,m::q,h,ha,hb=>by
  have hpa:=ha.parts
  have hpb:=hb.parts
  have ih:∀ p ∈ bK (n::r),∀ p' ∈ bK (m::q),ai Tryz.prog 51 [aM p,aM p'] [] (.int .i64 (jh kL f p p')) []:=
   fun p hp p' hp'=>Be f p p' (by have:=(hpa.2.2 p hp).2;omega) (hpa.2.2 p hp).1 (hpb.2.2 p' hp').1
  have l1:=ha.len
  have l2:=hb.len
  have o1:=ha.one
  have o2:=hb.one
  generalize hA:n::r=A at *
  generalize hB:m::q=B at *
  have ga:A[0]?=some n:=by rw [← hA];rfl
  have gb:B[0]?=some m:=by rw [← hB];rfl
  have na:=ha.all n (by rw [← hA];exact List.mem_cons_self ..)
  have nb:=hb.all m (by rw [← hB];exact List.mem_cons_self ..)
  have pA:bK A=partsOf n r:=by rw [← hA];rfl
  have pB:bK B=partsOf m q:=by rw [← hB];rfl
  have sA:fe A=if n.kind=6 then sG n r else []:=by rw [← hA];rfl
  have sB:fe B=if m.kind=6 then sG m q else []:=by rw [← hB];rfl
  have res:jh kL (f+1) A B=jh kL (f+1) (n::r) (m::q):=by rw [hA,hB]
  refine Ck.bE (T:=aU Tryz.prog [(78,gD),(79,wT),(42,nU),(82,nk),(81,qx),(80,(Bd (jh kL f)))]) 0 hD (aj (af zq (af KH (af FV (af Cx (af F6 (af (Qz (jh kL f)) ah))))))) aY (by decide) fun Q hQ=>?_
  by_cases hk:n.kind=m.kind
  rotate_left 1
  · (conv=>arg 4;cbv);simp(maxSteps:=400000)only[↓aN,aO,BEq.rfl,reduceIte,reduceCtorEq,Nat.reduceLT,reduceAdd,reduceSub,reduceMul,Nat.reduceBEq,reduceLeDiff,reduceToNat,reduceLE,hQ,ga,gb,hk,↓gD]
    have:jh kL (f+1) A B=Dr (decide (n.kind<m.kind)) false:=by
     rw [res]
     simp only [jh,ne_eq,hk,not_false_eq_true,if_true,sF,Dr,decide_eq_true_eq,Bool.false_eq_true,if_false]
     split
     · rfl
     · rw [if_pos (by omega)]
    rw [this]
  by_cases h3:n.kind=3
  · have h3':m.kind=3:=by omega
    have e3:jh kL (f+1) A B=kL n m:=by
     rw [res];simp [jh,hk,h3']
    (conv=>arg 4;cbv);simp(maxSteps:=400000)only[↓aN,aO,BEq.rfl,reduceIte,reduceCtorEq,Nat.reduceLT,reduceAdd,reduceSub,reduceMul,Nat.reduceBEq,reduceLeDiff,reduceToNat,reduceLE,hQ,ga,gb,h3,h3',↓gD,↓wT,reduceEq,bI,bJ]
    refine ⟨by decide,?_,?_,?_⟩
    · have:=na h3;exact ⟨this.len,this.fI,this.lo,this.hi⟩
    · have:=nb h3';exact ⟨this.len,this.fI,this.lo,this.hi⟩
    · rw [e3];exact congrArg _ (QA n m 3 3 [] []).symm
  by_cases h4:n.kind=4
  · have h4':m.kind=4:=by omega
    (conv=>arg 4;cbv);simp(maxSteps:=400000)only[↓aN,aO,BEq.rfl,reduceIte,reduceCtorEq,Nat.reduceLT,reduceAdd,reduceSub,reduceMul,Nat.reduceBEq,reduceLeDiff,reduceToNat,reduceLE,hQ,ga,gb,h4,h4',↓gD,reduceEq]
    have e4:jh kL (f+1) A B=jw n.s m.s:=by
     rw [res];simp [jh,hk,h4']
    rw [e4]
    rcases jN n.s m.s with ⟨g1,e1⟩ | ⟨g1,e1⟩ | ⟨g1,e1⟩
    · have:n.s≠m.s:=fun hh=>by rw [hh,dY] at g1;cases g1
      rw [e1,g1,decide_eq_false this];rfl
    · rw [e1,decide_eq_true g1];rfl
    · have:n.s≠m.s:=fun hh=>by rw [hh,dY] at g1;cases g1
      rw [e1,decide_eq_false this,lD _ _ g1];rfl
  by_cases h5:n.kind=5
  · have h5':m.kind=5:=by omega
    (conv=>arg 4;cbv);simp(maxSteps:=400000)only[↓aN,aO,BEq.rfl,reduceIte,reduceCtorEq,Nat.reduceLT,reduceAdd,reduceSub,reduceMul,Nat.reduceBEq,reduceLeDiff,reduceToNat,reduceLE,hQ,ga,gb,h5,h5',↓gD,reduceEq,↓nU,↓Bd]
    have e5:jh kL (f+1) A B=eD (jh kL f) (bK A) (bK B):=by
     rw [res,pA,pB];simp [jh,hk,h5']
    exact ⟨o1,l1,o2,l2,hpa.1,hpb.1,ih,by rw [e5]⟩
  by_cases h6:n.kind=6
  · have h6':m.kind=6:=by omega
    (conv=>arg 4;cbv);simp(maxSteps:=400000)only[↓aN,aO,BEq.rfl,reduceIte,reduceCtorEq,Nat.reduceLT,reduceAdd,reduceSub,reduceMul,Nat.reduceBEq,reduceLeDiff,reduceToNat,reduceLE,hQ,ga,gb,h6,h6',↓gD,reduceEq,↓nU,↓Bd,↓nk,↓qx]
    have e6:jh kL (f+1) A B=if eD jw (fe A) (fe B)=0 then eD (jh kL f) (bK A) (bK B) else eD jw (fe A) (fe B):=by
     rw [res,pA,pB,sA,sB,if_pos h6,if_pos h6'];simp [jh,hk,h6']
    refine ⟨o1,l1,o2,l2,hpa.2.1,hpb.2.1,fun hz=>⟨o1,l1,o2,l2,hpa.1,hpb.1,ih,?_⟩,fun hz=>?_⟩
    · rw [e6,if_pos hz]
    · rw [e6,if_neg hz]
  · have e0:jh kL (f+1) A B=0:=by
     rw [res];simp only [jh,hk,ne_eq,not_true_eq_false,if_false,hk ▸ h3,hk ▸ h4,hk ▸ h5,hk ▸ h6]
    (conv=>arg 4;cbv);simp(maxSteps:=400000)only[↓aN,aO,BEq.rfl,reduceIte,reduceCtorEq,Nat.reduceLT,reduceAdd,reduceSub,reduceMul,Nat.reduceBEq,reduceLeDiff,reduceToNat,reduceLE,hQ,ga,gb,hk ▸ h3,hk ▸ h4,hk ▸ h5,hk ▸ h6,hk,↓gD,e0]
def EC (f:Nat):dN:=fun args objs K=>match args with
 | [a0,a1]=>gu aM a0 (HK.mk:HK fun a=>gu aM a1 (HK.mk:HK fun b=>(a.length≤f)∧(YW a)∧(YW b)∧K (.int .i64 (jh kL f a b)) objs 0))
 | _=>False
theorem QB (f:Nat):aD Tryz.prog 51 (EC f):=by
 intro args objs K h
 unfold EC at h
 split at h
 · rename_i a0 a1
   obtain ⟨a,rfl,b,rfl,h1,h2,h3,hk⟩:=h
   exact ⟨_,_,_,.pure _ rfl (Be f a b h1 h2 h3),hk⟩
 · exact h.elim
end Lp
namespace Lp
open Go
theorem KQ {v:Vl}(h:dG v=true):∀ n ∈ v,bF n=true:=by
 have hg:=(wz h).good
 intro n hn
 obtain ⟨i,hi,rfl⟩:=List.getElem_of_mem hn
 exact (hg i v[i] (v.drop (i+1)) (List.drop_eq_getElem_cons hi)).1
theorem pW {n:Nd}(h:bF n=true) (hk:n.kind=3):qB n=true:=by
 rw [bF,if_neg (by omega),if_pos hk] at h
 exact h
theorem Sq {n:Nd}(h:qB n=true):A_ n:=by
 have:=(nS n).1 h
 exact ⟨by omega,this.2.1,by omega,by omega⟩
theorem UH {n:Nd}(h:bF n=true) (hs:n.s.length≤1000000):Xi n:=by
 refine ⟨hs,?_⟩
 by_cases h3:n.kind=3
 · have:=Sq (pW h h3)
   exact ⟨this.lo,this.hi⟩
 · have he:n.e=0:=by
    unfold bF at h
    split at h
    · simp only [Bool.and_eq_true,beq_iff_eq] at h;exact h.2
    · split at h
      · simp only [Bool.and_eq_true,beq_iff_eq] at h;exact h.2
      · split at h
        · simp only [Bool.and_eq_true,beq_iff_eq] at h;exact h.2
        · cases h
   omega
structure aci (v:Vl) (k:Nat):Prop where
 len:v.length≤k
 rt:Rt v
 ok:Ok v
 ok2:YW v
end Lp
namespace Lp
open Go
open List (drop_eq_nil_of_le)
def rQ:List UInt8→List UInt8→Int
 | [],[]=>0
 | [],y::ys=>if 48<y.toNat then -1 else rQ [] ys
 | x::xs,[]=>if 48<x.toNat then 1 else rQ xs []
 | x::xs,y::ys=>if x.toNat<y.toNat then -1 else if y.toNat<x.toNat then 1 else rQ xs ys
theorem NU {s:List UInt8}(h:fI s=true):∀ c ∈ s,48≤c.toNat∧c.toNat≤57:=by
 intro c hc
 obtain ⟨i,hi,rfl⟩:=List.getElem_of_mem hc
 exact pV h (List.getElem?_eq_getElem hi)
theorem KR (n:Nd) (i:Nat):yx n ((n.s.length:Int)+n.e-1-i)=match n.s[i]? with | some c=>(c.toNat:Int)-48 | none=>0:=by
 have e:(n.s.length:Int)-1-((n.s.length:Int)+n.e-1-i-n.e)=i:=by omega
 simp only [yx,e]
 rw [if_neg (by omega),Int.toNat_natCast]
 try rfl
theorem NV (a b:Nd) (ha:fI a.s=true) (hb:fI b.s=true) (ht:(a.s.length:Int)+a.e=b.s.length+b.e):∀ (k i:Nat),a.s.length≤i+k→b.s.length≤i+k→l9 a b k ((a.s.length:Int)+a.e-1-i)=rQ (a.s.drop i) (b.s.drop i)
 | 0,i,h1,h2=>by
  rw [drop_eq_nil_of_le (by omega),drop_eq_nil_of_le (by omega)]
  simp only [l9,rQ]
 | k+1,i,h1,h2=>by
  have ih:=NV a b ha hb ht k (i+1) (by omega) (by omega)
  have e:(a.s.length:Int)+a.e-1-((i+1:Nat):Int)=(a.s.length:Int)+a.e-1-i-1:=by omega
  rw [e] at ih
  have fa:=KR a i
  have fb:=KR b i
  rw [← ht] at fb
  simp only [l9,ih]
  rcases Nat.lt_or_ge i a.s.length with la | la <;> rcases Nat.lt_or_ge i b.s.length with lb | lb
  · rw [List.getElem?_eq_getElem la] at fa
    rw [List.getElem?_eq_getElem lb] at fb
    simp only at fa fb
    rw [List.drop_eq_getElem_cons la,List.drop_eq_getElem_cons lb,rQ,fa,fb]
    by_cases c1:a.s[i].toNat<b.s[i].toNat
    · rw [if_pos (by omega),if_pos c1]
    · rw [if_neg (by omega),if_neg c1]
      by_cases c2:b.s[i].toNat<a.s[i].toNat
      · rw [if_pos (by omega),if_pos c2]
      · rw [if_neg (by omega),if_neg c2]
  · rw [List.getElem?_eq_getElem la] at fa
    rw [List.getElem?_eq_none lb] at fb
    simp only at fa fb
    have:=pV ha (List.getElem?_eq_getElem la)
    rw [List.drop_eq_getElem_cons la,drop_eq_nil_of_le lb,drop_eq_nil_of_le (by omega:b.s.length≤i+1),rQ,fa,fb]
    by_cases c1:48<a.s[i].toNat
    · rw [if_neg (by omega),if_pos (by omega),if_pos c1]
    · rw [if_neg (by omega),if_neg (by omega),if_neg c1]
  · rw [List.getElem?_eq_none la] at fa
    rw [List.getElem?_eq_getElem lb] at fb
    simp only at fa fb
    have:=pV hb (List.getElem?_eq_getElem lb)
    rw [List.drop_eq_getElem_cons lb,drop_eq_nil_of_le la,drop_eq_nil_of_le (by omega:a.s.length≤i+1),rQ,fa,fb]
    by_cases c1:48<b.s[i].toNat
    · rw [if_pos (by omega),if_pos c1]
    · rw [if_neg (by omega),if_neg (by omega),if_neg c1]
  · rw [List.getElem?_eq_none la] at fa
    rw [List.getElem?_eq_none lb] at fb
    simp only at fa fb
    rw [drop_eq_nil_of_le la,drop_eq_nil_of_le lb,drop_eq_nil_of_le (by omega:a.s.length≤i+1),drop_eq_nil_of_le (by omega:b.s.length≤i+1),fa,fb]
    simp
theorem F8:∀ ys:List UInt8,(∀ c ∈ ys,48≤c.toNat)→ys≠[]→ys.getLast?≠some 48→rQ [] ys=-1
 | [],_,h,_=>absurd rfl h
 | [y],hf,_,hl=>by
  have h1:=hf y (List.mem_cons_self ..)
  have h2:y.toNat≠48:=fun h=>hl (by rw [List.getLast?_singleton];congr 1;exact UInt8.toNat_inj.1 (by simpa using h))
  rw [rQ,if_pos (by omega)]
 | y::z::ys,hf,_,hl=>by
  rw [rQ]
  split
  · rfl
  · exact F8 (z::ys) (fun c hc=>hf c (List.mem_cons_of_mem _ hc)) (by simp) (by rwa [List.getLast?_cons_cons] at hl)
theorem wY:∀ xs ys:List UInt8,rQ ys xs=-rQ xs ys
 | [],[]=>by simp [rQ]
 | [],y::ys=>by
  simp only [rQ];split
  · rfl
  · exact wY [] ys
 | x::xs,[]=>by
  simp only [rQ];split
  · rfl
  · exact wY xs []
 | x::xs,y::ys=>by
  simp only [rQ]
  have:=wY xs ys
  repeat' split
  all_goals omega
theorem NW:∀ xs ys:List UInt8,(∀ c ∈ xs,48≤c.toNat)→(∀ c ∈ ys,48≤c.toNat)→xs.getLast?≠some 48→ys.getLast?≠some 48→rQ xs ys=jw xs ys
 | [],[],_,_,_,_=>by simp [rQ,jw,Op.bytesLess]
 | [],y::ys,_,hb,_,lb=>by rw [F8 (y::ys) hb (by simp) lb];rfl
 | x::xs,[],ha,_,la,_=>by rw [wY,F8 (x::xs) ha (by simp) la];rfl
 | x::xs,y::ys,ha,hb,la,lb=>by
  have hla:xs.getLast?≠some 48:=by
   cases xs with
   | nil=>simp
   | cons z zs=>rwa [List.getLast?_cons_cons] at la
  have hlb:ys.getLast?≠some 48:=by
   cases ys with
   | nil=>simp
   | cons z zs=>rwa [List.getLast?_cons_cons] at lb
  have ih:=NW xs ys (fun c hc=>ha c (List.mem_cons_of_mem _ hc)) (fun c hc=>hb c (List.mem_cons_of_mem _ hc)) hla hlb
  rw [rQ]
  by_cases h1:x.toNat<y.toNat
  · have:x<y:=UInt8.lt_iff_toNat_lt.2 h1
    rw [if_pos h1]
    simp [jw,Op.bytesLess,this]
  · rw [if_neg h1]
    have hn:¬ x<y:=fun h=>h1 (UInt8.lt_iff_toNat_lt.1 h)
    by_cases h2:y.toNat<x.toNat
    · have hxy:x≠y:=fun h=>by rw [h] at h2;omega
      rw [if_pos h2]
      simp [jw,Op.bytesLess,hn,hxy]
    · have hxy:x=y:=UInt8.toNat_inj.1 (by omega)
      subst hxy
      rw [if_neg h2,ih]
      simp [jw,Op.bytesLess]
theorem g_ (n:Nd) (p:Int) (h:(n.s.length:Int)+n.e≤p):yx n p=0:=by
 simp only [yx]
 rw [if_pos (by omega)]
theorem wZ (n:Nd) (hf:fI n.s=true) (hs:n.s≠[]) (hh:n.s.head?≠some 48):0<yx n ((n.s.length:Int)+n.e-1):=by
 have h:=KR n 0
 cases hns:n.s with
 | nil=>exact absurd hns hs
 | cons c t=>
  have h0:n.s[0]?=some c:=by rw [hns];rfl
  rw [h0] at h
  simp only [Int.natCast_zero,Int.sub_zero] at h
  have hc:=pV hf h0
  have hne:c.toNat≠48:=fun he=>hh (by rw [hns,List.head?_cons];congr 1;exact UInt8.toNat_inj.1 (by simpa using he))
  rw [← hns,h]
  omega
theorem Sr (a b:Nd) (k:Nat) (p:Int) (hk:2≤k) (h0:yx a p=yx b p) (h1:yx a (p-1)<yx b (p-1)):l9 a b k p=-1:=by
 obtain ⟨k,rfl⟩:∃ q,k=q+2:=⟨k-2,by omega⟩
 rw [l9,if_neg (by omega),if_neg (by omega),l9,if_pos h1]
theorem Sv (a b:Nd) (k:Nat) (p:Int) (hk:2≤k) (h0:yx a p=yx b p) (h1:yx b (p-1)<yx a (p-1)):l9 a b k p=1:=by
 obtain ⟨k,rfl⟩:∃ q,k=q+2:=⟨k-2,by omega⟩
 rw [l9,if_neg (by omega),if_neg (by omega),l9,if_neg (by omega),if_pos h1]
theorem Jq (a b:Nd) (h:∀ p,yx a p=yx b p):∀ (k:Nat) (p:Int),l9 a b k p=0
 | 0,_=>rfl
 | k+1,p=>by
  have:=h p
  rw [l9,if_neg (by omega),if_neg (by omega)]
  exact Jq a b h k (p-1)
end Lp
namespace Lp
open Go
theorem CG (a b:Nd) (t:Int) (h:∀ q,t≤q→yx a q=yx b q) (k:Nat):∀ d:Nat,l9 a b (k+d) (t+d)=l9 a b k t
 | 0=>by simp
 | d+1=>by
  have:=h (t+((d+1:Nat):Int)) (by omega)
  rw [show k+(d+1)=(k+d)+1 by omega,l9,if_neg (by omega),if_neg (by omega),show t+((d+1:Nat):Int)-1=t+d by omega]
  exact CG a b t h k d
theorem UI (a b:Nd) (ha:qB a=true) (hb:qB b=true):l9 a b (kr a b-jM a b+1).toNat (kr a b)=oo a b:=by
 have A:=(nS a).1 ha
 have B:=(nS b).1 hb
 have hl:∀ x:Nd,x.s≠[]→0<x.s.length:=fun x h=>List.length_pos_iff.2 h
 have zero:∀ n:Nd,n.s=[]→∀ p,yx n p=0:=by
  intro n hn p
  simp only [yx,hn]
  split
  · rfl
  · simp
 by_cases sa:a.s=[]
 · have ea:a.e=0:=by have:=A.2.2.2.2.2.2;rw [if_pos sa] at this;exact this.2
   by_cases sb:b.s=[]
   · rw [Jq a b (fun p=>by rw [zero a sa,zero b sb]),oo,if_pos (.inl sa),sa,sb];rfl
   · have hb2:=B.2.2.2.2.2.2
     rw [if_neg sb] at hb2
     have hlb:=hl b sb
     have first:=wZ b B.2.1 sb hb2.1
     rw [oo,if_pos (.inl sa),sa,sF,if_pos (by simp;omega)]
     have low:jM a b≤b.e:=by unfold jM;split <;> omega
     have htop:(b.s.length:Int)+b.e≤kr a b:=by unfold kr;split <;> omega
     have hsk:=CG a b ((b.s.length:Int)+b.e) (fun q hq=>by rw [zero a sa,g_ b q hq]) ((b.s.length:Int)+b.e-jM a b+1).toNat (kr a b-(b.s.length+b.e)).toNat
     rw [show ((b.s.length:Int)+b.e-jM a b+1).toNat+(kr a b-(b.s.length+b.e)).toNat=(kr a b-jM a b+1).toNat by omega,show ((b.s.length:Int)+b.e)+((kr a b-(b.s.length+b.e)).toNat:Int)=kr a b by omega] at hsk
     rw [hsk]
     refine Sr a b _ _ (by omega) ?_ ?_
     · rw [zero a sa,g_ b _ (Int.le_refl _)]
     · rw [zero a sa];exact first
 by_cases sb:b.s=[]
 · have eb:b.e=0:=by have:=B.2.2.2.2.2.2;rw [if_pos sb] at this;exact this.2
   have ha2:=A.2.2.2.2.2.2
   rw [if_neg sa] at ha2
   have hla:=hl a sa
   have first:=wZ a A.2.1 sa ha2.1
   rw [oo,if_pos (.inr sb),sb,sF,if_neg (by simp),if_pos (by simp;omega)]
   have low:jM a b≤a.e:=by unfold jM;split <;> omega
   have htop:(a.s.length:Int)+a.e≤kr a b:=by unfold kr;split <;> omega
   have hsk:=CG a b ((a.s.length:Int)+a.e) (fun q hq=>by rw [zero b sb,g_ a q hq]) ((a.s.length:Int)+a.e-jM a b+1).toNat (kr a b-(a.s.length+a.e)).toNat
   rw [show ((a.s.length:Int)+a.e-jM a b+1).toNat+(kr a b-(a.s.length+a.e)).toNat=(kr a b-jM a b+1).toNat by omega,show ((a.s.length:Int)+a.e)+((kr a b-(a.s.length+a.e)).toNat:Int)=kr a b by omega] at hsk
   rw [hsk]
   refine Sv a b _ _ (by omega) ?_ ?_
   · rw [zero b sb,g_ a _ (Int.le_refl _)]
   · rw [zero b sb];exact first
 · have ha2:=A.2.2.2.2.2.2
   have hb2:=B.2.2.2.2.2.2
   rw [if_neg sa] at ha2
   rw [if_neg sb] at hb2
   have hla:=hl a sa
   have hlb:=hl b sb
   have fa:=wZ a A.2.1 sa ha2.1
   have fb:=wZ b B.2.1 sb hb2.1
   rw [oo,if_neg (by simp [sa,sb])]
   have low:jM a b≤a.e∧jM a b≤b.e:=by unfold jM;split <;> omega
   by_cases ht:(a.s.length:Int)+a.e=b.s.length+b.e
   · rw [if_pos ((oU.zero _ _ trivial trivial).2 ht)]
     have htop:kr a b=a.s.length+a.e:=by unfold kr;split <;> omega
     rw [htop]
     obtain ⟨k,hk⟩:∃ k,((a.s.length:Int)+a.e-jM a b+1).toNat=k+1:=⟨((a.s.length:Int)+a.e-jM a b).toNat,by omega⟩
     rw [hk,l9,g_ a _ (Int.le_refl _),g_ b _ (by omega),if_neg (by omega),if_neg (by omega)]
     have:=NV a b A.2.1 B.2.1 ht k 0 (by omega) (by omega)
     simp only [Int.natCast_zero,Int.sub_zero,List.drop_zero] at this
     rw [this]
     exact NW _ _ (fun c hc=>(NU A.2.1 c hc).1) (fun c hc=>(NU B.2.1 c hc).1) ha2.2 hb2.2
   · rw [if_neg (fun h=>ht ((oU.zero _ _ trivial trivial).1 h))]
     rcases Int.lt_or_gt_of_ne ht with hlt | hgt
     · have htop:kr a b=b.s.length+b.e:=by unfold kr;split <;> omega
       rw [htop,sF,if_pos hlt]
       refine Sr a b _ _ (by omega) ?_ ?_
       · rw [g_ a _ (by omega),g_ b _ (Int.le_refl _)]
       · rw [g_ a _ (by omega)];exact fb
     · have htop:kr a b=a.s.length+a.e:=by unfold kr;split <;> omega
       rw [htop,sF,if_neg (by omega),if_pos hgt]
       refine Sv a b _ _ (by omega) ?_ ?_
       · rw [g_ b _ (by omega),g_ a _ (Int.le_refl _)]
       · rw [g_ b _ (by omega)];exact fa
theorem YX (a b:Nd) (ha:qB a=true) (hb:qB b=true):kL a b=SI a b:=by
 have h:=UI a b ha hb
 have h2:=O5 a b
 simp only [kL,h]
 cases hx:a.neg <;> cases hy:b.neg <;> simp [SI,hx,hy,h2]
end Lp
namespace Lp
open Go
theorem NY:∀ (f:Nat) (a b:Vl),Rt a→Rt b→jh kL f a b=qM f a b
 | 0,a,b,_,_=>by simp [jh]
 | f+1,[],b,ha,_=>absurd rfl ha.one.ne
 | f+1,n::r,[],_,hb=>absurd rfl hb.one.ne
 | f+1,n::r,m::q,ha,hb=>by
  have hp:=uQ ha
  have hq:=uQ hb
  have pn:=ha.parts.1
  have pm:=hb.parts.1
  have e:eD (jh kL f) (partsOf n r) (partsOf m q)=eD (qM f) (partsOf n r) (partsOf m q):=
   CV _ _ fun x hx y hy=>NY f x y (hp x hx).2 (hq y hy).2
  by_cases hk:n.kind=m.kind
  · by_cases h3:n.kind=3
    · have:=YX n m (pW pn h3) (pW pm (hk ▸ h3))
      simp only [qM,jh,this,e]
    · simp only [qM,jh,if_neg h3,e]
  · simp only [qM,jh,ne_eq,hk,not_false_eq_true,if_true]
end Lp
namespace Lp
open Go Go.Proofs
open Nat (reduceAdd reduceLeDiff reduceMul reduceSub)
open Int (reduceEq reduceLE reduceToNat)
def Bf (m e:Int):Bool:=decide (-1000≤e) && decide (e≤1000) && decide (m+e≤1000)
theorem KS (m e:Int) (hm:0≤m∧m≤1000000):ai Tryz.prog 134 [.int .i64 m,.int .i64 e] [] (.bool (Bf m e)) []:=by
 refine G9.bE (T:=aU Tryz.prog []) 0 hD (aj ah) aY (by decide) fun Q hQ=>?_
 rcases tf (-1000≤e) with h1 | h1
 rotate_left 1
 · have hr:Bf m e=false:=by have:¬ (-1000≤e):=fun h=>by rw [h1] at h;exact h
                            simp [Bf,this]
   (conv=>arg 4;cbv);simp(maxSteps:=400000)only[↓aN,aO,BEq.rfl,reduceIte,reduceCtorEq,Nat.reduceLT,reduceAdd,reduceSub,reduceMul,Nat.reduceBEq,reduceLeDiff,reduceToNat,reduceLE,hQ,h1,hr]
 rcases tf (e≤1000) with h2 | h2
 rotate_left 1
 · have hr:Bf m e=false:=by have:¬ (e≤1000):=fun h=>by rw [h2] at h;exact h
                            simp [Bf,this]
   (conv=>arg 4;cbv);simp(maxSteps:=400000)only[↓aN,aO,BEq.rfl,reduceIte,reduceCtorEq,Nat.reduceLT,reduceAdd,reduceSub,reduceMul,Nat.reduceBEq,reduceLeDiff,reduceToNat,reduceLE,hQ,h1,h2,hr]
 have h1':=of_eq_true h1
 have h2':=of_eq_true h2
 have hr:Bf m e=decide (m+e≤1000):=by simp [Bf,h1',h2']
 (conv=>arg 4;cbv);simp(maxSteps:=400000)only[↓aN,aO,BEq.rfl,reduceIte,reduceCtorEq,Nat.reduceLT,reduceAdd,reduceSub,reduceMul,Nat.reduceBEq,reduceLeDiff,reduceToNat,reduceLE,hQ,h1,h2,hr]
 exact ⟨by omega,by omega⟩
def iK:dN:=fun args objs K=>match args with
 | [.int .i64 m,.int .i64 e]=>(0≤m∧m≤1000000)∧K (.bool (Bf m e)) objs 0
 | _=>False
theorem yB:aD Tryz.prog 134 (iK):=by
 intro args objs K h
 unfold iK at h
 split at h
 · rename_i m e
   obtain ⟨h1,hk⟩:=h
   exact ⟨_,_,_,.pure _ rfl (KS m e h1),hk⟩
 · exact h.elim
theorem F9 (s:List UInt8) (hs:s.length≤4611686018427387904):ai Tryz.prog 131 [.str s] [] (.bool (fI s)) []:=by
 refine DV.bE (T:=aU Tryz.prog [(154,tC)]) 0 hD (aj (af Hw ah)) aY (by decide) fun Q hQ=>?_
 have hf:=Qe s
 (conv=>arg 4;cbv);simp(maxSteps:=400000)only[↓aN,aO,BEq.rfl,reduceIte,reduceCtorEq,Nat.reduceLT,reduceAdd,reduceSub,reduceMul,Nat.reduceBEq,reduceLeDiff,reduceToNat,reduceLE,hQ,↓tC]
 refine ⟨hs,?_⟩
 rw [Bool.eq_iff_iff,← hf,decide_eq_true_iff]
 constructor
 · intro h;rw [h]
 · intro h
   generalize Lib.trimF lC ⟨⟨s⟩⟩=t at h
   obtain ⟨⟨t⟩⟩:=t
   have h':t=[]:=h
   rw [h']
def dz:dN:=fun args objs K=>match args with
 | [.str s]=>(s.length≤4611686018427387904)∧K (.bool (fI s)) objs 0
 | _=>False
theorem uG:aD Tryz.prog 131 (dz):=by
 intro args objs K h
 unfold dz at h
 split at h
 · rename_i s
   obtain ⟨h1,hk⟩:=h
   exact ⟨_,_,_,.pure _ rfl (F9 s h1),hk⟩
 · exact h.elim
theorem UJ (n:Nd) (hk:n.kind=3) (hn:n.name=[]) (hs:n.s.length≤4611686018427387904):ai Tryz.prog 168 [av n] [] (.bool (qB n)) []:=by
 refine M4.bE (T:=aU Tryz.prog [(134,iK),(131,dz),(185,AV)]) 0 hD (aj (af yB (af uG (af Nu ah)))) aY (by decide) fun Q hQ=>?_
 (conv=>arg 4;cbv);simp(maxSteps:=400000)only[↓aN,aO,BEq.rfl,reduceIte,reduceCtorEq,Nat.reduceLT,reduceAdd,reduceSub,reduceMul,Nat.reduceBEq,reduceLeDiff,reduceToNat,reduceLE,hQ]
 refine aT _ (Weak.freeze 1 0 (Nat.le_refl _) _) ?_
 have key:=nS n
 have hpw:∀ b,Bf n.s.length n.e=b→(b=true↔-1000≤n.e∧n.e≤1000∧n.s.length+n.e≤1000):=fun b hb=>by
  rw [← hb];simp [Bf,and_assoc]
 cases hp:Bf n.s.length n.e
 · have hr:qB n=false:=jb fun h=>by
    have g:=(hpw _ hp).2 ⟨(key.1 h).2.2.2.1,(key.1 h).2.2.2.2.1,(key.1 h).2.2.2.2.2.1⟩
    cases g
   simp(maxSteps:=400000)only[↓aN,aO,BEq.rfl,reduceIte,reduceCtorEq,Nat.reduceLT,reduceAdd,reduceSub,reduceMul,Nat.reduceBEq,reduceLeDiff,reduceToNat,reduceLE,hQ,je,↓iK,hk,hn,reduceEq,hp,hr]
   refine fun h0 h1=>⟨by omega,by omega⟩
 have Xk:=(hpw _ hp).1 rfl
 cases hf:fI n.s
 · have hr:qB n=false:=jb fun h=>by have:=(key.1 h).2.1;rw [hf] at this;cases this
   simp(maxSteps:=400000)only[↓aN,aO,BEq.rfl,reduceIte,reduceCtorEq,Nat.reduceLT,reduceAdd,reduceSub,reduceMul,Nat.reduceBEq,reduceLeDiff,reduceToNat,reduceLE,hQ,je,↓iK,↓dz,hk,hn,reduceEq,hp,hf,hr]
   refine fun h0 h1=>⟨⟨by omega,by omega⟩,hs⟩
 by_cases hz:n.s=[]
 · rw [if_pos hz] at key
   have hf0:fI []=true:=rfl
   rw [hz] at hp key
   have hp0:Bf ((0:Nat):Int) n.e=true:=hp
   simp(maxSteps:=400000)only[↓aN,aO,BEq.rfl,reduceIte,reduceCtorEq,Nat.reduceLT,reduceAdd,reduceSub,reduceMul,Nat.reduceBEq,reduceLeDiff,reduceToNat,reduceLE,hQ,je,↓iK,↓dz,hk,hn,reduceEq,hp0,hf0,hz]
   refine ⟨fun h0=>⟨fun h=>absurd h (by omega),fun _=>⟨⟨by omega,by omega⟩,fun hng=>?_,fun hng=>?_⟩⟩,fun h0=>jb fun hb=>h0 (key.1 hb).1⟩
   · exact jb fun hb=>by have:=(key.1 hb).2.2.2.2.2.2.1;rw [hng] at this;cases this
   · rw [Bool.eq_iff_iff,decide_eq_true_iff,key]
     refine ⟨fun h=>h.2.2.2.2.2.2.2,fun h=>⟨h0,rfl,by simp,Xk.1,Xk.2.1,by simp;omega,by simpa using hng,h⟩⟩
 · rw [if_neg hz] at key
   have htr:=Qf n.s 48
   have hz':(n.s=[])=False:=eq_false hz
   simp(maxSteps:=400000)only[↓aN,aO,BEq.rfl,reduceIte,reduceCtorEq,Nat.reduceLT,reduceAdd,reduceSub,reduceMul,Nat.reduceBEq,reduceLeDiff,reduceToNat,reduceLE,hQ,je,↓iK,↓dz,↓AV,hk,hn,reduceEq,hp,hf,hz']
   refine ⟨fun h0=>⟨fun h=>jb fun hb=>?_,fun h1=>⟨⟨by omega,by omega⟩,hs,hs,?_⟩⟩,fun h0=>jb fun hb=>h0 (key.1 hb).1⟩
   · have:=key.1 hb;omega
   · rw [Bool.eq_iff_iff,decide_eq_true_iff,key,htr]
     exact ⟨fun h=>h.2.2.2.2.2.2,fun h=>⟨h0,hf,by omega,Xk.1,Xk.2.1,Xk.2.2,h⟩⟩
def l_:dN:=fun args objs K=>match args with
 | [a0]=>gu av a0 (HK.mk:HK fun n=>(n.kind=3)∧(n.name=[])∧(n.s.length≤4611686018427387904)∧K (.bool (qB n)) objs 0)
 | _=>False
theorem QC:aD Tryz.prog 168 (l_):=by
 intro args objs K h
 unfold l_ at h
 split at h
 · rename_i a0
   obtain ⟨n,rfl,h1,h2,h3,hk⟩:=h
   exact ⟨_,_,_,.pure _ rfl (UJ n h1 h2 h3),hk⟩
 · exact h.elim
theorem KU (n:Nd) (hl:n.s.length≤4611686018427387904):ai Tryz.prog 141 [av n] [] (.bool (bF n)) []:=by
 refine G8.bE (T:=aU Tryz.prog [(142,d9),(168,l_)]) 0 hD (aj (af AU (af QC ah))) aY (by decide) fun Q hQ=>?_
 (conv=>arg 4;cbv);simp(maxSteps:=400000)only[↓aN,aO,BEq.rfl,reduceIte,reduceCtorEq,Nat.reduceLT,reduceAdd,reduceSub,reduceMul,Nat.reduceBEq,reduceLeDiff,reduceToNat,reduceLE,hQ,nmP,ac8]
 refine aT _ (Weak.freeze 1 0 (Nat.le_refl _) _) ?_
 have hn0:∀ h,fJ 1 0 [⟨27,6,[av { kind:=n.kind,many:=n.many,name:=[],s:=n.s,neg:=n.neg,e:=n.e }],true,1⟩] (.bM 0 1 0 0)=h→.addr (av ⟨n.kind,n.many,[],n.s,n.neg,n.e⟩)=h:=fun _ h=>h
 have h8:n.kind=0∨n.kind=1∨n.kind=2∨n.kind=3∨n.kind=4∨n.kind=5∨n.kind=6∨(n.kind≠0∧n.kind≠1∧n.kind≠2∧n.kind≠3∧n.kind≠4∧n.kind≠5∧n.kind≠6):=by omega
 rcases h8 with hk | hk | hk | hk | hk | hk | hk | ⟨k0,k1,k2,k3,k4,k5,k6⟩
 · simp(maxSteps:=400000)only[↓aN,aO,BEq.rfl,reduceIte,reduceCtorEq,Nat.reduceLT,reduceAdd,reduceSub,reduceMul,Nat.reduceBEq,reduceLeDiff,reduceToNat,reduceLE,hQ,je,↓d9,↓l_,hk,reduceEq]
   rw [Bool.eq_iff_iff]
   simp [bF,hk,and_assoc]
 · simp(maxSteps:=400000)only[↓aN,aO,BEq.rfl,reduceIte,reduceCtorEq,Nat.reduceLT,reduceAdd,reduceSub,reduceMul,Nat.reduceBEq,reduceLeDiff,reduceToNat,reduceLE,hQ,je,↓d9,↓l_,hk,reduceEq]
   rw [Bool.eq_iff_iff]
   simp [bF,hk,and_assoc]
 · simp(maxSteps:=400000)only[↓aN,aO,BEq.rfl,reduceIte,reduceCtorEq,Nat.reduceLT,reduceAdd,reduceSub,reduceMul,Nat.reduceBEq,reduceLeDiff,reduceToNat,reduceLE,hQ,je,↓d9,↓l_,hk,reduceEq]
   rw [Bool.eq_iff_iff]
   simp [bF,hk,and_assoc]
 · simp(maxSteps:=400000)only[↓aN,aO,BEq.rfl,reduceIte,reduceCtorEq,Nat.reduceLT,reduceAdd,reduceSub,reduceMul,Nat.reduceBEq,reduceLeDiff,reduceToNat,reduceLE,hQ,je,↓d9,↓l_,hk,reduceEq]
   refine ⟨hl,?_⟩
   simp [bF,hk,qB]
 · simp(maxSteps:=400000)only[↓aN,aO,BEq.rfl,reduceIte,reduceCtorEq,Nat.reduceLT,reduceAdd,reduceSub,reduceMul,Nat.reduceBEq,reduceLeDiff,reduceToNat,reduceLE,hQ,je,↓d9,↓l_,hk,reduceEq]
   refine ⟨hl,?_⟩
   cases hu:utf n.s
   · simp [y8,bF,hk,hu]
   · simp only [ZI]
     rw [Bool.eq_iff_iff]
     simp [bF,hk,hu,and_assoc]
 · simp(maxSteps:=400000)only[↓aN,aO,BEq.rfl,reduceIte,reduceCtorEq,Nat.reduceLT,reduceAdd,reduceSub,reduceMul,Nat.reduceBEq,reduceLeDiff,reduceToNat,reduceLE,hQ,je,↓d9,↓l_,hk,reduceEq]
   refine ⟨fun hm=>?_,fun hm=>?_⟩
   · rw [Bool.eq_iff_iff]
     simp [bF,hk,hm,and_assoc]
   · simp [bF,hk,hm]
 · simp(maxSteps:=400000)only[↓aN,aO,BEq.rfl,reduceIte,reduceCtorEq,Nat.reduceLT,reduceAdd,reduceSub,reduceMul,Nat.reduceBEq,reduceLeDiff,reduceToNat,reduceLE,hQ,je,↓d9,↓l_,hk,reduceEq]
   refine ⟨fun hm=>?_,fun hm=>?_⟩
   · rw [Bool.eq_iff_iff]
     simp [bF,hk,hm,and_assoc]
   · simp [bF,hk,hm]
 · simp(maxSteps:=400000)only[↓aN,aO,BEq.rfl,reduceIte,reduceCtorEq,Nat.reduceLT,reduceAdd,reduceSub,reduceMul,Nat.reduceBEq,reduceLeDiff,reduceToNat,reduceLE,hQ,je,↓d9,↓l_,k0,k1,k2,k3,k4,k5,k6]
   simp [bF,k0,k1,k2,k3,k4,k5,k6]
def fU:dN:=fun args objs K=>match args with
 | [a0]=>gu av a0 (HK.mk:HK fun n=>(n.s.length≤4611686018427387904)∧K (.bool (bF n)) objs 0)
 | _=>False
theorem HZ:aD Tryz.prog 141 (fU):=by
 intro args objs K h
 unfold fU at h
 split at h
 · rename_i a0
   obtain ⟨n,rfl,h1,hk⟩:=h
   exact ⟨_,_,_,.pure _ rfl (KU n h1),hk⟩
 · exact h.elim
end Lp
namespace Lp
open Go Go.Proofs
open List (length_reverse map_cons map_map map_nil take_zero)
open Nat (lt_or_ge reduceAdd reduceLeDiff reduceMul reduceSub)
open Int (reduceLE reduceToNat)
def iE (o:zQ):PV:=.agg [.int .i64 o.kind,.int .i64 o.left,.bool o.first,.str o.last]
def Bg (l:List zQ):PV:=.sl 4 (l.map iE) none
theorem F_:∀ a b,iE a=iE b→a=b:=by
 intro a b h
 cases a;cases b
 simp only [iE,PV.agg.injEq,List.cons.injEq,PV.int.injEq,PV.str.injEq,PV.bool.injEq,true_and,and_true] at h
 obtain ⟨rfl,rfl,rfl,rfl⟩:=h
 rfl
theorem CJ :
  (∀ o,(iE o).cells=[.int .i64 o.kind,.int .i64 o.left,.bool o.first,.str o.last])∧(∀ o,(iE o).isAgg=true)∧(∀ o,(iE o).pure=true)∧(∀ d m O o,fJ d m O (iE o)=iE o)∧(∀ d m O o,gG d m O (iE o)=iE o)∧type_of% (aL F_):=
 ⟨fun _=>rfl,fun _=>rfl,fun _=>rfl,fun _ _ _ _=>rfl,fun _ _ _ _=>rfl,aL F_⟩
theorem hO:∀ l,Bg l=.sl 4 (l.map iE) none:=fun _=>rfl
theorem Jr:∀ a b,Bg a=Bg b→a=b:=ni hO F_
theorem inO:uE iE:=by intro d n o x;cases d <;> rfl
theorem Xl:type_of% CJ∧type_of% (rz hO)∧type_of% (jA hO)∧type_of% (rC hO)∧type_of% (aL Jr)∧type_of% (iJ hO inO):=
 ⟨CJ,rz hO,jA hO,rC hO,aL Jr,iJ hO inO⟩
def vR (o:zQ):Bool:=decide (0<o.left)
theorem QD (o:zQ):ai Tryz.prog 144 [iE o] [] (.bool (vR o)) []:=by
 unfold vR
 refine G_.bE (T:=aU Tryz.prog []) 0 hD (aj ah) aY (by decide) fun Q hQ=>?_
 (conv=>arg 4;cbv);simp(maxSteps:=400000)only[↓aN,aO,BEq.rfl,reduceIte,reduceCtorEq,Nat.reduceLT,reduceAdd,reduceSub,reduceMul,Nat.reduceBEq,reduceLeDiff,reduceToNat,reduceLE,hQ,iE]
def vS:dN:=fun args objs K=>match args with
 | [a0]=>gu iE a0 (HK.mk:HK fun o=>K (.bool (vR o)) objs 0)
 | _=>False
theorem NZ:aD Tryz.prog 144 (vS):=by
 intro args objs K h
 unfold vS at h
 split at h
 · rename_i a0
   obtain ⟨o,rfl,hk⟩:=h
   exact ⟨_,_,_,.pure _ rfl (QD o),hk⟩
 · exact h.elim
def idxOf {α:Type}(p:α→Bool) (l:List α):Int:=match l.findIdx? p with
 | some i=>i
 | none=>-1
theorem idxOf_hit {α:Type}{p:α→Bool}{l:List α}{i:Nat}{x:α}(h:l[i]?=some x) (hx:p x=true) (hb:∀ (j:Nat) y,j<i→l[j]?=some y→p y=false):idxOf p l=i:=by
 have:l.findIdx? p=some i:=by
  rw [List.findIdx?_eq_some_iff_getElem]
  obtain ⟨hi,he⟩:=List.getElem?_eq_some_iff.1 h
  refine ⟨hi,by rw [he];exact hx,fun j hj=>?_⟩
  have:=hb j _ hj (List.getElem?_eq_getElem (by omega))
  simp [this]
 simp [idxOf,this]
theorem zu {α:Type}{p:α→Bool}{l:List α}(hb:∀ (j:Nat) y,l[j]?=some y→p y=false):idxOf p l=-1:=by
 have:l.findIdx? p=none:=by
  rw [List.findIdx?_eq_none_iff]
  intro x hx
  obtain ⟨i,hi⟩:=List.mem_iff_getElem?.1 hx
  exact hb i x hi
 simp [idxOf,this]
theorem CK {α:Type}(p:α→Bool) (l:List α):decide (0≤idxOf p l)=l.any p:=by
 rw [Bool.eq_iff_iff,decide_eq_true_iff]
 cases h:l.findIdx? p with
 | none=>
  rw [List.findIdx?_eq_none_iff] at h
  have:l.any p=false:=by rw [List.any_eq_false];intro x hx;simp [h x hx]
  simp [idxOf,List.findIdx?_eq_none_iff.2 h,this]
 | some i=>
  have h':=h
  rw [List.findIdx?_eq_some_iff_getElem] at h'
  obtain ⟨hi,hp,_⟩:=h'
  have:l.any p=true:=List.any_eq_true.2 ⟨_,List.getElem_mem hi,hp⟩
  simp [idxOf,h,this]
theorem KV (l:List zQ) (hl:l.length≤4611686018427387904):ai Tryz.prog 170 [Bg l,.fn 144 [] []] [] (.int .i64 (idxOf vR l)) []:=by
 refine jL.bE (T:=aU Tryz.prog [(144,vS)]) 0 hD (aj (af NZ ah)) aY (by decide) fun Q hQ=>?_
 (conv=>arg 4;cbv);simp(maxSteps:=400000)only[↓aN,aO,BEq.rfl,reduceIte,reduceCtorEq,Nat.reduceLT,reduceAdd,reduceSub,reduceMul,Nat.reduceBEq,reduceLeDiff,reduceToNat,reduceLE,hQ,Xl]
 refine aH (fun m S=>∃ i:Nat,i+m=l.length∧(∀ (j:Nat) y,j<i→l[j]?=some y→vR y=false)∧S=⟨dU 19 [(0,Bg l),(1,.fn 144 [] []),(7,.int .i64 l.length),(8,.int .i64 i)],[]⟩) l.length ⟨0,by omega,fun j y h=>absurd h (Nat.not_lt_zero j),?_⟩ ?_
 · simp only [dh,keepR,reduceAdd,oC,Nat.reduceBEq,map_nil]
   rfl
 rintro m S ⟨i,him,hb,rfl⟩
 rcases lt_or_ge i l.length with h | h
 rotate_left 1
 · have hlt:((i:Int)<(l.length:Int))=False:=eq_false (by omega)
   have hr:=zu (l:=l) fun j y hj=>hb j y (by have:=(List.getElem?_eq_some_iff.1 hj).1;omega) hj
   simp(maxSteps:=400000)only[↓aN,aO,BEq.rfl,reduceIte,reduceCtorEq,Nat.reduceLT,reduceAdd,reduceSub,reduceMul,Nat.reduceBEq,reduceLeDiff,reduceToNat,reduceLE,hQ,hlt,hr]
 have hlt:((i:Int)<(l.length:Int))=True:=eq_true (by omega)
 have zi:(0≤(i:Int))=True:=eq_true (by omega)
 have hgi:=List.getElem?_eq_getElem h
 generalize l[i]=o at hgi
 cases hp:vR o
 rotate_left 1
 · have hr:idxOf vR l=i:=idxOf_hit hgi hp hb
   simp(maxSteps:=400000)only[↓aN,aO,BEq.rfl,reduceIte,reduceCtorEq,Nat.reduceLT,reduceAdd,reduceSub,reduceMul,Nat.reduceBEq,reduceLeDiff,reduceToNat,reduceLE,hQ,hlt,zi,Xl,hgi,↓vS,hp,hr]
 · simp(maxSteps:=400000)only[↓aN,aO,BEq.rfl,reduceIte,reduceCtorEq,Nat.reduceLT,reduceAdd,reduceSub,reduceMul,Nat.reduceBEq,reduceLeDiff,reduceToNat,reduceLE,hQ,hlt,zi,Xl,hgi,↓vS,hp]
   refine ⟨⟨by omega,by omega⟩,m-1,by omega,i+1,by omega,fun j y hj hy=>?_,rfl⟩
   rcases lt_or_ge j i with g | g
   · exact hb j y g hy
   · have:j=i:=by omega
     subst this
     rw [hgi] at hy;cases hy
     exact hp
def tJ:dN:=fun args objs K=>match args with
 | [a0,a1]=>gu Bg a0 (HK.mk:HK fun l=>a1=(.fn 144 [] [])∧(l.length≤4611686018427387904)∧K (.int .i64 (idxOf vR l)) objs 0)
 | _=>False
theorem H6:aD Tryz.prog 170 (tJ):=by
 intro args objs K h
 unfold tJ at h
 split at h
 · rename_i a0 a1
   obtain ⟨l,rfl,rfl,h1,hk⟩:=h
   exact ⟨_,_,_,.pure _ rfl (KV l h1),hk⟩
 · exact h.elim
theorem KW (l:List zQ) (hl:l.length≤4611686018427387904):ai Tryz.prog 143 [Bg l,.fn 144 [] []] [] (.bool (l.any vR)) []:=by
 refine jr.bE (T:=aU Tryz.prog [(170,tJ)]) 0 hD (aj (af H6 ah)) aY (by decide) fun Q hQ=>?_
 (conv=>arg 4;cbv);simp(maxSteps:=400000)only[↓aN,aO,BEq.rfl,reduceIte,reduceCtorEq,Nat.reduceLT,reduceAdd,reduceSub,reduceMul,Nat.reduceBEq,reduceLeDiff,reduceToNat,reduceLE,hQ,Xl,↓tJ,CK]
 exact hl
def tK:dN:=fun args objs K=>match args with
 | [a0,a1]=>gu Bg a0 (HK.mk:HK fun l=>a1=(.fn 144 [] [])∧(l.length≤4611686018427387904)∧K (.bool (l.any vR)) objs 0)
 | _=>False
theorem H7:aD Tryz.prog 143 (tK):=by
 intro args objs K h
 unfold tK at h
 split at h
 · rename_i a0 a1
   obtain ⟨l,rfl,rfl,h1,hk⟩:=h
   exact ⟨_,_,_,.pure _ rfl (KW l h1),hk⟩
 · exact h.elim
theorem nV (objs:List Obj) (K:KT) :
  (∀ k m,bD D 167 [(0,.int .i64 k),(1,.int .i64 m)] objs K=K (iE ⟨k,m,false,[]⟩) objs 0)∧
  (∀ k m b,bD D 167 [(0,.int .i64 k),(1,.int .i64 m),(2,.bool b)] objs K=K (iE ⟨k,m,b,[]⟩) objs 0):=by
 have z:aF (D 167)=iE ⟨0,0,false,[]⟩:=by kernel_rfl
 have a:(D 167).agg=true:=by kernel_rfl
 simp only [bL] at z a
 refine ⟨fun k m=>?_,fun k m b=>?_⟩
 all_goals
  simp [bD,kR,a,z,bL,lJ,iE,PV.isAgg,pE,PV.cells,PV.storable,PV.kW,PV.pure]
theorem zOl:(PV.uL (Value.agg { toList:=[Value.int IntKind.i64 0,Value.int IntKind.i64 0,Value.bool false,Value.string { data:={ toList:=[] } }] })).cells.length=4:=rfl
theorem zOs:(PV.uL (Value.agg { toList:=[Value.int IntKind.i64 0,Value.int IntKind.i64 0,Value.bool false,Value.string { data:={ toList:=[] } }] })).cells.all PV.storable=true:=rfl
def N7 (s:List zQ) (ver:Nat):Obj:=⟨167,4,s.reverse.map iE,true,ver⟩
theorem zw:(∀ (o:zQ) (m:Int),(iE o).putCells 1 [.int .i64 m]=iE { o with left:=m })∧(∀ (o:zQ) (b:Bool),(iE o).putCells 2 [.bool b]=iE { o with first:=b })∧(∀ (o:zQ) (t:List UInt8),(iE o).putCells 3 [.str t]=iE { o with last:=t }):=⟨fun _ _=>rfl,fun _ _=>rfl,fun _ _=>rfl⟩
theorem Ga (d n:Nat) (O:List Obj) (t:TypeId) (sz:Nat) (l:List zQ) (ver:Nat):gy d n O ⟨t,sz,l.map iE,true,ver⟩=⟨t,sz,l.map iE,true,ver⟩:=by
 have:(l.map iE).map (PV.bQ (fJ d n O))=l.map iE:=by
  rw [map_map]
  exact List.map_congr_left fun x _=>rfl
 simp only [gy,this]
theorem H8 (v:Vl) (hs:Small v):ai Tryz.prog 127 [aM v] [] (.bool (dG v)) []:=by
 have hl:=hs.len
 refine M5.bE (T:=aU Tryz.prog [(141,fU),(142,d9),(143,tK)]) 1 hD (aj (af HZ (af AU (af H7 ah)))) aY (by decide) fun Q hQ=>?_
 (conv=>arg 4;cbv);simp(maxSteps:=400000)only[↓aN,aO,BEq.rfl,reduceIte,reduceCtorEq,Nat.reduceLT,reduceAdd,reduceSub,reduceMul,Nat.reduceBEq,reduceLeDiff,reduceToNat,reduceLE,hQ,Hr,Ht,nV,zOl,zOs,CJ]
 refine aH (fun m S=>∃ (s:List zQ) (i ver:Nat),i+m=v.length∧EQ v.length s (v.drop i)=dG v∧s.length≤i+1∧(∀ o ∈ s,0≤o.left∧o.left≤1000000)∧S=⟨dU 123 [(0,aM v),(3,.bO 0 ver),(10,aM v),(11,.int .i64 v.length),(12,.int .i64 i)],[N7 s ver]⟩) v.length
  ⟨[⟨5,1,false,[]⟩],0,1,by omega,O8 v,by simp,by simp,?_⟩ ?_ (hz:=Nat.zero_le _)
 · simp only [dh,keepR,reduceAdd,oC,Nat.reduceBEq,map_nil]
   rfl
 rintro m S ⟨s,i,ver,him,hrun,hsl,hle,rfl⟩
 rcases lt_or_ge i v.length with h | h
 rotate_left 1
 · have hlt:((i:Int)<(v.length:Int))=False:=eq_false (by omega)
   have hr:dG v=Bool.not (s.any vR):=by
    rw [← hrun,List.drop_eq_nil_of_le h,EQ];rfl
   have hf:fJ 1 0 [⟨167,4,s.reverse.map iE,true,ver⟩] (.bO 0 ver)=Bg s.reverse:=by
    simp only [fJ,Nat.not_lt_zero,if_false,jl,List.getElem?_cons_zero,Nat.le_refl,decide_true,Bool.true_and,beq_self_eq_true,if_true]
    rw [map_map]
    rfl
   unfold N7
   simp(maxSteps:=400000)only[↓aN,aO,BEq.rfl,reduceIte,reduceCtorEq,Nat.reduceLT,reduceAdd,reduceSub,reduceMul,Nat.reduceBEq,reduceLeDiff,reduceToNat,reduceLE,hQ,hlt]
   refine aT _ (Weak.freeze 1 0 (Nat.zero_le _) _) ?_
   rcases Nat.eq_zero_or_pos v.length with h0 | h0
   · have h0':((0:Int)<(v.length:Int))=False:=eq_false (by omega)
     have hrf:dG v=false:=by
      have:v=[]:=List.length_eq_zero_iff.1 h0
      rw [this];rfl
     simp(maxSteps:=400000)only[↓aN,aO,BEq.rfl,reduceIte,reduceCtorEq,Nat.reduceLT,reduceAdd,reduceSub,reduceMul,Nat.reduceBEq,reduceLeDiff,reduceToNat,reduceLE,hQ,h0',hrf]
   · have h0':((0:Int)<(v.length:Int))=True:=eq_true (by omega)
     simp(maxSteps:=400000)only[↓aN,aO,BEq.rfl,reduceIte,reduceCtorEq,Nat.reduceLT,reduceAdd,reduceSub,reduceMul,Nat.reduceBEq,reduceLeDiff,reduceToNat,reduceLE,hQ,h0',hf,Xl,↓tK]
     exact ⟨by rw [length_reverse];omega,by rw [hr,List.any_reverse]⟩
 have hlt:((i:Int)<(v.length:Int))=True:=eq_true (by omega)
 have zi:(0≤(i:Int))=True:=eq_true (by omega)
 have hgi:=List.getElem?_eq_getElem h
 have hdi:=List.drop_eq_getElem_cons h
 have htx:=hs.txt _ (List.getElem_mem h)
 generalize v[i]=n at hgi hdi htx
 simp(maxSteps:=400000)only[↓aN,aO,BEq.rfl,reduceIte,reduceCtorEq,Nat.reduceLT,reduceAdd,reduceSub,reduceMul,Nat.reduceBEq,reduceLeDiff,reduceToNat,reduceLE,hQ,hlt,zi,hgi,Hr,Ht,bI,bJ]
 rw [hdi] at hrun
 have hll:(n.many≤(v.length:Int))=(n.many≤(v.length:Int)):=rfl
 refine aH (fun m' S=>∃ (s':List zQ) (H9:Nat),s'.length=m'∧s'.dropWhile (fun o=>o.left==0)=s.dropWhile (fun o=>o.left==0)∧s'.length≤i+1∧(∀ o ∈ s',0≤o.left∧o.left≤1000000)∧
  S=⟨dU 123 [(0,aM v),(3,.bO 0 H9),(5,.bM 1 1 0 0),(10,aM v),(11,.int .i64 v.length),(12,.int .i64 i)],[N7 s' H9,⟨27,6,[av n],true,1⟩]⟩) s.length ⟨s,ver,rfl,rfl,hsl,hle,?_⟩ ?_
 · simp only [dh,keepR,reduceAdd,oC,Nat.reduceBEq,map_nil]
 rintro m' S ⟨s',H9,hm',hdw,adb,hle',rfl⟩
 cases s' with
 | nil=>
  have h00:((0:Int)<((0:Nat):Int))=False:=eq_false (by omega)
  have h01:(((0:Nat):Int)=0)=True:=eq_true rfl
  have hr:dG v=false:=by rw [← hrun,EQ,← hdw];rfl
  unfold N7
  simp(maxSteps:=400000)only[↓aN,aO,BEq.rfl,reduceIte,reduceCtorEq,Nat.reduceLT,reduceAdd,reduceSub,reduceMul,Nat.reduceBEq,reduceLeDiff,reduceToNat,reduceLE,hQ,h00,h01,hr,List.reverse_nil]
 | cons o t=>
 have hst:∀ w,N7 (o::t) w=⟨167,4,t.reverse.map iE++[iE o],true,w⟩:=fun w=>by simp [N7]
 have hget:∀ x:PV,(t.reverse.map iE++[x])[t.length]?=some x:=fun x=>by rw [List.getElem?_append_right (by simp)];simp
 have hset:∀ x y:PV,(t.reverse.map iE++[x]).set t.length y=t.reverse.map iE++[y]:=fun x y=>by rw [List.set_append_right _ _ (by simp)];simp
 have hpos:((0:Int)<((t.length+1:Nat):Int))=True:=eq_true (by omega)
 have hne0:(((t.length+1:Nat):Int)=0)=False:=eq_false (by omega)
 have t1:(((t.length+1:Nat):Int)-1).toNat=t.length:=by omega
 have z1:(0≤((t.length+1:Nat):Int)-1)=True:=eq_true (by omega)
 have X_:(((t.length+1:Nat):Int)-1<((t.length+1:Nat):Int))=True:=eq_true (by omega)
 have Ya:(((t.length+1:Nat):Int)-1≤((t.length+1:Nat):Int))=True:=eq_true (by omega)
 simp only [List.length_cons] at adb hm'
 have i1:(-9223372036854775808≤((t.length+1:Nat):Int)-1∧((t.length+1:Nat):Int)-1≤9223372036854775807)=True:=eq_true ⟨by omega,by omega⟩
 have hlo:=hle' o (by simp)
 by_cases h0:o.left=0
 · have h0':(o.left=0)=True:=eq_true h0
   rw [hst]
   simp(maxSteps:=400000)only[↓aN,aO,BEq.rfl,reduceIte,reduceCtorEq,Nat.reduceLT,reduceAdd,reduceSub,reduceMul,Nat.reduceBEq,reduceLeDiff,reduceToNat,reduceLE,hQ,hpos,t1,z1,X_,Ya,i1,hget,hset,h0',CJ,length_reverse]
   refine ⟨m'-1,by omega,t,H9+1,by omega,?_,by omega,fun x hx=>hle' x (List.mem_cons_of_mem _ hx),?_⟩
   · rw [← hdw];exact (List.dropWhile_cons_of_pos (by simpa using h0)).symm
   · rw [List.take_left' (by simp)];rfl
 have h0':(o.left=0)=False:=eq_false h0
 have ade:s.dropWhile (fun o=>o.left==0)=o::t:=by rw [← hdw];exact List.dropWhile_cons_of_neg (by simpa using h0)
 have hstep:dG v=(bF n && decide (n.many≤v.length) && fC o n.name && EQ v.length (⟨n.kind,n.many,true,[]⟩::⟨o.kind,o.left-1,false,n.name⟩::t) (v.drop (i+1))):=by
  rw [← hrun,EQ,ade]
 rw [hst]
 cases hpl:bF n
 · have hr:dG v=false:=by rw [hstep,hpl];rfl
   simp(maxSteps:=400000)only[↓aN,aO,BEq.rfl,reduceIte,reduceCtorEq,Nat.reduceLT,reduceAdd,reduceSub,reduceMul,Nat.reduceBEq,reduceLeDiff,reduceToNat,reduceLE,hQ,hpos,hne0,t1,z1,X_,Ya,i1,hget,hset,h0',CJ,length_reverse,↓fU,hpl,hr]
   exact htx.1
 by_cases hmL:n.many≤v.length
 rotate_left 1
 · have KX:((v.length:Int)<n.many)=True:=eq_true (by omega)
   have hr:dG v=false:=by rw [hstep,decide_eq_false hmL];simp
   simp(maxSteps:=400000)only[↓aN,aO,BEq.rfl,reduceIte,reduceCtorEq,Nat.reduceLT,reduceAdd,reduceSub,reduceMul,Nat.reduceBEq,reduceLeDiff,reduceToNat,reduceLE,hQ,hpos,hne0,t1,z1,X_,Ya,i1,hget,hset,h0',CJ,length_reverse,↓fU,hpl,KX,hr]
   exact htx.1
 have KX:((v.length:Int)<n.many)=False:=eq_false (by omega)
 have hm0:0≤n.many:=by
  by_cases hk:n.kind=5∨n.kind=6
  · exact (BP hpl hk).1
  · rw [sH hpl hk];exact Int.le_refl 0
 have hA:∀ x y:zQ,t.reverse.map iE++[iE x]++[iE y]=(t.reverse++[x,y]).map iE:=fun x y=>by simp
 have fin:∀ hn:fC o n.name=true,∃ acj,acj<m∧∃ (s:List zQ) (Ev ver:Nat),Ev+acj=v.length∧EQ v.length s (v.drop Ev)=dG v∧s.length≤Ev+1∧(∀ o ∈ s,0≤o.left∧o.left≤1000000)∧
     (⟨dU 123 [(0,aM v),(3,.bO 0 (H9+1)),(10,aM v),(11,.int .i64 v.length),(12,.int .i64 ((i:Int)+1))],[⟨167,4,t.reverse.map iE++[iE ⟨o.kind,o.left-1,false,n.name⟩]++[iE ⟨n.kind,n.many,true,[]⟩],true,H9+1⟩]⟩:St)=
     ⟨dU 123 [(0,aM v),(3,.bO 0 ver),(10,aM v),(11,.int .i64 v.length),(12,.int .i64 Ev)],[N7 s ver]⟩:=fun hn=>by
  refine ⟨m-1,by omega,⟨n.kind,n.many,true,[]⟩::⟨o.kind,o.left-1,false,n.name⟩::t,i+1,H9+1,by omega,?_,by simp only [List.length_cons];omega,fun x hx=>?_,?_⟩
  · rw [hstep,hpl,hn,decide_eq_true hmL];simp
  · rcases List.mem_cons.1 hx with rfl | hx
    · exact ⟨hm0,by simp only;omega⟩
    · rcases List.mem_cons.1 hx with rfl | hx
      · simp only;omega
      · exact hle' x (List.mem_cons_of_mem _ hx)
  · simp [N7]
 by_cases k6:o.kind=6
 rotate_left 1
 · have k6':(o.kind=6)=False:=eq_false k6
   by_cases hnm:n.name=[]
   rotate_left 1
   · have hnm':(n.name=[])=False:=eq_false hnm
     have hr:dG v=false:=by
      have:fC o n.name=false:=by simp [fC,k6,hnm]
      rw [hstep,this];simp
     simp(maxSteps:=400000)only[↓aN,aO,BEq.rfl,reduceIte,reduceCtorEq,Nat.reduceLT,reduceAdd,reduceSub,reduceMul,Nat.reduceBEq,reduceLeDiff,reduceToNat,reduceLE,hQ,hpos,hne0,t1,z1,X_,Ya,i1,hget,hset,h0',CJ,length_reverse,↓fU,hpl,KX,k6',dH,zw,nV,zOl,zOs,hnm',hr]
     exact htx.1
   · have hnm':(n.name=[])=True:=eq_true hnm
     simp(maxSteps:=400000)only[↓aN,aO,BEq.rfl,reduceIte,reduceCtorEq,Nat.reduceLT,reduceAdd,reduceSub,reduceMul,Nat.reduceBEq,reduceLeDiff,reduceToNat,reduceLE,hQ,hpos,hne0,t1,z1,X_,Ya,i1,hget,hset,h0',CJ,length_reverse,↓fU,hpl,KX,k6',dH,zw,nV,zOl,zOs,hnm']
     have hn:fC o n.name=true:=by simp [fC,k6,hnm]
     obtain ⟨m1,e0,s1,j1,w1,e1,e2,e3,e4,e5⟩:=fin hn
     refine ⟨htx.1,⟨by omega,by omega⟩,rfl,by omega,by omega,⟨by omega,by omega⟩,m1,e0,s1,j1,w1,e1,e2,e3,e4,?_⟩
     rw [← e5]
     simp only [hA,List.take_succ_cons,take_zero,map_cons (f:=gy _ _ _),map_nil,Ga]
     rfl
 have k6':(o.kind=6)=True:=eq_true k6
 cases hu:utf n.name
 · have hr:dG v=false:=by
    have:fC o n.name=false:=by simp [fC,k6,hu]
    rw [hstep,this];simp
   simp(maxSteps:=400000)only[↓aN,aO,BEq.rfl,reduceIte,reduceCtorEq,Nat.reduceLT,reduceAdd,reduceSub,reduceMul,Nat.reduceBEq,reduceLeDiff,reduceToNat,reduceLE,hQ,hpos,hne0,t1,z1,X_,Ya,i1,hget,hset,h0',CJ,length_reverse,↓fU,hpl,KX,k6',dH,zw,nV,zOl,zOs,↓d9,hu,hr]
   exact ⟨htx.1,htx.2⟩
 cases hfst:o.first
 rotate_left 1
 · have hn:fC o n.name=true:=by simp [fC,k6,hu,hfst]
   simp(maxSteps:=400000)only[↓aN,aO,BEq.rfl,reduceIte,reduceCtorEq,Nat.reduceLT,reduceAdd,reduceSub,reduceMul,Nat.reduceBEq,reduceLeDiff,reduceToNat,reduceLE,hQ,hpos,hne0,t1,z1,X_,Ya,i1,hget,hset,h0',CJ,length_reverse,↓fU,hpl,KX,k6',dH,zw,nV,zOl,zOs,↓d9,hu,hfst]
   obtain ⟨m1,e0,s1,j1,w1,e1,e2,e3,e4,e5⟩:=fin hn
   refine ⟨htx.1,htx.2,⟨by omega,by omega⟩,rfl,by omega,by omega,⟨by omega,by omega⟩,m1,e0,s1,j1,w1,e1,e2,e3,e4,?_⟩
   rw [← e5]
   simp only [hA,List.take_succ_cons,take_zero,map_cons (f:=gy _ _ _),map_nil,Ga]
   rfl
 cases hbl:Op.bytesLess n.name o.last
 rotate_left 1
 · have hr:dG v=false:=by
    have:fC o n.name=false:=by simp [fC,k6,hu,hfst,lD _ _ hbl]
    rw [hstep,this];simp
   simp(maxSteps:=400000)only[↓aN,aO,BEq.rfl,reduceIte,reduceCtorEq,Nat.reduceLT,reduceAdd,reduceSub,reduceMul,Nat.reduceBEq,reduceLeDiff,reduceToNat,reduceLE,hQ,hpos,hne0,t1,z1,X_,Ya,i1,hget,hset,h0',CJ,length_reverse,↓fU,hpl,KX,k6',dH,zw,nV,zOl,zOs,↓d9,hu,hfst,hbl,hr]
   exact ⟨htx.1,htx.2⟩
 by_cases heq:n.name=o.last
 · have heq':(n.name=o.last)=True:=eq_true heq
   have hr:dG v=false:=by
    have:fC o n.name=false:=by simp [fC,k6,hu,hfst,heq,dY]
    rw [hstep,this];simp
   simp(maxSteps:=400000)only[↓aN,aO,BEq.rfl,reduceIte,reduceCtorEq,Nat.reduceLT,reduceAdd,reduceSub,reduceMul,Nat.reduceBEq,reduceLeDiff,reduceToNat,reduceLE,hQ,hpos,hne0,t1,z1,X_,Ya,i1,hget,hset,h0',CJ,length_reverse,↓fU,hpl,KX,k6',dH,zw,nV,zOl,zOs,↓d9,hu,hfst,hbl,heq',hr]
   exact ⟨htx.1,htx.2⟩
 · have heq':(n.name=o.last)=False:=eq_false heq
   have hn:fC o n.name=true:=by
    have:Op.bytesLess o.last n.name=true:=by
     rcases BN o.last n.name with g | g | g
     · exact g
     · exact absurd g.symm heq
     · rw [g] at hbl;cases hbl
    simp [fC,k6,hu,this]
   simp(maxSteps:=400000)only[↓aN,aO,BEq.rfl,reduceIte,reduceCtorEq,Nat.reduceLT,reduceAdd,reduceSub,reduceMul,Nat.reduceBEq,reduceLeDiff,reduceToNat,reduceLE,hQ,hpos,hne0,t1,z1,X_,Ya,i1,hget,hset,h0',CJ,length_reverse,↓fU,hpl,KX,k6',dH,zw,nV,zOl,zOs,↓d9,hu,hfst,hbl,heq']
   obtain ⟨m1,e0,s1,j1,w1,e1,e2,e3,e4,e5⟩:=fin hn
   refine ⟨htx.1,htx.2,⟨by omega,by omega⟩,rfl,by omega,by omega,⟨by omega,by omega⟩,m1,e0,s1,j1,w1,e1,e2,e3,e4,?_⟩
   rw [← e5]
   simp only [hA,List.take_succ_cons,take_zero,map_cons (f:=gy _ _ _),map_nil,Ga]
   rfl
def nW:dN:=fun args objs K=>match args with
 | [a0]=>gu aM a0 (HK.mk:HK fun v=>(Small v)∧K (.bool (dG v)) objs 0)
 | _=>False
theorem Gb:aD Tryz.prog 127 (nW):=by
 intro args objs K h
 unfold nW at h
 split at h
 · rename_i a0
   obtain ⟨v,rfl,h1,hk⟩:=h
   exact ⟨_,_,_,.pure _ rfl (H8 v h1),hk⟩
 · exact h.elim
end Lp
namespace Lp
open Go Go.Proofs
open Nat (reduceAdd reduceLeDiff reduceMul reduceSub zero_le)
open Int (reduceEq reduceLE reduceToNat)
def oP (n:Nd):Prop:=n.s.length≤4611686018427387904∧n.name.length≤4611686018427387904
theorem oP.small {n:Nd}(h:oP n):Small [n]:=⟨by simp,fun m hm=>by rw [List.mem_singleton] at hm;subst hm;exact h⟩
theorem N8 (n:Nd) (h:oP n):ai Tryz.prog 115 [av n] [] (.bool (qg n)) []:=by
 unfold qg
 refine FL.bE (T:=aU Tryz.prog [(127,nW)]) 0 hD (aj (af Gb ah)) aY (by decide) fun Q hQ=>?_
 (conv=>arg 4;cbv);simp(maxSteps:=400000)only[↓aQ,aR,BEq.rfl,reduceIte,reduceCtorEq,Nat.reduceLT,reduceAdd,reduceSub,reduceMul,Nat.reduceBEq,reduceLeDiff,reduceToNat,reduceLE,hQ]
 refine aT _ (Weak.freeze 1 0 (zero_le _) _) ?_
 rcases tf (n.kind<5) with hk | hk
 · simp(maxSteps:=400000)only[↓aQ,aR,BEq.rfl,reduceIte,reduceCtorEq,Nat.reduceLT,reduceAdd,reduceSub,reduceMul,Nat.reduceBEq,reduceLeDiff,reduceToNat,reduceLE,hQ,je,hk,↓nW,bI,bJ,Bool.false_and]
   exact h.small
 · simp(maxSteps:=400000)only[↓aQ,aR,BEq.rfl,reduceIte,reduceCtorEq,Nat.reduceLT,reduceAdd,reduceSub,reduceMul,Nat.reduceBEq,reduceLeDiff,reduceToNat,reduceLE,hQ,je,hk,↓nW,bI,bJ,Bool.false_and]
def o8:dN:=fun args objs K=>match args with
 | [a0]=>gu av a0 (HK.mk:HK fun n=>(oP n)∧K (.bool (qg n)) objs 0)
 | _=>False
theorem KY:aD Tryz.prog 115 (o8):=by
 intro args objs K h
 unfold o8 at h
 split at h
 · rename_i a0
   obtain ⟨n,rfl,h1,hk⟩:=h
   exact ⟨_,_,_,.pure _ rfl (N8 n h1),hk⟩
 · exact h.elim
theorem N9 (n:Nd) (h:oP n):ai Tryz.prog 26 [av n] [] (.bool (qg n)) []:=by
 unfold qg
 refine yY.bE (T:=aU Tryz.prog [(36,vQ)]) 0 hD (aj (af Nk ah)) aY (by decide) fun Q hQ=>?_
 (conv=>arg 4;cbv);simp(maxSteps:=400000)only[↓aQ,aR,BEq.rfl,reduceIte,reduceCtorEq,Nat.reduceLT,reduceAdd,reduceSub,reduceMul,Nat.reduceBEq,reduceLeDiff,reduceToNat,reduceLE,hQ]
 refine aT _ (Weak.freeze 1 0 (zero_le _) _) ?_
 rcases tf (n.kind<5) with hk | hk
 · simp(maxSteps:=400000)only[↓aQ,aR,BEq.rfl,reduceIte,reduceCtorEq,Nat.reduceLT,reduceAdd,reduceSub,reduceMul,Nat.reduceBEq,reduceLeDiff,reduceToNat,reduceLE,hQ,je,hk,↓vQ,bI,bJ,Bool.false_and]
   exact h.small
 · simp(maxSteps:=400000)only[↓aQ,aR,BEq.rfl,reduceIte,reduceCtorEq,Nat.reduceLT,reduceAdd,reduceSub,reduceMul,Nat.reduceBEq,reduceLeDiff,reduceToNat,reduceLE,hQ,je,hk,↓vQ,bI,bJ,Bool.false_and]
def lm:dN:=fun args objs K=>match args with
 | [a0]=>gu av a0 (HK.mk:HK fun n=>(oP n)∧K (.bool (qg n)) objs 0)
 | _=>False
theorem Bh:aD Tryz.prog 26 (lm):=by
 intro args objs K h
 unfold lm at h
 split at h
 · rename_i a0
   obtain ⟨n,rfl,h1,hk⟩:=h
   exact ⟨_,_,_,.pure _ rfl (N9 n h1),hk⟩
 · exact h.elim
theorem N_ (a:f_) (h:oP a.c):ai Tryz.prog 9 [bP a] [] (.bool (gY a)) []:=by
 unfold gY
 refine yZ.bE (T:=aU Tryz.prog [(26,lm)]) 0 hD (aj (af Bh ah)) aY (by decide) fun Q hQ=>?_
 (conv=>arg 4;cbv);simp(maxSteps:=400000)only[↓aQ,aR,BEq.rfl,reduceIte,reduceCtorEq,Nat.reduceLT,reduceAdd,reduceSub,reduceMul,Nat.reduceBEq,reduceLeDiff,reduceToNat,reduceLE,hQ]
 refine aT _ (Weak.freeze 1 0 (zero_le _) _) ?_
 rcases tf (0≤a.n) with h1 | h1
 rotate_left 1
 · simp(maxSteps:=400000)only[↓aQ,aR,BEq.rfl,reduceIte,reduceCtorEq,Nat.reduceLT,reduceAdd,reduceSub,reduceMul,Nat.reduceBEq,reduceLeDiff,reduceToNat,reduceLE,hQ,Na,h1,Bool.false_and]
 rcases tf (a.n≤5) with h2 | h2
 rotate_left 1
 · simp(maxSteps:=400000)only[↓aQ,aR,BEq.rfl,reduceIte,reduceCtorEq,Nat.reduceLT,reduceAdd,reduceSub,reduceMul,Nat.reduceBEq,reduceLeDiff,reduceToNat,reduceLE,hQ,Na,h1,h2,Bool.false_and,Bool.and_false]
 simp(maxSteps:=400000)only[↓aQ,aR,BEq.rfl,reduceIte,reduceCtorEq,Nat.reduceLT,reduceAdd,reduceSub,reduceMul,Nat.reduceBEq,reduceLeDiff,reduceToNat,reduceLE,hQ,Na,h1,h2,↓lm]
 exact h
def jE:dN:=fun args objs K=>match args with
 | [a0]=>gu bP a0 (HK.mk:HK fun a=>(oP a.c)∧K (.bool (gY a)) objs 0)
 | _=>False
theorem Bj:aD Tryz.prog 9 (jE):=by
 intro args objs K h
 unfold jE at h
 split at h
 · rename_i a0
   obtain ⟨a,rfl,h1,hk⟩:=h
   exact ⟨_,_,_,.pure _ rfl (N_ a h1),hk⟩
 · exact h.elim
theorem Gc (how c:Int):(how=0∧nG how c=decide (c=0))∨(how=1∧nG how c=!decide (c=0))∨(how=2∧nG how c=decide (c<0))∨(how=3∧nG how c=decide (c≤0))∨(how=4∧nG how c=decide (0<c))∨
  ((how=0)=False∧(how=1)=False∧(how=2)=False∧(how=3)=False∧(how=4)=False∧nG how c=decide (0≤c)):=by
 by_cases h0:how=0
 · exact .inl ⟨h0,by simp [nG,h0]⟩
 by_cases h1:how=1
 · exact .inr (.inl ⟨h1,by simp [nG,h1]⟩)
 by_cases h2:how=2
 · exact .inr (.inr (.inl ⟨h2,by simp [nG,h2]⟩))
 by_cases h3:how=3
 · exact .inr (.inr (.inr (.inl ⟨h3,by simp [nG,h3]⟩)))
 by_cases h4:how=4
 · exact .inr (.inr (.inr (.inr (.inl ⟨h4,by simp [nG,h4]⟩))))
 · exact .inr (.inr (.inr (.inr (.inr ⟨eq_false h0,eq_false h1,eq_false h2,eq_false h3,eq_false h4,by simp [nG,h0,h1,h2,h3,h4]⟩))))
theorem UK (how c:Int):ai Tryz.prog 50 [.int .i64 how,.int .i64 c] [] (.bool (nG how c)) []:=by
 refine Av.bE (T:=aU Tryz.prog []) 0 hD (aj ah) aY (by decide) fun Q hQ=>?_
 rcases Gc how c with ⟨h,hr⟩ | ⟨h,hr⟩ | ⟨h,hr⟩ | ⟨h,hr⟩ | ⟨h,hr⟩ | ⟨k0,k1,k2,k3,k4,hr⟩
 · rw [h] at hr
   (conv=>arg 4;cbv);simp(maxSteps:=400000)only[↓aQ,aR,BEq.rfl,reduceIte,reduceCtorEq,Nat.reduceLT,reduceAdd,reduceSub,reduceMul,Nat.reduceBEq,reduceLeDiff,reduceToNat,reduceLE,hQ,hr,h]
 · rw [h] at hr
   (conv=>arg 4;cbv);simp(maxSteps:=400000)only[↓aQ,aR,BEq.rfl,reduceIte,reduceCtorEq,Nat.reduceLT,reduceAdd,reduceSub,reduceMul,Nat.reduceBEq,reduceLeDiff,reduceToNat,reduceLE,hQ,hr,h,reduceEq]
 · rw [h] at hr
   (conv=>arg 4;cbv);simp(maxSteps:=400000)only[↓aQ,aR,BEq.rfl,reduceIte,reduceCtorEq,Nat.reduceLT,reduceAdd,reduceSub,reduceMul,Nat.reduceBEq,reduceLeDiff,reduceToNat,reduceLE,hQ,hr,h,reduceEq]
 · rw [h] at hr
   (conv=>arg 4;cbv);simp(maxSteps:=400000)only[↓aQ,aR,BEq.rfl,reduceIte,reduceCtorEq,Nat.reduceLT,reduceAdd,reduceSub,reduceMul,Nat.reduceBEq,reduceLeDiff,reduceToNat,reduceLE,hQ,hr,h,reduceEq]
 · rw [h] at hr
   (conv=>arg 4;cbv);simp(maxSteps:=400000)only[↓aQ,aR,BEq.rfl,reduceIte,reduceCtorEq,Nat.reduceLT,reduceAdd,reduceSub,reduceMul,Nat.reduceBEq,reduceLeDiff,reduceToNat,reduceLE,hQ,hr,h,reduceEq]
 · (conv=>arg 4;cbv);simp(maxSteps:=400000)only[↓aQ,aR,BEq.rfl,reduceIte,reduceCtorEq,Nat.reduceLT,reduceAdd,reduceSub,reduceMul,Nat.reduceBEq,reduceLeDiff,reduceToNat,reduceLE,hQ,k0,k1,k2,k3,k4,hr]
def ED:dN:=fun args objs K=>match args with
 | [.int .i64 how,.int .i64 c]=>K (.bool (nG how c)) objs 0
 | _=>False
theorem QE:aD Tryz.prog 50 (ED):=by
 intro args objs K h
 unfold ED at h
 split at h
 · rename_i how c
   have hk:=h
   exact ⟨_,_,_,.pure _ rfl (UK how c),hk⟩
 · exact h.elim
structure eP (n:Nd):Prop where
 sc:qg n=true
 len:n.s.length≤1000000
theorem eP.few {n:Nd}(h:eP n):aci [n] 1:=by
 have hr:dG [n]=true:=by
  have:=h.sc
  simp only [qg,Bool.and_eq_true] at this
  exact this.2
 have hrt:=wz hr
 have hpl:=KQ hr
 refine ⟨by simp,hrt,⟨hrt.one,by simp,fun m hm=>?_⟩,⟨hrt.one,by simp,fun m hm hk3=>Sq (pW (hpl m hm) hk3)⟩⟩
 have hp:=hpl m hm
 rw [List.mem_singleton] at hm
 subst hm
 exact UH hp h.len
theorem Oa (a:f_) (n:Nd) (ha:eP a.c) (hn:eP n):ai Tryz.prog 117 [bP a,av n] [] (.bool (ko a n)) []:=by
 obtain ⟨f,hf⟩:∃ f:Nat,f=1:=⟨1,rfl⟩
 have hh:ko a n=nG a.n (qM f [n] [a.c]):=by rw [hf];rfl
 rw [hh]
 have hl:[n].length≤f:=by rw [hf];exact Nat.le_refl _
 have o1:=hn.few.ok
 have o2:=ha.few.ok
 refine Ki.bE (T:=aU Tryz.prog [(128,(wX f))]) 0 hD (aj (af (KO f) ah)) aY (by decide) fun Q hQ=>?_
 generalize hc:qM f [n] [a.c]=c
 (conv=>arg 4;cbv);simp(maxSteps:=400000)only[↓aQ,aR,BEq.rfl,reduceIte,reduceCtorEq,Nat.reduceLT,reduceAdd,reduceSub,reduceMul,Nat.reduceBEq,reduceLeDiff,reduceToNat,reduceLE,hQ]
 refine aT _ (Weak.freeze 1 0 (zero_le _) _) ?_
 simp(maxSteps:=400000)only[↓aQ,aR,BEq.rfl,reduceIte,reduceCtorEq,Nat.reduceLT,reduceAdd,reduceSub,reduceMul,Nat.reduceBEq,reduceLeDiff,reduceToNat,reduceLE,hQ,WE,WG,↓wX,hc,bI,bJ]
 refine ⟨hl,o1,o2,?_⟩
 rcases Gc a.n c with ⟨h,hr⟩ | ⟨h,hr⟩ | ⟨h,hr⟩ | ⟨h,hr⟩ | ⟨h,hr⟩ | ⟨k0,k1,k2,k3,k4,hr⟩
 · rw [h] at hr
   simp(maxSteps:=400000)only[↓aQ,aR,BEq.rfl,reduceIte,reduceCtorEq,Nat.reduceLT,reduceAdd,reduceSub,reduceMul,Nat.reduceBEq,reduceLeDiff,reduceToNat,reduceLE,hQ,hr,h]
 · rw [h] at hr
   simp(maxSteps:=400000)only[↓aQ,aR,BEq.rfl,reduceIte,reduceCtorEq,Nat.reduceLT,reduceAdd,reduceSub,reduceMul,Nat.reduceBEq,reduceLeDiff,reduceToNat,reduceLE,hQ,hr,h,reduceEq]
 · rw [h] at hr
   simp(maxSteps:=400000)only[↓aQ,aR,BEq.rfl,reduceIte,reduceCtorEq,Nat.reduceLT,reduceAdd,reduceSub,reduceMul,Nat.reduceBEq,reduceLeDiff,reduceToNat,reduceLE,hQ,hr,h,reduceEq]
 · rw [h] at hr
   simp(maxSteps:=400000)only[↓aQ,aR,BEq.rfl,reduceIte,reduceCtorEq,Nat.reduceLT,reduceAdd,reduceSub,reduceMul,Nat.reduceBEq,reduceLeDiff,reduceToNat,reduceLE,hQ,hr,h,reduceEq]
 · rw [h] at hr
   simp(maxSteps:=400000)only[↓aQ,aR,BEq.rfl,reduceIte,reduceCtorEq,Nat.reduceLT,reduceAdd,reduceSub,reduceMul,Nat.reduceBEq,reduceLeDiff,reduceToNat,reduceLE,hQ,hr,h,reduceEq]
 · simp(maxSteps:=400000)only[↓aQ,aR,BEq.rfl,reduceIte,reduceCtorEq,Nat.reduceLT,reduceAdd,reduceSub,reduceMul,Nat.reduceBEq,reduceLeDiff,reduceToNat,reduceLE,hQ,k0,k1,k2,k3,k4,hr]
def w9:dN:=fun args objs K=>match args with
 | [a0,a1]=>gu bP a0 (HK.mk:HK fun a=>gu av a1 (HK.mk:HK fun n=>(eP a.c)∧(eP n)∧K (.bool (ko a n)) objs 0))
 | _=>False
theorem KZ:aD Tryz.prog 117 (w9):=by
 intro args objs K h
 unfold w9 at h
 split at h
 · rename_i a0 a1
   obtain ⟨a,rfl,n,rfl,h1,h2,hk⟩:=h
   exact ⟨_,_,_,.pure _ rfl (Oa a n h1 h2),hk⟩
 · exact h.elim
theorem Ob (a:f_) (n:Nd) (ha:eP a.c) (hn:eP n):ai Tryz.prog 19 [bP a,av n] [] (.bool (ko a n)) []:=by
 obtain ⟨f,hf⟩:∃ f:Nat,f=1:=⟨1,rfl⟩
 have hh:ko a n=nG a.n (jh kL f [n] [a.c]):=by rw [hf,NY 1 _ _ hn.few.rt ha.few.rt];rfl
 rw [hh]
 have hl:[n].length≤f:=by rw [hf];exact Nat.le_refl _
 have o1:=hn.few.ok2
 have o2:=ha.few.ok2
 refine y7.bE (T:=aU Tryz.prog [(51,(EC f)),(50,ED)]) 0 hD (aj (af (QB f) (af QE ah))) aY (by decide) fun Q hQ=>?_
 (conv=>arg 4;cbv);simp(maxSteps:=400000)only[↓aQ,aR,BEq.rfl,reduceIte,reduceCtorEq,Nat.reduceLT,reduceAdd,reduceSub,reduceMul,Nat.reduceBEq,reduceLeDiff,reduceToNat,reduceLE,hQ]
 refine aT _ (Weak.freeze 1 0 (zero_le _) _) ?_
 simp(maxSteps:=400000)only[↓aQ,aR,BEq.rfl,reduceIte,reduceCtorEq,Nat.reduceLT,reduceAdd,reduceSub,reduceMul,Nat.reduceBEq,reduceLeDiff,reduceToNat,reduceLE,hQ,WE,WG,↓EC,↓ED,bI,bJ]
 exact ⟨hl,o1,o2⟩
def rR:dN:=fun args objs K=>match args with
 | [a0,a1]=>gu bP a0 (HK.mk:HK fun a=>gu av a1 (HK.mk:HK fun n=>(eP a.c)∧(eP n)∧K (.bool (ko a n)) objs 0))
 | _=>False
theorem K3:aD Tryz.prog 19 (rR):=by
 intro args objs K h
 unfold rR at h
 split at h
 · rename_i a0 a1
   obtain ⟨a,rfl,n,rfl,h1,h2,hk⟩:=h
   exact ⟨_,_,_,.pure _ rfl (Ob a n h1 h2),hk⟩
 · exact h.elim
end Lp
namespace Lp
open Go Go.Proofs
end Lp
namespace Lp
open Go
structure Xm (names:List (List UInt8)) (l:List Vl) (q:IG) (done:List Bool) (m:Nat):Prop where
 par:names.length=l.length
 len:done.length=names.length
 cnt:q.length+m=names.length
 left:done.count false=m
 mem:∀ x:List UInt8×Vl,x ∈ q↔∃ i:Nat,done[i]?=some true∧names[i]?=some x.1∧l[i]?=some x.2
 rise:qP (q.map (·.1))
 utf:∀ x ∈ q,utf x.1=true
 low:∀ (i:Nat) nm,done[i]?=some false→names[i]?=some nm→∀ x ∈ q,Op.bytesLess nm x.1=false
 one:∀ (i j:Nat) nm,done[i]?=some true→done[j]?=some true→names[i]?=some nm→names[j]?=some nm→i=j
theorem Xm.above {names:List (List UInt8)}{l:List Vl}{q:IG}{done:List Bool}{m:Nat}(h:Xm names l q done m){b:Nat}{nm:List UInt8}(hb:done[b]?=some false) (hn:names[b]?=some nm)
  (hl:∀ x,q.getLast?=some x→x.1≠nm):∀ x ∈ q,Op.bytesLess x.1 nm=true:=by
 have hlow:=h.low b nm hb hn
 rcases List.eq_nil_or_concat q with rfl | ⟨q',z,rfl⟩
 · intro x hx;cases hx
 rw [List.concat_eq_append] at *
 have hz:z ∈ q'++[z]:=by simp
 have hzl:Op.bytesLess z.1 nm=true:=by
  rcases BN z.1 nm with g | g | g
  · exact g
  · exact absurd g (hl z (by simp))
  · rw [hlow z hz] at g;cases g
 intro x hx
 have hr:=h.rise
 rw [List.map_append] at hr
 rcases List.mem_append.1 hx with hx | hx
 · exact nE _ _ _ ((List.pairwise_append.1 hr).2.2 x.1 (List.mem_map.2 ⟨x,hx,rfl⟩) z.1 (by simp)) hzl
 · simp only [List.mem_singleton] at hx
   subst hx;exact hzl
theorem Xm.step {names:List (List UInt8)}{l:List Vl}{q:IG}{done:List Bool}{m:Nat}(h:Xm names l q done (m+1)){b:Nat}{nm:List UInt8}{v:Vl}(hb:done[b]?=some false) (hn:names[b]?=some nm) (hv:l[b]?=some v)
  (hmin:∀ (i:Nat) Km,done[i]?=some false→names[i]?=some Km→Op.bytesLess Km nm=false) (hu:Lp.utf nm=true) (hl:∀ x,q.getLast?=some x→x.1≠nm) :
  Xm names l (q++[(nm,v)]) (done.set b true) m:=by
 have hbl:=(List.getElem?_eq_some_iff.1 hb).1
 have hab:=h.above hb hn hl
 have hset:∀ i c,(done.set b true)[i]?=some c→(i=b∧c=true)∨(i≠b∧done[i]?=some c):=fun i c hc=>by
  rw [List.getElem?_set] at hc
  split at hc
  · rename_i e
    subst e
    exact .inl ⟨rfl,by simpa [hbl] using hc.symm⟩
  · rename_i e
    exact .inr ⟨fun e'=>e e'.symm,hc⟩
 have hset':∀ i c,i≠b→done[i]?=some c→(done.set b true)[i]?=some c:=fun i c hi hc=>by
  rw [List.getElem?_set_ne (fun e=>hi e.symm)];exact hc
 have hsb:(done.set b true)[b]?=some true:=by rw [List.getElem?_set_self hbl]
 refine ⟨h.par,by simp [h.len],by have:=h.cnt;simp;omega,?_,fun x=>?_,?_,?_,?_,?_⟩
 · have h1:=h.left
   have e:done=done.take b++false::done.drop (b+1):=by
    have:=List.getElem?_eq_some_iff.1 hb
    obtain ⟨_,e⟩:=this
    conv=>lhs;rw [← List.take_append_drop b done,List.drop_eq_getElem_cons hbl,e]
   have e2:done.set b true=done.take b++true::done.drop (b+1):=by
    rw [List.set_eq_take_append_cons_drop,if_pos hbl]
   rw [e2,List.count_append,List.count_cons]
   rw [e,List.count_append,List.count_cons] at h1
   simp at h1 ⊢
   omega
 · rw [List.mem_append,h.mem]
   constructor
   · rintro (⟨i,h1,h2,h3⟩ | hx)
     · have:i≠b:=fun e=>by subst e;rw [hb] at h1;cases h1
       exact ⟨i,hset' i _ this h1,h2,h3⟩
     · simp only [List.mem_singleton] at hx
       subst hx
       exact ⟨b,hsb,hn,hv⟩
   · rintro ⟨i,h1,h2,h3⟩
     rcases hset i _ h1 with ⟨rfl,_⟩ | ⟨hi,hd⟩
     · right
       rw [hn] at h2;rw [hv] at h3
       simp only [Option.some.injEq] at h2 h3
       simp [h2,h3]
     · exact .inl ⟨i,hd,h2,h3⟩
 · rw [List.map_append]
   refine List.pairwise_append.2 ⟨h.rise,by simp,fun x hx y hy=>?_⟩
   simp only [List.map_cons,List.map_nil,List.mem_singleton] at hy
   subst hy
   obtain ⟨z,hz,rfl⟩:=List.mem_map.1 hx
   exact hab z hz
 · intro x hx
   rcases List.mem_append.1 hx with hx | hx
   · exact h.utf x hx
   · simp only [List.mem_singleton] at hx
     subst hx;exact hu
 · intro i Km h1 h2 x hx
   rcases hset i _ h1 with ⟨_,hc⟩ | ⟨hi,hd⟩
   · cases hc
   · rcases List.mem_append.1 hx with hx | hx
     · exact h.low i Km hd h2 x hx
     · simp only [List.mem_singleton] at hx
       subst hx
       exact hmin i Km hd h2
 · intro i j Km h1 h2 h3 h4
   have key:∀ k,k≠b→done[k]?=some true→names[k]?=some Km→Km≠nm:=fun k hk hd hnk e=>by
    subst e
    have hkl:k<l.length:=by rw [← h.par];exact (List.getElem?_eq_some_iff.1 hnk).1
    have:=hab (Km,l[k]) ((h.mem _).2 ⟨k,hd,hnk,List.getElem?_eq_getElem hkl⟩)
    rw [dY] at this;cases this
   rcases hset i _ h1 with ⟨rfl,_⟩ | ⟨hi,hd⟩
   · rcases hset j _ h2 with ⟨rfl,_⟩ | ⟨hj,hd'⟩
     · rfl
     · rw [hn] at h3
       simp only [Option.some.injEq] at h3
       exact absurd h3.symm (key j hj hd' h4)
   · rcases hset j _ h2 with ⟨rfl,_⟩ | ⟨hj,hd'⟩
     · rw [hn] at h4
       simp only [Option.some.injEq] at h4
       exact absurd h4.symm (key i hi hd h3)
     · exact h.one i j Km hd hd' h3 h4
theorem Xm.all {names:List (List UInt8)}{l:List Vl}{q:IG}{done:List Bool}(h:Xm names l q done 0){i:Nat}(hi:i<names.length):done[i]?=some true:=by
 have h1:=List.getElem?_eq_getElem (by rw [h.len];exact hi:i<done.length)
 rw [h1]
 cases hd:done[i]'(by rw [h.len];exact hi) with
 | true=>rfl
 | false=>
  have:=h.left
  rw [List.count_eq_zero] at this
  exact absurd (by rw [← hd];exact List.getElem_mem _) this
theorem Xm.end {names:List (List UInt8)}{l:List Vl}{q:IG}{done:List Bool}(h:Xm names l q done 0):wB names l.length=true∧q=Vp (names.zip l):=by
 have hq:∀ (i:Nat) (hi:i<names.length),(names[i],l[i]'(by rw [← h.par];exact hi)) ∈ q:=fun i hi=>
  (h.mem _).2 ⟨i,h.all hi,List.getElem?_eq_getElem hi,List.getElem?_eq_getElem _⟩
 have hok:wB names l.length=true:=by
  rw [uR]
  refine ⟨h.par,?_,fun x hx=>?_⟩
  · refine List.pairwise_iff_getElem.2 fun i j hi hj hij e=>?_
    have:=h.one i j names[i] (h.all hi) (h.all hj) (List.getElem?_eq_getElem hi) (by rw [e];exact List.getElem?_eq_getElem hj)
    omega
  · obtain ⟨i,hi,rfl⟩:=List.mem_iff_getElem.1 hx
    exact h.utf _ (hq i hi)
 refine ⟨hok,L8 hok h.rise fun x=>?_⟩
 constructor
 · intro hx
   obtain ⟨i,_,h2,h3⟩:=(h.mem x).1 hx
   refine List.mem_iff_getElem?.2 ⟨i,?_⟩
   rw [List.getElem?_zip_eq_some]
   exact ⟨h2,h3⟩
 · intro hx
   obtain ⟨i,hi⟩:=List.mem_iff_getElem?.1 hx
   rw [List.getElem?_zip_eq_some] at hi
   exact (h.mem x).2 ⟨i,h.all (List.getElem?_eq_some_iff.1 hi.1).1,hi.1,hi.2⟩
theorem Xm.some {names:List (List UInt8)}{l:List Vl}{q:IG}{done:List Bool}{m:Nat}(h:Xm names l q done (m+1)):∃ i:Nat,done[i]?=Option.some false:=by
 have:0<done.count false:=by rw [h.left];omega
 exact List.mem_iff_getElem?.1 (List.count_pos_iff.1 this)
end Lp
namespace Lp
open Go Go.Proofs
theorem QF {α:Type}{f:PV→PV}(enc:α→PV) (h:∀ x,(enc x).bQ f=enc x) (l:List α):(l.map enc).map (PV.bQ f)=l.map enc:=by
 rw [List.map_map]
 exact List.map_congr_left fun x _=>h x
end Lp
namespace Lp
open Go Go.Proofs
theorem aS.QG {P:Program}{D:TypeId→aB}{T:Know}{f:FuncId}{n t u:Nat}{ty uy:TypeId}{C:LC}{args:List PV}{r:PV}(h:aS P f n [.cell t ty,.cell u uy] C) (d:Nat) (hD:∀ t,iR P t (D t)) (hT:Jf P none yO T) (hm:P.follows .mixedOrders=true) (ht:t<n) (hu:u<n)
  (hw:∀ Q:Exit→St→Prop,(∀ l ob,Q .ret ⟨dU n l,ob⟩=eY (D ty) (lW l t) ob fun p _ _=>eY (D uy) (lW l u) ob fun q _ _=>r=.bT [gG d 0 ob p,gG d 0 ob q])→kZ P D T C Q (dw args n)):ai P f args [] r []:=by
 refine h.pure d hD hT hm (by simp) (hw _ fun l ob=>?_)
 simp only [mE,jo,rq.2.1 n l t ht,rq.2.1 n l u hu,List.map_cons,List.map_nil,fK]
def Dt:Vl→Int
 | []=>0
 | n::_=>n.kind
def Xn (v:Vl) (nm:List UInt8):Option Vl:=if Dt v=6 then acS (prs v) nm else none
def QH (v:Vl) (nm:List UInt8):Vl:=(Xn v nm).getD []
theorem fQ.lt {O:List Obj}(h:fQ O):jG O:=fun o ho x hx c hc=>by
 have:=h o ho x hx c hc
 cases c <;> first | rfl | (simp [PV.ref] at this)
end Lp
namespace Lp
open Go Go.Proofs Go.RowKit Go.Sort
end Lp
namespace Lp
open Go Go.Proofs Go.RowKit
end Lp
namespace Lp
open Go Go.Proofs
theorem adf (P:Program) (D:TypeId→aB) (T:Know) (w pt:Bool) (ev:Operand→PV) (objs:List Obj) (K:KT) :
  (∀ t x ix ok,kY P D T w pt ev objs (.lookup t x ix ok) K=oH D t (ev x) (ev ix) ok objs K)∧
  (∀ t x y z,kY P D T w pt ev objs (.mapUpdate t x y z) K=gL D t (ev x) (ev y) (ev z) objs K)∧
  (∀ t,kY P D T w pt ev objs (.makeMap t none) K=lS D t objs K):=⟨fun _ _ _ _=>rfl,fun _ _ _ _=>rfl,fun _=>rfl⟩
end Lp
namespace Lp
open Go Go.Proofs
open Nat (lt_or_ge reduceAdd reduceLeDiff reduceMul reduceSub)
open Int (reduceLE reduceToNat)
theorem UL (mask kind:Int) (hm:0≤mask∧mask≤1000000) (hk:0≤kind∧kind≤1000000):ai Tryz.prog 73 [.int .i64 mask,.int .i64 kind] [] (.bool (o9 mask kind)) []:=by
 refine Aw.bE (T:=aU Tryz.prog []) 0 hD (aj ah) aY (by decide) fun Q hQ=>?_
 (conv=>arg 4;cbv);simp(maxSteps:=400000)only[↓aQ,aR,BEq.rfl,reduceIte,reduceCtorEq,Nat.reduceLT,reduceAdd,reduceSub,reduceMul,Nat.reduceBEq,reduceLeDiff,reduceToNat,reduceLE,hQ]
 refine aH (fun m S=>∃ (i x:Nat),i+m=kind.toNat∧x=mask.toNat / 2 ^ i∧S=⟨dU 16 [(0,.int .i64 x),(1,.int .i64 kind),(5,.int .i64 i)],[]⟩) kind.toNat ⟨0,mask.toNat,by omega,by simp,?_⟩ ?_
 · simp only [dh,keepR,reduceAdd,oC,Nat.reduceBEq,List.map_nil]
   rw [Int.toNat_of_nonneg hm.1];rfl
 rintro m S ⟨i,x,him,hx,rfl⟩
 have hxm:x≤mask.toNat:=by rw [hx];exact Nat.div_le_self ..
 rcases lt_or_ge i kind.toNat with h | h
 rotate_left 1
 · have hlt:((i:Int)<kind)=False:=eq_false (by omega)
   have hi:i=kind.toNat:=by omega
   have hr:o9 mask kind=decide ((x:Int).tmod 2=1):=by
    have e:(x:Int).tmod 2=((x % 2:Nat):Int):=rfl
    rw [e,o9,← hi,← hx,Bool.eq_iff_iff,beq_iff_eq,decide_eq_true_iff]
    omega
   simp(maxSteps:=400000)only[↓aQ,aR,BEq.rfl,reduceIte,reduceCtorEq,Nat.reduceLT,reduceAdd,reduceSub,reduceMul,Nat.reduceBEq,reduceLeDiff,reduceToNat,reduceLE,hQ,hlt,hr]
   decide
 · have hlt:((i:Int)<kind)=True:=eq_true (by omega)
   simp(maxSteps:=400000)only[↓aQ,aR,BEq.rfl,reduceIte,reduceCtorEq,Nat.reduceLT,reduceAdd,reduceSub,reduceMul,Nat.reduceBEq,reduceLeDiff,reduceToNat,reduceLE,hQ,hlt]
   have e:(x:Int).tdiv 2=((x / 2:Nat):Int):=rfl
   refine ⟨by decide,⟨by omega,by omega⟩,⟨by omega,by omega⟩,m-1,by omega,i+1,x / 2,by omega,?_,by simp [e]⟩
   rw [hx,Nat.div_div_eq_div_mul,Nat.pow_succ]
def Bl:dN:=fun args objs K=>match args with
 | [.int .i64 mask,.int .i64 kind]=>(0≤mask∧mask≤1000000)∧(0≤kind∧kind≤1000000)∧K (.bool (o9 mask kind)) objs 0
 | _=>False
theorem QI:aD Tryz.prog 73 (Bl):=by
 intro args objs K h
 unfold Bl at h
 split at h
 · rename_i mask kind
   obtain ⟨h1,h2,hk⟩:=h
   exact ⟨_,_,_,.pure _ rfl (UL mask kind h1 h2),hk⟩
 · exact h.elim
theorem ack (P:Program) (D:TypeId→aB) (T:Know) (w pt:Bool) (ev:Operand→PV) (objs:List Obj) (K:KT) :
  ∀ t x y z,kY P D T w pt ev objs (.insert t x y z) K=gL D t (ev x) (ev y) (ev z) objs K:=fun _ _ _ _=>rfl
theorem QJ (how:Int) (h:0≤how∧how≤5):ai Tryz.prog 89 [.int .i64 how] [] (.int .i64 (Rz how)) []:=by
 refine M6.bE (T:=aU Tryz.prog []) 0 hD (aj ah) aY (by decide) fun Q hQ=>?_
 have:how=0∨how=1∨how=2∨how=3∨how=4∨how=5:=by omega
 rcases this with rfl | rfl | rfl | rfl | rfl | rfl
 all_goals
  (conv=>arg 4;cbv);simp(maxSteps:=400000)only[↓aQ,aR,BEq.rfl,reduceIte,reduceCtorEq,Nat.reduceLT,reduceAdd,reduceSub,reduceMul,Nat.reduceBEq,reduceLeDiff,reduceToNat,reduceLE,hQ,↓adf,↓ack,lS,gL,oH]
  repeat refine ⟨.inr ⟨_,rfl⟩,_,rfl,?_⟩
  rfl
def Bn:dN:=fun args objs K=>match args with
 | [.int .i64 how]=>(0≤how∧how≤5)∧K (.int .i64 (Rz how)) objs 0
 | _=>False
theorem Oc:aD Tryz.prog 89 (Bn):=by
 intro args objs K h
 unfold Bn at h
 split at h
 · rename_i how
   obtain ⟨h1,hk⟩:=h
   exact ⟨_,_,_,.pure _ rfl (QJ how h1),hk⟩
 · exact h.elim
theorem UM (a:f_) (n:Nd) (ha:eP a.c) (hn:eP n):ai Tryz.prog 116 [bP a,.addr (av n)] [] (.bool (Bool.not (ko a n))) []:=by
 refine DW.bE (T:=aU Tryz.prog [(117,w9)]) 0 hD (aj (af KZ ah)) aY (by decide) fun Q hQ=>?_
 (conv=>arg 4;cbv);simp(maxSteps:=400000)only[↓aQ,aR,BEq.rfl,reduceIte,reduceCtorEq,Nat.reduceLT,reduceAdd,reduceSub,reduceMul,Nat.reduceBEq,reduceLeDiff,reduceToNat,reduceLE,hQ]
 refine aT _ (Weak.freeze 1 0 (Nat.zero_le _) _) ?_
 simp(maxSteps:=400000)only[↓aQ,aR,BEq.rfl,reduceIte,reduceCtorEq,Nat.reduceLT,reduceAdd,reduceSub,reduceMul,Nat.reduceBEq,reduceLeDiff,reduceToNat,reduceLE,hQ,Na,↓w9]
 exact ⟨ha,hn⟩
def Bo (n:Nd):dN:=fun args objs K=>match args with
 | [a0,a1]=>gu bP a0 (HK.mk:HK fun a=>a1=(.addr (av n))∧(eP a.c)∧(eP n)∧K (.bool (Bool.not (ko a n))) objs 0)
 | _=>False
theorem QK (n:Nd):aD Tryz.prog 116 (Bo n):=by
 intro args objs K h
 unfold Bo at h
 split at h
 · rename_i a0 a1
   obtain ⟨a,rfl,rfl,h1,h2,hk⟩:=h
   exact ⟨_,_,_,.pure _ rfl (UM a n h1 h2),hk⟩
 · exact h.elim
def kM (n:Nd) (a:f_):Bool:=Bool.not (ko a n)
theorem K4 (l:List f_) (n:Nd) (hl:l.length≤4611686018427387904) (ha:∀ a ∈ l,eP a.c) (hn:eP n):ai Tryz.prog 104 [bg l,.fn 116 [] [.addr (av n)]] [] (.int .i64 (idxOf (kM n) l)) []:=by
 refine fB.bE (T:=aU Tryz.prog [(116,(Bo n))]) 0 hD (aj (af (QK n) ah)) aY (by decide) fun Q hQ=>?_
 (conv=>arg 4;cbv);simp(maxSteps:=400000)only[↓aQ,aR,BEq.rfl,reduceIte,reduceCtorEq,Nat.reduceLT,reduceAdd,reduceSub,reduceMul,Nat.reduceBEq,reduceLeDiff,reduceToNat,reduceLE,hQ]
 refine aH (fun m S=>∃ i:Nat,i+m=l.length∧(∀ (j:Nat) y,j<i→l[j]?=some y→kM n y=false)∧S=⟨dU 19 [(0,bg l),(1,.fn 116 [] [.addr (av n)]),(7,.int .i64 l.length),(8,.int .i64 i)],[]⟩) l.length ⟨0,by omega,fun j y h=>absurd h (Nat.not_lt_zero j),?_⟩ ?_
 · simp only [dh,keepR,reduceAdd,oC,Nat.reduceBEq,List.map_nil]
   rfl
 rintro m S ⟨i,him,hb,rfl⟩
 rcases lt_or_ge i l.length with h | h
 rotate_left 1
 · have hlt:((i:Int)<(l.length:Int))=False:=eq_false (by omega)
   have hr:=zu (l:=l) fun j y hj=>hb j y (by have:=(List.getElem?_eq_some_iff.1 hj).1;omega) hj
   simp(maxSteps:=400000)only[↓aQ,aR,BEq.rfl,reduceIte,reduceCtorEq,Nat.reduceLT,reduceAdd,reduceSub,reduceMul,Nat.reduceBEq,reduceLeDiff,reduceToNat,reduceLE,hQ,hlt,hr]
 have hlt:((i:Int)<(l.length:Int))=True:=eq_true (by omega)
 have zi:(0≤(i:Int))=True:=eq_true (by omega)
 have hgi:=List.getElem?_eq_getElem h
 have hao:=ha _ (List.getElem_mem h)
 generalize l[i]=o at hgi hao
 cases hp:ko o n
 · have hr:idxOf (kM n) l=i:=idxOf_hit hgi (by simp [kM,hp]) hb
   simp(maxSteps:=400000)only[↓aQ,aR,BEq.rfl,reduceIte,reduceCtorEq,Nat.reduceLT,reduceAdd,reduceSub,reduceMul,Nat.reduceBEq,reduceLeDiff,reduceToNat,reduceLE,hQ,hlt,zi,hgi,↓Bo,hp,hr]
   exact ⟨hao,hn⟩
 · simp(maxSteps:=400000)only[↓aQ,aR,BEq.rfl,reduceIte,reduceCtorEq,Nat.reduceLT,reduceAdd,reduceSub,reduceMul,Nat.reduceBEq,reduceLeDiff,reduceToNat,reduceLE,hQ,hlt,zi,hgi,↓Bo,hp]
   refine ⟨hao,hn,⟨by omega,by omega⟩,m-1,by omega,i+1,by omega,fun j y hj hy=>?_,rfl⟩
   rcases lt_or_ge j i with g | g
   · exact hb j y g hy
   · have:j=i:=by omega
     subst this
     rw [hgi] at hy;cases hy
     simp [kM,hp]
def tL (n:Nd):dN:=fun args objs K=>match args with
 | [a0,a1]=>gu bg a0 (HK.mk:HK fun l=>a1=(.fn 116 [] [.addr (av n)])∧(l.length≤4611686018427387904)∧(∀ a ∈ l,eP a.c)∧(eP n)∧K (.int .i64 (idxOf (kM n) l)) objs 0)
 | _=>False
theorem H_ (n:Nd):aD Tryz.prog 104 (tL n):=by
 intro args objs K h
 unfold tL at h
 split at h
 · rename_i a0 a1
   obtain ⟨l,rfl,rfl,h1,h2,h3,hk⟩:=h
   exact ⟨_,_,_,.pure _ rfl (K4 l n h1 h2 h3),hk⟩
 · exact h.elim
theorem K5 (l:List f_) (n:Nd) (hl:l.length≤4611686018427387904) (ha:∀ a ∈ l,eP a.c) (hn:eP n):ai Tryz.prog 86 [bg l,.fn 116 [] [.addr (av n)]] [] (.bool (l.any (kM n))) []:=by
 refine eH.bE (T:=aU Tryz.prog [(104,(tL n))]) 0 hD (aj (af (H_ n) ah)) aY (by decide) fun Q hQ=>?_
 (conv=>arg 4;cbv);simp(maxSteps:=400000)only[↓aQ,aR,BEq.rfl,reduceIte,reduceCtorEq,Nat.reduceLT,reduceAdd,reduceSub,reduceMul,Nat.reduceBEq,reduceLeDiff,reduceToNat,reduceLE,hQ,↓tL,CK]
 exact ⟨hl,ha,hn⟩
def tN (n:Nd):dN:=fun args objs K=>match args with
 | [a0,a1]=>gu bg a0 (HK.mk:HK fun l=>a1=(.fn 116 [] [.addr (av n)])∧(l.length≤4611686018427387904)∧(∀ a ∈ l,eP a.c)∧(eP n)∧K (.bool (l.any (kM n))) objs 0)
 | _=>False
theorem Ia (n:Nd):aD Tryz.prog 86 (tN n):=by
 intro args objs K h
 unfold tN at h
 split at h
 · rename_i a0 a1
   obtain ⟨l,rfl,rfl,h1,h2,h3,hk⟩:=h
   exact ⟨_,_,_,.pure _ rfl (K5 l n h1 h2 h3),hk⟩
 · exact h.elim
theorem Xo {mask kind:Int}(hm:0≤mask∧mask≤31) (hk:0≤kind∧kind<5):xW .and .i64 (mask.fdiv (2 ^ min kind.toNat IntKind.i64.bits)) 1=if o9 mask kind then 1 else 0:=by
 have key:∀ (m:Fin 32) (k:Fin 5),xW .and .i64 ((m.val:Int).fdiv (2 ^ min k.val IntKind.i64.bits)) 1=if (m.val / 2 ^ k.val) % 2==1 then 1 else 0:=by decide +kernel
 have:=key ⟨mask.toNat,by omega⟩ ⟨kind.toNat,by omega⟩
 simp only [Int.toNat_of_nonneg hm.1] at this
 exact this
theorem K6 (mask:Int) (l:List f_) (n:Nd) (hm:0≤mask∧mask≤31) (hl:l.length≤1000000) (ha:∀ a ∈ l,eP a.c) (hn:oP n) (hs:n.s.length≤1000000):ai Tryz.prog 103 [.int .i64 mask,bg l,av n] [] (.bool (cK mask l n)) []:=by
 refine He.bE (T:=aU Tryz.prog [(115,o8),(86,(tN n))]) 0 hD (aj (af KY (af (Ia n) ah))) aY (by decide) fun Q hQ=>?_
 (conv=>arg 4;cbv);simp(maxSteps:=400000)only[↓aQ,aR,BEq.rfl,reduceIte,reduceCtorEq,Nat.reduceLT,reduceAdd,reduceSub,reduceMul,Nat.reduceBEq,reduceLeDiff,reduceToNat,reduceLE,hQ]
 refine aT _ (Weak.freeze 1 0 (Nat.zero_le _) _) ?_
 cases hp:qg n
 · have hr:cK mask l n=false:=by simp [cK,hp]
   simp(maxSteps:=400000)only[↓aQ,aR,BEq.rfl,reduceIte,reduceCtorEq,Nat.reduceLT,reduceAdd,reduceSub,reduceMul,Nat.reduceBEq,reduceLeDiff,reduceToNat,reduceLE,hQ,je,↓o8,hp,hr]
   exact hn
 have hk:=(nH hp).2.2
 have hbit:=Xo hm ⟨hk.1,hk.2.1⟩
 have hk0:(0≤n.kind)=True:=eq_true hk.1
 cases hb:o9 mask n.kind
 · have hr:cK mask l n=false:=by simp [cK,hb]
   rw [hb,if_neg (by decide)] at hbit
   simp(maxSteps:=400000)only[↓aQ,aR,BEq.rfl,reduceIte,reduceCtorEq,Nat.reduceLT,reduceAdd,reduceSub,reduceMul,Nat.reduceBEq,reduceLeDiff,reduceToNat,reduceLE,hQ,je,↓o8,hp,hr,og,hbit,hk0]
   exact hn
 · have hr:cK mask l n=!(l.any (kM n)):=by simp [cK,hp,hb,List.all_eq_not_any_not,kM];rfl
   rw [hb,if_pos rfl] at hbit
   simp(maxSteps:=400000)only[↓aQ,aR,BEq.rfl,reduceIte,reduceCtorEq,Nat.reduceLT,reduceAdd,reduceSub,reduceMul,Nat.reduceBEq,reduceLeDiff,reduceToNat,reduceLE,hQ,je,↓o8,hp,hr,og,hbit,hk0,↓tN,Int.reduceEq]
   exact ⟨hn,by omega,ha,hp,hs⟩
end Lp
namespace Lp
open Go Go.Proofs
open Nat (reduceAdd reduceLeDiff reduceMul reduceSub)
open Int (reduceLE reduceToNat)
theorem K7 (mask:Int) (l:List f_) (n:Nd) (hm:0≤mask∧mask≤1000000) (hl:l.length≤1000000) (ha:∀ a ∈ l,eP a.c) (hn:oP n) (hs:n.s.length≤1000000):ai Tryz.prog 40 [.int .i64 mask,bg l,av n] [] (.bool (cK mask l n)) []:=by
 refine xK.bE (T:=aU Tryz.prog [(26,lm),(73,Bl),(19,rR)]) 0 hD (aj (af Bh (af QI (af K3 ah)))) aY (by decide) fun Q hQ=>?_
 (conv=>arg 4;cbv);simp(maxSteps:=400000)only[↓aQ,aR,BEq.rfl,reduceIte,reduceCtorEq,Nat.reduceLT,reduceAdd,reduceSub,reduceMul,Nat.reduceBEq,reduceLeDiff,reduceToNat,reduceLE,hQ]
 refine aT _ (Weak.freeze 1 0 (Nat.zero_le _) _) ?_
 cases hp:qg n
 · have hr:cK mask l n=false:=by simp [cK,hp]
   simp(maxSteps:=400000)only[↓aQ,aR,BEq.rfl,reduceIte,reduceCtorEq,Nat.reduceLT,reduceAdd,reduceSub,reduceMul,Nat.reduceBEq,reduceLeDiff,reduceToNat,reduceLE,hQ,je,↓lm,hp,hr]
   exact hn
 have hk:=(nH hp).2.2
 have hk':0≤n.kind∧n.kind≤1000000:=⟨hk.1,by omega⟩
 cases hb:o9 mask n.kind
 · have hr:cK mask l n=false:=by simp [cK,hb]
   simp(maxSteps:=400000)only[↓aQ,aR,BEq.rfl,reduceIte,reduceCtorEq,Nat.reduceLT,reduceAdd,reduceSub,reduceMul,Nat.reduceBEq,reduceLeDiff,reduceToNat,reduceLE,hQ,je,↓lm,↓Bl,hp,hr,hb]
   exact ⟨hn,hm,hk'⟩
 have hr:cK mask l n=l.all fun a=>ko a n:=by simp [cK,hp,hb]
 simp(maxSteps:=400000)only[↓aQ,aR,BEq.rfl,reduceIte,reduceCtorEq,Nat.reduceLT,reduceAdd,reduceSub,reduceMul,Nat.reduceBEq,reduceLeDiff,reduceToNat,reduceLE,hQ,je,↓lm,↓Bl,hp,hr,hb]
 refine ⟨hn,hm,hk',?_⟩
 refine aH (fun m S=>∃ i:Nat,i+m=l.length∧(∀ (j:Nat) y,j<i→l[j]?=some y→ko y n=true)∧S=⟨dU 31 [(1,bg l),(5,.addr (av n)),(7,.int .i64 i)],[]⟩) l.length ⟨0,by omega,fun j y h=>absurd h (Nat.not_lt_zero j),?_⟩ ?_
 · simp only [dh,keepR,reduceAdd,oC,Nat.reduceBEq,List.map_nil]
   rfl
 rintro m S ⟨i,him,hbf,rfl⟩
 rcases Nat.lt_or_ge i l.length with h | h
 rotate_left 1
 · have hlt:((i:Int)<(l.length:Int))=False:=eq_false (by omega)
   have hall:(l.all fun a=>ko a n)=true:=List.all_eq_true.2 fun x hx=>by
    obtain ⟨j,hj⟩:=List.mem_iff_getElem?.1 hx
    exact hbf j x (by have:=(List.getElem?_eq_some_iff.1 hj).1;omega) hj
   simp(maxSteps:=400000)only[↓aQ,aR,BEq.rfl,reduceIte,reduceCtorEq,Nat.reduceLT,reduceAdd,reduceSub,reduceMul,Nat.reduceBEq,reduceLeDiff,reduceToNat,reduceLE,hQ,hlt,hr,hall]
 have hlt:((i:Int)<(l.length:Int))=True:=eq_true (by omega)
 have zi:(0≤(i:Int))=True:=eq_true (by omega)
 have hgi:=List.getElem?_eq_getElem h
 have hao:=ha _ (List.getElem_mem h)
 have hmem:=List.getElem_mem h
 generalize l[i]=o at hgi hao hmem
 cases hh:ko o n
 · have hall:(l.all fun a=>ko a n)=false:=List.all_eq_false.2 ⟨o,hmem,by simp [hh]⟩
   simp(maxSteps:=400000)only[↓aQ,aR,BEq.rfl,reduceIte,reduceCtorEq,Nat.reduceLT,reduceAdd,reduceSub,reduceMul,Nat.reduceBEq,reduceLeDiff,reduceToNat,reduceLE,hQ,hlt,zi,hgi,↓rR,hh,hr,hall]
   exact ⟨hao,hp,hs⟩
 · simp(maxSteps:=400000)only[↓aQ,aR,BEq.rfl,reduceIte,reduceCtorEq,Nat.reduceLT,reduceAdd,reduceSub,reduceMul,Nat.reduceBEq,reduceLeDiff,reduceToNat,reduceLE,hQ,hlt,zi,hgi,↓rR,hh]
   refine ⟨hao,⟨hp,hs⟩,⟨by omega,by omega⟩,m-1,by omega,i+1,by omega,fun j y hj hy=>?_,rfl⟩
   rcases Nat.lt_or_ge j i with g | g
   · exact hbf j y g hy
   · have:j=i:=by omega
     subst this
     rw [hgi] at hy;cases hy
     exact hh
end Lp
namespace Lp
open Go Go.Proofs
theorem Bp:aS Tryz.prog 31 41 [.tmp 4] (gen [] [(35,none)] [] Tryz.f31):=bq Tryz.func31 rfl (by kernel_rfl)
theorem zx:aS Tryz.prog 24 43 [.tmp 4] (gen [] [(35,none)] [] Tryz.f24):=bq Tryz.func24 rfl (by kernel_rfl)
theorem zy:aS Tryz.prog 33 74 [.tmp 4] (gen [] [(227,some (1,0))] [] Tryz.f33):=bq Tryz.func33 rfl (by kernel_rfl)
theorem qy:aS Tryz.prog 35 54 [.tmp 6] (gen [] [(391,none)] [] Tryz.f35):=bq Tryz.func35 rfl (by kernel_rfl)
theorem Bq:aS Tryz.prog 30 21 [.tmp 4,.tmp 5] (gen [] [] [] Tryz.f30):=bq Tryz.func30 rfl (by kernel_rfl)
theorem zA:aS Tryz.prog 14 87 [.tmp 2] (gen [] [(9,none)] [] Tryz.f14):=bq Tryz.func14 rfl (by kernel_rfl)
theorem zB:aS Tryz.prog 38 44 [.tmp 4] (gen [7] [(99,none)] [] Tryz.f38):=bq Tryz.func38 rfl (by kernel_rfl)
theorem Br:aS Tryz.prog 16 35 [.tmp 2] (gen [] [(9,some (1,0))] [] Tryz.f16):=bq Tryz.func16 rfl (by kernel_rfl)
theorem CO:aS Tryz.prog 7 12 [.tmp 4] (gen [] [] [] Tryz.f7):=bq Tryz.func7 rfl (by kernel_rfl)
theorem Bt:aS Tryz.prog 112 64 [.cell 6 27,.tmp 7] (gen [] [(71,none),(71,none)] [] Tryz.f112):=bq Tryz.func112 rfl (by kernel_rfl)
theorem xO:aS Tryz.prog 109 19 [.tmp 4] (gen [] [(100,none)] [] Tryz.f109):=bq Tryz.func109 rfl (by kernel_rfl)
theorem xP:aS Tryz.prog 98 60 [.cell 4 27,.tmp 5] (gen [] [] [] Tryz.f98):=bq Tryz.func98 rfl (by kernel_rfl)
theorem rT:aS Tryz.prog 71 98 [.tmp 2] (gen [14] [(25,some (1,1)),(521,none)] [] Tryz.f71):=bq Tryz.func71 rfl (by kernel_rfl)
theorem zC:aS Tryz.prog 37 28 [.cell 4 27,.tmp 5] (gen [] [(211,none)] [] Tryz.f37):=bq Tryz.func37 rfl (by kernel_rfl)
theorem Bu:aS Tryz.prog 13 26 [.tmp 4] (gen [] [(35,none)] [] Tryz.f13):=bq Tryz.func13 rfl (by kernel_rfl)
theorem Od:aS Tryz.prog 94 19 [.tmp 4] (gen [] [(35,none)] [] Tryz.f94):=bq Tryz.func94 rfl (by kernel_rfl)
theorem Oe:aS Tryz.prog 93 28 [] (gen [] [(779,none)] [] Tryz.f93):=bq Tryz.func93 rfl (by kernel_rfl)
theorem UN:aS Tryz.prog 63 4 [.tmp 2] (gen [] [] [] Tryz.f63):=bq Tryz.func63 rfl (by kernel_rfl)
theorem iO:aS Tryz.prog 28 8 [.tmp 2] (gen [5] [] [] Tryz.f28):=bq Tryz.func28 rfl (by kernel_rfl)
theorem QL:aS Tryz.prog 52 24 [.tmp 2] (gen [] [(0,none)] [7] Tryz.f52):=bq Tryz.func52 rfl (by kernel_rfl)
theorem K8:aS Tryz.prog 101 35 [.tmp 4] (gen [] [(3670048,some (1,1))] [] Tryz.f101):=bq Tryz.func101 rfl (by kernel_rfl)
theorem Gd:aS Tryz.prog 84 10 [.tmp 2] (gen [] [] [] Tryz.f84):=bq Tryz.func84 rfl (by kernel_rfl)
end Lp
namespace Lp
open Go
open List (cons_append drop_eq_getElem_cons flatten_cons length_drop length_take nil_append)
namespace Y
theorem pR (L:Nat) (v:aK):gX L v 0=some 0:=by cases v <;> rfl
theorem Kq (L:Nat):∀ (v:aK) (k c i:Nat),gX L v k=some c→i<c→∃ k' c',gX L (v.drop i) (k'+1)=some c'
 | v,0,c,i,h,hi=>by rw [pR] at h;cases h;omega
 | [],k+1,c,i,h,hi=>by simp [gX] at h
 | n::v,k+1,c,0,h,hi=>⟨k,c,by simpa using h⟩
 | n::v,k+1,c,i+1,h,hi=>by
  rw [gX] at h
  split at h
  · cases h
  · cases hs:gX L v (k+n.many.toNat) with
    | none=>rw [hs] at h;simp at h
    | some c'=>
     rw [hs] at h
     simp only [Option.map_some,Option.some.injEq] at h
     simpa using Kq L v _ c' i hs (by omega)
theorem rM (L:Nat):∀ (v:aK) (j k c:Nat),gX L v (j+k)=some c→∃ c1 c2,gX L v j=some c1∧gX L (v.drop c1) k=some c2∧c=c1+c2
 | v,0,k,c,h=>⟨0,c,pR L v,by simpa using h,by simp⟩
 | [],j+1,k,c,h=>by
  rw [show j+1+k=(j+k)+1 by omega] at h
  simp [gX] at h
 | n::v,j+1,k,c,h=>by
  rw [show j+1+k=(j+k)+1 by omega,gX] at h
  split at h
  · cases h
  · rename_i hn
    cases hs:gX L v (j+k+n.many.toNat) with
    | none=>rw [hs] at h;simp at h
    | some c'=>
     rw [hs] at h
     simp only [Option.map_some,Option.some.injEq] at h
     rw [show j+k+n.many.toNat=(j+n.many.toNat)+k by omega] at hs
     obtain ⟨c1,c2,h1,h2,rfl⟩:=rM L v _ k c' hs
     refine ⟨c1+1,c2,?_,by simpa using h2,by omega⟩
     rw [gX,if_neg hn,h1];rfl
theorem nT (L:Nat):∀ (v:aK) (k c:Nat),skip v k=some c→c≤L→gX L v k=some c
 | v,0,c,h,_=>by cases v <;> simpa [gX,skip] using h
 | [],k+1,c,h,_=>by simp [skip] at h
 | n::v,k+1,c,h,hc=>by
  obtain ⟨hm,c',rfl,h'⟩:=cB h
  have:=dV _ _ _ h'
  rw [gX,if_neg (by omega),nT L v _ c' h' (by omega)];rfl
def om (t:aK) (i:Nat):aK:=match skip (t.drop i) 1 with | some c=>(t.drop i).take c | none=>[]
theorem qJ {t:aK}{i:Nat}{x:eT}(ho:One t) (hx:t[i]?=some x):∃ ps c,0≤x.many∧x.many≤t.length∧parts x.many.toNat (t.drop (i+1))=some ps∧skip (t.drop (i+1)) x.many.toNat=some c∧ps.flatten=(t.drop (i+1)).take c∧(∀ p ∈ ps,One p)∧
  om t i=x::ps.flatten∧i+1+c≤t.length:=by
 obtain ⟨hi,rfl⟩:=List.getElem?_eq_some_iff.1 hx
 obtain ⟨c,hc⟩:=ho.at hi
 have hc0:=hc
 rw [drop_eq_getElem_cons hi] at hc
 obtain ⟨hm,c',rfl,h'⟩:=cB (k:=0) hc
 rw [Nat.zero_add] at h'
 obtain ⟨ps,h1,h2,h3⟩:=eu _ _ _ h'
 have hl:=dV _ _ _ h'
 rw [length_drop] at hl
 refine ⟨ps,c',hm,by omega,h1,h',h2,h3,?_,by omega⟩
 unfold om
 rw [hc0]
 simp only
 rw [drop_eq_getElem_cons hi,List.take_succ_cons,h2]
theorem zD {t:aK}(ho:One t):om t 0=t:=by
 unfold om
 rw [List.drop_zero,show skip t 1=some t.length from ho]
 simp
end Y
def mg (x:eT):Option (List UInt8)→List aK→Bool
 | _,[]=>true
 | prev,p::ps=>xu x p && (x.kind !=2 || (match prev with | none=>true | some a=>Op.bytesLess a (Y.nameOf p))) && mg x (some (Y.nameOf p)) ps
theorem Og (x:eT):∀ (ps:List aK) (prev:Option (List UInt8)),mg x prev ps=(ps.all (xu x) && (x.kind !=2 || xU ((match prev with | none=>[] | some a=>[a])++ps.map Y.nameOf)))
 | [],prev=>by cases prev <;> simp [mg,xU]
 | p::ps,prev=>by
  have ih:=Og x ps (some (Y.nameOf p))
  simp only [mg,ih,List.all_cons,List.map_cons]
  cases prev with
  | none=>
   simp only [nil_append,cons_append]
   cases xu x p <;> cases ps.all (xu x) <;> cases (x.kind !=2) <;> simp
  | some a=>
   simp only [nil_append,cons_append]
   rw [xU]
   cases xu x p <;> cases ps.all (xu x) <;> cases (x.kind !=2) <;> simp
theorem UO (x:eT) (ps:List aK):mg x none ps=uz x ps:=by
 rw [Og];rfl
def zF (t:aK) (i:Nat):Bool:=match t.drop i with
 | n::r=>(match Y.parts n.many.toNat r with | some ps=>uz n ps | none=>false)
 | []=>true
def ku (t:aK) (i:Nat):Bool:=match t.drop i with
 | n::r=>(match Y.parts n.many.toNat r with | some ps=>xV fA n ps | none=>false)
 | []=>true
theorem QM {t:aK}{i:Nat}{n:eT}(hi:t[i]?=some n):Y.fw (jK bB fA) (t.drop i)=(b_ bB n && zF t i && ku t i && Y.fw (jK bB fA) (t.drop (i+1))):=by
 have hl:=(List.getElem?_eq_some_iff.1 hi).1
 have hd:=drop_eq_getElem_cons hl
 rw [List.getElem?_eq_getElem hl] at hi
 cases hi
 simp only [zF,ku,hd,Y.fw]
 cases Y.parts (t[i]).many.toNat (t.drop (i+1)) with
 | none=>simp
 | some ps=>simp [jK]
def iP (t:aK) (i:Nat) (p:List Stp):Int:=match gq p (Y.om t i) with
 | some j=>(i+j:Nat)
 | none=>-1
theorem Bv:∀ (p:List Stp) (t:aK) (j:Nat),Y.One t→gq p t=some j→j<t.length
 | [],t,j,ho,h=>by
  simp only [gq,Option.some.injEq] at h
  subst h
  exact List.length_pos_iff.2 ho.ne
 | s::p,[],j,ho,_=>absurd rfl ho.ne
 | s::p,x::r,j,ho,h=>by
  obtain ⟨hm,ps,h1,h2,h3⟩:=ho.parts
  have hp:Y.partsOf x r=ps:=by simp [Y.partsOf,h1]
  simp only [gq,hp] at h
  split at h
  · cases hf:kI s.name 1 ps with
    | none=>rw [hf] at h;cases h
    | some oq=>
     obtain ⟨o,q⟩:=oq
     rw [hf] at h
     simp only [Option.map_eq_some_iff] at h
     obtain ⟨k,hk,rfl⟩:=h
     have gen:∀ (qs:List aK) (o0:Nat),kI s.name o0 qs=some (o,q)→q ∈ qs∧o+q.length≤o0+qs.flatten.length:=by
      intro qs
      induction qs with
      | nil=>intro o0 h;simp [kI] at h
      | cons a t ih=>
       intro o0 h
       simp only [kI] at h
       split at h
       · simp only [Option.some.injEq,Prod.mk.injEq] at h
         obtain ⟨rfl,rfl⟩:=h
         exact ⟨List.mem_cons_self ..,by simp only [flatten_cons,List.length_append];omega⟩
       · obtain ⟨g1,g2⟩:=ih _ h
         exact ⟨List.mem_cons_of_mem _ g1,by simp only [flatten_cons,List.length_append];omega⟩
     obtain ⟨g1,g2⟩:=gen ps 1 hf
     have:=Bv p q k (h3 q g1) hk
     rw [h2] at g2
     simp only [List.length_cons]
     omega
  · cases h
theorem Gf {t:aK}{i:Nat}{p:List Stp}(ho:Y.One t) (hi:i<t.length):iP t i p<t.length∧(0≤iP t i p∨iP t i p=-1):=by
 unfold iP
 cases h:gq p (Y.om t i) with
 | none=>
  show (-1:Int)<t.length∧(0≤(-1:Int)∨(-1:Int)=-1)
  exact ⟨by omega,.inr rfl⟩
 | some j=>
  obtain ⟨ps,c,_,_,_,_,h5,h6,h7,h8⟩:=Y.qJ ho (List.getElem?_eq_getElem hi)
  have hs:(Y.om t i).length=1+c:=by
   rw [h7,List.length_cons,h5,length_take,length_drop];omega
  have hone:Y.One (Y.om t i):=by
   rw [h7]
   exact Y.One.made (by
    have:=Y.bN _ _ _ ‹Y.parts _ _=some ps›
    omega) h6
  have:=Bv p _ j hone h
  simp only
  omega
theorem YZ {t:aK}{i j:Nat}(ho:Y.One t) (hi:i<t.length) (hj:j<(Y.om t i).length):(Y.om t i)[j]?=t[i+j]?:=by
 obtain ⟨ps,c,_,_,_,_,h5,h6,h7,h8⟩:=Y.qJ ho (List.getElem?_eq_getElem hi)
 have e:Y.om t i=(t.drop i).take (c+1):=by rw [h7,h5,drop_eq_getElem_cons hi,List.take_succ_cons]
 rw [e] at hj ⊢
 rw [length_take,length_drop] at hj
 rw [List.getElem?_take,if_pos (by omega),List.getElem?_drop]
theorem sub_one {t:aK}{i:Nat}(ho:Y.One t) (hi:i<t.length):Y.One (Y.om t i):=by
 obtain ⟨ps,c,_,_,h3,_,h5,h6,h7,h8⟩:=Y.qJ ho (List.getElem?_eq_getElem hi)
 rw [h7]
 exact Y.One.made (by have:=Y.bN _ _ _ h3;omega) h6
theorem Oh {t:aK}{i:Nat}{p:List Stp}(ho:Y.One t) (hi:i<t.length):(eF p (Y.om t i)).isSome=true↔0≤iP t i p∧∃ x,t[(iP t i p).toNat]?=some x∧x.kind=1:=by
 unfold eF iP
 cases h:gq p (Y.om t i) with
 | none=>simp
 | some j=>
  have hj:=Bv p _ j (sub_one ho hi) h
  have hr:=YZ ho hi hj
  simp only [Int.toNat_natCast]
  rw [hr]
  constructor
  · intro hs
    split at hs
    · rename_i hk
      cases hx:t[i+j]? with
      | none=>rw [hx] at hk;simp at hk
      | some x=>rw [hx] at hk;exact ⟨by omega,x,rfl,by simpa using hk⟩
    · cases hs
  · rintro ⟨_,x,hx,hk⟩
    rw [hx,Option.map_some,hk]
    rfl
def eO (t:aK):Bool:=!t.isEmpty && Y.nameOf t==[] && Y.kindOf t !=9 && (Y.gX t.length t 1==some t.length) && Y.fw (jK bB fA) t
def qz (t:aK):Bool:=eO t && Y.fw GI t
theorem rV {t:aK}(h:eO t=true):ES bB fA t:=by
 simp only [eO,Bool.and_eq_true,beq_iff_eq,bne_iff_ne] at h
 obtain ⟨⟨⟨⟨_,h1⟩,h2⟩,h3⟩,h4⟩:=h
 exact ⟨Y.nC _ _ _ _ h3,h1,h2,(Y.jY t).1 h4⟩
theorem UQ {t:aK}(h:ES bB fA t):eO t=true:=by
 have h1:=h.name
 have h2:=h.kind
 have h3:Y.gX t.length t 1=some t.length:=Y.nT _ _ _ _ h.one (Nat.le_refl _)
 have h4:=(Y.jY t).2 h.good
 have h5:t.isEmpty=false:=by
  cases t with
  | nil=>exact absurd rfl h.one.ne
  | cons n r=>rfl
 simp [eO,h1,h2,h3,h4,h5]
theorem Js {pk:List UInt8→Bool}{pth:List UInt8→List Stp}{n:eT}{ps:List aK}(hk:n.kind=1) (Xp:uz n ps=true) (ho:∀ p ∈ ps,Y.One p) (hg:∀ p ∈ ps,Y.Good (jK pk pth) p) :
  ps.flatten.length=ps.length∧∀ x ∈ ps.flatten,gY (iy x)=true∧x.kind=9∧x.s=[]∧x.many=0:=by
 have hone:∀ p ∈ ps,∃ x,p=[x]∧x.kind=9∧x.s=[]∧x.many=0∧gY (iy x)=true:=fun p hp=>by
  refine IL (ho p hp) (hg p hp) ?_
  simp only [uz,Bool.and_eq_true,List.all_eq_true] at Xp
  have:=Xp.1 p hp
  simp only [xu,Bool.and_eq_true,hk] at this
  have h9:=this.1.1
  simpa using h9
 clear Xp ho hg
 induction ps with
 | nil=>exact ⟨rfl,fun x hx=>by cases hx⟩
 | cons q qs ih=>
  obtain ⟨i1,i2⟩:=ih fun p hp=>hone p (List.mem_cons_of_mem _ hp)
  obtain ⟨x,rfl,x1,x2,x3,x4⟩:=hone q (List.mem_cons_self ..)
  refine ⟨by simp [i1],fun y hy=>?_⟩
  simp only [flatten_cons,cons_append,nil_append,List.mem_cons] at hy
  rcases hy with rfl | hy
  · exact ⟨x4,x1,x2,x3⟩
  · exact i2 y hy
theorem Sw {t:aK}{i:Nat}{n:eT}(hr:ES bB fA t) (hn:t[i]?=some n) (hk:n.kind=1) :
  ∃ ps,Y.parts n.many.toNat (t.drop (i+1))=some ps∧ps.flatten=(t.drop (i+1)).take n.many.toNat∧0≤n.many∧i+1+n.many.toNat≤t.length∧1≤n.n∧n.n≤31∧∀ x ∈ ps.flatten,gY (iy x)=true:=by
 obtain ⟨hi,rfl⟩:=List.getElem?_eq_some_iff.1 hn
 obtain ⟨ps,c,h1,h2,h3,h4,h5,h6,h7,h8⟩:=Y.qJ hr.one (List.getElem?_eq_getElem hi)
 obtain ⟨qs,q1,q2⟩:=hr.good i t[i] (t.drop (i+1)) (drop_eq_getElem_cons hi)
 rw [h3] at q1;cases q1
 simp only [jK,Bool.and_eq_true] at q2
 have hgs:Y.Good (jK bB fA) ps.flatten:=by
  have hg0:=hr.good
  rw [← List.take_append_drop (i+1) t] at hg0
  have hg1:=hg0.Yb
  rw [← List.take_append_drop c (t.drop (i+1)),← h5] at hg1
  have hone:Y.skip ps.flatten ps.length=some ps.flatten.length:=Y.jX ps h6
  intro j m s hd
  obtain ⟨qs,e1,e2⟩:=hg1 j m (s++(t.drop (i+1)).drop c) (Y.uP hd)
  have hj:j<ps.flatten.length:=by
   rcases Nat.lt_or_ge j ps.flatten.length with h | h
   · exact h
   · rw [List.drop_eq_nil_of_le h] at hd;cases hd
  obtain ⟨k',c',hk'⟩:=Y.oQ ps.flatten ps.length _ j hone hj
  rw [hd] at hk'
  obtain ⟨_,c2,rfl,hk2⟩:=Y.cB hk'
  obtain ⟨ca,cb,hka,_,_⟩:=Y.nD _ m.many.toNat k' c2 (by rw [Nat.add_comm];exact hk2)
  obtain ⟨rs,r1,_,_⟩:=Y.eu _ _ _ hka
  have:=Y.iq _ _ ((t.drop (i+1)).drop c) _ r1
  rw [e1] at this;cases this
  exact ⟨qs,r1,e2⟩
 obtain ⟨a1,a2⟩:=Js hk q2.1.2 h6 (Y.Good.ji ps h6 hgs)
 have hpl:=Y.bN _ _ _ h3
 have hcl:ps.flatten.length=c:=by rw [h5,length_take,length_drop];omega
 have hc:c=(t[i]).many.toNat:=by omega
 have hp:=q2.1.1
 simp only [b_,hk,Int.reduceEq,if_false,if_true,Bool.and_eq_true,decide_eq_true_eq] at hp
 exact ⟨ps,h3,by rw [h5,hc],h1,by omega,hp.1.1.1.2,hp.1.1.2,fun x hx=>(a2 x hx).1⟩
def w_ (t:aK) (i:Nat):Bool:=match t.drop i with
 | n::r=>(match Y.parts n.many.toNat r with | some ps=>GI n ps | none=>false)
 | []=>true
theorem QN {t:aK}{i:Nat}{n:eT}(hi:t[i]?=some n):Y.fw GI (t.drop i)=(w_ t i && Y.fw GI (t.drop (i+1))):=by
 have hl:=(List.getElem?_eq_some_iff.1 hi).1
 have hd:=drop_eq_getElem_cons hl
 rw [List.getElem?_eq_getElem hl] at hi
 cases hi
 simp only [w_,hd,Y.fw]
 rfl
end Lp
namespace Lp
open Go Go.Proofs
def rW (v:aK) (i:Nat):Int:=match Y.gX v.length (v.drop i) 1 with
 | some c=>(i+c:Nat)
 | none=>-1
theorem zG {v:aK}{i:Nat}(h:(Y.gX v.length (v.drop i) 1).map (fun c=>i+c)=none):rW v i=-1:=by
 unfold rW
 cases hx:Y.gX v.length (v.drop i) 1 with
 | none=>rfl
 | some c=>rw [hx] at h;simp at h
theorem Gg {v:aK}{i j:Nat}(h:(Y.gX v.length (v.drop i) 1).map (fun c=>i+c)=some j):rW v i=j:=by
 unfold rW
 cases hx:Y.gX v.length (v.drop i) 1 with
 | none=>rw [hx] at h;simp at h
 | some c=>rw [hx] at h;simp only [Option.map_some,Option.some.injEq] at h;rw [← h]
theorem Jt (L:Nat) (v:aK):Y.gX L v 0=some 0:=by cases v <;> rfl
theorem QO (v:aK) (i:Nat) (hi:i≤v.length) (hl:v.length≤1000000):ai Tryz.prog 31 [aA v,.int .i64 i] [] (.int .i64 (rW v i)) []:=by
 refine Bp.bE (T:=aU Tryz.prog []) 0 hD (aj ah) aY (by decide) fun Q hQ=>?_
 (conv=>arg 4;cbv);simp(maxSteps:=400000)only[↓ax,ay,BEq.rfl,reduceIte,reduceCtorEq,Nat.reduceLT,Nat.reduceAdd,Nat.reduceSub,Nat.reduceMul,Nat.reduceBEq,Nat.reduceLeDiff,Int.reduceToNat,Int.reduceLE,hQ]
 refine aH (fun m S=>∃ j k:Nat,j+m=v.length∧k≤1+j*1000000∧(Y.gX v.length (v.drop i) 1).map (fun c=>i+c)=(Y.gX v.length (v.drop j) k).map (fun c=>j+c)∧
  S=⟨dU 41 [(0,aA v),(1,.int .i64 j),(5,.int .i64 k)],[]⟩) (v.length-i) ⟨i,1,by omega,by omega,rfl,?_⟩ ?_
 · simp only [dh,keepR,Nat.reduceAdd,oC,Nat.reduceBEq,List.map_nil]
   rfl
 rintro m S ⟨j,k,hjm,hk,hn,rfl⟩
 rcases Nat.lt_or_ge j v.length with h | h
 · have hg:=List.getElem?_eq_getElem h
   have hd:=List.drop_eq_getElem_cons h
   generalize v[j]=n at hg hd
   simp(maxSteps:=400000)only[↓ax,ay,BEq.rfl,reduceIte,reduceCtorEq,Nat.reduceLT,Nat.reduceAdd,Nat.reduceSub,Nat.reduceMul,Nat.reduceBEq,Nat.reduceLeDiff,Int.reduceToNat,Int.reduceLE,hQ,hg]
   refine ⟨fun hk0=>⟨fun h'=>absurd h' (by omega),fun _=>⟨by omega,fun hm=>?_,fun hm=>⟨by omega,fun hm2=>?_,fun hm2=>?_⟩⟩⟩,fun hk0=>?_⟩
   · obtain ⟨k,rfl⟩:∃ q,k=q+1:=⟨k-1,by omega⟩
     rw [hd,Y.gX,if_pos (.inl hm)] at hn
     rw [zG hn]
   · obtain ⟨k,rfl⟩:∃ q,k=q+1:=⟨k-1,by omega⟩
     rw [hd,Y.gX,if_pos (.inr hm2)] at hn
     rw [zG hn]
   · obtain ⟨k,rfl⟩:∃ q,k=q+1:=⟨k-1,by omega⟩
     rw [hd,Y.gX,if_neg (by omega)] at hn
     have hk2:(((k+1:Nat):Int)-1+n.many)=((k+n.many.toNat:Nat):Int):=by omega
     refine ⟨⟨by omega,by omega⟩,by omega,⟨by omega,by omega⟩,⟨by omega,by omega⟩,m-1,by omega,j+1,k+n.many.toNat,by omega,by omega,?_,?_⟩
     · rw [hn]
       cases Y.gX v.length (v.drop (j+1)) (k+n.many.toNat) with
       | none=>rfl
       | some c=>simp;omega
     · rw [hk2];rfl
   · have hk1:k=0:=by omega
     subst hk1
     rw [Jt] at hn
     rw [Gg (j:=j) (by simpa using hn)]
 · simp(maxSteps:=400000)only[↓ax,ay,BEq.rfl,reduceIte,reduceCtorEq,Nat.reduceLT,Nat.reduceAdd,Nat.reduceSub,Nat.reduceMul,Nat.reduceBEq,Nat.reduceLeDiff,Int.reduceToNat,Int.reduceLE,hQ]
   refine ⟨fun hk0=>⟨fun _=>?_,fun h'=>absurd (by omega) h'⟩,fun hk0=>?_⟩
   · obtain ⟨k,rfl⟩:∃ q,k=q+1:=⟨k-1,by omega⟩
     rw [List.drop_eq_nil_of_le h] at hn
     simp only [Y.gX,Option.map_none] at hn
     rw [zG hn]
   · have hk1:k=0:=by omega
     subst hk1
     rw [Jt] at hn
     rw [Gg (j:=j) (by simpa using hn)]
theorem Oi (v:aK) (i:Int) (h0:0≤i) (hi:i.toNat≤v.length) (hl:v.length≤1000000):ai Tryz.prog 31 [aA v,.int .i64 i] [] (.int .i64 (rW v i.toNat)) []:=by
 have e:i=(i.toNat:Int):=by omega
 rw [e]
 exact QO v i.toNat hi hl
def h_:dN:=fun args objs K=>match args with
 | [a0,.int .i64 i]=>gu aA a0 (HK.mk:HK fun v=>(0≤i)∧(i.toNat≤v.length)∧(v.length≤1000000)∧K (.int .i64 (rW v i.toNat)) objs 0)
 | _=>False
theorem tO:aD Tryz.prog 31 (h_):=by
 intro args objs K h
 unfold h_ at h
 split at h
 · rename_i a0 i
   obtain ⟨v,rfl,h1,h2,h3,hk⟩:=h
   exact ⟨_,_,_,.pure _ rfl (Oi v i h1 h2 h3),hk⟩
 · exact h.elim
theorem Gi {t:aK}{i c:Nat}(h:Y.gX t.length (t.drop i) 1=some c):rW t i=(i+c:Nat):=by
 simp only [rW,h]
theorem qL (objs:List Obj) (K:KT) :
  (∀ k m nm,bD D 51 [(0,.int .i64 k),(1,.int .i64 m),(2,.str nm)] objs K=K (aV ⟨k,m,nm,[],0,aW⟩) objs 0)∧
  (∀ k n m,bD D 51 [(0,.int .i64 k),(4,.int .i64 n),(1,.int .i64 m)] objs K=K (aV ⟨k,m,[],[],n,aW⟩) objs 0)∧
  (∀ k n c,bD D 51 [(0,.int .i64 k),(4,.int .i64 n),(5,av c)] objs K=K (aV ⟨k,0,[],[],n,c⟩) objs 0)∧
  (∀ k n,bD D 51 [(0,.int .i64 k),(4,.int .i64 n)] objs K=K (aV ⟨k,0,[],[],n,aW⟩) objs 0)∧
  (∀ k,bD D 51 [(0,.int .i64 k)] objs K=K (aV ⟨k,0,[],[],0,aW⟩) objs 0)∧
  (bD D 51 [] objs K=K (aV ⟨0,0,[],[],0,aW⟩) objs 0):=by
 have z:aF (D 51)=aV ⟨0,0,[],[],0,aW⟩:=by kernel_rfl
 have a:(D 51).agg=true:=by kernel_rfl
 simp only [bL] at z a
 refine ⟨fun k m nm=>?_,fun k n m=>?_,fun k n c=>?_,fun k n=>?_,fun k=>?_,?_⟩
 all_goals
  simp [bD,kR,a,z,bL,lJ,aV,av,aW,PV.isAgg,pE,PV.cells,PV.storable,PV.kW,PV.pure]
theorem iL:PV.uL (.agg ⟨[.int .i64 0,.int .i64 0,.string ⟨⟨[]⟩⟩,.string ⟨⟨[]⟩⟩,.int .i64 0,.int .i64 0,.int .i64 0,.string ⟨⟨[]⟩⟩,.string ⟨⟨[]⟩⟩,.bool false,.int .i64 0]⟩)=aV ⟨0,0,[],[],0,aW⟩:=rfl
theorem atB (objs:List Obj) (K:KT):(∀ n c,bD D 29 [(0,.int .i64 n),(1,av c)] objs K=K (bP ⟨n,c⟩) objs 0):=by
 have z:aF (D 29)=bP ⟨0,aW⟩:=by kernel_rfl
 have a:(D 29).agg=true:=by kernel_rfl
 simp only [bL] at z a
 intro n c
 simp [bD,kR,a,z,bL,lJ,bP,av,aW,PV.isAgg,pE,PV.cells,PV.storable,PV.kW,PV.pure]
theorem iM (a:eT) (k m:Int) (nm s:List UInt8) (n ck cm:Int) (cn cs:List UInt8) (cg:Bool) (ce:Int):(aV a).putCells 0 [.int .i64 k,.int .i64 m,.str nm,.str s,.int .i64 n,.int .i64 ck,.int .i64 cm,.str cn,.str cs,.bool cg,.int .i64 ce]=aV ⟨k,m,nm,s,n,⟨ck,cm,cn,cs,cg,ce⟩⟩:=rfl
theorem zH:(∀ x:eT,PV.agg [.int .i64 x.kind,.int .i64 x.many,.str x.name,.str x.s,.int .i64 x.n,.int .i64 x.c.kind,.int .i64 x.c.many,.str x.c.name,.str x.c.s,.bool x.c.neg,.int .i64 x.c.e]=aV x)∧
  (∀ (x:eT) nm,PV.agg [.int .i64 x.kind,.int .i64 x.many,.str nm,.str x.s,.int .i64 x.n,.int .i64 x.c.kind,.int .i64 x.c.many,.str x.c.name,.str x.c.s,.bool x.c.neg,.int .i64 x.c.e]=aV { x with name:=nm }):=⟨fun _=>rfl,fun _ _=>rfl⟩
theorem bY (n:Nd):Nd.mk n.kind n.many n.name n.s n.neg n.e=n:=rfl
theorem dS (x:eT):eT.mk x.kind x.many x.name x.s x.n x.c=x:=rfl
theorem UR:PV.uL (.agg ⟨[.int .i64 0,.int .i64 0,.int .i64 0,.string ⟨⟨[]⟩⟩,.string ⟨⟨[]⟩⟩,.bool false,.int .i64 0]⟩)=bP ⟨0,aW⟩:=rfl
theorem EF (v:List f_) (ver:Nat) (t:TypeId) (rest:List Obj):fJ 1 0 (⟨t,7,v.map bP,true,ver⟩::rest) (.bO 0 ver)=bg v:=by
 have:(v.map bP).map (PV.bQ (jl 0 0 (⟨t,7,v.map bP,true,ver⟩::rest)))=v.map bP:=by
  rw [List.map_map];exact List.map_congr_left fun x _=>rfl
 simp only [fJ,Nat.not_lt_zero,if_false,jl,List.getElem?_cons_zero,Nat.le_refl,decide_true,Bool.true_and,beq_self_eq_true,if_true,this]
 rfl
theorem UU:∀ d X v,fJ d 1 X (.bO 0 v)=.bO 0 v:=fun _ _ _=>rfl
end Lp
namespace Lp
open Go Go.Proofs
section
variable {P:Program}
theorem Oj {w:World}{d:Nat}{ok:Nat→Prop}{xs ys:Array Value}{gs:List Field}{r2:Bool}(hg:(Op.eqFields (d+1) xs ys gs).run P w=.ok r2 w):∀ (fs:List Field) (k:Nat) (aa bs:List PV) (r:Bool),vF P k fs aa bs=true→xB aa bs=some r→
  (∀ i p,aa[i]?=some p→∃ v,xs[k+i]?=some v∧dA w ok p v)→(∀ i p,bs[i]?=some p→∃ v,ys[k+i]?=some v∧dA w ok p v)→
  (Op.eqFields (d+1) xs ys (fs++gs)).run P w=.ok (r && r2) w
 | [],k,aa,bs,r,hf,he,_,_=>by
  cases aa <;> cases bs <;> simp [vF] at hf
  simp only [xB,Option.some.injEq] at he
  subst he
  simpa using hg
 | f::fs,k,aa,bs,r,hf,he,ha,hb=>by
  cases aa with
  | nil=>cases bs <;> simp [vF] at hf
  | cons p aa=>
   cases bs with
   | nil=>simp [vF] at hf
   | cons q bs=>
    simp only [vF,Bool.and_eq_true,beq_iff_eq,bne_iff_ne] at hf
    obtain ⟨⟨⟨hn,ho⟩,ht⟩,hr⟩:=hf
    obtain ⟨v,hv,rv⟩:=ha 0 p rfl
    obtain ⟨u,hu,ru⟩:=hb 0 q rfl
    obtain ⟨b,hb1,hb2,e,he1,he2⟩:=Wx (d:=d) ht rv ru
    simp only [xB,hb1] at he
    cases hq:xB aa bs with
    | none=>rw [hq] at he;simp at he
    | some r'=>
     rw [hq] at he
     simp only [Option.some.injEq] at he
     subst he
     have ih:=Oj (w:=w) (d:=d) (ok:=ok) (xs:=xs) (ys:=ys) hg fs (k+1) aa bs r' hr hq (fun i p h=>by have:=ha (i+1) p (by simpa using h);rwa [show k+(i+1)=k+1+i by omega] at this) (fun i p h=>by have:=hb (i+1) p (by simpa using h);rwa [show k+(i+1)=k+1+i by omega] at this)
     have p1:=vG (w:=w) (xs:=xs) (o:=f.offset) he1 he2 (by rw [ho];simpa using hv)
     have p2:=vG (w:=w) (xs:=ys) (o:=f.offset) he1 he2 (by rw [ho];simpa using hu)
     simp only [List.cons_append,Op.eqFields,ne_eq,hn,not_false_eq_true,if_true,Sem.run_bind,p1,Result.andThen_ok,p2,hb2]
     cases b
     · simp
     · simpa using ih
theorem Sy:∀ {a1 b1 a2 b2:List PV}{r:Bool},a1.length=b1.length→xB (a1++a2) (b1++b2)=some r→∃ r1 r2,xB a1 b1=some r1∧xB a2 b2=some r2∧r=(r1 && r2)
 | [],[],a2,b2,r,_,h=>⟨true,r,rfl,h,by simp⟩
 | [],_::_,_,_,_,hl,_=>by simp at hl
 | _::_,[],_,_,_,hl,_=>by simp at hl
 | p::a1,q::b1,a2,b2,r,hl,h=>by
  simp only [List.cons_append,xB] at h
  cases hs:X4 p q with
  | none=>rw [hs] at h;simp at h
  | some x=>
   cases ht:xB (a1++a2) (b1++b2) with
   | none=>rw [hs,ht] at h;simp at h
   | some y=>
    rw [hs,ht] at h
    simp only [Option.some.injEq] at h
    obtain ⟨r1,r2,h1,h2,rfl⟩:=Sy (by simpa using hl) ht
    refine ⟨x && r1,r2,by simp [xB,hs,h1],h2,?_⟩
    rw [← h,Bool.and_assoc]
theorem UW {t:TypeId}{fs:List Field}{g:Field}{a1 a2 b1 b2:List PV}(hgd:P.eqGuardType P.depth t=false) (ht:P.underlying t=some (.struct (P.fieldsOf t))) (hp:P.stoodInHeld t=false)
  (hfs:(P.fieldsOf t).toList=fs++[g]) (hf:vF P 0 fs a1 b1=true) (hn:g.name≠ "_") (ho:g.offset=a1.length) (hl1:a1.length=b1.length) (hl2:a2.length=b2.length)
  (hu:P.underlying g.type=some (.struct (P.fieldsOf g.type))) (hp2:P.stoodInHeld g.type=false) (hs:∀ w,(Go.sizeOf g.type).run P w=.ok a2.length w) (hf2:vF P 0 (P.fieldsOf g.type).toList a2 b2=true) :
  zU P t (a1++a2) (b1++b2):=by
 refine ⟨hgd,fun w ok vs us r hr h1 h2=>?_⟩
 obtain ⟨r1,r2,e1,e2,rfl⟩:=Sy hl1 hr
 have e:Op.equal t (.agg ⟨vs⟩) (.agg ⟨us⟩)=Op.equalIn (9999+1) t (.agg ⟨vs⟩) (.agg ⟨us⟩):=rfl
 rw [e,run_equalIn_struct w 9999 t _ _ ht hp,hfs]
 have get:∀ {xs:List Value}{c1 c2:List PV},cu (dA w ok) (c1++c2) xs→(∀ i p,c1[i]?=some p→∃ v,(⟨xs⟩:Array Value)[0+i]?=some v∧dA w ok p v)∧(∀ i p,c2[i]?=some p→∃ v,(⟨xs⟩:Array Value)[c1.length+i]?=some v∧dA w ok p v):=by
  intro xs c1 c2 h
  have hlen:=h.1
  rw [List.length_append] at hlen
  constructor
  · intro i p hi
    have hlt:=(List.getElem?_eq_some_iff.1 hi).1
    have hv:xs[i]?=some (xs[i]'(by omega)):=List.getElem?_eq_getElem _
    exact ⟨_,by simpa using hv,h.2 i p _ (by rw [List.getElem?_append_left hlt];exact hi) hv⟩
  · intro i p hi
    have hlt:=(List.getElem?_eq_some_iff.1 hi).1
    have hv:xs[c1.length+i]?=some (xs[c1.length+i]'(by omega)):=List.getElem?_eq_getElem _
    exact ⟨_,by simpa using hv,h.2 _ p _ (by rw [List.getElem?_append_right (by omega)];simpa using hi) hv⟩
 obtain ⟨g1,g2⟩:=get h1
 obtain ⟨k1,k2⟩:=get h2
 refine Oj (d:=9998) (ok:=ok) ?_ fs 0 a1 b1 r1 hf e1 g1 k1
 have pt:∀ xs:Array Value,(part g.type xs g.offset).run P w=.ok (.agg (xs.extract g.offset (g.offset+a2.length))) w:=fun xs=>by
  simp [part,isAgg,run_underlying hu,hs]
 have ext:∀ {xs:Array Value}{c:List PV},c.length=a2.length→(∀ i p,c[i]?=some p→∃ v,xs[g.offset+i]?=some v∧dA w ok p v)→∀ i p,c[i]?=some p→∃ v,(xs.extract g.offset (g.offset+a2.length))[0+i]?=some v∧dA w ok p v:=by
  intro xs c hc h i p hi
  have hlt:=(List.getElem?_eq_some_iff.1 hi).1
  obtain ⟨v,q1,q2⟩:=h i p hi
  refine ⟨v,?_,q2⟩
  have hx:=(Array.getElem?_eq_some_iff.1 q1).1
  rw [Nat.zero_add,Array.getElem?_extract,if_pos (by omega)]
  exact q1
 have hin:=Kl (d:=9997) (w:=w) (ok:=ok) (xs:=Array.extract ⟨vs⟩ g.offset (g.offset+a2.length)) (ys:=Array.extract ⟨us⟩ g.offset (g.offset+a2.length)) _ 0 a2 b2 r2 hf2 e2
  (ext rfl (by rw [ho];exact g2)) (ext hl2.symm (by rw [ho,hl1];exact k2))
 have hst:=run_equalIn_struct w 9998 g.type (Array.extract ⟨vs⟩ g.offset (g.offset+a2.length)) (Array.extract ⟨us⟩ g.offset (g.offset+a2.length)) hu hp2
 have hst':(Op.equalIn (9998+1) g.type (.agg (Array.extract ⟨vs⟩ g.offset (g.offset+a2.length))) (.agg (Array.extract ⟨us⟩ g.offset (g.offset+a2.length)))).run P w=.ok r2 w:=hst.trans hin
 simp only [Op.eqFields,ne_eq,hn,not_false_eq_true,if_true,Sem.run_bind,pt,Result.andThen_ok,hst']
 cases r2 <;> simp
end
theorem Xq (a b:eT):zU Tryz.prog 51 (aV a).cells (aV b).cells:=by
 have h:(Tryz.prog.fieldsOf 51).toList.map (fun f=>(f.name != "_",f.offset,f.type))=[(true,0,3),(true,1,3),(true,2,9),(true,3,9),(true,4,3),(true,5,27)]:=by kernel_rfl
 generalize hfs:(Tryz.prog.fieldsOf 51).toList=fs at h
 obtain _ | ⟨f0,_ | ⟨f1,_ | ⟨f2,_ | ⟨f3,_ | ⟨f4,_ | ⟨f5,_ | ⟨f6,fr⟩⟩⟩⟩⟩⟩⟩:=fs
 all_goals simp only [List.map_cons,List.map_nil,List.cons.injEq,Prod.mk.injEq,and_true,reduceCtorEq,and_false] at h
 obtain ⟨⟨a0,b0,c0⟩,⟨a1,b1,c1⟩,⟨a2,b2,c2⟩,⟨a3,b3,c3⟩,⟨a4,b4,c4⟩,⟨a5,b5,c5⟩⟩:=h
 have u3:Tryz.prog.underlying 3=some (.int .i64):=by kernel_rfl
 have u9:Tryz.prog.underlying 9=some .string:=by kernel_rfl
 have hN:=Wy a.c b.c
 have key:=UW (P:=Tryz.prog) (t:=51) (fs:=[f0,f1,f2,f3,f4]) (g:=f5) (a1:=[.int .i64 a.kind,.int .i64 a.many,.str a.name,.str a.s,.int .i64 a.n]) (b1:=[.int .i64 b.kind,.int .i64 b.many,.str b.name,.str b.s,.int .i64 b.n]) (a2:=(av a.c).cells) (b2:=(av b.c).cells)
  (by kernel_rfl) (by kernel_rfl) (by kernel_rfl) (by rw [hfs];rfl)
  (by simp only [vF,Uc,a0,b0,c0,a1,b1,c1,a2,b2,c2,a3,b3,c3,a4,b4,c4,u3,u9,Bool.and_true,BEq.rfl,decide_true,Nat.zero_add,Nat.reduceAdd])
  (by simpa using a5) (by rw [b5];rfl) rfl rfl (by rw [c5];kernel_rfl) (by rw [c5];kernel_rfl) (fun w=>by rw [c5];have h:=(hD 27).dD (by simp [bL]) w;simp only [bL] at h;exact h) (by
   rw [c5]
   have h:(Tryz.prog.fieldsOf 27).toList.map (fun f=>(f.name != "_",f.offset,Tryz.prog.underlying f.type))=[(true,0,some (.int .i64)),(true,1,some (.int .i64)),(true,2,some .string),(true,3,some .string),(true,4,some .bool),(true,5,some (.int .i64))]:=by kernel_rfl
   generalize (Tryz.prog.fieldsOf 27).toList=fs at h
   obtain _ | ⟨f0,_ | ⟨f1,_ | ⟨f2,_ | ⟨f3,_ | ⟨f4,_ | ⟨f5,_ | ⟨f6,fr⟩⟩⟩⟩⟩⟩⟩:=fs
   all_goals simp only [List.map_cons,List.map_nil,List.cons.injEq,Prod.mk.injEq,and_true,reduceCtorEq,and_false] at h
   obtain ⟨⟨a0,b0,c0⟩,⟨a1,b1,c1⟩,⟨a2,b2,c2⟩,⟨a3,b3,c3⟩,⟨a4,b4,c4⟩,⟨a5,b5,c5⟩⟩:=h
   simp only [vF,Uc,av,PV.cells,a0,b0,c0,a1,b1,c1,a2,b2,c2,a3,b3,c3,a4,b4,c4,a5,b5,c5,Bool.and_true,BEq.rfl,decide_true,Nat.zero_add,Nat.reduceAdd])
 exact key
theorem acn (ti:aB) (K:PV→Prop) :
  (∀ a b,nN Tryz.prog ti 51 .eql (aV a) (aV b) K=K (.bool (decide (a=b))))∧
  (∀ a b,nN Tryz.prog ti 51 .neq (aV a) (aV b) K=K (.bool (!decide (a=b)))):=by
 refine ⟨fun a b=>?_,fun a b=>?_⟩
 · show (zU Tryz.prog 51 (aV a).cells (aV b).cells∧∃ r,xB (aV a).cells (aV b).cells=some r∧K (.bool r))=_
   rw [aaZ]
   simp [Xq]
 · show (zU Tryz.prog 51 (aV a).cells (aV b).cells∧∃ r,xB (aV a).cells (aV b).cells=some r∧K (.bool (!r)))=_
   rw [aaZ]
   simp [Xq]
end Lp
namespace Lp
open Go Go.Proofs
open Nat (lt_or_ge reduceAdd reduceLeDiff reduceMul reduceSub)
open Int (reduceLE reduceToNat)
def jv (n:eT):Bool:=decide (n.s.length≤100) && decide (n.name.length≤100) && decide (n.c.s.length≤100)
theorem QR (t:aK) (k:Nat) (hk:k≤1000000) (hl:t.length≤4611686018427387904) (htx:∀ n ∈ t,n.s.length≤4611686018427387904∧n.name.length≤4611686018427387904∧n.c.s.length≤4611686018427387904) :
  ai Tryz.prog 24 [aA t,.int .i64 k] [] (.bool (decide (t.length≤k) && t.all jv)) []:=by
 refine zx.bE (T:=aU Tryz.prog []) 0 hD (aj ah) aY (by decide) fun Q hQ=>?_
 (conv=>arg 4;cbv);simp(maxSteps:=400000)only[↓ax,ay,BEq.rfl,reduceIte,reduceCtorEq,Nat.reduceLT,reduceAdd,reduceSub,reduceMul,Nat.reduceBEq,reduceLeDiff,reduceToNat,reduceLE,hQ]
 refine aH (fun m S=>∃ i:Nat,i+m=t.length∧i≤k∧(∀ (j:Nat) x,j<i→t[j]?=some x→jv x=true)∧S=⟨dU 43 [(0,aA t),(1,.int .i64 k),(5,.int .i64 i)],[]⟩) t.length ⟨0,by omega,by omega,fun j x h=>absurd h (Nat.not_lt_zero j),?_⟩ ?_
 · simp only [dh,keepR,reduceAdd,oC,Nat.reduceBEq,List.map_nil]
   rfl
 rintro m S ⟨i,him,hik,hb,rfl⟩
 have zi:(0≤(i:Int))=True:=eq_true (by omega)
 rcases lt_or_ge i t.length with h | h
 · have hlt:((i:Int)<(t.length:Int))=True:=eq_true (by omega)
   have hgi:=List.getElem?_eq_getElem h
   have adg:=htx _ (List.getElem_mem h)
   generalize t[i]=x at hgi adg
   have no:jv x=false→(decide (t.length≤k) && t.all jv)=false:=fun hx=>by
    have:t.all jv=false:=by rw [List.all_eq_false];exact ⟨x,List.mem_of_getElem? hgi,by simp [hx]⟩
    simp [this]
   rcases lt_or_ge i k with g | g
   rotate_left 1
   · have hkl:((k:Int)≤(i:Int))=True:=eq_true (by omega)
     have hr:(decide (t.length≤k) && t.all jv)=false:=by
      have:decide (t.length≤k)=false:=decide_eq_false (by omega)
      simp [this]
     simp(maxSteps:=400000)only[↓ax,ay,BEq.rfl,reduceIte,reduceCtorEq,Nat.reduceLT,reduceAdd,reduceSub,reduceMul,Nat.reduceBEq,reduceLeDiff,reduceToNat,reduceLE,hQ,hlt,zi,hgi,hkl,hr]
   have hkl:((k:Int)≤(i:Int))=False:=eq_false (by omega)
   by_cases h1:x.s.length≤100
   rotate_left 1
   · have e1:((100:Int)<(x.s.length:Int))=True:=eq_true (by omega)
     have hr:=no (by simp [jv,h1])
     simp(maxSteps:=400000)only[↓ax,ay,BEq.rfl,reduceIte,reduceCtorEq,Nat.reduceLT,reduceAdd,reduceSub,reduceMul,Nat.reduceBEq,reduceLeDiff,reduceToNat,reduceLE,hQ,hlt,zi,hgi,hkl,e1,hr]
   have e1:((100:Int)<(x.s.length:Int))=False:=eq_false (by omega)
   by_cases h2:x.name.length≤100
   rotate_left 1
   · have e2:((100:Int)<(x.name.length:Int))=True:=eq_true (by omega)
     have hr:=no (by simp [jv,h2])
     simp(maxSteps:=400000)only[↓ax,ay,BEq.rfl,reduceIte,reduceCtorEq,Nat.reduceLT,reduceAdd,reduceSub,reduceMul,Nat.reduceBEq,reduceLeDiff,reduceToNat,reduceLE,hQ,hlt,zi,hgi,hkl,e1,e2,hr]
   have e2:((100:Int)<(x.name.length:Int))=False:=eq_false (by omega)
   by_cases h3:x.c.s.length≤100
   rotate_left 1
   · have e3:((100:Int)<(x.c.s.length:Int))=True:=eq_true (by omega)
     have hr:=no (by simp [jv,h3])
     simp(maxSteps:=400000)only[↓ax,ay,BEq.rfl,reduceIte,reduceCtorEq,Nat.reduceLT,reduceAdd,reduceSub,reduceMul,Nat.reduceBEq,reduceLeDiff,reduceToNat,reduceLE,hQ,hlt,zi,hgi,hkl,e1,e2,e3,hr]
   have e3:((100:Int)<(x.c.s.length:Int))=False:=eq_false (by omega)
   simp(maxSteps:=400000)only[↓ax,ay,BEq.rfl,reduceIte,reduceCtorEq,Nat.reduceLT,reduceAdd,reduceSub,reduceMul,Nat.reduceBEq,reduceLeDiff,reduceToNat,reduceLE,hQ,hlt,zi,hgi,hkl,e1,e2,e3]
   refine ⟨⟨by omega,by omega⟩,m-1,by omega,i+1,by omega,by omega,fun j y hj hy=>?_,rfl⟩
   rcases lt_or_ge j i with g' | g'
   · exact hb j y g' hy
   · have:j=i:=by omega
     subst this
     rw [hgi] at hy;cases hy
     simp [jv,h1,h2,h3]
 · have hlt:((i:Int)<(t.length:Int))=False:=eq_false (by omega)
   have hr:(decide (t.length≤k) && t.all jv)=true:=by
    have h1:decide (t.length≤k)=true:=decide_eq_true (by omega)
    have h2:t.all jv=true:=by
     rw [List.all_eq_true];intro x hx
     obtain ⟨j,hj⟩:=List.mem_iff_getElem?.1 hx
     have:=(List.getElem?_eq_some_iff.1 hj).1
     exact hb j x (by omega) hj
    rw [h1,h2];rfl
   simp(maxSteps:=400000)only[↓ax,ay,BEq.rfl,reduceIte,reduceCtorEq,Nat.reduceLT,reduceAdd,reduceSub,reduceMul,Nat.reduceBEq,reduceLeDiff,reduceToNat,reduceLE,hQ,hlt,hr]
def pX:dN:=fun args objs K=>match args with
 | [a0,.int .i64 k]=>gu aA a0 (HK.mk:HK fun t=>(0≤k)∧(k≤1000000)∧(t.length≤4611686018427387904)∧(∀ n ∈ t,n.s.length≤4611686018427387904∧n.name.length≤4611686018427387904∧n.c.s.length≤4611686018427387904)∧K (.bool (decide (t.length≤k.toNat) && t.all jv)) objs 0)
 | _=>False
theorem Ib:aD Tryz.prog 24 (pX):=by
 intro args objs K h
 unfold pX at h
 split at h
 · rename_i a0 k
   obtain ⟨t,rfl,h1,h2,h3,h4,hk⟩:=h
   exact ⟨_,_,_,.pure _ rfl ((by have:=QR t k.toNat (by omega) h3 h4;rwa [Int.toNat_of_nonneg h1] at this)),hk⟩
 · exact h.elim
end Lp
namespace Lp
open Go Go.Proofs
def bV:LC:=
 (.cond (.tmp 105)
        .skip
        (.seq (.reg [⟨some 107,.binOp .eql 3 (.tmp 14) (.const (.int .i64 5)) 3,none,false⟩,
         ⟨some 105,.assign (.tmp 107),none,false⟩])
        (.cond (.tmp 105)
         .skip
         (.reg [⟨some 108,.binOp .eql 3 (.tmp 14) (.const (.int .i64 6)) 3,none,false⟩,
          ⟨some 105,.assign (.tmp 108),none,false⟩]))))
def dQ:LC:=
 (.cond (.tmp 117)
         .skip
         (.reg [⟨some 119,.binOp .eql 3 (.tmp 14) (.const (.int .i64 8)) 3,none,false⟩,
          ⟨some 117,.assign (.tmp 119),none,false⟩]))
def dR:LC:=
 (.cond (.tmp 117)
         (.seq (.reg [⟨some 121,.fieldAddr 51 (.tmp 1) 3,none,false⟩,
          ⟨some 122,.load 9 (.tmp 121),none,false⟩,
          ⟨some 123,.call ⟨.value (.func 34),⟨[(.tmp 122)]⟩,⟨[9]⟩⟩,none,false⟩,
          ⟨some 120,.move (.tmp 123),none,false⟩,
          ⟨some 124,.extract (.tmp 120) 0,none,false⟩,
          ⟨some 125,.extract (.tmp 120) 1,none,false⟩,
          ⟨some 4,.assign (.tmp 124),none,false⟩,
          ⟨some 5,.assign (.tmp 125),none,false⟩])
         (.seq (.reg [⟨some 126,.fieldAddr 51 (.tmp 1) 3,none,false⟩,
          ⟨some 127,.load 9 (.tmp 126),none,false⟩,
          ⟨some 128,.fieldAddr 51 (.tmp 3) 3,none,false⟩,
          ⟨none,.store 9 (.tmp 128) (.tmp 127),none,false⟩])
         (.seq (.reg [⟨some 129,.load 51 (.tmp 1),none,false⟩,
          ⟨some 130,.load 51 (.tmp 3),none,false⟩,
          ⟨some 131,.binOp .eql 51 (.tmp 129) (.tmp 130) 51,none,false⟩,
          ⟨some 132,.move (.tmp 131),none,false⟩,
          ⟨some 133,.fieldAddr 51 (.tmp 1) 1,some (some 132,true),false⟩,
          ⟨some 134,.load 3 (.tmp 133),some (some 132,true),false⟩,
          ⟨some 135,.binOp .eql 3 (.tmp 134) (.const (.int .i64 1)) 3,some (some 132,true),false⟩,
          ⟨some 136,.pick (.tmp 132) (.tmp 135) (.const (.bool false)),none,false⟩,
          ⟨some 137,.move (.tmp 136),none,false⟩,
          ⟨some 138,.move (.tmp 5),some (some 137,true),false⟩,
          ⟨some 139,.pick (.tmp 137) (.tmp 138) (.const (.bool false)),none,false⟩,
          ⟨some 2,.assign (.tmp 139),none,false⟩])
         .ret)))
         .skip)
def bW:LC:=
 (.cond (.tmp 105)
        (.seq (.reg [⟨some 109,.load 51 (.tmp 1),none,false⟩,
         ⟨some 110,.load 51 (.tmp 3),none,false⟩,
         ⟨some 111,.binOp .eql 51 (.tmp 109) (.tmp 110) 51,none,false⟩,
         ⟨some 112,.move (.tmp 111),none,false⟩,
         ⟨some 113,.fieldAddr 51 (.tmp 1) 1,some (some 112,true),false⟩,
         ⟨some 114,.load 3 (.tmp 113),some (some 112,true),false⟩,
         ⟨some 115,.binOp .eql 3 (.tmp 114) (.const (.int .i64 1)) 3,some (some 112,true),false⟩,
         ⟨some 116,.pick (.tmp 112) (.tmp 115) (.const (.bool false)),none,false⟩,
         ⟨some 2,.assign (.tmp 116),none,false⟩])
        .ret)
        (.seq (.seq (.weak (.reg [⟨some 118,.binOp .eql 3 (.tmp 14) (.const (.int .i64 7)) 3,none,false⟩,
         ⟨some 117,.assign (.tmp 118),none,false⟩]))
        dQ)
        dR))
def gQ:LC:=
 (.cond (.tmp 95)
       (.seq (.reg [⟨some 97,.load 51 (.tmp 1),none,false⟩,
        ⟨some 98,.load 51 (.tmp 3),none,false⟩,
        ⟨some 99,.binOp .eql 51 (.tmp 97) (.tmp 98) 51,none,false⟩,
        ⟨some 100,.move (.tmp 99),none,false⟩,
        ⟨some 101,.fieldAddr 51 (.tmp 1) 1,some (some 100,true),false⟩,
        ⟨some 102,.load 3 (.tmp 101),some (some 100,true),false⟩,
        ⟨some 103,.binOp .geq 3 (.tmp 102) (.const (.int .i64 0)) 3,some (some 100,true),false⟩,
        ⟨some 104,.pick (.tmp 100) (.tmp 103) (.const (.bool false)),none,false⟩,
        ⟨some 2,.assign (.tmp 104),none,false⟩])
       .ret)
       (.seq (.seq (.weak (.reg [⟨some 106,.binOp .eql 3 (.tmp 14) (.const (.int .i64 3)) 3,none,false⟩,
        ⟨some 105,.assign (.tmp 106),none,false⟩]))
       bV)
       bW))
def gT:LC:=
 (.cond (.tmp 72)
   (.seq (.reg [⟨some 74,.fieldAddr 51 (.tmp 1) 4,none,false⟩,
    ⟨some 75,.load 3 (.tmp 74),none,false⟩,
    ⟨some 76,.fieldAddr 51 (.tmp 3) 4,none,false⟩,
    ⟨none,.store 3 (.tmp 76) (.tmp 75),none,false⟩])
   (.seq (.reg [⟨some 77,.load 51 (.tmp 1),none,false⟩,
    ⟨some 78,.load 51 (.tmp 3),none,false⟩,
    ⟨some 79,.binOp .eql 51 (.tmp 77) (.tmp 78) 51,none,false⟩,
    ⟨some 80,.move (.tmp 79),none,false⟩,
    ⟨some 81,.fieldAddr 51 (.tmp 1) 1,some (some 80,true),false⟩,
    ⟨some 82,.load 3 (.tmp 81),some (some 80,true),false⟩,
    ⟨some 83,.binOp .geq 3 (.tmp 82) (.const (.int .i64 0)) 3,some (some 80,true),false⟩,
    ⟨some 84,.pick (.tmp 80) (.tmp 83) (.const (.bool false)),none,false⟩,
    ⟨some 85,.move (.tmp 84),none,false⟩,
    ⟨some 86,.fieldAddr 51 (.tmp 1) 4,some (some 85,true),false⟩,
    ⟨some 87,.load 3 (.tmp 86),some (some 85,true),false⟩,
    ⟨some 88,.binOp .eql 3 (.tmp 87) (.const (.int .i64 0)) 3,some (some 85,true),false⟩,
    ⟨some 89,.move (.tmp 88),some (some 85,true),false⟩,
    ⟨some 90,.fieldAddr 51 (.tmp 1) 4,some (some 89,false),false⟩,
    ⟨some 91,.load 3 (.tmp 90),some (some 89,false),false⟩,
    ⟨some 92,.binOp .eql 3 (.tmp 91) (.const (.int .i64 1)) 3,some (some 89,false),false⟩,
    ⟨some 93,.pick (.tmp 89) (.const (.bool true)) (.tmp 92),some (some 85,true),false⟩,
    ⟨some 94,.pick (.tmp 85) (.tmp 93) (.const (.bool false)),none,false⟩,
    ⟨some 2,.assign (.tmp 94),none,false⟩])
   .ret))
   (.seq (.weak (.reg [⟨some 96,.binOp .eql 3 (.tmp 14) (.const (.int .i64 4)) 3,none,false⟩,
    ⟨some 95,.assign (.tmp 96),none,false⟩]))
   gQ))
def gU:LC:=
 (.cond (.tmp 48)
   (.seq (.reg [⟨some 50,.fieldAddr 51 (.tmp 1) 4,none,false⟩,
    ⟨some 51,.load 3 (.tmp 50),none,false⟩,
    ⟨some 52,.fieldAddr 51 (.tmp 3) 4,none,false⟩,
    ⟨none,.store 3 (.tmp 52) (.tmp 51),none,false⟩])
   (.seq (.reg [⟨some 53,.fieldAddr 51 (.tmp 1) 5,none,false⟩,
    ⟨some 54,.load 27 (.tmp 53),none,false⟩,
    ⟨some 55,.fieldAddr 51 (.tmp 3) 5,none,false⟩,
    ⟨none,.store 27 (.tmp 55) (.tmp 54),none,false⟩])
   (.seq (.reg [⟨some 56,.load 51 (.tmp 1),none,false⟩,
    ⟨some 57,.load 51 (.tmp 3),none,false⟩,
    ⟨some 58,.binOp .eql 51 (.tmp 56) (.tmp 57) 51,none,false⟩,
    ⟨some 59,.move (.tmp 58),none,false⟩,
    ⟨some 60,.fieldAddr 51 (.tmp 1) 1,some (some 59,true),false⟩,
    ⟨some 61,.load 3 (.tmp 60),some (some 59,true),false⟩,
    ⟨some 62,.binOp .eql 3 (.tmp 61) (.const (.int .i64 0)) 3,some (some 59,true),false⟩,
    ⟨some 63,.pick (.tmp 59) (.tmp 62) (.const (.bool false)),none,false⟩,
    ⟨some 64,.move (.tmp 63),none,false⟩,
    ⟨some 65,.fieldAddr 51 (.tmp 1) 4,some (some 64,true),false⟩,
    ⟨some 66,.load 3 (.tmp 65),some (some 64,true),false⟩,
    ⟨some 67,.fieldAddr 51 (.tmp 1) 5,some (some 64,true),false⟩,
    ⟨some 68,.load 27 (.tmp 67),some (some 64,true),false⟩,
    ⟨some 69,.build 29 ⟨[(0,(.tmp 66)),(1,(.tmp 68))]⟩,some (some 64,true),false⟩,
    ⟨some 70,.call ⟨.value (.func 9),⟨[(.tmp 69)]⟩,⟨[29]⟩⟩,some (some 64,true),false⟩,
    ⟨some 71,.pick (.tmp 64) (.tmp 70) (.const (.bool false)),none,false⟩,
    ⟨some 2,.assign (.tmp 71),none,false⟩])
   .ret)))
   (.seq (.weak (.reg [⟨some 73,.binOp .eql 3 (.tmp 14) (.const (.int .i64 2)) 3,none,false⟩,
    ⟨some 72,.assign (.tmp 73),none,false⟩]))
   gT))
def gV:LC:=
 (.cond (.tmp 25)
  (.seq (.reg [⟨some 27,.fieldAddr 51 (.tmp 1) 4,none,false⟩,
   ⟨some 28,.load 3 (.tmp 27),none,false⟩,
   ⟨some 29,.fieldAddr 51 (.tmp 3) 4,none,false⟩,
   ⟨none,.store 3 (.tmp 29) (.tmp 28),none,false⟩])
  (.seq (.reg [⟨some 30,.load 51 (.tmp 1),none,false⟩,
   ⟨some 31,.load 51 (.tmp 3),none,false⟩,
   ⟨some 32,.binOp .eql 51 (.tmp 30) (.tmp 31) 51,none,false⟩,
   ⟨some 33,.move (.tmp 32),none,false⟩,
   ⟨some 34,.fieldAddr 51 (.tmp 1) 1,some (some 33,true),false⟩,
   ⟨some 35,.load 3 (.tmp 34),some (some 33,true),false⟩,
   ⟨some 36,.binOp .geq 3 (.tmp 35) (.const (.int .i64 0)) 3,some (some 33,true),false⟩,
   ⟨some 37,.pick (.tmp 33) (.tmp 36) (.const (.bool false)),none,false⟩,
   ⟨some 38,.move (.tmp 37),none,false⟩,
   ⟨some 39,.fieldAddr 51 (.tmp 1) 4,some (some 38,true),false⟩,
   ⟨some 40,.load 3 (.tmp 39),some (some 38,true),false⟩,
   ⟨some 41,.binOp .geq 3 (.tmp 40) (.const (.int .i64 1)) 3,some (some 38,true),false⟩,
   ⟨some 42,.pick (.tmp 38) (.tmp 41) (.const (.bool false)),none,false⟩,
   ⟨some 43,.move (.tmp 42),none,false⟩,
   ⟨some 44,.fieldAddr 51 (.tmp 1) 4,some (some 43,true),false⟩,
   ⟨some 45,.load 3 (.tmp 44),some (some 43,true),false⟩,
   ⟨some 46,.binOp .leq 3 (.tmp 45) (.const (.int .i64 31)) 3,some (some 43,true),false⟩,
   ⟨some 47,.pick (.tmp 43) (.tmp 46) (.const (.bool false)),none,false⟩,
   ⟨some 2,.assign (.tmp 47),none,false⟩])
  .ret))
  (.seq (.weak (.reg [⟨some 49,.binOp .eql 3 (.tmp 14) (.const (.int .i64 9)) 3,none,false⟩,
   ⟨some 48,.assign (.tmp 49),none,false⟩]))
  gU))
def gW:LC:=
 (.cond (.tmp 15)
  (.seq (.reg [⟨some 17,.load 51 (.tmp 1),none,false⟩,
   ⟨some 18,.load 51 (.tmp 3),none,false⟩,
   ⟨some 19,.binOp .eql 51 (.tmp 17) (.tmp 18) 51,none,false⟩,
   ⟨some 20,.move (.tmp 19),none,false⟩,
   ⟨some 21,.fieldAddr 51 (.tmp 1) 1,some (some 20,true),false⟩,
   ⟨some 22,.load 3 (.tmp 21),some (some 20,true),false⟩,
   ⟨some 23,.binOp .eql 3 (.tmp 22) (.const (.int .i64 0)) 3,some (some 20,true),false⟩,
   ⟨some 24,.pick (.tmp 20) (.tmp 23) (.const (.bool false)),none,false⟩,
   ⟨some 2,.assign (.tmp 24),none,false⟩])
  .ret)
  (.seq (.weak (.reg [⟨some 26,.binOp .eql 3 (.tmp 14) (.const (.int .i64 1)) 3,none,false⟩,
   ⟨some 25,.assign (.tmp 26),none,false⟩]))
  gV))
def mJ:LC:=
 (.seq (.reg [⟨some 2,.assign (.const (.bool false)),none,false⟩])
 .ret)
def pY:LC:=
 (.seq (.reg [⟨some 1,.box 51 (.tmp 0),none,false⟩,
  ⟨some 2,.assign (.const (.bool false)),none,false⟩])
 (.seq (.reg [⟨some 6,.fieldAddr 51 (.tmp 1) 0,none,false⟩,
  ⟨some 7,.load 3 (.tmp 6),none,false⟩,
  ⟨some 8,.fieldAddr 51 (.tmp 1) 1,none,false⟩,
  ⟨some 9,.load 3 (.tmp 8),none,false⟩,
  ⟨some 10,.fieldAddr 51 (.tmp 1) 2,none,false⟩,
  ⟨some 11,.load 9 (.tmp 10),none,false⟩,
  ⟨some 12,.build 51 ⟨[(0,(.tmp 7)),(1,(.tmp 9)),(2,(.tmp 11))]⟩,none,false⟩,
  ⟨some 3,.alloc 51,none,false⟩,
  ⟨none,.store 51 (.tmp 3) (.tmp 12),none,false⟩])
 (.seq (.seq (.reg [⟨some 13,.fieldAddr 51 (.tmp 1) 0,none,false⟩,
  ⟨some 14,.load 3 (.tmp 13),none,false⟩])
 (.block 0 (.seq (.weak (.reg [⟨some 16,.binOp .eql 3 (.tmp 14) (.const (.int .i64 0)) 3,none,false⟩,
  ⟨some 15,.assign (.tmp 16),none,false⟩]))
  gW)))
 mJ)))
theorem zI:aS Tryz.prog 32 140 [.tmp 2] pY:=⟨_,_,Tryz.func32,by kernel_rfl,rfl,Tryz.ntmps32,rfl,by kernel_rfl⟩
end Lp
namespace Lp
open Go Go.Proofs
open Nat (reduceAdd reduceLeDiff reduceMul reduceSub)
open Int (reduceEq reduceLE reduceToNat)
theorem mF (a:eT):(∀ n,(aV a).putCells 4 [.int .i64 n]=aV { a with n:=n })∧(∀ x,(aV a).putCells 3 [.str x]=aV { a with s:=x })∧
  (∀ ck cm cn cs cg ce,(aV a).putCells 5 [.int .i64 ck,.int .i64 cm,.str cn,.str cs,.bool cg,.int .i64 ce]=aV { a with c:=⟨ck,cm,cn,cs,cg,ce⟩ }):=⟨fun _=>rfl,fun _=>rfl,fun _ _ _ _ _ _=>rfl⟩
theorem aa6 (t:eT):decide (t=⟨t.kind,t.many,t.name,[],0,aW⟩)=(t.s==[] && t.n==0 && t.c==aW):=by
 obtain ⟨k,m,nm,s,n,c⟩:=t
 rw [Bool.eq_iff_iff];simp [and_assoc]
theorem aco (t:eT):decide (t=⟨t.kind,t.many,t.name,[],t.n,aW⟩)=(t.s==[] && t.c==aW):=by
 obtain ⟨k,m,nm,s,n,c⟩:=t
 rw [Bool.eq_iff_iff];simp
theorem adh (t:eT):decide (t=⟨t.kind,t.many,t.name,[],t.n,t.c⟩)=(t.s==[]):=by
 obtain ⟨k,m,nm,s,n,c⟩:=t
 rw [Bool.eq_iff_iff];simp
theorem adi (t:eT):decide (t=⟨t.kind,t.many,t.name,t.s,0,aW⟩)=(t.n==0 && t.c==aW):=by
 obtain ⟨k,m,nm,s,n,c⟩:=t
 rw [Bool.eq_iff_iff];simp
theorem adj (pk:List UInt8→Bool) (t:eT) (k:t.kind=0):b_ pk t=(decide (t=⟨t.kind,t.many,t.name,[],0,aW⟩) && decide (t.many=0)):=by
 rw [aa6]
 have b:∀ i:Int,(t.many==i)=decide (t.many=i):=fun _=>rfl
 have c:∀ i:Int,(t.n==i)=decide (t.n=i):=fun _=>rfl
 simp only [b_,k,reduceEq,if_true,if_false,false_or,or_false,or_self,true_or,or_true,b,c]
 ac_rfl
theorem adk (pk:List UInt8→Bool) (t:eT) (k:t.kind=1):b_ pk t=(decide (t=⟨t.kind,t.many,t.name,[],t.n,aW⟩) && (decide (0≤t.many) && decide (1≤t.n) && decide (t.n≤31))):=by
 rw [aco]
 have b:∀ i:Int,(t.many==i)=decide (t.many=i):=fun _=>rfl
 have c:∀ i:Int,(t.n==i)=decide (t.n=i):=fun _=>rfl
 simp only [b_,k,reduceEq,if_true,if_false,false_or,or_false,or_self,true_or,or_true,b,c]
 ac_rfl
theorem adl (pk:List UInt8→Bool) (t:eT) (k:t.kind=9):b_ pk t=(decide (t=⟨t.kind,t.many,t.name,[],t.n,t.c⟩) && (decide (t.many=0) && gY ⟨t.n,t.c⟩)):=by
 rw [adh]
 have b:∀ i:Int,(t.many==i)=decide (t.many=i):=fun _=>rfl
 have c:∀ i:Int,(t.n==i)=decide (t.n=i):=fun _=>rfl
 simp only [b_,k,reduceEq,if_true,if_false,false_or,or_false,or_self,true_or,or_true,b,c]
 ac_rfl
theorem adm (pk:List UInt8→Bool) (t:eT) (k:t.kind=2):b_ pk t=(decide (t=⟨t.kind,t.many,t.name,[],t.n,aW⟩) && (decide (0≤t.many) && (decide (t.n=0) || decide (t.n=1)))):=by
 rw [aco]
 have b:∀ i:Int,(t.many==i)=decide (t.many=i):=fun _=>rfl
 have c:∀ i:Int,(t.n==i)=decide (t.n=i):=fun _=>rfl
 simp only [b_,k,reduceEq,if_true,if_false,false_or,or_false,or_self,true_or,or_true,b,c]
 ac_rfl
theorem adn (pk:List UInt8→Bool) (t:eT) (k:t.kind=4):b_ pk t=(decide (t=⟨t.kind,t.many,t.name,[],0,aW⟩) && decide (0≤t.many)):=by
 rw [aa6]
 have b:∀ i:Int,(t.many==i)=decide (t.many=i):=fun _=>rfl
 have c:∀ i:Int,(t.n==i)=decide (t.n=i):=fun _=>rfl
 simp only [b_,k,reduceEq,if_true,if_false,false_or,or_false,or_self,true_or,or_true,b,c]
 ac_rfl
theorem aa7 (pk:List UInt8→Bool) (t:eT) (k:t.kind=3∨t.kind=5∨t.kind=6):b_ pk t=(decide (t=⟨t.kind,t.many,t.name,[],0,aW⟩) && decide (t.many=1)):=by
 rw [aa6]
 have b:∀ i:Int,(t.many==i)=decide (t.many=i):=fun _=>rfl
 have c:∀ i:Int,(t.n==i)=decide (t.n=i):=fun _=>rfl
 rcases k with k | k | k <;> simp only [b_,k,reduceEq,if_true,if_false,false_or,or_false,or_self,true_or,or_true,b,c] <;> ac_rfl
theorem acp (pk:List UInt8→Bool) (t:eT) (k:t.kind=7∨t.kind=8):b_ pk t=(decide (t=⟨t.kind,t.many,t.name,t.s,0,aW⟩) && (decide (t.many=1) && pk t.s)):=by
 rw [adi]
 have b:∀ i:Int,(t.many==i)=decide (t.many=i):=fun _=>rfl
 have c:∀ i:Int,(t.n==i)=decide (t.n=i):=fun _=>rfl
 rcases k with k | k <;> simp only [b_,k,reduceEq,if_true,if_false,false_or,or_false,or_self,true_or,or_true,b,c] <;> ac_rfl
theorem eX (k m n ck cm ce k' m' n' ck' cm' ce':Int) (nm s cn cs Km s' cn' cs':List UInt8) (cg cg':Bool):zU Tryz.prog 51 [.int .i64 k,.int .i64 m,.str nm,.str s,.int .i64 n,.int .i64 ck,.int .i64 cm,.str cn,.str cs,.bool cg,.int .i64 ce] [.int .i64 k',.int .i64 m',.str Km,.str s',.int .i64 n',.int .i64 ck',.int .i64 cm',.str cn',.str cs',.bool cg',.int .i64 ce']=True:=eq_true (Xq ⟨k,m,nm,s,n,⟨ck,cm,cn,cs,cg,ce⟩⟩ ⟨k',m',Km,s',n',⟨ck',cm',cn',cs',cg',ce'⟩⟩)
theorem iQ (k m n ck cm ce k' m' n' ck' cm' ce':Int) (nm s cn cs Km s' cn' cs':List UInt8) (cg cg':Bool):xB [.int .i64 k,.int .i64 m,.str nm,.str s,.int .i64 n,.int .i64 ck,.int .i64 cm,.str cn,.str cs,.bool cg,.int .i64 ce] [.int .i64 k',.int .i64 m',.str Km,.str s',.int .i64 n',.int .i64 ck',.int .i64 cm',.str cn',.str cs',.bool cg',.int .i64 ce']=some (decide ((⟨k,m,nm,s,n,⟨ck,cm,cn,cs,cg,ce⟩⟩:eT)=⟨k',m',Km,s',n',⟨ck',cm',cn',cs',cg',ce'⟩⟩)):=aaZ ⟨k,m,nm,s,n,⟨ck,cm,cn,cs,cg,ce⟩⟩ ⟨k',m',Km,s',n',⟨ck',cm',cn',cs',cg',ce'⟩⟩
theorem K9 (t:eT) (hs:t.s.length≤1000000000) (hc:oP t.c):ai Tryz.prog 32 [aV t] [] (.bool (b_ bB t)) []:=by
 refine zI.bE (T:=aU Tryz.prog [(9,jE),(34,fO)]) 0 hD (aj (af Bj (af A9 ah))) aY (by decide) fun Q hQ=>?_
 obtain ⟨kd,m,nm,s,n,c⟩:=t
 simp only at hs hc
 simp(maxSteps:=400000)only[↓ax,ay,BEq.rfl,reduceIte,reduceCtorEq,Nat.reduceLT,reduceAdd,reduceSub,reduceMul,Nat.reduceBEq,reduceLeDiff,reduceToNat,reduceLE,hQ,pY,qL,iL,iM,mF,eX,iQ,bY,dS,reduceEq]
 refine aT _ (Weak.refl _ _) ?_
 by_cases k0:kd=0
 · subst k0
   have hp:b_ bB ⟨0,m,nm,s,n,c⟩=(decide ((⟨0,m,nm,s,n,c⟩:eT)=⟨0,m,nm,[],0,aW⟩) && decide (m=0)):=adj bB ⟨0,m,nm,s,n,c⟩ rfl
   cases hb:decide ((⟨0,m,nm,s,n,c⟩:eT)=⟨0,m,nm,[],0,aW⟩) with
   | false=>
    rw [hb,Bool.false_and] at hp
    simp(maxSteps:=400000)only[↓ax,ay,BEq.rfl,reduceIte,reduceCtorEq,Nat.reduceLT,reduceAdd,reduceSub,reduceMul,Nat.reduceBEq,reduceLeDiff,reduceToNat,reduceLE,hQ,gW,hb,hp,qL,iL,iM,mF,eX,iQ,bY,dS,reduceEq]
    repeat' (first | (omega) | exact hs | exact hc | intro _ | refine ⟨?_,?_⟩)
   | true=>
    rw [hb,Bool.true_and] at hp
    simp(maxSteps:=400000)only[↓ax,ay,BEq.rfl,reduceIte,reduceCtorEq,Nat.reduceLT,reduceAdd,reduceSub,reduceMul,Nat.reduceBEq,reduceLeDiff,reduceToNat,reduceLE,hQ,gW,hb,hp,qL,iL,iM,mF,eX,iQ,bY,dS,reduceEq]
    repeat' (first | (omega) | exact hs | exact hc | ((simp [*];done)) | intro _ | refine ⟨?_,?_⟩)
 have n0:=eq_false k0
 simp(maxSteps:=400000)only[↓ax,ay,BEq.rfl,reduceIte,reduceCtorEq,Nat.reduceLT,reduceAdd,reduceSub,reduceMul,Nat.reduceBEq,reduceLeDiff,reduceToNat,reduceLE,hQ,gW,n0,qL,iL,iM,mF,eX,iQ,bY,dS,reduceEq]
 refine aT _ (Weak.refl _ _) ?_
 by_cases k1:kd=1
 · subst k1
   have hp:b_ bB ⟨1,m,nm,s,n,c⟩=(decide ((⟨1,m,nm,s,n,c⟩:eT)=⟨1,m,nm,[],n,aW⟩) && (decide (0≤m) && decide (1≤n) && decide (n≤31))):=adk bB ⟨1,m,nm,s,n,c⟩ rfl
   cases hb:decide ((⟨1,m,nm,s,n,c⟩:eT)=⟨1,m,nm,[],n,aW⟩) with
   | false=>
    rw [hb,Bool.false_and] at hp
    simp(maxSteps:=400000)only[↓ax,ay,BEq.rfl,reduceIte,reduceCtorEq,Nat.reduceLT,reduceAdd,reduceSub,reduceMul,Nat.reduceBEq,reduceLeDiff,reduceToNat,reduceLE,hQ,gV,hb,hp,qL,iL,iM,mF,eX,iQ,bY,dS,reduceEq]
    repeat' (first | (omega) | exact hs | exact hc | intro _ | refine ⟨?_,?_⟩)
   | true=>
    rw [hb,Bool.true_and] at hp
    simp(maxSteps:=400000)only[↓ax,ay,BEq.rfl,reduceIte,reduceCtorEq,Nat.reduceLT,reduceAdd,reduceSub,reduceMul,Nat.reduceBEq,reduceLeDiff,reduceToNat,reduceLE,hQ,gV,hb,hp,qL,iL,iM,mF,eX,iQ,bY,dS,reduceEq]
    repeat' (first | (omega) | exact hs | exact hc | ((simp [*];done)) | intro _ | refine ⟨?_,?_⟩)
 have n1:=eq_false k1
 simp(maxSteps:=400000)only[↓ax,ay,BEq.rfl,reduceIte,reduceCtorEq,Nat.reduceLT,reduceAdd,reduceSub,reduceMul,Nat.reduceBEq,reduceLeDiff,reduceToNat,reduceLE,hQ,gV,n1,qL,iL,iM,mF,eX,iQ,bY,dS,reduceEq]
 refine aT _ (Weak.refl _ _) ?_
 by_cases k9:kd=9
 · subst k9
   have hp:b_ bB ⟨9,m,nm,s,n,c⟩=(decide ((⟨9,m,nm,s,n,c⟩:eT)=⟨9,m,nm,[],n,c⟩) && (decide (m=0) && gY ⟨n,c⟩)):=adl bB ⟨9,m,nm,s,n,c⟩ rfl
   cases hb:decide ((⟨9,m,nm,s,n,c⟩:eT)=⟨9,m,nm,[],n,c⟩) with
   | false=>
    rw [hb,Bool.false_and] at hp
    simp(maxSteps:=400000)only[↓ax,ay,BEq.rfl,reduceIte,reduceCtorEq,Nat.reduceLT,reduceAdd,reduceSub,reduceMul,Nat.reduceBEq,reduceLeDiff,reduceToNat,reduceLE,hQ,gU,hb,hp,↓jE,qL,iL,iM,mF,eX,iQ,bY,dS,reduceEq]
    repeat' (first | (omega) | exact hs | exact hc | intro _ | refine ⟨?_,?_⟩)
   | true=>
    rw [hb,Bool.true_and] at hp
    simp(maxSteps:=400000)only[↓ax,ay,BEq.rfl,reduceIte,reduceCtorEq,Nat.reduceLT,reduceAdd,reduceSub,reduceMul,Nat.reduceBEq,reduceLeDiff,reduceToNat,reduceLE,hQ,gU,hb,hp,↓jE,qL,iL,iM,mF,eX,iQ,bY,dS,reduceEq]
    repeat' (first | (omega) | exact hs | exact hc | ((simp [*];done)) | intro _ | refine ⟨?_,?_⟩)
 have n9:=eq_false k9
 simp(maxSteps:=400000)only[↓ax,ay,BEq.rfl,reduceIte,reduceCtorEq,Nat.reduceLT,reduceAdd,reduceSub,reduceMul,Nat.reduceBEq,reduceLeDiff,reduceToNat,reduceLE,hQ,gU,n9,qL,iL,iM,mF,eX,iQ,bY,dS,reduceEq]
 refine aT _ (Weak.refl _ _) ?_
 by_cases k2:kd=2
 · subst k2
   have hp:b_ bB ⟨2,m,nm,s,n,c⟩=(decide ((⟨2,m,nm,s,n,c⟩:eT)=⟨2,m,nm,[],n,aW⟩) && (decide (0≤m) && (decide (n=0) || decide (n=1)))):=adm bB ⟨2,m,nm,s,n,c⟩ rfl
   cases hb:decide ((⟨2,m,nm,s,n,c⟩:eT)=⟨2,m,nm,[],n,aW⟩) with
   | false=>
    rw [hb,Bool.false_and] at hp
    simp(maxSteps:=400000)only[↓ax,ay,BEq.rfl,reduceIte,reduceCtorEq,Nat.reduceLT,reduceAdd,reduceSub,reduceMul,Nat.reduceBEq,reduceLeDiff,reduceToNat,reduceLE,hQ,gT,hb,hp,qL,iL,iM,mF,eX,iQ,bY,dS,reduceEq]
    repeat' (first | (omega) | exact hs | exact hc | intro _ | refine ⟨?_,?_⟩)
   | true=>
    rw [hb,Bool.true_and] at hp
    simp(maxSteps:=400000)only[↓ax,ay,BEq.rfl,reduceIte,reduceCtorEq,Nat.reduceLT,reduceAdd,reduceSub,reduceMul,Nat.reduceBEq,reduceLeDiff,reduceToNat,reduceLE,hQ,gT,hb,hp,qL,iL,iM,mF,eX,iQ,bY,dS,reduceEq]
    repeat' (first | (omega) | exact hs | exact hc | ((simp [*];done)) | intro _ | refine ⟨?_,?_⟩)
 have n2:=eq_false k2
 simp(maxSteps:=400000)only[↓ax,ay,BEq.rfl,reduceIte,reduceCtorEq,Nat.reduceLT,reduceAdd,reduceSub,reduceMul,Nat.reduceBEq,reduceLeDiff,reduceToNat,reduceLE,hQ,gT,n2,qL,iL,iM,mF,eX,iQ,bY,dS,reduceEq]
 refine aT _ (Weak.refl _ _) ?_
 by_cases k4:kd=4
 · subst k4
   have hp:b_ bB ⟨4,m,nm,s,n,c⟩=(decide ((⟨4,m,nm,s,n,c⟩:eT)=⟨4,m,nm,[],0,aW⟩) && decide (0≤m)):=adn bB ⟨4,m,nm,s,n,c⟩ rfl
   cases hb:decide ((⟨4,m,nm,s,n,c⟩:eT)=⟨4,m,nm,[],0,aW⟩) with
   | false=>
    rw [hb,Bool.false_and] at hp
    simp(maxSteps:=400000)only[↓ax,ay,BEq.rfl,reduceIte,reduceCtorEq,Nat.reduceLT,reduceAdd,reduceSub,reduceMul,Nat.reduceBEq,reduceLeDiff,reduceToNat,reduceLE,hQ,gQ,hb,hp,qL,iL,iM,mF,eX,iQ,bY,dS,reduceEq]
    repeat' (first | (omega) | exact hs | exact hc | intro _ | refine ⟨?_,?_⟩)
   | true=>
    rw [hb,Bool.true_and] at hp
    simp(maxSteps:=400000)only[↓ax,ay,BEq.rfl,reduceIte,reduceCtorEq,Nat.reduceLT,reduceAdd,reduceSub,reduceMul,Nat.reduceBEq,reduceLeDiff,reduceToNat,reduceLE,hQ,gQ,hb,hp,qL,iL,iM,mF,eX,iQ,bY,dS,reduceEq]
    repeat' (first | (omega) | exact hs | exact hc | ((simp [*];done)) | intro _ | refine ⟨?_,?_⟩)
 have n4:=eq_false k4
 simp(maxSteps:=400000)only[↓ax,ay,BEq.rfl,reduceIte,reduceCtorEq,Nat.reduceLT,reduceAdd,reduceSub,reduceMul,Nat.reduceBEq,reduceLeDiff,reduceToNat,reduceLE,hQ,gQ,n4,qL,iL,iM,mF,eX,iQ,bY,dS,reduceEq]
 refine aT _ (Weak.refl _ _) ?_
 by_cases k3:kd=3
 · subst k3
   have hp:b_ bB ⟨3,m,nm,s,n,c⟩=(decide ((⟨3,m,nm,s,n,c⟩:eT)=⟨3,m,nm,[],0,aW⟩) && decide (m=1)):=aa7 bB ⟨3,m,nm,s,n,c⟩ (.inl rfl)
   cases hb:decide ((⟨3,m,nm,s,n,c⟩:eT)=⟨3,m,nm,[],0,aW⟩) with
   | false=>
    rw [hb,Bool.false_and] at hp
    simp(maxSteps:=400000)only[↓ax,ay,BEq.rfl,reduceIte,reduceCtorEq,Nat.reduceLT,reduceAdd,reduceSub,reduceMul,Nat.reduceBEq,reduceLeDiff,reduceToNat,reduceLE,hQ,bW,bV,hb,hp,qL,iL,iM,mF,eX,iQ,bY,dS,reduceEq]
    repeat' (first | (omega) | exact hs | exact hc | intro _ | refine ⟨?_,?_⟩)
   | true=>
    rw [hb,Bool.true_and] at hp
    simp(maxSteps:=400000)only[↓ax,ay,BEq.rfl,reduceIte,reduceCtorEq,Nat.reduceLT,reduceAdd,reduceSub,reduceMul,Nat.reduceBEq,reduceLeDiff,reduceToNat,reduceLE,hQ,bW,bV,hb,hp,qL,iL,iM,mF,eX,iQ,bY,dS,reduceEq]
    repeat' (first | (omega) | exact hs | exact hc | ((simp [*];done)) | intro _ | refine ⟨?_,?_⟩)
 have n3:=eq_false k3
 by_cases k5:kd=5
 · subst k5
   have hp:b_ bB ⟨5,m,nm,s,n,c⟩=(decide ((⟨5,m,nm,s,n,c⟩:eT)=⟨5,m,nm,[],0,aW⟩) && decide (m=1)):=aa7 bB ⟨5,m,nm,s,n,c⟩ (.inr (.inl rfl))
   cases hb:decide ((⟨5,m,nm,s,n,c⟩:eT)=⟨5,m,nm,[],0,aW⟩) with
   | false=>
    rw [hb,Bool.false_and] at hp
    simp(maxSteps:=400000)only[↓ax,ay,BEq.rfl,reduceIte,reduceCtorEq,Nat.reduceLT,reduceAdd,reduceSub,reduceMul,Nat.reduceBEq,reduceLeDiff,reduceToNat,reduceLE,hQ,bW,bV,hb,hp,qL,iL,iM,mF,eX,iQ,bY,dS,reduceEq]
    repeat' (first | (omega) | exact hs | exact hc | intro _ | refine ⟨?_,?_⟩)
   | true=>
    rw [hb,Bool.true_and] at hp
    simp(maxSteps:=400000)only[↓ax,ay,BEq.rfl,reduceIte,reduceCtorEq,Nat.reduceLT,reduceAdd,reduceSub,reduceMul,Nat.reduceBEq,reduceLeDiff,reduceToNat,reduceLE,hQ,bW,bV,hb,hp,qL,iL,iM,mF,eX,iQ,bY,dS,reduceEq]
    repeat' (first | (omega) | exact hs | exact hc | ((simp [*];done)) | intro _ | refine ⟨?_,?_⟩)
 have n5:=eq_false k5
 by_cases k6:kd=6
 · subst k6
   have hp:b_ bB ⟨6,m,nm,s,n,c⟩=(decide ((⟨6,m,nm,s,n,c⟩:eT)=⟨6,m,nm,[],0,aW⟩) && decide (m=1)):=aa7 bB ⟨6,m,nm,s,n,c⟩ (.inr (.inr rfl))
   cases hb:decide ((⟨6,m,nm,s,n,c⟩:eT)=⟨6,m,nm,[],0,aW⟩) with
   | false=>
    rw [hb,Bool.false_and] at hp
    simp(maxSteps:=400000)only[↓ax,ay,BEq.rfl,reduceIte,reduceCtorEq,Nat.reduceLT,reduceAdd,reduceSub,reduceMul,Nat.reduceBEq,reduceLeDiff,reduceToNat,reduceLE,hQ,bW,bV,hb,hp,qL,iL,iM,mF,eX,iQ,bY,dS,reduceEq]
    repeat' (first | (omega) | exact hs | exact hc | intro _ | refine ⟨?_,?_⟩)
   | true=>
    rw [hb,Bool.true_and] at hp
    simp(maxSteps:=400000)only[↓ax,ay,BEq.rfl,reduceIte,reduceCtorEq,Nat.reduceLT,reduceAdd,reduceSub,reduceMul,Nat.reduceBEq,reduceLeDiff,reduceToNat,reduceLE,hQ,bW,bV,hb,hp,qL,iL,iM,mF,eX,iQ,bY,dS,reduceEq]
    repeat' (first | (omega) | exact hs | exact hc | ((simp [*];done)) | intro _ | refine ⟨?_,?_⟩)
 have n6:=eq_false k6
 simp(maxSteps:=400000)only[↓ax,ay,BEq.rfl,reduceIte,reduceCtorEq,Nat.reduceLT,reduceAdd,reduceSub,reduceMul,Nat.reduceBEq,reduceLeDiff,reduceToNat,reduceLE,hQ,bW,bV,n3,n5,n6,qL,iL,iM,mF,eX,iQ,bY,dS,reduceEq]
 refine aT _ (Weak.refl _ _) ?_
 by_cases k7:kd=7
 · subst k7
   have hp:b_ bB ⟨7,m,nm,s,n,c⟩=(decide ((⟨7,m,nm,s,n,c⟩:eT)=⟨7,m,nm,s,0,aW⟩) && (decide (m=1) && bB s)):=acp bB ⟨7,m,nm,s,n,c⟩ (.inl rfl)
   cases hb:decide ((⟨7,m,nm,s,n,c⟩:eT)=⟨7,m,nm,s,0,aW⟩) with
   | false=>
    rw [hb,Bool.false_and] at hp
    simp(maxSteps:=400000)only[↓ax,ay,BEq.rfl,reduceIte,reduceCtorEq,Nat.reduceLT,reduceAdd,reduceSub,reduceMul,Nat.reduceBEq,reduceLeDiff,reduceToNat,reduceLE,hQ,dR,dQ,hb,hp,↓fO,gM,qL,iL,iM,mF,eX,iQ,bY,dS,reduceEq]
    repeat' (first | (omega) | exact hs | exact hc | intro _ | refine ⟨?_,?_⟩)
   | true=>
    rw [hb,Bool.true_and] at hp
    simp(maxSteps:=400000)only[↓ax,ay,BEq.rfl,reduceIte,reduceCtorEq,Nat.reduceLT,reduceAdd,reduceSub,reduceMul,Nat.reduceBEq,reduceLeDiff,reduceToNat,reduceLE,hQ,dR,dQ,hb,hp,↓fO,gM,qL,iL,iM,mF,eX,iQ,bY,dS,reduceEq]
    repeat' (first | (omega) | exact hs | exact hc | ((simp [*];done)) | intro _ | refine ⟨?_,?_⟩)
 have n7:=eq_false k7
 by_cases k8:kd=8
 · subst k8
   have hp:b_ bB ⟨8,m,nm,s,n,c⟩=(decide ((⟨8,m,nm,s,n,c⟩:eT)=⟨8,m,nm,s,0,aW⟩) && (decide (m=1) && bB s)):=acp bB ⟨8,m,nm,s,n,c⟩ (.inr rfl)
   cases hb:decide ((⟨8,m,nm,s,n,c⟩:eT)=⟨8,m,nm,s,0,aW⟩) with
   | false=>
    rw [hb,Bool.false_and] at hp
    simp(maxSteps:=400000)only[↓ax,ay,BEq.rfl,reduceIte,reduceCtorEq,Nat.reduceLT,reduceAdd,reduceSub,reduceMul,Nat.reduceBEq,reduceLeDiff,reduceToNat,reduceLE,hQ,dR,dQ,hb,hp,↓fO,gM,qL,iL,iM,mF,eX,iQ,bY,dS,reduceEq]
    repeat' (first | (omega) | exact hs | exact hc | intro _ | refine ⟨?_,?_⟩)
   | true=>
    rw [hb,Bool.true_and] at hp
    simp(maxSteps:=400000)only[↓ax,ay,BEq.rfl,reduceIte,reduceCtorEq,Nat.reduceLT,reduceAdd,reduceSub,reduceMul,Nat.reduceBEq,reduceLeDiff,reduceToNat,reduceLE,hQ,dR,dQ,hb,hp,↓fO,gM,qL,iL,iM,mF,eX,iQ,bY,dS,reduceEq]
    repeat' (first | (omega) | exact hs | exact hc | ((simp [*];done)) | intro _ | refine ⟨?_,?_⟩)
 have n8:=eq_false k8
 simp(maxSteps:=400000)only[↓ax,ay,BEq.rfl,reduceIte,reduceCtorEq,Nat.reduceLT,reduceAdd,reduceSub,reduceMul,Nat.reduceBEq,reduceLeDiff,reduceToNat,reduceLE,hQ,dR,dQ,n7,n8,qL,iL,iM,mF,eX,iQ,bY,dS,reduceEq]
 have hp:b_ bB ⟨kd,m,nm,s,n,c⟩=false:=by simp [b_,k0,k1,k9,k2,k4,k3,k5,k6,k7,k8]
 simp(maxSteps:=400000)only[↓ax,ay,BEq.rfl,reduceIte,reduceCtorEq,Nat.reduceLT,reduceAdd,reduceSub,reduceMul,Nat.reduceBEq,reduceLeDiff,reduceToNat,reduceLE,hQ,mJ,hp]
def fV:dN:=fun args objs K=>match args with
 | [a0]=>gu aV a0 (HK.mk:HK fun t=>(t.s.length≤1000000000)∧(oP t.c)∧K (.bool (b_ bB t)) objs 0)
 | _=>False
theorem Ic:aD Tryz.prog 32 (fV):=by
 intro args objs K h
 unfold fV at h
 split at h
 · rename_i a0
   obtain ⟨t,rfl,h1,h2,hk⟩:=h
   exact ⟨_,_,_,.pure _ rfl (K9 t h1 h2),hk⟩
 · exact h.elim
end Lp
namespace Lp
open Go Go.Proofs
open Nat (reduceAdd reduceLeDiff reduceMul reduceSub)
open Int (reduceEq reduceLE reduceToNat toNat_natCast)
structure kD (t:aK):Prop where
 len:t.length≤1000000
 txt:∀ n ∈ t,n.s.length≤1000000000∧n.name.length≤1000000000∧oP n.c
theorem QS (x:eT) (prev:Option (List UInt8)) (p:aK) (ps:List aK):mg x prev (p::ps)=(xu x p && (x.kind !=2 || (match prev with | none=>true | some a=>Op.bytesLess a (Y.nameOf p))) && mg x (some (Y.nameOf p)) ps):=by cases prev <;> rfl
theorem K_ (t:aK) (at':Nat) (n:eT) (hs:kD t) (ho:Y.One t) (hat:t[at']?=some n) :
  ai Tryz.prog 33 [aA t,.int .i64 at'] [] (.bool (zF t at')) []:=by
 obtain ⟨hl,htx⟩:=hs
 have YP:=(List.getElem?_eq_some_iff.1 hat).1
 obtain ⟨ps,c,hm,hmL,hps,hsk,hfl,hone,_,_⟩:=Y.qJ ho hat
 have hpl:=Y.bN _ _ _ hps
 have hres:zF t at'=mg n none ps:=by
  rw [UO]
  have hd:=List.drop_eq_getElem_cons YP
  rw [List.getElem?_eq_getElem YP] at hat
  cases hat
  simp only [zF,hd,hps]
 rw [hres]
 refine zy.bE (T:=aU Tryz.prog [(25,fq),(31,h_)]) 0 hD (aj (af wQ (af tO ah))) aY (by decide) fun Q hQ=>?_
 (conv=>arg 4;cbv);simp(maxSteps:=400000)only[↓ax,ay,BEq.rfl,reduceIte,reduceCtorEq,Nat.reduceLT,reduceAdd,reduceSub,reduceMul,Nat.reduceBEq,reduceLeDiff,reduceToNat,reduceLE,hQ]
 refine ⟨⟨by omega,by omega⟩,?_⟩
 refine aH (fun m S=>∃ (i:Nat) (rest:List aK) (prev:Option (List UInt8)) (last:List UInt8),m=rest.length∧rest.length≤ps.length∧Y.parts rest.length (t.drop i)=some rest∧i≤t.length∧mg n prev rest=mg n none ps∧
  ((prev=none∧rest.length=ps.length)∨(prev=some last∧rest.length<ps.length))∧
  S=⟨dU 74 [(0,aA t),(1,.int .i64 at'),(5,.int .i64 i),(6,.str last),(7,.int .i64 ((ps.length:Int)-rest.length))],[]⟩) ps.length (hz:=Nat.zero_le _) ⟨at'+1,ps,none,[],rfl,Nat.le_refl _,by rw [hpl];exact hps,by omega,rfl,.inl ⟨rfl,rfl⟩,?_⟩ ?_
 · simp only [dh,keepR,reduceAdd,oC,Nat.reduceBEq,List.map_nil]
   simp only [Int.sub_self]
   rfl
 rintro m S ⟨i,rest,prev,last,rfl,hrl,hrp,hit,hrb,aag,rfl⟩
 have hmn:n.many=(ps.length:Int):=by omega
 have z0:(0≤(at':Int))=True:=eq_true (by omega)
 have zi:(0≤(i:Int))=True:=eq_true (by omega)
 cases rest with
 | nil=>
  have hlt:((ps.length:Int)-((0:Nat):Int)<(ps.length:Int))=False:=eq_false (by omega)
  have hr:mg n none ps=true:=by rw [← hrb];rfl
  simp(maxSteps:=400000)only[↓ax,ay,BEq.rfl,reduceIte,reduceCtorEq,Nat.reduceLT,reduceAdd,reduceSub,reduceMul,Nat.reduceBEq,reduceLeDiff,reduceToNat,reduceLE,hQ,hat,hmn,z0,List.length_nil,hlt,hr]
 | cons p qs=>
  obtain ⟨pc,qs',h1,h2,h3⟩:=Y.eB (k:=qs.length) hrp
  simp only [List.cons.injEq] at h2
  obtain ⟨hp,rfl⟩:=h2
  have hpc:=Y.dV _ _ _ h1
  simp only [List.length_drop] at hpc
  have hil:i<t.length:=by omega
  have hgi:=List.getElem?_eq_getElem hil
  have hdi:=List.drop_eq_getElem_cons hil
  have DX:=htx _ (List.getElem_mem hil)
  generalize t[i]=pn at hgi hdi DX
  obtain ⟨q,hq⟩:∃ q,pc=q+1:=⟨pc-1,by omega⟩
  have hname:Y.nameOf p=pn.name:=by rw [hp,hdi,hq];rfl
  have hkind:Y.kindOf p=pn.kind:=by rw [hp,hdi,hq];rfl
  have hnx:rW t i=(i+pc:Nat):=Gi (Y.nT _ _ _ _ h1 (by omega))
  simp only [List.length_cons] at hrl aag
  have h3':Y.parts qs.length (t.drop (i+pc))=some qs:=by rw [← List.drop_drop];exact h3
  have qH:((ps.length:Int)-((qs.length+1:Nat):Int)<(ps.length:Int))=True:=eq_true (by omega)
  have hlt1:(-9223372036854775808≤(ps.length:Int)-((qs.length+1:Nat):Int)+1∧(ps.length:Int)-((qs.length+1:Nat):Int)+1≤9223372036854775807)=True:=eq_true ⟨by omega,by omega⟩
  have e:(ps.length:Int)-((qs.length+1:Nat):Int)+1=(ps.length:Int)-qs.length:=by omega
  rw [QS,xu,hname,hkind] at hrb
  have step:mg n (some pn.name) qs=mg n none ps→∃ m',m'<qs.length+1∧∃ (Ev:Nat) (rest:List aK) (prev:Option (List UInt8)) (last:List UInt8),m'=rest.length∧rest.length≤ps.length∧Y.parts rest.length (t.drop Ev)=some rest∧Ev≤t.length∧mg n prev rest=mg n none ps∧
      ((prev=none∧rest.length=ps.length)∨(prev=some last∧rest.length<ps.length))∧
      (⟨dU 74 [(0,aA t),(1,.int .i64 at'),(5,.int .i64 (i+pc:Nat)),(6,.str pn.name),(7,.int .i64 ((ps.length:Int)-((qs.length+1:Nat):Int)+1))],[]⟩:St)=⟨dU 74 [(0,aA t),(1,.int .i64 at'),(5,.int .i64 Ev),(6,.str last),(7,.int .i64 ((ps.length:Int)-rest.length))],[]⟩:=fun hx=>
   ⟨qs.length,by omega,i+pc,qs,some pn.name,pn.name,rfl,by omega,h3',by omega,hx,.inr ⟨rfl,by omega⟩,by rw [e]⟩
  by_cases hb:(pn.kind=9)=(n.kind=1)
  rotate_left 1
  ·
   have hr:mg n none ps=false:=by
    rw [← hrb]
    have:(pn.kind==9)≠(n.kind==1):=fun h=>hb (by rw [Bool.eq_iff_iff,beq_iff_eq,beq_iff_eq] at h;exact propext h)
    simp [this]
   by_cases k9:pn.kind=9
   · have k1:(n.kind=1)=False:=eq_false fun k1=>hb (by simp [k9,k1])
     have k9':=eq_true k9
     simp(maxSteps:=400000)only[↓ax,ay,BEq.rfl,reduceIte,reduceCtorEq,Nat.reduceLT,reduceAdd,reduceSub,reduceMul,Nat.reduceBEq,reduceLeDiff,reduceToNat,reduceLE,hQ,hat,hmn,z0,zi,hgi,qH,k9,k1,hr,qL,iL,iM,zH,bY,dS,reduceEq]
   · have k1:n.kind=1:=Decidable.of_not_not fun k1=>hb (by simp [k9,k1])
     have k9':=eq_false k9
     simp(maxSteps:=400000)only[↓ax,ay,BEq.rfl,reduceIte,reduceCtorEq,Nat.reduceLT,reduceAdd,reduceSub,reduceMul,Nat.reduceBEq,reduceLeDiff,reduceToNat,reduceLE,hQ,hat,hmn,z0,zi,hgi,qH,k9',k1,hr,qL,iL,iM,zH,bY,dS,reduceEq]
  have hbb:(pn.kind==9)=(n.kind==1):=by
   rw [Bool.eq_iff_iff];simpa using hb
  rw [hbb] at hrb
  by_cases k2:n.kind=2
  · have k9:(pn.kind=9)=False:=by rw [hb,k2];simp
    have hk1:¬ n.kind=1:=by omega
    simp only [k2,BEq.rfl,bne_self_eq_false,Bool.true_or,Bool.false_or,Bool.true_and] at hrb
    cases hu:utf pn.name with
    | false=>
     have hr:mg n none ps=false:=by rw [← hrb,hu];simp
     simp(maxSteps:=400000)only[↓ax,ay,BEq.rfl,reduceIte,reduceCtorEq,Nat.reduceLT,reduceAdd,reduceSub,reduceMul,Nat.reduceBEq,reduceLeDiff,reduceToNat,reduceLE,hQ,hat,hmn,z0,zi,hgi,qH,k9,k2,hu,↓fq,hr,qL,iL,iM,zH,bY,dS,reduceEq]
     repeat' (first | (omega) | intro _ | refine ⟨?_,?_⟩)
    | true=>
     rw [hu] at hrb
     rcases aag with ⟨rfl,hq0⟩ | ⟨rfl,hq0⟩
     · have kz:((0:Int)<(ps.length:Int)-((qs.length+1:Nat):Int))=False:=eq_false (by omega)
       have hst:=step (by simpa using hrb)
       simp(maxSteps:=400000)only[↓ax,ay,BEq.rfl,reduceIte,reduceCtorEq,Nat.reduceLT,reduceAdd,reduceSub,reduceMul,Nat.reduceBEq,reduceLeDiff,reduceToNat,reduceLE,hQ,hat,hmn,z0,zi,hgi,qH,hlt1,k9,k2,hu,↓fq,kz,↓h_,hnx,toNat_natCast,qL,iL,iM,zH,bY,dS,reduceEq]
       repeat' (first | exact hst | (omega) | intro _ | refine ⟨?_,?_⟩)
     · have kz:((0:Int)<(ps.length:Int)-((qs.length+1:Nat):Int))=True:=eq_true (by omega)
       simp only [Bool.true_and] at hrb
       cases hbl:Op.bytesLess last pn.name with
       | true=>
        have hne:(pn.name=last)=False:=eq_false fun h=>by rw [h,dY] at hbl;cases hbl
        have Xr:=lD _ _ hbl
        have hst:=step (by rw [← hrb,hbl];simp)
        simp(maxSteps:=400000)only[↓ax,ay,BEq.rfl,reduceIte,reduceCtorEq,Nat.reduceLT,reduceAdd,reduceSub,reduceMul,Nat.reduceBEq,reduceLeDiff,reduceToNat,reduceLE,hQ,hat,hmn,z0,zi,hgi,qH,hlt1,k9,k2,hu,↓fq,kz,hne,Xr,↓h_,hnx,toNat_natCast,qL,iL,iM,zH,bY,dS,reduceEq]
        repeat' (first | exact hst | (omega) | intro _ | refine ⟨?_,?_⟩)
       | false=>
        have hr:mg n none ps=false:=by rw [← hrb,hbl];simp
        by_cases he:pn.name=last
        · have he':=eq_true he
          have Xr:Op.bytesLess pn.name last=false:=by rw [he,dY]
          simp(maxSteps:=400000)only[↓ax,ay,BEq.rfl,reduceIte,reduceCtorEq,Nat.reduceLT,reduceAdd,reduceSub,reduceMul,Nat.reduceBEq,reduceLeDiff,reduceToNat,reduceLE,hQ,hat,hmn,z0,zi,hgi,qH,k9,k2,hu,↓fq,kz,he',Xr,hr,qL,iL,iM,zH,bY,dS,reduceEq]
          repeat' (first | (omega) | intro _ | refine ⟨?_,?_⟩)
        · have he':=eq_false he
          have Xr:Op.bytesLess pn.name last=true:=by
           rcases BN pn.name last with g | g | g
           · exact g
           · exact absurd g he
           · rw [g] at hbl;cases hbl
          simp(maxSteps:=400000)only[↓ax,ay,BEq.rfl,reduceIte,reduceCtorEq,Nat.reduceLT,reduceAdd,reduceSub,reduceMul,Nat.reduceBEq,reduceLeDiff,reduceToNat,reduceLE,hQ,hat,hmn,z0,zi,hgi,qH,k9,k2,hu,↓fq,kz,he',Xr,hr,qL,iL,iM,zH,bY,dS,reduceEq]
          repeat' (first | (omega) | intro _ | refine ⟨?_,?_⟩)
  · have k2':=eq_false k2
    have k2b:(n.kind==2)=false:=by simpa using k2
    have k2n:(n.kind !=2)=true:=by simpa using k2
    simp only [BEq.rfl,k2b,k2n,Bool.true_and,Bool.false_or,Bool.true_or,Bool.and_true] at hrb
    by_cases hnm:pn.name=[]
    · have hnm':=eq_true hnm
      have hst:=step (by rw [← hrb,hnm];simp)
      by_cases k1:n.kind=1
      · have k9:(pn.kind=9)=True:=by rw [hb];exact eq_true k1
        have k1':=eq_true k1
        simp(maxSteps:=400000)only[↓ax,ay,BEq.rfl,reduceIte,reduceCtorEq,Nat.reduceLT,reduceAdd,reduceSub,reduceMul,Nat.reduceBEq,reduceLeDiff,reduceToNat,reduceLE,hQ,hat,hmn,z0,zi,hgi,qH,hlt1,k9,k1,hnm',↓h_,hnx,toNat_natCast,qL,iL,iM,zH,bY,dS,reduceEq]
        repeat' (first | exact hst | (omega) | intro _ | refine ⟨?_,?_⟩)
      · have k1':=eq_false k1
        have k9:(pn.kind=9)=False:=by rw [hb];exact k1'
        simp(maxSteps:=400000)only[↓ax,ay,BEq.rfl,reduceIte,reduceCtorEq,Nat.reduceLT,reduceAdd,reduceSub,reduceMul,Nat.reduceBEq,reduceLeDiff,reduceToNat,reduceLE,hQ,hat,hmn,z0,zi,hgi,qH,hlt1,k9,k1',k2',hnm',↓h_,hnx,toNat_natCast,qL,iL,iM,zH,bY,dS,reduceEq]
        repeat' (first | exact hst | (omega) | intro _ | refine ⟨?_,?_⟩)
    · have hnm':=eq_false hnm
      have hr:mg n none ps=false:=by rw [← hrb];simp [hnm]
      by_cases k1:n.kind=1
      · have k9:(pn.kind=9)=True:=by rw [hb];exact eq_true k1
        simp(maxSteps:=400000)only[↓ax,ay,BEq.rfl,reduceIte,reduceCtorEq,Nat.reduceLT,reduceAdd,reduceSub,reduceMul,Nat.reduceBEq,reduceLeDiff,reduceToNat,reduceLE,hQ,hat,hmn,z0,zi,hgi,qH,k9,k1,hnm',hr,qL,iL,iM,zH,bY,dS,reduceEq]
      · have k1':=eq_false k1
        have k9:(pn.kind=9)=False:=by rw [hb];exact k1'
        simp(maxSteps:=400000)only[↓ax,ay,BEq.rfl,reduceIte,reduceCtorEq,Nat.reduceLT,reduceAdd,reduceSub,reduceMul,Nat.reduceBEq,reduceLeDiff,reduceToNat,reduceLE,hQ,hat,hmn,z0,zi,hgi,qH,k9,k1',k2',hnm',hr,qL,iL,iM,zH,bY,dS,reduceEq]
def ic:dN:=fun args objs K=>match args with
 | [a0,.int .i64 i]=>gu aA a0 (HK.mk:HK fun t=>(0≤i)∧(i.toNat<t.length)∧(kD t)∧(Y.One t)∧K (.bool (zF t i.toNat)) objs 0)
 | _=>False
theorem La:aD Tryz.prog 33 (ic):=by
 intro args objs K h
 unfold ic at h
 split at h
 · rename_i a0 i
   obtain ⟨t,rfl,h1,h2,h3,h4,hk⟩:=h
   exact ⟨_,_,_,.pure _ rfl ((by have:=K_ t i.toNat _ h3 h4 (List.getElem?_eq_getElem h2);rwa [Int.toNat_of_nonneg h1] at this)),hk⟩
 · exact h.elim
theorem QT (nm:List UInt8) (o:Nat) (q:aK) (qs:List aK):kI nm o (q::qs)=if Y.nameOf q=nm then some (o,q) else kI nm (o+q.length) qs:=rfl
theorem Du (t:aK) (hs:kD t) (ho:Y.One t):∀ (p:List Stp) (at':Nat),at'<t.length→p.length≤1000000→ai Tryz.prog 35 [aA t,.int .i64 at',dF p] [] (.int .i64 (iP t at' p)) []
 | [],at',hat,hp=>by
  refine qy.bE (T:=aU Tryz.prog []) 0 hD (aj ah) aY (by decide) fun Q hQ=>?_
  have hr:iP t at' []=at':=by simp [iP,gq]
  have c00:((0:Nat):Int)=0:=rfl
  (conv=>arg 4;cbv);simp(maxSteps:=400000)only[↓ax,ay,BEq.rfl,reduceIte,reduceCtorEq,Nat.reduceLT,reduceAdd,reduceSub,reduceMul,Nat.reduceBEq,reduceLeDiff,reduceToNat,reduceLE,hQ,hr,c00]
 | s::p,at',hat,hp=>by
  have hok:aD Tryz.prog 35 (fun args objs K=>∃ i:Int,args=[aA t,.int .i64 i,dF p]∧0≤i∧i<t.length∧K (.int .i64 (iP t i.toNat p)) objs 0):=by
   rintro args objs K ⟨i,rfl,h1,h2,hk⟩
   have:=Du t hs ho p i.toNat (by omega) (by simp only [List.length_cons] at hp;omega)
   rw [Int.toNat_of_nonneg h1] at this
   exact ⟨_,_,_,.pure _ rfl this,hk⟩
  refine qy.bE (T:=aU Tryz.prog [(31,h_),(35,_)]) 0 hD (aj (af tO (af hok ah))) aY (by decide) fun Q hQ=>?_
  have hl:=hs.len
  have hgt:=List.getElem?_eq_getElem hat
  generalize t[at']=n at hgt
  obtain ⟨ps,c,hm,hmL,hps,hsk,hfl,hone,hsub,hle⟩:=Y.qJ ho hgt
  have hpl:=Y.bN _ _ _ hps
  have hpo:Y.partsOf n ps.flatten=ps:=by
   have:=Y.jB ps hone
   rw [hpl] at this
   simp [Y.partsOf,this]
  have z0:(0≤(at':Int))=True:=eq_true (by omega)
  have hg0:(s::p)[0]?=some s:=rfl
  have hdr:(s::p).drop 1=p:=rfl
  have hpn:(((s::p).length:Int)=0)=False:=eq_false (by simp only [List.length_cons];omega)
  have hwl:1≤(s::p).length:=by simp
  generalize hsp:s::p=w at *
  by_cases hk:n.kind=2∧s.part=false
  rotate_left 1
  · have hr:iP t at' w=-1:=by
     simp only [iP,hsub,← hsp,gq];rw [if_neg hk]
    by_cases k2:n.kind=2
    · have hpt:s.part=true:=by
       cases h:s.part with
       | true=>rfl
       | false=>exact absurd ⟨k2,h⟩ hk
      (conv=>arg 4;cbv);simp(maxSteps:=400000)only[↓ax,ay,BEq.rfl,reduceIte,reduceCtorEq,Nat.reduceLT,reduceAdd,reduceSub,reduceMul,Nat.reduceBEq,reduceLeDiff,reduceToNat,reduceLE,hQ,hpn,hgt,z0,k2,hg0,hpt,hr,reduceEq]
    · have k2':=eq_false k2
      (conv=>arg 4;cbv);simp(maxSteps:=400000)only[↓ax,ay,BEq.rfl,reduceIte,reduceCtorEq,Nat.reduceLT,reduceAdd,reduceSub,reduceMul,Nat.reduceBEq,reduceLeDiff,reduceToNat,reduceLE,hQ,hpn,hgt,z0,k2',hr]
  obtain ⟨k2,hpt⟩:=hk
  have hr:iP t at' w=match kI s.name 1 ps with | some (o,q)=>(match (gq p q).map (o+·) with | some j=>((at'+j:Nat):Int) | none=>-1) | none=>-1:=by
   simp only [iP,hsub,← hsp,gq]
   rw [if_pos ⟨k2,hpt⟩,hpo]
   cases kI s.name 1 ps with
   | none=>rfl
   | some oq=>rfl
  (conv=>arg 4;cbv);simp(maxSteps:=400000)only[↓ax,ay,BEq.rfl,reduceIte,reduceCtorEq,Nat.reduceLT,reduceAdd,reduceSub,reduceMul,Nat.reduceBEq,reduceLeDiff,reduceToNat,reduceLE,hQ,hpn,hgt,z0,k2,hg0,hpt,reduceEq]
  refine ⟨⟨by omega,by omega⟩,?_⟩
  refine aH (fun m S=>∃ (i:Nat) (rest:List aK),m=rest.length∧rest.length≤ps.length∧at'+1≤i∧Y.parts rest.length (t.drop i)=some rest∧i≤t.length∧kI s.name (i-at') rest=kI s.name 1 ps∧
   S=⟨dU 54 [(0,aA t),(1,.int .i64 at'),(2,dF w),(7,.int .i64 i),(8,.int .i64 ((ps.length:Int)-rest.length))],[]⟩) ps.length ⟨at'+1,ps,rfl,Nat.le_refl _,Nat.le_refl _,by rw [hpl];exact hps,by omega,by rw [show at'+1-at'=1 by omega],?_⟩ ?_
  · simp only [dh,keepR,reduceAdd,oC,Nat.reduceBEq,List.map_nil]
    simp
  rintro m S ⟨i,rest,rfl,hrl,hia,hrp,hit,hrb,rfl⟩
  have hmn:n.many=(ps.length:Int):=by omega
  have zi:(0≤(i:Int))=True:=eq_true (by omega)
  cases rest with
  | nil=>
   have hlt:((ps.length:Int)-((0:Nat):Int)<(ps.length:Int))=False:=eq_false (by omega)
   have hr':iP t at' w=-1:=by rw [hr,← hrb];rfl
   simp(maxSteps:=400000)only[↓ax,ay,BEq.rfl,reduceIte,reduceCtorEq,Nat.reduceLT,reduceAdd,reduceSub,reduceMul,Nat.reduceBEq,reduceLeDiff,reduceToNat,reduceLE,hQ,hgt,hmn,z0,List.length_nil,hlt,hr']
  | cons q qs=>
   obtain ⟨pc,qs',h1,h2,h3⟩:=Y.eB (k:=qs.length) hrp
   simp only [List.cons.injEq] at h2
   obtain ⟨hp',rfl⟩:=h2
   have hpc:=Y.dV _ _ _ h1
   simp only [List.length_drop] at hpc
   have hil:i<t.length:=by omega
   have hgi:=List.getElem?_eq_getElem hil
   have hdi:=List.drop_eq_getElem_cons hil
   generalize t[i]=pn at hgi hdi
   obtain ⟨k,hk⟩:∃ k,pc=k+1:=⟨pc-1,by omega⟩
   have hname:Y.nameOf q=pn.name:=by rw [hp',hdi,hk];rfl
   have hnx:rW t i=(i+pc:Nat):=Gi (Y.nT _ _ _ _ h1 (by omega))
   have hsq:Y.om t i=q:=by unfold Y.om;rw [h1];exact hp'.symm
   have Vr:q.length=pc:=by rw [hp',List.length_take,List.length_drop];omega
   simp only [List.length_cons] at hrl
   have h3':Y.parts qs.length (t.drop (i+pc))=some qs:=by rw [← List.drop_drop];exact h3
   have qH:((ps.length:Int)-((qs.length+1:Nat):Int)<(ps.length:Int))=True:=eq_true (by omega)
   have hlt1:(-9223372036854775808≤(ps.length:Int)-((qs.length+1:Nat):Int)+1∧(ps.length:Int)-((qs.length+1:Nat):Int)+1≤9223372036854775807)=True:=eq_true ⟨by omega,by omega⟩
   have e:(ps.length:Int)-((qs.length+1:Nat):Int)+1=(ps.length:Int)-qs.length:=by omega
   rw [QT,hname] at hrb
   by_cases hnm:pn.name=s.name
   · have hnm':=eq_true hnm
     rw [if_pos hnm] at hrb
     have hr':iP t at' w=iP t i p:=by
      rw [hr,← hrb]
      simp only [iP,hsq]
      cases gq p q with
      | none=>rfl
      | some j=>simp only [Option.map_some];omega
     simp(maxSteps:=400000)only[↓ax,ay,BEq.rfl,reduceIte,reduceCtorEq,Nat.reduceLT,reduceAdd,reduceSub,reduceMul,Nat.reduceBEq,reduceLeDiff,reduceToNat,reduceLE,hQ,hgt,hmn,z0,zi,hgi,hg0,qH,hnm',hr',List.take_length,hdr,toNat_natCast]
     repeat' (first | (omega) | exact rfl | exact ⟨(i:Int),rfl,by omega,by omega,by rw [toNat_natCast]⟩ | intro _ | refine ⟨?_,?_⟩)
   · have hnm':=eq_false hnm
     rw [if_neg hnm] at hrb
     simp(maxSteps:=400000)only[↓ax,ay,BEq.rfl,reduceIte,reduceCtorEq,Nat.reduceLT,reduceAdd,reduceSub,reduceMul,Nat.reduceBEq,reduceLeDiff,reduceToNat,reduceLE,hQ,hgt,hmn,z0,zi,hgi,hg0,qH,hlt1,hnm',↓h_,hnx,toNat_natCast]
     repeat' (first | (omega) | exact ⟨qs.length,by omega,i+pc,qs,rfl,by omega,by omega,h3',by omega,by rw [show i+pc-at'=i-at'+q.length by omega];exact hrb,by rw [e]⟩ | intro _ | refine ⟨?_,?_⟩)
def gH:dN:=fun args objs K=>match args with
 | [a0,.int .i64 i,a2]=>gu aA a0 (HK.mk:HK fun t=>gu dF a2 (HK.mk:HK fun p=>(0≤i)∧(i<t.length)∧(kD t)∧(Y.One t)∧(p.length≤1000000)∧K (.int .i64 (iP t i.toNat p)) objs 0))
 | _=>False
theorem Bw:aD Tryz.prog 35 (gH):=by
 intro args objs K h
 unfold gH at h
 split at h
 · rename_i a0 i a2
   obtain ⟨t,rfl,p,rfl,h1,h2,h3,h4,h5,hk⟩:=h
   exact ⟨_,_,_,.pure _ rfl ((by have:=Du t h3 h4 p i.toNat (by omega) h5;rwa [Int.toNat_of_nonneg h1] at this)),hk⟩
 · exact h.elim
def iF (t:aK) (p:List Stp):PV:=.bT [.int .i64 (match eF p t with | some i=>(i:Int) | none=>0),.bool (eF p t).isSome]
theorem Ol (t:aK) (p:List Stp) (hs:kD t) (ho:Y.One t) (hp:p.length≤1000000):ai Tryz.prog 30 [aA t,dF p] [] (iF t p) []:=by
 refine Bq.vE (T:=aU Tryz.prog [(35,gH)]) 0 hD (aj (af Bw ah)) aY (by decide) (by decide) fun Q hQ=>?_
 have hl:=hs.len
 have h0:0<t.length:=List.length_pos_iff.2 ho.ne
 have hlt:=Gf (p:=p) ho h0
 have hlf:=Oh (p:=p) ho h0
 rw [Y.zD ho] at hlf
 have hlv:iP t 0 p=match gq p t with | some j=>(j:Int) | none=>-1:=by
  simp only [iP,Y.zD ho,Nat.zero_add]
  all_goals (cases gq p t <;> rfl)
 have t0:Int.toNat 0=0:=rfl
 have hz:((0:Int)<(t.length:Int))=True:=eq_true (by omega)
 generalize hL:iP t 0 p=L at *
 by_cases hn:L<0
 · have hn':=eq_true hn
   have hr:iF t p=.bT [.int .i64 0,.bool false]:=by
    have:eF p t=none:=by
     cases h:eF p t with
     | none=>rfl
     | some i=>rw [h] at hlf;exact absurd (hlf.1 rfl).1 (by omega)
    simp [iF,this]
   (conv=>arg 4;cbv);simp(maxSteps:=400000)only[↓ax,ay,BEq.rfl,reduceIte,reduceCtorEq,Nat.reduceLT,reduceAdd,reduceSub,reduceMul,Nat.reduceBEq,reduceLeDiff,reduceToNat,reduceLE,hQ,↓gH,t0,hL,hn',hr]
   repeat' (first | omega | exact hs | exact ho | refine ⟨?_,?_⟩)
 · have hn':=eq_false hn
   obtain ⟨j,rfl⟩:∃ j:Nat,L=j:=⟨L.toNat,by omega⟩
   have hj:j<t.length:=by omega
   have hgj:=List.getElem?_eq_getElem hj
   have zj:(0≤(j:Int))=True:=eq_true (by omega)
   generalize t[j]=x at hgj
   have hl2:gq p t=some j:=by
    cases h:gq p t with
    | none=>rw [h] at hlv;simp only at hlv;omega
    | some k=>rw [h] at hlv;simp only at hlv;congr 1;omega
   by_cases hk:x.kind=1
   · have hr:iF t p=.bT [.int .i64 j,.bool true]:=by
      have:eF p t=some j:=by simp [eF,hl2,hgj,hk]
      simp [iF,this]
     (conv=>arg 4;cbv);simp(maxSteps:=400000)only[↓ax,ay,BEq.rfl,reduceIte,reduceCtorEq,Nat.reduceLT,reduceAdd,reduceSub,reduceMul,Nat.reduceBEq,reduceLeDiff,reduceToNat,reduceLE,hQ,↓gH,t0,hL,hn',zj,hgj,hk,hr]
     repeat' (first | omega | exact hs | exact ho | refine ⟨?_,?_⟩)
   · have hk':=eq_false hk
     have hr:iF t p=.bT [.int .i64 0,.bool false]:=by
      have:eF p t=none:=by simp [eF,hl2,hgj,hk]
      simp [iF,this]
     (conv=>arg 4;cbv);simp(maxSteps:=400000)only[↓ax,ay,BEq.rfl,reduceIte,reduceCtorEq,Nat.reduceLT,reduceAdd,reduceSub,reduceMul,Nat.reduceBEq,reduceLeDiff,reduceToNat,reduceLE,hQ,↓gH,t0,hL,hn',zj,hgj,hk',hr]
     repeat' (first | omega | exact hs | exact ho | refine ⟨?_,?_⟩)
def rX:dN:=fun args objs K=>match args with
 | [a0,a1]=>gu aA a0 (HK.mk:HK fun t=>gu dF a1 (HK.mk:HK fun p=>(kD t)∧(Y.One t)∧(p.length≤1000000)∧K (iF t p) objs 0))
 | _=>False
theorem Lb:aD Tryz.prog 30 (rX):=by
 intro args objs K h
 unfold rX at h
 split at h
 · rename_i a0 a1
   obtain ⟨t,rfl,p,rfl,h1,h2,h3,hk⟩:=h
   exact ⟨_,_,_,.pure _ rfl (Ol t p h1 h2 h3),hk⟩
 · exact h.elim
end Lp
namespace Lp
open Go Go.Proofs
open List (length_drop map_nil)
open Nat (reduceAdd reduceLeDiff reduceMul reduceSub)
open Int (reduceLE reduceToNat toNat_natCast)
theorem QU {x:eT}(h:b_ bB x=true) (hk:x.kind=7∨x.kind=8):x.many=1:=by
 rcases hk with k | k <;> simp only [b_,k,Int.reduceEq,if_false,if_true,or_false,or_true,false_or,true_or,Bool.and_eq_true,beq_iff_eq] at h <;> exact h.1.1.1
theorem UX {t:aK}{i:Nat}{x:eT}(ho:Y.One t) (hx:t[i]?=some x) (hm:(x.kind=7∨x.kind=8)→x.many=1) :
  (x.kind=7∨x.kind=8→i+1<t.length∧(ku t i=true↔0≤iP t (i+1) (fA x.s)∧∃ y,t[(iP t (i+1) (fA x.s)).toNat]?=some y∧y.kind=1))∧(¬ (x.kind=7∨x.kind=8)→ku t i=true):=by
 obtain ⟨ps,c,h1,h2,h3,h4,h5,h6,h7,h8⟩:=Y.qJ ho hx
 have hl:=(List.getElem?_eq_some_iff.1 hx).1
 have hd:=List.drop_eq_getElem_cons hl
 have he:ku t i=xV fA x ps:=by
  rw [List.getElem?_eq_getElem hl] at hx
  cases hx
  simp only [ku,hd,h3]
 rw [he]
 constructor
 · intro hk
   rw [hm hk] at h3 h4
   obtain ⟨pc,qs,g1,g2,g3⟩:=Y.eB (k:=0) h3
   have hq:qs=[]:=by simpa [Y.parts] using g3.symm
   subst hq
   have hil:i+1<t.length:=by
    have:=Y.dV _ _ _ g1
    rw [length_drop] at this;omega
   have hsub:Y.om t (i+1)=(t.drop (i+1)).take pc:=by unfold Y.om;rw [g1]
   refine ⟨hil,?_⟩
   rw [← Oh ho hil,hsub]
   simp only [xV,if_pos hk,g2]
 · intro hk
   simp only [xV,if_neg hk]
theorem Lc (t:aK) (hs:kD t):ai Tryz.prog 14 [aA t] [] (.bool (eO t)) []:=by
 have hl:=hs.len
 refine zA.bE (T:=aU Tryz.prog [(31,h_),(32,fV),(33,ic),(34,fO),(35,gH)]) 0 hD (aj (af tO (af Ic (af La (af A9 (af Bw ah)))))) aY (by decide) fun Q hQ=>?_
 rcases Nat.eq_zero_or_pos t.length with hv | hv
 · have hr:eO t=false:=by
    have:t=[]:=List.length_eq_zero_iff.1 hv
    rw [this];rfl
   have hv':((t.length:Int)=0)=True:=eq_true (by omega)
   (conv=>arg 4;cbv);simp(maxSteps:=400000)only[↓ax,ay,BEq.rfl,reduceIte,reduceCtorEq,Nat.reduceLT,reduceAdd,reduceSub,reduceMul,Nat.reduceBEq,reduceLeDiff,reduceToNat,reduceLE,hQ,hr,hv']
 have hv':((t.length:Int)=0)=False:=eq_false (by omega)
 obtain ⟨n0,r0,hvr⟩:∃ n r,t=n::r:=by
  cases t with
  | nil=>simp at hv
  | cons n r=>exact ⟨n,r,rfl⟩
 have hg0:t[0]?=some n0:=by rw [hvr];rfl
 have hnm:Y.nameOf t=n0.name:=by rw [hvr];rfl
 have hkd:Y.kindOf t=n0.kind:=by rw [hvr];rfl
 have hne:t.isEmpty=false:=by rw [hvr];rfl
 by_cases hname:n0.name=[]
 rotate_left 1
 · have hr:eO t=false:=by simp [eO,hnm,hname]
   (conv=>arg 4;cbv);simp(maxSteps:=400000)only[↓ax,ay,BEq.rfl,reduceIte,reduceCtorEq,Nat.reduceLT,reduceAdd,reduceSub,reduceMul,Nat.reduceBEq,reduceLeDiff,reduceToNat,reduceLE,hQ,hr,hv',hg0,hname]
 by_cases hk9:n0.kind=9
 · have hr:eO t=false:=by simp [eO,hkd,hk9]
   (conv=>arg 4;cbv);simp(maxSteps:=400000)only[↓ax,ay,BEq.rfl,reduceIte,reduceCtorEq,Nat.reduceLT,reduceAdd,reduceSub,reduceMul,Nat.reduceBEq,reduceLeDiff,reduceToNat,reduceLE,hQ,hr,hv',hg0,hname,hk9]
 have acr:=eq_false hk9
 have hz:Int.toNat 0=0:=rfl
 by_cases hnx:rW t 0=(t.length:Int)
 rotate_left 1
 · have hr:eO t=false:=by
    have:Y.gX t.length t 1≠some t.length:=fun h=>hnx (by rw [Gi (i:=0) (by simpa using h)];simp)
    simp [eO,this]
   have ado:=eq_false hnx
   (conv=>arg 4;cbv);simp(maxSteps:=400000)only[↓ax,ay,BEq.rfl,reduceIte,reduceCtorEq,Nat.reduceLT,reduceAdd,reduceSub,reduceMul,Nat.reduceBEq,reduceLeDiff,reduceToNat,reduceLE,hQ,hr,hv',hg0,hname,acr,hz,↓h_,ado]
   exact ⟨Nat.zero_le _,hl⟩
 have hn:Y.gX t.length t 1=some t.length:=by
  unfold rW at hnx
  rw [List.drop_zero] at hnx
  cases hx:Y.gX t.length t 1 with
  | none=>rw [hx] at hnx;simp only at hnx;omega
  | some c=>rw [hx] at hnx;simp only at hnx;congr 1;omega
 have ho:Y.One t:=Y.nC _ _ _ _ hn
 have hr:eO t=Y.fw (jK bB fA) t:=by
  simp [eO,hnm,hkd,hname,hk9,hn,hne]
 (conv=>arg 4;cbv);simp(maxSteps:=400000)only[↓ax,ay,BEq.rfl,reduceIte,reduceCtorEq,Nat.reduceLT,reduceAdd,reduceSub,reduceMul,Nat.reduceBEq,reduceLeDiff,reduceToNat,reduceLE,hQ,hv',hg0,hname,acr,hz,↓h_,hnx]
 refine ⟨Nat.zero_le _,hl,?_⟩
 refine aH (fun m S=>∃ i:Nat,i+m=t.length∧Y.fw (jK bB fA) (t.drop i)=Y.fw (jK bB fA) t∧S=⟨dU 87 [(0,aA t),(3,.int .i64 i)],[]⟩) t.length ⟨0,by omega,rfl,?_⟩ ?_
 · simp only [dh,keepR,reduceAdd,oC,Nat.reduceBEq,map_nil]
   rfl
 rintro m S ⟨i,him,hgd,rfl⟩
 rcases Nat.lt_or_ge i t.length with h | h
 · have hg:=List.getElem?_eq_getElem h
   have htx:=hs.txt _ (List.getElem_mem h)
   generalize t[i]=n at hg htx
   have hd:=QM hg
   rw [hgd,← hr] at hd
   have zi:(0≤(i:Int))=True:=eq_true (by omega)
   have LX:(0≤(i:Int)+1)=True:=eq_true (by omega)
   have KE:((i:Int)+1).toNat=i+1:=by omega
   have hlt:((i:Int)<(t.length:Int))=True:=eq_true (by omega)
   have next:eO t=Y.fw (jK bB fA) (t.drop (i+1))→∃ m',m'<m∧∃ Ev:Nat,Ev+m'=t.length∧Y.fw (jK bB fA) (t.drop Ev)=Y.fw (jK bB fA) t∧(⟨dU 87 [(0,aA t),(3,.int .i64 ((i:Int)+1))],[]⟩:St)=⟨dU 87 [(0,aA t),(3,.int .i64 Ev)],[]⟩:=fun e=>
    ⟨m-1,by omega,i+1,by omega,by rw [← e,hr],rfl⟩
   cases hp:b_ bB n
   · have hr2:eO t=false:=by rw [hd,hp];rfl
     simp(maxSteps:=400000)only[↓ax,ay,BEq.rfl,reduceIte,reduceCtorEq,Nat.reduceLT,reduceAdd,reduceSub,reduceMul,Nat.reduceBEq,reduceLeDiff,reduceToNat,reduceLE,hQ,hg,↓fV,↓ic,hp,zi,hlt,hr2]
     exact ⟨htx.1,htx.2.2⟩
   cases hq:zF t i
   · have hr2:eO t=false:=by rw [hd,hp,hq];rfl
     simp(maxSteps:=400000)only[↓ax,ay,BEq.rfl,reduceIte,reduceCtorEq,Nat.reduceLT,reduceAdd,reduceSub,reduceMul,Nat.reduceBEq,reduceLeDiff,reduceToNat,reduceLE,hQ,hg,↓fV,↓ic,toNat_natCast,hp,hq,zi,hlt,hr2]
     exact ⟨htx.1,htx.2.2,h,hs,ho⟩
   rw [hp,hq,Bool.true_and,Bool.true_and] at hd
   obtain ⟨l1,l2⟩:=UX ho hg (QU hp)
   by_cases hk:n.kind=7∨n.kind=8
   rotate_left 1
   · have k7:(n.kind=7)=False:=eq_false fun h=>hk (.inl h)
     have k8:(n.kind=8)=False:=eq_false fun h=>hk (.inr h)
     rw [l2 hk,Bool.true_and] at hd
     have hst:=next hd
     simp(maxSteps:=400000)only[↓ax,ay,BEq.rfl,reduceIte,reduceCtorEq,Nat.reduceLT,reduceAdd,reduceSub,reduceMul,Nat.reduceBEq,reduceLeDiff,reduceToNat,reduceLE,hQ,hg,↓fV,↓ic,toNat_natCast,hp,hq,zi,hlt,k7,k8]
     repeat' (first | omega | exact htx.1 | exact htx.2.2 | exact hs | exact ho | exact hst | refine ⟨?_,?_⟩)
   obtain ⟨hil,WR⟩:=l1 hk
   have hpl:=Jo n.s
   have hlr:=Gf (p:=fA n.s) ho hil
   by_cases h7:n.kind=7
   · have k7:=eq_true h7
     generalize hL:iP t (i+1) (fA n.s)=L at *
     by_cases hn0:L<0
     · have Ld:=eq_true hn0
       have hr2:eO t=false:=by
        rw [hd]
        have:ku t i=false:=by
         cases hx:ku t i with
         | false=>rfl
         | true=>exact absurd (WR.1 hx).1 (by omega)
        rw [this];rfl
       simp(maxSteps:=400000)only[↓ax,ay,BEq.rfl,reduceIte,reduceCtorEq,Nat.reduceLT,reduceAdd,reduceSub,reduceMul,Nat.reduceBEq,reduceLeDiff,reduceToNat,reduceLE,hQ,hg,↓fV,↓ic,↓fO,↓gH,gM,toNat_natCast,KE,hp,hq,zi,hlt,k7,hL,Ld,hr2]
       repeat' (first | omega | exact htx.1 | exact htx.2.2 | exact hs | exact ho | refine ⟨?_,?_⟩)
     · have Ld:=eq_false hn0
       obtain ⟨j,rfl⟩:∃ j:Nat,L=j:=⟨L.toNat,by omega⟩
       rw [toNat_natCast] at WR
       have hjl:j<t.length:=by omega
       have hgj:=List.getElem?_eq_getElem hjl
       have zj:(0≤(j:Int))=True:=eq_true (by omega)
       generalize t[j]=y at hgj
       by_cases hk1:y.kind=1
       · have hla:ku t i=true:=WR.2 ⟨by omega,y,hgj,hk1⟩
         rw [hla,Bool.true_and] at hd
         have hst:=next hd
         simp(maxSteps:=400000)only[↓ax,ay,BEq.rfl,reduceIte,reduceCtorEq,Nat.reduceLT,reduceAdd,reduceSub,reduceMul,Nat.reduceBEq,reduceLeDiff,reduceToNat,reduceLE,hQ,hg,↓fV,↓ic,↓fO,↓gH,gM,toNat_natCast,KE,hp,hq,zi,hlt,k7,hL,Ld,zj,hgj,hk1]
         repeat' (first | omega | exact htx.1 | exact htx.2.2 | exact hs | exact ho | exact hst | refine ⟨?_,?_⟩)
       · have QV:=eq_false hk1
         have hr2:eO t=false:=by
          rw [hd]
          have:ku t i=false:=by
           cases hx:ku t i with
           | false=>rfl
           | true=>obtain ⟨_,z,hz1,hz2⟩:=WR.1 hx;rw [hgj] at hz1;cases hz1;exact absurd hz2 hk1
          rw [this];rfl
         simp(maxSteps:=400000)only[↓ax,ay,BEq.rfl,reduceIte,reduceCtorEq,Nat.reduceLT,reduceAdd,reduceSub,reduceMul,Nat.reduceBEq,reduceLeDiff,reduceToNat,reduceLE,hQ,hg,↓fV,↓ic,↓fO,↓gH,gM,toNat_natCast,KE,hp,hq,zi,hlt,k7,hL,Ld,zj,hgj,QV,hr2]
         repeat' (first | omega | exact htx.1 | exact htx.2.2 | exact hs | exact ho | refine ⟨?_,?_⟩)
   · have k7:=eq_false h7
     have k8:=eq_true (hk.resolve_left h7)
     generalize hL:iP t (i+1) (fA n.s)=L at *
     by_cases hn0:L<0
     · have Ld:=eq_true hn0
       have hr2:eO t=false:=by
        rw [hd]
        have:ku t i=false:=by
         cases hx:ku t i with
         | false=>rfl
         | true=>exact absurd (WR.1 hx).1 (by omega)
        rw [this];rfl
       simp(maxSteps:=400000)only[↓ax,ay,BEq.rfl,reduceIte,reduceCtorEq,Nat.reduceLT,reduceAdd,reduceSub,reduceMul,Nat.reduceBEq,reduceLeDiff,reduceToNat,reduceLE,hQ,hg,↓fV,↓ic,↓fO,↓gH,gM,toNat_natCast,KE,hp,hq,zi,hlt,k7,k8,hL,Ld,hr2]
       repeat' (first | omega | exact htx.1 | exact htx.2.2 | exact hs | exact ho | refine ⟨?_,?_⟩)
     · have Ld:=eq_false hn0
       obtain ⟨j,rfl⟩:∃ j:Nat,L=j:=⟨L.toNat,by omega⟩
       rw [toNat_natCast] at WR
       have hjl:j<t.length:=by omega
       have hgj:=List.getElem?_eq_getElem hjl
       have zj:(0≤(j:Int))=True:=eq_true (by omega)
       generalize t[j]=y at hgj
       by_cases hk1:y.kind=1
       · have hla:ku t i=true:=WR.2 ⟨by omega,y,hgj,hk1⟩
         rw [hla,Bool.true_and] at hd
         have hst:=next hd
         simp(maxSteps:=400000)only[↓ax,ay,BEq.rfl,reduceIte,reduceCtorEq,Nat.reduceLT,reduceAdd,reduceSub,reduceMul,Nat.reduceBEq,reduceLeDiff,reduceToNat,reduceLE,hQ,hg,↓fV,↓ic,↓fO,↓gH,gM,toNat_natCast,KE,hp,hq,zi,hlt,k7,k8,hL,Ld,zj,hgj,hk1]
         repeat' (first | omega | exact htx.1 | exact htx.2.2 | exact hs | exact ho | exact hst | refine ⟨?_,?_⟩)
       · have QV:=eq_false hk1
         have hr2:eO t=false:=by
          rw [hd]
          have:ku t i=false:=by
           cases hx:ku t i with
           | false=>rfl
           | true=>obtain ⟨_,z,hz1,hz2⟩:=WR.1 hx;rw [hgj] at hz1;cases hz1;exact absurd hz2 hk1
          rw [this];rfl
         simp(maxSteps:=400000)only[↓ax,ay,BEq.rfl,reduceIte,reduceCtorEq,Nat.reduceLT,reduceAdd,reduceSub,reduceMul,Nat.reduceBEq,reduceLeDiff,reduceToNat,reduceLE,hQ,hg,↓fV,↓ic,↓fO,↓gH,gM,toNat_natCast,KE,hp,hq,zi,hlt,k7,k8,hL,Ld,zj,hgj,QV,hr2]
         repeat' (first | omega | exact htx.1 | exact htx.2.2 | exact hs | exact ho | refine ⟨?_,?_⟩)
 · have hlt:((i:Int)<(t.length:Int))=False:=eq_false (by omega)
   have hr2:eO t=true:=by rw [hr,← hgd,List.drop_eq_nil_of_le h];rfl
   simp(maxSteps:=400000)only[↓ax,ay,BEq.rfl,reduceIte,reduceCtorEq,Nat.reduceLT,reduceAdd,reduceSub,reduceMul,Nat.reduceBEq,reduceLeDiff,reduceToNat,reduceLE,hQ,hlt,hr2]
def jT:dN:=fun args objs K=>match args with
 | [a0]=>gu aA a0 (HK.mk:HK fun t=>(kD t)∧K (.bool (eO t)) objs 0)
 | _=>False
theorem yC:aD Tryz.prog 14 (jT):=by
 intro args objs K h
 unfold jT at h
 split at h
 · rename_i a0
   obtain ⟨t,rfl,h1,hk⟩:=h
   exact ⟨_,_,_,.pure _ rfl (Lc t h1),hk⟩
 · exact h.elim
theorem aah:(bP ⟨0,aW⟩).cells.length=7∧(∀ a,(bP a).cells.length=7)∧(∀ a,(bP a).cells.all PV.storable=true):=⟨rfl,fun _=>rfl,fun _=>rfl⟩
theorem Le (t:aK) (at':Nat) (n:eT) (hl:t.length≤1000000) (hat:t[at']?=some n) (hm:n.kind=1→0≤n.many∧at'+1+n.many.toNat≤t.length) (hb:-1000000000≤n.many∧n.many≤1000000000) :
  ai Tryz.prog 38 [aA t,.int .i64 at'] [] (bg (if n.kind=1 then ((t.drop (at'+1)).take n.many.toNat).map iy else [])) []:=by
 have YP:=(List.getElem?_eq_some_iff.1 hat).1
 have z0:(0≤(at':Int))=True:=eq_true (by omega)
 generalize hR:(if n.kind=1 then ((t.drop (at'+1)).take n.many.toNat).map iy else [])=R
 refine zB.bE (T:=aU Tryz.prog []) 1 hD (aj ah) aY (by decide) fun Q hQ=>?_
 (conv=>arg 4;cbv);simp(maxSteps:=400000)only[↓ax,ay,BEq.rfl,reduceIte,reduceCtorEq,Nat.reduceLT,reduceAdd,reduceSub,reduceMul,Nat.reduceBEq,reduceLeDiff,reduceToNat,reduceLE,hQ,atB,UR,aah]
 refine ⟨⟨by omega,by omega⟩,?_⟩
 by_cases hk:n.kind=1
 rotate_left 1
 · rw [if_neg hk] at hR
   subst hR
   have hk':=eq_false hk
   refine aH (fun m S=>∃ _u:Unit,S=⟨dU 44 [(0,aA t),(1,.int .i64 at'),(5,.bO 0 1),(6,.int .i64 ((at':Int)+1))],[⟨29,7,[],true,1⟩]⟩) 0 ⟨(),?_⟩ ?_
   · simp only [dh,keepR,reduceAdd,oC,Nat.reduceBEq,map_nil]
   rintro m S ⟨_,rfl⟩
   have e0:∀ ver,fJ 1 0 [⟨29,7,[],true,ver⟩] (.bO 0 ver)=bg []:=fun ver=>EF [] ver 29 []
   by_cases hgt:(at':Int)+1≤(at':Int)+n.many
   · have aa8:=eq_true hgt
     simp(maxSteps:=400000)only[↓ax,ay,BEq.rfl,reduceIte,reduceCtorEq,Nat.reduceLT,reduceAdd,reduceSub,reduceMul,Nat.reduceBEq,reduceLeDiff,reduceToNat,reduceLE,hQ,hat,z0,hk',aa8,e0]
     repeat' (first | (omega) | exact rfl | intro _ | refine ⟨?_,?_⟩)
   · have aa8:=eq_false hgt
     simp(maxSteps:=400000)only[↓ax,ay,BEq.rfl,reduceIte,reduceCtorEq,Nat.reduceLT,reduceAdd,reduceSub,reduceMul,Nat.reduceBEq,reduceLeDiff,reduceToNat,reduceLE,hQ,hat,z0,hk',aa8,e0]
     repeat' (first | (omega) | exact rfl | intro _ | refine ⟨?_,?_⟩)
 rw [if_pos hk] at hR
 subst hR
 obtain ⟨hm0,hm1⟩:=hm hk
 have hk':=eq_true hk
 refine aH (fun m S=>∃ (i ver:Nat),i+m=n.many.toNat∧S=⟨dU 44 [(0,aA t),(1,.int .i64 at'),(5,.bO 0 ver),(6,.int .i64 ((at':Int)+1+i))],[⟨29,7,(((t.drop (at'+1)).take i).map iy).map bP,true,ver⟩]⟩) n.many.toNat ⟨0,1,by omega,?_⟩ ?_
 · simp only [dh,keepR,reduceAdd,oC,Nat.reduceBEq,map_nil]
   simp
 rintro m S ⟨i,ver,him,rfl⟩
 rcases Nat.lt_or_ge i n.many.toNat with h | h
 · have hlt:((at':Int)+1+(i:Int)≤(at':Int)+n.many)=True:=eq_true (by omega)
   have hil:at'+1+i<t.length:=by omega
   have ti:((at':Int)+1+(i:Int)).toNat=at'+1+i:=by omega
   have zi:(0≤(at':Int)+1+(i:Int))=True:=eq_true (by omega)
   have hgi:=List.getElem?_eq_getElem hil
   have hgd:(t.drop (at'+1))[i]?=some t[at'+1+i]:=by rw [List.getElem?_drop];exact hgi
   generalize t[at'+1+i]=x at hgi hgd
   have htk:((t.drop (at'+1)).take (i+1)).map iy=((t.drop (at'+1)).take i).map iy++[⟨x.n,x.c⟩]:=by
    rw [List.take_add_one,hgd];simp [iy]
   have tl:((t.drop (at'+1)).take i).length=i:=by rw [List.length_take,length_drop];omega
   simp(maxSteps:=400000)only[↓ax,ay,BEq.rfl,reduceIte,reduceCtorEq,Nat.reduceLT,reduceAdd,reduceSub,reduceMul,Nat.reduceBEq,reduceLeDiff,reduceToNat,reduceLE,hQ,hat,z0,hk',hlt,ti,zi,hgi,atB,UR,aah,tl]
   repeat' (first | (omega) | exact ⟨m-1,by omega,i+1,ver+1,by omega,by rw [htk,List.map_append,List.map_cons,map_nil,Int.natCast_add,Int.natCast_one,Int.add_assoc]⟩ | exact rfl | intro _ | refine ⟨?_,?_⟩)
 · have hi:i=n.many.toNat:=by omega
   subst hi
   have hlt:((at':Int)+1+(n.many.toNat:Int)≤(at':Int)+n.many)=False:=eq_false (by omega)
   simp(maxSteps:=400000)only[↓ax,ay,BEq.rfl,reduceIte,reduceCtorEq,Nat.reduceLT,reduceAdd,reduceSub,reduceMul,Nat.reduceBEq,reduceLeDiff,reduceToNat,reduceLE,hQ,hat,z0,hk',hlt,EF]
   repeat' (first | (omega) | exact rfl | intro _ | refine ⟨?_,?_⟩)
def ny (t:aK) (i:Nat):List f_:=match t[i]? with
 | some n=>if n.kind=1 then ((t.drop (i+1)).take n.many.toNat).map iy else []
 | none=>[]
theorem Ie (t:aK) (i:Int) (h0:0≤i) (hi:i.toNat<t.length) (hl:t.length≤1000000) (ho:Y.One t):ai Tryz.prog 38 [aA t,.int .i64 i] [] (bg (ny t i.toNat)) []:=by
 have hg:=List.getElem?_eq_getElem hi
 generalize t[i.toNat]=n at hg
 obtain ⟨ps,c,h1,h2,h3,h4,h5,h6,h7,h8⟩:=Y.qJ ho hg
 have hpl:=Y.bN _ _ _ h3
 have hfl:ps.length≤ps.flatten.length:=by
  have:∀ qs:List aK,(∀ p ∈ qs,Y.One p)→qs.length≤qs.flatten.length:=by
   intro qs
   induction qs with
   | nil=>intro _;simp
   | cons q qs ih=>
    intro h
    have a:=ih fun p hp=>h p (List.mem_cons_of_mem _ hp)
    have b:=List.length_pos_iff.2 (h q (List.mem_cons_self ..)).ne
    simp only [List.length_cons,List.flatten_cons,List.length_append];omega
  exact this ps h6
 rw [h5,List.length_take,length_drop] at hfl
 have:=Le t i.toNat n hl hg (fun _=>⟨h1,by omega⟩) ⟨by omega,by omega⟩
 rw [Int.toNat_of_nonneg h0] at this
 simp only [ny,hg]
 exact this
def mh:dN:=fun args objs K=>match args with
 | [a0,.int .i64 i]=>gu aA a0 (HK.mk:HK fun t=>(0≤i)∧(i.toNat<t.length)∧(t.length≤1000000)∧(Y.One t)∧K (bg (ny t i.toNat)) objs 0)
 | _=>False
theorem D5:aD Tryz.prog 38 (mh):=by
 intro args objs K h
 unfold mh at h
 split at h
 · rename_i a0 i
   obtain ⟨t,rfl,h1,h2,h3,h4,hk⟩:=h
   exact ⟨_,_,_,.pure _ rfl (Ie t i h1 h2 h3 h4),hk⟩
 · exact h.elim
end Lp
namespace Lp
open Go Go.Proofs Go.RowKit
open Nat (reduceAdd reduceLeDiff reduceMul reduceSub)
open Int (reduceLE reduceToNat)
theorem Gj (s:List UInt8):ai Tryz.prog 132 [.str s,.str [48]] [] (.str (Lib.trimLeftB s 48)) []:=by
 refine ai.qw ⟨_,Tryz.Si.f161,by kernel_rfl,by kernel_rfl⟩ fun w vs ok hg hr=>?_
 obtain ⟨u,v,rfl,h,h'⟩:=Qg hr
 cases jS h
 cases jS h'
 refine (Any.strings_TrimLeft_one Tryz.Si ⟨⟨s⟩⟩ 48 (by decide) w).mono ?_
 rintro e w' ⟨h1,rfl⟩
 exact ⟨_,h1,fun w ok=>.str _,.refl _ _⟩
theorem D6 (s:List UInt8) (c:UInt8) (hc:c.toNat<128) (hs:s.length≤4611686018427387904):ai Tryz.prog 133 [.str s,.str [c]] [] (.str (Lib.trimRightB s c)) []:=by
 refine ai.qw ⟨_,Tryz.Sj.f162,by kernel_rfl,by kernel_rfl⟩ fun w vs ok hg hr=>?_
 obtain ⟨u,v,rfl,h,h'⟩:=Qg hr
 cases jS h
 cases jS h'
 refine (Any.strings_TrimRight_one Tryz.Sj ⟨⟨s⟩⟩ c hc w (by rw [Lib.size_eq];simp;omega)).mono ?_
 rintro e w' ⟨h1,rfl⟩
 exact ⟨_,h1,fun w ok=>.str _,.refl _ _⟩
def j5:dN:=fun args objs K=>match args with
 | [.str s,a1]=>a1=(.str [48])∧K (.str (Lib.trimLeftB s 48)) objs 0
 | _=>False
theorem Lf:aD Tryz.prog 132 (j5):=by
 intro args objs K h
 unfold j5 at h
 split at h
 · rename_i s a1
   obtain ⟨rfl,hk⟩:=h
   exact ⟨_,_,_,.pure _ rfl (Gj s),hk⟩
 · exact h.elim
def jc (c:UInt8):dN:=fun args objs K=>match args with
 | [.str s,a1]=>a1=(.str [c])∧(c.toNat<128)∧(s.length≤4611686018427387904)∧K (.str (Lib.trimRightB s c)) objs 0
 | _=>False
theorem tQ (c:UInt8):aD Tryz.prog 133 (jc c):=by
 intro args objs K h
 unfold jc at h
 split at h
 · rename_i s a1
   obtain ⟨rfl,h1,h2,hk⟩:=h
   exact ⟨_,_,_,.pure _ rfl (D6 s c h1 h2),hk⟩
 · exact h.elim
theorem Xt:Builder.Extra Tryz.prog Tryz.Dn where
 sizeBuilder:=by kernel_rfl
 liesBuilder:=by kernel_rfl
 t5:=Tryz.wR.t5
 a5:=Tryz.wR.a5
 z5:=Tryz.wR.z5
 v5:=Tryz.wR.v5
 infoByte:=by kernel_rfl
 cellsByte:=by kernel_rfl
 sizeByte:=by kernel_rfl
 neB5:=by decide
theorem Dv (c:UInt8):∀ n,Lib.repeatL [c] n=List.replicate n c
 | 0=>rfl
 | n+1=>by rw [Lib.repeatL,Dv c n,List.replicate_succ];rfl
theorem Om (c:UInt8) (n:Int) (h:0≤n∧n≤1000000000):ai Tryz.prog 126 [.str [c],.int .i64 n] [] (.str (List.replicate n.toNat c)) []:=by
 obtain ⟨n,rfl⟩:∃ k:Nat,n=k:=⟨n.toNat,by omega⟩
 refine ai.qw ⟨_,Tryz.wR.f105,by kernel_rfl,by kernel_rfl⟩ fun w vs ok hg hr=>?_
 obtain ⟨u,v,rfl,h,h'⟩:=Qg hr
 cases jS h
 cases WS h'
 refine (Any.strings_Repeat Tryz.wR Xt ⟨⟨[c]⟩⟩ n w (by omega) (by rw [Lib.size_eq];simp;omega)).mono ?_
 rintro e w' ⟨h1,h2⟩
 refine ⟨_,h1,fun w ok=>?_,h2⟩
 have e1:(⟨⟨[c]⟩⟩:ByteArray).data.toList=[c]:=rfl
 rw [e1,Dv]
 exact .str _
def mq (c:UInt8):dN:=fun args objs K=>match args with
 | [a0,.int .i64 n]=>a0=(.str [c])∧(0≤n∧n≤1000000000)∧K (.str (List.replicate n.toNat c)) objs 0
 | _=>False
theorem zJ (c:UInt8):aD Tryz.prog 126 (mq c):=by
 intro args objs K h
 unfold mq at h
 split at h
 · rename_i a0 n
   obtain ⟨rfl,h1,hk⟩:=h
   exact ⟨_,_,_,.pure _ rfl (Om c n h1),hk⟩
 · exact h.elim
theorem aS.Gl {P:Program}{D:TypeId→aB}{T:Know}{f:FuncId}{n t u:Nat}{ty:TypeId}{C:LC}{args:List PV}{r:PV}(h:aS P f n [.cell t ty,.tmp u] C) (d:Nat) (hD:∀ t,iR P t (D t)) (hT:Jf P none yO T) (hm:P.follows .mixedOrders=true) (ht:t<n) (hu:u<n)
  (hw:∀ Q:Exit→St→Prop,(∀ l ob,Q .ret ⟨dU n l,ob⟩=eY (D ty) (lW l t) ob fun p _ _=>r=.bT [gG d 0 ob p,gG d 0 ob (lW l u)])→kZ P D T C Q (dw args n)):ai P f args [] r []:=by
 refine h.pure d hD hT hm (by simp) (hw _ fun l ob=>?_)
 simp only [mE,jo,rq.2.1 n l t ht,rq.2.1 n l u hu,List.map_cons,List.map_nil,fK]
def dO (neg:Bool) (f:List UInt8) (e:Int):PV:=.bT [av (dJ neg f e).1,.int .i64 (dJ neg f e).2]
theorem mY (s:List UInt8) (c:UInt8):(Lib.trimRightB s c).length≤s.length:=by
 unfold Lib.trimRightB
 rw [List.length_reverse]
 exact Nat.le_trans (List.dropWhile_suffix _).length_le (by rw [List.length_reverse];exact Nat.le_refl _)
theorem QW (s:List UInt8) (c:UInt8):(Lib.trimLeftB s c).length≤s.length:=(List.dropWhile_suffix _).length_le
theorem UY (neg:Bool) (f:List UInt8) (e:Int) (hf:f.length≤1000000) (he:-1000000000≤e∧e≤1000000000):ai Tryz.prog 123 [.bool neg,.str f,.int .i64 e] [] (dO neg f e) []:=by
 refine PO.Gl (T:=aU Tryz.prog [(131,dz),(132,j5),(133,jc 48),(134,iK)]) 0 hD (aj (af uG (af Lf (af (tQ 48) (af yB ah))))) aY (by decide) (by decide) fun Q hQ=>?_
 have Y0:(48:UInt8).toNat<128:=by decide
 have hf':f.length≤4611686018427387904:=by omega
 have hlL:=QW f 48
 generalize hs:Lib.trimLeftB f 48=s at *
 have hlR:=mY s 48
 generalize ht:Lib.trimRightB s 48=t at *
 cases h1:fI f
 · have hr:dO neg f e=.bT [av ⟨0,0,[],[],false,0⟩,.int .i64 4]:=by simp [dO,dJ,h1,aW]
   (conv=>arg 4;cbv);simp(maxSteps:=400000)only[↓aQ,aR,BEq.rfl,reduceIte,reduceCtorEq,Nat.reduceLT,reduceAdd,reduceSub,reduceMul,Nat.reduceBEq,reduceLeDiff,reduceToNat,reduceLE,hQ,↓dz,h1,hr,bI,bJ]
   repeat' (first | omega | exact Y0 | refine ⟨?_,?_⟩)
 by_cases h2:s=[]
 · have hr:dO neg f e=.bT [av ⟨3,0,[],[],false,0⟩,.int .i64 0]:=by simp [dO,dJ,h1,hs,h2]
   have h2':(s=[])=True:=eq_true h2
   (conv=>arg 4;cbv);simp(maxSteps:=400000)only[↓aQ,aR,BEq.rfl,reduceIte,reduceCtorEq,Nat.reduceLT,reduceAdd,reduceSub,reduceMul,Nat.reduceBEq,reduceLeDiff,reduceToNat,reduceLE,hQ,↓dz,↓j5,h1,hs,h2',hr,bI,bJ]
   repeat' (first | omega | exact Y0 | refine ⟨?_,?_⟩)
 have h2':(s=[])=False:=eq_false h2
 rcases tf (e < -100000000) with h3 | h3
 · have hr:dO neg f e=.bT [av ⟨0,0,[],[],false,0⟩,.int .i64 2]:=by simp [dO,dJ,h1,hs,h2,of_eq_true h3,aW]
   (conv=>arg 4;cbv);simp(maxSteps:=400000)only[↓aQ,aR,BEq.rfl,reduceIte,reduceCtorEq,Nat.reduceLT,reduceAdd,reduceSub,reduceMul,Nat.reduceBEq,reduceLeDiff,reduceToNat,reduceLE,hQ,↓dz,↓j5,h1,hs,h2',h3,hr,bI,bJ]
   repeat' (first | omega | exact Y0 | refine ⟨?_,?_⟩)
 rcases tf (100000000<e) with h4 | h4
 · have hr:dO neg f e=.bT [av ⟨0,0,[],[],false,0⟩,.int .i64 2]:=by simp [dO,dJ,h1,hs,h2,of_eq_true h4,aW]
   (conv=>arg 4;cbv);simp(maxSteps:=400000)only[↓aQ,aR,BEq.rfl,reduceIte,reduceCtorEq,Nat.reduceLT,reduceAdd,reduceSub,reduceMul,Nat.reduceBEq,reduceLeDiff,reduceToNat,reduceLE,hQ,↓dz,↓j5,h1,hs,h2',h3,h4,hr,bI,bJ]
   repeat' (first | omega | exact Y0 | refine ⟨?_,?_⟩)
 have h3':=of_eq_false h3
 have h4':=of_eq_false h4
 rcases tf (100<(t.length:Int)) with h5 | h5
 · have hr:dO neg f e=.bT [av ⟨0,0,[],[],false,0⟩,.int .i64 2]:=by
    have:100<t.length:=by have:=of_eq_true h5;omega
    simp [dO,dJ,h1,hs,h2,h3',h4',ht,this,aW]
   (conv=>arg 4;cbv);simp(maxSteps:=400000)only[↓aQ,aR,BEq.rfl,reduceIte,reduceCtorEq,Nat.reduceLT,reduceAdd,reduceSub,reduceMul,Nat.reduceBEq,reduceLeDiff,reduceToNat,reduceLE,hQ,↓dz,↓j5,↓jc,h1,hs,ht,h2',h3,h4,h5,hr,bI,bJ]
   repeat' (first | omega | exact Y0 | refine ⟨?_,?_⟩)
 have h5':¬ 100<t.length:=by have:=of_eq_false h5;omega
 have hpb:L_ t.length (e+(s.length-t.length))=Bf t.length (e+(s.length-t.length)):=rfl
 cases h6:Bf t.length (e+(s.length-t.length))
 · have hr:dO neg f e=.bT [av ⟨0,0,[],[],false,0⟩,.int .i64 2]:=by
    simp [dO,dJ,h1,hs,h2,h3',h4',ht,hpb,h6,aW]
   (conv=>arg 4;cbv);simp(maxSteps:=400000)only[↓aQ,aR,BEq.rfl,reduceIte,reduceCtorEq,Nat.reduceLT,reduceAdd,reduceSub,reduceMul,Nat.reduceBEq,reduceLeDiff,reduceToNat,reduceLE,hQ,↓dz,↓j5,↓jc,↓iK,h1,hs,ht,h2',h3,h4,h5,h6,hr,bI,bJ]
   repeat' (first | omega | exact Y0 | refine ⟨?_,?_⟩)
 · have hr:dO neg f e=.bT [av ⟨3,0,[],t,neg,e+(s.length-t.length)⟩,.int .i64 0]:=by
    simp [dO,dJ,h1,hs,h2,h3',h4',ht,hpb,h6,h5']
   (conv=>arg 4;cbv);simp(maxSteps:=400000)only[↓aQ,aR,BEq.rfl,reduceIte,reduceCtorEq,Nat.reduceLT,reduceAdd,reduceSub,reduceMul,Nat.reduceBEq,reduceLeDiff,reduceToNat,reduceLE,hQ,↓dz,↓j5,↓jc,↓iK,h1,hs,ht,h2',h3,h4,h5,h6,hr,bI,bJ]
   repeat' (first | omega | exact Y0 | refine ⟨?_,?_⟩)
theorem UZ (neg:Bool) (f:List UInt8) (e:Int):(dJ neg f e).1.s.length≤100:=by
 unfold dJ
 split
 · simp [aW]
 split
 · simp
 split
 · simp [aW]
 split
 · simp [aW]
 · rename_i h
   have:=fun h'=>h (.inl h')
   simpa using this
def tT:dN:=fun args objs K=>match args with
 | [.bool neg,.str f,.int .i64 e]=>(f.length≤1000000)∧(-1000000000≤e∧e≤1000000000)∧K (dO neg f e) objs 0
 | _=>False
theorem QX:aD Tryz.prog 123 (tT):=by
 intro args objs K h
 unfold tT at h
 split at h
 · rename_i neg f e
   obtain ⟨h1,h2,hk⟩:=h
   exact ⟨_,_,_,.pure _ rfl (UY neg f e h1 h2),hk⟩
 · exact h.elim
end Lp
namespace Lp
open Go Go.Proofs Go.RowKit
theorem Ju (c:UInt8) (h:c.toNat<128):(Utf8.encode (c.toNat:Int)).data.toList=[c]:=by
 have hv:Utf8.valid (c.toNat:Int)=true:=by
  simp only [Utf8.valid,Bool.or_eq_true,Bool.and_eq_true,decide_eq_true_eq]
  exact .inl ⟨by omega,by omega⟩
 simp only [Utf8.encode,hv,if_true,Int.toNat_natCast,if_pos h]
 show [UInt8.ofNat c.toNat]=[c]
 simp
theorem zL {s:List UInt8}{c:UInt8}(h:0<(Lib.trimRightB s c).length):∃ d,s[(Lib.trimRightB s c).length-1]?=some d∧d≠c:=by
 have acs:(s.reverse.dropWhile (·==c))≠[]:=by
  intro hh;simp [Lib.trimRightB,hh] at h
 obtain ⟨d,r,hr⟩:=List.exists_cons_of_ne_nil acs
 have hd:d≠c:=by
  have:=List.head_dropWhile_not (·==c) (l:=s.reverse) acs
  simp only [hr,List.head_cons] at this
  simpa using this
 have hpre:Lib.trimRightB s c <+:s:=by
  unfold Lib.trimRightB
  have:=List.dropWhile_suffix (l:=s.reverse) (·==c)
  rwa [← List.reverse_prefix,List.reverse_reverse] at this
 have ht:Lib.trimRightB s c=r.reverse++[d]:=by simp [Lib.trimRightB,hr]
 rw [ht] at hpre ⊢
 obtain ⟨q,hq⟩:=hpre
 refine ⟨d,?_,hd⟩
 rw [← hq,List.getElem?_append_left (by simp)]
 simp
theorem wrap32 {c:UInt8}:IntKind.i32.wrap (c.toNat:Int)=(c.toNat:Int):=by
 have h:=c.toNat_lt
 have hm:(c.toNat:Int) % 4294967296=c.toNat:=by omega
 unfold IntKind.wrap
 simp [IntKind.bits,IntKind.signed,hm]
 omega
theorem Y1 (s:List UInt8) (hf:fI s=true) (hs:s.length≤1000000):ai Tryz.prog 124 [.str s] [] (.str (Ma s)) []:=by
 refine Ub.bE (T:=aU Tryz.prog [(133,(jc 57)),(126,(mq 48))]) 0 hD (aj (af (tQ 57) (af (zJ 48) ah))) aY (by decide) fun Q hQ=>?_
 have hle:=mY s 57
 have c57:(57:UInt8).toNat<128:=by decide
 by_cases h0:(Lib.trimRightB s 57).length=0
 · have h0':(((Lib.trimRightB s 57).length:Int)=0)=True:=eq_true (by omega)
   have hr:Ma s=49::List.replicate s.length 48:=by simp [Ma,h0]
   (conv=>arg 4;cbv);simp(maxSteps:=400000)only[↓aQ,aR,BEq.rfl,reduceIte,reduceCtorEq,Nat.reduceLT,Nat.reduceAdd,Nat.reduceSub,Nat.reduceMul,Nat.reduceBEq,Nat.reduceLeDiff,Int.reduceToNat,Int.reduceLE,hQ,↓jc,↓mq,h0',hr]
   have e:((s.length:Int)-((Lib.trimRightB s 57).length:Int)).toNat=s.length:=by omega
   rw [e]
   exact ⟨c57,by omega,by omega,by omega,by omega,rfl⟩
 · have h0':(((Lib.trimRightB s 57).length:Int)=0)=False:=eq_false (by omega)
   obtain ⟨d,hd,hne⟩:=zL (s:=s) (c:=57) (by omega)
   have hdf:=pV hf hd
   have hr:Ma s=s.take ((Lib.trimRightB s 57).length-1)++(d+1)::List.replicate (s.length-(Lib.trimRightB s 57).length) 48:=by simp [Ma,h0,List.getD_eq_getElem?_getD,hd]
   generalize hn:(Lib.trimRightB s 57).length=n at *
   have e1:((n:Int)-1).toNat=n-1:=by omega
   have e2:((s.length:Int)-(n:Int)).toNat=s.length-n:=by omega
   have adK:d.toNat≤56:=by
    have:d.toNat≠57:=fun h=>hne (UInt8.toNat_inj.1 h)
    omega
   have e3:((d+1).toNat:Int)=(d.toNat:Int)+1:=by
    rw [UInt8.toNat_add]
    have:(1:UInt8).toNat=1:=rfl
    omega
   have e4:IntKind.i32.wrap ((d.toNat:Int)+1)=((d+1).toNat:Int):=by rw [← e3];exact wrap32
   have e5:=Ju (d+1) (by omega)
   (conv=>arg 4;cbv);simp(maxSteps:=400000)only[↓aQ,aR,BEq.rfl,reduceIte,reduceCtorEq,Nat.reduceLT,Nat.reduceAdd,Nat.reduceSub,Nat.reduceMul,Nat.reduceBEq,Nat.reduceLeDiff,Int.reduceToNat,Int.reduceLE,hQ,↓jc,↓mq,hn,h0',hr,e1,e2,hd,jP,mH,e4,e5,List.drop_zero,List.length_take,List.append_assoc,List.cons_append,List.nil_append]
   repeat' (first | omega | exact c57 | exact trivial | refine ⟨?_,?_⟩)
def Sz:dN:=fun args objs K=>match args with
 | [.str s]=>(fI s=true)∧(s.length≤1000000)∧K (.str (Ma s)) objs 0
 | _=>False
theorem Xu:aD Tryz.prog 124 (Sz):=by
 intro args objs K h
 unfold Sz at h
 split at h
 · rename_i s
   obtain ⟨h1,h2,hk⟩:=h
   exact ⟨_,_,_,.pure _ rfl (Y1 s h1 h2),hk⟩
 · exact h.elim
theorem U0 (s:List UInt8) (hf:fI s=true) (h0:0<(Lib.trimRightB s 48).length) (hs:s.length≤1000000):ai Tryz.prog 125 [.str s] [] (.str (nI s)) []:=by
 refine M7.bE (T:=aU Tryz.prog [(133,(jc 48)),(126,(mq 57))]) 0 hD (aj (af (tQ 48) (af (zJ 57) ah))) aY (by decide) fun Q hQ=>?_
 have hle:=mY s 48
 have Y0:(48:UInt8).toNat<128:=by decide
 obtain ⟨d,hd,hne⟩:=zL (s:=s) (c:=48) h0
 have hdf:=pV hf hd
 have hr:nI s=s.take ((Lib.trimRightB s 48).length-1)++(d-1)::List.replicate (s.length-(Lib.trimRightB s 48).length) 57:=by simp [nI,List.getD_eq_getElem?_getD,hd]
 generalize hn:(Lib.trimRightB s 48).length=n at *
 have e1:((n:Int)-1).toNat=n-1:=by omega
 have e2:((s.length:Int)-(n:Int)).toNat=s.length-n:=by omega
 have adL:49≤d.toNat:=by
  have:d.toNat≠48:=fun h=>hne (UInt8.toNat_inj.1 h)
  omega
 have e3:((d-1).toNat:Int)=(d.toNat:Int)-1:=by
  rw [UInt8.toNat_sub_of_le _ _ (by rw [UInt8.le_iff_toNat_le];have:(1:UInt8).toNat=1:=rfl;omega)]
  have:(1:UInt8).toNat=1:=rfl
  omega
 have e4:IntKind.i32.wrap ((d.toNat:Int)-1)=((d-1).toNat:Int):=by rw [← e3];exact wrap32
 have e5:=Ju (d-1) (by omega)
 (conv=>arg 4;cbv);simp(maxSteps:=400000)only[↓aQ,aR,BEq.rfl,reduceIte,reduceCtorEq,Nat.reduceLT,Nat.reduceAdd,Nat.reduceSub,Nat.reduceMul,Nat.reduceBEq,Nat.reduceLeDiff,Int.reduceToNat,Int.reduceLE,hQ,↓jc,↓mq,hn,hr,e1,e2,hd,jP,mH,e4,e5,List.drop_zero,List.length_take,List.append_assoc,List.cons_append,List.nil_append]
 repeat' (first | omega | exact Y0 | exact trivial | refine ⟨?_,?_⟩)
def Bz:dN:=fun args objs K=>match args with
 | [.str s]=>(fI s=true)∧(0<(Lib.trimRightB s 48).length)∧(s.length≤1000000)∧K (.str (nI s)) objs 0
 | _=>False
theorem QY:aD Tryz.prog 125 (Bz):=by
 intro args objs K h
 unfold Bz at h
 split at h
 · rename_i s
   obtain ⟨h1,h2,h3,hk⟩:=h
   exact ⟨_,_,_,.pure _ rfl (U0 s h1 h2 h3),hk⟩
 · exact h.elim
end Lp
namespace Lp
open Go Go.Proofs Go.RowKit
open List (length_append length_replicate)
open Nat (reduceAdd reduceLeDiff reduceMul reduceSub)
structure Lg (n:Nd):Prop where
 len:n.s.length≤100
 fI:fI n.s=true
 lo:-1000≤n.e
 hi:n.e≤1000
 last:n.s≠[]→0<(Lib.trimRightB n.s 48).length
def dI (n:Nd) (above:Bool):PV:=.bT [av (cO n above).1,.bool (cO n above).2]
theorem Dw (a b:List UInt8) (ha:fI a=true) (hb:fI b=true):fI (a++b)=true:=by
 unfold fI at *
 simp only [List.all_append,ha,hb,Bool.and_self]
theorem Oo (n:Nat):fI (List.replicate n 48)=true:=by
 unfold fI
 rw [List.all_eq_true]
 intro x hx
 rw [(List.mem_replicate.1 hx).2]
 decide
theorem Jv (s:List UInt8) (n:Nat):Lib.trimRightB (s++List.replicate n 48) 48=Lib.trimRightB s 48:=by
 have:∀ (k:Nat) (l:List UInt8),List.dropWhile (·==(48:UInt8)) (List.replicate k 48++l)=List.dropWhile (·==(48:UInt8)) l:=by
  intro k l
  induction k with
  | zero=>rfl
  | succ k ih=>rw [List.replicate_succ,List.cons_append,List.dropWhile_cons];simp [ih]
 unfold Lib.trimRightB
 rw [List.reverse_append,List.reverse_replicate,this]
theorem Y2 (s:List UInt8):(Ma s).length≤s.length+1:=by
 unfold Ma
 have:=mY s 57
 split
 · simp
 · simp only [length_append,List.length_take,List.length_cons,length_replicate];omega
theorem Jw (s:List UInt8):(nI s).length≤s.length+1:=by
 unfold nI
 have:=mY s 48
 simp only [length_append,List.length_take,List.length_cons,length_replicate];omega
theorem Y3 (above:Bool):dO (!above) [49] (-1000)=.bT [av ⟨3,0,[],[49],!above,-1000⟩,.int .i64 0]:=by
 cases above <;> rfl
theorem Oq (n:Nd) (above:Bool) (hn:Lg n):ai Tryz.prog 114 [av n,.bool above] [] (dI n above) []:=by
 refine Hf.Gl (T:=aU Tryz.prog [(123,tT),(126,mq 48),(124,Sz),(125,Bz)]) 0 hD (aj (af QX (af (zJ 48) (af Xu (af QY ah))))) aY (by decide) (by decide) fun Q hQ=>?_
 by_cases hs:n.s=[]
 · have hr:dI n above=.bT [av ⟨3,0,[],[49],!above,-1000⟩,.bool true]:=by simp [dI,cO,hs]
   have b0:=Y3 above
   (conv=>arg 4;cbv);simp(maxSteps:=400000)only[↓aQ,aR,BEq.rfl,reduceIte,reduceCtorEq,Nat.reduceLT,reduceAdd,reduceSub,reduceMul,Nat.reduceBEq,reduceLeDiff,Int.reduceToNat,Int.reduceLE,hQ,↓tT,b0,hs,hr,bI,bJ,bf]
 have hs':(n.s=[])=False:=eq_false hs
 have l1:=hn.len
 have l2:=hn.lo
 have l3:=hn.hi
 have hE:∀ T:Int,jH n above=max (T-100) (-1000)→(if (-1000:Int) > T-100 then (-1000:Int) else T-100)=jH n above:=fun T h=>by rw [h];split <;> omega
 have l4:(0:Int)<n.s.length:=by
  cases h:n.s with
  | nil=>exact absurd h hs
  | cons x r=>simp
 have hEb:-1000≤jH n above∧jH n above≤1000∧jH n above≤n.e:=by
  unfold jH
  split <;> omega
 generalize RX:jH n above=E at *
 have D7:lF n E=n.s++List.replicate (n.e-E).toNat 48:=rfl
 have hpl:(lF n E).length≤3000:=by rw [D7,length_append,length_replicate];omega
 have hpf:fI (lF n E)=true:=Dw _ _ hn.fI (Oo _)
 have hpt:0<(Lib.trimRightB (lF n E) 48).length:=by rw [D7,Jv];exact hn.last hs
 have hul:=Y2 (lF n E)
 have hdl:=Jw (lF n E)
 have hpl':n.s.length+(n.e-E).toNat≤3000:=by have:=hpl;rw [D7,length_append,length_replicate] at this;exact this
 have hpp:(lF n E).length=n.s.length+(n.e-E).toNat:=by rw [D7,length_append,length_replicate]
 by_cases hg:n.neg=above
 · have hg':(n.neg=above)=True:=eq_true hg
   have hr:dI n above=.bT [av (dJ n.neg (nI (lF n E)) E).1,.bool (decide ((dJ n.neg (nI (lF n E)) E).2=0))]:=by
    simp only [dI,cO,if_neg hs,if_pos hg,RX]
   by_cases h49:n.s=[49]
   · have Lh:(n.s=[49])=True:=eq_true h49
     have hEe:=hE (n.s.length+n.e-1) (by rw [← RX];unfold jH;rw [if_pos ⟨hg,h49⟩])
     (conv=>arg 4;cbv);simp(maxSteps:=400000)only[↓aQ,aR,BEq.rfl,reduceIte,reduceCtorEq,Nat.reduceLT,reduceAdd,reduceSub,reduceMul,Nat.reduceBEq,reduceLeDiff,Int.reduceToNat,Int.reduceLE,hQ,↓tT,↓mq,↓Bz,hs',hg',Lh,bI,bJ,bf,hEe,← D7,hr,dO]
     repeat' (first | omega | exact hpf | exact hpt | exact (by decide) | refine ⟨?_,?_⟩)
   · have Lh:(n.s=[49])=False:=eq_false h49
     have hEe:=hE (n.s.length+n.e) (by rw [← RX];unfold jH;rw [if_neg fun h=>h49 h.2])
     (conv=>arg 4;cbv);simp(maxSteps:=400000)only[↓aQ,aR,BEq.rfl,reduceIte,reduceCtorEq,Nat.reduceLT,reduceAdd,reduceSub,reduceMul,Nat.reduceBEq,reduceLeDiff,Int.reduceToNat,Int.reduceLE,hQ,↓tT,↓mq,↓Bz,hs',hg',Lh,bI,bJ,bf,hEe,← D7,hr,dO]
     repeat' (first | omega | exact hpf | exact hpt | exact (by decide) | refine ⟨?_,?_⟩)
 · have hg':(n.neg=above)=False:=eq_false hg
   have hr:dI n above=.bT [av (dJ n.neg (Ma (lF n E)) E).1,.bool (decide ((dJ n.neg (Ma (lF n E)) E).2=0))]:=by
    simp only [dI,cO,if_neg hs,if_neg hg,RX]
   have hEe:=hE (n.s.length+n.e) (by rw [← RX];unfold jH;rw [if_neg fun h=>hg h.1])
   (conv=>arg 4;cbv);simp(maxSteps:=400000)only[↓aQ,aR,BEq.rfl,reduceIte,reduceCtorEq,Nat.reduceLT,reduceAdd,reduceSub,reduceMul,Nat.reduceBEq,reduceLeDiff,Int.reduceToNat,Int.reduceLE,hQ,↓tT,↓mq,↓Sz,hs',hg',bI,bJ,bf,hEe,← D7,hr,dO]
   repeat' (first | omega | exact hpf | exact hpt | exact (by decide) | refine ⟨?_,?_⟩)
def mZ:dN:=fun args objs K=>match args with
 | [a0,.bool above]=>gu av a0 (HK.mk:HK fun n=>(Lg n)∧K (dI n above) objs 0)
 | _=>False
theorem Li:aD Tryz.prog 114 (mZ):=by
 intro args objs K h
 unfold mZ at h
 split at h
 · rename_i a0 above
   obtain ⟨n,rfl,h1,hk⟩:=h
   exact ⟨_,_,_,.pure _ rfl (Oq n above h1),hk⟩
 · exact h.elim
end Lp
namespace Lp
open Go Go.Proofs Go.RowKit
open List (length_cons map_nil)
open Nat (reduceAdd reduceLeDiff reduceMul reduceSub)
open Int (reduceLE reduceToNat)
theorem QZ (s:List UInt8):Lib.trimLeftB (48::s) 48=Lib.trimLeftB s 48:=rfl
theorem Q0 {c:UInt8}{s:List UInt8}(h:c≠48):Lib.trimLeftB (c::s) 48=c::s:=by
 unfold Lib.trimLeftB
 have:(c==(48:UInt8))=false:=by simpa using h
 simp [this]
theorem Q5 (s:List UInt8):Lib.trimRightB (s++[48]) 48=Lib.trimRightB s 48:=by
 unfold Lib.trimRightB
 rw [List.reverse_append];rfl
theorem Q6 {c:UInt8}{s:List UInt8}(h:c≠48):Lib.trimRightB (s++[c]) 48=s++[c]:=by
 unfold Lib.trimRightB
 have:(c==(48:UInt8))=false:=by simpa using h
 rw [List.reverse_append]
 simp [this]
theorem Q7 {c:UInt8}{s:List UInt8}(h:c≠48):Lib.trimRightB (c::s) 48≠[]:=by
 unfold Lib.trimRightB
 have hc:(c==(48:UInt8))=false:=by simpa using h
 rw [List.reverse_cons,List.dropWhile_append]
 split
 · simp [hc]
 · simp
def uH (t:List UInt8) (e:Int):Bool:=decide (100<t.length) || decide (e < -1000) || decide (1000<(t.length:Int)+e)
theorem Q8 {neg:Bool}{f s t:List UInt8}{e e':Int}(h1:fI f=true) (h2:Lib.trimLeftB f 48=s) (h3:s≠[]) (h4:¬ (e < -100000000∨100000000<e)) (h5:Lib.trimRightB s 48=t) (h6:e'+t.length=e+s.length) :
  dJ neg f e=if uH t e' then (aW,2) else (⟨3,0,[],t,neg,e'⟩,0):=by
 have h4a:¬ e < -100000000:=fun h=>h4 (.inl h)
 have h4b:¬ 100000000<e:=fun h=>h4 (.inr h)
 have he:e+((s.length:Int)-(t.length:Int))=e':=by omega
 unfold dJ
 rw [if_neg (by simp [h1]),h2,if_neg h3,if_neg h4,h5,he]
 by_cases hb:uH t e'=true
 · rw [if_pos hb,if_pos]
   simp only [uH,Bool.or_eq_true,decide_eq_true_eq] at hb
   rcases hb with (hb | hb) | hb
   · exact .inl hb
   · right;simp [L_];omega
   · right;simp [L_];omega
 · rw [if_neg hb,if_neg]
   simp only [uH,Bool.or_eq_true,decide_eq_true_eq,not_or] at hb
   rintro (h | h)
   · exact hb.1.1 h
   · simp only [L_,Bool.and_eq_false_iff,decide_eq_false_iff_not] at h;omega
theorem Lj (neg:Bool) (f:List UInt8) (e:Int) (hf:f.length≤1000000) (he:-1000000000≤e∧e≤1000000000):ai Tryz.prog 112 [.bool neg,.str f,.int .i64 e] [] (dO neg f e) []:=by
 refine Bt.Gl (T:=aU Tryz.prog [(108,oM)]) 0 hD (aj (af FR ah)) aY (by decide) (by decide) fun Q hQ=>?_
 cases h1:fI f
 · have hr:dO neg f e=.bT [av ⟨0,0,[],[],false,0⟩,.int .i64 4]:=by simp [dO,dJ,h1,aW]
   (conv=>arg 4;cbv);simp(maxSteps:=400000)only[↓aQ,aR,BEq.rfl,reduceIte,reduceCtorEq,Nat.reduceLT,reduceAdd,reduceSub,reduceMul,Nat.reduceBEq,reduceLeDiff,reduceToNat,reduceLE,hQ,↓oM,h1,hr,bI,bJ]
   repeat' (first | omega | exact rfl | refine ⟨?_,?_⟩)
 (conv=>arg 4;cbv);simp(maxSteps:=400000)only[↓aQ,aR,BEq.rfl,reduceIte,reduceCtorEq,Nat.reduceLT,reduceAdd,reduceSub,reduceMul,Nat.reduceBEq,reduceLeDiff,reduceToNat,reduceLE,hQ,↓oM,h1,bI,bJ]
 refine ⟨by omega,?_⟩
 refine aH (fun m S=>∃ s:List UInt8,s.length=m∧m≤f.length∧Lib.trimLeftB f 48=Lib.trimLeftB s 48∧S=⟨dU 64 [(0,.bool neg),(1,.str s),(2,.int .i64 e),(6,.bM 0 1 0 0)],[⟨27,6,[av ⟨0,0,[],[],false,0⟩],true,1⟩]⟩) f.length ⟨f,rfl,Nat.le_refl _,rfl,?_⟩ ?_
 · simp only [dh,keepR,reduceAdd,oC,Nat.reduceBEq,map_nil]
 rintro m S ⟨s,hsl,hmf,htl,rfl⟩
 cases s with
 | nil=>
  have z0:((0:Int)<(([]:List UInt8).length:Int))=False:=eq_false (by simp)
  have hr:dO neg f e=.bT [av ⟨3,0,[],[],false,0⟩,.int .i64 0]:=by
   have:Lib.trimLeftB f 48=[]:=by rw [htl];rfl
   simp [dO,dJ,h1,this]
  have he0:(([]:List UInt8)=[])=True:=eq_true rfl
  simp(maxSteps:=400000)only[↓aQ,aR,BEq.rfl,reduceIte,reduceCtorEq,Nat.reduceLT,reduceAdd,reduceSub,reduceMul,Nat.reduceBEq,reduceLeDiff,reduceToNat,reduceLE,hQ,z0,he0,hr,bI,bJ,List.length_nil]
  repeat' (first | omega | exact rfl | refine ⟨?_,?_⟩)
 | cons c s=>
  simp only [length_cons] at hsl
  have zl:((0:Int)<((c::s).length:Int))=True:=eq_true (by simp only [length_cons];omega)
  have hg0:(c::s)[0]?=some c:=rfl
  have hdr:(c::s).drop 1=s:=rfl
  have b48:(c.toNat:Int)=48↔c=48:=lH (k:=48) (by omega)
  by_cases hc:(c.toNat:Int)=48
  · have hcc:=b48.1 hc
    subst hcc
    rw [QZ] at htl
    have hwl:((48:UInt8)::s).length=m:=by simp only [length_cons];omega
    generalize hw:(48:UInt8)::s=w at *
    simp(maxSteps:=400000)only[↓aQ,aR,BEq.rfl,reduceIte,reduceCtorEq,Nat.reduceLT,reduceAdd,reduceSub,reduceMul,Nat.reduceBEq,reduceLeDiff,reduceToNat,reduceLE,hQ,zl,hg0,hc,List.take_length,hdr]
    repeat' (first | omega | exact ⟨m-1,by omega,s,by omega,by omega,htl,rfl⟩ | exact rfl | refine ⟨?_,?_⟩)
  have hc':=eq_false hc
  have hcn:c≠48:=fun h=>hc (b48.2 h)
  rw [Q0 hcn] at htl
  have hne:(c::s=[])=False:=eq_false (by simp)
  have hth:=Q7 (s:=s) hcn
  have hwl:(c::s).length=m:=by simp only [length_cons];omega
  generalize hw:c::s=w at *
  have hwne:w≠[]:=fun h=>hne.mp h
  rcases tf (e < -100000000) with h3 | h3
  · have hr:dO neg f e=.bT [av ⟨0,0,[],[],false,0⟩,.int .i64 2]:=by simp [dO,dJ,h1,htl,hwne,of_eq_true h3,aW]
    simp(maxSteps:=400000)only[↓aQ,aR,BEq.rfl,reduceIte,reduceCtorEq,Nat.reduceLT,reduceAdd,reduceSub,reduceMul,Nat.reduceBEq,reduceLeDiff,reduceToNat,reduceLE,hQ,zl,hg0,hc',hne,h3,hr,bI,bJ]
    repeat' (first | omega | exact rfl | refine ⟨?_,?_⟩)
  rcases tf (100000000<e) with h4 | h4
  · have hr:dO neg f e=.bT [av ⟨0,0,[],[],false,0⟩,.int .i64 2]:=by simp [dO,dJ,h1,htl,hwne,of_eq_true h4,aW]
    simp(maxSteps:=400000)only[↓aQ,aR,BEq.rfl,reduceIte,reduceCtorEq,Nat.reduceLT,reduceAdd,reduceSub,reduceMul,Nat.reduceBEq,reduceLeDiff,reduceToNat,reduceLE,hQ,zl,hg0,hc',hne,h3,h4,hr,bI,bJ]
    repeat' (first | omega | exact rfl | refine ⟨?_,?_⟩)
  have h3':=of_eq_false h3
  have h4':=of_eq_false h4
  have hrg:¬ (e < -100000000∨100000000<e):=by omega
  simp(maxSteps:=400000)only[↓aQ,aR,BEq.rfl,reduceIte,reduceCtorEq,Nat.reduceLT,reduceAdd,reduceSub,reduceMul,Nat.reduceBEq,reduceLeDiff,reduceToNat,reduceLE,hQ,zl,hg0,hc',hne,h3,h4]
  refine aH (fun m' S=>∃ (u:List UInt8) (e':Int),u.length=m'∧m'≤m∧Lib.trimRightB w 48=Lib.trimRightB u 48∧e'+u.length=e+w.length∧S=⟨dU 64 [(0,.bool neg),(1,.str u),(2,.int .i64 e'),(6,.bM 0 1 0 0)],[⟨27,6,[av ⟨0,0,[],[],false,0⟩],true,1⟩]⟩) m ⟨w,e,hwl,Nat.le_refl _,rfl,rfl,?_⟩ ?_
  · simp only [dh,keepR,reduceAdd,oC,Nat.reduceBEq,map_nil]
  rintro m' S ⟨u,e',hul,hum,htr,hee,rfl⟩
  have hun:u≠[]:=fun h=>by rw [htr,h] at hth;exact hth rfl
  have hup:0<u.length:=List.length_pos_iff.2 hun
  have hlt:u.length-1<u.length:=by omega
  have hgl:=List.getElem?_eq_getElem hlt
  have hsplit:u=u.take (u.length-1)++[u[u.length-1]]:=by
   conv=>lhs;rw [← List.take_append_drop (u.length-1) u]
   rw [List.drop_eq_getElem_cons hlt,List.drop_eq_nil_of_le (by omega)]
  generalize u[u.length-1]=d at hgl hsplit
  have tl:((u.length:Int)-1).toNat=u.length-1:=by omega
  have zl1:(0≤(u.length:Int)-1)=True:=eq_true (by omega)
  have ll1:((u.length:Int)-1<(u.length:Int))=True:=eq_true (by omega)
  have i1:(-9223372036854775808≤(u.length:Int)-1∧(u.length:Int)-1≤9223372036854775807)=True:=eq_true ⟨by omega,by omega⟩
  have d48:(d.toNat:Int)=48↔d=48:=lH (k:=48) (by omega)
  by_cases hd:(d.toNat:Int)=48
  · have hdd:=d48.1 hd
    have adp:Lib.trimRightB w 48=Lib.trimRightB (u.take (u.length-1)) 48:=by
     have hs2:u=u.take (u.length-1)++[48]:=by rw [← hdd];exact hsplit
     rw [htr]
     conv=>lhs;rw [hs2]
     exact Q5 _
    have adM:(u.take (u.length-1)).length=u.length-1:=by rw [List.length_take];omega
    simp(maxSteps:=400000)only[↓aQ,aR,BEq.rfl,reduceIte,reduceCtorEq,Nat.reduceLT,reduceAdd,reduceSub,reduceMul,Nat.reduceBEq,reduceLeDiff,reduceToNat,reduceLE,hQ,tl,zl1,ll1,i1,hgl,hd]
    repeat' (first | omega | exact ⟨m'-1,by omega,u.take (u.length-1),e'+1,by omega,by omega,adp,by omega,rfl⟩ | exact rfl | refine ⟨?_,?_⟩)
  have hd':=eq_false hd
  have htu:Lib.trimRightB w 48=u:=by rw [htr,hsplit];exact Q6 fun h=>hd (d48.2 h)
  have hmk:=Q8 (neg:=neg) h1 htl hwne hrg htu hee
  rcases tf (100<(u.length:Int)) with g1 | g1
  · have hr:dO neg f e=.bT [av ⟨0,0,[],[],false,0⟩,.int .i64 2]:=by
     have:uH u e'=true:=by have:=of_eq_true g1;simp [uH];omega
     rw [dO,hmk,this];rfl
    simp(maxSteps:=400000)only[↓aQ,aR,BEq.rfl,reduceIte,reduceCtorEq,Nat.reduceLT,reduceAdd,reduceSub,reduceMul,Nat.reduceBEq,reduceLeDiff,reduceToNat,reduceLE,hQ,tl,zl1,ll1,i1,hgl,hd',g1,hr,bI,bJ]
    repeat' (first | omega | exact rfl | refine ⟨?_,?_⟩)
  rcases tf (e' < -1000) with g2 | g2
  · have hr:dO neg f e=.bT [av ⟨0,0,[],[],false,0⟩,.int .i64 2]:=by
     have:uH u e'=true:=by have:=of_eq_true g2;simp [uH];omega
     rw [dO,hmk,this];rfl
    simp(maxSteps:=400000)only[↓aQ,aR,BEq.rfl,reduceIte,reduceCtorEq,Nat.reduceLT,reduceAdd,reduceSub,reduceMul,Nat.reduceBEq,reduceLeDiff,reduceToNat,reduceLE,hQ,tl,zl1,ll1,i1,hgl,hd',g1,g2,hr,bI,bJ]
    repeat' (first | omega | exact rfl | refine ⟨?_,?_⟩)
  rcases tf (1000<(u.length:Int)+e') with g3 | g3
  · have hr:dO neg f e=.bT [av ⟨0,0,[],[],false,0⟩,.int .i64 2]:=by
     have:uH u e'=true:=by have:=of_eq_true g3;simp [uH];omega
     rw [dO,hmk,this];rfl
    simp(maxSteps:=400000)only[↓aQ,aR,BEq.rfl,reduceIte,reduceCtorEq,Nat.reduceLT,reduceAdd,reduceSub,reduceMul,Nat.reduceBEq,reduceLeDiff,reduceToNat,reduceLE,hQ,tl,zl1,ll1,i1,hgl,hd',g1,g2,g3,hr,bI,bJ]
    repeat' (first | omega | exact rfl | refine ⟨?_,?_⟩)
  · have hr:dO neg f e=.bT [av ⟨3,0,[],u,neg,e'⟩,.int .i64 0]:=by
     have:uH u e'=false:=by
      have g1':=of_eq_false g1
      have g2':=of_eq_false g2
      have g3':=of_eq_false g3
      simp only [uH,Bool.or_eq_false_iff,decide_eq_false_iff_not];omega
     rw [dO,hmk,this];rfl
    simp(maxSteps:=400000)only[↓aQ,aR,BEq.rfl,reduceIte,reduceCtorEq,Nat.reduceLT,reduceAdd,reduceSub,reduceMul,Nat.reduceBEq,reduceLeDiff,reduceToNat,reduceLE,hQ,tl,zl1,ll1,i1,hgl,hd',g1,g2,g3,hr,bI,bJ]
    repeat' (first | omega | exact rfl | refine ⟨?_,?_⟩)
def mr:dN:=fun args objs K=>match args with
 | [.bool neg,.str f,.int .i64 e]=>(f.length≤1000000)∧(-1000000000≤e∧e≤1000000000)∧K (dO neg f e) objs 0
 | _=>False
theorem Ot:aD Tryz.prog 112 (mr):=by
 intro args objs K h
 unfold mr at h
 split at h
 · rename_i neg f e
   obtain ⟨h1,h2,hk⟩:=h
   exact ⟨_,_,_,.pure _ rfl (Lj neg f e h1 h2),hk⟩
 · exact h.elim
theorem Ou (n:Nd) (e:Int) (h1:-2000≤e∧e≤n.e∧n.e≤2000) (h2:n.s.length≤100000):ai Tryz.prog 109 [av n,.int .i64 e] [] (.str (lF n e)) []:=by
 refine xO.bE (T:=aU Tryz.prog []) 0 hD (aj ah) aY (by decide) fun Q hQ=>?_
 (conv=>arg 4;cbv);simp(maxSteps:=400000)only[↓aQ,aR,BEq.rfl,reduceIte,reduceCtorEq,Nat.reduceLT,reduceAdd,reduceSub,reduceMul,Nat.reduceBEq,reduceLeDiff,reduceToNat,reduceLE,hQ]
 refine aH (fun m S=>∃ k:Nat,(k:Int)+m=n.e-e∧S=⟨dU 19 [(2,.bM 0 1 0 0),(5,.str (n.s++List.replicate k 48)),(6,.int .i64 (e+k))],[⟨27,6,[av n],true,1⟩]⟩) (n.e-e).toNat ⟨0,by omega,?_⟩ ?_
 · simp only [dh,keepR,reduceAdd,oC,Nat.reduceBEq,map_nil]
   simp
 rintro m S ⟨k,hkm,rfl⟩
 have hl:(n.s++List.replicate k 48).length=n.s.length+k:=by rw [List.length_append,List.length_replicate]
 rcases Nat.eq_zero_or_pos m with h0 | h0
 · have hlt:(e+(k:Int)<n.e)=False:=eq_false (by omega)
   have hr:lF n e=n.s++List.replicate k 48:=by unfold lF;congr 2;omega
   simp(maxSteps:=400000)only[↓aQ,aR,BEq.rfl,reduceIte,reduceCtorEq,Nat.reduceLT,reduceAdd,reduceSub,reduceMul,Nat.reduceBEq,reduceLeDiff,reduceToNat,reduceLE,hQ,hlt,hr]
 · have hlt:(e+(k:Int)<n.e)=True:=eq_true (by omega)
   have hs:n.s++List.replicate k 48++[48]=n.s++List.replicate (k+1) 48:=by rw [List.append_assoc,List.replicate_succ']
   simp(maxSteps:=400000)only[↓aQ,aR,BEq.rfl,reduceIte,reduceCtorEq,Nat.reduceLT,reduceAdd,reduceSub,reduceMul,Nat.reduceBEq,reduceLeDiff,reduceToNat,reduceLE,hQ,hlt]
   repeat' (first | omega | exact ⟨m-1,by omega,k+1,by omega,by rw [hs,Int.natCast_add,Int.natCast_one,Int.add_assoc]⟩ | exact rfl | refine ⟨?_,?_⟩)
def j6:dN:=fun args objs K=>match args with
 | [a0,.int .i64 e]=>gu av a0 (HK.mk:HK fun n=>(-2000≤e∧e≤n.e∧n.e≤2000)∧(n.s.length≤100000)∧K (.str (lF n e)) objs 0)
 | _=>False
theorem Ll:aD Tryz.prog 109 (j6):=by
 intro args objs K h
 unfold j6 at h
 split at h
 · rename_i a0 e
   obtain ⟨n,rfl,h1,h2,hk⟩:=h
   exact ⟨_,_,_,.pure _ rfl (Ou n e h1 h2),hk⟩
 · exact h.elim
end Lp
namespace Lp
open Go Go.Proofs Go.Sort Go.RowKit
open List (length_cons length_take)
def iOf:Value→Int
 | .int _ q=>q
 | _=>0
def kE (b:UInt8):Value:=.int .u8 (b.toNat:Int)
set_option maxRecDepth 1000000 in
set_option maxHeartbeats 4000000 in
theorem U1 (s:List UInt8) (hlen:s.length≤1000000) (w:World) (cap:Nat) (W1:World) (g n:Nat) (d0:Array UInt8) (hn:d0.size=n+1) (h0:∃ j,j≤n∧d0[j]!≠57) (hn1:n≤1000000)
 (Jy:(convert 9 146 (.string (⟨#[48]⟩++⟨⟨s⟩⟩))).run Tryz.prog w=.ok (.slice (some ⟨g,0,none⟩) (n+1) cap) W1)
 (hH:Holds kE W1 g 0 d0)
 (hback:∀ dk:Array UInt8,dk.size=n+1→(convert 146 9 (.slice (some ⟨g,0,none⟩) (n+1) cap)).run Tryz.prog (putRow kE W1 g 0 dk)=.ok (.string ⟨dk⟩) (putRow kE W1 g 0 dk)) :
 Calls Tryz.prog 110 #[.string ⟨⟨s⟩⟩] w fun e w'=>∃ (k:Nat) (dk:Array UInt8),k≤n∧dk.size=n+1∧(∀ j,j≤k→dk[j]! =d0[j]!)∧(∀ j,k<j→j≤n→dk[j]! =48∧d0[j]! =57)∧d0[k]!≠57∧e=.returned (.string ⟨dk.setIfInBounds k (dk[k]!+1)⟩)∧w'=putRow kE W1 g 0 (dk.setIfInBounds k (dk[k]!+1)):=by
 go_enter Tryz.func110,Tryz.ntmps110
 go_wp2
 rw [← putRow_self kE W1 g 0 d0 hH]
 go_loopw [4] (fun i wr=>∃ (k:Nat) (dk:Array UInt8),k≤n∧i=.int .i64 k∧dk.size=n+1∧(∀ j,j≤k→dk[j]! =d0[j]!)∧(∀ j,k<j→j≤n→dk[j]! =48∧d0[j]! =57)∧wr=putRow kE W1 g 0 dk) (fun i _=>(iOf i).toNat)
 case atStart=>exact ⟨n,d0,Nat.le_refl _,by simp,hn,fun _ _=>rfl,fun j h1 h2=>by omega,rfl⟩
 case round=>
  obtain ⟨k,dk,hk,rfl,hdk,hr1,hr2,rfl⟩:=hrel
  have hc:=cell?_putRow kE W1 g 0 d0 dk hH (by omega) k (by omega)
  have hf:(putRow kE W1 g 0 dk).frozen? ⟨g,0+k,none⟩=false:=by rw [frozen?_putRow];exact (hH k (by omega)).2
  rw [Nat.zero_add] at hc hf
  have hs1:=putRow_set kE W1 g 0 dk k 48 (by omega)
  have hs2:=putRow_set kE W1 g 0 dk k (dk[k]!+1) (by omega)
  rw [Nat.zero_add] at hs1 hs2
  have hb2:=hback (dk.setIfInBounds k (dk[k]!+1)) (by simpa using hdk)
  obtain ⟨x,hx⟩:∃ x,dk[k]! =x:=⟨_,rfl⟩
  rw [hx] at hc hb2 hs2
  have eS:(x.toNat:Int)=57↔x=57:=⟨fun h=>UInt8.toNat_inj.1 (by have:(57:UInt8).toNat=57:=rfl;omega),fun h=>by rw [h];rfl⟩
  have hx1:((x+1).toNat:Int)=((x.toNat:Int)+1) % 256:=by
   have h1:(1:UInt8).toNat=1:=rfl
   have h2:=x.toNat_lt
   rw [UInt8.toNat_add];omega
  unfold kE at hc hs1 hs2 hb2
  rw [hx1] at hs2
  have hP:(((48:UInt8).toNat:Nat):Int)=48:=rfl
  rw [hP] at hs1
  generalize hwq:putRow (fun b:UInt8=>Value.int .u8 (b.toNat:Int)) W1 g 0 dk=wq at *
  have aa9:putRow kE W1 g 0 dk=wq:=hwq
  rw [aa9] at hf ⊢
  generalize hX:(x.toNat:Int)=X at *
  by_cases hS:X=57
  · subst hS
    have hxS:=eS.1 rfl
    have hk1:1≤k:=by
     rcases Nat.eq_zero_or_pos k with h | h
     · subst h
       obtain ⟨j,hj1,hj2⟩:=h0
       rcases Nat.eq_zero_or_pos j with h' | h'
       · subst h'
         exact absurd ((hr1 0 (Nat.le_refl _)).symm.trans (hx.trans hxS)) hj2
       · exact absurd (hr2 j h' hj1).2 hj2
     · exact h
    go_wp2
    refine ⟨⟨k-1,dk.setIfInBounds k 48,by omega,by congr 1;omega,by simpa using hdk,fun j hj=>?_,fun j h1 h2=>?_,rfl⟩,by simp [iOf];omega⟩
    · rw [getElem!_set_other dk k j 48 (by omega)];exact hr1 j (by omega)
    · by_cases hjk:j=k
      · subst hjk
        rw [getElem!_set_same dk j 48 (by omega),← hr1 j (Nat.le_refl _),hx]
        exact ⟨rfl,hxS⟩
      · rw [getElem!_set_other dk k j 48 hjk];exact hr2 j (by omega) h2
  · have hSb:(X==57)=false:=by simpa using hS
    go_wp2
    go_ret
    refine ⟨k,dk,hk,hdk,hr1,hr2,?_,by rw [hx];rfl,?_⟩
    · rw [← hr1 k (Nat.le_refl _),hx];intro h;exact hS (eS.2 h)
    · rw [hx];rfl
set_option maxRecDepth 1000000 in
set_option maxHeartbeats 4000000 in
theorem U2 (s:List UInt8) (hlen:s.length≤1000000) (w:World) (cap:Nat) (W1:World) (g n:Nat) (d0:Array UInt8) (hn:d0.size=n+1) (h0:∃ j,j≤n∧d0[j]!≠48) (hn1:n≤1000000)
 (Jy:(convert 9 146 (.string ⟨⟨s⟩⟩)).run Tryz.prog w=.ok (.slice (some ⟨g,0,none⟩) (n+1) cap) W1)
 (hH:Holds kE W1 g 0 d0)
 (hback:∀ dk:Array UInt8,dk.size=n+1→(convert 146 9 (.slice (some ⟨g,0,none⟩) (n+1) cap)).run Tryz.prog (putRow kE W1 g 0 dk)=.ok (.string ⟨dk⟩) (putRow kE W1 g 0 dk)) :
 Calls Tryz.prog 111 #[.string ⟨⟨s⟩⟩] w fun e w'=>∃ (k:Nat) (dk:Array UInt8),k≤n∧dk.size=n+1∧(∀ j,j≤k→dk[j]! =d0[j]!)∧(∀ j,k<j→j≤n→dk[j]! =57∧d0[j]! =48)∧d0[k]!≠48∧e=.returned (.string ⟨dk.setIfInBounds k (dk[k]!-1)⟩)∧w'=putRow kE W1 g 0 (dk.setIfInBounds k (dk[k]!-1)):=by
 go_enter Tryz.func111,Tryz.ntmps111
 go_wp2
 rw [← putRow_self kE W1 g 0 d0 hH]
 go_loopw [4] (fun i wr=>∃ (k:Nat) (dk:Array UInt8),k≤n∧i=.int .i64 k∧dk.size=n+1∧(∀ j,j≤k→dk[j]! =d0[j]!)∧(∀ j,k<j→j≤n→dk[j]! =57∧d0[j]! =48)∧wr=putRow kE W1 g 0 dk) (fun i _=>(iOf i).toNat)
 case atStart=>exact ⟨n,d0,Nat.le_refl _,by simp,hn,fun _ _=>rfl,fun j h1 h2=>by omega,rfl⟩
 case round=>
  obtain ⟨k,dk,hk,rfl,hdk,hr1,hr2,rfl⟩:=hrel
  have hc:=cell?_putRow kE W1 g 0 d0 dk hH (by omega) k (by omega)
  have hf:(putRow kE W1 g 0 dk).frozen? ⟨g,0+k,none⟩=false:=by rw [frozen?_putRow];exact (hH k (by omega)).2
  rw [Nat.zero_add] at hc hf
  have hs1:=putRow_set kE W1 g 0 dk k 57 (by omega)
  have hs2:=putRow_set kE W1 g 0 dk k (dk[k]!-1) (by omega)
  rw [Nat.zero_add] at hs1 hs2
  have hb2:=hback (dk.setIfInBounds k (dk[k]!-1)) (by simpa using hdk)
  obtain ⟨x,hx⟩:∃ x,dk[k]! =x:=⟨_,rfl⟩
  rw [hx] at hc hb2 hs2
  have eS:(x.toNat:Int)=48↔x=48:=⟨fun h=>UInt8.toNat_inj.1 (by have:(48:UInt8).toNat=48:=rfl;omega),fun h=>by rw [h];rfl⟩
  have hx1:((x-1).toNat:Int)=((x.toNat:Int)-1) % 256:=by
   have h1:(1:UInt8).toNat=1:=rfl
   have h2:=x.toNat_lt
   rw [UInt8.toNat_sub];omega
  unfold kE at hc hs1 hs2 hb2
  rw [hx1] at hs2
  have hP:(((57:UInt8).toNat:Nat):Int)=57:=rfl
  rw [hP] at hs1
  generalize hwq:putRow (fun b:UInt8=>Value.int .u8 (b.toNat:Int)) W1 g 0 dk=wq at *
  have aa9:putRow kE W1 g 0 dk=wq:=hwq
  rw [aa9] at hf ⊢
  generalize hX:(x.toNat:Int)=X at *
  by_cases hS:X=48
  · subst hS
    have hxS:=eS.1 rfl
    have hk1:1≤k:=by
     rcases Nat.eq_zero_or_pos k with h | h
     · subst h
       obtain ⟨j,hj1,hj2⟩:=h0
       rcases Nat.eq_zero_or_pos j with h' | h'
       · subst h'
         exact absurd ((hr1 0 (Nat.le_refl _)).symm.trans (hx.trans hxS)) hj2
       · exact absurd (hr2 j h' hj1).2 hj2
     · exact h
    go_wp2
    refine ⟨⟨k-1,dk.setIfInBounds k 57,by omega,by congr 1;omega,by simpa using hdk,fun j hj=>?_,fun j h1 h2=>?_,rfl⟩,by simp [iOf];omega⟩
    · rw [getElem!_set_other dk k j 57 (by omega)];exact hr1 j (by omega)
    · by_cases hjk:j=k
      · subst hjk
        rw [getElem!_set_same dk j 57 (by omega),← hr1 j (Nat.le_refl _),hx]
        exact ⟨rfl,hxS⟩
      · rw [getElem!_set_other dk k j 57 hjk];exact hr2 j (by omega) h2
  · have hSb:(X==48)=false:=by simpa using hS
    go_wp2
    go_ret
    refine ⟨k,dk,hk,hdk,hr1,hr2,?_,by rw [hx];rfl,?_⟩
    · rw [← hr1 k (Nat.le_refl _),hx];intro h;exact hS (eS.2 h)
    · rw [hx];rfl
theorem below_putRow {B:Nat}{a w:World}(h:Below B a w){g:Nat}(hg:B≤g) (d:Array UInt8):Below B a (putRow kE w g 0 d):=
 h.trans ⟨rfl,rfl,rfl,by simp,fun k hk=>by simp only [putRow,mapBlock,Array.getElem?_modify];rw [if_neg (by omega)]⟩
theorem Ov (w:World) (l:List UInt8):∃ (cap:Nat) (W1:World),(convert 9 146 (.string ⟨⟨l⟩⟩)).run Tryz.prog w=.ok (.slice (some ⟨w.heap.size,0,none⟩) l.length cap) W1∧Holds kE W1 w.heap.size 0 ⟨l⟩∧Below w.heap.size w W1∧
  ∀ dk:Array UInt8,dk.size=l.length→(convert 146 9 (.slice (some ⟨w.heap.size,0,none⟩) l.length cap)).run Tryz.prog (putRow kE W1 w.heap.size 0 dk)=.ok (.string ⟨dk⟩) (putRow kE W1 w.heap.size 0 dk):=by
 have us:Tryz.prog.underlying 9=some .string:=by kernel_rfl
 have ub:Tryz.prog.underlying 146=some (.slice 5):=by kernel_rfl
 have u8:Tryz.prog.underlying 5=some (.int .u8):=by kernel_rfl
 have Jy:=run_bytes_of_string (P:=Tryz.prog) w 9 146 5 ⟨⟨l⟩⟩ us ub u8
 have hsz:(ByteArray.mk ⟨l⟩).size=l.length:=by simp [ByteArray.size]
 rw [hsz] at Jy
 generalize hcap:grownCap w l.length 0 5=cap at Jy
 generalize hC:bytesRow ⟨⟨l⟩⟩ cap=C at Jy
 have hCl:l.length≤C.size:=by rw [← hC];simp [bytesRow]
 have hH:Holds kE (w.drew.alloc (.cells C 5 (C.size,C.size+1))) w.heap.size 0 ⟨l⟩:=by
  intro j hj
  have hj':j<l.length:=hj
  have h1:=World.cell?_alloc_mark w.drew C 5 (C.size,C.size+1) (0+j)
  have h2:=World.frozen?_alloc_mark w.drew C 5 C.size (C.size+1) (0+j)
  have hh:w.drew.heap.size=w.heap.size:=rfl
  rw [hh] at h1 h2
  refine ⟨h1.trans ?_,h2.trans ?_⟩
  · rw [Nat.zero_add,← hC,bytesRow_at ⟨⟨l⟩⟩ cap j hj]
    simp [kE,hj']
  · have:decide (C.size≤0+j)=false:=decide_eq_false (by omega)
    rw [this];rfl
 refine ⟨cap,_,Jy,hH,(Below.refl _ _).drew.alloc (Nat.le_refl _) _,fun dk hdk=>?_⟩
 have acu:=holds_putRow kE _ w.heap.size 0 ⟨l⟩ dk hH hdk
 have:=run_convert_bytes_back (P:=Tryz.prog) (putRow kE (w.drew.alloc (.cells C 5 (C.size,C.size+1))) w.heap.size 0 dk) 146 9 5 ⟨w.heap.size,0,none⟩ cap dk.toList ub u8 us (fun j hj=>by
  have hj':j<dk.size:=by simpa using hj
  have:=(acu j hj').1
  rw [add_lit,this,kE]
  simp [hj'])
 have hl:dk.toList.length=l.length:=by simpa using hdk
 rw [hl] at this
 simpa using this
theorem Ow {b:List UInt8}{c:UInt8}{k:Nat}(hk:k<b.length) (h1:b[k]?≠some c) (h2:∀ j,k<j→j<b.length→b[j]?=some c):(Lib.trimRightB b c).length=k+1:=by
 have hb:b=b.take k++[b[k]]++List.replicate (b.length-(k+1)) c:=by
  apply List.ext_getElem?
  intro j
  rcases Nat.lt_trichotomy j k with h | h | h
  · rw [List.append_assoc,List.getElem?_append_left (by rw [length_take];omega),List.getElem?_take,if_pos h]
  · subst h
    rw [List.getElem?_append_left (by simp;omega),List.getElem?_append_right (by rw [length_take];omega),List.getElem?_eq_getElem hk]
    simp [Nat.min_eq_left (Nat.le_of_lt hk)] <;> omega
  · have hl:(b.take k++[b[k]]).length=k+1:=by simp;omega
    rw [List.getElem?_append_right (by omega),hl,List.getElem?_replicate]
    rcases Nat.lt_or_ge j b.length with g | g
    · rw [if_pos (by omega),h2 j h g]
    · rw [if_neg (by omega),List.getElem?_eq_none g]
 have hne:b[k]≠c:=fun e=>h1 (by rw [List.getElem?_eq_getElem hk,e])
 have D7:∀ (n:Nat) (l:List UInt8),List.dropWhile (·==c) (List.replicate n c++l)=List.dropWhile (·==c) l:=by
  intro n l
  induction n with
  | zero=>rfl
  | succ n ih=>rw [List.replicate_succ,List.cons_append,List.dropWhile_cons];simp [ih]
 unfold Lib.trimRightB
 rw [hb,List.reverse_append,List.reverse_replicate,D7,List.reverse_append]
 have:(b[k]==c)=false:=by simpa using hne
 simp only [List.reverse_cons,List.reverse_nil,List.nil_append,List.cons_append,List.dropWhile_cons,this,Bool.false_eq_true,if_false,List.length_append,List.length_reverse,length_cons,List.length_nil,length_take]
 omega
def Xv (b:List UInt8):List UInt8:=b.take ((Lib.trimRightB b 57).length-1)++(b.getD ((Lib.trimRightB b 57).length-1) 0+1)::List.replicate (b.length-(Lib.trimRightB b 57).length) 48
def qA (s:List UInt8):List UInt8:=Xv (48::s)
theorem Ox {b:List UInt8}{dk:Array UInt8}{k:Nat}{x p:UInt8}(hdk:dk.size=b.length) (hk:k<b.length) (h1:∀ j,j≤k→dk[j]! =(⟨b⟩:Array UInt8)[j]!) (h2:∀ j,k<j→j<b.length→dk[j]! =p) :
  dk.setIfInBounds k x=(b.take k++x::List.replicate (b.length-(k+1)) p).toArray:=by
 apply Array.ext_getElem?
 intro j
 rw [Array.getElem?_setIfInBounds,hdk]
 have hg:∀ (i:Nat) (_:i<dk.size),dk[i]?=some dk[i]!:=fun i hi=>by rw [getElem!_pos dk i hi];exact Array.getElem?_eq_getElem hi
 have hR:(b.take k++x::List.replicate (b.length-(k+1)) p).toArray[j]?=(b.take k++x::List.replicate (b.length-(k+1)) p)[j]?:=List.getElem?_toArray
 rw [hR]
 rcases Nat.lt_trichotomy j k with h | h | h
 · rw [if_neg (by omega),hg j (by omega),h1 j (by omega),List.getElem?_append_left (by rw [length_take];omega),List.getElem?_take,if_pos h,getElem!_pos (⟨b⟩:Array UInt8) j (by simp;omega),List.getElem?_eq_getElem (by omega)]
   rfl
 · subst h
   rw [if_pos rfl,if_pos hk,List.getElem?_append_right (by rw [length_take];omega)]
   simp [Nat.min_eq_left (Nat.le_of_lt hk)]
 · rw [if_neg (by omega)]
   have hl:(b.take k).length=k:=by rw [length_take];omega
   rw [List.getElem?_append_right (by omega),hl,show j-k=(j-k-1)+1 by omega,List.getElem?_cons_succ,List.getElem?_replicate]
   rcases Nat.lt_or_ge j b.length with g | g
   · rw [if_pos (by omega),hg j (by omega),h2 j h g]
   · rw [if_neg (by omega),Array.getElem?_eq_none (by omega)]
theorem tV {b:List UInt8}{j:Nat}(h:j<b.length):b[j]?=some ((⟨b⟩:Array UInt8)[j]!):=by
 rw [getElem!_pos (⟨b⟩:Array UInt8) j (by simpa using h),List.getElem?_eq_getElem h];rfl
theorem U3 (s:List UInt8) (hs:s.length≤1000000):ai Tryz.prog 110 [.str s] [] (.str (qA s)) []:=by
 refine ai.qw ⟨_,Tryz.func110,by kernel_rfl,by kernel_rfl⟩ fun w vs ok hg hr=>?_
 obtain ⟨u,rfl,h⟩:=aa2 hr
 cases jS h
 obtain ⟨cap,W1,h1,h2,h3,h4⟩:=Ov w (48::s)
 have hB:(⟨#[48]⟩++⟨⟨s⟩⟩:ByteArray)=⟨⟨48::s⟩⟩:=by
  apply ByteArray.ext
  rw [ByteArray.data_append]
  apply Array.ext'
  simp
 refine (U1 s hs w cap W1 w.heap.size s.length ⟨48::s⟩ (by simp) ⟨0,Nat.zero_le _,by rw [show (⟨48::s⟩:Array UInt8)[0]! =48 from rfl];decide⟩ hs (by rw [hB];exact h1) h2 h4).mono ?_
 rintro e w' ⟨k,dk,k1,k2,k3,k4,k5,rfl,rfl⟩
 have kl:k<(48::s).length:=by simp only [length_cons];omega
 have ht:=Ow (b:=48::s) (c:=57) kl (by rw [tV kl];exact fun e=>k5 (Option.some.inj e)) (fun j h1 h2=>by
  rw [tV h2,(k4 j h1 (by simp only [length_cons] at h2;omega)).2])
 have hrow:=Ox (b:=48::s) (x:=dk[k]!+1) (p:=48) (by rw [k2];rfl) kl k3 (fun j h1 h2=>(k4 j h1 (by simp only [length_cons] at h2;omega)).1)
 have hres:(48::s).take k++(dk[k]!+1)::List.replicate ((48::s).length-(k+1)) 48=qA s:=by
  rw [qA,Xv,ht,Nat.add_sub_cancel,List.getD_eq_getElem?_getD,tV kl,k3 k (Nat.le_refl _)];rfl
 rw [hres] at hrow
 exact ⟨_,rfl,fun w ok=>by rw [hrow];exact .str _,below_putRow h3 (Nat.le_refl _) _⟩
theorem U4 (s:List UInt8) (h0:0<(Lib.trimRightB s 48).length) (hs:s.length≤1000000):ai Tryz.prog 111 [.str s] [] (.str (nI s)) []:=by
 refine ai.qw ⟨_,Tryz.func111,by kernel_rfl,by kernel_rfl⟩ fun w vs ok hg hr=>?_
 obtain ⟨u,rfl,h⟩:=aa2 hr
 cases jS h
 obtain ⟨cap,W1,h1,h2,h3,h4⟩:=Ov w s
 obtain ⟨d,hd,hne⟩:=zL h0
 have hdl:=(List.getElem?_eq_some_iff.1 hd).1
 obtain ⟨n,hn⟩:∃ n,s.length=n+1:=⟨s.length-1,by omega⟩
 rw [hn] at h1 h4
 refine (U2 s hs w cap W1 w.heap.size n ⟨s⟩ hn ⟨(Lib.trimRightB s 48).length-1,by omega,by
  rw [tV hdl] at hd;rw [Option.some.inj hd];exact hne⟩ (by omega) h1 h2 h4).mono ?_
 rintro e w' ⟨k,dk,k1,k2,k3,k4,k5,rfl,rfl⟩
 have kl:k<s.length:=by omega
 have ht:=Ow (b:=s) (c:=48) kl (by rw [tV kl];exact fun e=>k5 (Option.some.inj e)) (fun j h1 h2=>by
  rw [tV h2,(k4 j h1 (by omega)).2])
 have hrow:=Ox (b:=s) (x:=dk[k]!-1) (p:=57) (by rw [k2,hn]) kl k3 (fun j h1 h2=>(k4 j h1 (by omega)).1)
 have hres:s.take k++(dk[k]!-1)::List.replicate (s.length-(k+1)) 57=nI s:=by
  rw [nI,ht,Nat.add_sub_cancel,List.getD_eq_getElem?_getD,tV kl,k3 k (Nat.le_refl _)];rfl
 rw [hres] at hrow
 exact ⟨_,rfl,fun w ok=>by rw [hrow];exact .str _,below_putRow h3 (Nat.le_refl _) _⟩
def BA:dN:=fun args objs K=>match args with
 | [.str s]=>(s.length≤1000000)∧K (.str (qA s)) objs 0
 | _=>False
theorem Q9:aD Tryz.prog 110 (BA):=by
 intro args objs K h
 unfold BA at h
 split at h
 · rename_i s
   obtain ⟨h1,hk⟩:=h
   exact ⟨_,_,_,.pure _ rfl (U3 s h1),hk⟩
 · exact h.elim
def tX:dN:=fun args objs K=>match args with
 | [.str s]=>(0<(Lib.trimRightB s 48).length)∧(s.length≤1000000)∧K (.str (nI s)) objs 0
 | _=>False
theorem Q_:aD Tryz.prog 111 (tX):=by
 intro args objs K h
 unfold tX at h
 split at h
 · rename_i s
   obtain ⟨h1,h2,hk⟩:=h
   exact ⟨_,_,_,.pure _ rfl (U4 s h1 h2),hk⟩
 · exact h.elim
theorem U5 (s:List UInt8):(qA s).length≤s.length+2:=by
 unfold qA Xv
 have:=mY (48::s) 57
 simp only [List.length_append,length_take,length_cons,List.length_replicate] at *;omega
theorem Ra (neg:Bool) (x:List UInt8) (e:Int):dJ neg (48::x) e=dJ neg x e:=by
 have h1:fI (48::x)=fI x:=by simp [fI]
 have h2:Lib.trimLeftB (48::x) 48=Lib.trimLeftB x 48:=rfl
 unfold dJ
 rw [h1,h2]
theorem Rb (neg:Bool) (s:List UInt8) (e:Int):dJ neg (qA s) e=dJ neg (Ma s) e:=by
 have hrev:Lib.trimRightB (48::s) 57=if Lib.trimRightB s 57=[] then [48] else 48::Lib.trimRightB s 57:=by
  unfold Lib.trimRightB
  rw [List.reverse_cons]
  cases h:s.reverse.dropWhile (·==(57:UInt8)) with
  | nil=>
   have:(s.reverse++[48]).dropWhile (·==(57:UInt8))=[48]:=by
    rw [List.dropWhile_append,h];rfl
   rw [this];rfl
  | cons a t=>
   have:(s.reverse++[48]).dropWhile (·==(57:UInt8))=(a::t)++[48]:=by
    rw [List.dropWhile_append,h];rfl
   rw [this]
   simp
 by_cases h:Lib.trimRightB s 57=[]
 · rw [if_pos h] at hrev
   have:qA s=Ma s:=by
    rw [qA,Xv,hrev,Ma,h];rfl
   rw [this]
 · rw [if_neg h] at hrev
   have hl:0<(Lib.trimRightB s 57).length:=List.length_pos_iff.2 h
   have:qA s=48::Ma s:=by
    rw [qA,Xv,hrev,Ma,if_neg (by omega)]
    obtain ⟨n,hn⟩:∃ n,(Lib.trimRightB s 57).length=n+1:=⟨_,(Nat.succ_pred_eq_of_pos hl).symm⟩
    simp [hn]
   rw [this,Ra]
end Lp
namespace Lp
open Go Go.Proofs Go.RowKit
open List (append_assoc append_nil cons_append length_append length_cons length_map length_nil map_nil nil_append take_length)
open Nat (le_succ lt_irrefl lt_or_ge reduceAdd reduceLeDiff reduceMul reduceSub)
open Int (reduceLE reduceToNat)
theorem adq:uE bg:=by intro d n o x;cases d <;> rfl
theorem acv (l:List f_):fJ 1 0 [⟨56,1,[bg l],true,1⟩] (.bM 0 1 0 0)=.addr (bg l):=by
 simp only [fJ,Nat.not_lt_zero,if_false,jl,List.getElem?_cons_zero,Nat.zero_le,decide_true,Bool.and_self,BEq.rfl,if_true]
 rw [adq]
theorem D8 (l:List f_):ai Tryz.prog 102 [bg l] [] (.fn 113 [] [.addr (bg l)]) []:=by
 refine Au.bE (T:=aU Tryz.prog []) 0 hD (aj ah) aY (by decide) fun Q hQ=>?_
 (conv=>arg 4;cbv);simp(maxSteps:=400000)only[↓aQ,aR,BEq.rfl,reduceIte,reduceCtorEq,Nat.reduceLT,reduceAdd,reduceSub,reduceMul,Nat.reduceBEq,reduceLeDiff,reduceToNat,reduceLE,hQ]
 refine aT _ (Weak.freeze 1 0 (Nat.zero_le _) _) ?_
 simp(maxSteps:=400000)only[↓aQ,aR,BEq.rfl,reduceIte,reduceCtorEq,Nat.reduceLT,reduceAdd,reduceSub,reduceMul,Nat.reduceBEq,reduceLeDiff,reduceToNat,reduceLE,hQ,acv]
theorem aa_ (O:List Obj) :
  (∀ x X,(O++x::X)[O.length]?=some x)∧(∀ x y X,(O++x::y::X)[O.length+1]?=some y)∧(∀ x y z X,(O++x::y::z::X)[O.length+2]?=some z)∧
  (∀ x z X,(O++x::X).set O.length z=O++z::X)∧(∀ x y z X,(O++x::y::X).set (O.length+1) z=O++x::z::X)∧(∀ x y z u X,(O++x::y::z::X).set (O.length+2) u=O++x::y::u::X):=by
 refine ⟨fun x X=>?_,fun x y X=>?_,fun x y z X=>?_,fun x z X=>?_,fun x y z X=>?_,fun x y z u X=>?_⟩
 · rw [List.getElem?_append_right (Nat.le_refl _)];simp
 · rw [List.getElem?_append_right (by omega)];simp
 · rw [List.getElem?_append_right (by omega)];simp
 · rw [List.set_append_right _ _ (Nat.le_refl _)];simp
 · rw [List.set_append_right _ _ (by omega)];simp
 · rw [List.set_append_right _ _ (by omega)];simp
theorem SA:PV.uL (.agg ⟨[.int .i64 0,.int .i64 0,.int .i64 0,.string ⟨⟨[]⟩⟩,.string ⟨⟨[]⟩⟩,.bool false,.int .i64 0]⟩)=bP ⟨0,⟨0,0,[],[],false,0⟩⟩:=rfl
def rY (xs:List Nd) (ver:Nat):Obj:=⟨27,6,xs.map av,true,ver⟩
def BB (a:f_):List Nd:=if a.c.kind=3 then a.c::((if (cO a.c true).2 then [(cO a.c true).1] else [])++if (cO a.c false).2 then [(cO a.c false).1] else []) else []
def BD (a:f_):List Nd:=if a.c.kind=4 then [a.c,⟨4,0,[],a.c.s++[0],false,0⟩] else []
theorem tY:∀ l,jI l=(l.map BB).flatten
 | []=>rfl
 | a::l=>by simp only [jI,List.map_cons,List.flatten_cons,tY l];rfl
theorem tZ:∀ l,kV l=(l.map BD).flatten
 | []=>rfl
 | a::l=>by simp only [kV,List.map_cons,List.flatten_cons,tZ l];rfl
theorem Gm {l:List f_}{i:Nat}{a:f_}(h:l[i]?=some a):jI (l.take (i+1))=jI (l.take i)++BB a:=by
 rw [tY,tY,List.take_add_one,h];simp
theorem Gn {l:List f_}{i:Nat}{a:f_}(h:l[i]?=some a):kV (l.take (i+1))=kV (l.take i)++BD a:=by
 rw [tZ,tZ,List.take_add_one,h];simp
theorem rZ:∀ l:List f_,(jI l).length≤3*l.length
 | []=>by simp [jI]
 | a::l=>by
  have:=rZ l
  simp only [jI,length_append,length_cons]
  split
  · simp only [length_cons,length_append]
    split <;> split <;> simp only [length_cons,length_nil] <;> omega
  · simp only [length_nil];omega
theorem xg:∀ l:List f_,(kV l).length≤2*l.length
 | []=>by simp [kV]
 | a::l=>by
  have:=xg l
  simp only [kV,length_append,length_cons]
  split
  · simp only [length_cons,length_nil];omega
  · simp only [length_nil];omega
def BF:List Nd:=[⟨0,0,[],[],false,0⟩,⟨1,0,[],[],false,0⟩,⟨2,0,[],[],false,0⟩,⟨3,0,[],[],false,0⟩]
def EG (a:f_) (b:Bool):List Nd:=if (cO a.c b).2 then [(cO a.c b).1] else []
theorem CP {a:f_}(h:a.c.kind=3):BB a=[a.c]++EG a true++EG a false:=by
 rw [BB,if_pos h];simp [EG]
theorem uI (xs:List Nd) (n:Nd):List.map av xs++[av n]=List.map av (xs++[n]):=by simp
theorem aai (xs:List Nd) (n m:Nd):List.map av xs++[av n,av m]=List.map av (xs++[n,m]):=by simp
theorem D9 (n:Nd):Nd.mk n.kind n.many n.name n.s n.neg n.e=n:=rfl
theorem Oy (xs:List Nd) (ver:Nat):Obj.mk 27 6 (List.map av xs) true ver=rY xs ver:=rfl
theorem Lm:(∀ xs v,(rY xs v).live=true)∧(∀ xs v,(rY xs v).ver=v)∧(∀ xs v,(rY xs v).sz=6)∧(∀ xs v,(rY xs v).ty=27)∧(∀ xs v,(rY xs v).xs=List.map av xs):=
 ⟨fun _ _=>rfl,fun _ _=>rfl,fun _ _=>rfl,fun _ _=>rfl,fun _ _=>rfl⟩
theorem Y4 {O:List Obj}(h:jG O) (xs:List Nd) (ver:Nat):jG (O++[rY xs ver]):=by
 intro o ho x hx c hc
 rw [length_append]
 rcases List.mem_append.1 ho with ho | ho
 · have:=h o ho x hx c hc
   exact Fx (Nat.le_add_right _ _) this
 · rw [List.mem_singleton] at ho;subst ho
   obtain ⟨n,_,rfl⟩:=List.mem_map.1 hx
   simp only [av,PV.cells,List.mem_cons,List.not_mem_nil,or_false] at hc
   rcases hc with rfl | rfl | rfl | rfl | rfl | rfl <;> rfl
theorem acw {O:List Obj}(h:jG O) :
  (∀ d xs ver X,List.map (gy d (O.length+1) (O++rY xs ver::X)) (List.take (O.length+1) (O++rY xs ver::X))=O++[rY xs ver])∧
  (∀ d X ver,fJ d (O.length+1) X (.bO O.length ver)=.bO O.length ver)∧
  (∀ x (a:f_),fJ 1 (O.length+1) (O++[x,⟨29,7,[bP a],true,1⟩]) (.bM (O.length+1) 1 0 0)=.addr (bP a)):=by
 refine ⟨fun d xs ver X=>?_,fun d X ver=>?_,fun x a=>?_⟩
 · have e:List.take (O.length+1) (O++rY xs ver::X)=O++[rY xs ver]:=by
    rw [List.take_append,List.take_of_length_le (by omega)];simp
   rw [e]
   have:=Em (d:=d) (objs':=O++rY xs ver::X) (Y4 h xs ver)
   rwa [length_append] at this
 · simp [fJ]
 · have:(O++[x,⟨29,7,[bP a],true,1⟩])[O.length+1]?=some ⟨29,7,[bP a],true,1⟩:=by
    rw [List.getElem?_append_right (by omega)];simp
   simp only [fJ,lt_irrefl,if_false,jl,this,Nat.le_refl,decide_true,Bool.and_self,BEq.rfl,if_true]
   rfl
theorem aaj {O:List Obj}(h:jG O) :
  (∀ d X,List.map (gy d O.length (O++X)) (List.take O.length (O++X))=O)∧
  (∀ xs v,fJ 1 O.length (O++[rY xs v]) (.bO O.length v)=aM xs):=by
 refine ⟨fun d X=>?_,fun xs v=>?_⟩
 · rw [List.take_append_of_le_length (Nat.le_refl _),take_length]
   exact Em h
 · have:(O++[rY xs v])[O.length]?=some (rY xs v):=by
    rw [List.getElem?_append_right (Nat.le_refl _)];simp
   simp only [fJ,lt_irrefl,if_false,jl,this,Lm,Nat.le_refl,decide_true,Bool.and_self,BEq.rfl,if_true]
   rw [QF av fun n=>rfl]
   rfl
theorem acy {O:List Obj}(h:jG O) :
  (∀ d X,List.map (gy d O.length (O++X)) (List.take O.length (O++X))=O)∧
  (∀ n:Nd,fJ 1 O.length (O++[⟨27,6,[av n],true,1⟩]) (.bM O.length 1 0 0)=.addr (av n)):=by
 refine ⟨(aaj h).1,fun n=>?_⟩
 have:(O++[⟨27,6,[av n],true,1⟩])[O.length]?=some ⟨27,6,[av n],true,1⟩:=by
  rw [List.getElem?_append_right (Nat.le_refl _)];simp
 simp only [fJ,lt_irrefl,if_false,jl,this,Nat.le_refl,decide_true,Bool.and_self,BEq.rfl,if_true]
 rfl
theorem Rc (l:List f_) (hl:l.length≤1000000) (hn:∀ a ∈ l,a.c.kind=3→Lg a.c) (hs:∀ a ∈ l,a.c.s.length≤1000000):Gives Tryz.prog 113 [.addr (bg l)] ((gJ l).map fun c=>[av c]):=by
 refine xJ.gives (fnT:=q9 [(114,mZ)]) hD (af Li ah) aY ?_
 intro I J objs y hI G6 Wi
 have hO:=(G6 0 objs hI).2
 (conv=>arg 4;cbv);simp(maxSteps:=400000)only[↓aQ,aR,BEq.rfl,reduceIte,reduceCtorEq,Nat.reduceLT,reduceAdd,reduceSub,reduceMul,Nat.reduceBEq,reduceLeDiff,reduceToNat,reduceLE,bI,bJ]
 refine aH (fun m S=>∃ (i ver:Nat),i+m=l.length∧S=⟨dU 90 [(0,.Ef y),(1,.addr (bg l)),(3,.bO objs.length ver),(19,bg l),(20,.int .i64 l.length),(21,.int .i64 i)],objs++[rY (BF++jI (l.take i)) ver]⟩) l.length ⟨0,1,by omega,?_⟩ ?_
 · simp only [dh,keepR,reduceAdd,oC,Nat.reduceBEq,map_nil]
   rfl
 rintro m S ⟨i,ver,him,rfl⟩
 rcases lt_or_ge i l.length with h | h
 · have hlt:((i:Int)<(l.length:Int))=True:=eq_true (by omega)
   have zi:(0≤(i:Int))=True:=eq_true (by omega)
   have hgi:=List.getElem?_eq_getElem h
   generalize l[i]=a at hgi
   have oB:=aa_ objs
   have oF:=acw hO
   have hxl:(BF++jI (l.take i)).length≤4+3*i:=by
    have h1:=rZ (l.take i)
    have h2:(l.take i).length≤i:=List.length_take_le i l
    have h3:BF.length=4:=rfl
    rw [length_append];omega
   have htk:=Gm hgi
   have c0:BF++jI (l.take (i+1))=(BF++jI (l.take i))++BB a:=by rw [htk,append_assoc]
   generalize hX:BF++jI (l.take i)=X at hxl c0
   by_cases hk:a.c.kind=3
   rotate_left 1
   · have k3:(a.c.kind=3)=False:=eq_false hk
     simp(maxSteps:=400000)only[↓aQ,aR,BEq.rfl,reduceIte,reduceCtorEq,Nat.reduceLT,reduceAdd,reduceSub,reduceMul,Nat.reduceBEq,reduceLeDiff,reduceToNat,reduceLE,hlt,zi,hgi,k3,oB,SA,D9,append_assoc,cons_append,nil_append,length_append,length_cons,length_nil]
     refine aT _ (Weak.freeze 1 (objs.length+1) (le_succ _) _) ?_
     simp(maxSteps:=400000)only[↓aQ,aR,BEq.rfl,reduceIte,reduceCtorEq,Nat.reduceLT,reduceAdd,reduceSub,reduceMul,Nat.reduceBEq,reduceLeDiff,reduceToNat,reduceLE,oF]
     have e1:BB a=[]:=if_neg hk
     exact ⟨⟨by omega,by omega⟩,m-1,by omega,i+1,ver,by omega,by rw [c0,e1,append_nil];rfl⟩
   · have k3:(a.c.kind=3)=True:=eq_true hk
     have Y5:=hn a (List.mem_of_getElem? hgi) hk
     simp(maxSteps:=400000)only[↓aQ,aR,BEq.rfl,reduceIte,reduceCtorEq,Nat.reduceLT,reduceAdd,reduceSub,reduceMul,Nat.reduceBEq,reduceLeDiff,reduceToNat,reduceLE,hlt,zi,hgi,k3,oB,SA,bI,bJ,D9,Lm,append_assoc,cons_append,nil_append,length_append,length_cons,length_nil,length_map,uI,Oy]
     refine ⟨by omega,by omega,?_⟩
     refine aT _ (Weak.freeze 1 (objs.length+1) (le_succ _) _) ?_
     simp(maxSteps:=400000)only[↓aQ,aR,BEq.rfl,reduceIte,reduceCtorEq,Nat.reduceLT,reduceAdd,reduceSub,reduceMul,Nat.reduceBEq,reduceLeDiff,reduceToNat,reduceLE,oF]
     have l1:(EG a true).length≤1:=by unfold EG;split <;> simp
     have l2:(EG a false).length≤1:=by unfold EG;split <;> simp
     have st:∀ (j:Int) (xs:List Nd) (v:Nat),St:=fun j xs v=>⟨dU 90 [(0,.Ef y),(1,.addr (bg l)),(3,.bO objs.length v),(5,.addr (bP a)),(19,bg l),(20,.int .i64 l.length),(21,.int .i64 i),(34,.sl 1 [.bool true,.bool false] none),(35,.int .i64 ((2:Nat):Int)),(36,.int .i64 j)],objs++[rY xs v]⟩
     refine aH (fun m' S=>∃ (v:Nat) (j:Int) (xs:List Nd),(j=0∧m'=2∧xs=X++[a.c]∨j=1∧m'=1∧xs=X++[a.c]++EG a true∨j=2∧m'=0∧xs=X++[a.c]++EG a true++EG a false)∧S=⟨dU 90 [(0,.Ef y),(1,.addr (bg l)),(3,.bO objs.length v),(5,.addr (bP a)),(19,bg l),(20,.int .i64 l.length),(21,.int .i64 i),(34,.sl 1 [.bool true,.bool false] none),(35,.int .i64 ((2:Nat):Int)),(36,.int .i64 j)],objs++[rY xs v]⟩) 2 ⟨ver+1,0,_,.inl ⟨rfl,rfl,rfl⟩,?_⟩ ?_
     · simp only [dh,keepR,reduceAdd,oC,Nat.reduceBEq,map_nil]
     rintro m' S ⟨v,j,xs,hj,rfl⟩
     have n2:((2:Nat):Int)=2:=rfl
     rcases hj with ⟨rfl,rfl,hxs⟩ | ⟨rfl,rfl,hxs⟩ | ⟨rfl,rfl,hxs⟩
     · have U6:xs.length≤8+3*i:=by rw [hxs];simp only [length_append,length_cons,length_nil];omega
       cases hb:(cO a.c true).2
       · simp(maxSteps:=400000)only[↓aQ,aR,BEq.rfl,reduceIte,reduceCtorEq,Nat.reduceLT,reduceAdd,reduceSub,reduceMul,Nat.reduceBEq,reduceLeDiff,reduceToNat,reduceLE,n2,Int.reduceLT,oB,bI,bJ,D9,Lm,↓mZ,dI,hb,bf,append_assoc,cons_append,nil_append,length_append,length_cons,length_nil,length_map,uI,Oy]
         refine ⟨Y5,?_⟩
         refine aT _ (Weak.freeze 1 (objs.length+1) (le_succ _) _) ?_
         simp(maxSteps:=400000)only[↓aQ,aR,BEq.rfl,reduceIte,reduceCtorEq,Nat.reduceLT,reduceAdd,reduceSub,reduceMul,Nat.reduceBEq,reduceLeDiff,reduceToNat,reduceLE,oF]
         have hbs:EG a true=[]:=by simp [EG,hb]
         exact ⟨⟨by omega,by omega⟩,1,by omega,v,1,xs,.inr (.inl ⟨rfl,rfl,by rw [hxs,hbs,append_nil]⟩),rfl⟩
       · simp(maxSteps:=400000)only[↓aQ,aR,BEq.rfl,reduceIte,reduceCtorEq,Nat.reduceLT,reduceAdd,reduceSub,reduceMul,Nat.reduceBEq,reduceLeDiff,reduceToNat,reduceLE,n2,Int.reduceLT,oB,bI,bJ,D9,Lm,↓mZ,dI,hb,bf,append_assoc,cons_append,nil_append,length_append,length_cons,length_nil,length_map,uI,Oy]
         refine ⟨Y5,by omega,by omega,?_⟩
         refine aT _ (Weak.freeze 1 (objs.length+1) (le_succ _) _) ?_
         simp(maxSteps:=400000)only[↓aQ,aR,BEq.rfl,reduceIte,reduceCtorEq,Nat.reduceLT,reduceAdd,reduceSub,reduceMul,Nat.reduceBEq,reduceLeDiff,reduceToNat,reduceLE,oF]
         have hbs:EG a true=[(cO a.c true).1]:=by simp [EG,hb]
         exact ⟨⟨by omega,by omega⟩,1,by omega,v+1,1,xs++[(cO a.c true).1],.inr (.inl ⟨rfl,rfl,by rw [hxs,hbs]⟩),rfl⟩
     · have U6:xs.length≤8+3*i:=by rw [hxs];simp only [length_append,length_cons,length_nil];omega
       cases hb:(cO a.c false).2
       · simp(maxSteps:=400000)only[↓aQ,aR,BEq.rfl,reduceIte,reduceCtorEq,Nat.reduceLT,reduceAdd,reduceSub,reduceMul,Nat.reduceBEq,reduceLeDiff,reduceToNat,reduceLE,n2,Int.reduceLT,oB,bI,bJ,D9,Lm,↓mZ,dI,hb,bf,append_assoc,cons_append,nil_append,length_append,length_cons,length_nil,length_map,uI,Oy]
         refine ⟨Y5,?_⟩
         refine aT _ (Weak.freeze 1 (objs.length+1) (le_succ _) _) ?_
         simp(maxSteps:=400000)only[↓aQ,aR,BEq.rfl,reduceIte,reduceCtorEq,Nat.reduceLT,reduceAdd,reduceSub,reduceMul,Nat.reduceBEq,reduceLeDiff,reduceToNat,reduceLE,oF]
         have hbs:EG a false=[]:=by simp [EG,hb]
         exact ⟨⟨by omega,by omega⟩,0,by omega,v,2,xs,.inr (.inr ⟨rfl,rfl,by rw [hxs,hbs,append_nil]⟩),rfl⟩
       · simp(maxSteps:=400000)only[↓aQ,aR,BEq.rfl,reduceIte,reduceCtorEq,Nat.reduceLT,reduceAdd,reduceSub,reduceMul,Nat.reduceBEq,reduceLeDiff,reduceToNat,reduceLE,n2,Int.reduceLT,oB,bI,bJ,D9,Lm,↓mZ,dI,hb,bf,append_assoc,cons_append,nil_append,length_append,length_cons,length_nil,length_map,uI,Oy]
         refine ⟨Y5,by omega,by omega,?_⟩
         refine aT _ (Weak.freeze 1 (objs.length+1) (le_succ _) _) ?_
         simp(maxSteps:=400000)only[↓aQ,aR,BEq.rfl,reduceIte,reduceCtorEq,Nat.reduceLT,reduceAdd,reduceSub,reduceMul,Nat.reduceBEq,reduceLeDiff,reduceToNat,reduceLE,oF]
         have hbs:EG a false=[(cO a.c false).1]:=by simp [EG,hb]
         exact ⟨⟨by omega,by omega⟩,0,by omega,v+1,2,xs++[(cO a.c false).1],.inr (.inr ⟨rfl,rfl,by rw [hxs,hbs]⟩),rfl⟩
     · simp(maxSteps:=400000)only[↓aQ,aR,BEq.rfl,reduceIte,reduceCtorEq,Nat.reduceLT,reduceAdd,reduceSub,reduceMul,Nat.reduceBEq,reduceLeDiff,reduceToNat,reduceLE,n2,Int.reduceLT]
       refine aT _ (Weak.freeze 1 (objs.length+1) (le_succ _) _) ?_
       simp(maxSteps:=400000)only[↓aQ,aR,BEq.rfl,reduceIte,reduceCtorEq,Nat.reduceLT,reduceAdd,reduceSub,reduceMul,Nat.reduceBEq,reduceLeDiff,reduceToNat,reduceLE,oF]
       exact ⟨⟨by omega,by omega⟩,m-1,by omega,i+1,v,by omega,by rw [c0,CP hk,hxs,append_assoc,append_assoc,append_assoc];rfl⟩
 · have hlt:((i:Int)<(l.length:Int))=False:=eq_false (by omega)
   have oB:=aa_ objs
   have oF:=acw hO
   have hxl:(BF++jI (l.take i)).length≤4+3*i:=by
    have h1:=rZ (l.take i)
    have h2:(l.take i).length≤i:=List.length_take_le i l
    have h3:BF.length=4:=rfl
    rw [length_append];omega
   have hi:i=l.length:=by omega
   rw [hi,take_length]
   rw [hi,take_length] at hxl
   generalize hX:BF++jI l=X at hxl
   have hlt2:((l.length:Int)<(l.length:Int))=False:=eq_false (by omega)
   simp(maxSteps:=400000)only[↓aQ,aR,BEq.rfl,reduceIte,reduceCtorEq,Nat.reduceLT,reduceAdd,reduceSub,reduceMul,Nat.reduceBEq,reduceLeDiff,reduceToNat,reduceLE,hlt2,oB,bI,bJ,D9,Lm,append_assoc,cons_append,nil_append,length_append,length_cons,length_nil,length_map,uI,Oy]
   refine ⟨by omega,by omega,?_⟩
   refine aH (fun m S=>∃ (i ver:Nat),i+m=l.length∧S=⟨dU 90 [(0,.Ef y),(3,.bO objs.length ver),(58,bg l),(59,.int .i64 l.length),(60,.int .i64 i)],objs++[rY (X++⟨4,0,[],[],false,0⟩::kV (l.take i)) ver]⟩) l.length ⟨0,ver+1,by omega,?_⟩ ?_
   · simp only [dh,keepR,reduceAdd,oC,Nat.reduceBEq,map_nil]
     rfl
   rintro m S ⟨i,ver,him,rfl⟩
   have U6:(X++⟨4,0,[],[],false,0⟩::kV (l.take i)).length≤8+3*l.length+2*i:=by
    have h1:=xg (l.take i)
    have h2:(l.take i).length≤i:=List.length_take_le i l
    rw [length_append,length_cons];omega
   rcases lt_or_ge i l.length with h | h
   · have hlt:((i:Int)<(l.length:Int))=True:=eq_true (by omega)
     have zi:(0≤(i:Int))=True:=eq_true (by omega)
     have hgi:=List.getElem?_eq_getElem h
     generalize l[i]=a at hgi
     have has:=hs a (List.mem_of_getElem? hgi)
     have c0:X++⟨4,0,[],[],false,0⟩::kV (l.take (i+1))=(X++⟨4,0,[],[],false,0⟩::kV (l.take i))++BD a:=by rw [Gn hgi];simp
     generalize hY:X++⟨4,0,[],[],false,0⟩::kV (l.take i)=Y at U6 c0
     by_cases hk:a.c.kind=4
     rotate_left 1
     · have k4:(a.c.kind=4)=False:=eq_false hk
       simp(maxSteps:=400000)only[↓aQ,aR,BEq.rfl,reduceIte,reduceCtorEq,Nat.reduceLT,reduceAdd,reduceSub,reduceMul,Nat.reduceBEq,reduceLeDiff,reduceToNat,reduceLE,hlt,zi,hgi,k4,oB,SA,bI,bJ,D9,Lm,append_assoc,cons_append,nil_append,length_append,length_cons,length_nil,length_map,uI,aai,Oy]
       refine aT _ (Weak.freeze 1 (objs.length+1) (le_succ _) _) ?_
       simp(maxSteps:=400000)only[↓aQ,aR,BEq.rfl,reduceIte,reduceCtorEq,Nat.reduceLT,reduceAdd,reduceSub,reduceMul,Nat.reduceBEq,reduceLeDiff,reduceToNat,reduceLE,oF]
       have e1:BD a=[]:=if_neg hk
       exact ⟨⟨by omega,by omega⟩,m-1,by omega,i+1,ver,by omega,by rw [c0,e1,append_nil];rfl⟩
     · have k4:(a.c.kind=4)=True:=eq_true hk
       simp(maxSteps:=400000)only[↓aQ,aR,BEq.rfl,reduceIte,reduceCtorEq,Nat.reduceLT,reduceAdd,reduceSub,reduceMul,Nat.reduceBEq,reduceLeDiff,reduceToNat,reduceLE,hlt,zi,hgi,k4,oB,SA,bI,bJ,D9,Lm,append_assoc,cons_append,nil_append,length_append,length_cons,length_nil,length_map,uI,aai,Oy]
       refine ⟨by omega,fun y hy=>by simp only [List.mem_cons,List.not_mem_nil,or_false] at hy;rcases hy with rfl | rfl <;> exact ⟨rfl,rfl⟩,by omega,by omega,?_⟩
       refine aT _ (Weak.freeze 1 (objs.length+1) (le_succ _) _) ?_
       simp(maxSteps:=400000)only[↓aQ,aR,BEq.rfl,reduceIte,reduceCtorEq,Nat.reduceLT,reduceAdd,reduceSub,reduceMul,Nat.reduceBEq,reduceLeDiff,reduceToNat,reduceLE,oF]
       have e1:BD a=[a.c,⟨4,0,[],a.c.s++[0],false,0⟩]:=if_pos hk
       exact ⟨⟨by omega,by omega⟩,m-1,by omega,i+1,ver+1,by omega,by rw [c0,e1];rfl⟩
   have hi:i=l.length:=by omega
   have hlt2:((l.length:Int)<(l.length:Int))=False:=eq_false (by omega)
   rw [hi,take_length]
   rw [hi,take_length] at U6
   have hC:X++⟨4,0,[],[],false,0⟩::kV l=gJ l:=by rw [← hX];rfl
   rw [hC]
   rw [hC] at U6
   generalize gJ l=C at U6
   simp(maxSteps:=400000)only[↓aQ,aR,BEq.rfl,reduceIte,reduceCtorEq,Nat.reduceLT,reduceAdd,reduceSub,reduceMul,Nat.reduceBEq,reduceLeDiff,reduceToNat,reduceLE,hlt2]
   refine aT _ (Weak.freeze 1 objs.length (Nat.le_refl _) _) ?_
   have o1:=aaj hO
   simp(maxSteps:=400000)only[↓aQ,aR,BEq.rfl,reduceIte,reduceCtorEq,Nat.reduceLT,reduceAdd,reduceSub,reduceMul,Nat.reduceBEq,reduceLeDiff,reduceToNat,reduceLE,o1]
   refine aH (fun m S=>∃ (i:Nat) (O:List Obj),i+m=C.length∧I i O∧S=⟨dU 90 [(0,.Ef y),(79,aM C),(80,.int .i64 C.length),(81,.int .i64 i)],O⟩) C.length ⟨0,objs,by omega,hI,?_⟩ ?_
   · simp only [dh,keepR,reduceAdd,oC,Nat.reduceBEq,map_nil]
     rfl
   rintro m S ⟨i,O,him,hIi,rfl⟩
   have hOl:=(G6 i O hIi).1
   have hOO:=(G6 i O hIi).2
   rcases lt_or_ge i C.length with h | h
   · have hlt:((i:Int)<(C.length:Int))=True:=eq_true (by omega)
     have zi:(0≤(i:Int))=True:=eq_true (by omega)
     have hgi:=List.getElem?_eq_getElem h
     generalize C[i]=c at hgi
     have oB:=aa_ O
     simp(maxSteps:=400000)only[↓aQ,aR,BEq.rfl,reduceIte,reduceCtorEq,Nat.reduceLT,reduceAdd,reduceSub,reduceMul,Nat.reduceBEq,reduceLeDiff,reduceToNat,reduceLE,hlt,zi,hgi,oB,bI,bJ,D9]
     refine aT _ (Weak.freeze 1 O.length hOl _) ?_
     have o2:=acy hOO
     simp(maxSteps:=400000)only[↓aQ,aR,BEq.rfl,reduceIte,reduceCtorEq,Nat.reduceLT,reduceAdd,reduceSub,reduceMul,Nat.reduceBEq,reduceLeDiff,reduceToNat,reduceLE,o2,VZ]
     refine ⟨rfl,i,hIi,by rw [hgi];rfl,fun O' hI'=>⟨⟨by omega,by omega⟩,m-1,by omega,i+1,O',by omega,hI',rfl⟩,fun O' hJ'=>⟨.inr rfl,.inr ⟨i,h,hJ'⟩⟩⟩
   · have hlt:((i:Int)<(C.length:Int))=False:=eq_false (by omega)
     simp(maxSteps:=400000)only[↓aQ,aR,BEq.rfl,reduceIte,reduceCtorEq,Nat.reduceLT,reduceAdd,reduceSub,reduceMul,Nat.reduceBEq,reduceLeDiff,reduceToNat,reduceLE,hlt]
     have hi:i=C.length:=by omega
     subst hi
     exact ⟨.inl rfl,.inl hIi⟩
end Lp
namespace Lp
open Go Go.Proofs Go.RowKit
open List (mem_cons mem_singleton not_mem_nil)
open Nat (reduceAdd reduceLeDiff reduceMul reduceSub)
open Int (reduceLE reduceToNat)
def BG:dN:=fun args objs K=>match args with
 | [a0]=>gu bg a0 (HK.mk:HK fun l=>K (.fn 113 [] [.addr (bg l)]) objs 0)
 | _=>False
theorem Oz:aD Tryz.prog 102 (BG):=by
 intro args objs K h
 unfold BG at h
 split at h
 · rename_i a0
   obtain ⟨l,rfl,hk⟩:=h
   exact ⟨_,_,_,.pure _ rfl (D8 l),hk⟩
 · exact h.elim
def BH:dN:=fun args objs K=>match args with
 | [.int .i64 mask,a1,a2]=>gu bg a1 (HK.mk:HK fun l=>gu av a2 (HK.mk:HK fun n=>(0≤mask∧mask≤31)∧(l.length≤1000000)∧(∀ a ∈ l,eP a.c)∧(oP n)∧(n.s.length≤1000000)∧K (.bool (cK mask l n)) objs 0))
 | _=>False
theorem Rf:aD Tryz.prog 103 (BH):=by
 intro args objs K h
 unfold BH at h
 split at h
 · rename_i mask a1 a2
   obtain ⟨l,rfl,n,rfl,h1,h2,h3,h4,h5,hk⟩:=h
   exact ⟨_,_,_,.pure _ rfl (K6 mask l n h1 h2 h3 h4 h5),hk⟩
 · exact h.elim
def Xw (mask:Int) (l:List f_) (x:Nd) (b:Bool):List Obj:=[⟨3,1,[.int .i64 mask],true,1⟩,⟨56,1,[bg l],true,1⟩,⟨27,6,[av x],true,1⟩,⟨4,1,[.bool b],true,1⟩]
theorem Gp (mask:Int) (l:List f_) (x:Nd) (b:Bool):fQ (Xw mask l x b++[uO,hole]):=by
 intro o ho y hy c hc
 simp only [Xw,List.cons_append,List.nil_append,mem_cons,not_mem_nil,or_false] at ho
 rcases ho with rfl | rfl | rfl | rfl | rfl | rfl
 · simp only [mem_singleton] at hy;subst hy
   simp only [PV.cells,mem_singleton] at hc;subst hc;rfl
 · simp only [mem_singleton] at hy;subst hy
   simp only [bg,PV.cells,mem_singleton] at hc;subst hc;rfl
 · simp only [mem_singleton] at hy;subst hy
   simp only [av,PV.cells,mem_cons,not_mem_nil,or_false] at hc
   rcases hc with rfl | rfl | rfl | rfl | rfl | rfl <;> rfl
 · simp only [mem_singleton] at hy;subst hy
   simp only [PV.cells,mem_singleton] at hc;subst hc;rfl
 · cases hy
 · cases hy
theorem Xx (mask:Int) (l:List f_) (x:Nd) (b:Bool):Gh 4 (Xw mask l x b++[uO,hole]):=⟨Nat.le_refl _,(Gp mask l x b).lt,rfl,rfl⟩
def jU (mask:Int) (l:List f_):PV:=.bT [av (lG mask l).1,.bool (lG mask l).2]
theorem Rh (l:List Nd):∀ y ∈ l.map (fun s=>[av s]),y.length=1:=by
 intro y hy
 obtain ⟨p,_,rfl⟩:=List.mem_map.1 hy
 rfl
theorem Ri {l:List Nd}{i:Nat}{args:List PV}(h:(l.map fun s=>[av s])[i]?=some args):∃ s,l[i]?=some s∧args=[av s]:=by
 rw [List.getElem?_map] at h
 cases hx:l[i]? with
 | none=>rw [hx] at h;simp at h
 | some p=>rw [hx] at h;exact ⟨p,rfl,by simpa using h.symm⟩
theorem Jz {mask:Int}{l:List f_}{i:Nat}{c:Nd}(h:(gJ l)[i]?=some c) (hm:cK mask l c=true) (hb:∀ (j:Nat) d,j<i→(gJ l)[j]?=some d→cK mask l d=false):lG mask l=(c,true):=by
 have:(gJ l).find? (fun n=>cK mask l n)=some c:=by
  rw [List.find?_eq_some_iff_getElem]
  obtain ⟨hi,he⟩:=List.getElem?_eq_some_iff.1 h
  refine ⟨hm,i,hi,he,fun j hj=>?_⟩
  have:=hb j _ hj (List.getElem?_eq_getElem (by omega))
  simp [this]
 simp [lG,this]
theorem Gq {mask:Int}{l:List f_}(hb:∀ (j:Nat) d,(gJ l)[j]?=some d→cK mask l d=false):lG mask l=(aW,false):=by
 have:(gJ l).find? (fun n=>cK mask l n)=none:=by
  rw [List.find?_eq_none]
  intro x hx
  obtain ⟨i,hi⟩:=List.mem_iff_getElem?.1 hx
  simp [hb i x hi]
 simp [lG,this]
theorem OA (mask:Int) (l:List f_) (x:Nd) (b:Bool) (o:Obj) (tm:List PV):(St.norm [] (some (1,6)) ⟨tm,Xw mask l x b++[uO,hole,o]⟩).objs=Xw mask l x b++[uO,hole]:=
 Em (objs:=Xw mask l x b++[uO,hole]) (Gp mask l x b).lt
theorem eP.num {n:Nd}(h:eP n) (hk:n.kind=3):Lg n:=by
 have hb:=(nS n).1 (pW (nH h.sc).1 hk)
 refine ⟨hb.2.2.1,hb.2.1,hb.2.2.2.1,hb.2.2.2.2.1,fun hs=>?_⟩
 have hl:=hb.2.2.2.2.2.2
 rw [if_neg hs] at hl
 unfold Lib.trimRightB
 have hne:n.s.reverse≠[]:=by simpa using hs
 obtain ⟨x,r,hx⟩:=List.exists_cons_of_ne_nil hne
 have hx0:x≠48:=fun e=>hl.2 (by rw [← List.head?_reverse,hx,e];rfl)
 have:(x==(48:UInt8))=false:=by simpa using hx0
 rw [hx,List.dropWhile_cons,this]
 simp
theorem Rj (neg:Bool) (f:List UInt8) (e:Int):(dJ neg f e).1.name=[]:=by
 unfold dJ
 split
 · rfl
 split
 · rfl
 split
 · rfl
 split <;> rfl
theorem Lr (n:Nd) (b:Bool):(cO n b).1.s.length≤100∧(cO n b).1.name=[]:=by
 unfold cO
 split
 · exact ⟨by simp,rfl⟩
 · exact ⟨UZ _ _ _,Rj _ _ _⟩
theorem Gr {l:List f_}(hc:∀ a ∈ l,eP a.c) (hs:∀ a ∈ l,a.c.s.length≤500000):∀ c ∈ gJ l,oP c∧c.s.length≤500001:=by
 have key:∀ c:Nd,c.name=[]→c.s.length≤500001→oP c∧c.s.length≤500001:=fun c h1 h2=>⟨⟨by omega,by rw [h1];simp⟩,h2⟩
 intro c hcm
 simp only [gJ,List.mem_append,mem_cons,not_mem_nil,or_false,tY,tZ,List.mem_flatten,List.mem_map] at hcm
 rcases hcm with ((rfl | rfl | rfl | rfl) | ⟨x,⟨a,ha,rfl⟩,hx⟩) | rfl | ⟨x,⟨a,ha,rfl⟩,hx⟩
 · exact key _ rfl (by simp)
 · exact key _ rfl (by simp)
 · exact key _ rfl (by simp)
 · exact key _ rfl (by simp)
 · by_cases hk:a.c.kind=3
   · rw [CP hk] at hx
     simp only [List.mem_append,mem_cons,not_mem_nil,or_false] at hx
     have hb:∀ b,c ∈ EG a b→oP c∧c.s.length≤500001:=fun b hb=>by
      unfold EG at hb
      split at hb
      · rw [mem_singleton] at hb;subst hb
        have:=Lr a.c b
        exact key _ this.2 (by omega)
      · cases hb
     rcases hx with (rfl | hx) | hx
     · exact key _ (nH (hc a ha).sc).2.1 (by have:=hs a ha;omega)
     · exact hb _ hx
     · exact hb _ hx
   · rw [show BB a=[] from if_neg hk] at hx;cases hx
 · exact key _ rfl (by simp)
 · by_cases hk:a.c.kind=4
   · rw [show BD a=[a.c,⟨4,0,[],a.c.s++[0],false,0⟩] from if_pos hk] at hx
     have hsa:=hs a ha
     simp only [mem_cons,not_mem_nil,or_false] at hx
     rcases hx with rfl | rfl
     · exact key _ (nH (hc a ha).sc).2.1 (by omega)
     · exact key _ rfl (by simp;omega)
   · rw [show BD a=[] from if_neg hk] at hx;cases hx
theorem Rk (mask:Int) (l:List f_) (hm:0≤mask∧mask≤31) (hl:l.length≤1000000) (hc:∀ a ∈ l,eP a.c) (hs:∀ a ∈ l,a.c.s.length≤500000):ai Tryz.prog 85 [.int .i64 mask,bg l] [] (jU mask l) []:=by
 refine Kj.QG (T:=aU Tryz.prog [(102,BG),(103,BH)]) 1 hD (aj (af Oz (af Rf ah))) aY (by decide) (by decide) fun Q hQ=>?_
 have hgv:=Rc l hl (fun a ha hk=>(hc a ha).num hk) (fun a ha=>by have:=hs a ha;omega)
 (conv=>arg 4;cbv);simp(maxSteps:=400000)only[↓aQ,aR,BEq.rfl,reduceIte,reduceCtorEq,Nat.reduceLT,reduceAdd,reduceSub,reduceMul,Nat.reduceBEq,reduceLeDiff,reduceToNat,reduceLE,hQ,↓BG,bI,bJ]
 refine R9 113 [.addr (bg l)] ((gJ l).map fun c=>[av c])
  (fun i O=>(∀ (j:Nat) d,j<i→(gJ l)[j]?=some d→cK mask l d=false)∧i≤(gJ l).length∧O=Xw mask l ⟨0,0,[],[],false,0⟩ false++[uO,hole])
  (fun i O=>∃ c,(gJ l)[i]?=some c∧cK mask l c=true∧(∀ (j:Nat) d,j<i→(gJ l)[j]?=some d→cK mask l d=false)∧O=Xw mask l c true++[uO,hole]) .ret rfl rfl rfl rfl (Nat.le_refl _) hgv (Rh _) ⟨fun j q h=>absurd h (Nat.not_lt_zero j),Nat.zero_le _,rfl⟩ ?_ ?_ ?_ ?_ ?_
 · rintro i O ⟨_,_,rfl⟩
   exact Xx _ _ _ _
 · rintro i O ⟨c,_,_,_,rfl⟩
   exact ⟨Xx _ _ _ _,Gp _ _ _ _⟩
 · rintro i args O ⟨hb,hi,rfl⟩ ha
   obtain ⟨c,hci,rfl⟩:=Ri ha
   have hil:=(List.getElem?_eq_some_iff.1 hci).1
   unfold Xw
   have hsm:=Gr hc hs c (List.mem_of_getElem? hci)
   cases he:cK mask l c
   · simp(maxSteps:=400000)only[↓aQ,aR,BEq.rfl,reduceIte,reduceCtorEq,Nat.reduceLT,reduceAdd,reduceSub,reduceMul,Nat.reduceBEq,reduceLeDiff,reduceToNat,reduceLE,hQ,pO,knI,bI,bJ,D9,↓BH,he]
     refine ⟨hm,hl,hc,hsm.1,by omega,fun j d hj hd=>?_,by omega,OA mask l ⟨0,0,[],[],false,0⟩ false _ _⟩
     rcases Nat.lt_or_ge j i with g | g
     · exact hb j d g hd
     · have:j=i:=by omega
       subst this
       rw [hci] at hd;cases hd;exact he
   · simp(maxSteps:=400000)only[↓aQ,aR,BEq.rfl,reduceIte,reduceCtorEq,Nat.reduceLT,reduceAdd,reduceSub,reduceMul,Nat.reduceBEq,reduceLeDiff,reduceToNat,reduceLE,hQ,pO,knI,bI,bJ,D9,↓BH,he]
     exact ⟨hm,hl,hc,hsm.1,by omega,rfl,c,hci,he,hb,OA mask l c true _ _⟩
 · rintro O ⟨hb,hi,rfl⟩
   unfold Xw
   simp(maxSteps:=400000)only[↓aQ,aR,BEq.rfl,reduceIte,reduceCtorEq,Nat.reduceLT,reduceAdd,reduceSub,reduceMul,Nat.reduceBEq,reduceLeDiff,reduceToNat,reduceLE,hQ,bI,bJ]
   have hr:jU mask l=.bT [av aW,.bool false]:=by
    have:=Gq (mask:=mask) (l:=l) fun j d hd=>hb j d (by rw [List.length_map];exact (List.getElem?_eq_some_iff.1 hd).1) hd
    simp [jU,this]
   exact ⟨by decide,rfl,by rw [hr];rfl⟩
 · rintro i O hi ⟨c,hci,he,hb,rfl⟩
   unfold Xw
   simp(maxSteps:=400000)only[↓aQ,aR,BEq.rfl,reduceIte,reduceCtorEq,Nat.reduceLT,reduceAdd,reduceSub,reduceMul,Nat.reduceBEq,reduceLeDiff,reduceToNat,reduceLE,hQ,bI,bJ]
   have hr:jU mask l=.bT [av c,.bool true]:=by
    simp [jU,Jz hci he hb]
   rw [hr]
   exact ⟨_,_,rfl,rfl,rfl,rfl,Nat.le_refl _,rfl,_,_,rfl,rfl,rfl,rfl,Nat.le_refl _,rfl,rfl⟩
def p8:dN:=fun args objs K=>match args with
 | [.int .i64 mask,a1]=>gu bg a1 (HK.mk:HK fun l=>(0≤mask∧mask≤31)∧(l.length≤1000000)∧(∀ a ∈ l,eP a.c)∧(∀ a ∈ l,a.c.s.length≤500000)∧K (jU mask l) objs 0)
 | _=>False
theorem Dx:aD Tryz.prog 85 (p8):=by
 intro args objs K h
 unfold p8 at h
 split at h
 · rename_i mask a1
   obtain ⟨l,rfl,h1,h2,h3,h4,hk⟩:=h
   exact ⟨_,_,_,.pure _ rfl (Rk mask l h1 h2 h3 h4),hk⟩
 · exact h.elim
end Lp
