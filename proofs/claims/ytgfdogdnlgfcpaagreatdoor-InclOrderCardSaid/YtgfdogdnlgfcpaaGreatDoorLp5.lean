/-
  Part 5 of what the statement rests on: LpW7, LpH8, LpD3, LpH9, LpH20, LpH21, LpH24, LpHN1, LpHN2, LpHN3, LpD7, LpD8, LpE1, LpD5, LpV10, LpD6, LpD9, LpD10, LpD11, LpD12, LpE2, LpE3, LpC9, LpY4, LpTN, LpEqY, LpTB1, LpC10, LpTB1p, LpTB2, LpTB3, LpE4, LpE5, LpE6, LpTC1, LpTR, LpE7, LpE8. No condition.
-/
import Derived.Test.YtgfdogdnlgfcpaaGreatDoorLp4
import Derived.Laws.IdiomStrings
import Derived.WalkKit
import Derived.Sort.Row

set_option linter.all false
set_option maxHeartbeats 8000000
set_option maxRecDepth 100000
namespace Lp
open Go Go.Proofs
def acS (a b:List Vl) (f:Vl→Vl→Int):dD:=fun args objs K=>∃ x y:Vl,(x ∈ a∧y ∈ b)∧args=[aS x,aS y]∧K (.int .i64 (f x y)) objs 0
theorem aaR (a b:List Vl) (g:FuncId) (f:Vl→Vl→Int) (hg:∀ x ∈ a,∀ y ∈ b,ai Tryz.prog g [aS x,aS y] [] (.int .i64 (f x y)) []):aB Tryz.prog g (acS a b f):=by
 rintro args objs K ⟨x,y,⟨hx,hy⟩,rfl,hk⟩
 exact ⟨_,_,_,.pure _ rfl (hg x hx y hy),hk⟩
theorem uP (a b:List Vl) (g:FuncId) (f:Vl→Vl→Int) (ha:a.length≤9223372036854775807) (hg:∀ x ∈ a,∀ y ∈ b,ai Tryz.prog g [aS x,aS y] [] (.int .i64 (f x y)) []) :
  ai Tryz.prog 150 [mJ a,mJ b,.fn g [] []] [] (.int .i64 (eP f a b)) []:=by
 refine fO.pure (T:=aR Tryz.prog [(g,acS a b f)]) 0 hD (aj (af (aaR a b g f hg) ah)) aZ (by decide) ?_
 (conv=>arg 4;cbv);simp only [↓zG,Eb,↓AZ,↓yD,↓A7,yE,↓mI,m_,jF,fC,Db,Nat.reduceAdd,Nat.reduceSub,qU,bL,dU,p_,mJ,List.length_map,Fq,Fs]
 refine aH (fun m S=>∃ i:Nat,m=a.length-i∧i≤a.length∧i≤b.length∧eP f (a.drop i) (b.drop i)=eP f a b∧
  S=⟨mkT 39 [(0,mJ a),(1,mJ b),(2,.fn g [] []),(11,mJ a),(12,.int .i64 a.length),(13,.int .i64 i)],[]⟩) a.length ⟨0,rfl,Nat.zero_le _,Nat.zero_le _,rfl,?_⟩ ?_
 · simp only [QS,mJ,qU];rfl
 rintro m S ⟨i,rfl,hi,hib,hlex,rfl⟩
 simp only [↓zG,Eb,↓AZ,↓yD,↓A7,yE,↓mI,m_,jF,fC,Db,Nat.reduceAdd,Nat.reduceSub,qU,QS,bL,caR,taR,acS,Nat.reduceBEq,BEq.rfl,cond_true,cond_false,dU,p_,mJ,Fq,Fs,wH,List.length_map,a_,fw,↓y8,IU,Fu,ne_eq,reduceCtorEq,not_false_eq_true,true_and,PV.bool.injEq,Int.toNat_natCast,List.length_cons,List.length_nil]
 refine ⟨fun h=>?_,fun h=>?_⟩
 · have hlt:i<a.length:=by have:=of_decide_eq_true h;omega
   rw [List.drop_eq_getElem_cons hlt] at hlex
   refine ⟨by omega,a[i],List.getElem?_eq_getElem hlt,rfl,rfl,fun hge=>?_,fun hgl=>?_⟩
   · have hbe:b.length≤i:=by have:=of_decide_eq_true hge;omega
     rw [List.drop_eq_nil_of_le hbe] at hlex
     rw [← hlex];rfl
   · have hbl:i<b.length:=by have:=of_decide_eq_false hgl;omega
     rw [List.drop_eq_getElem_cons hbl] at hlex
     refine ⟨by omega,b[i],List.getElem?_eq_getElem hbl,rfl,rfl,a[i],b[i],⟨List.getElem_mem _,List.getElem_mem _⟩,rfl,fun hne=>?_,fun heq=>⟨by omega,a.length-(i+1),by omega,i+1,rfl,by omega,by omega,?_,rfl⟩⟩
     · have hne':f a[i] b[i]≠0:=by simpa using hne
       rw [← hlex,eP,if_neg hne']
     · have heq':f a[i] b[i]=0:=by simpa using heq
       rw [← hlex,eP,if_pos heq']
 · rw [if_pos trivial]
   have hge:a.length≤i:=by have:=of_decide_eq_false h;omega
   rw [List.drop_eq_nil_of_le hge] at hlex
   refine ⟨fun hl=>?_,fun hl=>?_⟩
   · have hl':i<b.length:=by have:=of_decide_eq_true hl;omega
     rw [List.drop_eq_getElem_cons hl'] at hlex
     rw [← hlex];rfl
   · have hl':b.length≤i:=by have:=of_decide_eq_false hl;omega
     rw [List.drop_eq_nil_of_le hl'] at hlex
     rw [← hlex];rfl
end Lp
namespace Lp
open Go Go.Proofs
open Nat (reduceAdd reduceLeDiff reduceMul reduceSub)
def xS:dD:=fun args objs K=>match args with
 | [.int .i64 x,.int .i64 y]=>K (.int .i64 (t_ x y)) objs 0
 | _=>False
theorem G6:aB Tryz.prog 145 (xS):=by
 intro args objs K h
 unfold xS at h
 split at h
 · rename_i x y
   have hk:=h
   exact ⟨_,_,_,.pure _ rfl (Dx x y),hk⟩
 · exact h.elim
def xU:dD:=fun args objs K=>match args with
 | [.str x,.str y]=>K (.int .i64 (jJ x y)) objs 0
 | _=>False
theorem G7:aB Tryz.prog 147 (xU):=by
 intro args objs K h
 unfold xU at h
 split at h
 · rename_i x y
   have hk:=h
   exact ⟨_,_,_,.pure _ rfl (tq x y),hk⟩
 · exact h.elim
theorem Wv (a b:Nd) (ha:a.s.length≤1000000) (hb:b.s.length≤1000000) (hae:-1000≤a.e∧a.e≤1000) (hbe:-1000≤b.e∧b.e≤1000):ai Tryz.prog 172 [aA a,aA b] [] (.int .i64 (oV a b)) []:=by
 refine Rs.pure (T:=aR Tryz.prog [(145,xS),(147,xU)]) 0 hD (aj (af G6 (af G7 ah))) aZ (by decide) ?_
 (conv=>arg 4;cbv);simp(maxSteps:=400000)only[↓aT,aU,BEq.rfl,reduceIte,reduceCtorEq,Nat.reduceLT,reduceAdd,reduceSub,reduceMul,Nat.reduceBEq,reduceLeDiff,Int.reduceToNat,Int.reduceLE]
 refine aO _ (Weak.freeze 1 0 (Nat.le_refl _) _) ?_
 simp(maxSteps:=400000)only[↓aT,aU,BEq.rfl,reduceIte,reduceCtorEq,Nat.reduceLT,reduceAdd,reduceSub,reduceMul,Nat.reduceBEq,reduceLeDiff,Int.reduceToNat,Int.reduceLE,YL,YM,↓xS,↓xU]
 refine ⟨fun h=>?_,fun h=>⟨fun h'=>?_,fun h'=>⟨⟨by omega,by omega⟩,⟨by omega,by omega⟩,fun h0=>?_,fun h0=>?_⟩⟩⟩
 · rw [oV,if_pos (.inl h)]
 · rw [oV,if_pos (.inr h')]
 · rw [oV,if_neg (by simp [h,h']),if_pos h0]
 · rw [oV,if_neg (by simp [h,h']),if_neg h0]
def Zc (n:Nd):Prop:=n.s.length≤1000000∧-1000≤n.e∧n.e≤1000
def FB:dD:=fun args objs K=>match args with
 | [a0,a1]=>fE aA a0 (HK.mk:HK fun a=>fE aA a1 (HK.mk:HK fun b=>(Zc a)∧(Zc b)∧K (.int .i64 (oV a b)) objs 0))
 | _=>False
theorem Sl:aB Tryz.prog 172 (FB):=by
 intro args objs K h
 unfold FB at h
 split at h
 · rename_i a0 a1
   obtain ⟨a,rfl,b,rfl,h1,h2,hk⟩:=h
   exact ⟨_,_,_,.pure _ rfl (Wv a b h1.1 h2.1 h1.2 h2.2),hk⟩
 · exact h.elim
theorem Pg (a b:Nd) (ha:Zc a) (hb:Zc b):ai Tryz.prog 146 [aA a,aA b] [] (.int .i64 (UY a b)) []:=by
 refine VR.pure (T:=aR Tryz.prog [(172,FB)]) 0 hD (aj (af Sl ah)) aZ (by decide) ?_
 (conv=>arg 4;cbv);simp(maxSteps:=400000)only[↓aT,aU,BEq.rfl,reduceIte,reduceCtorEq,Nat.reduceLT,reduceAdd,reduceSub,reduceMul,Nat.reduceBEq,reduceLeDiff,Int.reduceToNat,Int.reduceLE]
 refine aO _ (Weak.freeze 1 0 (Nat.le_refl _) _) ?_
 simp(maxSteps:=400000)only[↓aT,aU,BEq.rfl,reduceIte,reduceCtorEq,Nat.reduceLT,reduceAdd,reduceSub,reduceMul,Nat.reduceBEq,reduceLeDiff,Int.reduceToNat,Int.reduceLE,YL,YM,↓FB]
 cases hx:a.neg <;> cases hy:b.neg
 all_goals simp only [ifR,UY,hx,hy,Bool.not_true,Bool.not_false,reduceIte,Bool.and_true,Bool.and_false,Bool.and_self,Bool.false_eq_true,ha,hb]
 all_goals exact ⟨trivial,trivial,trivial⟩
def xV:dD:=fun args objs K=>match args with
 | [a0,a1]=>fE aA a0 (HK.mk:HK fun a=>fE aA a1 (HK.mk:HK fun b=>(Zc a)∧(Zc b)∧K (.int .i64 (UY a b)) objs 0))
 | _=>False
theorem L_:aB Tryz.prog 146 (xV):=by
 intro args objs K h
 unfold xV at h
 split at h
 · rename_i a0 a1
   obtain ⟨a,rfl,b,rfl,h1,h2,hk⟩:=h
   exact ⟨_,_,_,.pure _ rfl (Pg a b h1 h2),hk⟩
 · exact h.elim
end Lp
namespace Lp
open Go Go.Proofs
theorem Ph (v:Vl) (hl:v.length≤1099511627776) (ho:One v):ai Tryz.prog 151 [aS v] [] (mJ (bP v)) []:=by
 cases v with
 | nil=>exact absurd rfl ho.ne
 | cons n r=>
  obtain ⟨hm,ps,h1,_,_⟩:=ho.parts
  have:=Rz (n::r) n r ps rfl hl hm h1
  rw [bP,mJ,(gq h1).1,List.map_map]
  exact this
theorem Pj (v:Vl) (hl:v.length≤1099511627776) (ho:One v):ai Tryz.prog 149 [aS v] [] (kr (fF v)) []:=by
 cases v with
 | nil=>exact absurd rfl ho.ne
 | cons n r=>
  obtain ⟨hm,ps,h1,_,_⟩:=ho.parts
  have:=RA (n::r) n r ps rfl hl hm h1
  rw [KO] at this
  rw [fF,kr,(gq h1).2]
  exact this
def BI:dD:=fun args objs K=>match args with
 | [a0]=>fE aS a0 (HK.mk:HK fun v=>(v.length≤1099511627776)∧(One v)∧K (mJ (bP v)) objs 0)
 | _=>False
theorem Pk:aB Tryz.prog 151 (BI):=by
 intro args objs K h
 unfold BI at h
 split at h
 · rename_i a0
   obtain ⟨v,rfl,h1,h2,hk⟩:=h
   exact ⟨_,_,_,.pure _ rfl (Ph v h1 h2),hk⟩
 · exact h.elim
def BJ:dD:=fun args objs K=>match args with
 | [a0]=>fE aS a0 (HK.mk:HK fun v=>(v.length≤1099511627776)∧(One v)∧K (kr (fF v)) objs 0)
 | _=>False
theorem Pm:aB Tryz.prog 149 (BJ):=by
 intro args objs K h
 unfold BJ at h
 split at h
 · rename_i a0
   obtain ⟨v,rfl,h1,h2,hk⟩:=h
   exact ⟨_,_,_,.pure _ rfl (Pj v h1 h2),hk⟩
 · exact h.elim
end Lp
namespace Lp
open Go Go.Proofs
def Ma:dD:=fun args objs K=>match args with
 | [a0,a1]=>fE kr a0 (HK.mk:HK fun a=>fE kr a1 (HK.mk:HK fun b=>(a.length≤9223372036854775807)∧(b.length≤9223372036854775807)∧K (.int .i64 (eP jJ a b)) objs 0))
 | _=>False
theorem Ww:aB Tryz.prog 148 (Ma):=by
 intro args objs K h
 unfold Ma at h
 split at h
 · rename_i a0 a1
   obtain ⟨a,rfl,b,rfl,h1,h2,hk⟩:=h
   exact ⟨_,_,_,.pure _ rfl (zZ a b h1 h2),hk⟩
 · exact h.elim
def UE (f:Nat):dD:=fun args objs K=>match args with
 | [a0,a1,a2]=>fE mJ a0 (HK.mk:HK fun x=>fE mJ a1 (HK.mk:HK fun y=>a2=(.fn 128 [] [])∧(x.length≤9223372036854775807)∧(∀ p ∈ x,∀ q ∈ y,ai Tryz.prog 128 [aS p,aS q] [] (.int .i64 (r9 f p q)) [])∧K (.int .i64 (eP (r9 f) x y)) objs 0))
 | _=>False
theorem Zd (f:Nat):aB Tryz.prog 150 (UE f):=by
 intro args objs K h
 unfold UE at h
 split at h
 · rename_i a0 a1 a2
   obtain ⟨x,rfl,y,rfl,rfl,h1,h2,hk⟩:=h
   exact ⟨_,_,_,.pure _ rfl (uP x y _ _ h1 h2),hk⟩
 · exact h.elim
structure Ok (v:Vl):Prop where
 one:One v
 len:v.length≤1099511627776
 all:∀ n ∈ v,Zc n
theorem Ok.parts {v:Vl}(h:Ok v):(bP v).length≤1099511627776∧(fF v).length≤1099511627776∧∀ p ∈ bP v,Ok p∧p.length+1≤v.length:=by
 cases v with
 | nil=>exact absurd rfl h.one.ne
 | cons n r=>
  obtain ⟨hm,ps,h1,h2,h3⟩:=h.one.parts
  have hpl:=eO _ _ _ h1
  have hpn:=bS _ _ _ h1
  have hlen:=h.len
  simp only [List.length_cons] at hlen
  refine ⟨?_,?_,?_⟩
  · rw [bP,(gq h1).1,List.length_map];omega
  · rw [fF];split
    · rw [(gq h1).2,List.length_map];omega
    · simp
  · intro p hp
    rw [bP,(gq h1).1] at hp
    obtain ⟨q,hq,rfl⟩:=List.mem_map.1 hp
    have XD:=lm hq
    rw [h2] at XD
    refine ⟨⟨(h3 q hq).jX,by rw [gW];omega,?_⟩,by rw [gW,List.length_cons];omega⟩
    have hin:∀ x ∈ q,Zc x:=fun x hx=>h.all x (List.mem_cons_of_mem _ (by rw [← h2];exact List.mem_flatten.2 ⟨q,hq,hx⟩))
    intro x hx
    cases q with
    | nil=>cases hx
    | cons m s=>
     rcases List.mem_cons.1 hx with rfl | hx
     · exact hin m (List.mem_cons_self ..)
     · exact hin x (List.mem_cons_of_mem _ hx)
theorem zh:∀ (f:Nat) (a b:Vl),a.length≤f→Ok a→Ok b→ai Tryz.prog 128 [aS a,aS b] [] (.int .i64 (r9 f a b)) []
 | 0,a,b,h,ha,_=>by have:=ha.one.ne;cases a <;> simp at h this
 | f+1,[],b,_,ha,_=>absurd rfl ha.one.ne
 | f+1,n::r,[],_,_,hb=>absurd rfl hb.one.ne
 | f+1,n::r,m::q,h,ha,hb=>by
  have hpa:=ha.parts
  have hpb:=hb.parts
  have ih:∀ p ∈ bP (n::r),∀ p' ∈ bP (m::q),ai Tryz.prog 128 [aS p,aS p'] [] (.int .i64 (r9 f p p')) []:=
   fun p hp p' hp'=>zh f p p' (by have:=(hpa.2.2 p hp).2;omega) (hpa.2.2 p hp).1 (hpb.2.2 p' hp').1
  refine Ol.pure (T:=aR Tryz.prog [(145,xS),(146,xV),(147,xU),(148,Ma),(149,BJ),(151,BI),(150,(UE f))]) 0 hD (aj (af G6 (af L_ (af G7 (af Ww (af Pm (af Pk (af (Zd f) ah)))))))) aZ (by decide) ?_
  (conv=>arg 4;cbv);simp(maxSteps:=400000)only[↓aT,aU,BEq.rfl,reduceIte,reduceCtorEq,Nat.reduceLT,Nat.reduceAdd,Nat.reduceSub,Nat.reduceMul,Nat.reduceBEq,Nat.reduceLeDiff,Int.reduceToNat,Int.reduceLE,↓xS,↓xV,↓xU,↓Ma,↓BJ,↓BI,↓UE]
  have e1:Zc n:=ha.all n (List.mem_cons_self ..)
  have e2:Zc m:=hb.all m (List.mem_cons_self ..)
  have l1:r.length≤1099511627775:=by have:=ha.len;simp only [List.length_cons] at this;omega
  have l2:q.length≤1099511627775:=by have:=hb.len;simp only [List.length_cons] at this;omega
  have l3:(bP (n::r)).length≤9223372036854775807:=by have:=hpa.1;omega
  have l4:(fF (n::r)).length≤9223372036854775807:=by have:=hpa.2.1;omega
  have l5:(fF (m::q)).length≤9223372036854775807:=by have:=hpb.2.1;omega
  refine ⟨fun hk=>?_,fun hk=>?_⟩
  · have hk:n.kind=m.kind:=(pJ.zero _ _ trivial trivial).1 hk
    have k0:¬ (n.kind≠m.kind):=fun h=>h hk
    refine ⟨fun h3=>⟨e1,e2,?_⟩,fun h3=>⟨fun h4=>?_,fun h4=>⟨fun h6=>⟨l1,ha.one,l2,hb.one,l4,l5,fun hl=>⟨l1,ha.one,l2,hb.one,l3,ih,?_⟩,fun hl=>?_⟩,fun h6=>⟨fun h5=>⟨l1,ha.one,l2,hb.one,l3,ih,?_⟩,fun h5=>?_⟩⟩⟩⟩
    · simp only [r9,jB,if_neg k0,if_pos h3]
    · simp only [r9,jB,if_neg k0,if_neg h3,if_pos h4]
    · have h5:¬ n.kind=5:=by omega
      have h6':m.kind=6:=by omega
      simp only [fF,if_pos h6,if_pos h6'] at hl
      simp only [r9,jB,if_neg k0,if_neg h3,if_neg h4,if_neg h5,if_pos h6,if_pos hl,bP]
    · have h5:¬ n.kind=5:=by omega
      have h6':m.kind=6:=by omega
      simp only [fF,if_pos h6,if_pos h6'] at hl ⊢
      simp only [r9,jB,if_neg k0,if_neg h3,if_neg h4,if_neg h5,if_pos h6,if_neg hl]
    · simp only [r9,jB,if_neg k0,if_neg h3,if_neg h4,if_pos h5,bP]
    · simp only [r9,jB,if_neg k0,if_neg h3,if_neg h4,if_neg h5,if_neg h6]
  · have hk':n.kind≠m.kind:=fun h=>hk ((pJ.zero _ _ trivial trivial).2 h)
    simp only [r9,jB,if_pos hk']
def xW (f:Nat):dD:=fun args objs K=>match args with
 | [a0,a1]=>fE aS a0 (HK.mk:HK fun a=>fE aS a1 (HK.mk:HK fun b=>(a.length≤f)∧(Ok a)∧(Ok b)∧K (.int .i64 (r9 f a b)) objs 0))
 | _=>False
theorem Mc (f:Nat):aB Tryz.prog 128 (xW f):=by
 intro args objs K h
 unfold xW at h
 split at h
 · rename_i a0 a1
   obtain ⟨a,rfl,b,rfl,h1,h2,h3,hk⟩:=h
   exact ⟨_,_,_,.pure _ rfl (zh f a b h1 h2 h3),hk⟩
 · exact h.elim
end Lp
namespace Lp
open Go Go.Proofs
open Nat (lt_or_ge reduceAdd reduceLeDiff reduceMul reduceSub)
open Int (reduceLE reduceToNat)
def En (a b:Bool):Int:=if b then 0 else if a then -1 else 1
theorem Wx (a b:Bool):ai Tryz.prog 78 [.bool a,.bool b] [] (.int .i64 (En a b)) []:=by
 refine A9.bf (T:=aR Tryz.prog []) 0 hD (aj ah) aZ (by decide) fun Q hQ=>?_
 cases a <;> cases b
 all_goals (conv=>arg 4;cbv);simp(maxSteps:=400000)only[↓aT,aU,BEq.rfl,reduceIte,reduceCtorEq,Nat.reduceLT,reduceAdd,reduceSub,reduceMul,Nat.reduceBEq,reduceLeDiff,reduceToNat,reduceLE,hQ,En]
def gL:dD:=fun args objs K=>match args with
 | [.bool a,.bool b]=>K (.int .i64 (En a b)) objs 0
 | _=>False
theorem z8:aB Tryz.prog 78 (gL):=by
 intro args objs K h
 unfold gL at h
 split at h
 · rename_i a b
   have hk:=h
   exact ⟨_,_,_,.pure _ rfl (Wx a b),hk⟩
 · exact h.elim
theorem Kq {α:Type}(f:α→α→Int) (a b:List α) (h:a=[]∨b=[]):eP f a b=En (decide ((a.length:Int)<b.length)) (decide ((a.length:Int)=b.length)):=by
 rcases h with rfl | rfl
 · cases b with
   | nil=>rfl
   | cons y ys=>
    have h1:decide ((([]:List α).length:Int)<((y::ys).length:Int))=true:=by simp <;> omega
    have h2:decide ((([]:List α).length:Int)=((y::ys).length:Int))=false:=by simp <;> omega
    rw [h1,h2];rfl
 · cases a with
   | nil=>rfl
   | cons y ys=>
    have h1:decide (((y::ys).length:Int)<(([]:List α).length:Int))=false:=by simp <;> omega
    have h2:decide (((y::ys).length:Int)=(([]:List α).length:Int))=false:=by simp <;> omega
    rw [h1,h2];rfl
theorem Je (a b:List (List UInt8)) (ha:a.length≤1000000) (hb:b.length≤1000000):ai Tryz.prog 81 [kr a,kr b] [] (.int .i64 (eP jJ a b)) []:=by
 refine zL.bf (T:=aR Tryz.prog [(78,gL)]) 0 hD (aj (af z8 ah)) aZ (by decide) fun Q hQ=>?_
 (conv=>arg 4;cbv);simp(maxSteps:=400000)only[↓aT,aU,BEq.rfl,reduceIte,reduceCtorEq,Nat.reduceLT,reduceAdd,reduceSub,reduceMul,Nat.reduceBEq,reduceLeDiff,reduceToNat,reduceLE,hQ]
 refine aH (fun m S=>∃ i:Nat,i+m=a.length∧i≤b.length∧eP jJ (a.drop i) (b.drop i)=eP jJ a b∧S=⟨dH 48 [(0,kr a),(1,kr b),(5,.int .i64 i)],[]⟩) a.length ⟨0,by omega,by omega,rfl,?_⟩ ?_
 · simp only [bV,keepR,reduceAdd,ng,Nat.reduceBEq,List.map_nil]
   rfl
 rintro m S ⟨i,him,hib,hlx,rfl⟩
 have zi:(0≤(i:Int))=True:=eq_true (by omega)
 have fin:a.length≤i∨b.length≤i→eP jJ a b=En (decide ((a.length:Int)<b.length)) (decide ((a.length:Int)=b.length)):=by
  intro h
  rw [← hlx,Kq]
  · simp only [List.length_drop]
    congr 1
    · exact decide_eq_decide.2 (by omega)
    · exact decide_eq_decide.2 (by omega)
  · rcases h with h | h
    · exact .inl (List.drop_eq_nil_of_le h)
    · exact .inr (List.drop_eq_nil_of_le h)
 rcases lt_or_ge i a.length with h | h
 rotate_left 1
 · have hlt:((i:Int)<(a.length:Int))=False:=eq_false (by omega)
   simp(maxSteps:=400000)only[↓aT,aU,BEq.rfl,reduceIte,reduceCtorEq,Nat.reduceLT,reduceAdd,reduceSub,reduceMul,Nat.reduceBEq,reduceLeDiff,reduceToNat,reduceLE,hQ,hlt,↓gL]
   rw [fin (.inl h)]
 have hlt:((i:Int)<(a.length:Int))=True:=eq_true (by omega)
 rcases lt_or_ge i b.length with h' | h'
 rotate_left 1
 · have hlt2:((i:Int)<(b.length:Int))=False:=eq_false (by omega)
   simp(maxSteps:=400000)only[↓aT,aU,BEq.rfl,reduceIte,reduceCtorEq,Nat.reduceLT,reduceAdd,reduceSub,reduceMul,Nat.reduceBEq,reduceLeDiff,reduceToNat,reduceLE,hQ,hlt,hlt2,↓gL]
   rw [fin (.inr h')]
 have hlt2:((i:Int)<(b.length:Int))=True:=eq_true (by omega)
 have ga:=List.getElem?_eq_getElem h
 have gb:=List.getElem?_eq_getElem h'
 have da:=List.drop_eq_getElem_cons h
 have db:=List.drop_eq_getElem_cons h'
 generalize a[i]=x at ga da
 generalize b[i]=y at gb db
 rw [da,db,eP] at hlx
 by_cases hxy:x=y
 · subst hxy
   rw [if_pos ((CG.zero _ _ trivial trivial).2 rfl)] at hlx
   simp(maxSteps:=400000)only[↓aT,aU,BEq.rfl,reduceIte,reduceCtorEq,Nat.reduceLT,reduceAdd,reduceSub,reduceMul,Nat.reduceBEq,reduceLeDiff,reduceToNat,reduceLE,hQ,hlt,hlt2,zi,ga,gb,↓gL]
   exact ⟨⟨by omega,by omega⟩,m-1,by omega,i+1,by omega,by omega,hlx,by simp⟩
 · have hne:jJ x y≠0:=fun h=>hxy ((CG.zero _ _ trivial trivial).1 h)
   rw [if_neg hne] at hlx
   simp(maxSteps:=400000)only[↓aT,aU,BEq.rfl,reduceIte,reduceCtorEq,Nat.reduceLT,reduceAdd,reduceSub,reduceMul,Nat.reduceBEq,reduceLeDiff,reduceToNat,reduceLE,hQ,hlt,hlt2,zi,ga,gb,hxy,↓gL]
   rw [← hlx]
   rcases j4 x y with ⟨h1,e1⟩ | ⟨h1,_⟩ | ⟨h1,e1⟩
   · rw [e1,h1];rfl
   · exact absurd h1 hxy
   · rw [e1,l7 _ _ h1];rfl
def qY:dD:=fun args objs K=>match args with
 | [a0,a1]=>fE kr a0 (HK.mk:HK fun a=>fE kr a1 (HK.mk:HK fun b=>(a.length≤1000000)∧(b.length≤1000000)∧K (.int .i64 (eP jJ a b)) objs 0))
 | _=>False
theorem G8:aB Tryz.prog 81 (qY):=by
 intro args objs K h
 unfold qY at h
 split at h
 · rename_i a0 a1
   obtain ⟨a,rfl,b,rfl,h1,h2,hk⟩:=h
   exact ⟨_,_,_,.pure _ rfl (Je a b h1 h2),hk⟩
 · exact h.elim
def BK (f:Vl→Vl→Int):dD:=fun args objs K=>match args with
 | [a0,a1]=>fE aS a0 (HK.mk:HK fun p=>fE aS a1 (HK.mk:HK fun q=>(ai Tryz.prog 51 [aS p,aS q] [] (.int .i64 (f p q)) [])∧K (.int .i64 (f p q)) objs 0))
 | _=>False
theorem Sn (f:Vl→Vl→Int):aB Tryz.prog 51 (BK f):=by
 intro args objs K h
 unfold BK at h
 split at h
 · rename_i a0 a1
   obtain ⟨p,rfl,q,rfl,h1,hk⟩:=h
   exact ⟨_,_,_,.pure _ rfl (h1),hk⟩
 · exact h.elim
theorem Md (f:Vl→Vl→Int) (a b:List Vl) (ha:a.length≤1000000) (hb:b.length≤1000000) (hf:∀ p ∈ a,∀ q ∈ b,ai Tryz.prog 51 [aS p,aS q] [] (.int .i64 (f p q)) []):ai Tryz.prog 80 [mJ a,mJ b] [] (.int .i64 (eP f a b)) []:=by
 refine A_.bf (T:=aR Tryz.prog [(51,(BK f)),(78,gL)]) 0 hD (aj (af (Sn f) (af z8 ah))) aZ (by decide) fun Q hQ=>?_
 (conv=>arg 4;cbv);simp(maxSteps:=400000)only[↓aT,aU,BEq.rfl,reduceIte,reduceCtorEq,Nat.reduceLT,reduceAdd,reduceSub,reduceMul,Nat.reduceBEq,reduceLeDiff,reduceToNat,reduceLE,hQ]
 refine aH (fun m S=>∃ i:Nat,i+m=a.length∧i≤b.length∧eP f (a.drop i) (b.drop i)=eP f a b∧S=⟨dH 42 [(0,mJ a),(1,mJ b),(5,.int .i64 i)],[]⟩) a.length ⟨0,by omega,by omega,rfl,?_⟩ ?_
 · simp only [bV,keepR,reduceAdd,ng,Nat.reduceBEq,List.map_nil]
   rfl
 rintro m S ⟨i,him,hib,hlx,rfl⟩
 have zi:(0≤(i:Int))=True:=eq_true (by omega)
 have fin:a.length≤i∨b.length≤i→eP f a b=En (decide ((a.length:Int)<b.length)) (decide ((a.length:Int)=b.length)):=by
  intro h
  rw [← hlx,Kq]
  · simp only [List.length_drop]
    congr 1
    · exact decide_eq_decide.2 (by omega)
    · exact decide_eq_decide.2 (by omega)
  · rcases h with h | h
    · exact .inl (List.drop_eq_nil_of_le h)
    · exact .inr (List.drop_eq_nil_of_le h)
 rcases lt_or_ge i a.length with h | h
 rotate_left 1
 · have hlt:((i:Int)<(a.length:Int))=False:=eq_false (by omega)
   simp(maxSteps:=400000)only[↓aT,aU,BEq.rfl,reduceIte,reduceCtorEq,Nat.reduceLT,reduceAdd,reduceSub,reduceMul,Nat.reduceBEq,reduceLeDiff,reduceToNat,reduceLE,hQ,hlt,↓gL]
   rw [fin (.inl h)]
 have hlt:((i:Int)<(a.length:Int))=True:=eq_true (by omega)
 rcases lt_or_ge i b.length with h' | h'
 rotate_left 1
 · have hlt2:((i:Int)<(b.length:Int))=False:=eq_false (by omega)
   simp(maxSteps:=400000)only[↓aT,aU,BEq.rfl,reduceIte,reduceCtorEq,Nat.reduceLT,reduceAdd,reduceSub,reduceMul,Nat.reduceBEq,reduceLeDiff,reduceToNat,reduceLE,hQ,hlt,hlt2,↓gL]
   rw [fin (.inr h')]
 have hlt2:((i:Int)<(b.length:Int))=True:=eq_true (by omega)
 have ga:=List.getElem?_eq_getElem h
 have gb:=List.getElem?_eq_getElem h'
 have da:=List.drop_eq_getElem_cons h
 have db:=List.drop_eq_getElem_cons h'
 have hfx:=hf _ (List.getElem_mem h) _ (List.getElem_mem h')
 generalize a[i]=x at ga da hfx
 generalize b[i]=y at gb db hfx
 rw [da,db,eP] at hlx
 by_cases hxy:f x y=0
 · rw [if_pos hxy] at hlx
   simp(maxSteps:=400000)only[↓aT,aU,BEq.rfl,reduceIte,reduceCtorEq,Nat.reduceLT,reduceAdd,reduceSub,reduceMul,Nat.reduceBEq,reduceLeDiff,reduceToNat,reduceLE,hQ,hlt,hlt2,zi,ga,gb,hxy,↓gL,↓BK]
   exact ⟨by rw [← hxy];exact hfx,⟨by omega,by omega⟩,m-1,by omega,i+1,by omega,by omega,hlx,by simp⟩
 · rw [if_neg hxy] at hlx
   simp(maxSteps:=400000)only[↓aT,aU,BEq.rfl,reduceIte,reduceCtorEq,Nat.reduceLT,reduceAdd,reduceSub,reduceMul,Nat.reduceBEq,reduceLeDiff,reduceToNat,reduceLE,hQ,hlt,hlt2,zi,ga,gb,hxy,↓gL,↓BK]
   exact ⟨hfx,by rw [hlx]⟩
end Lp
namespace Lp
open Go Go.Proofs
open Nat (reduceAdd reduceLeDiff reduceMul reduceSub)
open Int (reduceEq reduceLE reduceToNat)
structure Ok2 (v:Vl):Prop where
 one:One v
 len:v.length≤1000000
 all:∀ n ∈ v,n.kind=3→BH n
theorem Ok2.parts {v:Vl}(h:Ok2 v):(bP v).length≤1000000∧(fF v).length≤1000000∧∀ p ∈ bP v,Ok2 p∧p.length+1≤v.length:=by
 cases v with
 | nil=>exact absurd rfl h.one.ne
 | cons n r=>
  obtain ⟨hm,ps,h1,h2,h3⟩:=h.one.parts
  have hpl:=eO _ _ _ h1
  have hpn:=bS _ _ _ h1
  have hlen:=h.len
  simp only [List.length_cons] at hlen
  refine ⟨?_,?_,?_⟩
  · rw [bP,(gq h1).1,List.length_map];omega
  · rw [fF];split
    · rw [(gq h1).2,List.length_map];omega
    · simp
  · intro p hp
    rw [bP,(gq h1).1] at hp
    obtain ⟨q,hq,rfl⟩:=List.mem_map.1 hp
    have XD:=lm hq
    rw [h2] at XD
    refine ⟨⟨(h3 q hq).jX,by rw [gW];omega,?_⟩,by rw [gW,List.length_cons];omega⟩
    have hin:∀ x ∈ q,x.kind=3→BH x:=fun x hx=>h.all x (List.mem_cons_of_mem _ (by rw [← h2];exact List.mem_flatten.2 ⟨q,hq,hx⟩))
    intro x hx
    cases q with
    | nil=>cases hx
    | cons m s=>
     rcases List.mem_cons.1 hx with rfl | hx
     · intro hk
       have:=hin m (List.mem_cons_self ..) hk
       exact ⟨this.len,this.fU,this.lo,this.hi⟩
     · exact hin x (List.mem_cons_of_mem _ hx)
def BL (f:Vl→Vl→Int):dD:=fun args objs K=>match args with
 | [a0,a1]=>fE mJ a0 (HK.mk:HK fun x=>fE mJ a1 (HK.mk:HK fun y=>(x.length≤1000000)∧(y.length≤1000000)∧(∀ p ∈ x,∀ q ∈ y,ai Tryz.prog 51 [aS p,aS q] [] (.int .i64 (f p q)) [])∧K (.int .i64 (eP f x y)) objs 0))
 | _=>False
theorem Sq (f:Vl→Vl→Int):aB Tryz.prog 80 (BL f):=by
 intro args objs K h
 unfold BL at h
 split at h
 · rename_i a0 a1
   obtain ⟨x,rfl,y,rfl,h1,h2,h3,hk⟩:=h
   exact ⟨_,_,_,.pure _ rfl (Md f x y h1 h2 h3),hk⟩
 · exact h.elim
theorem G9 {a b a' b':Nd}(h1:∀ p,ze a p=ze a' p) (h2:∀ p,ze b p=ze b' p):∀ (k:Nat) (p:Int),mQ a b k p=mQ a' b' k p
 | 0,_=>rfl
 | k+1,p=>by simp only [mQ,h1,h2,G9 h1 h2 k]
theorem Sr (n m:Nd) (k l:Int) (x y:List UInt8):kZ { n with kind:=k,name:=x } { m with kind:=l,name:=y }=kZ n m:=by
 have hd:∀ (j:Nat) (p:Int),mQ { n with kind:=k,name:=x } { m with kind:=l,name:=y } j p=mQ n m j p:=G9 (fun _=>rfl) (fun _=>rfl)
 simp only [kZ,hd]
 rfl
theorem BM:∀ (f:Nat) (a b:Vl),a.length≤f→Ok2 a→Ok2 b→ai Tryz.prog 51 [aS a,aS b] [] (.int .i64 (jB kZ f a b)) []
 | 0,a,b,h,ha,_=>by have:=ha.one.ne;cases a <;> simp at h this
 | f+1,[],b,_,ha,_=>absurd rfl ha.one.ne
 | f+1,n::r,[],_,_,hb=>absurd rfl hb.one.ne
 | f+1,n::r,m::q,h,ha,hb=>by
  have hpa:=ha.parts
  have hpb:=hb.parts
  have ih:∀ p ∈ bP (n::r),∀ p' ∈ bP (m::q),ai Tryz.prog 51 [aS p,aS p'] [] (.int .i64 (jB kZ f p p')) []:=
   fun p hp p' hp'=>BM f p p' (by have:=(hpa.2.2 p hp).2;omega) (hpa.2.2 p hp).1 (hpb.2.2 p' hp').1
  have l1:=ha.len
  have l2:=hb.len
  have o1:=ha.one
  have o2:=hb.one
  generalize hA:n::r=A at *
  generalize hB:m::q=B at *
  have ga:A[0]?=some n:=by rw [← hA];rfl
  have gb:B[0]?=some m:=by rw [← hB];rfl
  have na:=ha.all n (by rw [← hA];exact List.mem_cons_self ..)
  have nb:=hb.all m (by rw [← hB];exact List.mem_cons_self ..)
  have pA:bP A=partsOf n r:=by rw [← hA];rfl
  have pB:bP B=partsOf m q:=by rw [← hB];rfl
  have sA:fF A=if n.kind=6 then ug n r else []:=by rw [← hA];rfl
  have sB:fF B=if m.kind=6 then ug m q else []:=by rw [← hB];rfl
  have res:jB kZ (f+1) A B=jB kZ (f+1) (n::r) (m::q):=by rw [hA,hB]
  refine Dc.bf (T:=aR Tryz.prog [(78,gL),(79,xR),(42,oG),(82,nU),(81,qY),(80,(BL (jB kZ f)))]) 0 hD (aj (af z8 (af LZ (af GR (af Dt (af G8 (af (Sq (jB kZ f)) ah))))))) aZ (by decide) fun Q hQ=>?_
  by_cases hk:n.kind=m.kind
  rotate_left 1
  · (conv=>arg 4;cbv);simp(maxSteps:=400000)only[↓aT,aU,BEq.rfl,reduceIte,reduceCtorEq,Nat.reduceLT,reduceAdd,reduceSub,reduceMul,Nat.reduceBEq,reduceLeDiff,reduceToNat,reduceLE,hQ,ga,gb,hk,↓gL]
    have:jB kZ (f+1) A B=En (decide (n.kind<m.kind)) false:=by
     rw [res]
     simp only [jB,ne_eq,hk,not_false_eq_true,if_true,t_,En,decide_eq_true_eq,Bool.false_eq_true,if_false]
     split
     · rfl
     · rw [if_pos (by omega)]
    rw [this]
  by_cases h3:n.kind=3
  · have h3':m.kind=3:=by omega
    have e3:jB kZ (f+1) A B=kZ n m:=by
     rw [res];simp [jB,hk,h3']
    (conv=>arg 4;cbv);simp(maxSteps:=400000)only[↓aT,aU,BEq.rfl,reduceIte,reduceCtorEq,Nat.reduceLT,reduceAdd,reduceSub,reduceMul,Nat.reduceBEq,reduceLeDiff,reduceToNat,reduceLE,hQ,ga,gb,h3,h3',↓gL,↓xR,reduceEq,bN,bO]
    refine ⟨by decide,?_,?_,?_⟩
    · have:=na h3;exact ⟨this.len,this.fU,this.lo,this.hi⟩
    · have:=nb h3';exact ⟨this.len,this.fU,this.lo,this.hi⟩
    · rw [e3];exact congrArg _ (Sr n m 3 3 [] []).symm
  by_cases h4:n.kind=4
  · have h4':m.kind=4:=by omega
    (conv=>arg 4;cbv);simp(maxSteps:=400000)only[↓aT,aU,BEq.rfl,reduceIte,reduceCtorEq,Nat.reduceLT,reduceAdd,reduceSub,reduceMul,Nat.reduceBEq,reduceLeDiff,reduceToNat,reduceLE,hQ,ga,gb,h4,h4',↓gL,reduceEq]
    have e4:jB kZ (f+1) A B=jJ n.s m.s:=by
     rw [res];simp [jB,hk,h4']
    rw [e4]
    rcases j4 n.s m.s with ⟨g1,e1⟩ | ⟨g1,e1⟩ | ⟨g1,e1⟩
    · have:n.s≠m.s:=fun hh=>by rw [hh,d9] at g1;cases g1
      rw [e1,g1,decide_eq_false this];rfl
    · rw [e1,decide_eq_true g1];rfl
    · have:n.s≠m.s:=fun hh=>by rw [hh,d9] at g1;cases g1
      rw [e1,decide_eq_false this,l7 _ _ g1];rfl
  by_cases h5:n.kind=5
  · have h5':m.kind=5:=by omega
    (conv=>arg 4;cbv);simp(maxSteps:=400000)only[↓aT,aU,BEq.rfl,reduceIte,reduceCtorEq,Nat.reduceLT,reduceAdd,reduceSub,reduceMul,Nat.reduceBEq,reduceLeDiff,reduceToNat,reduceLE,hQ,ga,gb,h5,h5',↓gL,reduceEq,↓oG,↓BL]
    have e5:jB kZ (f+1) A B=eP (jB kZ f) (bP A) (bP B):=by
     rw [res,pA,pB];simp [jB,hk,h5']
    exact ⟨o1,l1,o2,l2,hpa.1,hpb.1,ih,by rw [e5]⟩
  by_cases h6:n.kind=6
  · have h6':m.kind=6:=by omega
    (conv=>arg 4;cbv);simp(maxSteps:=400000)only[↓aT,aU,BEq.rfl,reduceIte,reduceCtorEq,Nat.reduceLT,reduceAdd,reduceSub,reduceMul,Nat.reduceBEq,reduceLeDiff,reduceToNat,reduceLE,hQ,ga,gb,h6,h6',↓gL,reduceEq,↓oG,↓BL,↓nU,↓qY]
    have e6:jB kZ (f+1) A B=if eP jJ (fF A) (fF B)=0 then eP (jB kZ f) (bP A) (bP B) else eP jJ (fF A) (fF B):=by
     rw [res,pA,pB,sA,sB,if_pos h6,if_pos h6'];simp [jB,hk,h6']
    refine ⟨o1,l1,o2,l2,hpa.2.1,hpb.2.1,fun hz=>⟨o1,l1,o2,l2,hpa.1,hpb.1,ih,?_⟩,fun hz=>?_⟩
    · rw [e6,if_pos hz]
    · rw [e6,if_neg hz]
  · have e0:jB kZ (f+1) A B=0:=by
     rw [res];simp only [jB,hk,ne_eq,not_true_eq_false,if_false,hk ▸ h3,hk ▸ h4,hk ▸ h5,hk ▸ h6]
    (conv=>arg 4;cbv);simp(maxSteps:=400000)only[↓aT,aU,BEq.rfl,reduceIte,reduceCtorEq,Nat.reduceLT,reduceAdd,reduceSub,reduceMul,Nat.reduceBEq,reduceLeDiff,reduceToNat,reduceLE,hQ,ga,gb,hk ▸ h3,hk ▸ h4,hk ▸ h5,hk ▸ h6,hk,↓gL,e0]
def FC (f:Nat):dD:=fun args objs K=>match args with
 | [a0,a1]=>fE aS a0 (HK.mk:HK fun a=>fE aS a1 (HK.mk:HK fun b=>(a.length≤f)∧(Ok2 a)∧(Ok2 b)∧K (.int .i64 (jB kZ f a b)) objs 0))
 | _=>False
theorem Sv (f:Nat):aB Tryz.prog 51 (FC f):=by
 intro args objs K h
 unfold FC at h
 split at h
 · rename_i a0 a1
   obtain ⟨a,rfl,b,rfl,h1,h2,h3,hk⟩:=h
   exact ⟨_,_,_,.pure _ rfl (BM f a b h1 h2 h3),hk⟩
 · exact h.elim
end Lp
namespace Lp
open Go
theorem Me {v:Vl}(h:dI v=true):∀ n ∈ v,bH n=true:=by
 have hg:=(xw h).good
 intro n hn
 obtain ⟨i,hi,rfl⟩:=List.getElem_of_mem hn
 exact (hg i v[i] (v.drop (i+1)) (List.drop_eq_getElem_cons hi)).1
theorem qw {n:Nd}(h:bH n=true) (hk:n.kind=3):rC n=true:=by
 rw [bH,if_neg (by omega),if_pos hk] at h
 exact h
theorem UF {n:Nd}(h:rC n=true):BH n:=by
 have:=(oD n).1 h
 exact ⟨by omega,this.2.1,by omega,by omega⟩
theorem Wy {n:Nd}(h:bH n=true) (hs:n.s.length≤1000000):Zc n:=by
 refine ⟨hs,?_⟩
 by_cases h3:n.kind=3
 · have:=UF (qw h h3)
   exact ⟨this.lo,this.hi⟩
 · have he:n.e=0:=by
    unfold bH at h
    split at h
    · simp only [Bool.and_eq_true,beq_iff_eq] at h;exact h.2
    · split at h
      · simp only [Bool.and_eq_true,beq_iff_eq] at h;exact h.2
      · split at h
        · simp only [Bool.and_eq_true,beq_iff_eq] at h;exact h.2
        · cases h
   omega
structure aea (v:Vl) (k:Nat):Prop where
 len:v.length≤k
 rt:Rt v
 ok:Ok v
 ok2:Ok2 v
end Lp
namespace Lp
open Go
open List (drop_eq_nil_of_le)
def tu:List UInt8→List UInt8→Int
 | [],[]=>0
 | [],y::ys=>if 48<y.toNat then -1 else tu [] ys
 | x::xs,[]=>if 48<x.toNat then 1 else tu xs []
 | x::xs,y::ys=>if x.toNat<y.toNat then -1 else if y.toNat<x.toNat then 1 else tu xs ys
theorem Pn {s:List UInt8}(h:fU s=true):∀ c ∈ s,48≤c.toNat∧c.toNat≤57:=by
 intro c hc
 obtain ⟨i,hi,rfl⟩:=List.getElem_of_mem hc
 exact qp h (List.getElem?_eq_getElem hi)
theorem Mf (n:Nd) (i:Nat):ze n ((n.s.length:Int)+n.e-1-i)=match n.s[i]? with | some c=>(c.toNat:Int)-48 | none=>0:=by
 have e:(n.s.length:Int)-1-((n.s.length:Int)+n.e-1-i-n.e)=i:=by omega
 simp only [ze,e]
 rw [if_neg (by omega),Int.toNat_natCast]
 try rfl
theorem Po (a b:Nd) (ha:fU a.s=true) (hb:fU b.s=true) (ht:(a.s.length:Int)+a.e=b.s.length+b.e):∀ (k i:Nat),a.s.length≤i+k→b.s.length≤i+k→mQ a b k ((a.s.length:Int)+a.e-1-i)=tu (a.s.drop i) (b.s.drop i)
 | 0,i,h1,h2=>by
  rw [drop_eq_nil_of_le (by omega),drop_eq_nil_of_le (by omega)]
  simp only [mQ,tu]
 | k+1,i,h1,h2=>by
  have ih:=Po a b ha hb ht k (i+1) (by omega) (by omega)
  have e:(a.s.length:Int)+a.e-1-((i+1:Nat):Int)=(a.s.length:Int)+a.e-1-i-1:=by omega
  rw [e] at ih
  have fa:=Mf a i
  have fb:=Mf b i
  rw [← ht] at fb
  simp only [mQ,ih]
  rcases Nat.lt_or_ge i a.s.length with la | la <;> rcases Nat.lt_or_ge i b.s.length with lb | lb
  · rw [List.getElem?_eq_getElem la] at fa
    rw [List.getElem?_eq_getElem lb] at fb
    simp only at fa fb
    rw [List.drop_eq_getElem_cons la,List.drop_eq_getElem_cons lb,tu,fa,fb]
    by_cases c1:a.s[i].toNat<b.s[i].toNat
    · rw [if_pos (by omega),if_pos c1]
    · rw [if_neg (by omega),if_neg c1]
      by_cases c2:b.s[i].toNat<a.s[i].toNat
      · rw [if_pos (by omega),if_pos c2]
      · rw [if_neg (by omega),if_neg c2]
  · rw [List.getElem?_eq_getElem la] at fa
    rw [List.getElem?_eq_none lb] at fb
    simp only at fa fb
    have:=qp ha (List.getElem?_eq_getElem la)
    rw [List.drop_eq_getElem_cons la,drop_eq_nil_of_le lb,drop_eq_nil_of_le (by omega:b.s.length≤i+1),tu,fa,fb]
    by_cases c1:48<a.s[i].toNat
    · rw [if_neg (by omega),if_pos (by omega),if_pos c1]
    · rw [if_neg (by omega),if_neg (by omega),if_neg c1]
  · rw [List.getElem?_eq_none la] at fa
    rw [List.getElem?_eq_getElem lb] at fb
    simp only at fa fb
    have:=qp hb (List.getElem?_eq_getElem lb)
    rw [List.drop_eq_getElem_cons lb,drop_eq_nil_of_le la,drop_eq_nil_of_le (by omega:a.s.length≤i+1),tu,fa,fb]
    by_cases c1:48<b.s[i].toNat
    · rw [if_pos (by omega),if_pos c1]
    · rw [if_neg (by omega),if_neg (by omega),if_neg c1]
  · rw [List.getElem?_eq_none la] at fa
    rw [List.getElem?_eq_none lb] at fb
    simp only at fa fb
    rw [drop_eq_nil_of_le la,drop_eq_nil_of_le lb,drop_eq_nil_of_le (by omega:a.s.length≤i+1),drop_eq_nil_of_le (by omega:b.s.length≤i+1),fa,fb]
    simp
theorem G_:∀ ys:List UInt8,(∀ c ∈ ys,48≤c.toNat)→ys≠[]→ys.getLast?≠some 48→tu [] ys=-1
 | [],_,h,_=>absurd rfl h
 | [y],hf,_,hl=>by
  have h1:=hf y (List.mem_cons_self ..)
  have h2:y.toNat≠48:=fun h=>hl (by rw [List.getLast?_singleton];congr 1;exact UInt8.toNat_inj.1 (by simpa using h))
  rw [tu,if_pos (by omega)]
 | y::z::ys,hf,_,hl=>by
  rw [tu]
  split
  · rfl
  · exact G_ (z::ys) (fun c hc=>hf c (List.mem_cons_of_mem _ hc)) (by simp) (by rwa [List.getLast?_cons_cons] at hl)
theorem xX:∀ xs ys:List UInt8,tu ys xs=-tu xs ys
 | [],[]=>by simp [tu]
 | [],y::ys=>by
  simp only [tu];split
  · rfl
  · exact xX [] ys
 | x::xs,[]=>by
  simp only [tu];split
  · rfl
  · exact xX xs []
 | x::xs,y::ys=>by
  simp only [tu]
  have:=xX xs ys
  repeat' split
  all_goals omega
theorem Pp:∀ xs ys:List UInt8,(∀ c ∈ xs,48≤c.toNat)→(∀ c ∈ ys,48≤c.toNat)→xs.getLast?≠some 48→ys.getLast?≠some 48→tu xs ys=jJ xs ys
 | [],[],_,_,_,_=>by simp [tu,jJ,Op.bytesLess]
 | [],y::ys,_,hb,_,lb=>by rw [G_ (y::ys) hb (by simp) lb];rfl
 | x::xs,[],ha,_,la,_=>by rw [xX,G_ (x::xs) ha (by simp) la];rfl
 | x::xs,y::ys,ha,hb,la,lb=>by
  have hla:xs.getLast?≠some 48:=by
   cases xs with
   | nil=>simp
   | cons z zs=>rwa [List.getLast?_cons_cons] at la
  have hlb:ys.getLast?≠some 48:=by
   cases ys with
   | nil=>simp
   | cons z zs=>rwa [List.getLast?_cons_cons] at lb
  have ih:=Pp xs ys (fun c hc=>ha c (List.mem_cons_of_mem _ hc)) (fun c hc=>hb c (List.mem_cons_of_mem _ hc)) hla hlb
  rw [tu]
  by_cases h1:x.toNat<y.toNat
  · have:x<y:=UInt8.lt_iff_toNat_lt.2 h1
    rw [if_pos h1]
    simp [jJ,Op.bytesLess,this]
  · rw [if_neg h1]
    have hn:¬ x<y:=fun h=>h1 (UInt8.lt_iff_toNat_lt.1 h)
    by_cases h2:y.toNat<x.toNat
    · have hxy:x≠y:=fun h=>by rw [h] at h2;omega
      rw [if_pos h2]
      simp [jJ,Op.bytesLess,hn,hxy]
    · have hxy:x=y:=UInt8.toNat_inj.1 (by omega)
      subst hxy
      rw [if_neg h2,ih]
      simp [jJ,Op.bytesLess]
theorem iE (n:Nd) (p:Int) (h:(n.s.length:Int)+n.e≤p):ze n p=0:=by
 simp only [ze]
 rw [if_pos (by omega)]
theorem xY (n:Nd) (hf:fU n.s=true) (hs:n.s≠[]) (hh:n.s.head?≠some 48):0<ze n ((n.s.length:Int)+n.e-1):=by
 have h:=Mf n 0
 cases hns:n.s with
 | nil=>exact absurd hns hs
 | cons c t=>
  have h0:n.s[0]?=some c:=by rw [hns];rfl
  rw [h0] at h
  simp only [Int.natCast_zero,Int.sub_zero] at h
  have hc:=qp hf h0
  have hne:c.toNat≠48:=fun he=>hh (by rw [hns,List.head?_cons];congr 1;exact UInt8.toNat_inj.1 (by simpa using he))
  rw [← hns,h]
  omega
theorem UG (a b:Nd) (k:Nat) (p:Int) (hk:2≤k) (h0:ze a p=ze b p) (h1:ze a (p-1)<ze b (p-1)):mQ a b k p=-1:=by
 obtain ⟨k,rfl⟩:∃ q,k=q+2:=⟨k-2,by omega⟩
 rw [mQ,if_neg (by omega),if_neg (by omega),mQ,if_pos h1]
theorem UH (a b:Nd) (k:Nat) (p:Int) (hk:2≤k) (h0:ze a p=ze b p) (h1:ze b (p-1)<ze a (p-1)):mQ a b k p=1:=by
 obtain ⟨k,rfl⟩:∃ q,k=q+2:=⟨k-2,by omega⟩
 rw [mQ,if_neg (by omega),if_neg (by omega),mQ,if_neg (by omega),if_pos h1]
theorem Kr (a b:Nd) (h:∀ p,ze a p=ze b p):∀ (k:Nat) (p:Int),mQ a b k p=0
 | 0,_=>rfl
 | k+1,p=>by
  have:=h p
  rw [mQ,if_neg (by omega),if_neg (by omega)]
  exact Kr a b h k (p-1)
end Lp
namespace Lp
open Go
theorem Dy (a b:Nd) (t:Int) (h:∀ q,t≤q→ze a q=ze b q) (k:Nat):∀ d:Nat,mQ a b (k+d) (t+d)=mQ a b k t
 | 0=>by simp
 | d+1=>by
  have:=h (t+((d+1:Nat):Int)) (by omega)
  rw [show k+(d+1)=(k+d)+1 by omega,mQ,if_neg (by omega),if_neg (by omega),show t+((d+1:Nat):Int)-1=t+d by omega]
  exact Dy a b t h k d
theorem WA (a b:Nd) (ha:rC a=true) (hb:rC b=true):mQ a b (kP a b-jZ a b+1).toNat (kP a b)=oV a b:=by
 have A:=(oD a).1 ha
 have B:=(oD b).1 hb
 have hl:∀ x:Nd,x.s≠[]→0<x.s.length:=fun x h=>List.length_pos_iff.2 h
 have zero:∀ n:Nd,n.s=[]→∀ p,ze n p=0:=by
  intro n hn p
  simp only [ze,hn]
  split
  · rfl
  · simp
 by_cases sa:a.s=[]
 · have ea:a.e=0:=by have:=A.2.2.2.2.2.2;rw [if_pos sa] at this;exact this.2
   by_cases sb:b.s=[]
   · rw [Kr a b (fun p=>by rw [zero a sa,zero b sb]),oV,if_pos (.inl sa),sa,sb];rfl
   · have hb2:=B.2.2.2.2.2.2
     rw [if_neg sb] at hb2
     have hlb:=hl b sb
     have first:=xY b B.2.1 sb hb2.1
     rw [oV,if_pos (.inl sa),sa,t_,if_pos (by simp;omega)]
     have low:jZ a b≤b.e:=by unfold jZ;split <;> omega
     have htop:(b.s.length:Int)+b.e≤kP a b:=by unfold kP;split <;> omega
     have hsk:=Dy a b ((b.s.length:Int)+b.e) (fun q hq=>by rw [zero a sa,iE b q hq]) ((b.s.length:Int)+b.e-jZ a b+1).toNat (kP a b-(b.s.length+b.e)).toNat
     rw [show ((b.s.length:Int)+b.e-jZ a b+1).toNat+(kP a b-(b.s.length+b.e)).toNat=(kP a b-jZ a b+1).toNat by omega,show ((b.s.length:Int)+b.e)+((kP a b-(b.s.length+b.e)).toNat:Int)=kP a b by omega] at hsk
     rw [hsk]
     refine UG a b _ _ (by omega) ?_ ?_
     · rw [zero a sa,iE b _ (Int.le_refl _)]
     · rw [zero a sa];exact first
 by_cases sb:b.s=[]
 · have eb:b.e=0:=by have:=B.2.2.2.2.2.2;rw [if_pos sb] at this;exact this.2
   have ha2:=A.2.2.2.2.2.2
   rw [if_neg sa] at ha2
   have hla:=hl a sa
   have first:=xY a A.2.1 sa ha2.1
   rw [oV,if_pos (.inr sb),sb,t_,if_neg (by simp),if_pos (by simp;omega)]
   have low:jZ a b≤a.e:=by unfold jZ;split <;> omega
   have htop:(a.s.length:Int)+a.e≤kP a b:=by unfold kP;split <;> omega
   have hsk:=Dy a b ((a.s.length:Int)+a.e) (fun q hq=>by rw [zero b sb,iE a q hq]) ((a.s.length:Int)+a.e-jZ a b+1).toNat (kP a b-(a.s.length+a.e)).toNat
   rw [show ((a.s.length:Int)+a.e-jZ a b+1).toNat+(kP a b-(a.s.length+a.e)).toNat=(kP a b-jZ a b+1).toNat by omega,show ((a.s.length:Int)+a.e)+((kP a b-(a.s.length+a.e)).toNat:Int)=kP a b by omega] at hsk
   rw [hsk]
   refine UH a b _ _ (by omega) ?_ ?_
   · rw [zero b sb,iE a _ (Int.le_refl _)]
   · rw [zero b sb];exact first
 · have ha2:=A.2.2.2.2.2.2
   have hb2:=B.2.2.2.2.2.2
   rw [if_neg sa] at ha2
   rw [if_neg sb] at hb2
   have hla:=hl a sa
   have hlb:=hl b sb
   have fa:=xY a A.2.1 sa ha2.1
   have fb:=xY b B.2.1 sb hb2.1
   rw [oV,if_neg (by simp [sa,sb])]
   have low:jZ a b≤a.e∧jZ a b≤b.e:=by unfold jZ;split <;> omega
   by_cases ht:(a.s.length:Int)+a.e=b.s.length+b.e
   · rw [if_pos ((pJ.zero _ _ trivial trivial).2 ht)]
     have htop:kP a b=a.s.length+a.e:=by unfold kP;split <;> omega
     rw [htop]
     obtain ⟨k,hk⟩:∃ k,((a.s.length:Int)+a.e-jZ a b+1).toNat=k+1:=⟨((a.s.length:Int)+a.e-jZ a b).toNat,by omega⟩
     rw [hk,mQ,iE a _ (Int.le_refl _),iE b _ (by omega),if_neg (by omega),if_neg (by omega)]
     have:=Po a b A.2.1 B.2.1 ht k 0 (by omega) (by omega)
     simp only [Int.natCast_zero,Int.sub_zero,List.drop_zero] at this
     rw [this]
     exact Pp _ _ (fun c hc=>(Pn A.2.1 c hc).1) (fun c hc=>(Pn B.2.1 c hc).1) ha2.2 hb2.2
   · rw [if_neg (fun h=>ht ((pJ.zero _ _ trivial trivial).1 h))]
     rcases Int.lt_or_gt_of_ne ht with hlt | hgt
     · have htop:kP a b=b.s.length+b.e:=by unfold kP;split <;> omega
       rw [htop,t_,if_pos hlt]
       refine UG a b _ _ (by omega) ?_ ?_
       · rw [iE a _ (by omega),iE b _ (Int.le_refl _)]
       · rw [iE a _ (by omega)];exact fb
     · have htop:kP a b=a.s.length+a.e:=by unfold kP;split <;> omega
       rw [htop,t_,if_neg (by omega),if_pos hgt]
       refine UH a b _ _ (by omega) ?_ ?_
       · rw [iE b _ (by omega),iE a _ (Int.le_refl _)]
       · rw [iE b _ (by omega)];exact fa
theorem aaS (a b:Nd) (ha:rC a=true) (hb:rC b=true):kZ a b=UY a b:=by
 have h:=WA a b ha hb
 have h2:=QT a b
 simp only [kZ,h]
 cases hx:a.neg <;> cases hy:b.neg <;> simp [UY,hx,hy,h2]
end Lp
namespace Lp
open Go
theorem Pq:∀ (f:Nat) (a b:Vl),Rt a→Rt b→jB kZ f a b=r9 f a b
 | 0,a,b,_,_=>by simp [jB]
 | f+1,[],b,ha,_=>absurd rfl ha.one.ne
 | f+1,n::r,[],_,hb=>absurd rfl hb.one.ne
 | f+1,n::r,m::q,ha,hb=>by
  have hp:=vW ha
  have hq:=vW hb
  have pn:=ha.parts.1
  have pm:=hb.parts.1
  have e:eP (jB kZ f) (partsOf n r) (partsOf m q)=eP (r9 f) (partsOf n r) (partsOf m q):=
   DT _ _ fun x hx y hy=>Pq f x y (hp x hx).2 (hq y hy).2
  by_cases hk:n.kind=m.kind
  · by_cases h3:n.kind=3
    · have:=aaS n m (qw pn h3) (qw pm (hk ▸ h3))
      simp only [r9,jB,this,e]
    · simp only [r9,jB,if_neg h3,e]
  · simp only [r9,jB,ne_eq,hk,not_false_eq_true,if_true]
end Lp
namespace Lp
open Go Go.Proofs
open Nat (reduceAdd reduceLeDiff reduceMul reduceSub)
open Int (reduceEq reduceLE reduceToNat)
def BN (m e:Int):Bool:=decide (-1000≤e) && decide (e≤1000) && decide (m+e≤1000)
theorem Mg (m e:Int) (hm:0≤m∧m≤1000000):ai Tryz.prog 134 [.int .i64 m,.int .i64 e] [] (.bool (BN m e)) []:=by
 refine IW.bf (T:=aR Tryz.prog []) 0 hD (aj ah) aZ (by decide) fun Q hQ=>?_
 rcases tf (-1000≤e) with h1 | h1
 rotate_left 1
 · have hr:BN m e=false:=by have:¬ (-1000≤e):=fun h=>by rw [h1] at h;exact h
                            simp [BN,this]
   (conv=>arg 4;cbv);simp(maxSteps:=400000)only[↓aT,aU,BEq.rfl,reduceIte,reduceCtorEq,Nat.reduceLT,reduceAdd,reduceSub,reduceMul,Nat.reduceBEq,reduceLeDiff,reduceToNat,reduceLE,hQ,h1,hr]
 rcases tf (e≤1000) with h2 | h2
 rotate_left 1
 · have hr:BN m e=false:=by have:¬ (e≤1000):=fun h=>by rw [h2] at h;exact h
                            simp [BN,this]
   (conv=>arg 4;cbv);simp(maxSteps:=400000)only[↓aT,aU,BEq.rfl,reduceIte,reduceCtorEq,Nat.reduceLT,reduceAdd,reduceSub,reduceMul,Nat.reduceBEq,reduceLeDiff,reduceToNat,reduceLE,hQ,h1,h2,hr]
 have h1':=of_eq_true h1
 have h2':=of_eq_true h2
 have hr:BN m e=decide (m+e≤1000):=by simp [BN,h1',h2']
 (conv=>arg 4;cbv);simp(maxSteps:=400000)only[↓aT,aU,BEq.rfl,reduceIte,reduceCtorEq,Nat.reduceLT,reduceAdd,reduceSub,reduceMul,Nat.reduceBEq,reduceLeDiff,reduceToNat,reduceLE,hQ,h1,h2,hr]
 exact ⟨by omega,by omega⟩
def iW:dD:=fun args objs K=>match args with
 | [.int .i64 m,.int .i64 e]=>(0≤m∧m≤1000000)∧K (.bool (BN m e)) objs 0
 | _=>False
theorem zm:aB Tryz.prog 134 (iW):=by
 intro args objs K h
 unfold iW at h
 split at h
 · rename_i m e
   obtain ⟨h1,hk⟩:=h
   exact ⟨_,_,_,.pure _ rfl (Mg m e h1),hk⟩
 · exact h.elim
theorem He (s:List UInt8) (hs:s.length≤4611686018427387904):ai Tryz.prog 131 [.str s] [] (.bool (fU s)) []:=by
 refine EJ.bf (T:=aR Tryz.prog [(154,uN)]) 0 hD (aj (af Ja ah)) aZ (by decide) fun Q hQ=>?_
 have hf:=RQ s
 (conv=>arg 4;cbv);simp(maxSteps:=400000)only[↓aT,aU,BEq.rfl,reduceIte,reduceCtorEq,Nat.reduceLT,reduceAdd,reduceSub,reduceMul,Nat.reduceBEq,reduceLeDiff,reduceToNat,reduceLE,hQ,↓uN]
 refine ⟨hs,?_⟩
 rw [Bool.eq_iff_iff,← hf,decide_eq_true_iff]
 constructor
 · intro h;rw [h]
 · intro h
   generalize Lib.trimF lZ ⟨⟨s⟩⟩=t at h
   obtain ⟨⟨t⟩⟩:=t
   have h':t=[]:=h
   rw [h']
def dA:dD:=fun args objs K=>match args with
 | [.str s]=>(s.length≤4611686018427387904)∧K (.bool (fU s)) objs 0
 | _=>False
theorem vI:aB Tryz.prog 131 (dA):=by
 intro args objs K h
 unfold dA at h
 split at h
 · rename_i s
   obtain ⟨h1,hk⟩:=h
   exact ⟨_,_,_,.pure _ rfl (He s h1),hk⟩
 · exact h.elim
theorem WB (n:Nd) (hk:n.kind=3) (hn:n.name=[]) (hs:n.s.length≤4611686018427387904):ai Tryz.prog 168 [aA n] [] (.bool (rC n)) []:=by
 refine Oq.bf (T:=aR Tryz.prog [(134,iW),(131,dA),(185,Bw)]) 0 hD (aj (af zm (af vI (af OV ah)))) aZ (by decide) fun Q hQ=>?_
 (conv=>arg 4;cbv);simp(maxSteps:=400000)only[↓aT,aU,BEq.rfl,reduceIte,reduceCtorEq,Nat.reduceLT,reduceAdd,reduceSub,reduceMul,Nat.reduceBEq,reduceLeDiff,reduceToNat,reduceLE,hQ]
 refine aO _ (Weak.freeze 1 0 (Nat.le_refl _) _) ?_
 have key:=oD n
 have hpw:∀ b,BN n.s.length n.e=b→(b=true↔-1000≤n.e∧n.e≤1000∧n.s.length+n.e≤1000):=fun b hb=>by
  rw [← hb];simp [BN,and_assoc]
 cases hp:BN n.s.length n.e
 · have hr:rC n=false:=jl fun h=>by
    have g:=(hpw _ hp).2 ⟨(key.1 h).2.2.2.1,(key.1 h).2.2.2.2.1,(key.1 h).2.2.2.2.2.1⟩
    cases g
   simp(maxSteps:=400000)only[↓aT,aU,BEq.rfl,reduceIte,reduceCtorEq,Nat.reduceLT,reduceAdd,reduceSub,reduceMul,Nat.reduceBEq,reduceLeDiff,reduceToNat,reduceLE,hQ,jw,↓iW,hk,hn,reduceEq,hp,hr]
   refine fun h0 h1=>⟨by omega,by omega⟩
 have Ze:=(hpw _ hp).1 rfl
 cases hf:fU n.s
 · have hr:rC n=false:=jl fun h=>by have:=(key.1 h).2.1;rw [hf] at this;cases this
   simp(maxSteps:=400000)only[↓aT,aU,BEq.rfl,reduceIte,reduceCtorEq,Nat.reduceLT,reduceAdd,reduceSub,reduceMul,Nat.reduceBEq,reduceLeDiff,reduceToNat,reduceLE,hQ,jw,↓iW,↓dA,hk,hn,reduceEq,hp,hf,hr]
   refine fun h0 h1=>⟨⟨by omega,by omega⟩,hs⟩
 by_cases hz:n.s=[]
 · rw [if_pos hz] at key
   have hf0:fU []=true:=rfl
   rw [hz] at hp key
   have hp0:BN ((0:Nat):Int) n.e=true:=hp
   simp(maxSteps:=400000)only[↓aT,aU,BEq.rfl,reduceIte,reduceCtorEq,Nat.reduceLT,reduceAdd,reduceSub,reduceMul,Nat.reduceBEq,reduceLeDiff,reduceToNat,reduceLE,hQ,jw,↓iW,↓dA,hk,hn,reduceEq,hp0,hf0,hz]
   refine ⟨fun h0=>⟨fun h=>absurd h (by omega),fun _=>⟨⟨by omega,by omega⟩,fun hng=>?_,fun hng=>?_⟩⟩,fun h0=>jl fun hb=>h0 (key.1 hb).1⟩
   · exact jl fun hb=>by have:=(key.1 hb).2.2.2.2.2.2.1;rw [hng] at this;cases this
   · rw [Bool.eq_iff_iff,decide_eq_true_iff,key]
     refine ⟨fun h=>h.2.2.2.2.2.2.2,fun h=>⟨h0,rfl,by simp,Ze.1,Ze.2.1,by simp;omega,by simpa using hng,h⟩⟩
 · rw [if_neg hz] at key
   have htr:=RS n.s 48
   have hz':(n.s=[])=False:=eq_false hz
   simp(maxSteps:=400000)only[↓aT,aU,BEq.rfl,reduceIte,reduceCtorEq,Nat.reduceLT,reduceAdd,reduceSub,reduceMul,Nat.reduceBEq,reduceLeDiff,reduceToNat,reduceLE,hQ,jw,↓iW,↓dA,↓Bw,hk,hn,reduceEq,hp,hf,hz']
   refine ⟨fun h0=>⟨fun h=>jl fun hb=>?_,fun h1=>⟨⟨by omega,by omega⟩,hs,hs,?_⟩⟩,fun h0=>jl fun hb=>h0 (key.1 hb).1⟩
   · have:=key.1 hb;omega
   · rw [Bool.eq_iff_iff,decide_eq_true_iff,key,htr]
     exact ⟨fun h=>h.2.2.2.2.2.2,fun h=>⟨h0,hf,by omega,Ze.1,Ze.2.1,Ze.2.2,h⟩⟩
def mR:dD:=fun args objs K=>match args with
 | [a0]=>fE aA a0 (HK.mk:HK fun n=>(n.kind=3)∧(n.name=[])∧(n.s.length≤4611686018427387904)∧K (.bool (rC n)) objs 0)
 | _=>False
theorem Sw:aB Tryz.prog 168 (mR):=by
 intro args objs K h
 unfold mR at h
 split at h
 · rename_i a0
   obtain ⟨n,rfl,h1,h2,h3,hk⟩:=h
   exact ⟨_,_,_,.pure _ rfl (WB n h1 h2 h3),hk⟩
 · exact h.elim
theorem Mh (n:Nd) (hl:n.s.length≤4611686018427387904):ai Tryz.prog 141 [aA n] [] (.bool (bH n)) []:=by
 refine IV.bf (T:=aR Tryz.prog [(142,eu),(168,mR)]) 0 hD (aj (af Bv (af Sw ah))) aZ (by decide) fun Q hQ=>?_
 (conv=>arg 4;cbv);simp(maxSteps:=400000)only[↓aT,aU,BEq.rfl,reduceIte,reduceCtorEq,Nat.reduceLT,reduceAdd,reduceSub,reduceMul,Nat.reduceBEq,reduceLeDiff,reduceToNat,reduceLE,hQ,nmP,aeY]
 refine aO _ (Weak.freeze 1 0 (Nat.le_refl _) _) ?_
 have hn0:∀ h,eZ 1 0 [⟨27,6,[aA { kind:=n.kind,many:=n.many,name:=[],s:=n.s,neg:=n.neg,e:=n.e }],true,1⟩] (.bJ 0 1 0 0)=h→.addr (aA ⟨n.kind,n.many,[],n.s,n.neg,n.e⟩)=h:=fun _ h=>h
 have h8:n.kind=0∨n.kind=1∨n.kind=2∨n.kind=3∨n.kind=4∨n.kind=5∨n.kind=6∨(n.kind≠0∧n.kind≠1∧n.kind≠2∧n.kind≠3∧n.kind≠4∧n.kind≠5∧n.kind≠6):=by omega
 rcases h8 with hk | hk | hk | hk | hk | hk | hk | ⟨k0,k1,k2,k3,k4,k5,k6⟩
 · simp(maxSteps:=400000)only[↓aT,aU,BEq.rfl,reduceIte,reduceCtorEq,Nat.reduceLT,reduceAdd,reduceSub,reduceMul,Nat.reduceBEq,reduceLeDiff,reduceToNat,reduceLE,hQ,jw,↓eu,↓mR,hk,reduceEq]
   rw [Bool.eq_iff_iff]
   simp [bH,hk,and_assoc]
 · simp(maxSteps:=400000)only[↓aT,aU,BEq.rfl,reduceIte,reduceCtorEq,Nat.reduceLT,reduceAdd,reduceSub,reduceMul,Nat.reduceBEq,reduceLeDiff,reduceToNat,reduceLE,hQ,jw,↓eu,↓mR,hk,reduceEq]
   rw [Bool.eq_iff_iff]
   simp [bH,hk,and_assoc]
 · simp(maxSteps:=400000)only[↓aT,aU,BEq.rfl,reduceIte,reduceCtorEq,Nat.reduceLT,reduceAdd,reduceSub,reduceMul,Nat.reduceBEq,reduceLeDiff,reduceToNat,reduceLE,hQ,jw,↓eu,↓mR,hk,reduceEq]
   rw [Bool.eq_iff_iff]
   simp [bH,hk,and_assoc]
 · simp(maxSteps:=400000)only[↓aT,aU,BEq.rfl,reduceIte,reduceCtorEq,Nat.reduceLT,reduceAdd,reduceSub,reduceMul,Nat.reduceBEq,reduceLeDiff,reduceToNat,reduceLE,hQ,jw,↓eu,↓mR,hk,reduceEq]
   refine ⟨hl,?_⟩
   simp [bH,hk,rC]
 · simp(maxSteps:=400000)only[↓aT,aU,BEq.rfl,reduceIte,reduceCtorEq,Nat.reduceLT,reduceAdd,reduceSub,reduceMul,Nat.reduceBEq,reduceLeDiff,reduceToNat,reduceLE,hQ,jw,↓eu,↓mR,hk,reduceEq]
   refine ⟨hl,?_⟩
   cases hu:utf n.s
   · simp [zS,bH,hk,hu]
   · simp only [ifR]
     rw [Bool.eq_iff_iff]
     simp [bH,hk,hu,and_assoc]
 · simp(maxSteps:=400000)only[↓aT,aU,BEq.rfl,reduceIte,reduceCtorEq,Nat.reduceLT,reduceAdd,reduceSub,reduceMul,Nat.reduceBEq,reduceLeDiff,reduceToNat,reduceLE,hQ,jw,↓eu,↓mR,hk,reduceEq]
   refine ⟨fun hm=>?_,fun hm=>?_⟩
   · rw [Bool.eq_iff_iff]
     simp [bH,hk,hm,and_assoc]
   · simp [bH,hk,hm]
 · simp(maxSteps:=400000)only[↓aT,aU,BEq.rfl,reduceIte,reduceCtorEq,Nat.reduceLT,reduceAdd,reduceSub,reduceMul,Nat.reduceBEq,reduceLeDiff,reduceToNat,reduceLE,hQ,jw,↓eu,↓mR,hk,reduceEq]
   refine ⟨fun hm=>?_,fun hm=>?_⟩
   · rw [Bool.eq_iff_iff]
     simp [bH,hk,hm,and_assoc]
   · simp [bH,hk,hm]
 · simp(maxSteps:=400000)only[↓aT,aU,BEq.rfl,reduceIte,reduceCtorEq,Nat.reduceLT,reduceAdd,reduceSub,reduceMul,Nat.reduceBEq,reduceLeDiff,reduceToNat,reduceLE,hQ,jw,↓eu,↓mR,k0,k1,k2,k3,k4,k5,k6]
   simp [bH,k0,k1,k2,k3,k4,k5,k6]
def gD:dD:=fun args objs K=>match args with
 | [a0]=>fE aA a0 (HK.mk:HK fun n=>(n.s.length≤4611686018427387904)∧K (.bool (bH n)) objs 0)
 | _=>False
theorem Jf:aB Tryz.prog 141 (gD):=by
 intro args objs K h
 unfold gD at h
 split at h
 · rename_i a0
   obtain ⟨n,rfl,h1,hk⟩:=h
   exact ⟨_,_,_,.pure _ rfl (Mh n h1),hk⟩
 · exact h.elim
end Lp
namespace Lp
open Go Go.Proofs
open List (length_reverse map_cons map_map map_nil take_zero)
open Nat (lt_or_ge reduceAdd reduceLeDiff reduceMul reduceSub)
open Int (reduceLE reduceToNat)
def iP (o:Am):PV:=.agg [.int .i64 o.kind,.int .i64 o.left,.bool o.first,.str o.last]
def BO (l:List Am):PV:=.sl 4 (l.map iP) none
theorem Hf:∀ a b,iP a=iP b→a=b:=by
 intro a b h
 cases a;cases b
 simp only [iP,PV.agg.injEq,List.cons.injEq,PV.int.injEq,PV.str.injEq,PV.bool.injEq,true_and,and_true] at h
 obtain ⟨rfl,rfl,rfl,rfl⟩:=h
 rfl
theorem Dz :
  (∀ o,(iP o).cells=[.int .i64 o.kind,.int .i64 o.left,.bool o.first,.str o.last])∧(∀ o,(iP o).isAgg=true)∧(∀ o,(iP o).pure=true)∧(∀ d m O o,eZ d m O (iP o)=iP o)∧(∀ d m O o,gJ d m O (iP o)=iP o)∧type_of% (aQ Hf):=
 ⟨fun _=>rfl,fun _=>rfl,fun _=>rfl,fun _ _ _ _=>rfl,fun _ _ _ _=>rfl,aQ Hf⟩
theorem hO:∀ l,BO l=.sl 4 (l.map iP) none:=fun _=>rfl
theorem Kt:∀ a b,BO a=BO b→a=b:=nT hO Hf
theorem inO:vG iP:=by intro d n o x;cases d <;> rfl
theorem Zf:type_of% Dz∧type_of% (sK hO)∧type_of% (jL hO)∧type_of% (sM hO)∧type_of% (aQ Kt)∧type_of% (iV hO inO):=
 ⟨Dz,sK hO,jL hO,sM hO,aQ Kt,iV hO inO⟩
def wY (o:Am):Bool:=decide (0<o.left)
theorem Sy (o:Am):ai Tryz.prog 144 [iP o] [] (.bool (wY o)) []:=by
 unfold wY
 refine IX.bf (T:=aR Tryz.prog []) 0 hD (aj ah) aZ (by decide) fun Q hQ=>?_
 (conv=>arg 4;cbv);simp(maxSteps:=400000)only[↓aT,aU,BEq.rfl,reduceIte,reduceCtorEq,Nat.reduceLT,reduceAdd,reduceSub,reduceMul,Nat.reduceBEq,reduceLeDiff,reduceToNat,reduceLE,hQ,iP]
def wZ:dD:=fun args objs K=>match args with
 | [a0]=>fE iP a0 (HK.mk:HK fun o=>K (.bool (wY o)) objs 0)
 | _=>False
theorem Ps:aB Tryz.prog 144 (wZ):=by
 intro args objs K h
 unfold wZ at h
 split at h
 · rename_i a0
   obtain ⟨o,rfl,hk⟩:=h
   exact ⟨_,_,_,.pure _ rfl (Sy o),hk⟩
 · exact h.elim
def idxOf {α:Type}(p:α→Bool) (l:List α):Int:=match l.findIdx? p with
 | some i=>i
 | none=>-1
theorem idxOf_hit {α:Type}{p:α→Bool}{l:List α}{i:Nat}{x:α}(h:l[i]?=some x) (hx:p x=true) (hb:∀ (j:Nat) y,j<i→l[j]?=some y→p y=false):idxOf p l=i:=by
 have:l.findIdx? p=some i:=by
  rw [List.findIdx?_eq_some_iff_getElem]
  obtain ⟨hi,he⟩:=List.getElem?_eq_some_iff.1 h
  refine ⟨hi,by rw [he];exact hx,fun j hj=>?_⟩
  have:=hb j _ hj (List.getElem?_eq_getElem (by omega))
  simp [this]
 simp [idxOf,this]
theorem uQ {α:Type}{p:α→Bool}{l:List α}(hb:∀ (j:Nat) y,l[j]?=some y→p y=false):idxOf p l=-1:=by
 have:l.findIdx? p=none:=by
  rw [List.findIdx?_eq_none_iff]
  intro x hx
  obtain ⟨i,hi⟩:=List.mem_iff_getElem?.1 hx
  exact hb i x hi
 simp [idxOf,this]
theorem xZ {α:Type}(p:α→Bool) (l:List α):decide (0≤idxOf p l)=l.any p:=by
 rw [Bool.eq_iff_iff,decide_eq_true_iff]
 cases h:l.findIdx? p with
 | none=>
  rw [List.findIdx?_eq_none_iff] at h
  have:l.any p=false:=by rw [List.any_eq_false];intro x hx;simp [h x hx]
  simp [idxOf,List.findIdx?_eq_none_iff.2 h,this]
 | some i=>
  have h':=h
  rw [List.findIdx?_eq_some_iff_getElem] at h'
  obtain ⟨hi,hp,_⟩:=h'
  have:l.any p=true:=List.any_eq_true.2 ⟨_,List.getElem_mem hi,hp⟩
  simp [idxOf,h,this]
theorem Mi (l:List Am) (hl:l.length≤4611686018427387904):ai Tryz.prog 170 [BO l,.fn 144 [] []] [] (.int .i64 (idxOf wY l)) []:=by
 refine jY.bf (T:=aR Tryz.prog [(144,wZ)]) 0 hD (aj (af Ps ah)) aZ (by decide) fun Q hQ=>?_
 (conv=>arg 4;cbv);simp(maxSteps:=400000)only[↓aT,aU,BEq.rfl,reduceIte,reduceCtorEq,Nat.reduceLT,reduceAdd,reduceSub,reduceMul,Nat.reduceBEq,reduceLeDiff,reduceToNat,reduceLE,hQ,Zf]
 refine aH (fun m S=>∃ i:Nat,i+m=l.length∧(∀ (j:Nat) y,j<i→l[j]?=some y→wY y=false)∧S=⟨dH 19 [(0,BO l),(1,.fn 144 [] []),(7,.int .i64 l.length),(8,.int .i64 i)],[]⟩) l.length ⟨0,by omega,fun j y h=>absurd h (Nat.not_lt_zero j),?_⟩ ?_
 · simp only [bV,keepR,reduceAdd,ng,Nat.reduceBEq,map_nil]
   rfl
 rintro m S ⟨i,him,hb,rfl⟩
 rcases lt_or_ge i l.length with h | h
 rotate_left 1
 · have hlt:((i:Int)<(l.length:Int))=False:=eq_false (by omega)
   have hr:=uQ (l:=l) fun j y hj=>hb j y (by have:=(List.getElem?_eq_some_iff.1 hj).1;omega) hj
   simp(maxSteps:=400000)only[↓aT,aU,BEq.rfl,reduceIte,reduceCtorEq,Nat.reduceLT,reduceAdd,reduceSub,reduceMul,Nat.reduceBEq,reduceLeDiff,reduceToNat,reduceLE,hQ,hlt,hr]
 have hlt:((i:Int)<(l.length:Int))=True:=eq_true (by omega)
 have zi:(0≤(i:Int))=True:=eq_true (by omega)
 have hgi:=List.getElem?_eq_getElem h
 generalize l[i]=o at hgi
 cases hp:wY o
 rotate_left 1
 · have hr:idxOf wY l=i:=idxOf_hit hgi hp hb
   simp(maxSteps:=400000)only[↓aT,aU,BEq.rfl,reduceIte,reduceCtorEq,Nat.reduceLT,reduceAdd,reduceSub,reduceMul,Nat.reduceBEq,reduceLeDiff,reduceToNat,reduceLE,hQ,hlt,zi,Zf,hgi,↓wZ,hp,hr]
 · simp(maxSteps:=400000)only[↓aT,aU,BEq.rfl,reduceIte,reduceCtorEq,Nat.reduceLT,reduceAdd,reduceSub,reduceMul,Nat.reduceBEq,reduceLeDiff,reduceToNat,reduceLE,hQ,hlt,zi,Zf,hgi,↓wZ,hp]
   refine ⟨⟨by omega,by omega⟩,m-1,by omega,i+1,by omega,fun j y hj hy=>?_,rfl⟩
   rcases lt_or_ge j i with g | g
   · exact hb j y g hy
   · have:j=i:=by omega
     subst this
     rw [hgi] at hy;cases hy
     exact hp
def uR:dD:=fun args objs K=>match args with
 | [a0,a1]=>fE BO a0 (HK.mk:HK fun l=>a1=(.fn 144 [] [])∧(l.length≤4611686018427387904)∧K (.int .i64 (idxOf wY l)) objs 0)
 | _=>False
theorem Jg:aB Tryz.prog 170 (uR):=by
 intro args objs K h
 unfold uR at h
 split at h
 · rename_i a0 a1
   obtain ⟨l,rfl,rfl,h1,hk⟩:=h
   exact ⟨_,_,_,.pure _ rfl (Mi l h1),hk⟩
 · exact h.elim
theorem Mj (l:List Am) (hl:l.length≤4611686018427387904):ai Tryz.prog 143 [BO l,.fn 144 [] []] [] (.bool (l.any wY)) []:=by
 refine jH.bf (T:=aR Tryz.prog [(170,uR)]) 0 hD (aj (af Jg ah)) aZ (by decide) fun Q hQ=>?_
 (conv=>arg 4;cbv);simp(maxSteps:=400000)only[↓aT,aU,BEq.rfl,reduceIte,reduceCtorEq,Nat.reduceLT,reduceAdd,reduceSub,reduceMul,Nat.reduceBEq,reduceLeDiff,reduceToNat,reduceLE,hQ,Zf,↓uR,xZ]
 exact hl
def uS:dD:=fun args objs K=>match args with
 | [a0,a1]=>fE BO a0 (HK.mk:HK fun l=>a1=(.fn 144 [] [])∧(l.length≤4611686018427387904)∧K (.bool (l.any wY)) objs 0)
 | _=>False
theorem Jh:aB Tryz.prog 143 (uS):=by
 intro args objs K h
 unfold uS at h
 split at h
 · rename_i a0 a1
   obtain ⟨l,rfl,rfl,h1,hk⟩:=h
   exact ⟨_,_,_,.pure _ rfl (Mj l h1),hk⟩
 · exact h.elim
theorem oH (objs:List Obj) (K:KT) :
  (∀ k m,bF D 167 [(0,.int .i64 k),(1,.int .i64 m)] objs K=K (iP ⟨k,m,false,[]⟩) objs 0)∧
  (∀ k m b,bF D 167 [(0,.int .i64 k),(1,.int .i64 m),(2,.bool b)] objs K=K (iP ⟨k,m,b,[]⟩) objs 0):=by
 have z:aI (D 167)=iP ⟨0,0,false,[]⟩:=by kernel_rfl
 have a:(D 167).agg=true:=by kernel_rfl
 simp only [bL] at z a
 refine ⟨fun k m=>?_,fun k m b=>?_⟩
 all_goals
  simp [bF,lG,a,z,bL,mg,iP,PV.isAgg,qb,PV.cells,PV.storable,PV.lS,PV.pure]
theorem zOl:(PV.vO (Value.agg { toList:=[Value.int IntKind.i64 0,Value.int IntKind.i64 0,Value.bool false,Value.string { data:={ toList:=[] } }] })).cells.length=4:=rfl
theorem zOs:(PV.vO (Value.agg { toList:=[Value.int IntKind.i64 0,Value.int IntKind.i64 0,Value.bool false,Value.string { data:={ toList:=[] } }] })).cells.all PV.storable=true:=rfl
def Pt (s:List Am) (ver:Nat):Obj:=⟨167,4,s.reverse.map iP,true,ver⟩
theorem z_:(∀ (o:Am) (m:Int),(iP o).putCells 1 [.int .i64 m]=iP { o with left:=m })∧(∀ (o:Am) (b:Bool),(iP o).putCells 2 [.bool b]=iP { o with first:=b })∧(∀ (o:Am) (t:List UInt8),(iP o).putCells 3 [.str t]=iP { o with last:=t }):=⟨fun _ _=>rfl,fun _ _=>rfl,fun _ _=>rfl⟩
theorem Hg (d n:Nat) (O:List Obj) (t:TypeId) (sz:Nat) (l:List Am) (ver:Nat):fB d n O ⟨t,sz,l.map iP,true,ver⟩=⟨t,sz,l.map iP,true,ver⟩:=by
 have:(l.map iP).map (PV.bI (eZ d n O))=l.map iP:=by
  rw [map_map]
  exact List.map_congr_left fun x _=>rfl
 simp only [fB,this]
theorem Ji (v:Vl) (hs:Small v):ai Tryz.prog 127 [aS v] [] (.bool (dI v)) []:=by
 have hl:=hs.len
 refine Ot.bf (T:=aR Tryz.prog [(141,gD),(142,eu),(143,uS)]) 1 hD (aj (af Jf (af Bv (af Jh ah)))) aZ (by decide) fun Q hQ=>?_
 (conv=>arg 4;cbv);simp(maxSteps:=400000)only[↓aT,aU,BEq.rfl,reduceIte,reduceCtorEq,Nat.reduceLT,reduceAdd,reduceSub,reduceMul,Nat.reduceBEq,reduceLeDiff,reduceToNat,reduceLE,hQ,I8,I9,oH,zOl,zOs,Dz]
 refine aH (fun m S=>∃ (s:List Am) (i ver:Nat),i+m=v.length∧FR v.length s (v.drop i)=dI v∧s.length≤i+1∧(∀ o ∈ s,0≤o.left∧o.left≤1000000)∧S=⟨dH 123 [(0,aS v),(3,.bG 0 ver),(10,aS v),(11,.int .i64 v.length),(12,.int .i64 i)],[Pt s ver]⟩) v.length
  ⟨[⟨5,1,false,[]⟩],0,1,by omega,QV v,by simp,by simp,?_⟩ ?_ (hz:=Nat.zero_le _)
 · simp only [bV,keepR,reduceAdd,ng,Nat.reduceBEq,map_nil]
   rfl
 rintro m S ⟨s,i,ver,him,hrun,hsl,hle,rfl⟩
 rcases lt_or_ge i v.length with h | h
 rotate_left 1
 · have hlt:((i:Int)<(v.length:Int))=False:=eq_false (by omega)
   have hr:dI v=Bool.not (s.any wY):=by
    rw [← hrun,List.drop_eq_nil_of_le h,FR];rfl
   have hf:eZ 1 0 [⟨167,4,s.reverse.map iP,true,ver⟩] (.bG 0 ver)=BO s.reverse:=by
    simp only [eZ,Nat.not_lt_zero,if_false,iU,List.getElem?_cons_zero,Nat.le_refl,decide_true,Bool.true_and,beq_self_eq_true,if_true]
    rw [map_map]
    rfl
   unfold Pt
   simp(maxSteps:=400000)only[↓aT,aU,BEq.rfl,reduceIte,reduceCtorEq,Nat.reduceLT,reduceAdd,reduceSub,reduceMul,Nat.reduceBEq,reduceLeDiff,reduceToNat,reduceLE,hQ,hlt]
   refine aO _ (Weak.freeze 1 0 (Nat.zero_le _) _) ?_
   rcases Nat.eq_zero_or_pos v.length with h0 | h0
   · have h0':((0:Int)<(v.length:Int))=False:=eq_false (by omega)
     have hrf:dI v=false:=by
      have:v=[]:=List.length_eq_zero_iff.1 h0
      rw [this];rfl
     simp(maxSteps:=400000)only[↓aT,aU,BEq.rfl,reduceIte,reduceCtorEq,Nat.reduceLT,reduceAdd,reduceSub,reduceMul,Nat.reduceBEq,reduceLeDiff,reduceToNat,reduceLE,hQ,h0',hrf]
   · have h0':((0:Int)<(v.length:Int))=True:=eq_true (by omega)
     simp(maxSteps:=400000)only[↓aT,aU,BEq.rfl,reduceIte,reduceCtorEq,Nat.reduceLT,reduceAdd,reduceSub,reduceMul,Nat.reduceBEq,reduceLeDiff,reduceToNat,reduceLE,hQ,h0',hf,Zf,↓uS]
     exact ⟨by rw [length_reverse];omega,by rw [hr,List.any_reverse]⟩
 have hlt:((i:Int)<(v.length:Int))=True:=eq_true (by omega)
 have zi:(0≤(i:Int))=True:=eq_true (by omega)
 have hgi:=List.getElem?_eq_getElem h
 have hdi:=List.drop_eq_getElem_cons h
 have htx:=hs.txt _ (List.getElem_mem h)
 generalize v[i]=n at hgi hdi htx
 simp(maxSteps:=400000)only[↓aT,aU,BEq.rfl,reduceIte,reduceCtorEq,Nat.reduceLT,reduceAdd,reduceSub,reduceMul,Nat.reduceBEq,reduceLeDiff,reduceToNat,reduceLE,hQ,hlt,zi,hgi,I8,I9,bN,bO]
 rw [hdi] at hrun
 have hll:(n.many≤(v.length:Int))=(n.many≤(v.length:Int)):=rfl
 refine aH (fun m' S=>∃ (s':List Am) (Jj:Nat),s'.length=m'∧s'.dropWhile (fun o=>o.left==0)=s.dropWhile (fun o=>o.left==0)∧s'.length≤i+1∧(∀ o ∈ s',0≤o.left∧o.left≤1000000)∧
  S=⟨dH 123 [(0,aS v),(3,.bG 0 Jj),(5,.bJ 1 1 0 0),(10,aS v),(11,.int .i64 v.length),(12,.int .i64 i)],[Pt s' Jj,⟨27,6,[aA n],true,1⟩]⟩) s.length ⟨s,ver,rfl,rfl,hsl,hle,?_⟩ ?_
 · simp only [bV,keepR,reduceAdd,ng,Nat.reduceBEq,map_nil]
 rintro m' S ⟨s',Jj,hm',hdw,ae2,hle',rfl⟩
 cases s' with
 | nil=>
  have h00:((0:Int)<((0:Nat):Int))=False:=eq_false (by omega)
  have h01:(((0:Nat):Int)=0)=True:=eq_true rfl
  have hr:dI v=false:=by rw [← hrun,FR,← hdw];rfl
  unfold Pt
  simp(maxSteps:=400000)only[↓aT,aU,BEq.rfl,reduceIte,reduceCtorEq,Nat.reduceLT,reduceAdd,reduceSub,reduceMul,Nat.reduceBEq,reduceLeDiff,reduceToNat,reduceLE,hQ,h00,h01,hr,List.reverse_nil]
 | cons o t=>
 have hst:∀ w,Pt (o::t) w=⟨167,4,t.reverse.map iP++[iP o],true,w⟩:=fun w=>by simp [Pt]
 have hget:∀ x:PV,(t.reverse.map iP++[x])[t.length]?=some x:=fun x=>by rw [List.getElem?_append_right (by simp)];simp
 have hset:∀ x y:PV,(t.reverse.map iP++[x]).set t.length y=t.reverse.map iP++[y]:=fun x y=>by rw [List.set_append_right _ _ (by simp)];simp
 have hpos:((0:Int)<((t.length+1:Nat):Int))=True:=eq_true (by omega)
 have hne0:(((t.length+1:Nat):Int)=0)=False:=eq_false (by omega)
 have t1:(((t.length+1:Nat):Int)-1).toNat=t.length:=by omega
 have z1:(0≤((t.length+1:Nat):Int)-1)=True:=eq_true (by omega)
 have Z9:(((t.length+1:Nat):Int)-1<((t.length+1:Nat):Int))=True:=eq_true (by omega)
 have Z_:(((t.length+1:Nat):Int)-1≤((t.length+1:Nat):Int))=True:=eq_true (by omega)
 simp only [List.length_cons] at ae2 hm'
 have i1:(-9223372036854775808≤((t.length+1:Nat):Int)-1∧((t.length+1:Nat):Int)-1≤9223372036854775807)=True:=eq_true ⟨by omega,by omega⟩
 have hlo:=hle' o (by simp)
 by_cases h0:o.left=0
 · have h0':(o.left=0)=True:=eq_true h0
   rw [hst]
   simp(maxSteps:=400000)only[↓aT,aU,BEq.rfl,reduceIte,reduceCtorEq,Nat.reduceLT,reduceAdd,reduceSub,reduceMul,Nat.reduceBEq,reduceLeDiff,reduceToNat,reduceLE,hQ,hpos,t1,z1,Z9,Z_,i1,hget,hset,h0',Dz,length_reverse]
   refine ⟨m'-1,by omega,t,Jj+1,by omega,?_,by omega,fun x hx=>hle' x (List.mem_cons_of_mem _ hx),?_⟩
   · rw [← hdw];exact (List.dropWhile_cons_of_pos (by simpa using h0)).symm
   · rw [List.take_left' (by simp)];rfl
 have h0':(o.left=0)=False:=eq_false h0
 have ae3:s.dropWhile (fun o=>o.left==0)=o::t:=by rw [← hdw];exact List.dropWhile_cons_of_neg (by simpa using h0)
 have hstep:dI v=(bH n && decide (n.many≤v.length) && fK o n.name && FR v.length (⟨n.kind,n.many,true,[]⟩::⟨o.kind,o.left-1,false,n.name⟩::t) (v.drop (i+1))):=by
  rw [← hrun,FR,ae3]
 rw [hst]
 cases hpl:bH n
 · have hr:dI v=false:=by rw [hstep,hpl];rfl
   simp(maxSteps:=400000)only[↓aT,aU,BEq.rfl,reduceIte,reduceCtorEq,Nat.reduceLT,reduceAdd,reduceSub,reduceMul,Nat.reduceBEq,reduceLeDiff,reduceToNat,reduceLE,hQ,hpos,hne0,t1,z1,Z9,Z_,i1,hget,hset,h0',Dz,length_reverse,↓gD,hpl,hr]
   exact htx.1
 by_cases hmL:n.many≤v.length
 rotate_left 1
 · have Ml:((v.length:Int)<n.many)=True:=eq_true (by omega)
   have hr:dI v=false:=by rw [hstep,decide_eq_false hmL];simp
   simp(maxSteps:=400000)only[↓aT,aU,BEq.rfl,reduceIte,reduceCtorEq,Nat.reduceLT,reduceAdd,reduceSub,reduceMul,Nat.reduceBEq,reduceLeDiff,reduceToNat,reduceLE,hQ,hpos,hne0,t1,z1,Z9,Z_,i1,hget,hset,h0',Dz,length_reverse,↓gD,hpl,Ml,hr]
   exact htx.1
 have Ml:((v.length:Int)<n.many)=False:=eq_false (by omega)
 have hm0:0≤n.many:=by
  by_cases hk:n.kind=5∨n.kind=6
  · exact (CJ hpl hk).1
  · rw [uh hpl hk];exact Int.le_refl 0
 have hA:∀ x y:Am,t.reverse.map iP++[iP x]++[iP y]=(t.reverse++[x,y]).map iP:=fun x y=>by simp
 have fin:∀ hn:fK o n.name=true,∃ aeb,aeb<m∧∃ (s:List Am) (Fv ver:Nat),Fv+aeb=v.length∧FR v.length s (v.drop Fv)=dI v∧s.length≤Fv+1∧(∀ o ∈ s,0≤o.left∧o.left≤1000000)∧
     (⟨dH 123 [(0,aS v),(3,.bG 0 (Jj+1)),(10,aS v),(11,.int .i64 v.length),(12,.int .i64 ((i:Int)+1))],[⟨167,4,t.reverse.map iP++[iP ⟨o.kind,o.left-1,false,n.name⟩]++[iP ⟨n.kind,n.many,true,[]⟩],true,Jj+1⟩]⟩:St)=
     ⟨dH 123 [(0,aS v),(3,.bG 0 ver),(10,aS v),(11,.int .i64 v.length),(12,.int .i64 Fv)],[Pt s ver]⟩:=fun hn=>by
  refine ⟨m-1,by omega,⟨n.kind,n.many,true,[]⟩::⟨o.kind,o.left-1,false,n.name⟩::t,i+1,Jj+1,by omega,?_,by simp only [List.length_cons];omega,fun x hx=>?_,?_⟩
  · rw [hstep,hpl,hn,decide_eq_true hmL];simp
  · rcases List.mem_cons.1 hx with rfl | hx
    · exact ⟨hm0,by simp only;omega⟩
    · rcases List.mem_cons.1 hx with rfl | hx
      · simp only;omega
      · exact hle' x (List.mem_cons_of_mem _ hx)
  · simp [Pt]
 by_cases k6:o.kind=6
 rotate_left 1
 · have k6':(o.kind=6)=False:=eq_false k6
   by_cases hnm:n.name=[]
   rotate_left 1
   · have hnm':(n.name=[])=False:=eq_false hnm
     have hr:dI v=false:=by
      have:fK o n.name=false:=by simp [fK,k6,hnm]
      rw [hstep,this];simp
     simp(maxSteps:=400000)only[↓aT,aU,BEq.rfl,reduceIte,reduceCtorEq,Nat.reduceLT,reduceAdd,reduceSub,reduceMul,Nat.reduceBEq,reduceLeDiff,reduceToNat,reduceLE,hQ,hpos,hne0,t1,z1,Z9,Z_,i1,hget,hset,h0',Dz,length_reverse,↓gD,hpl,Ml,k6',dJ,z_,oH,zOl,zOs,hnm',hr]
     exact htx.1
   · have hnm':(n.name=[])=True:=eq_true hnm
     simp(maxSteps:=400000)only[↓aT,aU,BEq.rfl,reduceIte,reduceCtorEq,Nat.reduceLT,reduceAdd,reduceSub,reduceMul,Nat.reduceBEq,reduceLeDiff,reduceToNat,reduceLE,hQ,hpos,hne0,t1,z1,Z9,Z_,i1,hget,hset,h0',Dz,length_reverse,↓gD,hpl,Ml,k6',dJ,z_,oH,zOl,zOs,hnm']
     have hn:fK o n.name=true:=by simp [fK,k6,hnm]
     obtain ⟨m1,e0,s1,j1,w1,e1,e2,e3,e4,e5⟩:=fin hn
     refine ⟨htx.1,⟨by omega,by omega⟩,rfl,by omega,by omega,⟨by omega,by omega⟩,m1,e0,s1,j1,w1,e1,e2,e3,e4,?_⟩
     rw [← e5]
     simp only [hA,List.take_succ_cons,take_zero,map_cons (f:=fB _ _ _),map_nil,Hg]
     rfl
 have k6':(o.kind=6)=True:=eq_true k6
 cases hu:utf n.name
 · have hr:dI v=false:=by
    have:fK o n.name=false:=by simp [fK,k6,hu]
    rw [hstep,this];simp
   simp(maxSteps:=400000)only[↓aT,aU,BEq.rfl,reduceIte,reduceCtorEq,Nat.reduceLT,reduceAdd,reduceSub,reduceMul,Nat.reduceBEq,reduceLeDiff,reduceToNat,reduceLE,hQ,hpos,hne0,t1,z1,Z9,Z_,i1,hget,hset,h0',Dz,length_reverse,↓gD,hpl,Ml,k6',dJ,z_,oH,zOl,zOs,↓eu,hu,hr]
   exact ⟨htx.1,htx.2⟩
 cases hfst:o.first
 rotate_left 1
 · have hn:fK o n.name=true:=by simp [fK,k6,hu,hfst]
   simp(maxSteps:=400000)only[↓aT,aU,BEq.rfl,reduceIte,reduceCtorEq,Nat.reduceLT,reduceAdd,reduceSub,reduceMul,Nat.reduceBEq,reduceLeDiff,reduceToNat,reduceLE,hQ,hpos,hne0,t1,z1,Z9,Z_,i1,hget,hset,h0',Dz,length_reverse,↓gD,hpl,Ml,k6',dJ,z_,oH,zOl,zOs,↓eu,hu,hfst]
   obtain ⟨m1,e0,s1,j1,w1,e1,e2,e3,e4,e5⟩:=fin hn
   refine ⟨htx.1,htx.2,⟨by omega,by omega⟩,rfl,by omega,by omega,⟨by omega,by omega⟩,m1,e0,s1,j1,w1,e1,e2,e3,e4,?_⟩
   rw [← e5]
   simp only [hA,List.take_succ_cons,take_zero,map_cons (f:=fB _ _ _),map_nil,Hg]
   rfl
 cases hbl:Op.bytesLess n.name o.last
 rotate_left 1
 · have hr:dI v=false:=by
    have:fK o n.name=false:=by simp [fK,k6,hu,hfst,l7 _ _ hbl]
    rw [hstep,this];simp
   simp(maxSteps:=400000)only[↓aT,aU,BEq.rfl,reduceIte,reduceCtorEq,Nat.reduceLT,reduceAdd,reduceSub,reduceMul,Nat.reduceBEq,reduceLeDiff,reduceToNat,reduceLE,hQ,hpos,hne0,t1,z1,Z9,Z_,i1,hget,hset,h0',Dz,length_reverse,↓gD,hpl,Ml,k6',dJ,z_,oH,zOl,zOs,↓eu,hu,hfst,hbl,hr]
   exact ⟨htx.1,htx.2⟩
 by_cases heq:n.name=o.last
 · have heq':(n.name=o.last)=True:=eq_true heq
   have hr:dI v=false:=by
    have:fK o n.name=false:=by simp [fK,k6,hu,hfst,heq,d9]
    rw [hstep,this];simp
   simp(maxSteps:=400000)only[↓aT,aU,BEq.rfl,reduceIte,reduceCtorEq,Nat.reduceLT,reduceAdd,reduceSub,reduceMul,Nat.reduceBEq,reduceLeDiff,reduceToNat,reduceLE,hQ,hpos,hne0,t1,z1,Z9,Z_,i1,hget,hset,h0',Dz,length_reverse,↓gD,hpl,Ml,k6',dJ,z_,oH,zOl,zOs,↓eu,hu,hfst,hbl,heq',hr]
   exact ⟨htx.1,htx.2⟩
 · have heq':(n.name=o.last)=False:=eq_false heq
   have hn:fK o n.name=true:=by
    have:Op.bytesLess o.last n.name=true:=by
     rcases CF o.last n.name with g | g | g
     · exact g
     · exact absurd g.symm heq
     · rw [g] at hbl;cases hbl
    simp [fK,k6,hu,this]
   simp(maxSteps:=400000)only[↓aT,aU,BEq.rfl,reduceIte,reduceCtorEq,Nat.reduceLT,reduceAdd,reduceSub,reduceMul,Nat.reduceBEq,reduceLeDiff,reduceToNat,reduceLE,hQ,hpos,hne0,t1,z1,Z9,Z_,i1,hget,hset,h0',Dz,length_reverse,↓gD,hpl,Ml,k6',dJ,z_,oH,zOl,zOs,↓eu,hu,hfst,hbl,heq']
   obtain ⟨m1,e0,s1,j1,w1,e1,e2,e3,e4,e5⟩:=fin hn
   refine ⟨htx.1,htx.2,⟨by omega,by omega⟩,rfl,by omega,by omega,⟨by omega,by omega⟩,m1,e0,s1,j1,w1,e1,e2,e3,e4,?_⟩
   rw [← e5]
   simp only [hA,List.take_succ_cons,take_zero,map_cons (f:=fB _ _ _),map_nil,Hg]
   rfl
def oI:dD:=fun args objs K=>match args with
 | [a0]=>fE aS a0 (HK.mk:HK fun v=>(Small v)∧K (.bool (dI v)) objs 0)
 | _=>False
theorem Hl:aB Tryz.prog 127 (oI):=by
 intro args objs K h
 unfold oI at h
 split at h
 · rename_i a0
   obtain ⟨v,rfl,h1,hk⟩:=h
   exact ⟨_,_,_,.pure _ rfl (Ji v h1),hk⟩
 · exact h.elim
end Lp
namespace Lp
open Go Go.Proofs
open Nat (reduceAdd reduceLeDiff reduceMul reduceSub zero_le)
open Int (reduceEq reduceLE reduceToNat)
def tC (n:Nd):Prop:=n.s.length≤4611686018427387904∧n.name.length≤4611686018427387904
theorem tC.small {n:Nd}(h:tC n):Small [n]:=⟨by simp,fun m hm=>by rw [List.mem_singleton] at hm;subst hm;exact h⟩
theorem Pv (n:Nd) (h:tC n):ai Tryz.prog 115 [aA n] [] (.bool (qM n)) []:=by
 unfold qM
 refine Gz.bf (T:=aR Tryz.prog [(127,oI)]) 0 hD (aj (af Hl ah)) aZ (by decide) fun Q hQ=>?_
 (conv=>arg 4;cbv);simp(maxSteps:=400000)only[↓aX,aY,BEq.rfl,reduceIte,reduceCtorEq,Nat.reduceLT,reduceAdd,reduceSub,reduceMul,Nat.reduceBEq,reduceLeDiff,reduceToNat,reduceLE,hQ]
 refine aO _ (Weak.freeze 1 0 (zero_le _) _) ?_
 rcases tf (n.kind<5) with hk | hk
 · simp(maxSteps:=400000)only[↓aX,aY,BEq.rfl,reduceIte,reduceCtorEq,Nat.reduceLT,reduceAdd,reduceSub,reduceMul,Nat.reduceBEq,reduceLeDiff,reduceToNat,reduceLE,hQ,jw,hk,↓oI,bN,bO,Bool.false_and]
   exact h.small
 · simp(maxSteps:=400000)only[↓aX,aY,BEq.rfl,reduceIte,reduceCtorEq,Nat.reduceLT,reduceAdd,reduceSub,reduceMul,Nat.reduceBEq,reduceLeDiff,reduceToNat,reduceLE,hQ,jw,hk,↓oI,bN,bO,Bool.false_and]
def pX:dD:=fun args objs K=>match args with
 | [a0]=>fE aA a0 (HK.mk:HK fun n=>(tC n)∧K (.bool (qM n)) objs 0)
 | _=>False
theorem Mq:aB Tryz.prog 115 (pX):=by
 intro args objs K h
 unfold pX at h
 split at h
 · rename_i a0
   obtain ⟨n,rfl,h1,hk⟩:=h
   exact ⟨_,_,_,.pure _ rfl (Pv n h1),hk⟩
 · exact h.elim
theorem Pw (n:Nd) (h:tC n):ai Tryz.prog 26 [aA n] [] (.bool (qM n)) []:=by
 unfold qM
 refine zP.bf (T:=aR Tryz.prog [(36,wX)]) 0 hD (aj (af OI ah)) aZ (by decide) fun Q hQ=>?_
 (conv=>arg 4;cbv);simp(maxSteps:=400000)only[↓aX,aY,BEq.rfl,reduceIte,reduceCtorEq,Nat.reduceLT,reduceAdd,reduceSub,reduceMul,Nat.reduceBEq,reduceLeDiff,reduceToNat,reduceLE,hQ]
 refine aO _ (Weak.freeze 1 0 (zero_le _) _) ?_
 rcases tf (n.kind<5) with hk | hk
 · simp(maxSteps:=400000)only[↓aX,aY,BEq.rfl,reduceIte,reduceCtorEq,Nat.reduceLT,reduceAdd,reduceSub,reduceMul,Nat.reduceBEq,reduceLeDiff,reduceToNat,reduceLE,hQ,jw,hk,↓wX,bN,bO,Bool.false_and]
   exact h.small
 · simp(maxSteps:=400000)only[↓aX,aY,BEq.rfl,reduceIte,reduceCtorEq,Nat.reduceLT,reduceAdd,reduceSub,reduceMul,Nat.reduceBEq,reduceLeDiff,reduceToNat,reduceLE,hQ,jw,hk,↓wX,bN,bO,Bool.false_and]
def lW:dD:=fun args objs K=>match args with
 | [a0]=>fE aA a0 (HK.mk:HK fun n=>(tC n)∧K (.bool (qM n)) objs 0)
 | _=>False
theorem BP:aB Tryz.prog 26 (lW):=by
 intro args objs K h
 unfold lW at h
 split at h
 · rename_i a0
   obtain ⟨n,rfl,h1,hk⟩:=h
   exact ⟨_,_,_,.pure _ rfl (Pw n h1),hk⟩
 · exact h.elim
theorem Px (a:iA) (h:tC a.c):ai Tryz.prog 9 [bX a] [] (.bool (jC a)) []:=by
 unfold jC
 refine zQ.bf (T:=aR Tryz.prog [(26,lW)]) 0 hD (aj (af BP ah)) aZ (by decide) fun Q hQ=>?_
 (conv=>arg 4;cbv);simp(maxSteps:=400000)only[↓aX,aY,BEq.rfl,reduceIte,reduceCtorEq,Nat.reduceLT,reduceAdd,reduceSub,reduceMul,Nat.reduceBEq,reduceLeDiff,reduceToNat,reduceLE,hQ]
 refine aO _ (Weak.freeze 1 0 (zero_le _) _) ?_
 rcases tf (0≤a.n) with h1 | h1
 rotate_left 1
 · simp(maxSteps:=400000)only[↓aX,aY,BEq.rfl,reduceIte,reduceCtorEq,Nat.reduceLT,reduceAdd,reduceSub,reduceMul,Nat.reduceBEq,reduceLeDiff,reduceToNat,reduceLE,hQ,Oz,h1,Bool.false_and]
 rcases tf (a.n≤5) with h2 | h2
 rotate_left 1
 · simp(maxSteps:=400000)only[↓aX,aY,BEq.rfl,reduceIte,reduceCtorEq,Nat.reduceLT,reduceAdd,reduceSub,reduceMul,Nat.reduceBEq,reduceLeDiff,reduceToNat,reduceLE,hQ,Oz,h1,h2,Bool.false_and,Bool.and_false]
 simp(maxSteps:=400000)only[↓aX,aY,BEq.rfl,reduceIte,reduceCtorEq,Nat.reduceLT,reduceAdd,reduceSub,reduceMul,Nat.reduceBEq,reduceLeDiff,reduceToNat,reduceLE,hQ,Oz,h1,h2,↓lW]
 exact h
def tF:dD:=fun args objs K=>match args with
 | [a0]=>fE bX a0 (HK.mk:HK fun a=>(tC a.c)∧K (.bool (jC a)) objs 0)
 | _=>False
theorem Mr:aB Tryz.prog 9 (tF):=by
 intro args objs K h
 unfold tF at h
 split at h
 · rename_i a0
   obtain ⟨a,rfl,h1,hk⟩:=h
   exact ⟨_,_,_,.pure _ rfl (Px a h1),hk⟩
 · exact h.elim
theorem Ho (how c:Int):(how=0∧lM how c=decide (c=0))∨(how=1∧lM how c=!decide (c=0))∨(how=2∧lM how c=decide (c<0))∨(how=3∧lM how c=decide (c≤0))∨(how=4∧lM how c=decide (0<c))∨
  ((how=0)=False∧(how=1)=False∧(how=2)=False∧(how=3)=False∧(how=4)=False∧lM how c=decide (0≤c)):=by
 by_cases h0:how=0
 · exact .inl ⟨h0,by simp [lM,h0]⟩
 by_cases h1:how=1
 · exact .inr (.inl ⟨h1,by simp [lM,h1]⟩)
 by_cases h2:how=2
 · exact .inr (.inr (.inl ⟨h2,by simp [lM,h2]⟩))
 by_cases h3:how=3
 · exact .inr (.inr (.inr (.inl ⟨h3,by simp [lM,h3]⟩)))
 by_cases h4:how=4
 · exact .inr (.inr (.inr (.inr (.inl ⟨h4,by simp [lM,h4]⟩))))
 · exact .inr (.inr (.inr (.inr (.inr ⟨eq_false h0,eq_false h1,eq_false h2,eq_false h3,eq_false h4,by simp [lM,h0,h1,h2,h3,h4]⟩))))
theorem WC (how c:Int):ai Tryz.prog 50 [.int .i64 how,.int .i64 c] [] (.bool (lM how c)) []:=by
 refine Be.bf (T:=aR Tryz.prog []) 0 hD (aj ah) aZ (by decide) fun Q hQ=>?_
 rcases Ho how c with ⟨h,hr⟩ | ⟨h,hr⟩ | ⟨h,hr⟩ | ⟨h,hr⟩ | ⟨h,hr⟩ | ⟨k0,k1,k2,k3,k4,hr⟩
 · rw [h] at hr
   (conv=>arg 4;cbv);simp(maxSteps:=400000)only[↓aX,aY,BEq.rfl,reduceIte,reduceCtorEq,Nat.reduceLT,reduceAdd,reduceSub,reduceMul,Nat.reduceBEq,reduceLeDiff,reduceToNat,reduceLE,hQ,hr,h]
 · rw [h] at hr
   (conv=>arg 4;cbv);simp(maxSteps:=400000)only[↓aX,aY,BEq.rfl,reduceIte,reduceCtorEq,Nat.reduceLT,reduceAdd,reduceSub,reduceMul,Nat.reduceBEq,reduceLeDiff,reduceToNat,reduceLE,hQ,hr,h,reduceEq]
 · rw [h] at hr
   (conv=>arg 4;cbv);simp(maxSteps:=400000)only[↓aX,aY,BEq.rfl,reduceIte,reduceCtorEq,Nat.reduceLT,reduceAdd,reduceSub,reduceMul,Nat.reduceBEq,reduceLeDiff,reduceToNat,reduceLE,hQ,hr,h,reduceEq]
 · rw [h] at hr
   (conv=>arg 4;cbv);simp(maxSteps:=400000)only[↓aX,aY,BEq.rfl,reduceIte,reduceCtorEq,Nat.reduceLT,reduceAdd,reduceSub,reduceMul,Nat.reduceBEq,reduceLeDiff,reduceToNat,reduceLE,hQ,hr,h,reduceEq]
 · rw [h] at hr
   (conv=>arg 4;cbv);simp(maxSteps:=400000)only[↓aX,aY,BEq.rfl,reduceIte,reduceCtorEq,Nat.reduceLT,reduceAdd,reduceSub,reduceMul,Nat.reduceBEq,reduceLeDiff,reduceToNat,reduceLE,hQ,hr,h,reduceEq]
 · (conv=>arg 4;cbv);simp(maxSteps:=400000)only[↓aX,aY,BEq.rfl,reduceIte,reduceCtorEq,Nat.reduceLT,reduceAdd,reduceSub,reduceMul,Nat.reduceBEq,reduceLeDiff,reduceToNat,reduceLE,hQ,k0,k1,k2,k3,k4,hr]
def FD:dD:=fun args objs K=>match args with
 | [.int .i64 how,.int .i64 c]=>K (.bool (lM how c)) objs 0
 | _=>False
theorem Sz:aB Tryz.prog 50 (FD):=by
 intro args objs K h
 unfold FD at h
 split at h
 · rename_i how c
   have hk:=h
   exact ⟨_,_,_,.pure _ rfl (WC how c),hk⟩
 · exact h.elim
structure fe (n:Nd):Prop where
 sc:qM n=true
 len:n.s.length≤1000000
theorem fe.few {n:Nd}(h:fe n):aea [n] 1:=by
 have hr:dI [n]=true:=by
  have:=h.sc
  simp only [qM,Bool.and_eq_true] at this
  exact this.2
 have hrt:=xw hr
 have hpl:=Me hr
 refine ⟨by simp,hrt,⟨hrt.one,by simp,fun m hm=>?_⟩,⟨hrt.one,by simp,fun m hm hk3=>UF (qw (hpl m hm) hk3)⟩⟩
 have hp:=hpl m hm
 rw [List.mem_singleton] at hm
 subst hm
 exact Wy hp h.len
theorem Py (a:iA) (n:Nd) (ha:fe a.c) (hn:fe n):ai Tryz.prog 117 [bX a,aA n] [] (.bool (jO a n)) []:=by
 obtain ⟨f,hf⟩:∃ f:Nat,f=1:=⟨1,rfl⟩
 have hh:jO a n=lM a.n (r9 f [n] [a.c]):=by rw [hf];rfl
 rw [hh]
 have hl:[n].length≤f:=by rw [hf];exact Nat.le_refl _
 have o1:=hn.few.ok
 have o2:=ha.few.ok
 refine Lr.bf (T:=aR Tryz.prog [(128,(xW f))]) 0 hD (aj (af (Mc f) ah)) aZ (by decide) fun Q hQ=>?_
 generalize hc:r9 f [n] [a.c]=c
 (conv=>arg 4;cbv);simp(maxSteps:=400000)only[↓aX,aY,BEq.rfl,reduceIte,reduceCtorEq,Nat.reduceLT,reduceAdd,reduceSub,reduceMul,Nat.reduceBEq,reduceLeDiff,reduceToNat,reduceLE,hQ]
 refine aO _ (Weak.freeze 1 0 (zero_le _) _) ?_
 simp(maxSteps:=400000)only[↓aX,aY,BEq.rfl,reduceIte,reduceCtorEq,Nat.reduceLT,reduceAdd,reduceSub,reduceMul,Nat.reduceBEq,reduceLeDiff,reduceToNat,reduceLE,hQ,YI,YJ,↓xW,hc,bN,bO]
 refine ⟨hl,o1,o2,?_⟩
 rcases Ho a.n c with ⟨h,hr⟩ | ⟨h,hr⟩ | ⟨h,hr⟩ | ⟨h,hr⟩ | ⟨h,hr⟩ | ⟨k0,k1,k2,k3,k4,hr⟩
 · rw [h] at hr
   simp(maxSteps:=400000)only[↓aX,aY,BEq.rfl,reduceIte,reduceCtorEq,Nat.reduceLT,reduceAdd,reduceSub,reduceMul,Nat.reduceBEq,reduceLeDiff,reduceToNat,reduceLE,hQ,hr,h]
 · rw [h] at hr
   simp(maxSteps:=400000)only[↓aX,aY,BEq.rfl,reduceIte,reduceCtorEq,Nat.reduceLT,reduceAdd,reduceSub,reduceMul,Nat.reduceBEq,reduceLeDiff,reduceToNat,reduceLE,hQ,hr,h,reduceEq]
 · rw [h] at hr
   simp(maxSteps:=400000)only[↓aX,aY,BEq.rfl,reduceIte,reduceCtorEq,Nat.reduceLT,reduceAdd,reduceSub,reduceMul,Nat.reduceBEq,reduceLeDiff,reduceToNat,reduceLE,hQ,hr,h,reduceEq]
 · rw [h] at hr
   simp(maxSteps:=400000)only[↓aX,aY,BEq.rfl,reduceIte,reduceCtorEq,Nat.reduceLT,reduceAdd,reduceSub,reduceMul,Nat.reduceBEq,reduceLeDiff,reduceToNat,reduceLE,hQ,hr,h,reduceEq]
 · rw [h] at hr
   simp(maxSteps:=400000)only[↓aX,aY,BEq.rfl,reduceIte,reduceCtorEq,Nat.reduceLT,reduceAdd,reduceSub,reduceMul,Nat.reduceBEq,reduceLeDiff,reduceToNat,reduceLE,hQ,hr,h,reduceEq]
 · simp(maxSteps:=400000)only[↓aX,aY,BEq.rfl,reduceIte,reduceCtorEq,Nat.reduceLT,reduceAdd,reduceSub,reduceMul,Nat.reduceBEq,reduceLeDiff,reduceToNat,reduceLE,hQ,k0,k1,k2,k3,k4,hr]
def x9:dD:=fun args objs K=>match args with
 | [a0,a1]=>fE bX a0 (HK.mk:HK fun a=>fE aA a1 (HK.mk:HK fun n=>(fe a.c)∧(fe n)∧K (.bool (jO a n)) objs 0))
 | _=>False
theorem Ms:aB Tryz.prog 117 (x9):=by
 intro args objs K h
 unfold x9 at h
 split at h
 · rename_i a0 a1
   obtain ⟨a,rfl,n,rfl,h1,h2,hk⟩:=h
   exact ⟨_,_,_,.pure _ rfl (Py a n h1 h2),hk⟩
 · exact h.elim
theorem Pz (a:iA) (n:Nd) (ha:fe a.c) (hn:fe n):ai Tryz.prog 19 [bX a,aA n] [] (.bool (jO a n)) []:=by
 obtain ⟨f,hf⟩:∃ f:Nat,f=1:=⟨1,rfl⟩
 have hh:jO a n=lM a.n (jB kZ f [n] [a.c]):=by rw [hf,Pq 1 _ _ hn.few.rt ha.few.rt];rfl
 rw [hh]
 have hl:[n].length≤f:=by rw [hf];exact Nat.le_refl _
 have o1:=hn.few.ok2
 have o2:=ha.few.ok2
 refine zR.bf (T:=aR Tryz.prog [(51,(FC f)),(50,FD)]) 0 hD (aj (af (Sv f) (af Sz ah))) aZ (by decide) fun Q hQ=>?_
 (conv=>arg 4;cbv);simp(maxSteps:=400000)only[↓aX,aY,BEq.rfl,reduceIte,reduceCtorEq,Nat.reduceLT,reduceAdd,reduceSub,reduceMul,Nat.reduceBEq,reduceLeDiff,reduceToNat,reduceLE,hQ]
 refine aO _ (Weak.freeze 1 0 (zero_le _) _) ?_
 simp(maxSteps:=400000)only[↓aX,aY,BEq.rfl,reduceIte,reduceCtorEq,Nat.reduceLT,reduceAdd,reduceSub,reduceMul,Nat.reduceBEq,reduceLeDiff,reduceToNat,reduceLE,hQ,YI,YJ,↓FC,↓FD,bN,bO]
 exact ⟨hl,o1,o2⟩
def tH:dD:=fun args objs K=>match args with
 | [a0,a1]=>fE bX a0 (HK.mk:HK fun a=>fE aA a1 (HK.mk:HK fun n=>(fe a.c)∧(fe n)∧K (.bool (jO a n)) objs 0))
 | _=>False
theorem Mt:aB Tryz.prog 19 (tH):=by
 intro args objs K h
 unfold tH at h
 split at h
 · rename_i a0 a1
   obtain ⟨a,rfl,n,rfl,h1,h2,hk⟩:=h
   exact ⟨_,_,_,.pure _ rfl (Pz a n h1 h2),hk⟩
 · exact h.elim
end Lp
namespace Lp
open Go Go.Proofs
end Lp
namespace Lp
open Go
structure Zg (names:List (List UInt8)) (l:List Vl) (q:JM) (done:List Bool) (m:Nat):Prop where
 par:names.length=l.length
 len:done.length=names.length
 cnt:q.length+m=names.length
 left:done.count false=m
 mem:∀ x:List UInt8×Vl,x ∈ q↔∃ i:Nat,done[i]?=some true∧names[i]?=some x.1∧l[i]?=some x.2
 rise:sj (q.map (·.1))
 utf:∀ x ∈ q,utf x.1=true
 low:∀ (i:Nat) nm,done[i]?=some false→names[i]?=some nm→∀ x ∈ q,Op.bytesLess nm x.1=false
 one:∀ (i j:Nat) nm,done[i]?=some true→done[j]?=some true→names[i]?=some nm→names[j]?=some nm→i=j
theorem Zg.above {names:List (List UInt8)}{l:List Vl}{q:JM}{done:List Bool}{m:Nat}(h:Zg names l q done m){b:Nat}{nm:List UInt8}(hb:done[b]?=some false) (hn:names[b]?=some nm)
  (hl:∀ x,q.getLast?=some x→x.1≠nm):∀ x ∈ q,Op.bytesLess x.1 nm=true:=by
 have hlow:=h.low b nm hb hn
 rcases List.eq_nil_or_concat q with rfl | ⟨q',z,rfl⟩
 · intro x hx;cases hx
 rw [List.concat_eq_append] at *
 have hz:z ∈ q'++[z]:=by simp
 have hzl:Op.bytesLess z.1 nm=true:=by
  rcases CF z.1 nm with g | g | g
  · exact g
  · exact absurd g (hl z (by simp))
  · rw [hlow z hz] at g;cases g
 intro x hx
 have hr:=h.rise
 rw [List.map_append] at hr
 rcases List.mem_append.1 hx with hx | hx
 · exact n_ _ _ _ ((List.pairwise_append.1 hr).2.2 x.1 (List.mem_map.2 ⟨x,hx,rfl⟩) z.1 (by simp)) hzl
 · simp only [List.mem_singleton] at hx
   subst hx;exact hzl
theorem Zg.step {names:List (List UInt8)}{l:List Vl}{q:JM}{done:List Bool}{m:Nat}(h:Zg names l q done (m+1)){b:Nat}{nm:List UInt8}{v:Vl}(hb:done[b]?=some false) (hn:names[b]?=some nm) (hv:l[b]?=some v)
  (hmin:∀ (i:Nat) Lx,done[i]?=some false→names[i]?=some Lx→Op.bytesLess Lx nm=false) (hu:Lp.utf nm=true) (hl:∀ x,q.getLast?=some x→x.1≠nm) :
  Zg names l (q++[(nm,v)]) (done.set b true) m:=by
 have hbl:=(List.getElem?_eq_some_iff.1 hb).1
 have hab:=h.above hb hn hl
 have hset:∀ i c,(done.set b true)[i]?=some c→(i=b∧c=true)∨(i≠b∧done[i]?=some c):=fun i c hc=>by
  rw [List.getElem?_set] at hc
  split at hc
  · rename_i e
    subst e
    exact .inl ⟨rfl,by simpa [hbl] using hc.symm⟩
  · rename_i e
    exact .inr ⟨fun e'=>e e'.symm,hc⟩
 have hset':∀ i c,i≠b→done[i]?=some c→(done.set b true)[i]?=some c:=fun i c hi hc=>by
  rw [List.getElem?_set_ne (fun e=>hi e.symm)];exact hc
 have hsb:(done.set b true)[b]?=some true:=by rw [List.getElem?_set_self hbl]
 refine ⟨h.par,by simp [h.len],by have:=h.cnt;simp;omega,?_,fun x=>?_,?_,?_,?_,?_⟩
 · have h1:=h.left
   have e:done=done.take b++false::done.drop (b+1):=by
    have:=List.getElem?_eq_some_iff.1 hb
    obtain ⟨_,e⟩:=this
    conv=>lhs;rw [← List.take_append_drop b done,List.drop_eq_getElem_cons hbl,e]
   have e2:done.set b true=done.take b++true::done.drop (b+1):=by
    rw [List.set_eq_take_append_cons_drop,if_pos hbl]
   rw [e2,List.count_append,List.count_cons]
   rw [e,List.count_append,List.count_cons] at h1
   simp at h1 ⊢
   omega
 · rw [List.mem_append,h.mem]
   constructor
   · rintro (⟨i,h1,h2,h3⟩ | hx)
     · have:i≠b:=fun e=>by subst e;rw [hb] at h1;cases h1
       exact ⟨i,hset' i _ this h1,h2,h3⟩
     · simp only [List.mem_singleton] at hx
       subst hx
       exact ⟨b,hsb,hn,hv⟩
   · rintro ⟨i,h1,h2,h3⟩
     rcases hset i _ h1 with ⟨rfl,_⟩ | ⟨hi,hd⟩
     · right
       rw [hn] at h2;rw [hv] at h3
       simp only [Option.some.injEq] at h2 h3
       simp [h2,h3]
     · exact .inl ⟨i,hd,h2,h3⟩
 · rw [List.map_append]
   refine List.pairwise_append.2 ⟨h.rise,by simp,fun x hx y hy=>?_⟩
   simp only [List.map_cons,List.map_nil,List.mem_singleton] at hy
   subst hy
   obtain ⟨z,hz,rfl⟩:=List.mem_map.1 hx
   exact hab z hz
 · intro x hx
   rcases List.mem_append.1 hx with hx | hx
   · exact h.utf x hx
   · simp only [List.mem_singleton] at hx
     subst hx;exact hu
 · intro i Lx h1 h2 x hx
   rcases hset i _ h1 with ⟨_,hc⟩ | ⟨hi,hd⟩
   · cases hc
   · rcases List.mem_append.1 hx with hx | hx
     · exact h.low i Lx hd h2 x hx
     · simp only [List.mem_singleton] at hx
       subst hx
       exact hmin i Lx hd h2
 · intro i j Lx h1 h2 h3 h4
   have key:∀ k,k≠b→done[k]?=some true→names[k]?=some Lx→Lx≠nm:=fun k hk hd hnk e=>by
    subst e
    have hkl:k<l.length:=by rw [← h.par];exact (List.getElem?_eq_some_iff.1 hnk).1
    have:=hab (Lx,l[k]) ((h.mem _).2 ⟨k,hd,hnk,List.getElem?_eq_getElem hkl⟩)
    rw [d9] at this;cases this
   rcases hset i _ h1 with ⟨rfl,_⟩ | ⟨hi,hd⟩
   · rcases hset j _ h2 with ⟨rfl,_⟩ | ⟨hj,hd'⟩
     · rfl
     · rw [hn] at h3
       simp only [Option.some.injEq] at h3
       exact absurd h3.symm (key j hj hd' h4)
   · rcases hset j _ h2 with ⟨rfl,_⟩ | ⟨hj,hd'⟩
     · rw [hn] at h4
       simp only [Option.some.injEq] at h4
       exact absurd h4.symm (key i hi hd h3)
     · exact h.one i j Lx hd hd' h3 h4
theorem Zg.all {names:List (List UInt8)}{l:List Vl}{q:JM}{done:List Bool}(h:Zg names l q done 0){i:Nat}(hi:i<names.length):done[i]?=some true:=by
 have h1:=List.getElem?_eq_getElem (by rw [h.len];exact hi:i<done.length)
 rw [h1]
 cases hd:done[i]'(by rw [h.len];exact hi) with
 | true=>rfl
 | false=>
  have:=h.left
  rw [List.count_eq_zero] at this
  exact absurd (by rw [← hd];exact List.getElem_mem _) this
theorem Zg.end {names:List (List UInt8)}{l:List Vl}{q:JM}{done:List Bool}(h:Zg names l q done 0):xA names l.length=true∧q=XB (names.zip l):=by
 have hq:∀ (i:Nat) (hi:i<names.length),(names[i],l[i]'(by rw [← h.par];exact hi)) ∈ q:=fun i hi=>
  (h.mem _).2 ⟨i,h.all hi,List.getElem?_eq_getElem hi,List.getElem?_eq_getElem _⟩
 have hok:xA names l.length=true:=by
  rw [qL]
  refine ⟨h.par,?_,fun x hx=>?_⟩
  · refine List.pairwise_iff_getElem.2 fun i j hi hj hij e=>?_
    have:=h.one i j names[i] (h.all hi) (h.all hj) (List.getElem?_eq_getElem hi) (by rw [e];exact List.getElem?_eq_getElem hj)
    omega
  · obtain ⟨i,hi,rfl⟩:=List.mem_iff_getElem.1 hx
    exact h.utf _ (hq i hi)
 refine ⟨hok,NA hok h.rise fun x=>?_⟩
 constructor
 · intro hx
   obtain ⟨i,_,h2,h3⟩:=(h.mem x).1 hx
   refine List.mem_iff_getElem?.2 ⟨i,?_⟩
   rw [List.getElem?_zip_eq_some]
   exact ⟨h2,h3⟩
 · intro hx
   obtain ⟨i,hi⟩:=List.mem_iff_getElem?.1 hx
   rw [List.getElem?_zip_eq_some] at hi
   exact (h.mem x).2 ⟨i,h.all (List.getElem?_eq_some_iff.1 hi.1).1,hi.1,hi.2⟩
theorem Zg.some {names:List (List UInt8)}{l:List Vl}{q:JM}{done:List Bool}{m:Nat}(h:Zg names l q done (m+1)):∃ i:Nat,done[i]?=Option.some false:=by
 have:0<done.count false:=by rw [h.left];omega
 exact List.mem_iff_getElem?.1 (List.count_pos_iff.1 this)
end Lp
namespace Lp
open Go Go.Proofs
theorem SA {α:Type}{f:PV→PV}(enc:α→PV) (h:∀ x,(enc x).bI f=enc x) (l:List α):(l.map enc).map (PV.bI f)=l.map enc:=by
 rw [List.map_map]
 exact List.map_congr_left fun x _=>h x
end Lp
namespace Lp
open Go Go.Proofs
theorem aP.SB {P:Program}{D:TypeId→aD}{T:Know}{f:FuncId}{n t u:Nat}{ty uy:TypeId}{C:LC}{args:List PV}{r:PV}(h:aP P f n [.cell t ty,.cell u uy] C) (d:Nat) (hD:∀ t,iK P t (D t)) (hT:Fj P none rJ T) (hm:P.follows .mixedOrders=true) (ht:t<n) (hu:u<n)
  (hw:∀ Q:Exit→St→Prop,(∀ l ob,Q .ret ⟨dH n l,ob⟩=fw (D ty) (l6 l t) ob fun p _ _=>fw (D uy) (l6 l u) ob fun q _ _=>r=.bZ [gJ d 0 ob p,gJ d 0 ob q])→kS P D T C Q (bU args n)):ai P f args [] r []:=by
 refine h.pure d hD hT hm (by simp) (hw _ fun l ob=>?_)
 simp only [m_,jF,rM.2.1 n l t ht,rM.2.1 n l u hu,List.map_cons,List.map_nil,fC]
def Eo:Vl→Int
 | []=>0
 | n::_=>n.kind
def Zh (v:Vl) (nm:List UInt8):Option Vl:=if Eo v=6 then aeI (prs v) nm else none
def SC (v:Vl) (nm:List UInt8):Vl:=(Zh v nm).getD []
theorem eX.lt {O:List Obj}(h:eX O):jQ O:=fun o ho x hx c hc=>by
 have:=h o ho x hx c hc
 cases c <;> first | rfl | (simp [PV.ref] at this)
end Lp
namespace Lp
open Go Go.Proofs Go.RowKit Go.Sort
end Lp
namespace Lp
open Go Go.Proofs Go.RowKit
end Lp
namespace Lp
open Go Go.Proofs
theorem WE (P:Program) (D:TypeId→aD) (T:Know) (w pt:Bool) (ev:Operand→PV) (objs:List Obj) (K:KT) :
  (∀ t x ix ok,kW P D T w pt ev objs (.lookup t x ix ok) K=lC D t (ev x) (ev ix) ok objs K)∧
  (∀ t x y z,kW P D T w pt ev objs (.mapUpdate t x y z) K=gu D t (ev x) (ev y) (ev z) objs K)∧
  (∀ t,kW P D T w pt ev objs (.makeMap t none) K=kU D t objs K):=⟨fun _ _ _ _=>rfl,fun _ _ _ _=>rfl,fun _=>rfl⟩
theorem SE (ti:aD):(∀ i v,found ti (some (i,v)) true=.bZ [v,.bool true])∧(∀ i v,found ti (some (i,v)) false=v)∧(found ti none true=.bZ [aI ti,.bool false])∧(found ti none false=aI ti):=⟨fun _ _=>rfl,fun _ _=>rfl,rfl,rfl⟩
end Lp
namespace Lp
open Go Go.Proofs
open Nat (lt_or_ge reduceAdd reduceLeDiff reduceMul reduceSub)
open Int (reduceLE reduceToNat)
theorem WG (mask kind:Int) (hm:0≤mask∧mask≤1000000) (hk:0≤kind∧kind≤1000000):ai Tryz.prog 73 [.int .i64 mask,.int .i64 kind] [] (.bool (nk mask kind)) []:=by
 refine Bf.bf (T:=aR Tryz.prog []) 0 hD (aj ah) aZ (by decide) fun Q hQ=>?_
 (conv=>arg 4;cbv);simp(maxSteps:=400000)only[↓aX,aY,BEq.rfl,reduceIte,reduceCtorEq,Nat.reduceLT,reduceAdd,reduceSub,reduceMul,Nat.reduceBEq,reduceLeDiff,reduceToNat,reduceLE,hQ]
 refine aH (fun m S=>∃ (i x:Nat),i+m=kind.toNat∧x=mask.toNat / 2 ^ i∧S=⟨dH 16 [(0,.int .i64 x),(1,.int .i64 kind),(5,.int .i64 i)],[]⟩) kind.toNat ⟨0,mask.toNat,by omega,by simp,?_⟩ ?_
 · simp only [bV,keepR,reduceAdd,ng,Nat.reduceBEq,List.map_nil]
   rw [Int.toNat_of_nonneg hm.1];rfl
 rintro m S ⟨i,x,him,hx,rfl⟩
 have hxm:x≤mask.toNat:=by rw [hx];exact Nat.div_le_self ..
 rcases lt_or_ge i kind.toNat with h | h
 rotate_left 1
 · have hlt:((i:Int)<kind)=False:=eq_false (by omega)
   have hi:i=kind.toNat:=by omega
   have hr:nk mask kind=decide ((x:Int).tmod 2=1):=by
    have e:(x:Int).tmod 2=((x % 2:Nat):Int):=rfl
    rw [e,nk,← hi,← hx,Bool.eq_iff_iff,beq_iff_eq,decide_eq_true_iff]
    omega
   simp(maxSteps:=400000)only[↓aX,aY,BEq.rfl,reduceIte,reduceCtorEq,Nat.reduceLT,reduceAdd,reduceSub,reduceMul,Nat.reduceBEq,reduceLeDiff,reduceToNat,reduceLE,hQ,hlt,hr]
   decide
 · have hlt:((i:Int)<kind)=True:=eq_true (by omega)
   simp(maxSteps:=400000)only[↓aX,aY,BEq.rfl,reduceIte,reduceCtorEq,Nat.reduceLT,reduceAdd,reduceSub,reduceMul,Nat.reduceBEq,reduceLeDiff,reduceToNat,reduceLE,hQ,hlt]
   have e:(x:Int).tdiv 2=((x / 2:Nat):Int):=rfl
   refine ⟨by decide,⟨by omega,by omega⟩,⟨by omega,by omega⟩,m-1,by omega,i+1,x / 2,by omega,?_,by simp [e]⟩
   rw [hx,Nat.div_div_eq_div_mul,Nat.pow_succ]
def BQ:dD:=fun args objs K=>match args with
 | [.int .i64 mask,.int .i64 kind]=>(0≤mask∧mask≤1000000)∧(0≤kind∧kind≤1000000)∧K (.bool (nk mask kind)) objs 0
 | _=>False
theorem SF:aB Tryz.prog 73 (BQ):=by
 intro args objs K h
 unfold BQ at h
 split at h
 · rename_i mask kind
   obtain ⟨h1,h2,hk⟩:=h
   exact ⟨_,_,_,.pure _ rfl (WG mask kind h1 h2),hk⟩
 · exact h.elim
theorem aec (P:Program) (D:TypeId→aD) (T:Know) (w pt:Bool) (ev:Operand→PV) (objs:List Obj) (K:KT) :
  ∀ t x y z,kW P D T w pt ev objs (.insert t x y z) K=gu D t (ev x) (ev y) (ev z) objs K:=fun _ _ _ _=>rfl
theorem SG (how:Int) (h:0≤how∧how≤5):ai Tryz.prog 89 [.int .i64 how] [] (.int .i64 (JP how)) []:=by
 refine Ou.bf (T:=aR Tryz.prog []) 0 hD (aj ah) aZ (by decide) fun Q hQ=>?_
 have:how=0∨how=1∨how=2∨how=3∨how=4∨how=5:=by omega
 rcases this with rfl | rfl | rfl | rfl | rfl | rfl
 all_goals
  (conv=>arg 4;cbv);simp(maxSteps:=400000)only[↓aX,aY,BEq.rfl,reduceIte,reduceCtorEq,Nat.reduceLT,reduceAdd,reduceSub,reduceMul,Nat.reduceBEq,reduceLeDiff,reduceToNat,reduceLE,hQ,↓WE,↓aec,kU,gu,lC]
  repeat refine ⟨.inr ⟨_,rfl⟩,_,rfl,?_⟩
  rfl
def BR:dD:=fun args objs K=>match args with
 | [.int .i64 how]=>(0≤how∧how≤5)∧K (.int .i64 (JP how)) objs 0
 | _=>False
theorem PD:aB Tryz.prog 89 (BR):=by
 intro args objs K h
 unfold BR at h
 split at h
 · rename_i how
   obtain ⟨h1,hk⟩:=h
   exact ⟨_,_,_,.pure _ rfl (SG how h1),hk⟩
 · exact h.elim
theorem WH (a:iA) (n:Nd) (ha:fe a.c) (hn:fe n):ai Tryz.prog 116 [bX a,.addr (aA n)] [] (.bool (Bool.not (jO a n))) []:=by
 refine EK.bf (T:=aR Tryz.prog [(117,x9)]) 0 hD (aj (af Ms ah)) aZ (by decide) fun Q hQ=>?_
 (conv=>arg 4;cbv);simp(maxSteps:=400000)only[↓aX,aY,BEq.rfl,reduceIte,reduceCtorEq,Nat.reduceLT,reduceAdd,reduceSub,reduceMul,Nat.reduceBEq,reduceLeDiff,reduceToNat,reduceLE,hQ]
 refine aO _ (Weak.freeze 1 0 (Nat.zero_le _) _) ?_
 simp(maxSteps:=400000)only[↓aX,aY,BEq.rfl,reduceIte,reduceCtorEq,Nat.reduceLT,reduceAdd,reduceSub,reduceMul,Nat.reduceBEq,reduceLeDiff,reduceToNat,reduceLE,hQ,Oz,↓x9]
 exact ⟨ha,hn⟩
def BS (n:Nd):dD:=fun args objs K=>match args with
 | [a0,a1]=>fE bX a0 (HK.mk:HK fun a=>a1=(.addr (aA n))∧(fe a.c)∧(fe n)∧K (.bool (Bool.not (jO a n))) objs 0)
 | _=>False
theorem SH (n:Nd):aB Tryz.prog 116 (BS n):=by
 intro args objs K h
 unfold BS at h
 split at h
 · rename_i a0 a1
   obtain ⟨a,rfl,rfl,h1,h2,hk⟩:=h
   exact ⟨_,_,_,.pure _ rfl (WH a n h1 h2),hk⟩
 · exact h.elim
def lg (n:Nd) (a:iA):Bool:=Bool.not (jO a n)
theorem Mv (l:List iA) (n:Nd) (hl:l.length≤4611686018427387904) (ha:∀ a ∈ l,fe a.c) (hn:fe n):ai Tryz.prog 104 [bC l,.fn 116 [] [.addr (aA n)]] [] (.int .i64 (idxOf (lg n) l)) []:=by
 refine fJ.bf (T:=aR Tryz.prog [(116,(BS n))]) 0 hD (aj (af (SH n) ah)) aZ (by decide) fun Q hQ=>?_
 (conv=>arg 4;cbv);simp(maxSteps:=400000)only[↓aX,aY,BEq.rfl,reduceIte,reduceCtorEq,Nat.reduceLT,reduceAdd,reduceSub,reduceMul,Nat.reduceBEq,reduceLeDiff,reduceToNat,reduceLE,hQ]
 refine aH (fun m S=>∃ i:Nat,i+m=l.length∧(∀ (j:Nat) y,j<i→l[j]?=some y→lg n y=false)∧S=⟨dH 19 [(0,bC l),(1,.fn 116 [] [.addr (aA n)]),(7,.int .i64 l.length),(8,.int .i64 i)],[]⟩) l.length ⟨0,by omega,fun j y h=>absurd h (Nat.not_lt_zero j),?_⟩ ?_
 · simp only [bV,keepR,reduceAdd,ng,Nat.reduceBEq,List.map_nil]
   rfl
 rintro m S ⟨i,him,hb,rfl⟩
 rcases lt_or_ge i l.length with h | h
 rotate_left 1
 · have hlt:((i:Int)<(l.length:Int))=False:=eq_false (by omega)
   have hr:=uQ (l:=l) fun j y hj=>hb j y (by have:=(List.getElem?_eq_some_iff.1 hj).1;omega) hj
   simp(maxSteps:=400000)only[↓aX,aY,BEq.rfl,reduceIte,reduceCtorEq,Nat.reduceLT,reduceAdd,reduceSub,reduceMul,Nat.reduceBEq,reduceLeDiff,reduceToNat,reduceLE,hQ,hlt,hr]
 have hlt:((i:Int)<(l.length:Int))=True:=eq_true (by omega)
 have zi:(0≤(i:Int))=True:=eq_true (by omega)
 have hgi:=List.getElem?_eq_getElem h
 have hao:=ha _ (List.getElem_mem h)
 generalize l[i]=o at hgi hao
 cases hp:jO o n
 · have hr:idxOf (lg n) l=i:=idxOf_hit hgi (by simp [lg,hp]) hb
   simp(maxSteps:=400000)only[↓aX,aY,BEq.rfl,reduceIte,reduceCtorEq,Nat.reduceLT,reduceAdd,reduceSub,reduceMul,Nat.reduceBEq,reduceLeDiff,reduceToNat,reduceLE,hQ,hlt,zi,hgi,↓BS,hp,hr]
   exact ⟨hao,hn⟩
 · simp(maxSteps:=400000)only[↓aX,aY,BEq.rfl,reduceIte,reduceCtorEq,Nat.reduceLT,reduceAdd,reduceSub,reduceMul,Nat.reduceBEq,reduceLeDiff,reduceToNat,reduceLE,hQ,hlt,zi,hgi,↓BS,hp]
   refine ⟨hao,hn,⟨by omega,by omega⟩,m-1,by omega,i+1,by omega,fun j y hj hy=>?_,rfl⟩
   rcases lt_or_ge j i with g | g
   · exact hb j y g hy
   · have:j=i:=by omega
     subst this
     rw [hgi] at hy;cases hy
     simp [lg,hp]
def uU (n:Nd):dD:=fun args objs K=>match args with
 | [a0,a1]=>fE bC a0 (HK.mk:HK fun l=>a1=(.fn 116 [] [.addr (aA n)])∧(l.length≤4611686018427387904)∧(∀ a ∈ l,fe a.c)∧(fe n)∧K (.int .i64 (idxOf (lg n) l)) objs 0)
 | _=>False
theorem Jk (n:Nd):aB Tryz.prog 104 (uU n):=by
 intro args objs K h
 unfold uU at h
 split at h
 · rename_i a0 a1
   obtain ⟨l,rfl,rfl,h1,h2,h3,hk⟩:=h
   exact ⟨_,_,_,.pure _ rfl (Mv l n h1 h2 h3),hk⟩
 · exact h.elim
theorem Mw (l:List iA) (n:Nd) (hl:l.length≤4611686018427387904) (ha:∀ a ∈ l,fe a.c) (hn:fe n):ai Tryz.prog 86 [bC l,.fn 116 [] [.addr (aA n)]] [] (.bool (l.any (lg n))) []:=by
 refine eY.bf (T:=aR Tryz.prog [(104,(uU n))]) 0 hD (aj (af (Jk n) ah)) aZ (by decide) fun Q hQ=>?_
 (conv=>arg 4;cbv);simp(maxSteps:=400000)only[↓aX,aY,BEq.rfl,reduceIte,reduceCtorEq,Nat.reduceLT,reduceAdd,reduceSub,reduceMul,Nat.reduceBEq,reduceLeDiff,reduceToNat,reduceLE,hQ,↓uU,xZ]
 exact ⟨hl,ha,hn⟩
def uV (n:Nd):dD:=fun args objs K=>match args with
 | [a0,a1]=>fE bC a0 (HK.mk:HK fun l=>a1=(.fn 116 [] [.addr (aA n)])∧(l.length≤4611686018427387904)∧(∀ a ∈ l,fe a.c)∧(fe n)∧K (.bool (l.any (lg n))) objs 0)
 | _=>False
theorem Jl (n:Nd):aB Tryz.prog 86 (uV n):=by
 intro args objs K h
 unfold uV at h
 split at h
 · rename_i a0 a1
   obtain ⟨l,rfl,rfl,h1,h2,h3,hk⟩:=h
   exact ⟨_,_,_,.pure _ rfl (Mw l n h1 h2 h3),hk⟩
 · exact h.elim
theorem Zi {mask kind:Int}(hm:0≤mask∧mask≤31) (hk:0≤kind∧kind<5):yR .and .i64 (mask.fdiv (2 ^ min kind.toNat IntKind.i64.bits)) 1=if nk mask kind then 1 else 0:=by
 have key:∀ (m:Fin 32) (k:Fin 5),yR .and .i64 ((m.val:Int).fdiv (2 ^ min k.val IntKind.i64.bits)) 1=if (m.val / 2 ^ k.val) % 2==1 then 1 else 0:=by decide +kernel
 have:=key ⟨mask.toNat,by omega⟩ ⟨kind.toNat,by omega⟩
 simp only [Int.toNat_of_nonneg hm.1] at this
 exact this
theorem Mx (mask:Int) (l:List iA) (n:Nd) (hm:0≤mask∧mask≤31) (hl:l.length≤1000000) (ha:∀ a ∈ l,fe a.c) (hn:tC n) (hs:n.s.length≤1000000):ai Tryz.prog 103 [.int .i64 mask,bC l,aA n] [] (.bool (cO mask l n)) []:=by
 refine IY.bf (T:=aR Tryz.prog [(115,pX),(86,(uV n))]) 0 hD (aj (af Mq (af (Jl n) ah))) aZ (by decide) fun Q hQ=>?_
 (conv=>arg 4;cbv);simp(maxSteps:=400000)only[↓aX,aY,BEq.rfl,reduceIte,reduceCtorEq,Nat.reduceLT,reduceAdd,reduceSub,reduceMul,Nat.reduceBEq,reduceLeDiff,reduceToNat,reduceLE,hQ]
 refine aO _ (Weak.freeze 1 0 (Nat.zero_le _) _) ?_
 cases hp:qM n
 · have hr:cO mask l n=false:=by simp [cO,hp]
   simp(maxSteps:=400000)only[↓aX,aY,BEq.rfl,reduceIte,reduceCtorEq,Nat.reduceLT,reduceAdd,reduceSub,reduceMul,Nat.reduceBEq,reduceLeDiff,reduceToNat,reduceLE,hQ,jw,↓pX,hp,hr]
   exact hn
 have hk:=(og hp).2.2
 have hbit:=Zi hm ⟨hk.1,hk.2.1⟩
 have hk0:(0≤n.kind)=True:=eq_true hk.1
 cases hb:nk mask n.kind
 · have hr:cO mask l n=false:=by simp [cO,hb]
   rw [hb,if_neg (by decide)] at hbit
   simp(maxSteps:=400000)only[↓aX,aY,BEq.rfl,reduceIte,reduceCtorEq,Nat.reduceLT,reduceAdd,reduceSub,reduceMul,Nat.reduceBEq,reduceLeDiff,reduceToNat,reduceLE,hQ,jw,↓pX,hp,hr,oN,hbit,hk0]
   exact hn
 · have hr:cO mask l n=!(l.any (lg n)):=by simp [cO,hp,hb,List.all_eq_not_any_not,lg];rfl
   rw [hb,if_pos rfl] at hbit
   simp(maxSteps:=400000)only[↓aX,aY,BEq.rfl,reduceIte,reduceCtorEq,Nat.reduceLT,reduceAdd,reduceSub,reduceMul,Nat.reduceBEq,reduceLeDiff,reduceToNat,reduceLE,hQ,jw,↓pX,hp,hr,oN,hbit,hk0,↓uV,Int.reduceEq]
   exact ⟨hn,by omega,ha,hp,hs⟩
end Lp
namespace Lp
open Go Go.Proofs
open Nat (reduceAdd reduceLeDiff reduceMul reduceSub)
open Int (reduceLE reduceToNat)
theorem MB (mask:Int) (l:List iA) (n:Nd) (hm:0≤mask∧mask≤1000000) (hl:l.length≤1000000) (ha:∀ a ∈ l,fe a.c) (hn:tC n) (hs:n.s.length≤1000000):ai Tryz.prog 40 [.int .i64 mask,bC l,aA n] [] (.bool (cO mask l n)) []:=by
 refine yI.bf (T:=aR Tryz.prog [(26,lW),(73,BQ),(19,tH)]) 0 hD (aj (af BP (af SF (af Mt ah)))) aZ (by decide) fun Q hQ=>?_
 (conv=>arg 4;cbv);simp(maxSteps:=400000)only[↓aX,aY,BEq.rfl,reduceIte,reduceCtorEq,Nat.reduceLT,reduceAdd,reduceSub,reduceMul,Nat.reduceBEq,reduceLeDiff,reduceToNat,reduceLE,hQ]
 refine aO _ (Weak.freeze 1 0 (Nat.zero_le _) _) ?_
 cases hp:qM n
 · have hr:cO mask l n=false:=by simp [cO,hp]
   simp(maxSteps:=400000)only[↓aX,aY,BEq.rfl,reduceIte,reduceCtorEq,Nat.reduceLT,reduceAdd,reduceSub,reduceMul,Nat.reduceBEq,reduceLeDiff,reduceToNat,reduceLE,hQ,jw,↓lW,hp,hr]
   exact hn
 have hk:=(og hp).2.2
 have hk':0≤n.kind∧n.kind≤1000000:=⟨hk.1,by omega⟩
 cases hb:nk mask n.kind
 · have hr:cO mask l n=false:=by simp [cO,hb]
   simp(maxSteps:=400000)only[↓aX,aY,BEq.rfl,reduceIte,reduceCtorEq,Nat.reduceLT,reduceAdd,reduceSub,reduceMul,Nat.reduceBEq,reduceLeDiff,reduceToNat,reduceLE,hQ,jw,↓lW,↓BQ,hp,hr,hb]
   exact ⟨hn,hm,hk'⟩
 have hr:cO mask l n=l.all fun a=>jO a n:=by simp [cO,hp,hb]
 simp(maxSteps:=400000)only[↓aX,aY,BEq.rfl,reduceIte,reduceCtorEq,Nat.reduceLT,reduceAdd,reduceSub,reduceMul,Nat.reduceBEq,reduceLeDiff,reduceToNat,reduceLE,hQ,jw,↓lW,↓BQ,hp,hr,hb]
 refine ⟨hn,hm,hk',?_⟩
 refine aH (fun m S=>∃ i:Nat,i+m=l.length∧(∀ (j:Nat) y,j<i→l[j]?=some y→jO y n=true)∧S=⟨dH 31 [(1,bC l),(5,.addr (aA n)),(7,.int .i64 i)],[]⟩) l.length ⟨0,by omega,fun j y h=>absurd h (Nat.not_lt_zero j),?_⟩ ?_
 · simp only [bV,keepR,reduceAdd,ng,Nat.reduceBEq,List.map_nil]
   rfl
 rintro m S ⟨i,him,hbf,rfl⟩
 rcases Nat.lt_or_ge i l.length with h | h
 rotate_left 1
 · have hlt:((i:Int)<(l.length:Int))=False:=eq_false (by omega)
   have hall:(l.all fun a=>jO a n)=true:=List.all_eq_true.2 fun x hx=>by
    obtain ⟨j,hj⟩:=List.mem_iff_getElem?.1 hx
    exact hbf j x (by have:=(List.getElem?_eq_some_iff.1 hj).1;omega) hj
   simp(maxSteps:=400000)only[↓aX,aY,BEq.rfl,reduceIte,reduceCtorEq,Nat.reduceLT,reduceAdd,reduceSub,reduceMul,Nat.reduceBEq,reduceLeDiff,reduceToNat,reduceLE,hQ,hlt,hr,hall]
 have hlt:((i:Int)<(l.length:Int))=True:=eq_true (by omega)
 have zi:(0≤(i:Int))=True:=eq_true (by omega)
 have hgi:=List.getElem?_eq_getElem h
 have hao:=ha _ (List.getElem_mem h)
 have hmem:=List.getElem_mem h
 generalize l[i]=o at hgi hao hmem
 cases hh:jO o n
 · have hall:(l.all fun a=>jO a n)=false:=List.all_eq_false.2 ⟨o,hmem,by simp [hh]⟩
   simp(maxSteps:=400000)only[↓aX,aY,BEq.rfl,reduceIte,reduceCtorEq,Nat.reduceLT,reduceAdd,reduceSub,reduceMul,Nat.reduceBEq,reduceLeDiff,reduceToNat,reduceLE,hQ,hlt,zi,hgi,↓tH,hh,hr,hall]
   exact ⟨hao,hp,hs⟩
 · simp(maxSteps:=400000)only[↓aX,aY,BEq.rfl,reduceIte,reduceCtorEq,Nat.reduceLT,reduceAdd,reduceSub,reduceMul,Nat.reduceBEq,reduceLeDiff,reduceToNat,reduceLE,hQ,hlt,zi,hgi,↓tH,hh]
   refine ⟨hao,⟨hp,hs⟩,⟨by omega,by omega⟩,m-1,by omega,i+1,by omega,fun j y hj hy=>?_,rfl⟩
   rcases Nat.lt_or_ge j i with g | g
   · exact hbf j y g hy
   · have:j=i:=by omega
     subst this
     rw [hgi] at hy;cases hy
     exact hh
end Lp
namespace Lp
open Go Go.Proofs
theorem BU:aP Tryz.prog 31 41 [.tmp 4] (gen [] [(35,none)] [] Tryz.f31):=bq Tryz.func31 rfl (by kernel_rfl)
theorem Aa:aP Tryz.prog 24 43 [.tmp 4] (gen [] [(35,none)] [] Tryz.f24):=bq Tryz.func24 rfl (by kernel_rfl)
theorem Ab:aP Tryz.prog 33 74 [.tmp 4] (gen [] [(227,some (1,0))] [] Tryz.f33):=bq Tryz.func33 rfl (by kernel_rfl)
theorem qZ:aP Tryz.prog 35 54 [.tmp 6] (gen [] [(391,none)] [] Tryz.f35):=bq Tryz.func35 rfl (by kernel_rfl)
theorem Ac:aP Tryz.prog 14 87 [.tmp 2] (gen [] [(9,none)] [] Tryz.f14):=bq Tryz.func14 rfl (by kernel_rfl)
theorem Ad:aP Tryz.prog 38 44 [.tmp 4] (gen [7] [(99,none)] [] Tryz.f38):=bq Tryz.func38 rfl (by kernel_rfl)
theorem BV:aP Tryz.prog 16 35 [.tmp 2] (gen [] [(9,some (1,0))] [] Tryz.f16):=bq Tryz.func16 rfl (by kernel_rfl)
theorem DC:aP Tryz.prog 7 12 [.tmp 4] (gen [] [] [] Tryz.f7):=bq Tryz.func7 rfl (by kernel_rfl)
theorem BX:aP Tryz.prog 112 64 [.cell 6 27,.tmp 7] (gen [] [(71,none),(71,none)] [] Tryz.f112):=bq Tryz.func112 rfl (by kernel_rfl)
theorem yM:aP Tryz.prog 109 19 [.tmp 4] (gen [] [(100,none)] [] Tryz.f109):=bq Tryz.func109 rfl (by kernel_rfl)
theorem yN:aP Tryz.prog 98 60 [.cell 4 27,.tmp 5] (gen [] [] [] Tryz.f98):=bq Tryz.func98 rfl (by kernel_rfl)
theorem tJ:aP Tryz.prog 71 98 [.tmp 2] (gen [14] [(25,some (1,1)),(521,none)] [] Tryz.f71):=bq Tryz.func71 rfl (by kernel_rfl)
theorem Ae:aP Tryz.prog 37 28 [.cell 4 27,.tmp 5] (gen [] [(211,none)] [] Tryz.f37):=bq Tryz.func37 rfl (by kernel_rfl)
theorem BZ:aP Tryz.prog 21 56 [.tmp 6] (gen [15] [(390,some (1,2))] [] Tryz.f21):=bq Tryz.func21 rfl (by kernel_rfl)
theorem B_:aP Tryz.prog 13 26 [.tmp 4] (gen [] [(35,none)] [] Tryz.f13):=bq Tryz.func13 rfl (by kernel_rfl)
theorem PE:aP Tryz.prog 94 19 [.tmp 4] (gen [] [(35,none)] [] Tryz.f94):=bq Tryz.func94 rfl (by kernel_rfl)
theorem PG:aP Tryz.prog 93 28 [] (gen [] [(779,none)] [] Tryz.f93):=bq Tryz.func93 rfl (by kernel_rfl)
theorem WI:aP Tryz.prog 63 4 [.tmp 2] (gen [] [] [] Tryz.f63):=bq Tryz.func63 rfl (by kernel_rfl)
theorem ja:aP Tryz.prog 28 8 [.tmp 2] (gen [5] [] [] Tryz.f28):=bq Tryz.func28 rfl (by kernel_rfl)
theorem SI:aP Tryz.prog 52 24 [.tmp 2] (gen [] [(0,none)] [7] Tryz.f52):=bq Tryz.func52 rfl (by kernel_rfl)
theorem MC:aP Tryz.prog 101 35 [.tmp 4] (gen [] [(3670048,some (1,1))] [] Tryz.f101):=bq Tryz.func101 rfl (by kernel_rfl)
theorem Hq:aP Tryz.prog 84 10 [.tmp 2] (gen [] [] [] Tryz.f84):=bq Tryz.func84 rfl (by kernel_rfl)
end Lp
namespace Lp
open Go
open List (cons_append drop_eq_getElem_cons flatten_cons length_drop length_take nil_append)
namespace Y
theorem ql (L:Nat) (v:aC):iB L v 0=some 0:=by cases v <;> rfl
theorem LD (L:Nat):∀ (v:aC) (k c i:Nat),iB L v k=some c→i<c→∃ k' c',iB L (v.drop i) (k'+1)=some c'
 | v,0,c,i,h,hi=>by rw [ql] at h;cases h;omega
 | [],k+1,c,i,h,hi=>by simp [iB] at h
 | n::v,k+1,c,0,h,hi=>⟨k,c,by simpa using h⟩
 | n::v,k+1,c,i+1,h,hi=>by
  rw [iB] at h
  split at h
  · cases h
  · cases hs:iB L v (k+n.many.toNat) with
    | none=>rw [hs] at h;simp at h
    | some c'=>
     rw [hs] at h
     simp only [Option.map_some,Option.some.injEq] at h
     simpa using LD L v _ c' i hs (by omega)
theorem sW (L:Nat):∀ (v:aC) (j k c:Nat),iB L v (j+k)=some c→∃ c1 c2,iB L v j=some c1∧iB L (v.drop c1) k=some c2∧c=c1+c2
 | v,0,k,c,h=>⟨0,c,ql L v,by simpa using h,by simp⟩
 | [],j+1,k,c,h=>by
  rw [show j+1+k=(j+k)+1 by omega] at h
  simp [iB] at h
 | n::v,j+1,k,c,h=>by
  rw [show j+1+k=(j+k)+1 by omega,iB] at h
  split at h
  · cases h
  · rename_i hn
    cases hs:iB L v (j+k+n.many.toNat) with
    | none=>rw [hs] at h;simp at h
    | some c'=>
     rw [hs] at h
     simp only [Option.map_some,Option.some.injEq] at h
     rw [show j+k+n.many.toNat=(j+n.many.toNat)+k by omega] at hs
     obtain ⟨c1,c2,h1,h2,rfl⟩:=sW L v _ k c' hs
     refine ⟨c1+1,c2,?_,by simpa using h2,by omega⟩
     rw [iB,if_neg hn,h1];rfl
theorem qm (L:Nat):∀ (v:aC) (k c:Nat),skip v k=some c→c≤L→iB L v k=some c
 | v,0,c,h,_=>by cases v <;> simpa [iB,skip] using h
 | [],k+1,c,h,_=>by simp [skip] at h
 | n::v,k+1,c,h,hc=>by
  obtain ⟨hm,c',rfl,h'⟩:=dm h
  have:=dY _ _ _ h'
  rw [iB,if_neg (by omega),qm L v _ c' h' (by omega)];rfl
def oQ (t:aC) (i:Nat):aC:=match skip (t.drop i) 1 with | some c=>(t.drop i).take c | none=>[]
theorem rR {t:aC}{i:Nat}{x:dS}(ho:One t) (hx:t[i]?=some x):∃ ps c,0≤x.many∧x.many≤t.length∧parts x.many.toNat (t.drop (i+1))=some ps∧skip (t.drop (i+1)) x.many.toNat=some c∧ps.flatten=(t.drop (i+1)).take c∧(∀ p ∈ ps,One p)∧
  oQ t i=x::ps.flatten∧i+1+c≤t.length:=by
 obtain ⟨hi,rfl⟩:=List.getElem?_eq_some_iff.1 hx
 obtain ⟨c,hc⟩:=ho.at hi
 have hc0:=hc
 rw [drop_eq_getElem_cons hi] at hc
 obtain ⟨hm,c',rfl,h'⟩:=dm (k:=0) hc
 rw [Nat.zero_add] at h'
 obtain ⟨ps,h1,h2,h3⟩:=eG _ _ _ h'
 have hl:=dY _ _ _ h'
 rw [length_drop] at hl
 refine ⟨ps,c',hm,by omega,h1,h',h2,h3,?_,by omega⟩
 unfold oQ
 rw [hc0]
 simp only
 rw [drop_eq_getElem_cons hi,List.take_succ_cons,h2]
theorem SK {t:aC}(ho:One t):oQ t 0=t:=by
 unfold oQ
 rw [List.drop_zero,show skip t 1=some t.length from ho]
 simp
end Y
def mU (x:dS):Option (List UInt8)→List aC→Bool
 | _,[]=>true
 | prev,p::ps=>zw x p && (x.kind !=2 || (match prev with | none=>true | some a=>Op.bytesLess a (Y.nameOf p))) && mU x (some (Y.nameOf p)) ps
theorem PI (x:dS):∀ (ps:List aC) (prev:Option (List UInt8)),mU x prev ps=(ps.all (zw x) && (x.kind !=2 || yQ ((match prev with | none=>[] | some a=>[a])++ps.map Y.nameOf)))
 | [],prev=>by cases prev <;> simp [mU,yQ]
 | p::ps,prev=>by
  have ih:=PI x ps (some (Y.nameOf p))
  simp only [mU,ih,List.all_cons,List.map_cons]
  cases prev with
  | none=>
   simp only [nil_append,cons_append]
   cases zw x p <;> cases ps.all (zw x) <;> cases (x.kind !=2) <;> simp
  | some a=>
   simp only [nil_append,cons_append]
   rw [yQ]
   cases zw x p <;> cases ps.all (zw x) <;> cases (x.kind !=2) <;> simp
theorem WJ (x:dS) (ps:List aC):mU x none ps=vX x ps:=by
 rw [PI];rfl
def Af (t:aC) (i:Nat):Bool:=match t.drop i with
 | n::r=>(match Y.parts n.many.toNat r with | some ps=>vX n ps | none=>false)
 | []=>true
def kQ (t:aC) (i:Nat):Bool:=match t.drop i with
 | n::r=>(match Y.parts n.many.toNat r with | some ps=>Ap eD n ps | none=>false)
 | []=>true
theorem SL {t:aC}{i:Nat}{n:dS}(hi:t[i]?=some n):Y.fI (l9 bA eD) (t.drop i)=(bR bA n && Af t i && kQ t i && Y.fI (l9 bA eD) (t.drop (i+1))):=by
 have hl:=(List.getElem?_eq_some_iff.1 hi).1
 have hd:=drop_eq_getElem_cons hl
 rw [List.getElem?_eq_getElem hl] at hi
 cases hi
 simp only [Af,kQ,hd,Y.fI]
 cases Y.parts (t[i]).many.toNat (t.drop (i+1)) with
 | none=>simp
 | some ps=>simp [l9]
def jM (t:aC) (i:Nat) (p:List Stp):Int:=match jr p (Y.oQ t i) with
 | some j=>(i+j:Nat)
 | none=>-1
theorem Hr:∀ (p:List Stp) (t:aC) (j:Nat),Y.One t→jr p t=some j→j<t.length
 | [],t,j,ho,h=>by
  simp only [jr,Option.some.injEq] at h
  subst h
  exact List.length_pos_iff.2 ho.ne
 | s::p,[],j,ho,_=>absurd rfl ho.ne
 | s::p,x::r,j,ho,h=>by
  obtain ⟨hm,ps,h1,h2,h3⟩:=ho.parts
  have hp:Y.partsOf x r=ps:=by simp [Y.partsOf,h1]
  simp only [jr,hp] at h
  split at h
  · cases hf:lQ s.name 1 ps with
    | none=>rw [hf] at h;cases h
    | some oq=>
     obtain ⟨o,q⟩:=oq
     rw [hf] at h
     simp only [Option.map_eq_some_iff] at h
     obtain ⟨k,hk,rfl⟩:=h
     have gen:∀ (qs:List aC) (o0:Nat),lQ s.name o0 qs=some (o,q)→q ∈ qs∧o+q.length≤o0+qs.flatten.length:=by
      intro qs
      induction qs with
      | nil=>intro o0 h;simp [lQ] at h
      | cons a t ih=>
       intro o0 h
       simp only [lQ] at h
       split at h
       · simp only [Option.some.injEq,Prod.mk.injEq] at h
         obtain ⟨rfl,rfl⟩:=h
         exact ⟨List.mem_cons_self ..,by simp only [flatten_cons,List.length_append];omega⟩
       · obtain ⟨g1,g2⟩:=ih _ h
         exact ⟨List.mem_cons_of_mem _ g1,by simp only [flatten_cons,List.length_append];omega⟩
     obtain ⟨g1,g2⟩:=gen ps 1 hf
     have:=Hr p q k (h3 q g1) hk
     rw [h2] at g2
     simp only [List.length_cons]
     omega
  · cases h
theorem PK {t:aC}{i:Nat}{p:List Stp}(ho:Y.One t) (hi:i<t.length):jM t i p<t.length∧(0≤jM t i p∨jM t i p=-1):=by
 unfold jM
 cases h:jr p (Y.oQ t i) with
 | none=>
  show (-1:Int)<t.length∧(0≤(-1:Int)∨(-1:Int)=-1)
  exact ⟨by omega,.inr rfl⟩
 | some j=>
  obtain ⟨ps,c,_,_,_,_,h5,h6,h7,h8⟩:=Y.rR ho (List.getElem?_eq_getElem hi)
  have hs:(Y.oQ t i).length=1+c:=by
   rw [h7,List.length_cons,h5,length_take,length_drop];omega
  have hone:Y.One (Y.oQ t i):=by
   rw [h7]
   exact Y.One.made (by
    have:=Y.bS _ _ _ ‹Y.parts _ _=some ps›
    omega) h6
  have:=Hr p _ j hone h
  simp only
  omega
theorem aaT {t:aC}{i j:Nat}(ho:Y.One t) (hi:i<t.length) (hj:j<(Y.oQ t i).length):(Y.oQ t i)[j]?=t[i+j]?:=by
 obtain ⟨ps,c,_,_,_,_,h5,h6,h7,h8⟩:=Y.rR ho (List.getElem?_eq_getElem hi)
 have e:Y.oQ t i=(t.drop i).take (c+1):=by rw [h7,h5,drop_eq_getElem_cons hi,List.take_succ_cons]
 rw [e] at hj ⊢
 rw [length_take,length_drop] at hj
 rw [List.getElem?_take,if_pos (by omega),List.getElem?_drop]
theorem sub_one {t:aC}{i:Nat}(ho:Y.One t) (hi:i<t.length):Y.One (Y.oQ t i):=by
 obtain ⟨ps,c,_,_,h3,_,h5,h6,h7,h8⟩:=Y.rR ho (List.getElem?_eq_getElem hi)
 rw [h7]
 exact Y.One.made (by have:=Y.bS _ _ _ h3;omega) h6
theorem Zj {t:aC}{i:Nat}{p:List Stp}(ho:Y.One t) (hi:i<t.length):(iY p (Y.oQ t i)).isSome=true↔0≤jM t i p∧∃ x,t[(jM t i p).toNat]?=some x∧x.kind=1:=by
 unfold iY jM
 cases h:jr p (Y.oQ t i) with
 | none=>simp
 | some j=>
  have hj:=Hr p _ j (sub_one ho hi) h
  have hr:=aaT ho hi hj
  simp only [Int.toNat_natCast]
  rw [hr]
  constructor
  · intro hs
    split at hs
    · rename_i hk
      cases hx:t[i+j]? with
      | none=>rw [hx] at hk;simp at hk
      | some x=>rw [hx] at hk;exact ⟨by omega,x,rfl,by simpa using hk⟩
    · cases hs
  · rintro ⟨_,x,hx,hk⟩
    rw [hx,Option.map_some,hk]
    rfl
def fo (t:aC):Bool:=!t.isEmpty && Y.nameOf t==[] && Y.kindOf t !=9 && (Y.iB t.length t 1==some t.length) && Y.fI (l9 bA eD) t
def q8 (t:aC):Bool:=fo t && Y.fI Iu t
theorem nQ {t:aC}(h:fo t=true):rZ bA eD t:=by
 simp only [fo,Bool.and_eq_true,beq_iff_eq,bne_iff_ne] at h
 obtain ⟨⟨⟨⟨_,h1⟩,h2⟩,h3⟩,h4⟩:=h
 exact ⟨Y.nY _ _ _ _ h3,h1,h2,(Y.lK t).1 h4⟩
theorem WK {pk:List UInt8→Bool}{qF:List UInt8→List Stp}{n:dS}{ps:List aC}(hk:n.kind=1) (Zk:vX n ps=true) (ho:∀ p ∈ ps,Y.One p) (hg:∀ p ∈ ps,Y.Good (l9 pk qF) p) :
  ps.flatten.length=ps.length∧∀ x ∈ ps.flatten,jC (iJ x)=true∧x.kind=9∧x.s=[]∧x.many=0:=by
 have hone:∀ p ∈ ps,∃ x,p=[x]∧x.kind=9∧x.s=[]∧x.many=0∧jC (iJ x)=true:=fun p hp=>by
  refine JR (ho p hp) (hg p hp) ?_
  simp only [vX,Bool.and_eq_true,List.all_eq_true] at Zk
  have:=Zk.1 p hp
  simp only [zw,Bool.and_eq_true,hk] at this
  have h9:=this.1.1
  simpa using h9
 clear Zk ho hg
 induction ps with
 | nil=>exact ⟨rfl,fun x hx=>by cases hx⟩
 | cons q qs ih=>
  obtain ⟨i1,i2⟩:=ih fun p hp=>hone p (List.mem_cons_of_mem _ hp)
  obtain ⟨x,rfl,x1,x2,x3,x4⟩:=hone q (List.mem_cons_self ..)
  refine ⟨by simp [i1],fun y hy=>?_⟩
  simp only [flatten_cons,cons_append,nil_append,List.mem_cons] at hy
  rcases hy with rfl | hy
  · exact ⟨x4,x1,x2,x3⟩
  · exact i2 y hy
theorem UI {t:aC}{i:Nat}{n:dS}(hr:rZ bA eD t) (hn:t[i]?=some n) (hk:n.kind=1) :
  ∃ ps,Y.parts n.many.toNat (t.drop (i+1))=some ps∧ps.flatten=(t.drop (i+1)).take n.many.toNat∧0≤n.many∧i+1+n.many.toNat≤t.length∧1≤n.n∧n.n≤31∧∀ x ∈ ps.flatten,jC (iJ x)=true:=by
 obtain ⟨hi,rfl⟩:=List.getElem?_eq_some_iff.1 hn
 obtain ⟨ps,c,h1,h2,h3,h4,h5,h6,h7,h8⟩:=Y.rR hr.one (List.getElem?_eq_getElem hi)
 obtain ⟨qs,q1,q2⟩:=hr.good i t[i] (t.drop (i+1)) (drop_eq_getElem_cons hi)
 rw [h3] at q1;cases q1
 simp only [l9,Bool.and_eq_true] at q2
 have hgs:Y.Good (l9 bA eD) ps.flatten:=by
  have hg0:=hr.good
  rw [← List.take_append_drop (i+1) t] at hg0
  have hg1:=hg0.suf
  rw [← List.take_append_drop c (t.drop (i+1)),← h5] at hg1
  have hone:Y.skip ps.flatten ps.length=some ps.flatten.length:=Y.kG ps h6
  intro j m s hd
  obtain ⟨qs,e1,e2⟩:=hg1 j m (s++(t.drop (i+1)).drop c) (Y.vV hd)
  have hj:j<ps.flatten.length:=by
   rcases Nat.lt_or_ge j ps.flatten.length with h | h
   · exact h
   · rw [List.drop_eq_nil_of_le h] at hd;cases hd
  obtain ⟨k',c',hk'⟩:=Y.pI ps.flatten ps.length _ j hone hj
  rw [hd] at hk'
  obtain ⟨_,c2,rfl,hk2⟩:=Y.dm hk'
  obtain ⟨ca,cb,hka,_,_⟩:=Y.nZ _ m.many.toNat k' c2 (by rw [Nat.add_comm];exact hk2)
  obtain ⟨rs,r1,_,_⟩:=Y.eG _ _ _ hka
  have:=Y.iI _ _ ((t.drop (i+1)).drop c) _ r1
  rw [e1] at this;cases this
  exact ⟨qs,r1,e2⟩
 obtain ⟨a1,a2⟩:=WK hk q2.1.2 h6 (Y.Good.lD ps h6 hgs)
 have hpl:=Y.bS _ _ _ h3
 have hcl:ps.flatten.length=c:=by rw [h5,length_take,length_drop];omega
 have hc:c=(t[i]).many.toNat:=by omega
 have hp:=q2.1.1
 simp only [bR,hk,Int.reduceEq,if_false,if_true,Bool.and_eq_true,decide_eq_true_eq] at hp
 exact ⟨ps,h3,by rw [h5,hc],h1,by omega,hp.1.1.1.2,hp.1.1.2,fun x hx=>(a2 x hx).1⟩
def x_ (t:aC) (i:Nat):Bool:=match t.drop i with
 | n::r=>(match Y.parts n.many.toNat r with | some ps=>Iu n ps | none=>false)
 | []=>true
theorem SN {t:aC}{i:Nat}{n:dS}(hi:t[i]?=some n):Y.fI Iu (t.drop i)=(x_ t i && Y.fI Iu (t.drop (i+1))):=by
 have hl:=(List.getElem?_eq_some_iff.1 hi).1
 have hd:=drop_eq_getElem_cons hl
 rw [List.getElem?_eq_getElem hl] at hi
 cases hi
 simp only [x_,hd,Y.fI]
 rfl
end Lp
namespace Lp
open Go Go.Proofs
def tK (v:aC) (i:Nat):Int:=match Y.iB v.length (v.drop i) 1 with
 | some c=>(i+c:Nat)
 | none=>-1
theorem Ag {v:aC}{i:Nat}(h:(Y.iB v.length (v.drop i) 1).map (fun c=>i+c)=none):tK v i=-1:=by
 unfold tK
 cases hx:Y.iB v.length (v.drop i) 1 with
 | none=>rfl
 | some c=>rw [hx] at h;simp at h
theorem Ht {v:aC}{i j:Nat}(h:(Y.iB v.length (v.drop i) 1).map (fun c=>i+c)=some j):tK v i=j:=by
 unfold tK
 cases hx:Y.iB v.length (v.drop i) 1 with
 | none=>rw [hx] at h;simp at h
 | some c=>rw [hx] at h;simp only [Option.map_some,Option.some.injEq] at h;rw [← h]
theorem Ku (L:Nat) (v:aC):Y.iB L v 0=some 0:=by cases v <;> rfl
theorem SQ (v:aC) (i:Nat) (hi:i≤v.length) (hl:v.length≤1000000):ai Tryz.prog 31 [ay v,.int .i64 i] [] (.int .i64 (tK v i)) []:=by
 refine BU.bf (T:=aR Tryz.prog []) 0 hD (aj ah) aZ (by decide) fun Q hQ=>?_
 (conv=>arg 4;cbv);simp(maxSteps:=400000)only[↓av,ax,BEq.rfl,reduceIte,reduceCtorEq,Nat.reduceLT,Nat.reduceAdd,Nat.reduceSub,Nat.reduceMul,Nat.reduceBEq,Nat.reduceLeDiff,Int.reduceToNat,Int.reduceLE,hQ]
 refine aH (fun m S=>∃ j k:Nat,j+m=v.length∧k≤1+j*1000000∧(Y.iB v.length (v.drop i) 1).map (fun c=>i+c)=(Y.iB v.length (v.drop j) k).map (fun c=>j+c)∧
  S=⟨dH 41 [(0,ay v),(1,.int .i64 j),(5,.int .i64 k)],[]⟩) (v.length-i) ⟨i,1,by omega,by omega,rfl,?_⟩ ?_
 · simp only [bV,keepR,Nat.reduceAdd,ng,Nat.reduceBEq,List.map_nil]
   rfl
 rintro m S ⟨j,k,hjm,hk,hn,rfl⟩
 rcases Nat.lt_or_ge j v.length with h | h
 · have hg:=List.getElem?_eq_getElem h
   have hd:=List.drop_eq_getElem_cons h
   generalize v[j]=n at hg hd
   simp(maxSteps:=400000)only[↓av,ax,BEq.rfl,reduceIte,reduceCtorEq,Nat.reduceLT,Nat.reduceAdd,Nat.reduceSub,Nat.reduceMul,Nat.reduceBEq,Nat.reduceLeDiff,Int.reduceToNat,Int.reduceLE,hQ,hg]
   refine ⟨fun hk0=>⟨fun h'=>absurd h' (by omega),fun _=>⟨by omega,fun hm=>?_,fun hm=>⟨by omega,fun hm2=>?_,fun hm2=>?_⟩⟩⟩,fun hk0=>?_⟩
   · obtain ⟨k,rfl⟩:∃ q,k=q+1:=⟨k-1,by omega⟩
     rw [hd,Y.iB,if_pos (.inl hm)] at hn
     rw [Ag hn]
   · obtain ⟨k,rfl⟩:∃ q,k=q+1:=⟨k-1,by omega⟩
     rw [hd,Y.iB,if_pos (.inr hm2)] at hn
     rw [Ag hn]
   · obtain ⟨k,rfl⟩:∃ q,k=q+1:=⟨k-1,by omega⟩
     rw [hd,Y.iB,if_neg (by omega)] at hn
     have hk2:(((k+1:Nat):Int)-1+n.many)=((k+n.many.toNat:Nat):Int):=by omega
     refine ⟨⟨by omega,by omega⟩,by omega,⟨by omega,by omega⟩,⟨by omega,by omega⟩,m-1,by omega,j+1,k+n.many.toNat,by omega,by omega,?_,?_⟩
     · rw [hn]
       cases Y.iB v.length (v.drop (j+1)) (k+n.many.toNat) with
       | none=>rfl
       | some c=>simp;omega
     · rw [hk2];rfl
   · have hk1:k=0:=by omega
     subst hk1
     rw [Ku] at hn
     rw [Ht (j:=j) (by simpa using hn)]
 · simp(maxSteps:=400000)only[↓av,ax,BEq.rfl,reduceIte,reduceCtorEq,Nat.reduceLT,Nat.reduceAdd,Nat.reduceSub,Nat.reduceMul,Nat.reduceBEq,Nat.reduceLeDiff,Int.reduceToNat,Int.reduceLE,hQ]
   refine ⟨fun hk0=>⟨fun _=>?_,fun h'=>absurd (by omega) h'⟩,fun hk0=>?_⟩
   · obtain ⟨k,rfl⟩:∃ q,k=q+1:=⟨k-1,by omega⟩
     rw [List.drop_eq_nil_of_le h] at hn
     simp only [Y.iB,Option.map_none] at hn
     rw [Ag hn]
   · have hk1:k=0:=by omega
     subst hk1
     rw [Ku] at hn
     rw [Ht (j:=j) (by simpa using hn)]
theorem PL (v:aC) (i:Int) (h0:0≤i) (hi:i.toNat≤v.length) (hl:v.length≤1000000):ai Tryz.prog 31 [ay v,.int .i64 i] [] (.int .i64 (tK v i.toNat)) []:=by
 have e:i=(i.toNat:Int):=by omega
 rw [e]
 exact SQ v i.toNat hi hl
def iF:dD:=fun args objs K=>match args with
 | [a0,.int .i64 i]=>fE ay a0 (HK.mk:HK fun v=>(0≤i)∧(i.toNat≤v.length)∧(v.length≤1000000)∧K (.int .i64 (tK v i.toNat)) objs 0)
 | _=>False
theorem uW:aB Tryz.prog 31 (iF):=by
 intro args objs K h
 unfold iF at h
 split at h
 · rename_i a0 i
   obtain ⟨v,rfl,h1,h2,h3,hk⟩:=h
   exact ⟨_,_,_,.pure _ rfl (PL v i h1 h2 h3),hk⟩
 · exact h.elim
theorem Hu {t:aC}{i c:Nat}(h:Y.iB t.length (t.drop i) 1=some c):tK t i=(i+c:Nat):=by
 simp only [tK,h]
theorem qH (objs:List Obj) (K:KT) :
  (∀ k m nm,bF D 51 [(0,.int .i64 k),(1,.int .i64 m),(2,.str nm)] objs K=K (aK ⟨k,m,nm,[],0,aN⟩) objs 0)∧
  (∀ k n m,bF D 51 [(0,.int .i64 k),(4,.int .i64 n),(1,.int .i64 m)] objs K=K (aK ⟨k,m,[],[],n,aN⟩) objs 0)∧
  (∀ k n c,bF D 51 [(0,.int .i64 k),(4,.int .i64 n),(5,aA c)] objs K=K (aK ⟨k,0,[],[],n,c⟩) objs 0)∧
  (∀ k n,bF D 51 [(0,.int .i64 k),(4,.int .i64 n)] objs K=K (aK ⟨k,0,[],[],n,aN⟩) objs 0)∧
  (∀ k,bF D 51 [(0,.int .i64 k)] objs K=K (aK ⟨k,0,[],[],0,aN⟩) objs 0)∧
  (bF D 51 [] objs K=K (aK ⟨0,0,[],[],0,aN⟩) objs 0):=by
 have z:aI (D 51)=aK ⟨0,0,[],[],0,aN⟩:=by kernel_rfl
 have a:(D 51).agg=true:=by kernel_rfl
 simp only [bL] at z a
 refine ⟨fun k m nm=>?_,fun k n m=>?_,fun k n c=>?_,fun k n=>?_,fun k=>?_,?_⟩
 all_goals
  simp [bF,lG,a,z,bL,mg,aK,aA,aN,PV.isAgg,qb,PV.cells,PV.storable,PV.lS,PV.pure]
theorem gH:PV.vO (.agg ⟨[.int .i64 0,.int .i64 0,.string ⟨⟨[]⟩⟩,.string ⟨⟨[]⟩⟩,.int .i64 0,.int .i64 0,.int .i64 0,.string ⟨⟨[]⟩⟩,.string ⟨⟨[]⟩⟩,.bool false,.int .i64 0]⟩)=aK ⟨0,0,[],[],0,aN⟩:=rfl
theorem atB (objs:List Obj) (K:KT):(∀ n c,bF D 29 [(0,.int .i64 n),(1,aA c)] objs K=K (bX ⟨n,c⟩) objs 0):=by
 have z:aI (D 29)=bX ⟨0,aN⟩:=by kernel_rfl
 have a:(D 29).agg=true:=by kernel_rfl
 simp only [bL] at z a
 intro n c
 simp [bF,lG,a,z,bL,mg,bX,aA,aN,PV.isAgg,qb,PV.cells,PV.storable,PV.lS,PV.pure]
theorem gM (a:dS) (k m:Int) (nm s:List UInt8) (n ck cm:Int) (cn cs:List UInt8) (cg:Bool) (ce:Int):(aK a).putCells 0 [.int .i64 k,.int .i64 m,.str nm,.str s,.int .i64 n,.int .i64 ck,.int .i64 cm,.str cn,.str cs,.bool cg,.int .i64 ce]=aK ⟨k,m,nm,s,n,⟨ck,cm,cn,cs,cg,ce⟩⟩:=rfl
theorem rT:(∀ x:dS,PV.agg [.int .i64 x.kind,.int .i64 x.many,.str x.name,.str x.s,.int .i64 x.n,.int .i64 x.c.kind,.int .i64 x.c.many,.str x.c.name,.str x.c.s,.bool x.c.neg,.int .i64 x.c.e]=aK x)∧
  (∀ (x:dS) nm,PV.agg [.int .i64 x.kind,.int .i64 x.many,.str nm,.str x.s,.int .i64 x.n,.int .i64 x.c.kind,.int .i64 x.c.many,.str x.c.name,.str x.c.s,.bool x.c.neg,.int .i64 x.c.e]=aK { x with name:=nm }):=⟨fun _=>rfl,fun _ _=>rfl⟩
theorem cK (n:Nd):Nd.mk n.kind n.many n.name n.s n.neg n.e=n:=rfl
theorem dX (x:dS):dS.mk x.kind x.many x.name x.s x.n x.c=x:=rfl
theorem Zl:PV.vO (.agg ⟨[.int .i64 0,.int .i64 0,.int .i64 0,.string ⟨⟨[]⟩⟩,.string ⟨⟨[]⟩⟩,.bool false,.int .i64 0]⟩)=bX ⟨0,aN⟩:=rfl
theorem FE (v:List iA) (ver:Nat) (t:TypeId) (rest:List Obj):eZ 1 0 (⟨t,7,v.map bX,true,ver⟩::rest) (.bG 0 ver)=bC v:=by
 have:(v.map bX).map (PV.bI (iU 0 0 (⟨t,7,v.map bX,true,ver⟩::rest)))=v.map bX:=by
  rw [List.map_map];exact List.map_congr_left fun x _=>rfl
 simp only [eZ,Nat.not_lt_zero,if_false,iU,List.getElem?_cons_zero,Nat.le_refl,decide_true,Bool.true_and,beq_self_eq_true,if_true,this]
 rfl
theorem WL:∀ d X v,eZ d 1 X (.bG 0 v)=.bG 0 v:=fun _ _ _=>rfl
end Lp
namespace Lp
open Go Go.Proofs
section
variable {P:Program}
theorem PN {w:World}{d:Nat}{ok:Nat→Prop}{xs ys:Array Value}{gs:List Field}{r2:Bool}(hg:(Op.eqFields (d+1) xs ys gs).run P w=.ok r2 w):∀ (fs:List Field) (k:Nat) (aa bs:List PV) (r:Bool),wL P k fs aa bs=true→yA aa bs=some r→
  (∀ i p,aa[i]?=some p→∃ v,xs[k+i]?=some v∧dB w ok p v)→(∀ i p,bs[i]?=some p→∃ v,ys[k+i]?=some v∧dB w ok p v)→
  (Op.eqFields (d+1) xs ys (fs++gs)).run P w=.ok (r && r2) w
 | [],k,aa,bs,r,hf,he,_,_=>by
  cases aa <;> cases bs <;> simp [wL] at hf
  simp only [yA,Option.some.injEq] at he
  subst he
  simpa using hg
 | f::fs,k,aa,bs,r,hf,he,ha,hb=>by
  cases aa with
  | nil=>cases bs <;> simp [wL] at hf
  | cons p aa=>
   cases bs with
   | nil=>simp [wL] at hf
   | cons q bs=>
    simp only [wL,Bool.and_eq_true,beq_iff_eq,bne_iff_ne] at hf
    obtain ⟨⟨⟨hn,ho⟩,ht⟩,hr⟩:=hf
    obtain ⟨v,hv,rv⟩:=ha 0 p rfl
    obtain ⟨u,hu,ru⟩:=hb 0 q rfl
    obtain ⟨b,hb1,hb2,e,he1,he2⟩:=YD (d:=d) ht rv ru
    simp only [yA,hb1] at he
    cases hq:yA aa bs with
    | none=>rw [hq] at he;simp at he
    | some r'=>
     rw [hq] at he
     simp only [Option.some.injEq] at he
     subst he
     have ih:=PN (w:=w) (d:=d) (ok:=ok) (xs:=xs) (ys:=ys) hg fs (k+1) aa bs r' hr hq (fun i p h=>by have:=ha (i+1) p (by simpa using h);rwa [show k+(i+1)=k+1+i by omega] at this) (fun i p h=>by have:=hb (i+1) p (by simpa using h);rwa [show k+(i+1)=k+1+i by omega] at this)
     have p1:=wM (w:=w) (xs:=xs) (o:=f.offset) he1 he2 (by rw [ho];simpa using hv)
     have p2:=wM (w:=w) (xs:=ys) (o:=f.offset) he1 he2 (by rw [ho];simpa using hu)
     simp only [List.cons_append,Op.eqFields,ne_eq,hn,not_false_eq_true,if_true,Sem.run_bind,p1,Result.andThen_ok,p2,hb2]
     cases b
     · simp
     · simpa using ih
theorem UJ:∀ {a1 b1 a2 b2:List PV}{r:Bool},a1.length=b1.length→yA (a1++a2) (b1++b2)=some r→∃ r1 r2,yA a1 b1=some r1∧yA a2 b2=some r2∧r=(r1 && r2)
 | [],[],a2,b2,r,_,h=>⟨true,r,rfl,h,by simp⟩
 | [],_::_,_,_,_,hl,_=>by simp at hl
 | _::_,[],_,_,_,hl,_=>by simp at hl
 | p::a1,q::b1,a2,b2,r,hl,h=>by
  simp only [List.cons_append,yA] at h
  cases hs:Z4 p q with
  | none=>rw [hs] at h;simp at h
  | some x=>
   cases ht:yA (a1++a2) (b1++b2) with
   | none=>rw [hs,ht] at h;simp at h
   | some y=>
    rw [hs,ht] at h
    simp only [Option.some.injEq] at h
    obtain ⟨r1,r2,h1,h2,rfl⟩:=UJ (by simpa using hl) ht
    refine ⟨x && r1,r2,by simp [yA,hs,h1],h2,?_⟩
    rw [← h,Bool.and_assoc]
theorem WM {t:TypeId}{fs:List Field}{g:Field}{a1 a2 b1 b2:List PV}(hgd:P.eqGuardType P.depth t=false) (ht:P.underlying t=some (.struct (P.fieldsOf t))) (hp:P.stoodInHeld t=false)
  (hfs:(P.fieldsOf t).toList=fs++[g]) (hf:wL P 0 fs a1 b1=true) (hn:g.name≠ "_") (ho:g.offset=a1.length) (hl1:a1.length=b1.length) (hl2:a2.length=b2.length)
  (hu:P.underlying g.type=some (.struct (P.fieldsOf g.type))) (hp2:P.stoodInHeld g.type=false) (hs:∀ w,(Go.sizeOf g.type).run P w=.ok a2.length w) (hf2:wL P 0 (P.fieldsOf g.type).toList a2 b2=true) :
  Au P t (a1++a2) (b1++b2):=by
 refine ⟨hgd,fun w ok vs us r hr h1 h2=>?_⟩
 obtain ⟨r1,r2,e1,e2,rfl⟩:=UJ hl1 hr
 have e:Op.equal t (.agg ⟨vs⟩) (.agg ⟨us⟩)=Op.equalIn (9999+1) t (.agg ⟨vs⟩) (.agg ⟨us⟩):=rfl
 rw [e,run_equalIn_struct w 9999 t _ _ ht hp,hfs]
 have get:∀ {xs:List Value}{c1 c2:List PV},dh (dB w ok) (c1++c2) xs→(∀ i p,c1[i]?=some p→∃ v,(⟨xs⟩:Array Value)[0+i]?=some v∧dB w ok p v)∧(∀ i p,c2[i]?=some p→∃ v,(⟨xs⟩:Array Value)[c1.length+i]?=some v∧dB w ok p v):=by
  intro xs c1 c2 h
  have hlen:=h.1
  rw [List.length_append] at hlen
  constructor
  · intro i p hi
    have hlt:=(List.getElem?_eq_some_iff.1 hi).1
    have hv:xs[i]?=some (xs[i]'(by omega)):=List.getElem?_eq_getElem _
    exact ⟨_,by simpa using hv,h.2 i p _ (by rw [List.getElem?_append_left hlt];exact hi) hv⟩
  · intro i p hi
    have hlt:=(List.getElem?_eq_some_iff.1 hi).1
    have hv:xs[c1.length+i]?=some (xs[c1.length+i]'(by omega)):=List.getElem?_eq_getElem _
    exact ⟨_,by simpa using hv,h.2 _ p _ (by rw [List.getElem?_append_right (by omega)];simpa using hi) hv⟩
 obtain ⟨g1,g2⟩:=get h1
 obtain ⟨k1,k2⟩:=get h2
 refine PN (d:=9998) (ok:=ok) ?_ fs 0 a1 b1 r1 hf e1 g1 k1
 have pt:∀ xs:Array Value,(part g.type xs g.offset).run P w=.ok (.agg (xs.extract g.offset (g.offset+a2.length))) w:=fun xs=>by
  simp [part,isAgg,run_underlying hu,hs]
 have ext:∀ {xs:Array Value}{c:List PV},c.length=a2.length→(∀ i p,c[i]?=some p→∃ v,xs[g.offset+i]?=some v∧dB w ok p v)→∀ i p,c[i]?=some p→∃ v,(xs.extract g.offset (g.offset+a2.length))[0+i]?=some v∧dB w ok p v:=by
  intro xs c hc h i p hi
  have hlt:=(List.getElem?_eq_some_iff.1 hi).1
  obtain ⟨v,q1,q2⟩:=h i p hi
  refine ⟨v,?_,q2⟩
  have hx:=(Array.getElem?_eq_some_iff.1 q1).1
  rw [Nat.zero_add,Array.getElem?_extract,if_pos (by omega)]
  exact q1
 have hin:=Lv (d:=9997) (w:=w) (ok:=ok) (xs:=Array.extract ⟨vs⟩ g.offset (g.offset+a2.length)) (ys:=Array.extract ⟨us⟩ g.offset (g.offset+a2.length)) _ 0 a2 b2 r2 hf2 e2
  (ext rfl (by rw [ho];exact g2)) (ext hl2.symm (by rw [ho,hl1];exact k2))
 have hst:=run_equalIn_struct w 9998 g.type (Array.extract ⟨vs⟩ g.offset (g.offset+a2.length)) (Array.extract ⟨us⟩ g.offset (g.offset+a2.length)) hu hp2
 have hst':(Op.equalIn (9998+1) g.type (.agg (Array.extract ⟨vs⟩ g.offset (g.offset+a2.length))) (.agg (Array.extract ⟨us⟩ g.offset (g.offset+a2.length)))).run P w=.ok r2 w:=hst.trans hin
 simp only [Op.eqFields,ne_eq,hn,not_false_eq_true,if_true,Sem.run_bind,pt,Result.andThen_ok,hst']
 cases r2 <;> simp
end
theorem Zm (a b:dS):Au Tryz.prog 51 (aK a).cells (aK b).cells:=by
 have h:(Tryz.prog.fieldsOf 51).toList.map (fun f=>(f.name != "_",f.offset,f.type))=[(true,0,3),(true,1,3),(true,2,9),(true,3,9),(true,4,3),(true,5,27)]:=by kernel_rfl
 generalize hfs:(Tryz.prog.fieldsOf 51).toList=fs at h
 obtain _ | ⟨f0,_ | ⟨f1,_ | ⟨f2,_ | ⟨f3,_ | ⟨f4,_ | ⟨f5,_ | ⟨f6,fr⟩⟩⟩⟩⟩⟩⟩:=fs
 all_goals simp only [List.map_cons,List.map_nil,List.cons.injEq,Prod.mk.injEq,and_true,reduceCtorEq,and_false] at h
 obtain ⟨⟨a0,b0,c0⟩,⟨a1,b1,c1⟩,⟨a2,b2,c2⟩,⟨a3,b3,c3⟩,⟨a4,b4,c4⟩,⟨a5,b5,c5⟩⟩:=h
 have u3:Tryz.prog.underlying 3=some (.int .i64):=by kernel_rfl
 have u9:Tryz.prog.underlying 9=some .string:=by kernel_rfl
 have hN:=YE a.c b.c
 have key:=WM (P:=Tryz.prog) (t:=51) (fs:=[f0,f1,f2,f3,f4]) (g:=f5) (a1:=[.int .i64 a.kind,.int .i64 a.many,.str a.name,.str a.s,.int .i64 a.n]) (b1:=[.int .i64 b.kind,.int .i64 b.many,.str b.name,.str b.s,.int .i64 b.n]) (a2:=(aA a.c).cells) (b2:=(aA b.c).cells)
  (by kernel_rfl) (by kernel_rfl) (by kernel_rfl) (by rw [hfs];rfl)
  (by simp only [wL,VT,a0,b0,c0,a1,b1,c1,a2,b2,c2,a3,b3,c3,a4,b4,c4,u3,u9,Bool.and_true,BEq.rfl,decide_true,Nat.zero_add,Nat.reduceAdd])
  (by simpa using a5) (by rw [b5];rfl) rfl rfl (by rw [c5];kernel_rfl) (by rw [c5];kernel_rfl) (fun w=>by rw [c5];have h:=(hD 27).dG (by simp [bL]) w;simp only [bL] at h;exact h) (by
   rw [c5]
   have h:(Tryz.prog.fieldsOf 27).toList.map (fun f=>(f.name != "_",f.offset,Tryz.prog.underlying f.type))=[(true,0,some (.int .i64)),(true,1,some (.int .i64)),(true,2,some .string),(true,3,some .string),(true,4,some .bool),(true,5,some (.int .i64))]:=by kernel_rfl
   generalize (Tryz.prog.fieldsOf 27).toList=fs at h
   obtain _ | ⟨f0,_ | ⟨f1,_ | ⟨f2,_ | ⟨f3,_ | ⟨f4,_ | ⟨f5,_ | ⟨f6,fr⟩⟩⟩⟩⟩⟩⟩:=fs
   all_goals simp only [List.map_cons,List.map_nil,List.cons.injEq,Prod.mk.injEq,and_true,reduceCtorEq,and_false] at h
   obtain ⟨⟨a0,b0,c0⟩,⟨a1,b1,c1⟩,⟨a2,b2,c2⟩,⟨a3,b3,c3⟩,⟨a4,b4,c4⟩,⟨a5,b5,c5⟩⟩:=h
   simp only [wL,VT,aA,PV.cells,a0,b0,c0,a1,b1,c1,a2,b2,c2,a3,b3,c3,a4,b4,c4,a5,b5,c5,Bool.and_true,BEq.rfl,decide_true,Nat.zero_add,Nat.reduceAdd])
 exact key
theorem aed (ti:aD) (K:PV→Prop) :
  (∀ a b,ow Tryz.prog ti 51 .eql (aK a) (aK b) K=K (.bool (decide (a=b))))∧
  (∀ a b,ow Tryz.prog ti 51 .neq (aK a) (aK b) K=K (.bool (!decide (a=b)))):=by
 refine ⟨fun a b=>?_,fun a b=>?_⟩
 · show (Au Tryz.prog 51 (aK a).cells (aK b).cells∧∃ r,yA (aK a).cells (aK b).cells=some r∧K (.bool r))=_
   rw [acM]
   simp [Zm]
 · show (Au Tryz.prog 51 (aK a).cells (aK b).cells∧∃ r,yA (aK a).cells (aK b).cells=some r∧K (.bool (!r)))=_
   rw [acM]
   simp [Zm]
end Lp
namespace Lp
open Go Go.Proofs
open Nat (lt_or_ge reduceAdd reduceLeDiff reduceMul reduceSub)
open Int (reduceLE reduceToNat)
def jR (n:dS):Bool:=decide (n.s.length≤100) && decide (n.name.length≤100) && decide (n.c.s.length≤100)
theorem SS (t:aC) (k:Nat) (hk:k≤1000000) (hl:t.length≤4611686018427387904) (htx:∀ n ∈ t,n.s.length≤4611686018427387904∧n.name.length≤4611686018427387904∧n.c.s.length≤4611686018427387904) :
  ai Tryz.prog 24 [ay t,.int .i64 k] [] (.bool (decide (t.length≤k) && t.all jR)) []:=by
 refine Aa.bf (T:=aR Tryz.prog []) 0 hD (aj ah) aZ (by decide) fun Q hQ=>?_
 (conv=>arg 4;cbv);simp(maxSteps:=400000)only[↓av,ax,BEq.rfl,reduceIte,reduceCtorEq,Nat.reduceLT,reduceAdd,reduceSub,reduceMul,Nat.reduceBEq,reduceLeDiff,reduceToNat,reduceLE,hQ]
 refine aH (fun m S=>∃ i:Nat,i+m=t.length∧i≤k∧(∀ (j:Nat) x,j<i→t[j]?=some x→jR x=true)∧S=⟨dH 43 [(0,ay t),(1,.int .i64 k),(5,.int .i64 i)],[]⟩) t.length ⟨0,by omega,by omega,fun j x h=>absurd h (Nat.not_lt_zero j),?_⟩ ?_
 · simp only [bV,keepR,reduceAdd,ng,Nat.reduceBEq,List.map_nil]
   rfl
 rintro m S ⟨i,him,hik,hb,rfl⟩
 have zi:(0≤(i:Int))=True:=eq_true (by omega)
 rcases lt_or_ge i t.length with h | h
 · have hlt:((i:Int)<(t.length:Int))=True:=eq_true (by omega)
   have hgi:=List.getElem?_eq_getElem h
   have ae4:=htx _ (List.getElem_mem h)
   generalize t[i]=x at hgi ae4
   have no:jR x=false→(decide (t.length≤k) && t.all jR)=false:=fun hx=>by
    have:t.all jR=false:=by rw [List.all_eq_false];exact ⟨x,List.mem_of_getElem? hgi,by simp [hx]⟩
    simp [this]
   rcases lt_or_ge i k with g | g
   rotate_left 1
   · have hkl:((k:Int)≤(i:Int))=True:=eq_true (by omega)
     have hr:(decide (t.length≤k) && t.all jR)=false:=by
      have:decide (t.length≤k)=false:=decide_eq_false (by omega)
      simp [this]
     simp(maxSteps:=400000)only[↓av,ax,BEq.rfl,reduceIte,reduceCtorEq,Nat.reduceLT,reduceAdd,reduceSub,reduceMul,Nat.reduceBEq,reduceLeDiff,reduceToNat,reduceLE,hQ,hlt,zi,hgi,hkl,hr]
   have hkl:((k:Int)≤(i:Int))=False:=eq_false (by omega)
   by_cases h1:x.s.length≤100
   rotate_left 1
   · have e1:((100:Int)<(x.s.length:Int))=True:=eq_true (by omega)
     have hr:=no (by simp [jR,h1])
     simp(maxSteps:=400000)only[↓av,ax,BEq.rfl,reduceIte,reduceCtorEq,Nat.reduceLT,reduceAdd,reduceSub,reduceMul,Nat.reduceBEq,reduceLeDiff,reduceToNat,reduceLE,hQ,hlt,zi,hgi,hkl,e1,hr]
   have e1:((100:Int)<(x.s.length:Int))=False:=eq_false (by omega)
   by_cases h2:x.name.length≤100
   rotate_left 1
   · have e2:((100:Int)<(x.name.length:Int))=True:=eq_true (by omega)
     have hr:=no (by simp [jR,h2])
     simp(maxSteps:=400000)only[↓av,ax,BEq.rfl,reduceIte,reduceCtorEq,Nat.reduceLT,reduceAdd,reduceSub,reduceMul,Nat.reduceBEq,reduceLeDiff,reduceToNat,reduceLE,hQ,hlt,zi,hgi,hkl,e1,e2,hr]
   have e2:((100:Int)<(x.name.length:Int))=False:=eq_false (by omega)
   by_cases h3:x.c.s.length≤100
   rotate_left 1
   · have e3:((100:Int)<(x.c.s.length:Int))=True:=eq_true (by omega)
     have hr:=no (by simp [jR,h3])
     simp(maxSteps:=400000)only[↓av,ax,BEq.rfl,reduceIte,reduceCtorEq,Nat.reduceLT,reduceAdd,reduceSub,reduceMul,Nat.reduceBEq,reduceLeDiff,reduceToNat,reduceLE,hQ,hlt,zi,hgi,hkl,e1,e2,e3,hr]
   have e3:((100:Int)<(x.c.s.length:Int))=False:=eq_false (by omega)
   simp(maxSteps:=400000)only[↓av,ax,BEq.rfl,reduceIte,reduceCtorEq,Nat.reduceLT,reduceAdd,reduceSub,reduceMul,Nat.reduceBEq,reduceLeDiff,reduceToNat,reduceLE,hQ,hlt,zi,hgi,hkl,e1,e2,e3]
   refine ⟨⟨by omega,by omega⟩,m-1,by omega,i+1,by omega,by omega,fun j y hj hy=>?_,rfl⟩
   rcases lt_or_ge j i with g' | g'
   · exact hb j y g' hy
   · have:j=i:=by omega
     subst this
     rw [hgi] at hy;cases hy
     simp [jR,h1,h2,h3]
 · have hlt:((i:Int)<(t.length:Int))=False:=eq_false (by omega)
   have hr:(decide (t.length≤k) && t.all jR)=true:=by
    have h1:decide (t.length≤k)=true:=decide_eq_true (by omega)
    have h2:t.all jR=true:=by
     rw [List.all_eq_true];intro x hx
     obtain ⟨j,hj⟩:=List.mem_iff_getElem?.1 hx
     have:=(List.getElem?_eq_some_iff.1 hj).1
     exact hb j x (by omega) hj
    rw [h1,h2];rfl
   simp(maxSteps:=400000)only[↓av,ax,BEq.rfl,reduceIte,reduceCtorEq,Nat.reduceLT,reduceAdd,reduceSub,reduceMul,Nat.reduceBEq,reduceLeDiff,reduceToNat,reduceLE,hQ,hlt,hr]
def qx:dD:=fun args objs K=>match args with
 | [a0,.int .i64 k]=>fE ay a0 (HK.mk:HK fun t=>(0≤k)∧(k≤1000000)∧(t.length≤4611686018427387904)∧(∀ n ∈ t,n.s.length≤4611686018427387904∧n.name.length≤4611686018427387904∧n.c.s.length≤4611686018427387904)∧K (.bool (decide (t.length≤k.toNat) && t.all jR)) objs 0)
 | _=>False
theorem Jm:aB Tryz.prog 24 (qx):=by
 intro args objs K h
 unfold qx at h
 split at h
 · rename_i a0 k
   obtain ⟨t,rfl,h1,h2,h3,h4,hk⟩:=h
   exact ⟨_,_,_,.pure _ rfl ((by have:=SS t k.toNat (by omega) h3 h4;rwa [Int.toNat_of_nonneg h1] at this)),hk⟩
 · exact h.elim
end Lp
namespace Lp
open Go Go.Proofs
def b_:LC:=
 (.cond (.tmp 105)
        .skip
        (.seq (.reg [⟨some 107,.binOp .eql 3 (.tmp 14) (.const (.int .i64 5)) 3,none,false⟩,
         ⟨some 105,.assign (.tmp 107),none,false⟩])
        (.cond (.tmp 105)
         .skip
         (.reg [⟨some 108,.binOp .eql 3 (.tmp 14) (.const (.int .i64 6)) 3,none,false⟩,
          ⟨some 105,.assign (.tmp 108),none,false⟩]))))
def dV:LC:=
 (.cond (.tmp 117)
         .skip
         (.reg [⟨some 119,.binOp .eql 3 (.tmp 14) (.const (.int .i64 8)) 3,none,false⟩,
          ⟨some 117,.assign (.tmp 119),none,false⟩]))
def dW:LC:=
 (.cond (.tmp 117)
         (.seq (.reg [⟨some 121,.fieldAddr 51 (.tmp 1) 3,none,false⟩,
          ⟨some 122,.load 9 (.tmp 121),none,false⟩,
          ⟨some 123,.call ⟨.value (.func 34),⟨[(.tmp 122)]⟩,⟨[9]⟩⟩,none,false⟩,
          ⟨some 120,.move (.tmp 123),none,false⟩,
          ⟨some 124,.extract (.tmp 120) 0,none,false⟩,
          ⟨some 125,.extract (.tmp 120) 1,none,false⟩,
          ⟨some 4,.assign (.tmp 124),none,false⟩,
          ⟨some 5,.assign (.tmp 125),none,false⟩])
         (.seq (.reg [⟨some 126,.fieldAddr 51 (.tmp 1) 3,none,false⟩,
          ⟨some 127,.load 9 (.tmp 126),none,false⟩,
          ⟨some 128,.fieldAddr 51 (.tmp 3) 3,none,false⟩,
          ⟨none,.store 9 (.tmp 128) (.tmp 127),none,false⟩])
         (.seq (.reg [⟨some 129,.load 51 (.tmp 1),none,false⟩,
          ⟨some 130,.load 51 (.tmp 3),none,false⟩,
          ⟨some 131,.binOp .eql 51 (.tmp 129) (.tmp 130) 51,none,false⟩,
          ⟨some 132,.move (.tmp 131),none,false⟩,
          ⟨some 133,.fieldAddr 51 (.tmp 1) 1,some (some 132,true),false⟩,
          ⟨some 134,.load 3 (.tmp 133),some (some 132,true),false⟩,
          ⟨some 135,.binOp .eql 3 (.tmp 134) (.const (.int .i64 1)) 3,some (some 132,true),false⟩,
          ⟨some 136,.pick (.tmp 132) (.tmp 135) (.const (.bool false)),none,false⟩,
          ⟨some 137,.move (.tmp 136),none,false⟩,
          ⟨some 138,.move (.tmp 5),some (some 137,true),false⟩,
          ⟨some 139,.pick (.tmp 137) (.tmp 138) (.const (.bool false)),none,false⟩,
          ⟨some 2,.assign (.tmp 139),none,false⟩])
         .ret)))
         .skip)
def cu:LC:=
 (.cond (.tmp 105)
        (.seq (.reg [⟨some 109,.load 51 (.tmp 1),none,false⟩,
         ⟨some 110,.load 51 (.tmp 3),none,false⟩,
         ⟨some 111,.binOp .eql 51 (.tmp 109) (.tmp 110) 51,none,false⟩,
         ⟨some 112,.move (.tmp 111),none,false⟩,
         ⟨some 113,.fieldAddr 51 (.tmp 1) 1,some (some 112,true),false⟩,
         ⟨some 114,.load 3 (.tmp 113),some (some 112,true),false⟩,
         ⟨some 115,.binOp .eql 3 (.tmp 114) (.const (.int .i64 1)) 3,some (some 112,true),false⟩,
         ⟨some 116,.pick (.tmp 112) (.tmp 115) (.const (.bool false)),none,false⟩,
         ⟨some 2,.assign (.tmp 116),none,false⟩])
        .ret)
        (.seq (.seq (.weak (.reg [⟨some 118,.binOp .eql 3 (.tmp 14) (.const (.int .i64 7)) 3,none,false⟩,
         ⟨some 117,.assign (.tmp 118),none,false⟩]))
        dV)
        dW))
def h_:LC:=
 (.cond (.tmp 95)
       (.seq (.reg [⟨some 97,.load 51 (.tmp 1),none,false⟩,
        ⟨some 98,.load 51 (.tmp 3),none,false⟩,
        ⟨some 99,.binOp .eql 51 (.tmp 97) (.tmp 98) 51,none,false⟩,
        ⟨some 100,.move (.tmp 99),none,false⟩,
        ⟨some 101,.fieldAddr 51 (.tmp 1) 1,some (some 100,true),false⟩,
        ⟨some 102,.load 3 (.tmp 101),some (some 100,true),false⟩,
        ⟨some 103,.binOp .geq 3 (.tmp 102) (.const (.int .i64 0)) 3,some (some 100,true),false⟩,
        ⟨some 104,.pick (.tmp 100) (.tmp 103) (.const (.bool false)),none,false⟩,
        ⟨some 2,.assign (.tmp 104),none,false⟩])
       .ret)
       (.seq (.seq (.weak (.reg [⟨some 106,.binOp .eql 3 (.tmp 14) (.const (.int .i64 3)) 3,none,false⟩,
        ⟨some 105,.assign (.tmp 106),none,false⟩]))
       b_)
       cu))
def ic:LC:=
 (.cond (.tmp 72)
   (.seq (.reg [⟨some 74,.fieldAddr 51 (.tmp 1) 4,none,false⟩,
    ⟨some 75,.load 3 (.tmp 74),none,false⟩,
    ⟨some 76,.fieldAddr 51 (.tmp 3) 4,none,false⟩,
    ⟨none,.store 3 (.tmp 76) (.tmp 75),none,false⟩])
   (.seq (.reg [⟨some 77,.load 51 (.tmp 1),none,false⟩,
    ⟨some 78,.load 51 (.tmp 3),none,false⟩,
    ⟨some 79,.binOp .eql 51 (.tmp 77) (.tmp 78) 51,none,false⟩,
    ⟨some 80,.move (.tmp 79),none,false⟩,
    ⟨some 81,.fieldAddr 51 (.tmp 1) 1,some (some 80,true),false⟩,
    ⟨some 82,.load 3 (.tmp 81),some (some 80,true),false⟩,
    ⟨some 83,.binOp .geq 3 (.tmp 82) (.const (.int .i64 0)) 3,some (some 80,true),false⟩,
    ⟨some 84,.pick (.tmp 80) (.tmp 83) (.const (.bool false)),none,false⟩,
    ⟨some 85,.move (.tmp 84),none,false⟩,
    ⟨some 86,.fieldAddr 51 (.tmp 1) 4,some (some 85,true),false⟩,
    ⟨some 87,.load 3 (.tmp 86),some (some 85,true),false⟩,
    ⟨some 88,.binOp .eql 3 (.tmp 87) (.const (.int .i64 0)) 3,some (some 85,true),false⟩,
    ⟨some 89,.move (.tmp 88),some (some 85,true),false⟩,
    ⟨some 90,.fieldAddr 51 (.tmp 1) 4,some (some 89,false),false⟩,
    ⟨some 91,.load 3 (.tmp 90),some (some 89,false),false⟩,
    ⟨some 92,.binOp .eql 3 (.tmp 91) (.const (.int .i64 1)) 3,some (some 89,false),false⟩,
    ⟨some 93,.pick (.tmp 89) (.const (.bool true)) (.tmp 92),some (some 85,true),false⟩,
    ⟨some 94,.pick (.tmp 85) (.tmp 93) (.const (.bool false)),none,false⟩,
    ⟨some 2,.assign (.tmp 94),none,false⟩])
   .ret))
   (.seq (.weak (.reg [⟨some 96,.binOp .eql 3 (.tmp 14) (.const (.int .i64 4)) 3,none,false⟩,
    ⟨some 95,.assign (.tmp 96),none,false⟩]))
   h_))
def ig:LC:=
 (.cond (.tmp 48)
   (.seq (.reg [⟨some 50,.fieldAddr 51 (.tmp 1) 4,none,false⟩,
    ⟨some 51,.load 3 (.tmp 50),none,false⟩,
    ⟨some 52,.fieldAddr 51 (.tmp 3) 4,none,false⟩,
    ⟨none,.store 3 (.tmp 52) (.tmp 51),none,false⟩])
   (.seq (.reg [⟨some 53,.fieldAddr 51 (.tmp 1) 5,none,false⟩,
    ⟨some 54,.load 27 (.tmp 53),none,false⟩,
    ⟨some 55,.fieldAddr 51 (.tmp 3) 5,none,false⟩,
    ⟨none,.store 27 (.tmp 55) (.tmp 54),none,false⟩])
   (.seq (.reg [⟨some 56,.load 51 (.tmp 1),none,false⟩,
    ⟨some 57,.load 51 (.tmp 3),none,false⟩,
    ⟨some 58,.binOp .eql 51 (.tmp 56) (.tmp 57) 51,none,false⟩,
    ⟨some 59,.move (.tmp 58),none,false⟩,
    ⟨some 60,.fieldAddr 51 (.tmp 1) 1,some (some 59,true),false⟩,
    ⟨some 61,.load 3 (.tmp 60),some (some 59,true),false⟩,
    ⟨some 62,.binOp .eql 3 (.tmp 61) (.const (.int .i64 0)) 3,some (some 59,true),false⟩,
    ⟨some 63,.pick (.tmp 59) (.tmp 62) (.const (.bool false)),none,false⟩,
    ⟨some 64,.move (.tmp 63),none,false⟩,
    ⟨some 65,.fieldAddr 51 (.tmp 1) 4,some (some 64,true),false⟩,
    ⟨some 66,.load 3 (.tmp 65),some (some 64,true),false⟩,
    ⟨some 67,.fieldAddr 51 (.tmp 1) 5,some (some 64,true),false⟩,
    ⟨some 68,.load 27 (.tmp 67),some (some 64,true),false⟩,
    ⟨some 69,.build 29 ⟨[(0,(.tmp 66)),(1,(.tmp 68))]⟩,some (some 64,true),false⟩,
    ⟨some 70,.call ⟨.value (.func 9),⟨[(.tmp 69)]⟩,⟨[29]⟩⟩,some (some 64,true),false⟩,
    ⟨some 71,.pick (.tmp 64) (.tmp 70) (.const (.bool false)),none,false⟩,
    ⟨some 2,.assign (.tmp 71),none,false⟩])
   .ret)))
   (.seq (.weak (.reg [⟨some 73,.binOp .eql 3 (.tmp 14) (.const (.int .i64 2)) 3,none,false⟩,
    ⟨some 72,.assign (.tmp 73),none,false⟩]))
   ic))
def iq:LC:=
 (.cond (.tmp 25)
  (.seq (.reg [⟨some 27,.fieldAddr 51 (.tmp 1) 4,none,false⟩,
   ⟨some 28,.load 3 (.tmp 27),none,false⟩,
   ⟨some 29,.fieldAddr 51 (.tmp 3) 4,none,false⟩,
   ⟨none,.store 3 (.tmp 29) (.tmp 28),none,false⟩])
  (.seq (.reg [⟨some 30,.load 51 (.tmp 1),none,false⟩,
   ⟨some 31,.load 51 (.tmp 3),none,false⟩,
   ⟨some 32,.binOp .eql 51 (.tmp 30) (.tmp 31) 51,none,false⟩,
   ⟨some 33,.move (.tmp 32),none,false⟩,
   ⟨some 34,.fieldAddr 51 (.tmp 1) 1,some (some 33,true),false⟩,
   ⟨some 35,.load 3 (.tmp 34),some (some 33,true),false⟩,
   ⟨some 36,.binOp .geq 3 (.tmp 35) (.const (.int .i64 0)) 3,some (some 33,true),false⟩,
   ⟨some 37,.pick (.tmp 33) (.tmp 36) (.const (.bool false)),none,false⟩,
   ⟨some 38,.move (.tmp 37),none,false⟩,
   ⟨some 39,.fieldAddr 51 (.tmp 1) 4,some (some 38,true),false⟩,
   ⟨some 40,.load 3 (.tmp 39),some (some 38,true),false⟩,
   ⟨some 41,.binOp .geq 3 (.tmp 40) (.const (.int .i64 1)) 3,some (some 38,true),false⟩,
   ⟨some 42,.pick (.tmp 38) (.tmp 41) (.const (.bool false)),none,false⟩,
   ⟨some 43,.move (.tmp 42),none,false⟩,
   ⟨some 44,.fieldAddr 51 (.tmp 1) 4,some (some 43,true),false⟩,
   ⟨some 45,.load 3 (.tmp 44),some (some 43,true),false⟩,
   ⟨some 46,.binOp .leq 3 (.tmp 45) (.const (.int .i64 31)) 3,some (some 43,true),false⟩,
   ⟨some 47,.pick (.tmp 43) (.tmp 46) (.const (.bool false)),none,false⟩,
   ⟨some 2,.assign (.tmp 47),none,false⟩])
  .ret))
  (.seq (.weak (.reg [⟨some 49,.binOp .eql 3 (.tmp 14) (.const (.int .i64 9)) 3,none,false⟩,
   ⟨some 48,.assign (.tmp 49),none,false⟩]))
  ig))
def iy:LC:=
 (.cond (.tmp 15)
  (.seq (.reg [⟨some 17,.load 51 (.tmp 1),none,false⟩,
   ⟨some 18,.load 51 (.tmp 3),none,false⟩,
   ⟨some 19,.binOp .eql 51 (.tmp 17) (.tmp 18) 51,none,false⟩,
   ⟨some 20,.move (.tmp 19),none,false⟩,
   ⟨some 21,.fieldAddr 51 (.tmp 1) 1,some (some 20,true),false⟩,
   ⟨some 22,.load 3 (.tmp 21),some (some 20,true),false⟩,
   ⟨some 23,.binOp .eql 3 (.tmp 22) (.const (.int .i64 0)) 3,some (some 20,true),false⟩,
   ⟨some 24,.pick (.tmp 20) (.tmp 23) (.const (.bool false)),none,false⟩,
   ⟨some 2,.assign (.tmp 24),none,false⟩])
  .ret)
  (.seq (.weak (.reg [⟨some 26,.binOp .eql 3 (.tmp 14) (.const (.int .i64 1)) 3,none,false⟩,
   ⟨some 25,.assign (.tmp 26),none,false⟩]))
  iq))
def nD:LC:=
 (.seq (.reg [⟨some 2,.assign (.const (.bool false)),none,false⟩])
 .ret)
def qy:LC:=
 (.seq (.reg [⟨some 1,.box 51 (.tmp 0),none,false⟩,
  ⟨some 2,.assign (.const (.bool false)),none,false⟩])
 (.seq (.reg [⟨some 6,.fieldAddr 51 (.tmp 1) 0,none,false⟩,
  ⟨some 7,.load 3 (.tmp 6),none,false⟩,
  ⟨some 8,.fieldAddr 51 (.tmp 1) 1,none,false⟩,
  ⟨some 9,.load 3 (.tmp 8),none,false⟩,
  ⟨some 10,.fieldAddr 51 (.tmp 1) 2,none,false⟩,
  ⟨some 11,.load 9 (.tmp 10),none,false⟩,
  ⟨some 12,.build 51 ⟨[(0,(.tmp 7)),(1,(.tmp 9)),(2,(.tmp 11))]⟩,none,false⟩,
  ⟨some 3,.alloc 51,none,false⟩,
  ⟨none,.store 51 (.tmp 3) (.tmp 12),none,false⟩])
 (.seq (.seq (.reg [⟨some 13,.fieldAddr 51 (.tmp 1) 0,none,false⟩,
  ⟨some 14,.load 3 (.tmp 13),none,false⟩])
 (.block 0 (.seq (.weak (.reg [⟨some 16,.binOp .eql 3 (.tmp 14) (.const (.int .i64 0)) 3,none,false⟩,
  ⟨some 15,.assign (.tmp 16),none,false⟩]))
  iy)))
 nD)))
theorem Ah:aP Tryz.prog 32 140 [.tmp 2] qy:=⟨_,_,Tryz.func32,by kernel_rfl,rfl,Tryz.ntmps32,rfl,by kernel_rfl⟩
end Lp
namespace Lp
open Go Go.Proofs
open Nat (reduceAdd reduceLeDiff reduceMul reduceSub)
open Int (reduceEq reduceLE reduceToNat)
theorem ni (a:dS):(∀ n,(aK a).putCells 4 [.int .i64 n]=aK { a with n:=n })∧(∀ x,(aK a).putCells 3 [.str x]=aK { a with s:=x })∧
  (∀ ck cm cn cs cg ce,(aK a).putCells 5 [.int .i64 ck,.int .i64 cm,.str cn,.str cs,.bool cg,.int .i64 ce]=aK { a with c:=⟨ck,cm,cn,cs,cg,ce⟩ }):=⟨fun _=>rfl,fun _=>rfl,fun _ _ _ _ _ _=>rfl⟩
theorem acT (t:dS):decide (t=⟨t.kind,t.many,t.name,[],0,aN⟩)=(t.s==[] && t.n==0 && t.c==aN):=by
 obtain ⟨k,m,nm,s,n,c⟩:=t
 rw [Bool.eq_iff_iff];simp [and_assoc]
theorem aee (t:dS):decide (t=⟨t.kind,t.many,t.name,[],t.n,aN⟩)=(t.s==[] && t.c==aN):=by
 obtain ⟨k,m,nm,s,n,c⟩:=t
 rw [Bool.eq_iff_iff];simp
theorem ae5 (t:dS):decide (t=⟨t.kind,t.many,t.name,[],t.n,t.c⟩)=(t.s==[]):=by
 obtain ⟨k,m,nm,s,n,c⟩:=t
 rw [Bool.eq_iff_iff];simp
theorem ae6 (t:dS):decide (t=⟨t.kind,t.many,t.name,t.s,0,aN⟩)=(t.n==0 && t.c==aN):=by
 obtain ⟨k,m,nm,s,n,c⟩:=t
 rw [Bool.eq_iff_iff];simp
theorem ae7 (pk:List UInt8→Bool) (t:dS) (k:t.kind=0):bR pk t=(decide (t=⟨t.kind,t.many,t.name,[],0,aN⟩) && decide (t.many=0)):=by
 rw [acT]
 have b:∀ i:Int,(t.many==i)=decide (t.many=i):=fun _=>rfl
 have c:∀ i:Int,(t.n==i)=decide (t.n=i):=fun _=>rfl
 simp only [bR,k,reduceEq,if_true,if_false,false_or,or_false,or_self,true_or,or_true,b,c]
 ac_rfl
theorem ae8 (pk:List UInt8→Bool) (t:dS) (k:t.kind=1):bR pk t=(decide (t=⟨t.kind,t.many,t.name,[],t.n,aN⟩) && (decide (0≤t.many) && decide (1≤t.n) && decide (t.n≤31))):=by
 rw [aee]
 have b:∀ i:Int,(t.many==i)=decide (t.many=i):=fun _=>rfl
 have c:∀ i:Int,(t.n==i)=decide (t.n=i):=fun _=>rfl
 simp only [bR,k,reduceEq,if_true,if_false,false_or,or_false,or_self,true_or,or_true,b,c]
 ac_rfl
theorem ae9 (pk:List UInt8→Bool) (t:dS) (k:t.kind=9):bR pk t=(decide (t=⟨t.kind,t.many,t.name,[],t.n,t.c⟩) && (decide (t.many=0) && jC ⟨t.n,t.c⟩)):=by
 rw [ae5]
 have b:∀ i:Int,(t.many==i)=decide (t.many=i):=fun _=>rfl
 have c:∀ i:Int,(t.n==i)=decide (t.n=i):=fun _=>rfl
 simp only [bR,k,reduceEq,if_true,if_false,false_or,or_false,or_self,true_or,or_true,b,c]
 ac_rfl
theorem ae_ (pk:List UInt8→Bool) (t:dS) (k:t.kind=2):bR pk t=(decide (t=⟨t.kind,t.many,t.name,[],t.n,aN⟩) && (decide (0≤t.many) && (decide (t.n=0) || decide (t.n=1)))):=by
 rw [aee]
 have b:∀ i:Int,(t.many==i)=decide (t.many=i):=fun _=>rfl
 have c:∀ i:Int,(t.n==i)=decide (t.n=i):=fun _=>rfl
 simp only [bR,k,reduceEq,if_true,if_false,false_or,or_false,or_self,true_or,or_true,b,c]
 ac_rfl
theorem afa (pk:List UInt8→Bool) (t:dS) (k:t.kind=4):bR pk t=(decide (t=⟨t.kind,t.many,t.name,[],0,aN⟩) && decide (0≤t.many)):=by
 rw [acT]
 have b:∀ i:Int,(t.many==i)=decide (t.many=i):=fun _=>rfl
 have c:∀ i:Int,(t.n==i)=decide (t.n=i):=fun _=>rfl
 simp only [bR,k,reduceEq,if_true,if_false,false_or,or_false,or_self,true_or,or_true,b,c]
 ac_rfl
theorem acU (pk:List UInt8→Bool) (t:dS) (k:t.kind=3∨t.kind=5∨t.kind=6):bR pk t=(decide (t=⟨t.kind,t.many,t.name,[],0,aN⟩) && decide (t.many=1)):=by
 rw [acT]
 have b:∀ i:Int,(t.many==i)=decide (t.many=i):=fun _=>rfl
 have c:∀ i:Int,(t.n==i)=decide (t.n=i):=fun _=>rfl
 rcases k with k | k | k <;> simp only [bR,k,reduceEq,if_true,if_false,false_or,or_false,or_self,true_or,or_true,b,c] <;> ac_rfl
theorem aef (pk:List UInt8→Bool) (t:dS) (k:t.kind=7∨t.kind=8):bR pk t=(decide (t=⟨t.kind,t.many,t.name,t.s,0,aN⟩) && (decide (t.many=1) && pk t.s)):=by
 rw [ae6]
 have b:∀ i:Int,(t.many==i)=decide (t.many=i):=fun _=>rfl
 have c:∀ i:Int,(t.n==i)=decide (t.n=i):=fun _=>rfl
 rcases k with k | k <;> simp only [bR,k,reduceEq,if_true,if_false,false_or,or_false,or_self,true_or,or_true,b,c] <;> ac_rfl
theorem fq (k m n ck cm ce k' m' n' ck' cm' ce':Int) (nm s cn cs Lx s' cn' cs':List UInt8) (cg cg':Bool):Au Tryz.prog 51 [.int .i64 k,.int .i64 m,.str nm,.str s,.int .i64 n,.int .i64 ck,.int .i64 cm,.str cn,.str cs,.bool cg,.int .i64 ce] [.int .i64 k',.int .i64 m',.str Lx,.str s',.int .i64 n',.int .i64 ck',.int .i64 cm',.str cn',.str cs',.bool cg',.int .i64 ce']=True:=eq_true (Zm ⟨k,m,nm,s,n,⟨ck,cm,cn,cs,cg,ce⟩⟩ ⟨k',m',Lx,s',n',⟨ck',cm',cn',cs',cg',ce'⟩⟩)
theorem jb (k m n ck cm ce k' m' n' ck' cm' ce':Int) (nm s cn cs Lx s' cn' cs':List UInt8) (cg cg':Bool):yA [.int .i64 k,.int .i64 m,.str nm,.str s,.int .i64 n,.int .i64 ck,.int .i64 cm,.str cn,.str cs,.bool cg,.int .i64 ce] [.int .i64 k',.int .i64 m',.str Lx,.str s',.int .i64 n',.int .i64 ck',.int .i64 cm',.str cn',.str cs',.bool cg',.int .i64 ce']=some (decide ((⟨k,m,nm,s,n,⟨ck,cm,cn,cs,cg,ce⟩⟩:dS)=⟨k',m',Lx,s',n',⟨ck',cm',cn',cs',cg',ce'⟩⟩)):=acM ⟨k,m,nm,s,n,⟨ck,cm,cn,cs,cg,ce⟩⟩ ⟨k',m',Lx,s',n',⟨ck',cm',cn',cs',cg',ce'⟩⟩
theorem ME (t:dS) (hs:t.s.length≤1000000000) (hc:tC t.c):ai Tryz.prog 32 [aK t] [] (.bool (bR bA t)) []:=by
 refine Ah.bf (T:=aR Tryz.prog [(9,tF),(34,fZ)]) 0 hD (aj (af Mr (af BG ah))) aZ (by decide) fun Q hQ=>?_
 obtain ⟨kd,m,nm,s,n,c⟩:=t
 simp only at hs hc
 simp(maxSteps:=400000)only[↓av,ax,BEq.rfl,reduceIte,reduceCtorEq,Nat.reduceLT,reduceAdd,reduceSub,reduceMul,Nat.reduceBEq,reduceLeDiff,reduceToNat,reduceLE,hQ,qy,qH,gH,gM,ni,fq,jb,cK,dX,reduceEq]
 refine aO _ (Weak.refl _ _) ?_
 by_cases k0:kd=0
 · subst k0
   have hp:bR bA ⟨0,m,nm,s,n,c⟩=(decide ((⟨0,m,nm,s,n,c⟩:dS)=⟨0,m,nm,[],0,aN⟩) && decide (m=0)):=ae7 bA ⟨0,m,nm,s,n,c⟩ rfl
   cases hb:decide ((⟨0,m,nm,s,n,c⟩:dS)=⟨0,m,nm,[],0,aN⟩) with
   | false=>
    rw [hb,Bool.false_and] at hp
    simp(maxSteps:=400000)only[↓av,ax,BEq.rfl,reduceIte,reduceCtorEq,Nat.reduceLT,reduceAdd,reduceSub,reduceMul,Nat.reduceBEq,reduceLeDiff,reduceToNat,reduceLE,hQ,iy,hb,hp,qH,gH,gM,ni,fq,jb,cK,dX,reduceEq]
    repeat' (first | (omega) | exact hs | exact hc | intro _ | refine ⟨?_,?_⟩)
   | true=>
    rw [hb,Bool.true_and] at hp
    simp(maxSteps:=400000)only[↓av,ax,BEq.rfl,reduceIte,reduceCtorEq,Nat.reduceLT,reduceAdd,reduceSub,reduceMul,Nat.reduceBEq,reduceLeDiff,reduceToNat,reduceLE,hQ,iy,hb,hp,qH,gH,gM,ni,fq,jb,cK,dX,reduceEq]
    repeat' (first | (omega) | exact hs | exact hc | ((simp [*];done)) | intro _ | refine ⟨?_,?_⟩)
 have n0:=eq_false k0
 simp(maxSteps:=400000)only[↓av,ax,BEq.rfl,reduceIte,reduceCtorEq,Nat.reduceLT,reduceAdd,reduceSub,reduceMul,Nat.reduceBEq,reduceLeDiff,reduceToNat,reduceLE,hQ,iy,n0,qH,gH,gM,ni,fq,jb,cK,dX,reduceEq]
 refine aO _ (Weak.refl _ _) ?_
 by_cases k1:kd=1
 · subst k1
   have hp:bR bA ⟨1,m,nm,s,n,c⟩=(decide ((⟨1,m,nm,s,n,c⟩:dS)=⟨1,m,nm,[],n,aN⟩) && (decide (0≤m) && decide (1≤n) && decide (n≤31))):=ae8 bA ⟨1,m,nm,s,n,c⟩ rfl
   cases hb:decide ((⟨1,m,nm,s,n,c⟩:dS)=⟨1,m,nm,[],n,aN⟩) with
   | false=>
    rw [hb,Bool.false_and] at hp
    simp(maxSteps:=400000)only[↓av,ax,BEq.rfl,reduceIte,reduceCtorEq,Nat.reduceLT,reduceAdd,reduceSub,reduceMul,Nat.reduceBEq,reduceLeDiff,reduceToNat,reduceLE,hQ,iq,hb,hp,qH,gH,gM,ni,fq,jb,cK,dX,reduceEq]
    repeat' (first | (omega) | exact hs | exact hc | intro _ | refine ⟨?_,?_⟩)
   | true=>
    rw [hb,Bool.true_and] at hp
    simp(maxSteps:=400000)only[↓av,ax,BEq.rfl,reduceIte,reduceCtorEq,Nat.reduceLT,reduceAdd,reduceSub,reduceMul,Nat.reduceBEq,reduceLeDiff,reduceToNat,reduceLE,hQ,iq,hb,hp,qH,gH,gM,ni,fq,jb,cK,dX,reduceEq]
    repeat' (first | (omega) | exact hs | exact hc | ((simp [*];done)) | intro _ | refine ⟨?_,?_⟩)
 have n1:=eq_false k1
 simp(maxSteps:=400000)only[↓av,ax,BEq.rfl,reduceIte,reduceCtorEq,Nat.reduceLT,reduceAdd,reduceSub,reduceMul,Nat.reduceBEq,reduceLeDiff,reduceToNat,reduceLE,hQ,iq,n1,qH,gH,gM,ni,fq,jb,cK,dX,reduceEq]
 refine aO _ (Weak.refl _ _) ?_
 by_cases k9:kd=9
 · subst k9
   have hp:bR bA ⟨9,m,nm,s,n,c⟩=(decide ((⟨9,m,nm,s,n,c⟩:dS)=⟨9,m,nm,[],n,c⟩) && (decide (m=0) && jC ⟨n,c⟩)):=ae9 bA ⟨9,m,nm,s,n,c⟩ rfl
   cases hb:decide ((⟨9,m,nm,s,n,c⟩:dS)=⟨9,m,nm,[],n,c⟩) with
   | false=>
    rw [hb,Bool.false_and] at hp
    simp(maxSteps:=400000)only[↓av,ax,BEq.rfl,reduceIte,reduceCtorEq,Nat.reduceLT,reduceAdd,reduceSub,reduceMul,Nat.reduceBEq,reduceLeDiff,reduceToNat,reduceLE,hQ,ig,hb,hp,↓tF,qH,gH,gM,ni,fq,jb,cK,dX,reduceEq]
    repeat' (first | (omega) | exact hs | exact hc | intro _ | refine ⟨?_,?_⟩)
   | true=>
    rw [hb,Bool.true_and] at hp
    simp(maxSteps:=400000)only[↓av,ax,BEq.rfl,reduceIte,reduceCtorEq,Nat.reduceLT,reduceAdd,reduceSub,reduceMul,Nat.reduceBEq,reduceLeDiff,reduceToNat,reduceLE,hQ,ig,hb,hp,↓tF,qH,gH,gM,ni,fq,jb,cK,dX,reduceEq]
    repeat' (first | (omega) | exact hs | exact hc | ((simp [*];done)) | intro _ | refine ⟨?_,?_⟩)
 have n9:=eq_false k9
 simp(maxSteps:=400000)only[↓av,ax,BEq.rfl,reduceIte,reduceCtorEq,Nat.reduceLT,reduceAdd,reduceSub,reduceMul,Nat.reduceBEq,reduceLeDiff,reduceToNat,reduceLE,hQ,ig,n9,qH,gH,gM,ni,fq,jb,cK,dX,reduceEq]
 refine aO _ (Weak.refl _ _) ?_
 by_cases k2:kd=2
 · subst k2
   have hp:bR bA ⟨2,m,nm,s,n,c⟩=(decide ((⟨2,m,nm,s,n,c⟩:dS)=⟨2,m,nm,[],n,aN⟩) && (decide (0≤m) && (decide (n=0) || decide (n=1)))):=ae_ bA ⟨2,m,nm,s,n,c⟩ rfl
   cases hb:decide ((⟨2,m,nm,s,n,c⟩:dS)=⟨2,m,nm,[],n,aN⟩) with
   | false=>
    rw [hb,Bool.false_and] at hp
    simp(maxSteps:=400000)only[↓av,ax,BEq.rfl,reduceIte,reduceCtorEq,Nat.reduceLT,reduceAdd,reduceSub,reduceMul,Nat.reduceBEq,reduceLeDiff,reduceToNat,reduceLE,hQ,ic,hb,hp,qH,gH,gM,ni,fq,jb,cK,dX,reduceEq]
    repeat' (first | (omega) | exact hs | exact hc | intro _ | refine ⟨?_,?_⟩)
   | true=>
    rw [hb,Bool.true_and] at hp
    simp(maxSteps:=400000)only[↓av,ax,BEq.rfl,reduceIte,reduceCtorEq,Nat.reduceLT,reduceAdd,reduceSub,reduceMul,Nat.reduceBEq,reduceLeDiff,reduceToNat,reduceLE,hQ,ic,hb,hp,qH,gH,gM,ni,fq,jb,cK,dX,reduceEq]
    repeat' (first | (omega) | exact hs | exact hc | ((simp [*];done)) | intro _ | refine ⟨?_,?_⟩)
 have n2:=eq_false k2
 simp(maxSteps:=400000)only[↓av,ax,BEq.rfl,reduceIte,reduceCtorEq,Nat.reduceLT,reduceAdd,reduceSub,reduceMul,Nat.reduceBEq,reduceLeDiff,reduceToNat,reduceLE,hQ,ic,n2,qH,gH,gM,ni,fq,jb,cK,dX,reduceEq]
 refine aO _ (Weak.refl _ _) ?_
 by_cases k4:kd=4
 · subst k4
   have hp:bR bA ⟨4,m,nm,s,n,c⟩=(decide ((⟨4,m,nm,s,n,c⟩:dS)=⟨4,m,nm,[],0,aN⟩) && decide (0≤m)):=afa bA ⟨4,m,nm,s,n,c⟩ rfl
   cases hb:decide ((⟨4,m,nm,s,n,c⟩:dS)=⟨4,m,nm,[],0,aN⟩) with
   | false=>
    rw [hb,Bool.false_and] at hp
    simp(maxSteps:=400000)only[↓av,ax,BEq.rfl,reduceIte,reduceCtorEq,Nat.reduceLT,reduceAdd,reduceSub,reduceMul,Nat.reduceBEq,reduceLeDiff,reduceToNat,reduceLE,hQ,h_,hb,hp,qH,gH,gM,ni,fq,jb,cK,dX,reduceEq]
    repeat' (first | (omega) | exact hs | exact hc | intro _ | refine ⟨?_,?_⟩)
   | true=>
    rw [hb,Bool.true_and] at hp
    simp(maxSteps:=400000)only[↓av,ax,BEq.rfl,reduceIte,reduceCtorEq,Nat.reduceLT,reduceAdd,reduceSub,reduceMul,Nat.reduceBEq,reduceLeDiff,reduceToNat,reduceLE,hQ,h_,hb,hp,qH,gH,gM,ni,fq,jb,cK,dX,reduceEq]
    repeat' (first | (omega) | exact hs | exact hc | ((simp [*];done)) | intro _ | refine ⟨?_,?_⟩)
 have n4:=eq_false k4
 simp(maxSteps:=400000)only[↓av,ax,BEq.rfl,reduceIte,reduceCtorEq,Nat.reduceLT,reduceAdd,reduceSub,reduceMul,Nat.reduceBEq,reduceLeDiff,reduceToNat,reduceLE,hQ,h_,n4,qH,gH,gM,ni,fq,jb,cK,dX,reduceEq]
 refine aO _ (Weak.refl _ _) ?_
 by_cases k3:kd=3
 · subst k3
   have hp:bR bA ⟨3,m,nm,s,n,c⟩=(decide ((⟨3,m,nm,s,n,c⟩:dS)=⟨3,m,nm,[],0,aN⟩) && decide (m=1)):=acU bA ⟨3,m,nm,s,n,c⟩ (.inl rfl)
   cases hb:decide ((⟨3,m,nm,s,n,c⟩:dS)=⟨3,m,nm,[],0,aN⟩) with
   | false=>
    rw [hb,Bool.false_and] at hp
    simp(maxSteps:=400000)only[↓av,ax,BEq.rfl,reduceIte,reduceCtorEq,Nat.reduceLT,reduceAdd,reduceSub,reduceMul,Nat.reduceBEq,reduceLeDiff,reduceToNat,reduceLE,hQ,cu,b_,hb,hp,qH,gH,gM,ni,fq,jb,cK,dX,reduceEq]
    repeat' (first | (omega) | exact hs | exact hc | intro _ | refine ⟨?_,?_⟩)
   | true=>
    rw [hb,Bool.true_and] at hp
    simp(maxSteps:=400000)only[↓av,ax,BEq.rfl,reduceIte,reduceCtorEq,Nat.reduceLT,reduceAdd,reduceSub,reduceMul,Nat.reduceBEq,reduceLeDiff,reduceToNat,reduceLE,hQ,cu,b_,hb,hp,qH,gH,gM,ni,fq,jb,cK,dX,reduceEq]
    repeat' (first | (omega) | exact hs | exact hc | ((simp [*];done)) | intro _ | refine ⟨?_,?_⟩)
 have n3:=eq_false k3
 by_cases k5:kd=5
 · subst k5
   have hp:bR bA ⟨5,m,nm,s,n,c⟩=(decide ((⟨5,m,nm,s,n,c⟩:dS)=⟨5,m,nm,[],0,aN⟩) && decide (m=1)):=acU bA ⟨5,m,nm,s,n,c⟩ (.inr (.inl rfl))
   cases hb:decide ((⟨5,m,nm,s,n,c⟩:dS)=⟨5,m,nm,[],0,aN⟩) with
   | false=>
    rw [hb,Bool.false_and] at hp
    simp(maxSteps:=400000)only[↓av,ax,BEq.rfl,reduceIte,reduceCtorEq,Nat.reduceLT,reduceAdd,reduceSub,reduceMul,Nat.reduceBEq,reduceLeDiff,reduceToNat,reduceLE,hQ,cu,b_,hb,hp,qH,gH,gM,ni,fq,jb,cK,dX,reduceEq]
    repeat' (first | (omega) | exact hs | exact hc | intro _ | refine ⟨?_,?_⟩)
   | true=>
    rw [hb,Bool.true_and] at hp
    simp(maxSteps:=400000)only[↓av,ax,BEq.rfl,reduceIte,reduceCtorEq,Nat.reduceLT,reduceAdd,reduceSub,reduceMul,Nat.reduceBEq,reduceLeDiff,reduceToNat,reduceLE,hQ,cu,b_,hb,hp,qH,gH,gM,ni,fq,jb,cK,dX,reduceEq]
    repeat' (first | (omega) | exact hs | exact hc | ((simp [*];done)) | intro _ | refine ⟨?_,?_⟩)
 have n5:=eq_false k5
 by_cases k6:kd=6
 · subst k6
   have hp:bR bA ⟨6,m,nm,s,n,c⟩=(decide ((⟨6,m,nm,s,n,c⟩:dS)=⟨6,m,nm,[],0,aN⟩) && decide (m=1)):=acU bA ⟨6,m,nm,s,n,c⟩ (.inr (.inr rfl))
   cases hb:decide ((⟨6,m,nm,s,n,c⟩:dS)=⟨6,m,nm,[],0,aN⟩) with
   | false=>
    rw [hb,Bool.false_and] at hp
    simp(maxSteps:=400000)only[↓av,ax,BEq.rfl,reduceIte,reduceCtorEq,Nat.reduceLT,reduceAdd,reduceSub,reduceMul,Nat.reduceBEq,reduceLeDiff,reduceToNat,reduceLE,hQ,cu,b_,hb,hp,qH,gH,gM,ni,fq,jb,cK,dX,reduceEq]
    repeat' (first | (omega) | exact hs | exact hc | intro _ | refine ⟨?_,?_⟩)
   | true=>
    rw [hb,Bool.true_and] at hp
    simp(maxSteps:=400000)only[↓av,ax,BEq.rfl,reduceIte,reduceCtorEq,Nat.reduceLT,reduceAdd,reduceSub,reduceMul,Nat.reduceBEq,reduceLeDiff,reduceToNat,reduceLE,hQ,cu,b_,hb,hp,qH,gH,gM,ni,fq,jb,cK,dX,reduceEq]
    repeat' (first | (omega) | exact hs | exact hc | ((simp [*];done)) | intro _ | refine ⟨?_,?_⟩)
 have n6:=eq_false k6
 simp(maxSteps:=400000)only[↓av,ax,BEq.rfl,reduceIte,reduceCtorEq,Nat.reduceLT,reduceAdd,reduceSub,reduceMul,Nat.reduceBEq,reduceLeDiff,reduceToNat,reduceLE,hQ,cu,b_,n3,n5,n6,qH,gH,gM,ni,fq,jb,cK,dX,reduceEq]
 refine aO _ (Weak.refl _ _) ?_
 by_cases k7:kd=7
 · subst k7
   have hp:bR bA ⟨7,m,nm,s,n,c⟩=(decide ((⟨7,m,nm,s,n,c⟩:dS)=⟨7,m,nm,s,0,aN⟩) && (decide (m=1) && bA s)):=aef bA ⟨7,m,nm,s,n,c⟩ (.inl rfl)
   cases hb:decide ((⟨7,m,nm,s,n,c⟩:dS)=⟨7,m,nm,s,0,aN⟩) with
   | false=>
    rw [hb,Bool.false_and] at hp
    simp(maxSteps:=400000)only[↓av,ax,BEq.rfl,reduceIte,reduceCtorEq,Nat.reduceLT,reduceAdd,reduceSub,reduceMul,Nat.reduceBEq,reduceLeDiff,reduceToNat,reduceLE,hQ,dW,dV,hb,hp,↓fZ,gZ,qH,gH,gM,ni,fq,jb,cK,dX,reduceEq]
    repeat' (first | (omega) | exact hs | exact hc | intro _ | refine ⟨?_,?_⟩)
   | true=>
    rw [hb,Bool.true_and] at hp
    simp(maxSteps:=400000)only[↓av,ax,BEq.rfl,reduceIte,reduceCtorEq,Nat.reduceLT,reduceAdd,reduceSub,reduceMul,Nat.reduceBEq,reduceLeDiff,reduceToNat,reduceLE,hQ,dW,dV,hb,hp,↓fZ,gZ,qH,gH,gM,ni,fq,jb,cK,dX,reduceEq]
    repeat' (first | (omega) | exact hs | exact hc | ((simp [*];done)) | intro _ | refine ⟨?_,?_⟩)
 have n7:=eq_false k7
 by_cases k8:kd=8
 · subst k8
   have hp:bR bA ⟨8,m,nm,s,n,c⟩=(decide ((⟨8,m,nm,s,n,c⟩:dS)=⟨8,m,nm,s,0,aN⟩) && (decide (m=1) && bA s)):=aef bA ⟨8,m,nm,s,n,c⟩ (.inr rfl)
   cases hb:decide ((⟨8,m,nm,s,n,c⟩:dS)=⟨8,m,nm,s,0,aN⟩) with
   | false=>
    rw [hb,Bool.false_and] at hp
    simp(maxSteps:=400000)only[↓av,ax,BEq.rfl,reduceIte,reduceCtorEq,Nat.reduceLT,reduceAdd,reduceSub,reduceMul,Nat.reduceBEq,reduceLeDiff,reduceToNat,reduceLE,hQ,dW,dV,hb,hp,↓fZ,gZ,qH,gH,gM,ni,fq,jb,cK,dX,reduceEq]
    repeat' (first | (omega) | exact hs | exact hc | intro _ | refine ⟨?_,?_⟩)
   | true=>
    rw [hb,Bool.true_and] at hp
    simp(maxSteps:=400000)only[↓av,ax,BEq.rfl,reduceIte,reduceCtorEq,Nat.reduceLT,reduceAdd,reduceSub,reduceMul,Nat.reduceBEq,reduceLeDiff,reduceToNat,reduceLE,hQ,dW,dV,hb,hp,↓fZ,gZ,qH,gH,gM,ni,fq,jb,cK,dX,reduceEq]
    repeat' (first | (omega) | exact hs | exact hc | ((simp [*];done)) | intro _ | refine ⟨?_,?_⟩)
 have n8:=eq_false k8
 simp(maxSteps:=400000)only[↓av,ax,BEq.rfl,reduceIte,reduceCtorEq,Nat.reduceLT,reduceAdd,reduceSub,reduceMul,Nat.reduceBEq,reduceLeDiff,reduceToNat,reduceLE,hQ,dW,dV,n7,n8,qH,gH,gM,ni,fq,jb,cK,dX,reduceEq]
 have hp:bR bA ⟨kd,m,nm,s,n,c⟩=false:=by simp [bR,k0,k1,k9,k2,k4,k3,k5,k6,k7,k8]
 simp(maxSteps:=400000)only[↓av,ax,BEq.rfl,reduceIte,reduceCtorEq,Nat.reduceLT,reduceAdd,reduceSub,reduceMul,Nat.reduceBEq,reduceLeDiff,reduceToNat,reduceLE,hQ,nD,hp]
def gF:dD:=fun args objs K=>match args with
 | [a0]=>fE aK a0 (HK.mk:HK fun t=>(t.s.length≤1000000000)∧(tC t.c)∧K (.bool (bR bA t)) objs 0)
 | _=>False
theorem Jo:aB Tryz.prog 32 (gF):=by
 intro args objs K h
 unfold gF at h
 split at h
 · rename_i a0
   obtain ⟨t,rfl,h1,h2,hk⟩:=h
   exact ⟨_,_,_,.pure _ rfl (ME t h1 h2),hk⟩
 · exact h.elim
end Lp
namespace Lp
open Go Go.Proofs
open Nat (reduceAdd reduceLeDiff reduceMul reduceSub)
open Int (reduceEq reduceLE reduceToNat toNat_natCast)
structure uX (t:aC):Prop where
 len:t.length≤1000000
 txt:∀ n ∈ t,n.s.length≤1000000000∧n.name.length≤1000000000∧tC n.c
theorem UK (d n:Nat) (O:List Obj) (t:TypeId) (sz:Nat) (l:aC) (ver:Nat):fB d n O ⟨t,sz,l.map aK,true,ver⟩=⟨t,sz,l.map aK,true,ver⟩:=by
 have:(l.map aK).map (PV.bI (eZ d n O))=l.map aK:=by
  rw [List.map_map]
  exact List.map_congr_left fun x _=>rfl
 simp only [fB,this]
theorem SV (x:dS) (prev:Option (List UInt8)) (p:aC) (ps:List aC):mU x prev (p::ps)=(zw x p && (x.kind !=2 || (match prev with | none=>true | some a=>Op.bytesLess a (Y.nameOf p))) && mU x (some (Y.nameOf p)) ps):=by cases prev <;> rfl
theorem MF (t:aC) (at':Nat) (n:dS) (hs:uX t) (ho:Y.One t) (hat:t[at']?=some n) :
  ai Tryz.prog 33 [ay t,.int .i64 at'] [] (.bool (Af t at')) []:=by
 obtain ⟨hl,htx⟩:=hs
 have aaM:=(List.getElem?_eq_some_iff.1 hat).1
 obtain ⟨ps,c,hm,hmL,hps,hsk,hfl,hone,_,_⟩:=Y.rR ho hat
 have hpl:=Y.bS _ _ _ hps
 have hres:Af t at'=mU n none ps:=by
  rw [WJ]
  have hd:=List.drop_eq_getElem_cons aaM
  rw [List.getElem?_eq_getElem aaM] at hat
  cases hat
  simp only [Af,hd,hps]
 rw [hres]
 refine Ab.bf (T:=aR Tryz.prog [(25,gK),(31,iF)]) 0 hD (aj (af Dp (af uW ah))) aZ (by decide) fun Q hQ=>?_
 (conv=>arg 4;cbv);simp(maxSteps:=400000)only[↓av,ax,BEq.rfl,reduceIte,reduceCtorEq,Nat.reduceLT,reduceAdd,reduceSub,reduceMul,Nat.reduceBEq,reduceLeDiff,reduceToNat,reduceLE,hQ]
 refine ⟨⟨by omega,by omega⟩,?_⟩
 refine aH (fun m S=>∃ (i:Nat) (rest:List aC) (prev:Option (List UInt8)) (last:List UInt8),m=rest.length∧rest.length≤ps.length∧Y.parts rest.length (t.drop i)=some rest∧i≤t.length∧mU n prev rest=mU n none ps∧
  ((prev=none∧rest.length=ps.length)∨(prev=some last∧rest.length<ps.length))∧
  S=⟨dH 74 [(0,ay t),(1,.int .i64 at'),(5,.int .i64 i),(6,.str last),(7,.int .i64 ((ps.length:Int)-rest.length))],[]⟩) ps.length (hz:=Nat.zero_le _) ⟨at'+1,ps,none,[],rfl,Nat.le_refl _,by rw [hpl];exact hps,by omega,rfl,.inl ⟨rfl,rfl⟩,?_⟩ ?_
 · simp only [bV,keepR,reduceAdd,ng,Nat.reduceBEq,List.map_nil]
   simp only [Int.sub_self]
   rfl
 rintro m S ⟨i,rest,prev,last,rfl,hrl,hrp,hit,hrb,abY,rfl⟩
 have hmn:n.many=(ps.length:Int):=by omega
 have z0:(0≤(at':Int))=True:=eq_true (by omega)
 have zi:(0≤(i:Int))=True:=eq_true (by omega)
 cases rest with
 | nil=>
  have hlt:((ps.length:Int)-((0:Nat):Int)<(ps.length:Int))=False:=eq_false (by omega)
  have hr:mU n none ps=true:=by rw [← hrb];rfl
  simp(maxSteps:=400000)only[↓av,ax,BEq.rfl,reduceIte,reduceCtorEq,Nat.reduceLT,reduceAdd,reduceSub,reduceMul,Nat.reduceBEq,reduceLeDiff,reduceToNat,reduceLE,hQ,hat,hmn,z0,List.length_nil,hlt,hr]
 | cons p qs=>
  obtain ⟨pc,qs',h1,h2,h3⟩:=Y.eH (k:=qs.length) hrp
  simp only [List.cons.injEq] at h2
  obtain ⟨hp,rfl⟩:=h2
  have hpc:=Y.dY _ _ _ h1
  simp only [List.length_drop] at hpc
  have hil:i<t.length:=by omega
  have hgi:=List.getElem?_eq_getElem hil
  have hdi:=List.drop_eq_getElem_cons hil
  have I5:=htx _ (List.getElem_mem hil)
  generalize t[i]=pn at hgi hdi I5
  obtain ⟨q,hq⟩:∃ q,pc=q+1:=⟨pc-1,by omega⟩
  have hname:Y.nameOf p=pn.name:=by rw [hp,hdi,hq];rfl
  have hkind:Y.kindOf p=pn.kind:=by rw [hp,hdi,hq];rfl
  have hnx:tK t i=(i+pc:Nat):=Hu (Y.qm _ _ _ _ h1 (by omega))
  simp only [List.length_cons] at hrl abY
  have h3':Y.parts qs.length (t.drop (i+pc))=some qs:=by rw [← List.drop_drop];exact h3
  have rP:((ps.length:Int)-((qs.length+1:Nat):Int)<(ps.length:Int))=True:=eq_true (by omega)
  have hlt1:(-9223372036854775808≤(ps.length:Int)-((qs.length+1:Nat):Int)+1∧(ps.length:Int)-((qs.length+1:Nat):Int)+1≤9223372036854775807)=True:=eq_true ⟨by omega,by omega⟩
  have e:(ps.length:Int)-((qs.length+1:Nat):Int)+1=(ps.length:Int)-qs.length:=by omega
  rw [SV,zw,hname,hkind] at hrb
  have step:mU n (some pn.name) qs=mU n none ps→∃ m',m'<qs.length+1∧∃ (Fv:Nat) (rest:List aC) (prev:Option (List UInt8)) (last:List UInt8),m'=rest.length∧rest.length≤ps.length∧Y.parts rest.length (t.drop Fv)=some rest∧Fv≤t.length∧mU n prev rest=mU n none ps∧
      ((prev=none∧rest.length=ps.length)∨(prev=some last∧rest.length<ps.length))∧
      (⟨dH 74 [(0,ay t),(1,.int .i64 at'),(5,.int .i64 (i+pc:Nat)),(6,.str pn.name),(7,.int .i64 ((ps.length:Int)-((qs.length+1:Nat):Int)+1))],[]⟩:St)=⟨dH 74 [(0,ay t),(1,.int .i64 at'),(5,.int .i64 Fv),(6,.str last),(7,.int .i64 ((ps.length:Int)-rest.length))],[]⟩:=fun hx=>
   ⟨qs.length,by omega,i+pc,qs,some pn.name,pn.name,rfl,by omega,h3',by omega,hx,.inr ⟨rfl,by omega⟩,by rw [e]⟩
  by_cases hb:(pn.kind=9)=(n.kind=1)
  rotate_left 1
  ·
   have hr:mU n none ps=false:=by
    rw [← hrb]
    have:(pn.kind==9)≠(n.kind==1):=fun h=>hb (by rw [Bool.eq_iff_iff,beq_iff_eq,beq_iff_eq] at h;exact propext h)
    simp [this]
   by_cases k9:pn.kind=9
   · have k1:(n.kind=1)=False:=eq_false fun k1=>hb (by simp [k9,k1])
     have k9':=eq_true k9
     simp(maxSteps:=400000)only[↓av,ax,BEq.rfl,reduceIte,reduceCtorEq,Nat.reduceLT,reduceAdd,reduceSub,reduceMul,Nat.reduceBEq,reduceLeDiff,reduceToNat,reduceLE,hQ,hat,hmn,z0,zi,hgi,rP,k9,k1,hr,qH,gH,gM,rT,cK,dX,reduceEq]
   · have k1:n.kind=1:=Decidable.of_not_not fun k1=>hb (by simp [k9,k1])
     have k9':=eq_false k9
     simp(maxSteps:=400000)only[↓av,ax,BEq.rfl,reduceIte,reduceCtorEq,Nat.reduceLT,reduceAdd,reduceSub,reduceMul,Nat.reduceBEq,reduceLeDiff,reduceToNat,reduceLE,hQ,hat,hmn,z0,zi,hgi,rP,k9',k1,hr,qH,gH,gM,rT,cK,dX,reduceEq]
  have hbb:(pn.kind==9)=(n.kind==1):=by
   rw [Bool.eq_iff_iff];simpa using hb
  rw [hbb] at hrb
  by_cases k2:n.kind=2
  · have k9:(pn.kind=9)=False:=by rw [hb,k2];simp
    have hk1:¬ n.kind=1:=by omega
    simp only [k2,BEq.rfl,bne_self_eq_false,Bool.true_or,Bool.false_or,Bool.true_and] at hrb
    cases hu:utf pn.name with
    | false=>
     have hr:mU n none ps=false:=by rw [← hrb,hu];simp
     simp(maxSteps:=400000)only[↓av,ax,BEq.rfl,reduceIte,reduceCtorEq,Nat.reduceLT,reduceAdd,reduceSub,reduceMul,Nat.reduceBEq,reduceLeDiff,reduceToNat,reduceLE,hQ,hat,hmn,z0,zi,hgi,rP,k9,k2,hu,↓gK,hr,qH,gH,gM,rT,cK,dX,reduceEq]
     repeat' (first | (omega) | intro _ | refine ⟨?_,?_⟩)
    | true=>
     rw [hu] at hrb
     rcases abY with ⟨rfl,hq0⟩ | ⟨rfl,hq0⟩
     · have kz:((0:Int)<(ps.length:Int)-((qs.length+1:Nat):Int))=False:=eq_false (by omega)
       have hst:=step (by simpa using hrb)
       simp(maxSteps:=400000)only[↓av,ax,BEq.rfl,reduceIte,reduceCtorEq,Nat.reduceLT,reduceAdd,reduceSub,reduceMul,Nat.reduceBEq,reduceLeDiff,reduceToNat,reduceLE,hQ,hat,hmn,z0,zi,hgi,rP,hlt1,k9,k2,hu,↓gK,kz,↓iF,hnx,toNat_natCast,qH,gH,gM,rT,cK,dX,reduceEq]
       repeat' (first | exact hst | (omega) | intro _ | refine ⟨?_,?_⟩)
     · have kz:((0:Int)<(ps.length:Int)-((qs.length+1:Nat):Int))=True:=eq_true (by omega)
       simp only [Bool.true_and] at hrb
       cases hbl:Op.bytesLess last pn.name with
       | true=>
        have hne:(pn.name=last)=False:=eq_false fun h=>by rw [h,d9] at hbl;cases hbl
        have Zn:=l7 _ _ hbl
        have hst:=step (by rw [← hrb,hbl];simp)
        simp(maxSteps:=400000)only[↓av,ax,BEq.rfl,reduceIte,reduceCtorEq,Nat.reduceLT,reduceAdd,reduceSub,reduceMul,Nat.reduceBEq,reduceLeDiff,reduceToNat,reduceLE,hQ,hat,hmn,z0,zi,hgi,rP,hlt1,k9,k2,hu,↓gK,kz,hne,Zn,↓iF,hnx,toNat_natCast,qH,gH,gM,rT,cK,dX,reduceEq]
        repeat' (first | exact hst | (omega) | intro _ | refine ⟨?_,?_⟩)
       | false=>
        have hr:mU n none ps=false:=by rw [← hrb,hbl];simp
        by_cases he:pn.name=last
        · have he':=eq_true he
          have Zn:Op.bytesLess pn.name last=false:=by rw [he,d9]
          simp(maxSteps:=400000)only[↓av,ax,BEq.rfl,reduceIte,reduceCtorEq,Nat.reduceLT,reduceAdd,reduceSub,reduceMul,Nat.reduceBEq,reduceLeDiff,reduceToNat,reduceLE,hQ,hat,hmn,z0,zi,hgi,rP,k9,k2,hu,↓gK,kz,he',Zn,hr,qH,gH,gM,rT,cK,dX,reduceEq]
          repeat' (first | (omega) | intro _ | refine ⟨?_,?_⟩)
        · have he':=eq_false he
          have Zn:Op.bytesLess pn.name last=true:=by
           rcases CF pn.name last with g | g | g
           · exact g
           · exact absurd g he
           · rw [g] at hbl;cases hbl
          simp(maxSteps:=400000)only[↓av,ax,BEq.rfl,reduceIte,reduceCtorEq,Nat.reduceLT,reduceAdd,reduceSub,reduceMul,Nat.reduceBEq,reduceLeDiff,reduceToNat,reduceLE,hQ,hat,hmn,z0,zi,hgi,rP,k9,k2,hu,↓gK,kz,he',Zn,hr,qH,gH,gM,rT,cK,dX,reduceEq]
          repeat' (first | (omega) | intro _ | refine ⟨?_,?_⟩)
  · have k2':=eq_false k2
    have k2b:(n.kind==2)=false:=by simpa using k2
    have k2n:(n.kind !=2)=true:=by simpa using k2
    simp only [BEq.rfl,k2b,k2n,Bool.true_and,Bool.false_or,Bool.true_or,Bool.and_true] at hrb
    by_cases hnm:pn.name=[]
    · have hnm':=eq_true hnm
      have hst:=step (by rw [← hrb,hnm];simp)
      by_cases k1:n.kind=1
      · have k9:(pn.kind=9)=True:=by rw [hb];exact eq_true k1
        have k1':=eq_true k1
        simp(maxSteps:=400000)only[↓av,ax,BEq.rfl,reduceIte,reduceCtorEq,Nat.reduceLT,reduceAdd,reduceSub,reduceMul,Nat.reduceBEq,reduceLeDiff,reduceToNat,reduceLE,hQ,hat,hmn,z0,zi,hgi,rP,hlt1,k9,k1,hnm',↓iF,hnx,toNat_natCast,qH,gH,gM,rT,cK,dX,reduceEq]
        repeat' (first | exact hst | (omega) | intro _ | refine ⟨?_,?_⟩)
      · have k1':=eq_false k1
        have k9:(pn.kind=9)=False:=by rw [hb];exact k1'
        simp(maxSteps:=400000)only[↓av,ax,BEq.rfl,reduceIte,reduceCtorEq,Nat.reduceLT,reduceAdd,reduceSub,reduceMul,Nat.reduceBEq,reduceLeDiff,reduceToNat,reduceLE,hQ,hat,hmn,z0,zi,hgi,rP,hlt1,k9,k1',k2',hnm',↓iF,hnx,toNat_natCast,qH,gH,gM,rT,cK,dX,reduceEq]
        repeat' (first | exact hst | (omega) | intro _ | refine ⟨?_,?_⟩)
    · have hnm':=eq_false hnm
      have hr:mU n none ps=false:=by rw [← hrb];simp [hnm]
      by_cases k1:n.kind=1
      · have k9:(pn.kind=9)=True:=by rw [hb];exact eq_true k1
        simp(maxSteps:=400000)only[↓av,ax,BEq.rfl,reduceIte,reduceCtorEq,Nat.reduceLT,reduceAdd,reduceSub,reduceMul,Nat.reduceBEq,reduceLeDiff,reduceToNat,reduceLE,hQ,hat,hmn,z0,zi,hgi,rP,k9,k1,hnm',hr,qH,gH,gM,rT,cK,dX,reduceEq]
      · have k1':=eq_false k1
        have k9:(pn.kind=9)=False:=by rw [hb];exact k1'
        simp(maxSteps:=400000)only[↓av,ax,BEq.rfl,reduceIte,reduceCtorEq,Nat.reduceLT,reduceAdd,reduceSub,reduceMul,Nat.reduceBEq,reduceLeDiff,reduceToNat,reduceLE,hQ,hat,hmn,z0,zi,hgi,rP,k9,k1',k2',hnm',hr,qH,gH,gM,rT,cK,dX,reduceEq]
def iG:dD:=fun args objs K=>match args with
 | [a0,.int .i64 i]=>fE ay a0 (HK.mk:HK fun t=>(0≤i)∧(i.toNat<t.length)∧(uX t)∧(Y.One t)∧K (.bool (Af t i.toNat)) objs 0)
 | _=>False
theorem MG:aB Tryz.prog 33 (iG):=by
 intro args objs K h
 unfold iG at h
 split at h
 · rename_i a0 i
   obtain ⟨t,rfl,h1,h2,h3,h4,hk⟩:=h
   exact ⟨_,_,_,.pure _ rfl ((by have:=MF t i.toNat _ h3 h4 (List.getElem?_eq_getElem h2);rwa [Int.toNat_of_nonneg h1] at this)),hk⟩
 · exact h.elim
theorem SX (nm:List UInt8) (o:Nat) (q:aC) (qs:List aC):lQ nm o (q::qs)=if Y.nameOf q=nm then some (o,q) else lQ nm (o+q.length) qs:=rfl
theorem Ep (t:aC) (hs:uX t) (ho:Y.One t):∀ (p:List Stp) (at':Nat),at'<t.length→p.length≤1000000→ai Tryz.prog 35 [ay t,.int .i64 at',gG p] [] (.int .i64 (jM t at' p)) []
 | [],at',hat,hp=>by
  refine qZ.bf (T:=aR Tryz.prog []) 0 hD (aj ah) aZ (by decide) fun Q hQ=>?_
  have hr:jM t at' []=at':=by simp [jM,jr]
  have c00:((0:Nat):Int)=0:=rfl
  (conv=>arg 4;cbv);simp(maxSteps:=400000)only[↓av,ax,BEq.rfl,reduceIte,reduceCtorEq,Nat.reduceLT,reduceAdd,reduceSub,reduceMul,Nat.reduceBEq,reduceLeDiff,reduceToNat,reduceLE,hQ,hr,c00]
 | s::p,at',hat,hp=>by
  have hok:aB Tryz.prog 35 (fun args objs K=>∃ i:Int,args=[ay t,.int .i64 i,gG p]∧0≤i∧i<t.length∧K (.int .i64 (jM t i.toNat p)) objs 0):=by
   rintro args objs K ⟨i,rfl,h1,h2,hk⟩
   have:=Ep t hs ho p i.toNat (by omega) (by simp only [List.length_cons] at hp;omega)
   rw [Int.toNat_of_nonneg h1] at this
   exact ⟨_,_,_,.pure _ rfl this,hk⟩
  refine qZ.bf (T:=aR Tryz.prog [(31,iF),(35,_)]) 0 hD (aj (af uW (af hok ah))) aZ (by decide) fun Q hQ=>?_
  have hl:=hs.len
  have hgt:=List.getElem?_eq_getElem hat
  generalize t[at']=n at hgt
  obtain ⟨ps,c,hm,hmL,hps,hsk,hfl,hone,hsub,hle⟩:=Y.rR ho hgt
  have hpl:=Y.bS _ _ _ hps
  have hpo:Y.partsOf n ps.flatten=ps:=by
   have:=Y.gQ ps hone
   rw [hpl] at this
   simp [Y.partsOf,this]
  have z0:(0≤(at':Int))=True:=eq_true (by omega)
  have hg0:(s::p)[0]?=some s:=rfl
  have hdr:(s::p).drop 1=p:=rfl
  have hpn:(((s::p).length:Int)=0)=False:=eq_false (by simp only [List.length_cons];omega)
  have hwl:1≤(s::p).length:=by simp
  generalize hsp:s::p=w at *
  by_cases hk:n.kind=2∧s.part=false
  rotate_left 1
  · have hr:jM t at' w=-1:=by
     simp only [jM,hsub,← hsp,jr];rw [if_neg hk]
    by_cases k2:n.kind=2
    · have hpt:s.part=true:=by
       cases h:s.part with
       | true=>rfl
       | false=>exact absurd ⟨k2,h⟩ hk
      (conv=>arg 4;cbv);simp(maxSteps:=400000)only[↓av,ax,BEq.rfl,reduceIte,reduceCtorEq,Nat.reduceLT,reduceAdd,reduceSub,reduceMul,Nat.reduceBEq,reduceLeDiff,reduceToNat,reduceLE,hQ,hpn,hgt,z0,k2,hg0,hpt,hr,reduceEq]
    · have k2':=eq_false k2
      (conv=>arg 4;cbv);simp(maxSteps:=400000)only[↓av,ax,BEq.rfl,reduceIte,reduceCtorEq,Nat.reduceLT,reduceAdd,reduceSub,reduceMul,Nat.reduceBEq,reduceLeDiff,reduceToNat,reduceLE,hQ,hpn,hgt,z0,k2',hr]
  obtain ⟨k2,hpt⟩:=hk
  have hr:jM t at' w=match lQ s.name 1 ps with | some (o,q)=>(match (jr p q).map (o+·) with | some j=>((at'+j:Nat):Int) | none=>-1) | none=>-1:=by
   simp only [jM,hsub,← hsp,jr]
   rw [if_pos ⟨k2,hpt⟩,hpo]
   cases lQ s.name 1 ps with
   | none=>rfl
   | some oq=>rfl
  (conv=>arg 4;cbv);simp(maxSteps:=400000)only[↓av,ax,BEq.rfl,reduceIte,reduceCtorEq,Nat.reduceLT,reduceAdd,reduceSub,reduceMul,Nat.reduceBEq,reduceLeDiff,reduceToNat,reduceLE,hQ,hpn,hgt,z0,k2,hg0,hpt,reduceEq]
  refine ⟨⟨by omega,by omega⟩,?_⟩
  refine aH (fun m S=>∃ (i:Nat) (rest:List aC),m=rest.length∧rest.length≤ps.length∧at'+1≤i∧Y.parts rest.length (t.drop i)=some rest∧i≤t.length∧lQ s.name (i-at') rest=lQ s.name 1 ps∧
   S=⟨dH 54 [(0,ay t),(1,.int .i64 at'),(2,gG w),(7,.int .i64 i),(8,.int .i64 ((ps.length:Int)-rest.length))],[]⟩) ps.length ⟨at'+1,ps,rfl,Nat.le_refl _,Nat.le_refl _,by rw [hpl];exact hps,by omega,by rw [show at'+1-at'=1 by omega],?_⟩ ?_
  · simp only [bV,keepR,reduceAdd,ng,Nat.reduceBEq,List.map_nil]
    simp
  rintro m S ⟨i,rest,rfl,hrl,hia,hrp,hit,hrb,rfl⟩
  have hmn:n.many=(ps.length:Int):=by omega
  have zi:(0≤(i:Int))=True:=eq_true (by omega)
  cases rest with
  | nil=>
   have hlt:((ps.length:Int)-((0:Nat):Int)<(ps.length:Int))=False:=eq_false (by omega)
   have hr':jM t at' w=-1:=by rw [hr,← hrb];rfl
   simp(maxSteps:=400000)only[↓av,ax,BEq.rfl,reduceIte,reduceCtorEq,Nat.reduceLT,reduceAdd,reduceSub,reduceMul,Nat.reduceBEq,reduceLeDiff,reduceToNat,reduceLE,hQ,hgt,hmn,z0,List.length_nil,hlt,hr']
  | cons q qs=>
   obtain ⟨pc,qs',h1,h2,h3⟩:=Y.eH (k:=qs.length) hrp
   simp only [List.cons.injEq] at h2
   obtain ⟨hp',rfl⟩:=h2
   have hpc:=Y.dY _ _ _ h1
   simp only [List.length_drop] at hpc
   have hil:i<t.length:=by omega
   have hgi:=List.getElem?_eq_getElem hil
   have hdi:=List.drop_eq_getElem_cons hil
   generalize t[i]=pn at hgi hdi
   obtain ⟨k,hk⟩:∃ k,pc=k+1:=⟨pc-1,by omega⟩
   have hname:Y.nameOf q=pn.name:=by rw [hp',hdi,hk];rfl
   have hnx:tK t i=(i+pc:Nat):=Hu (Y.qm _ _ _ _ h1 (by omega))
   have hsq:Y.oQ t i=q:=by unfold Y.oQ;rw [h1];exact hp'.symm
   have XD:q.length=pc:=by rw [hp',List.length_take,List.length_drop];omega
   simp only [List.length_cons] at hrl
   have h3':Y.parts qs.length (t.drop (i+pc))=some qs:=by rw [← List.drop_drop];exact h3
   have rP:((ps.length:Int)-((qs.length+1:Nat):Int)<(ps.length:Int))=True:=eq_true (by omega)
   have hlt1:(-9223372036854775808≤(ps.length:Int)-((qs.length+1:Nat):Int)+1∧(ps.length:Int)-((qs.length+1:Nat):Int)+1≤9223372036854775807)=True:=eq_true ⟨by omega,by omega⟩
   have e:(ps.length:Int)-((qs.length+1:Nat):Int)+1=(ps.length:Int)-qs.length:=by omega
   rw [SX,hname] at hrb
   by_cases hnm:pn.name=s.name
   · have hnm':=eq_true hnm
     rw [if_pos hnm] at hrb
     have hr':jM t at' w=jM t i p:=by
      rw [hr,← hrb]
      simp only [jM,hsq]
      cases jr p q with
      | none=>rfl
      | some j=>simp only [Option.map_some];omega
     simp(maxSteps:=400000)only[↓av,ax,BEq.rfl,reduceIte,reduceCtorEq,Nat.reduceLT,reduceAdd,reduceSub,reduceMul,Nat.reduceBEq,reduceLeDiff,reduceToNat,reduceLE,hQ,hgt,hmn,z0,zi,hgi,hg0,rP,hnm',hr',List.take_length,hdr,toNat_natCast]
     repeat' (first | (omega) | exact rfl | exact ⟨(i:Int),rfl,by omega,by omega,by rw [toNat_natCast]⟩ | intro _ | refine ⟨?_,?_⟩)
   · have hnm':=eq_false hnm
     rw [if_neg hnm] at hrb
     simp(maxSteps:=400000)only[↓av,ax,BEq.rfl,reduceIte,reduceCtorEq,Nat.reduceLT,reduceAdd,reduceSub,reduceMul,Nat.reduceBEq,reduceLeDiff,reduceToNat,reduceLE,hQ,hgt,hmn,z0,zi,hgi,hg0,rP,hlt1,hnm',↓iF,hnx,toNat_natCast]
     repeat' (first | (omega) | exact ⟨qs.length,by omega,i+pc,qs,rfl,by omega,by omega,h3',by omega,by rw [show i+pc-at'=i-at'+q.length by omega];exact hrb,by rw [e]⟩ | intro _ | refine ⟨?_,?_⟩)
def kK:dD:=fun args objs K=>match args with
 | [a0,.int .i64 i,a2]=>fE ay a0 (HK.mk:HK fun t=>fE gG a2 (HK.mk:HK fun p=>(0≤i)∧(i<t.length)∧(uX t)∧(Y.One t)∧(p.length≤1000000)∧K (.int .i64 (jM t i.toNat p)) objs 0))
 | _=>False
theorem MH:aB Tryz.prog 35 (kK):=by
 intro args objs K h
 unfold kK at h
 split at h
 · rename_i a0 i a2
   obtain ⟨t,rfl,p,rfl,h1,h2,h3,h4,h5,hk⟩:=h
   exact ⟨_,_,_,.pure _ rfl ((by have:=Ep t h3 h4 p i.toNat (by omega) h5;rwa [Int.toNat_of_nonneg h1] at this)),hk⟩
 · exact h.elim
def oJ (t:aC) (p:List Stp):PV:=.bZ [.int .i64 (match iY p t with | some i=>(i:Int) | none=>0),.bool (iY p t).isSome]
end Lp
namespace Lp
open Go Go.Proofs
open List (length_drop map_nil)
open Nat (reduceAdd reduceLeDiff reduceMul reduceSub)
open Int (reduceLE reduceToNat toNat_natCast)
theorem SY {x:dS}(h:bR bA x=true) (hk:x.kind=7∨x.kind=8):x.many=1:=by
 rcases hk with k | k <;> simp only [bR,k,Int.reduceEq,if_false,if_true,or_false,or_true,false_or,true_or,Bool.and_eq_true,beq_iff_eq] at h <;> exact h.1.1.1
theorem WN {t:aC}{i:Nat}{x:dS}(ho:Y.One t) (hx:t[i]?=some x) (hm:(x.kind=7∨x.kind=8)→x.many=1) :
  (x.kind=7∨x.kind=8→i+1<t.length∧(kQ t i=true↔0≤jM t (i+1) (eD x.s)∧∃ y,t[(jM t (i+1) (eD x.s)).toNat]?=some y∧y.kind=1))∧(¬ (x.kind=7∨x.kind=8)→kQ t i=true):=by
 obtain ⟨ps,c,h1,h2,h3,h4,h5,h6,h7,h8⟩:=Y.rR ho hx
 have hl:=(List.getElem?_eq_some_iff.1 hx).1
 have hd:=List.drop_eq_getElem_cons hl
 have he:kQ t i=Ap eD x ps:=by
  rw [List.getElem?_eq_getElem hl] at hx
  cases hx
  simp only [kQ,hd,h3]
 rw [he]
 constructor
 · intro hk
   rw [hm hk] at h3 h4
   obtain ⟨pc,qs,g1,g2,g3⟩:=Y.eH (k:=0) h3
   have hq:qs=[]:=by simpa [Y.parts] using g3.symm
   subst hq
   have hil:i+1<t.length:=by
    have:=Y.dY _ _ _ g1
    rw [length_drop] at this;omega
   have hsub:Y.oQ t (i+1)=(t.drop (i+1)).take pc:=by unfold Y.oQ;rw [g1]
   refine ⟨hil,?_⟩
   rw [← Zj ho hil,hsub]
   simp only [Ap,if_pos hk,g2]
 · intro hk
   simp only [Ap,if_neg hk]
theorem MI (t:aC) (hs:uX t):ai Tryz.prog 14 [ay t] [] (.bool (fo t)) []:=by
 have hl:=hs.len
 refine Ac.bf (T:=aR Tryz.prog [(31,iF),(32,gF),(33,iG),(34,fZ),(35,kK)]) 0 hD (aj (af uW (af Jo (af MG (af BG (af MH ah)))))) aZ (by decide) fun Q hQ=>?_
 rcases Nat.eq_zero_or_pos t.length with hv | hv
 · have hr:fo t=false:=by
    have:t=[]:=List.length_eq_zero_iff.1 hv
    rw [this];rfl
   have hv':((t.length:Int)=0)=True:=eq_true (by omega)
   (conv=>arg 4;cbv);simp(maxSteps:=400000)only[↓av,ax,BEq.rfl,reduceIte,reduceCtorEq,Nat.reduceLT,reduceAdd,reduceSub,reduceMul,Nat.reduceBEq,reduceLeDiff,reduceToNat,reduceLE,hQ,hr,hv']
 have hv':((t.length:Int)=0)=False:=eq_false (by omega)
 obtain ⟨n0,r0,hvr⟩:∃ n r,t=n::r:=by
  cases t with
  | nil=>simp at hv
  | cons n r=>exact ⟨n,r,rfl⟩
 have hg0:t[0]?=some n0:=by rw [hvr];rfl
 have hnm:Y.nameOf t=n0.name:=by rw [hvr];rfl
 have hkd:Y.kindOf t=n0.kind:=by rw [hvr];rfl
 have hne:t.isEmpty=false:=by rw [hvr];rfl
 by_cases hname:n0.name=[]
 rotate_left 1
 · have hr:fo t=false:=by simp [fo,hnm,hname]
   (conv=>arg 4;cbv);simp(maxSteps:=400000)only[↓av,ax,BEq.rfl,reduceIte,reduceCtorEq,Nat.reduceLT,reduceAdd,reduceSub,reduceMul,Nat.reduceBEq,reduceLeDiff,reduceToNat,reduceLE,hQ,hr,hv',hg0,hname]
 by_cases hk9:n0.kind=9
 · have hr:fo t=false:=by simp [fo,hkd,hk9]
   (conv=>arg 4;cbv);simp(maxSteps:=400000)only[↓av,ax,BEq.rfl,reduceIte,reduceCtorEq,Nat.reduceLT,reduceAdd,reduceSub,reduceMul,Nat.reduceBEq,reduceLeDiff,reduceToNat,reduceLE,hQ,hr,hv',hg0,hname,hk9]
 have aeg:=eq_false hk9
 have hz:Int.toNat 0=0:=rfl
 by_cases hnx:tK t 0=(t.length:Int)
 rotate_left 1
 · have hr:fo t=false:=by
    have:Y.iB t.length t 1≠some t.length:=fun h=>hnx (by rw [Hu (i:=0) (by simpa using h)];simp)
    simp [fo,this]
   have afb:=eq_false hnx
   (conv=>arg 4;cbv);simp(maxSteps:=400000)only[↓av,ax,BEq.rfl,reduceIte,reduceCtorEq,Nat.reduceLT,reduceAdd,reduceSub,reduceMul,Nat.reduceBEq,reduceLeDiff,reduceToNat,reduceLE,hQ,hr,hv',hg0,hname,aeg,hz,↓iF,afb]
   exact ⟨Nat.zero_le _,hl⟩
 have hn:Y.iB t.length t 1=some t.length:=by
  unfold tK at hnx
  rw [List.drop_zero] at hnx
  cases hx:Y.iB t.length t 1 with
  | none=>rw [hx] at hnx;simp only at hnx;omega
  | some c=>rw [hx] at hnx;simp only at hnx;congr 1;omega
 have ho:Y.One t:=Y.nY _ _ _ _ hn
 have hr:fo t=Y.fI (l9 bA eD) t:=by
  simp [fo,hnm,hkd,hname,hk9,hn,hne]
 (conv=>arg 4;cbv);simp(maxSteps:=400000)only[↓av,ax,BEq.rfl,reduceIte,reduceCtorEq,Nat.reduceLT,reduceAdd,reduceSub,reduceMul,Nat.reduceBEq,reduceLeDiff,reduceToNat,reduceLE,hQ,hv',hg0,hname,aeg,hz,↓iF,hnx]
 refine ⟨Nat.zero_le _,hl,?_⟩
 refine aH (fun m S=>∃ i:Nat,i+m=t.length∧Y.fI (l9 bA eD) (t.drop i)=Y.fI (l9 bA eD) t∧S=⟨dH 87 [(0,ay t),(3,.int .i64 i)],[]⟩) t.length ⟨0,by omega,rfl,?_⟩ ?_
 · simp only [bV,keepR,reduceAdd,ng,Nat.reduceBEq,map_nil]
   rfl
 rintro m S ⟨i,him,hgd,rfl⟩
 rcases Nat.lt_or_ge i t.length with h | h
 · have hg:=List.getElem?_eq_getElem h
   have htx:=hs.txt _ (List.getElem_mem h)
   generalize t[i]=n at hg htx
   have hd:=SL hg
   rw [hgd,← hr] at hd
   have zi:(0≤(i:Int))=True:=eq_true (by omega)
   have Nv:(0≤(i:Int)+1)=True:=eq_true (by omega)
   have LW:((i:Int)+1).toNat=i+1:=by omega
   have hlt:((i:Int)<(t.length:Int))=True:=eq_true (by omega)
   have next:fo t=Y.fI (l9 bA eD) (t.drop (i+1))→∃ m',m'<m∧∃ Fv:Nat,Fv+m'=t.length∧Y.fI (l9 bA eD) (t.drop Fv)=Y.fI (l9 bA eD) t∧(⟨dH 87 [(0,ay t),(3,.int .i64 ((i:Int)+1))],[]⟩:St)=⟨dH 87 [(0,ay t),(3,.int .i64 Fv)],[]⟩:=fun e=>
    ⟨m-1,by omega,i+1,by omega,by rw [← e,hr],rfl⟩
   cases hp:bR bA n
   · have hr2:fo t=false:=by rw [hd,hp];rfl
     simp(maxSteps:=400000)only[↓av,ax,BEq.rfl,reduceIte,reduceCtorEq,Nat.reduceLT,reduceAdd,reduceSub,reduceMul,Nat.reduceBEq,reduceLeDiff,reduceToNat,reduceLE,hQ,hg,↓gF,↓iG,hp,zi,hlt,hr2]
     exact ⟨htx.1,htx.2.2⟩
   cases hq:Af t i
   · have hr2:fo t=false:=by rw [hd,hp,hq];rfl
     simp(maxSteps:=400000)only[↓av,ax,BEq.rfl,reduceIte,reduceCtorEq,Nat.reduceLT,reduceAdd,reduceSub,reduceMul,Nat.reduceBEq,reduceLeDiff,reduceToNat,reduceLE,hQ,hg,↓gF,↓iG,toNat_natCast,hp,hq,zi,hlt,hr2]
     exact ⟨htx.1,htx.2.2,h,hs,ho⟩
   rw [hp,hq,Bool.true_and,Bool.true_and] at hd
   obtain ⟨l1,l2⟩:=WN ho hg (SY hp)
   by_cases hk:n.kind=7∨n.kind=8
   rotate_left 1
   · have k7:(n.kind=7)=False:=eq_false fun h=>hk (.inl h)
     have k8:(n.kind=8)=False:=eq_false fun h=>hk (.inr h)
     rw [l2 hk,Bool.true_and] at hd
     have hst:=next hd
     simp(maxSteps:=400000)only[↓av,ax,BEq.rfl,reduceIte,reduceCtorEq,Nat.reduceLT,reduceAdd,reduceSub,reduceMul,Nat.reduceBEq,reduceLeDiff,reduceToNat,reduceLE,hQ,hg,↓gF,↓iG,toNat_natCast,hp,hq,zi,hlt,k7,k8]
     repeat' (first | omega | exact htx.1 | exact htx.2.2 | exact hs | exact ho | exact hst | refine ⟨?_,?_⟩)
   obtain ⟨hil,YU⟩:=l1 hk
   have hpl:=Ko n.s
   have hlr:=PK (p:=eD n.s) ho hil
   by_cases h7:n.kind=7
   · have k7:=eq_true h7
     generalize hL:jM t (i+1) (eD n.s)=L at *
     by_cases hn0:L<0
     · have MJ:=eq_true hn0
       have hr2:fo t=false:=by
        rw [hd]
        have:kQ t i=false:=by
         cases hx:kQ t i with
         | false=>rfl
         | true=>exact absurd (YU.1 hx).1 (by omega)
        rw [this];rfl
       simp(maxSteps:=400000)only[↓av,ax,BEq.rfl,reduceIte,reduceCtorEq,Nat.reduceLT,reduceAdd,reduceSub,reduceMul,Nat.reduceBEq,reduceLeDiff,reduceToNat,reduceLE,hQ,hg,↓gF,↓iG,↓fZ,↓kK,gZ,toNat_natCast,LW,hp,hq,zi,hlt,k7,hL,MJ,hr2]
       repeat' (first | omega | exact htx.1 | exact htx.2.2 | exact hs | exact ho | refine ⟨?_,?_⟩)
     · have MJ:=eq_false hn0
       obtain ⟨j,rfl⟩:∃ j:Nat,L=j:=⟨L.toNat,by omega⟩
       rw [toNat_natCast] at YU
       have hjl:j<t.length:=by omega
       have hgj:=List.getElem?_eq_getElem hjl
       have zj:(0≤(j:Int))=True:=eq_true (by omega)
       generalize t[j]=y at hgj
       by_cases hk1:y.kind=1
       · have hla:kQ t i=true:=YU.2 ⟨by omega,y,hgj,hk1⟩
         rw [hla,Bool.true_and] at hd
         have hst:=next hd
         simp(maxSteps:=400000)only[↓av,ax,BEq.rfl,reduceIte,reduceCtorEq,Nat.reduceLT,reduceAdd,reduceSub,reduceMul,Nat.reduceBEq,reduceLeDiff,reduceToNat,reduceLE,hQ,hg,↓gF,↓iG,↓fZ,↓kK,gZ,toNat_natCast,LW,hp,hq,zi,hlt,k7,hL,MJ,zj,hgj,hk1]
         repeat' (first | omega | exact htx.1 | exact htx.2.2 | exact hs | exact ho | exact hst | refine ⟨?_,?_⟩)
       · have S9:=eq_false hk1
         have hr2:fo t=false:=by
          rw [hd]
          have:kQ t i=false:=by
           cases hx:kQ t i with
           | false=>rfl
           | true=>obtain ⟨_,z,hz1,hz2⟩:=YU.1 hx;rw [hgj] at hz1;cases hz1;exact absurd hz2 hk1
          rw [this];rfl
         simp(maxSteps:=400000)only[↓av,ax,BEq.rfl,reduceIte,reduceCtorEq,Nat.reduceLT,reduceAdd,reduceSub,reduceMul,Nat.reduceBEq,reduceLeDiff,reduceToNat,reduceLE,hQ,hg,↓gF,↓iG,↓fZ,↓kK,gZ,toNat_natCast,LW,hp,hq,zi,hlt,k7,hL,MJ,zj,hgj,S9,hr2]
         repeat' (first | omega | exact htx.1 | exact htx.2.2 | exact hs | exact ho | refine ⟨?_,?_⟩)
   · have k7:=eq_false h7
     have k8:=eq_true (hk.resolve_left h7)
     generalize hL:jM t (i+1) (eD n.s)=L at *
     by_cases hn0:L<0
     · have MJ:=eq_true hn0
       have hr2:fo t=false:=by
        rw [hd]
        have:kQ t i=false:=by
         cases hx:kQ t i with
         | false=>rfl
         | true=>exact absurd (YU.1 hx).1 (by omega)
        rw [this];rfl
       simp(maxSteps:=400000)only[↓av,ax,BEq.rfl,reduceIte,reduceCtorEq,Nat.reduceLT,reduceAdd,reduceSub,reduceMul,Nat.reduceBEq,reduceLeDiff,reduceToNat,reduceLE,hQ,hg,↓gF,↓iG,↓fZ,↓kK,gZ,toNat_natCast,LW,hp,hq,zi,hlt,k7,k8,hL,MJ,hr2]
       repeat' (first | omega | exact htx.1 | exact htx.2.2 | exact hs | exact ho | refine ⟨?_,?_⟩)
     · have MJ:=eq_false hn0
       obtain ⟨j,rfl⟩:∃ j:Nat,L=j:=⟨L.toNat,by omega⟩
       rw [toNat_natCast] at YU
       have hjl:j<t.length:=by omega
       have hgj:=List.getElem?_eq_getElem hjl
       have zj:(0≤(j:Int))=True:=eq_true (by omega)
       generalize t[j]=y at hgj
       by_cases hk1:y.kind=1
       · have hla:kQ t i=true:=YU.2 ⟨by omega,y,hgj,hk1⟩
         rw [hla,Bool.true_and] at hd
         have hst:=next hd
         simp(maxSteps:=400000)only[↓av,ax,BEq.rfl,reduceIte,reduceCtorEq,Nat.reduceLT,reduceAdd,reduceSub,reduceMul,Nat.reduceBEq,reduceLeDiff,reduceToNat,reduceLE,hQ,hg,↓gF,↓iG,↓fZ,↓kK,gZ,toNat_natCast,LW,hp,hq,zi,hlt,k7,k8,hL,MJ,zj,hgj,hk1]
         repeat' (first | omega | exact htx.1 | exact htx.2.2 | exact hs | exact ho | exact hst | refine ⟨?_,?_⟩)
       · have S9:=eq_false hk1
         have hr2:fo t=false:=by
          rw [hd]
          have:kQ t i=false:=by
           cases hx:kQ t i with
           | false=>rfl
           | true=>obtain ⟨_,z,hz1,hz2⟩:=YU.1 hx;rw [hgj] at hz1;cases hz1;exact absurd hz2 hk1
          rw [this];rfl
         simp(maxSteps:=400000)only[↓av,ax,BEq.rfl,reduceIte,reduceCtorEq,Nat.reduceLT,reduceAdd,reduceSub,reduceMul,Nat.reduceBEq,reduceLeDiff,reduceToNat,reduceLE,hQ,hg,↓gF,↓iG,↓fZ,↓kK,gZ,toNat_natCast,LW,hp,hq,zi,hlt,k7,k8,hL,MJ,zj,hgj,S9,hr2]
         repeat' (first | omega | exact htx.1 | exact htx.2.2 | exact hs | exact ho | refine ⟨?_,?_⟩)
 · have hlt:((i:Int)<(t.length:Int))=False:=eq_false (by omega)
   have hr2:fo t=true:=by rw [hr,← hgd,List.drop_eq_nil_of_le h];rfl
   simp(maxSteps:=400000)only[↓av,ax,BEq.rfl,reduceIte,reduceCtorEq,Nat.reduceLT,reduceAdd,reduceSub,reduceMul,Nat.reduceBEq,reduceLeDiff,reduceToNat,reduceLE,hQ,hlt,hr2]
def qz:dD:=fun args objs K=>match args with
 | [a0]=>fE ay a0 (HK.mk:HK fun t=>(uX t)∧K (.bool (fo t)) objs 0)
 | _=>False
theorem Jp:aB Tryz.prog 14 (qz):=by
 intro args objs K h
 unfold qz at h
 split at h
 · rename_i a0
   obtain ⟨t,rfl,h1,hk⟩:=h
   exact ⟨_,_,_,.pure _ rfl (MI t h1),hk⟩
 · exact h.elim
theorem abZ:(bX ⟨0,aN⟩).cells.length=7∧(∀ a,(bX a).cells.length=7)∧(∀ a,(bX a).cells.all PV.storable=true):=⟨rfl,fun _=>rfl,fun _=>rfl⟩
theorem MK (t:aC) (at':Nat) (n:dS) (hl:t.length≤1000000) (hat:t[at']?=some n) (hm:n.kind=1→0≤n.many∧at'+1+n.many.toNat≤t.length) (hb:-1000000000≤n.many∧n.many≤1000000000) :
  ai Tryz.prog 38 [ay t,.int .i64 at'] [] (bC (if n.kind=1 then ((t.drop (at'+1)).take n.many.toNat).map iJ else [])) []:=by
 have aaM:=(List.getElem?_eq_some_iff.1 hat).1
 have z0:(0≤(at':Int))=True:=eq_true (by omega)
 generalize hR:(if n.kind=1 then ((t.drop (at'+1)).take n.many.toNat).map iJ else [])=R
 refine Ad.bf (T:=aR Tryz.prog []) 1 hD (aj ah) aZ (by decide) fun Q hQ=>?_
 (conv=>arg 4;cbv);simp(maxSteps:=400000)only[↓av,ax,BEq.rfl,reduceIte,reduceCtorEq,Nat.reduceLT,reduceAdd,reduceSub,reduceMul,Nat.reduceBEq,reduceLeDiff,reduceToNat,reduceLE,hQ,atB,Zl,abZ]
 refine ⟨⟨by omega,by omega⟩,?_⟩
 by_cases hk:n.kind=1
 rotate_left 1
 · rw [if_neg hk] at hR
   subst hR
   have hk':=eq_false hk
   refine aH (fun m S=>∃ _u:Unit,S=⟨dH 44 [(0,ay t),(1,.int .i64 at'),(5,.bG 0 1),(6,.int .i64 ((at':Int)+1))],[⟨29,7,[],true,1⟩]⟩) 0 ⟨(),?_⟩ ?_
   · simp only [bV,keepR,reduceAdd,ng,Nat.reduceBEq,map_nil]
   rintro m S ⟨_,rfl⟩
   have e0:∀ ver,eZ 1 0 [⟨29,7,[],true,ver⟩] (.bG 0 ver)=bC []:=fun ver=>FE [] ver 29 []
   by_cases hgt:(at':Int)+1≤(at':Int)+n.many
   · have acV:=eq_true hgt
     simp(maxSteps:=400000)only[↓av,ax,BEq.rfl,reduceIte,reduceCtorEq,Nat.reduceLT,reduceAdd,reduceSub,reduceMul,Nat.reduceBEq,reduceLeDiff,reduceToNat,reduceLE,hQ,hat,z0,hk',acV,e0]
     repeat' (first | (omega) | exact rfl | intro _ | refine ⟨?_,?_⟩)
   · have acV:=eq_false hgt
     simp(maxSteps:=400000)only[↓av,ax,BEq.rfl,reduceIte,reduceCtorEq,Nat.reduceLT,reduceAdd,reduceSub,reduceMul,Nat.reduceBEq,reduceLeDiff,reduceToNat,reduceLE,hQ,hat,z0,hk',acV,e0]
     repeat' (first | (omega) | exact rfl | intro _ | refine ⟨?_,?_⟩)
 rw [if_pos hk] at hR
 subst hR
 obtain ⟨hm0,hm1⟩:=hm hk
 have hk':=eq_true hk
 refine aH (fun m S=>∃ (i ver:Nat),i+m=n.many.toNat∧S=⟨dH 44 [(0,ay t),(1,.int .i64 at'),(5,.bG 0 ver),(6,.int .i64 ((at':Int)+1+i))],[⟨29,7,(((t.drop (at'+1)).take i).map iJ).map bX,true,ver⟩]⟩) n.many.toNat ⟨0,1,by omega,?_⟩ ?_
 · simp only [bV,keepR,reduceAdd,ng,Nat.reduceBEq,map_nil]
   simp
 rintro m S ⟨i,ver,him,rfl⟩
 rcases Nat.lt_or_ge i n.many.toNat with h | h
 · have hlt:((at':Int)+1+(i:Int)≤(at':Int)+n.many)=True:=eq_true (by omega)
   have hil:at'+1+i<t.length:=by omega
   have ti:((at':Int)+1+(i:Int)).toNat=at'+1+i:=by omega
   have zi:(0≤(at':Int)+1+(i:Int))=True:=eq_true (by omega)
   have hgi:=List.getElem?_eq_getElem hil
   have hgd:(t.drop (at'+1))[i]?=some t[at'+1+i]:=by rw [List.getElem?_drop];exact hgi
   generalize t[at'+1+i]=x at hgi hgd
   have htk:((t.drop (at'+1)).take (i+1)).map iJ=((t.drop (at'+1)).take i).map iJ++[⟨x.n,x.c⟩]:=by
    rw [List.take_add_one,hgd];simp [iJ]
   have tl:((t.drop (at'+1)).take i).length=i:=by rw [List.length_take,length_drop];omega
   simp(maxSteps:=400000)only[↓av,ax,BEq.rfl,reduceIte,reduceCtorEq,Nat.reduceLT,reduceAdd,reduceSub,reduceMul,Nat.reduceBEq,reduceLeDiff,reduceToNat,reduceLE,hQ,hat,z0,hk',hlt,ti,zi,hgi,atB,Zl,abZ,tl]
   repeat' (first | (omega) | exact ⟨m-1,by omega,i+1,ver+1,by omega,by rw [htk,List.map_append,List.map_cons,map_nil,Int.natCast_add,Int.natCast_one,Int.add_assoc]⟩ | exact rfl | intro _ | refine ⟨?_,?_⟩)
 · have hi:i=n.many.toNat:=by omega
   subst hi
   have hlt:((at':Int)+1+(n.many.toNat:Int)≤(at':Int)+n.many)=False:=eq_false (by omega)
   simp(maxSteps:=400000)only[↓av,ax,BEq.rfl,reduceIte,reduceCtorEq,Nat.reduceLT,reduceAdd,reduceSub,reduceMul,Nat.reduceBEq,reduceLeDiff,reduceToNat,reduceLE,hQ,hat,z0,hk',hlt,FE]
   repeat' (first | (omega) | exact rfl | intro _ | refine ⟨?_,?_⟩)
def nW (t:aC) (i:Nat):List iA:=match t[i]? with
 | some n=>if n.kind=1 then ((t.drop (i+1)).take n.many.toNat).map iJ else []
 | none=>[]
theorem Jq (t:aC) (i:Int) (h0:0≤i) (hi:i.toNat<t.length) (hl:t.length≤1000000) (ho:Y.One t):ai Tryz.prog 38 [ay t,.int .i64 i] [] (bC (nW t i.toNat)) []:=by
 have hg:=List.getElem?_eq_getElem hi
 generalize t[i.toNat]=n at hg
 obtain ⟨ps,c,h1,h2,h3,h4,h5,h6,h7,h8⟩:=Y.rR ho hg
 have hpl:=Y.bS _ _ _ h3
 have hfl:ps.length≤ps.flatten.length:=by
  have:∀ qs:List aC,(∀ p ∈ qs,Y.One p)→qs.length≤qs.flatten.length:=by
   intro qs
   induction qs with
   | nil=>intro _;simp
   | cons q qs ih=>
    intro h
    have a:=ih fun p hp=>h p (List.mem_cons_of_mem _ hp)
    have b:=List.length_pos_iff.2 (h q (List.mem_cons_self ..)).ne
    simp only [List.length_cons,List.flatten_cons,List.length_append];omega
  exact this ps h6
 rw [h5,List.length_take,length_drop] at hfl
 have:=MK t i.toNat n hl hg (fun _=>⟨h1,by omega⟩) ⟨by omega,by omega⟩
 rw [Int.toNat_of_nonneg h0] at this
 simp only [nW,hg]
 exact this
def mV:dD:=fun args objs K=>match args with
 | [a0,.int .i64 i]=>fE ay a0 (HK.mk:HK fun t=>(0≤i)∧(i.toNat<t.length)∧(t.length≤1000000)∧(Y.One t)∧K (bC (nW t i.toNat)) objs 0)
 | _=>False
theorem EN:aB Tryz.prog 38 (mV):=by
 intro args objs K h
 unfold mV at h
 split at h
 · rename_i a0 i
   obtain ⟨t,rfl,h1,h2,h3,h4,hk⟩:=h
   exact ⟨_,_,_,.pure _ rfl (Jq t i h1 h2 h3 h4),hk⟩
 · exact h.elim
end Lp
namespace Lp
open Go Go.Proofs Go.RowKit
open Nat (reduceAdd reduceLeDiff reduceMul reduceSub)
open Int (reduceLE reduceToNat)
theorem Hw (s:List UInt8):ai Tryz.prog 132 [.str s,.str [48]] [] (.str (Lib.trimLeftB s 48)) []:=by
 refine ai.qX ⟨_,Tryz.UA.f161,by kernel_rfl,by kernel_rfl⟩ fun w vs ok hg hr=>?_
 obtain ⟨u,v,rfl,h,h'⟩:=OT hr
 cases kD h
 cases kD h'
 refine (Any.strings_TrimLeft_one Tryz.UA ⟨⟨s⟩⟩ 48 (by decide) w).mono ?_
 rintro e w' ⟨h1,rfl⟩
 exact ⟨_,h1,fun w ok=>.str _,.refl _ _⟩
theorem EO (s:List UInt8) (c:UInt8) (hc:c.toNat<128) (hs:s.length≤4611686018427387904):ai Tryz.prog 133 [.str s,.str [c]] [] (.str (Lib.trimRightB s c)) []:=by
 refine ai.qX ⟨_,Tryz.UB.f162,by kernel_rfl,by kernel_rfl⟩ fun w vs ok hg hr=>?_
 obtain ⟨u,v,rfl,h,h'⟩:=OT hr
 cases kD h
 cases kD h'
 refine (Any.strings_TrimRight_one Tryz.UB ⟨⟨s⟩⟩ c hc w (by rw [Lib.size_eq];simp;omega)).mono ?_
 rintro e w' ⟨h1,rfl⟩
 exact ⟨_,h1,fun w ok=>.str _,.refl _ _⟩
def kL:dD:=fun args objs K=>match args with
 | [.str s,a1]=>a1=(.str [48])∧K (.str (Lib.trimLeftB s 48)) objs 0
 | _=>False
theorem ML:aB Tryz.prog 132 (kL):=by
 intro args objs K h
 unfold kL at h
 split at h
 · rename_i s a1
   obtain ⟨rfl,hk⟩:=h
   exact ⟨_,_,_,.pure _ rfl (Hw s),hk⟩
 · exact h.elim
def jm (c:UInt8):dD:=fun args objs K=>match args with
 | [.str s,a1]=>a1=(.str [c])∧(c.toNat<128)∧(s.length≤4611686018427387904)∧K (.str (Lib.trimRightB s c)) objs 0
 | _=>False
theorem uY (c:UInt8):aB Tryz.prog 133 (jm c):=by
 intro args objs K h
 unfold jm at h
 split at h
 · rename_i s a1
   obtain ⟨rfl,h1,h2,hk⟩:=h
   exact ⟨_,_,_,.pure _ rfl (EO s c h1 h2),hk⟩
 · exact h.elim
theorem Zo:Builder.Extra Tryz.prog Tryz.Ei where
 sizeBuilder:=by kernel_rfl
 liesBuilder:=by kernel_rfl
 t5:=Tryz.xP.t5
 a5:=Tryz.xP.a5
 z5:=Tryz.xP.z5
 v5:=Tryz.xP.v5
 infoByte:=by kernel_rfl
 cellsByte:=by kernel_rfl
 sizeByte:=by kernel_rfl
 neB5:=by decide
theorem Er (c:UInt8):∀ n,Lib.repeatL [c] n=List.replicate n c
 | 0=>rfl
 | n+1=>by rw [Lib.repeatL,Er c n,List.replicate_succ];rfl
theorem PO (c:UInt8) (n:Int) (h:0≤n∧n≤1000000000):ai Tryz.prog 126 [.str [c],.int .i64 n] [] (.str (List.replicate n.toNat c)) []:=by
 obtain ⟨n,rfl⟩:∃ k:Nat,n=k:=⟨n.toNat,by omega⟩
 refine ai.qX ⟨_,Tryz.xP.f105,by kernel_rfl,by kernel_rfl⟩ fun w vs ok hg hr=>?_
 obtain ⟨u,v,rfl,h,h'⟩:=OT hr
 cases kD h
 cases OU h'
 refine (Any.strings_Repeat Tryz.xP Zo ⟨⟨[c]⟩⟩ n w (by omega) (by rw [Lib.size_eq];simp;omega)).mono ?_
 rintro e w' ⟨h1,h2⟩
 refine ⟨_,h1,fun w ok=>?_,h2⟩
 have e1:(⟨⟨[c]⟩⟩:ByteArray).data.toList=[c]:=rfl
 rw [e1,Er]
 exact .str _
def mW (c:UInt8):dD:=fun args objs K=>match args with
 | [a0,.int .i64 n]=>a0=(.str [c])∧(0≤n∧n≤1000000000)∧K (.str (List.replicate n.toNat c)) objs 0
 | _=>False
theorem Ai (c:UInt8):aB Tryz.prog 126 (mW c):=by
 intro args objs K h
 unfold mW at h
 split at h
 · rename_i a0 n
   obtain ⟨rfl,h1,hk⟩:=h
   exact ⟨_,_,_,.pure _ rfl (PO c n h1),hk⟩
 · exact h.elim
theorem aP.Hy {P:Program}{D:TypeId→aD}{T:Know}{f:FuncId}{n t u:Nat}{ty:TypeId}{C:LC}{args:List PV}{r:PV}(h:aP P f n [.cell t ty,.tmp u] C) (d:Nat) (hD:∀ t,iK P t (D t)) (hT:Fj P none rJ T) (hm:P.follows .mixedOrders=true) (ht:t<n) (hu:u<n)
  (hw:∀ Q:Exit→St→Prop,(∀ l ob,Q .ret ⟨dH n l,ob⟩=fw (D ty) (l6 l t) ob fun p _ _=>r=.bZ [gJ d 0 ob p,gJ d 0 ob (l6 l u)])→kS P D T C Q (bU args n)):ai P f args [] r []:=by
 refine h.pure d hD hT hm (by simp) (hw _ fun l ob=>?_)
 simp only [m_,jF,rM.2.1 n l t ht,rM.2.1 n l u hu,List.map_cons,List.map_nil,fC]
def dR (neg:Bool) (f:List UInt8) (e:Int):PV:=.bZ [aA (dM neg f e).1,.int .i64 (dM neg f e).2]
theorem nR (s:List UInt8) (c:UInt8):(Lib.trimRightB s c).length≤s.length:=by
 unfold Lib.trimRightB
 rw [List.length_reverse]
 exact Nat.le_trans (List.dropWhile_suffix _).length_le (by rw [List.length_reverse];exact Nat.le_refl _)
theorem S_ (s:List UInt8) (c:UInt8):(Lib.trimLeftB s c).length≤s.length:=(List.dropWhile_suffix _).length_le
theorem WO (neg:Bool) (f:List UInt8) (e:Int) (hf:f.length≤1000000) (he:-1000000000≤e∧e≤1000000000):ai Tryz.prog 123 [.bool neg,.str f,.int .i64 e] [] (dR neg f e) []:=by
 refine Rv.Hy (T:=aR Tryz.prog [(131,dA),(132,kL),(133,jm 48),(134,iW)]) 0 hD (aj (af vI (af ML (af (uY 48) (af zm ah))))) aZ (by decide) (by decide) fun Q hQ=>?_
 have c48:(48:UInt8).toNat<128:=by decide
 have hf':f.length≤4611686018427387904:=by omega
 have hlL:=S_ f 48
 generalize hs:Lib.trimLeftB f 48=s at *
 have hlR:=nR s 48
 generalize ht:Lib.trimRightB s 48=t at *
 cases h1:fU f
 · have hr:dR neg f e=.bZ [aA ⟨0,0,[],[],false,0⟩,.int .i64 4]:=by simp [dR,dM,h1,aN]
   (conv=>arg 4;cbv);simp(maxSteps:=400000)only[↓aX,aY,BEq.rfl,reduceIte,reduceCtorEq,Nat.reduceLT,reduceAdd,reduceSub,reduceMul,Nat.reduceBEq,reduceLeDiff,reduceToNat,reduceLE,hQ,↓dA,h1,hr,bN,bO]
   repeat' (first | omega | exact c48 | refine ⟨?_,?_⟩)
 by_cases h2:s=[]
 · have hr:dR neg f e=.bZ [aA ⟨3,0,[],[],false,0⟩,.int .i64 0]:=by simp [dR,dM,h1,hs,h2]
   have h2':(s=[])=True:=eq_true h2
   (conv=>arg 4;cbv);simp(maxSteps:=400000)only[↓aX,aY,BEq.rfl,reduceIte,reduceCtorEq,Nat.reduceLT,reduceAdd,reduceSub,reduceMul,Nat.reduceBEq,reduceLeDiff,reduceToNat,reduceLE,hQ,↓dA,↓kL,h1,hs,h2',hr,bN,bO]
   repeat' (first | omega | exact c48 | refine ⟨?_,?_⟩)
 have h2':(s=[])=False:=eq_false h2
 rcases tf (e < -100000000) with h3 | h3
 · have hr:dR neg f e=.bZ [aA ⟨0,0,[],[],false,0⟩,.int .i64 2]:=by simp [dR,dM,h1,hs,h2,of_eq_true h3,aN]
   (conv=>arg 4;cbv);simp(maxSteps:=400000)only[↓aX,aY,BEq.rfl,reduceIte,reduceCtorEq,Nat.reduceLT,reduceAdd,reduceSub,reduceMul,Nat.reduceBEq,reduceLeDiff,reduceToNat,reduceLE,hQ,↓dA,↓kL,h1,hs,h2',h3,hr,bN,bO]
   repeat' (first | omega | exact c48 | refine ⟨?_,?_⟩)
 rcases tf (100000000<e) with h4 | h4
 · have hr:dR neg f e=.bZ [aA ⟨0,0,[],[],false,0⟩,.int .i64 2]:=by simp [dR,dM,h1,hs,h2,of_eq_true h4,aN]
   (conv=>arg 4;cbv);simp(maxSteps:=400000)only[↓aX,aY,BEq.rfl,reduceIte,reduceCtorEq,Nat.reduceLT,reduceAdd,reduceSub,reduceMul,Nat.reduceBEq,reduceLeDiff,reduceToNat,reduceLE,hQ,↓dA,↓kL,h1,hs,h2',h3,h4,hr,bN,bO]
   repeat' (first | omega | exact c48 | refine ⟨?_,?_⟩)
 have h3':=of_eq_false h3
 have h4':=of_eq_false h4
 rcases tf (100<(t.length:Int)) with h5 | h5
 · have hr:dR neg f e=.bZ [aA ⟨0,0,[],[],false,0⟩,.int .i64 2]:=by
    have:100<t.length:=by have:=of_eq_true h5;omega
    simp [dR,dM,h1,hs,h2,h3',h4',ht,this,aN]
   (conv=>arg 4;cbv);simp(maxSteps:=400000)only[↓aX,aY,BEq.rfl,reduceIte,reduceCtorEq,Nat.reduceLT,reduceAdd,reduceSub,reduceMul,Nat.reduceBEq,reduceLeDiff,reduceToNat,reduceLE,hQ,↓dA,↓kL,↓jm,h1,hs,ht,h2',h3,h4,h5,hr,bN,bO]
   repeat' (first | omega | exact c48 | refine ⟨?_,?_⟩)
 have h5':¬ 100<t.length:=by have:=of_eq_false h5;omega
 have hpb:ND t.length (e+(s.length-t.length))=BN t.length (e+(s.length-t.length)):=rfl
 cases h6:BN t.length (e+(s.length-t.length))
 · have hr:dR neg f e=.bZ [aA ⟨0,0,[],[],false,0⟩,.int .i64 2]:=by
    simp [dR,dM,h1,hs,h2,h3',h4',ht,hpb,h6,aN]
   (conv=>arg 4;cbv);simp(maxSteps:=400000)only[↓aX,aY,BEq.rfl,reduceIte,reduceCtorEq,Nat.reduceLT,reduceAdd,reduceSub,reduceMul,Nat.reduceBEq,reduceLeDiff,reduceToNat,reduceLE,hQ,↓dA,↓kL,↓jm,↓iW,h1,hs,ht,h2',h3,h4,h5,h6,hr,bN,bO]
   repeat' (first | omega | exact c48 | refine ⟨?_,?_⟩)
 · have hr:dR neg f e=.bZ [aA ⟨3,0,[],t,neg,e+(s.length-t.length)⟩,.int .i64 0]:=by
    simp [dR,dM,h1,hs,h2,h3',h4',ht,hpb,h6,h5']
   (conv=>arg 4;cbv);simp(maxSteps:=400000)only[↓aX,aY,BEq.rfl,reduceIte,reduceCtorEq,Nat.reduceLT,reduceAdd,reduceSub,reduceMul,Nat.reduceBEq,reduceLeDiff,reduceToNat,reduceLE,hQ,↓dA,↓kL,↓jm,↓iW,h1,hs,ht,h2',h3,h4,h5,h6,hr,bN,bO]
   repeat' (first | omega | exact c48 | refine ⟨?_,?_⟩)
theorem WQ (neg:Bool) (f:List UInt8) (e:Int):(dM neg f e).1.s.length≤100:=by
 unfold dM
 split
 · simp [aN]
 split
 · simp
 split
 · simp [aN]
 split
 · simp [aN]
 · rename_i h
   have:=fun h'=>h (.inl h')
   simpa using this
def uZ:dD:=fun args objs K=>match args with
 | [.bool neg,.str f,.int .i64 e]=>(f.length≤1000000)∧(-1000000000≤e∧e≤1000000000)∧K (dR neg f e) objs 0
 | _=>False
theorem Ta:aB Tryz.prog 123 (uZ):=by
 intro args objs K h
 unfold uZ at h
 split at h
 · rename_i neg f e
   obtain ⟨h1,h2,hk⟩:=h
   exact ⟨_,_,_,.pure _ rfl (WO neg f e h1 h2),hk⟩
 · exact h.elim
end Lp
namespace Lp
open Go Go.Proofs Go.RowKit
theorem Kv (c:UInt8) (h:c.toNat<128):(Utf8.encode (c.toNat:Int)).data.toList=[c]:=by
 have hv:Utf8.valid (c.toNat:Int)=true:=by
  simp only [Utf8.valid,Bool.or_eq_true,Bool.and_eq_true,decide_eq_true_eq]
  exact .inl ⟨by omega,by omega⟩
 simp only [Utf8.encode,hv,if_true,Int.toNat_natCast,if_pos h]
 show [UInt8.ofNat c.toNat]=[c]
 simp
theorem Aj {s:List UInt8}{c:UInt8}(h:0<(Lib.trimRightB s c).length):∃ d,s[(Lib.trimRightB s c).length-1]?=some d∧d≠c:=by
 have aeh:(s.reverse.dropWhile (·==c))≠[]:=by
  intro hh;simp [Lib.trimRightB,hh] at h
 obtain ⟨d,r,hr⟩:=List.exists_cons_of_ne_nil aeh
 have hd:d≠c:=by
  have:=List.head_dropWhile_not (·==c) (l:=s.reverse) aeh
  simp only [hr,List.head_cons] at this
  simpa using this
 have hpre:Lib.trimRightB s c <+:s:=by
  unfold Lib.trimRightB
  have:=List.dropWhile_suffix (l:=s.reverse) (·==c)
  rwa [← List.reverse_prefix,List.reverse_reverse] at this
 have ht:Lib.trimRightB s c=r.reverse++[d]:=by simp [Lib.trimRightB,hr]
 rw [ht] at hpre ⊢
 obtain ⟨q,hq⟩:=hpre
 refine ⟨d,?_,hd⟩
 rw [← hq,List.getElem?_append_left (by simp)]
 simp
theorem wrap32 {c:UInt8}:IntKind.i32.wrap (c.toNat:Int)=(c.toNat:Int):=by
 have h:=c.toNat_lt
 have hm:(c.toNat:Int) % 4294967296=c.toNat:=by omega
 unfold IntKind.wrap
 simp [IntKind.bits,IntKind.signed,hm]
 omega
theorem aaU (s:List UInt8) (hf:fU s=true) (hs:s.length≤1000000):ai Tryz.prog 124 [.str s] [] (.str (NE s)) []:=by
 refine VS.bf (T:=aR Tryz.prog [(133,(jm 57)),(126,(mW 48))]) 0 hD (aj (af (uY 57) (af (Ai 48) ah))) aZ (by decide) fun Q hQ=>?_
 have hle:=nR s 57
 have c57:(57:UInt8).toNat<128:=by decide
 by_cases h0:(Lib.trimRightB s 57).length=0
 · have h0':(((Lib.trimRightB s 57).length:Int)=0)=True:=eq_true (by omega)
   have hr:NE s=49::List.replicate s.length 48:=by simp [NE,h0]
   (conv=>arg 4;cbv);simp(maxSteps:=400000)only[↓aX,aY,BEq.rfl,reduceIte,reduceCtorEq,Nat.reduceLT,Nat.reduceAdd,Nat.reduceSub,Nat.reduceMul,Nat.reduceBEq,Nat.reduceLeDiff,Int.reduceToNat,Int.reduceLE,hQ,↓jm,↓mW,h0',hr]
   have e:((s.length:Int)-((Lib.trimRightB s 57).length:Int)).toNat=s.length:=by omega
   rw [e]
   exact ⟨c57,by omega,by omega,by omega,by omega,rfl⟩
 · have h0':(((Lib.trimRightB s 57).length:Int)=0)=False:=eq_false (by omega)
   obtain ⟨d,hd,hne⟩:=Aj (s:=s) (c:=57) (by omega)
   have hdf:=qp hf hd
   have hr:NE s=s.take ((Lib.trimRightB s 57).length-1)++(d+1)::List.replicate (s.length-(Lib.trimRightB s 57).length) 48:=by simp [NE,h0,List.getD_eq_getElem?_getD,hd]
   generalize hn:(Lib.trimRightB s 57).length=n at *
   have e1:((n:Int)-1).toNat=n-1:=by omega
   have e2:((s.length:Int)-(n:Int)).toNat=s.length-n:=by omega
   have afA:d.toNat≤56:=by
    have:d.toNat≠57:=fun h=>hne (UInt8.toNat_inj.1 h)
    omega
   have e3:((d+1).toNat:Int)=(d.toNat:Int)+1:=by
    rw [UInt8.toNat_add]
    have:(1:UInt8).toNat=1:=rfl
    omega
   have e4:IntKind.i32.wrap ((d.toNat:Int)+1)=((d+1).toNat:Int):=by rw [← e3];exact wrap32
   have e5:=Kv (d+1) (by omega)
   (conv=>arg 4;cbv);simp(maxSteps:=400000)only[↓aX,aY,BEq.rfl,reduceIte,reduceCtorEq,Nat.reduceLT,Nat.reduceAdd,Nat.reduceSub,Nat.reduceMul,Nat.reduceBEq,Nat.reduceLeDiff,Int.reduceToNat,Int.reduceLE,hQ,↓jm,↓mW,hn,h0',hr,e1,e2,hd,j6,ny,e4,e5,List.drop_zero,List.length_take,List.append_assoc,List.cons_append,List.nil_append]
   repeat' (first | omega | exact c57 | exact trivial | refine ⟨?_,?_⟩)
def UL:dD:=fun args objs K=>match args with
 | [.str s]=>(fU s=true)∧(s.length≤1000000)∧K (.str (NE s)) objs 0
 | _=>False
theorem Zp:aB Tryz.prog 124 (UL):=by
 intro args objs K h
 unfold UL at h
 split at h
 · rename_i s
   obtain ⟨h1,h2,hk⟩:=h
   exact ⟨_,_,_,.pure _ rfl (aaU s h1 h2),hk⟩
 · exact h.elim
theorem WR (s:List UInt8) (hf:fU s=true) (h0:0<(Lib.trimRightB s 48).length) (hs:s.length≤1000000):ai Tryz.prog 125 [.str s] [] (.str (oh s)) []:=by
 refine Ov.bf (T:=aR Tryz.prog [(133,(jm 48)),(126,(mW 57))]) 0 hD (aj (af (uY 48) (af (Ai 57) ah))) aZ (by decide) fun Q hQ=>?_
 have hle:=nR s 48
 have c48:(48:UInt8).toNat<128:=by decide
 obtain ⟨d,hd,hne⟩:=Aj (s:=s) (c:=48) h0
 have hdf:=qp hf hd
 have hr:oh s=s.take ((Lib.trimRightB s 48).length-1)++(d-1)::List.replicate (s.length-(Lib.trimRightB s 48).length) 57:=by simp [oh,List.getD_eq_getElem?_getD,hd]
 generalize hn:(Lib.trimRightB s 48).length=n at *
 have e1:((n:Int)-1).toNat=n-1:=by omega
 have e2:((s.length:Int)-(n:Int)).toNat=s.length-n:=by omega
 have afB:49≤d.toNat:=by
  have:d.toNat≠48:=fun h=>hne (UInt8.toNat_inj.1 h)
  omega
 have e3:((d-1).toNat:Int)=(d.toNat:Int)-1:=by
  rw [UInt8.toNat_sub_of_le _ _ (by rw [UInt8.le_iff_toNat_le];have:(1:UInt8).toNat=1:=rfl;omega)]
  have:(1:UInt8).toNat=1:=rfl
  omega
 have e4:IntKind.i32.wrap ((d.toNat:Int)-1)=((d-1).toNat:Int):=by rw [← e3];exact wrap32
 have e5:=Kv (d-1) (by omega)
 (conv=>arg 4;cbv);simp(maxSteps:=400000)only[↓aX,aY,BEq.rfl,reduceIte,reduceCtorEq,Nat.reduceLT,Nat.reduceAdd,Nat.reduceSub,Nat.reduceMul,Nat.reduceBEq,Nat.reduceLeDiff,Int.reduceToNat,Int.reduceLE,hQ,↓jm,↓mW,hn,hr,e1,e2,hd,j6,ny,e4,e5,List.drop_zero,List.length_take,List.append_assoc,List.cons_append,List.nil_append]
 repeat' (first | omega | exact c48 | exact trivial | refine ⟨?_,?_⟩)
def Ca:dD:=fun args objs K=>match args with
 | [.str s]=>(fU s=true)∧(0<(Lib.trimRightB s 48).length)∧(s.length≤1000000)∧K (.str (oh s)) objs 0
 | _=>False
theorem Tc:aB Tryz.prog 125 (Ca):=by
 intro args objs K h
 unfold Ca at h
 split at h
 · rename_i s
   obtain ⟨h1,h2,h3,hk⟩:=h
   exact ⟨_,_,_,.pure _ rfl (WR s h1 h2 h3),hk⟩
 · exact h.elim
end Lp
namespace Lp
open Go Go.Proofs Go.RowKit
open List (length_append length_replicate)
open Nat (reduceAdd reduceLeDiff reduceMul reduceSub)
structure MN (n:Nd):Prop where
 len:n.s.length≤100
 fU:fU n.s=true
 lo:-1000≤n.e
 hi:n.e≤1000
 last:n.s≠[]→0<(Lib.trimRightB n.s 48).length
def dK (n:Nd) (above:Bool):PV:=.bZ [aA (dw n above).1,.bool (dw n above).2]
theorem Es (a b:List UInt8) (ha:fU a=true) (hb:fU b=true):fU (a++b)=true:=by
 unfold fU at *
 simp only [List.all_append,ha,hb,Bool.and_self]
theorem PS (n:Nat):fU (List.replicate n 48)=true:=by
 unfold fU
 rw [List.all_eq_true]
 intro x hx
 rw [(List.mem_replicate.1 hx).2]
 decide
theorem Kw (s:List UInt8) (n:Nat):Lib.trimRightB (s++List.replicate n 48) 48=Lib.trimRightB s 48:=by
 have:∀ (k:Nat) (l:List UInt8),List.dropWhile (·==(48:UInt8)) (List.replicate k 48++l)=List.dropWhile (·==(48:UInt8)) l:=by
  intro k l
  induction k with
  | zero=>rfl
  | succ k ih=>rw [List.replicate_succ,List.cons_append,List.dropWhile_cons];simp [ih]
 unfold Lib.trimRightB
 rw [List.reverse_append,List.reverse_replicate,this]
theorem aaV (s:List UInt8):(NE s).length≤s.length+1:=by
 unfold NE
 have:=nR s 57
 split
 · simp
 · simp only [length_append,List.length_take,List.length_cons,length_replicate];omega
theorem Ky (s:List UInt8):(oh s).length≤s.length+1:=by
 unfold oh
 have:=nR s 48
 simp only [length_append,List.length_take,List.length_cons,length_replicate];omega
theorem aaW (above:Bool):dR (!above) [49] (-1000)=.bZ [aA ⟨3,0,[],[49],!above,-1000⟩,.int .i64 0]:=by
 cases above <;> rfl
theorem PU (n:Nd) (above:Bool) (hn:MN n):ai Tryz.prog 114 [aA n,.bool above] [] (dK n above) []:=by
 refine IZ.Hy (T:=aR Tryz.prog [(123,uZ),(126,mW 48),(124,UL),(125,Ca)]) 0 hD (aj (af Ta (af (Ai 48) (af Zp (af Tc ah))))) aZ (by decide) (by decide) fun Q hQ=>?_
 by_cases hs:n.s=[]
 · have hr:dK n above=.bZ [aA ⟨3,0,[],[49],!above,-1000⟩,.bool true]:=by simp [dK,dw,hs]
   have b0:=aaW above
   (conv=>arg 4;cbv);simp(maxSteps:=400000)only[↓aX,aY,BEq.rfl,reduceIte,reduceCtorEq,Nat.reduceLT,reduceAdd,reduceSub,reduceMul,Nat.reduceBEq,reduceLeDiff,Int.reduceToNat,Int.reduceLE,hQ,↓uZ,b0,hs,hr,bN,bO,bg]
 have hs':(n.s=[])=False:=eq_false hs
 have l1:=hn.len
 have l2:=hn.lo
 have l3:=hn.hi
 have hE:∀ T:Int,jU n above=max (T-100) (-1000)→(if (-1000:Int) > T-100 then (-1000:Int) else T-100)=jU n above:=fun T h=>by rw [h];split <;> omega
 have l4:(0:Int)<n.s.length:=by
  cases h:n.s with
  | nil=>exact absurd h hs
  | cons x r=>simp
 have hEb:-1000≤jU n above∧jU n above≤1000∧jU n above≤n.e:=by
  unfold jU
  split <;> omega
 generalize Uo:jU n above=E at *
 have EP:l8 n E=n.s++List.replicate (n.e-E).toNat 48:=rfl
 have hpl:(l8 n E).length≤3000:=by rw [EP,length_append,length_replicate];omega
 have hpf:fU (l8 n E)=true:=Es _ _ hn.fU (PS _)
 have hpt:0<(Lib.trimRightB (l8 n E) 48).length:=by rw [EP,Kw];exact hn.last hs
 have hul:=aaV (l8 n E)
 have hdl:=Ky (l8 n E)
 have hpl':n.s.length+(n.e-E).toNat≤3000:=by have:=hpl;rw [EP,length_append,length_replicate] at this;exact this
 have hpp:(l8 n E).length=n.s.length+(n.e-E).toNat:=by rw [EP,length_append,length_replicate]
 by_cases hg:n.neg=above
 · have hg':(n.neg=above)=True:=eq_true hg
   have hr:dK n above=.bZ [aA (dM n.neg (oh (l8 n E)) E).1,.bool (decide ((dM n.neg (oh (l8 n E)) E).2=0))]:=by
    simp only [dK,dw,if_neg hs,if_pos hg,Uo]
   by_cases h49:n.s=[49]
   · have MO:(n.s=[49])=True:=eq_true h49
     have hEe:=hE (n.s.length+n.e-1) (by rw [← Uo];unfold jU;rw [if_pos ⟨hg,h49⟩])
     (conv=>arg 4;cbv);simp(maxSteps:=400000)only[↓aX,aY,BEq.rfl,reduceIte,reduceCtorEq,Nat.reduceLT,reduceAdd,reduceSub,reduceMul,Nat.reduceBEq,reduceLeDiff,Int.reduceToNat,Int.reduceLE,hQ,↓uZ,↓mW,↓Ca,hs',hg',MO,bN,bO,bg,hEe,← EP,hr,dR]
     repeat' (first | omega | exact hpf | exact hpt | exact (by decide) | refine ⟨?_,?_⟩)
   · have MO:(n.s=[49])=False:=eq_false h49
     have hEe:=hE (n.s.length+n.e) (by rw [← Uo];unfold jU;rw [if_neg fun h=>h49 h.2])
     (conv=>arg 4;cbv);simp(maxSteps:=400000)only[↓aX,aY,BEq.rfl,reduceIte,reduceCtorEq,Nat.reduceLT,reduceAdd,reduceSub,reduceMul,Nat.reduceBEq,reduceLeDiff,Int.reduceToNat,Int.reduceLE,hQ,↓uZ,↓mW,↓Ca,hs',hg',MO,bN,bO,bg,hEe,← EP,hr,dR]
     repeat' (first | omega | exact hpf | exact hpt | exact (by decide) | refine ⟨?_,?_⟩)
 · have hg':(n.neg=above)=False:=eq_false hg
   have hr:dK n above=.bZ [aA (dM n.neg (NE (l8 n E)) E).1,.bool (decide ((dM n.neg (NE (l8 n E)) E).2=0))]:=by
    simp only [dK,dw,if_neg hs,if_neg hg,Uo]
   have hEe:=hE (n.s.length+n.e) (by rw [← Uo];unfold jU;rw [if_neg fun h=>hg h.1])
   (conv=>arg 4;cbv);simp(maxSteps:=400000)only[↓aX,aY,BEq.rfl,reduceIte,reduceCtorEq,Nat.reduceLT,reduceAdd,reduceSub,reduceMul,Nat.reduceBEq,reduceLeDiff,Int.reduceToNat,Int.reduceLE,hQ,↓uZ,↓mW,↓UL,hs',hg',bN,bO,bg,hEe,← EP,hr,dR]
   repeat' (first | omega | exact hpf | exact hpt | exact (by decide) | refine ⟨?_,?_⟩)
def nS:dD:=fun args objs K=>match args with
 | [a0,.bool above]=>fE aA a0 (HK.mk:HK fun n=>(MN n)∧K (dK n above) objs 0)
 | _=>False
theorem MP:aB Tryz.prog 114 (nS):=by
 intro args objs K h
 unfold nS at h
 split at h
 · rename_i a0 above
   obtain ⟨n,rfl,h1,hk⟩:=h
   exact ⟨_,_,_,.pure _ rfl (PU n above h1),hk⟩
 · exact h.elim
end Lp
namespace Lp
open Go Go.Proofs Go.RowKit
open List (length_cons map_nil)
open Nat (reduceAdd reduceLeDiff reduceMul reduceSub)
open Int (reduceLE reduceToNat)
theorem Td (s:List UInt8):Lib.trimLeftB (48::s) 48=Lib.trimLeftB s 48:=rfl
theorem Te {c:UInt8}{s:List UInt8}(h:c≠48):Lib.trimLeftB (c::s) 48=c::s:=by
 unfold Lib.trimLeftB
 have:(c==(48:UInt8))=false:=by simpa using h
 simp [this]
theorem Tf (s:List UInt8):Lib.trimRightB (s++[48]) 48=Lib.trimRightB s 48:=by
 unfold Lib.trimRightB
 rw [List.reverse_append];rfl
theorem Tg {c:UInt8}{s:List UInt8}(h:c≠48):Lib.trimRightB (s++[c]) 48=s++[c]:=by
 unfold Lib.trimRightB
 have:(c==(48:UInt8))=false:=by simpa using h
 rw [List.reverse_append]
 simp [this]
theorem Ti {c:UInt8}{s:List UInt8}(h:c≠48):Lib.trimRightB (c::s) 48≠[]:=by
 unfold Lib.trimRightB
 have hc:(c==(48:UInt8))=false:=by simpa using h
 rw [List.reverse_cons,List.dropWhile_append]
 split
 · simp [hc]
 · simp
def vJ (t:List UInt8) (e:Int):Bool:=decide (100<t.length) || decide (e < -1000) || decide (1000<(t.length:Int)+e)
theorem Tj {neg:Bool}{f s t:List UInt8}{e e':Int}(h1:fU f=true) (h2:Lib.trimLeftB f 48=s) (h3:s≠[]) (h4:¬ (e < -100000000∨100000000<e)) (h5:Lib.trimRightB s 48=t) (h6:e'+t.length=e+s.length) :
  dM neg f e=if vJ t e' then (aN,2) else (⟨3,0,[],t,neg,e'⟩,0):=by
 have h4a:¬ e < -100000000:=fun h=>h4 (.inl h)
 have h4b:¬ 100000000<e:=fun h=>h4 (.inr h)
 have he:e+((s.length:Int)-(t.length:Int))=e':=by omega
 unfold dM
 rw [if_neg (by simp [h1]),h2,if_neg h3,if_neg h4,h5,he]
 by_cases hb:vJ t e'=true
 · rw [if_pos hb,if_pos]
   simp only [vJ,Bool.or_eq_true,decide_eq_true_eq] at hb
   rcases hb with (hb | hb) | hb
   · exact .inl hb
   · right;simp [ND];omega
   · right;simp [ND];omega
 · rw [if_neg hb,if_neg]
   simp only [vJ,Bool.or_eq_true,decide_eq_true_eq,not_or] at hb
   rintro (h | h)
   · exact hb.1.1 h
   · simp only [ND,Bool.and_eq_false_iff,decide_eq_false_iff_not] at h;omega
theorem MQ (neg:Bool) (f:List UInt8) (e:Int) (hf:f.length≤1000000) (he:-1000000000≤e∧e≤1000000000):ai Tryz.prog 112 [.bool neg,.str f,.int .i64 e] [] (dR neg f e) []:=by
 refine BX.Hy (T:=aR Tryz.prog [(108,pu)]) 0 hD (aj (af GL ah)) aZ (by decide) (by decide) fun Q hQ=>?_
 cases h1:fU f
 · have hr:dR neg f e=.bZ [aA ⟨0,0,[],[],false,0⟩,.int .i64 4]:=by simp [dR,dM,h1,aN]
   (conv=>arg 4;cbv);simp(maxSteps:=400000)only[↓aX,aY,BEq.rfl,reduceIte,reduceCtorEq,Nat.reduceLT,reduceAdd,reduceSub,reduceMul,Nat.reduceBEq,reduceLeDiff,reduceToNat,reduceLE,hQ,↓pu,h1,hr,bN,bO]
   repeat' (first | omega | exact rfl | refine ⟨?_,?_⟩)
 (conv=>arg 4;cbv);simp(maxSteps:=400000)only[↓aX,aY,BEq.rfl,reduceIte,reduceCtorEq,Nat.reduceLT,reduceAdd,reduceSub,reduceMul,Nat.reduceBEq,reduceLeDiff,reduceToNat,reduceLE,hQ,↓pu,h1,bN,bO]
 refine ⟨by omega,?_⟩
 refine aH (fun m S=>∃ s:List UInt8,s.length=m∧m≤f.length∧Lib.trimLeftB f 48=Lib.trimLeftB s 48∧S=⟨dH 64 [(0,.bool neg),(1,.str s),(2,.int .i64 e),(6,.bJ 0 1 0 0)],[⟨27,6,[aA ⟨0,0,[],[],false,0⟩],true,1⟩]⟩) f.length ⟨f,rfl,Nat.le_refl _,rfl,?_⟩ ?_
 · simp only [bV,keepR,reduceAdd,ng,Nat.reduceBEq,map_nil]
 rintro m S ⟨s,hsl,hmf,htl,rfl⟩
 cases s with
 | nil=>
  have z0:((0:Int)<(([]:List UInt8).length:Int))=False:=eq_false (by simp)
  have hr:dR neg f e=.bZ [aA ⟨3,0,[],[],false,0⟩,.int .i64 0]:=by
   have:Lib.trimLeftB f 48=[]:=by rw [htl];rfl
   simp [dR,dM,h1,this]
  have he0:(([]:List UInt8)=[])=True:=eq_true rfl
  simp(maxSteps:=400000)only[↓aX,aY,BEq.rfl,reduceIte,reduceCtorEq,Nat.reduceLT,reduceAdd,reduceSub,reduceMul,Nat.reduceBEq,reduceLeDiff,reduceToNat,reduceLE,hQ,z0,he0,hr,bN,bO,List.length_nil]
  repeat' (first | omega | exact rfl | refine ⟨?_,?_⟩)
 | cons c s=>
  simp only [length_cons] at hsl
  have zl:((0:Int)<((c::s).length:Int))=True:=eq_true (by simp only [length_cons];omega)
  have hg0:(c::s)[0]?=some c:=rfl
  have hdr:(c::s).drop 1=s:=rfl
  have b48:(c.toNat:Int)=48↔c=48:=l_ (k:=48) (by omega)
  by_cases hc:(c.toNat:Int)=48
  · have hcc:=b48.1 hc
    subst hcc
    rw [Td] at htl
    have hwl:((48:UInt8)::s).length=m:=by simp only [length_cons];omega
    generalize hw:(48:UInt8)::s=w at *
    simp(maxSteps:=400000)only[↓aX,aY,BEq.rfl,reduceIte,reduceCtorEq,Nat.reduceLT,reduceAdd,reduceSub,reduceMul,Nat.reduceBEq,reduceLeDiff,reduceToNat,reduceLE,hQ,zl,hg0,hc,List.take_length,hdr]
    repeat' (first | omega | exact ⟨m-1,by omega,s,by omega,by omega,htl,rfl⟩ | exact rfl | refine ⟨?_,?_⟩)
  have hc':=eq_false hc
  have hcn:c≠48:=fun h=>hc (b48.2 h)
  rw [Te hcn] at htl
  have hne:(c::s=[])=False:=eq_false (by simp)
  have hth:=Ti (s:=s) hcn
  have hwl:(c::s).length=m:=by simp only [length_cons];omega
  generalize hw:c::s=w at *
  have hwne:w≠[]:=fun h=>hne.mp h
  rcases tf (e < -100000000) with h3 | h3
  · have hr:dR neg f e=.bZ [aA ⟨0,0,[],[],false,0⟩,.int .i64 2]:=by simp [dR,dM,h1,htl,hwne,of_eq_true h3,aN]
    simp(maxSteps:=400000)only[↓aX,aY,BEq.rfl,reduceIte,reduceCtorEq,Nat.reduceLT,reduceAdd,reduceSub,reduceMul,Nat.reduceBEq,reduceLeDiff,reduceToNat,reduceLE,hQ,zl,hg0,hc',hne,h3,hr,bN,bO]
    repeat' (first | omega | exact rfl | refine ⟨?_,?_⟩)
  rcases tf (100000000<e) with h4 | h4
  · have hr:dR neg f e=.bZ [aA ⟨0,0,[],[],false,0⟩,.int .i64 2]:=by simp [dR,dM,h1,htl,hwne,of_eq_true h4,aN]
    simp(maxSteps:=400000)only[↓aX,aY,BEq.rfl,reduceIte,reduceCtorEq,Nat.reduceLT,reduceAdd,reduceSub,reduceMul,Nat.reduceBEq,reduceLeDiff,reduceToNat,reduceLE,hQ,zl,hg0,hc',hne,h3,h4,hr,bN,bO]
    repeat' (first | omega | exact rfl | refine ⟨?_,?_⟩)
  have h3':=of_eq_false h3
  have h4':=of_eq_false h4
  have hrg:¬ (e < -100000000∨100000000<e):=by omega
  simp(maxSteps:=400000)only[↓aX,aY,BEq.rfl,reduceIte,reduceCtorEq,Nat.reduceLT,reduceAdd,reduceSub,reduceMul,Nat.reduceBEq,reduceLeDiff,reduceToNat,reduceLE,hQ,zl,hg0,hc',hne,h3,h4]
  refine aH (fun m' S=>∃ (u:List UInt8) (e':Int),u.length=m'∧m'≤m∧Lib.trimRightB w 48=Lib.trimRightB u 48∧e'+u.length=e+w.length∧S=⟨dH 64 [(0,.bool neg),(1,.str u),(2,.int .i64 e'),(6,.bJ 0 1 0 0)],[⟨27,6,[aA ⟨0,0,[],[],false,0⟩],true,1⟩]⟩) m ⟨w,e,hwl,Nat.le_refl _,rfl,rfl,?_⟩ ?_
  · simp only [bV,keepR,reduceAdd,ng,Nat.reduceBEq,map_nil]
  rintro m' S ⟨u,e',hul,hum,htr,hee,rfl⟩
  have hun:u≠[]:=fun h=>by rw [htr,h] at hth;exact hth rfl
  have hup:0<u.length:=List.length_pos_iff.2 hun
  have hlt:u.length-1<u.length:=by omega
  have hgl:=List.getElem?_eq_getElem hlt
  have hsplit:u=u.take (u.length-1)++[u[u.length-1]]:=by
   conv=>lhs;rw [← List.take_append_drop (u.length-1) u]
   rw [List.drop_eq_getElem_cons hlt,List.drop_eq_nil_of_le (by omega)]
  generalize u[u.length-1]=d at hgl hsplit
  have tl:((u.length:Int)-1).toNat=u.length-1:=by omega
  have zl1:(0≤(u.length:Int)-1)=True:=eq_true (by omega)
  have ll1:((u.length:Int)-1<(u.length:Int))=True:=eq_true (by omega)
  have i1:(-9223372036854775808≤(u.length:Int)-1∧(u.length:Int)-1≤9223372036854775807)=True:=eq_true ⟨by omega,by omega⟩
  have d48:(d.toNat:Int)=48↔d=48:=l_ (k:=48) (by omega)
  by_cases hd:(d.toNat:Int)=48
  · have hdd:=d48.1 hd
    have afc:Lib.trimRightB w 48=Lib.trimRightB (u.take (u.length-1)) 48:=by
     have hs2:u=u.take (u.length-1)++[48]:=by rw [← hdd];exact hsplit
     rw [htr]
     conv=>lhs;rw [hs2]
     exact Tf _
    have afC:(u.take (u.length-1)).length=u.length-1:=by rw [List.length_take];omega
    simp(maxSteps:=400000)only[↓aX,aY,BEq.rfl,reduceIte,reduceCtorEq,Nat.reduceLT,reduceAdd,reduceSub,reduceMul,Nat.reduceBEq,reduceLeDiff,reduceToNat,reduceLE,hQ,tl,zl1,ll1,i1,hgl,hd]
    repeat' (first | omega | exact ⟨m'-1,by omega,u.take (u.length-1),e'+1,by omega,by omega,afc,by omega,rfl⟩ | exact rfl | refine ⟨?_,?_⟩)
  have hd':=eq_false hd
  have htu:Lib.trimRightB w 48=u:=by rw [htr,hsplit];exact Tg fun h=>hd (d48.2 h)
  have hmk:=Tj (neg:=neg) h1 htl hwne hrg htu hee
  rcases tf (100<(u.length:Int)) with g1 | g1
  · have hr:dR neg f e=.bZ [aA ⟨0,0,[],[],false,0⟩,.int .i64 2]:=by
     have:vJ u e'=true:=by have:=of_eq_true g1;simp [vJ];omega
     rw [dR,hmk,this];rfl
    simp(maxSteps:=400000)only[↓aX,aY,BEq.rfl,reduceIte,reduceCtorEq,Nat.reduceLT,reduceAdd,reduceSub,reduceMul,Nat.reduceBEq,reduceLeDiff,reduceToNat,reduceLE,hQ,tl,zl1,ll1,i1,hgl,hd',g1,hr,bN,bO]
    repeat' (first | omega | exact rfl | refine ⟨?_,?_⟩)
  rcases tf (e' < -1000) with g2 | g2
  · have hr:dR neg f e=.bZ [aA ⟨0,0,[],[],false,0⟩,.int .i64 2]:=by
     have:vJ u e'=true:=by have:=of_eq_true g2;simp [vJ];omega
     rw [dR,hmk,this];rfl
    simp(maxSteps:=400000)only[↓aX,aY,BEq.rfl,reduceIte,reduceCtorEq,Nat.reduceLT,reduceAdd,reduceSub,reduceMul,Nat.reduceBEq,reduceLeDiff,reduceToNat,reduceLE,hQ,tl,zl1,ll1,i1,hgl,hd',g1,g2,hr,bN,bO]
    repeat' (first | omega | exact rfl | refine ⟨?_,?_⟩)
  rcases tf (1000<(u.length:Int)+e') with g3 | g3
  · have hr:dR neg f e=.bZ [aA ⟨0,0,[],[],false,0⟩,.int .i64 2]:=by
     have:vJ u e'=true:=by have:=of_eq_true g3;simp [vJ];omega
     rw [dR,hmk,this];rfl
    simp(maxSteps:=400000)only[↓aX,aY,BEq.rfl,reduceIte,reduceCtorEq,Nat.reduceLT,reduceAdd,reduceSub,reduceMul,Nat.reduceBEq,reduceLeDiff,reduceToNat,reduceLE,hQ,tl,zl1,ll1,i1,hgl,hd',g1,g2,g3,hr,bN,bO]
    repeat' (first | omega | exact rfl | refine ⟨?_,?_⟩)
  · have hr:dR neg f e=.bZ [aA ⟨3,0,[],u,neg,e'⟩,.int .i64 0]:=by
     have:vJ u e'=false:=by
      have g1':=of_eq_false g1
      have g2':=of_eq_false g2
      have g3':=of_eq_false g3
      simp only [vJ,Bool.or_eq_false_iff,decide_eq_false_iff_not];omega
     rw [dR,hmk,this];rfl
    simp(maxSteps:=400000)only[↓aX,aY,BEq.rfl,reduceIte,reduceCtorEq,Nat.reduceLT,reduceAdd,reduceSub,reduceMul,Nat.reduceBEq,reduceLeDiff,reduceToNat,reduceLE,hQ,tl,zl1,ll1,i1,hgl,hd',g1,g2,g3,hr,bN,bO]
    repeat' (first | omega | exact rfl | refine ⟨?_,?_⟩)
def mX:dD:=fun args objs K=>match args with
 | [.bool neg,.str f,.int .i64 e]=>(f.length≤1000000)∧(-1000000000≤e∧e≤1000000000)∧K (dR neg f e) objs 0
 | _=>False
theorem PX:aB Tryz.prog 112 (mX):=by
 intro args objs K h
 unfold mX at h
 split at h
 · rename_i neg f e
   obtain ⟨h1,h2,hk⟩:=h
   exact ⟨_,_,_,.pure _ rfl (MQ neg f e h1 h2),hk⟩
 · exact h.elim
theorem PY (n:Nd) (e:Int) (h1:-2000≤e∧e≤n.e∧n.e≤2000) (h2:n.s.length≤100000):ai Tryz.prog 109 [aA n,.int .i64 e] [] (.str (l8 n e)) []:=by
 refine yM.bf (T:=aR Tryz.prog []) 0 hD (aj ah) aZ (by decide) fun Q hQ=>?_
 (conv=>arg 4;cbv);simp(maxSteps:=400000)only[↓aX,aY,BEq.rfl,reduceIte,reduceCtorEq,Nat.reduceLT,reduceAdd,reduceSub,reduceMul,Nat.reduceBEq,reduceLeDiff,reduceToNat,reduceLE,hQ]
 refine aH (fun m S=>∃ k:Nat,(k:Int)+m=n.e-e∧S=⟨dH 19 [(2,.bJ 0 1 0 0),(5,.str (n.s++List.replicate k 48)),(6,.int .i64 (e+k))],[⟨27,6,[aA n],true,1⟩]⟩) (n.e-e).toNat ⟨0,by omega,?_⟩ ?_
 · simp only [bV,keepR,reduceAdd,ng,Nat.reduceBEq,map_nil]
   simp
 rintro m S ⟨k,hkm,rfl⟩
 have hl:(n.s++List.replicate k 48).length=n.s.length+k:=by rw [List.length_append,List.length_replicate]
 rcases Nat.eq_zero_or_pos m with h0 | h0
 · have hlt:(e+(k:Int)<n.e)=False:=eq_false (by omega)
   have hr:l8 n e=n.s++List.replicate k 48:=by unfold l8;congr 2;omega
   simp(maxSteps:=400000)only[↓aX,aY,BEq.rfl,reduceIte,reduceCtorEq,Nat.reduceLT,reduceAdd,reduceSub,reduceMul,Nat.reduceBEq,reduceLeDiff,reduceToNat,reduceLE,hQ,hlt,hr]
 · have hlt:(e+(k:Int)<n.e)=True:=eq_true (by omega)
   have hs:n.s++List.replicate k 48++[48]=n.s++List.replicate (k+1) 48:=by rw [List.append_assoc,List.replicate_succ']
   simp(maxSteps:=400000)only[↓aX,aY,BEq.rfl,reduceIte,reduceCtorEq,Nat.reduceLT,reduceAdd,reduceSub,reduceMul,Nat.reduceBEq,reduceLeDiff,reduceToNat,reduceLE,hQ,hlt]
   repeat' (first | omega | exact ⟨m-1,by omega,k+1,by omega,by rw [hs,Int.natCast_add,Int.natCast_one,Int.add_assoc]⟩ | exact rfl | refine ⟨?_,?_⟩)
def kM:dD:=fun args objs K=>match args with
 | [a0,.int .i64 e]=>fE aA a0 (HK.mk:HK fun n=>(-2000≤e∧e≤n.e∧n.e≤2000)∧(n.s.length≤100000)∧K (.str (l8 n e)) objs 0)
 | _=>False
theorem MR:aB Tryz.prog 109 (kM):=by
 intro args objs K h
 unfold kM at h
 split at h
 · rename_i a0 e
   obtain ⟨n,rfl,h1,h2,hk⟩:=h
   exact ⟨_,_,_,.pure _ rfl (PY n e h1 h2),hk⟩
 · exact h.elim
end Lp
namespace Lp
open Go Go.Proofs Go.Sort Go.RowKit
open List (length_cons length_take)
def iOf:Value→Int
 | .int _ q=>q
 | _=>0
def kR (b:UInt8):Value:=.int .u8 (b.toNat:Int)
set_option maxRecDepth 1000000 in
set_option maxHeartbeats 4000000 in
theorem WS (s:List UInt8) (hlen:s.length≤1000000) (w:World) (cap:Nat) (W1:World) (g n:Nat) (d0:Array UInt8) (hn:d0.size=n+1) (h0:∃ j,j≤n∧d0[j]!≠57) (hn1:n≤1000000)
 (Kz:(convert 9 146 (.string (⟨#[48]⟩++⟨⟨s⟩⟩))).run Tryz.prog w=.ok (.slice (some ⟨g,0,none⟩) (n+1) cap) W1)
 (hH:Holds kR W1 g 0 d0)
 (hback:∀ dk:Array UInt8,dk.size=n+1→(convert 146 9 (.slice (some ⟨g,0,none⟩) (n+1) cap)).run Tryz.prog (putRow kR W1 g 0 dk)=.ok (.string ⟨dk⟩) (putRow kR W1 g 0 dk)) :
 Calls Tryz.prog 110 #[.string ⟨⟨s⟩⟩] w fun e w'=>∃ (k:Nat) (dk:Array UInt8),k≤n∧dk.size=n+1∧(∀ j,j≤k→dk[j]! =d0[j]!)∧(∀ j,k<j→j≤n→dk[j]! =48∧d0[j]! =57)∧d0[k]!≠57∧e=.returned (.string ⟨dk.setIfInBounds k (dk[k]!+1)⟩)∧w'=putRow kR W1 g 0 (dk.setIfInBounds k (dk[k]!+1)):=by
 go_enter Tryz.func110,Tryz.ntmps110
 go_wp2
 rw [← putRow_self kR W1 g 0 d0 hH]
 go_loopw [4] (fun i wr=>∃ (k:Nat) (dk:Array UInt8),k≤n∧i=.int .i64 k∧dk.size=n+1∧(∀ j,j≤k→dk[j]! =d0[j]!)∧(∀ j,k<j→j≤n→dk[j]! =48∧d0[j]! =57)∧wr=putRow kR W1 g 0 dk) (fun i _=>(iOf i).toNat)
 case atStart=>exact ⟨n,d0,Nat.le_refl _,by simp,hn,fun _ _=>rfl,fun j h1 h2=>by omega,rfl⟩
 case round=>
  obtain ⟨k,dk,hk,rfl,hdk,hr1,hr2,rfl⟩:=hrel
  have hc:=cell?_putRow kR W1 g 0 d0 dk hH (by omega) k (by omega)
  have hf:(putRow kR W1 g 0 dk).frozen? ⟨g,0+k,none⟩=false:=by rw [frozen?_putRow];exact (hH k (by omega)).2
  rw [Nat.zero_add] at hc hf
  have hs1:=putRow_set kR W1 g 0 dk k 48 (by omega)
  have hs2:=putRow_set kR W1 g 0 dk k (dk[k]!+1) (by omega)
  rw [Nat.zero_add] at hs1 hs2
  have hb2:=hback (dk.setIfInBounds k (dk[k]!+1)) (by simpa using hdk)
  obtain ⟨x,hx⟩:∃ x,dk[k]! =x:=⟨_,rfl⟩
  rw [hx] at hc hb2 hs2
  have eS:(x.toNat:Int)=57↔x=57:=⟨fun h=>UInt8.toNat_inj.1 (by have:(57:UInt8).toNat=57:=rfl;omega),fun h=>by rw [h];rfl⟩
  have hx1:((x+1).toNat:Int)=((x.toNat:Int)+1) % 256:=by
   have h1:(1:UInt8).toNat=1:=rfl
   have h2:=x.toNat_lt
   rw [UInt8.toNat_add];omega
  unfold kR at hc hs1 hs2 hb2
  rw [hx1] at hs2
  have hP:(((48:UInt8).toNat:Nat):Int)=48:=rfl
  rw [hP] at hs1
  generalize hwq:putRow (fun b:UInt8=>Value.int .u8 (b.toNat:Int)) W1 g 0 dk=wq at *
  have acW:putRow kR W1 g 0 dk=wq:=hwq
  rw [acW] at hf ⊢
  generalize hX:(x.toNat:Int)=X at *
  by_cases hS:X=57
  · subst hS
    have hxS:=eS.1 rfl
    have hk1:1≤k:=by
     rcases Nat.eq_zero_or_pos k with h | h
     · subst h
       obtain ⟨j,hj1,hj2⟩:=h0
       rcases Nat.eq_zero_or_pos j with h' | h'
       · subst h'
         exact absurd ((hr1 0 (Nat.le_refl _)).symm.trans (hx.trans hxS)) hj2
       · exact absurd (hr2 j h' hj1).2 hj2
     · exact h
    go_wp2
    refine ⟨⟨k-1,dk.setIfInBounds k 48,by omega,by congr 1;omega,by simpa using hdk,fun j hj=>?_,fun j h1 h2=>?_,rfl⟩,by simp [iOf];omega⟩
    · rw [getElem!_set_other dk k j 48 (by omega)];exact hr1 j (by omega)
    · by_cases hjk:j=k
      · subst hjk
        rw [getElem!_set_same dk j 48 (by omega),← hr1 j (Nat.le_refl _),hx]
        exact ⟨rfl,hxS⟩
      · rw [getElem!_set_other dk k j 48 hjk];exact hr2 j (by omega) h2
  · have hSb:(X==57)=false:=by simpa using hS
    go_wp2
    go_ret
    refine ⟨k,dk,hk,hdk,hr1,hr2,?_,by rw [hx];rfl,?_⟩
    · rw [← hr1 k (Nat.le_refl _),hx];intro h;exact hS (eS.2 h)
    · rw [hx];rfl
set_option maxRecDepth 1000000 in
set_option maxHeartbeats 4000000 in
theorem WT (s:List UInt8) (hlen:s.length≤1000000) (w:World) (cap:Nat) (W1:World) (g n:Nat) (d0:Array UInt8) (hn:d0.size=n+1) (h0:∃ j,j≤n∧d0[j]!≠48) (hn1:n≤1000000)
 (Kz:(convert 9 146 (.string ⟨⟨s⟩⟩)).run Tryz.prog w=.ok (.slice (some ⟨g,0,none⟩) (n+1) cap) W1)
 (hH:Holds kR W1 g 0 d0)
 (hback:∀ dk:Array UInt8,dk.size=n+1→(convert 146 9 (.slice (some ⟨g,0,none⟩) (n+1) cap)).run Tryz.prog (putRow kR W1 g 0 dk)=.ok (.string ⟨dk⟩) (putRow kR W1 g 0 dk)) :
 Calls Tryz.prog 111 #[.string ⟨⟨s⟩⟩] w fun e w'=>∃ (k:Nat) (dk:Array UInt8),k≤n∧dk.size=n+1∧(∀ j,j≤k→dk[j]! =d0[j]!)∧(∀ j,k<j→j≤n→dk[j]! =57∧d0[j]! =48)∧d0[k]!≠48∧e=.returned (.string ⟨dk.setIfInBounds k (dk[k]!-1)⟩)∧w'=putRow kR W1 g 0 (dk.setIfInBounds k (dk[k]!-1)):=by
 go_enter Tryz.func111,Tryz.ntmps111
 go_wp2
 rw [← putRow_self kR W1 g 0 d0 hH]
 go_loopw [4] (fun i wr=>∃ (k:Nat) (dk:Array UInt8),k≤n∧i=.int .i64 k∧dk.size=n+1∧(∀ j,j≤k→dk[j]! =d0[j]!)∧(∀ j,k<j→j≤n→dk[j]! =57∧d0[j]! =48)∧wr=putRow kR W1 g 0 dk) (fun i _=>(iOf i).toNat)
 case atStart=>exact ⟨n,d0,Nat.le_refl _,by simp,hn,fun _ _=>rfl,fun j h1 h2=>by omega,rfl⟩
 case round=>
  obtain ⟨k,dk,hk,rfl,hdk,hr1,hr2,rfl⟩:=hrel
  have hc:=cell?_putRow kR W1 g 0 d0 dk hH (by omega) k (by omega)
  have hf:(putRow kR W1 g 0 dk).frozen? ⟨g,0+k,none⟩=false:=by rw [frozen?_putRow];exact (hH k (by omega)).2
  rw [Nat.zero_add] at hc hf
  have hs1:=putRow_set kR W1 g 0 dk k 57 (by omega)
  have hs2:=putRow_set kR W1 g 0 dk k (dk[k]!-1) (by omega)
  rw [Nat.zero_add] at hs1 hs2
  have hb2:=hback (dk.setIfInBounds k (dk[k]!-1)) (by simpa using hdk)
  obtain ⟨x,hx⟩:∃ x,dk[k]! =x:=⟨_,rfl⟩
  rw [hx] at hc hb2 hs2
  have eS:(x.toNat:Int)=48↔x=48:=⟨fun h=>UInt8.toNat_inj.1 (by have:(48:UInt8).toNat=48:=rfl;omega),fun h=>by rw [h];rfl⟩
  have hx1:((x-1).toNat:Int)=((x.toNat:Int)-1) % 256:=by
   have h1:(1:UInt8).toNat=1:=rfl
   have h2:=x.toNat_lt
   rw [UInt8.toNat_sub];omega
  unfold kR at hc hs1 hs2 hb2
  rw [hx1] at hs2
  have hP:(((57:UInt8).toNat:Nat):Int)=57:=rfl
  rw [hP] at hs1
  generalize hwq:putRow (fun b:UInt8=>Value.int .u8 (b.toNat:Int)) W1 g 0 dk=wq at *
  have acW:putRow kR W1 g 0 dk=wq:=hwq
  rw [acW] at hf ⊢
  generalize hX:(x.toNat:Int)=X at *
  by_cases hS:X=48
  · subst hS
    have hxS:=eS.1 rfl
    have hk1:1≤k:=by
     rcases Nat.eq_zero_or_pos k with h | h
     · subst h
       obtain ⟨j,hj1,hj2⟩:=h0
       rcases Nat.eq_zero_or_pos j with h' | h'
       · subst h'
         exact absurd ((hr1 0 (Nat.le_refl _)).symm.trans (hx.trans hxS)) hj2
       · exact absurd (hr2 j h' hj1).2 hj2
     · exact h
    go_wp2
    refine ⟨⟨k-1,dk.setIfInBounds k 57,by omega,by congr 1;omega,by simpa using hdk,fun j hj=>?_,fun j h1 h2=>?_,rfl⟩,by simp [iOf];omega⟩
    · rw [getElem!_set_other dk k j 57 (by omega)];exact hr1 j (by omega)
    · by_cases hjk:j=k
      · subst hjk
        rw [getElem!_set_same dk j 57 (by omega),← hr1 j (Nat.le_refl _),hx]
        exact ⟨rfl,hxS⟩
      · rw [getElem!_set_other dk k j 57 hjk];exact hr2 j (by omega) h2
  · have hSb:(X==48)=false:=by simpa using hS
    go_wp2
    go_ret
    refine ⟨k,dk,hk,hdk,hr1,hr2,?_,by rw [hx];rfl,?_⟩
    · rw [← hr1 k (Nat.le_refl _),hx];intro h;exact hS (eS.2 h)
    · rw [hx];rfl
theorem below_putRow {B:Nat}{a w:World}(h:Below B a w){g:Nat}(hg:B≤g) (d:Array UInt8):Below B a (putRow kR w g 0 d):=
 h.trans ⟨rfl,rfl,rfl,by simp,fun k hk=>by simp only [putRow,mapBlock,Array.getElem?_modify];rw [if_neg (by omega)]⟩
theorem PZ (w:World) (l:List UInt8):∃ (cap:Nat) (W1:World),(convert 9 146 (.string ⟨⟨l⟩⟩)).run Tryz.prog w=.ok (.slice (some ⟨w.heap.size,0,none⟩) l.length cap) W1∧Holds kR W1 w.heap.size 0 ⟨l⟩∧Below w.heap.size w W1∧
  ∀ dk:Array UInt8,dk.size=l.length→(convert 146 9 (.slice (some ⟨w.heap.size,0,none⟩) l.length cap)).run Tryz.prog (putRow kR W1 w.heap.size 0 dk)=.ok (.string ⟨dk⟩) (putRow kR W1 w.heap.size 0 dk):=by
 have us:Tryz.prog.underlying 9=some .string:=by kernel_rfl
 have ub:Tryz.prog.underlying 146=some (.slice 5):=by kernel_rfl
 have u8:Tryz.prog.underlying 5=some (.int .u8):=by kernel_rfl
 have Kz:=run_bytes_of_string (P:=Tryz.prog) w 9 146 5 ⟨⟨l⟩⟩ us ub u8
 have hsz:(ByteArray.mk ⟨l⟩).size=l.length:=by simp [ByteArray.size]
 rw [hsz] at Kz
 generalize hcap:grownCap w l.length 0 5=cap at Kz
 generalize hC:bytesRow ⟨⟨l⟩⟩ cap=C at Kz
 have hCl:l.length≤C.size:=by rw [← hC];simp [bytesRow]
 have hH:Holds kR (w.drew.alloc (.cells C 5 (C.size,C.size+1))) w.heap.size 0 ⟨l⟩:=by
  intro j hj
  have hj':j<l.length:=hj
  have h1:=World.cell?_alloc_mark w.drew C 5 (C.size,C.size+1) (0+j)
  have h2:=World.frozen?_alloc_mark w.drew C 5 C.size (C.size+1) (0+j)
  have hh:w.drew.heap.size=w.heap.size:=rfl
  rw [hh] at h1 h2
  refine ⟨h1.trans ?_,h2.trans ?_⟩
  · rw [Nat.zero_add,← hC,bytesRow_at ⟨⟨l⟩⟩ cap j hj]
    simp [kR,hj']
  · have:decide (C.size≤0+j)=false:=decide_eq_false (by omega)
    rw [this];rfl
 refine ⟨cap,_,Kz,hH,(Below.refl _ _).drew.alloc (Nat.le_refl _) _,fun dk hdk=>?_⟩
 have aei:=holds_putRow kR _ w.heap.size 0 ⟨l⟩ dk hH hdk
 have:=run_convert_bytes_back (P:=Tryz.prog) (putRow kR (w.drew.alloc (.cells C 5 (C.size,C.size+1))) w.heap.size 0 dk) 146 9 5 ⟨w.heap.size,0,none⟩ cap dk.toList ub u8 us (fun j hj=>by
  have hj':j<dk.size:=by simpa using hj
  have:=(aei j hj').1
  rw [add_lit,this,kR]
  simp [hj'])
 have hl:dk.toList.length=l.length:=by simpa using hdk
 rw [hl] at this
 simpa using this
theorem P5 {b:List UInt8}{c:UInt8}{k:Nat}(hk:k<b.length) (h1:b[k]?≠some c) (h2:∀ j,k<j→j<b.length→b[j]?=some c):(Lib.trimRightB b c).length=k+1:=by
 have hb:b=b.take k++[b[k]]++List.replicate (b.length-(k+1)) c:=by
  apply List.ext_getElem?
  intro j
  rcases Nat.lt_trichotomy j k with h | h | h
  · rw [List.append_assoc,List.getElem?_append_left (by rw [length_take];omega),List.getElem?_take,if_pos h]
  · subst h
    rw [List.getElem?_append_left (by simp;omega),List.getElem?_append_right (by rw [length_take];omega),List.getElem?_eq_getElem hk]
    simp [Nat.min_eq_left (Nat.le_of_lt hk)] <;> omega
  · have hl:(b.take k++[b[k]]).length=k+1:=by simp;omega
    rw [List.getElem?_append_right (by omega),hl,List.getElem?_replicate]
    rcases Nat.lt_or_ge j b.length with g | g
    · rw [if_pos (by omega),h2 j h g]
    · rw [if_neg (by omega),List.getElem?_eq_none g]
 have hne:b[k]≠c:=fun e=>h1 (by rw [List.getElem?_eq_getElem hk,e])
 have EP:∀ (n:Nat) (l:List UInt8),List.dropWhile (·==c) (List.replicate n c++l)=List.dropWhile (·==c) l:=by
  intro n l
  induction n with
  | zero=>rfl
  | succ n ih=>rw [List.replicate_succ,List.cons_append,List.dropWhile_cons];simp [ih]
 unfold Lib.trimRightB
 rw [hb,List.reverse_append,List.reverse_replicate,EP,List.reverse_append]
 have:(b[k]==c)=false:=by simpa using hne
 simp only [List.reverse_cons,List.reverse_nil,List.nil_append,List.cons_append,List.dropWhile_cons,this,Bool.false_eq_true,if_false,List.length_append,List.length_reverse,length_cons,List.length_nil,length_take]
 omega
def Zq (b:List UInt8):List UInt8:=b.take ((Lib.trimRightB b 57).length-1)++(b.getD ((Lib.trimRightB b 57).length-1) 0+1)::List.replicate (b.length-(Lib.trimRightB b 57).length) 48
def q9 (s:List UInt8):List UInt8:=Zq (48::s)
theorem P6 {b:List UInt8}{dk:Array UInt8}{k:Nat}{x p:UInt8}(hdk:dk.size=b.length) (hk:k<b.length) (h1:∀ j,j≤k→dk[j]! =(⟨b⟩:Array UInt8)[j]!) (h2:∀ j,k<j→j<b.length→dk[j]! =p) :
  dk.setIfInBounds k x=(b.take k++x::List.replicate (b.length-(k+1)) p).toArray:=by
 apply Array.ext_getElem?
 intro j
 rw [Array.getElem?_setIfInBounds,hdk]
 have hg:∀ (i:Nat) (_:i<dk.size),dk[i]?=some dk[i]!:=fun i hi=>by rw [getElem!_pos dk i hi];exact Array.getElem?_eq_getElem hi
 have hR:(b.take k++x::List.replicate (b.length-(k+1)) p).toArray[j]?=(b.take k++x::List.replicate (b.length-(k+1)) p)[j]?:=List.getElem?_toArray
 rw [hR]
 rcases Nat.lt_trichotomy j k with h | h | h
 · rw [if_neg (by omega),hg j (by omega),h1 j (by omega),List.getElem?_append_left (by rw [length_take];omega),List.getElem?_take,if_pos h,getElem!_pos (⟨b⟩:Array UInt8) j (by simp;omega),List.getElem?_eq_getElem (by omega)]
   rfl
 · subst h
   rw [if_pos rfl,if_pos hk,List.getElem?_append_right (by rw [length_take];omega)]
   simp [Nat.min_eq_left (Nat.le_of_lt hk)]
 · rw [if_neg (by omega)]
   have hl:(b.take k).length=k:=by rw [length_take];omega
   rw [List.getElem?_append_right (by omega),hl,show j-k=(j-k-1)+1 by omega,List.getElem?_cons_succ,List.getElem?_replicate]
   rcases Nat.lt_or_ge j b.length with g | g
   · rw [if_pos (by omega),hg j (by omega),h2 j h g]
   · rw [if_neg (by omega),Array.getElem?_eq_none (by omega)]
theorem u6 {b:List UInt8}{j:Nat}(h:j<b.length):b[j]?=some ((⟨b⟩:Array UInt8)[j]!):=by
 rw [getElem!_pos (⟨b⟩:Array UInt8) j (by simpa using h),List.getElem?_eq_getElem h];rfl
theorem WU (s:List UInt8) (hs:s.length≤1000000):ai Tryz.prog 110 [.str s] [] (.str (q9 s)) []:=by
 refine ai.qX ⟨_,Tryz.func110,by kernel_rfl,by kernel_rfl⟩ fun w vs ok hg hr=>?_
 obtain ⟨u,rfl,h⟩:=acP hr
 cases kD h
 obtain ⟨cap,W1,h1,h2,h3,h4⟩:=PZ w (48::s)
 have hB:(⟨#[48]⟩++⟨⟨s⟩⟩:ByteArray)=⟨⟨48::s⟩⟩:=by
  apply ByteArray.ext
  rw [ByteArray.data_append]
  apply Array.ext'
  simp
 refine (WS s hs w cap W1 w.heap.size s.length ⟨48::s⟩ (by simp) ⟨0,Nat.zero_le _,by rw [show (⟨48::s⟩:Array UInt8)[0]! =48 from rfl];decide⟩ hs (by rw [hB];exact h1) h2 h4).mono ?_
 rintro e w' ⟨k,dk,k1,k2,k3,k4,k5,rfl,rfl⟩
 have kl:k<(48::s).length:=by simp only [length_cons];omega
 have ht:=P5 (b:=48::s) (c:=57) kl (by rw [u6 kl];exact fun e=>k5 (Option.some.inj e)) (fun j h1 h2=>by
  rw [u6 h2,(k4 j h1 (by simp only [length_cons] at h2;omega)).2])
 have hrow:=P6 (b:=48::s) (x:=dk[k]!+1) (p:=48) (by rw [k2];rfl) kl k3 (fun j h1 h2=>(k4 j h1 (by simp only [length_cons] at h2;omega)).1)
 have hres:(48::s).take k++(dk[k]!+1)::List.replicate ((48::s).length-(k+1)) 48=q9 s:=by
  rw [q9,Zq,ht,Nat.add_sub_cancel,List.getD_eq_getElem?_getD,u6 kl,k3 k (Nat.le_refl _)];rfl
 rw [hres] at hrow
 exact ⟨_,rfl,fun w ok=>by rw [hrow];exact .str _,below_putRow h3 (Nat.le_refl _) _⟩
theorem WV (s:List UInt8) (h0:0<(Lib.trimRightB s 48).length) (hs:s.length≤1000000):ai Tryz.prog 111 [.str s] [] (.str (oh s)) []:=by
 refine ai.qX ⟨_,Tryz.func111,by kernel_rfl,by kernel_rfl⟩ fun w vs ok hg hr=>?_
 obtain ⟨u,rfl,h⟩:=acP hr
 cases kD h
 obtain ⟨cap,W1,h1,h2,h3,h4⟩:=PZ w s
 obtain ⟨d,hd,hne⟩:=Aj h0
 have hdl:=(List.getElem?_eq_some_iff.1 hd).1
 obtain ⟨n,hn⟩:∃ n,s.length=n+1:=⟨s.length-1,by omega⟩
 rw [hn] at h1 h4
 refine (WT s hs w cap W1 w.heap.size n ⟨s⟩ hn ⟨(Lib.trimRightB s 48).length-1,by omega,by
  rw [u6 hdl] at hd;rw [Option.some.inj hd];exact hne⟩ (by omega) h1 h2 h4).mono ?_
 rintro e w' ⟨k,dk,k1,k2,k3,k4,k5,rfl,rfl⟩
 have kl:k<s.length:=by omega
 have ht:=P5 (b:=s) (c:=48) kl (by rw [u6 kl];exact fun e=>k5 (Option.some.inj e)) (fun j h1 h2=>by
  rw [u6 h2,(k4 j h1 (by omega)).2])
 have hrow:=P6 (b:=s) (x:=dk[k]!-1) (p:=57) (by rw [k2,hn]) kl k3 (fun j h1 h2=>(k4 j h1 (by omega)).1)
 have hres:s.take k++(dk[k]!-1)::List.replicate (s.length-(k+1)) 57=oh s:=by
  rw [oh,ht,Nat.add_sub_cancel,List.getD_eq_getElem?_getD,u6 kl,k3 k (Nat.le_refl _)];rfl
 rw [hres] at hrow
 exact ⟨_,rfl,fun w ok=>by rw [hrow];exact .str _,below_putRow h3 (Nat.le_refl _) _⟩
def Cb:dD:=fun args objs K=>match args with
 | [.str s]=>(s.length≤1000000)∧K (.str (q9 s)) objs 0
 | _=>False
theorem Tk:aB Tryz.prog 110 (Cb):=by
 intro args objs K h
 unfold Cb at h
 split at h
 · rename_i s
   obtain ⟨h1,hk⟩:=h
   exact ⟨_,_,_,.pure _ rfl (WU s h1),hk⟩
 · exact h.elim
def u7:dD:=fun args objs K=>match args with
 | [.str s]=>(0<(Lib.trimRightB s 48).length)∧(s.length≤1000000)∧K (.str (oh s)) objs 0
 | _=>False
theorem Tm:aB Tryz.prog 111 (u7):=by
 intro args objs K h
 unfold u7 at h
 split at h
 · rename_i s
   obtain ⟨h1,h2,hk⟩:=h
   exact ⟨_,_,_,.pure _ rfl (WV s h1 h2),hk⟩
 · exact h.elim
theorem WW (s:List UInt8):(q9 s).length≤s.length+2:=by
 unfold q9 Zq
 have:=nR (48::s) 57
 simp only [List.length_append,length_take,length_cons,List.length_replicate] at *;omega
theorem Tn (neg:Bool) (x:List UInt8) (e:Int):dM neg (48::x) e=dM neg x e:=by
 have h1:fU (48::x)=fU x:=by simp [fU]
 have h2:Lib.trimLeftB (48::x) 48=Lib.trimLeftB x 48:=rfl
 unfold dM
 rw [h1,h2]
theorem Tp (neg:Bool) (s:List UInt8) (e:Int):dM neg (q9 s) e=dM neg (NE s) e:=by
 have hrev:Lib.trimRightB (48::s) 57=if Lib.trimRightB s 57=[] then [48] else 48::Lib.trimRightB s 57:=by
  unfold Lib.trimRightB
  rw [List.reverse_cons]
  cases h:s.reverse.dropWhile (·==(57:UInt8)) with
  | nil=>
   have:(s.reverse++[48]).dropWhile (·==(57:UInt8))=[48]:=by
    rw [List.dropWhile_append,h];rfl
   rw [this];rfl
  | cons a t=>
   have:(s.reverse++[48]).dropWhile (·==(57:UInt8))=(a::t)++[48]:=by
    rw [List.dropWhile_append,h];rfl
   rw [this]
   simp
 by_cases h:Lib.trimRightB s 57=[]
 · rw [if_pos h] at hrev
   have:q9 s=NE s:=by
    rw [q9,Zq,hrev,NE,h];rfl
   rw [this]
 · rw [if_neg h] at hrev
   have hl:0<(Lib.trimRightB s 57).length:=List.length_pos_iff.2 h
   have:q9 s=48::NE s:=by
    rw [q9,Zq,hrev,NE,if_neg (by omega)]
    obtain ⟨n,hn⟩:∃ n,(Lib.trimRightB s 57).length=n+1:=⟨_,(Nat.succ_pred_eq_of_pos hl).symm⟩
    simp [hn]
   rw [this,Tn]
end Lp
namespace Lp
open Go Go.Proofs Go.RowKit
open List (append_assoc append_nil cons_append length_append length_cons length_map length_nil map_nil nil_append take_length)
open Nat (le_succ lt_irrefl lt_or_ge reduceAdd reduceLeDiff reduceMul reduceSub)
open Int (reduceLE reduceToNat)
theorem afd:vG bC:=by intro d n o x;cases d <;> rfl
theorem aej (l:List iA):eZ 1 0 [⟨56,1,[bC l],true,1⟩] (.bJ 0 1 0 0)=.addr (bC l):=by
 simp only [eZ,Nat.not_lt_zero,if_false,iU,List.getElem?_cons_zero,Nat.zero_le,decide_true,Bool.and_self,BEq.rfl,if_true]
 rw [afd]
theorem EQ (l:List iA):ai Tryz.prog 102 [bC l] [] (.fn 113 [] [.addr (bC l)]) []:=by
 refine Bd.bf (T:=aR Tryz.prog []) 0 hD (aj ah) aZ (by decide) fun Q hQ=>?_
 (conv=>arg 4;cbv);simp(maxSteps:=400000)only[↓aX,aY,BEq.rfl,reduceIte,reduceCtorEq,Nat.reduceLT,reduceAdd,reduceSub,reduceMul,Nat.reduceBEq,reduceLeDiff,reduceToNat,reduceLE,hQ]
 refine aO _ (Weak.freeze 1 0 (Nat.zero_le _) _) ?_
 simp(maxSteps:=400000)only[↓aX,aY,BEq.rfl,reduceIte,reduceCtorEq,Nat.reduceLT,reduceAdd,reduceSub,reduceMul,Nat.reduceBEq,reduceLeDiff,reduceToNat,reduceLE,hQ,aej]
theorem acX (O:List Obj) :
  (∀ x X,(O++x::X)[O.length]?=some x)∧(∀ x y X,(O++x::y::X)[O.length+1]?=some y)∧(∀ x y z X,(O++x::y::z::X)[O.length+2]?=some z)∧
  (∀ x z X,(O++x::X).set O.length z=O++z::X)∧(∀ x y z X,(O++x::y::X).set (O.length+1) z=O++x::z::X)∧(∀ x y z u X,(O++x::y::z::X).set (O.length+2) u=O++x::y::u::X):=by
 refine ⟨fun x X=>?_,fun x y X=>?_,fun x y z X=>?_,fun x z X=>?_,fun x y z X=>?_,fun x y z u X=>?_⟩
 · rw [List.getElem?_append_right (Nat.le_refl _)];simp
 · rw [List.getElem?_append_right (by omega)];simp
 · rw [List.getElem?_append_right (by omega)];simp
 · rw [List.set_append_right _ _ (Nat.le_refl _)];simp
 · rw [List.set_append_right _ _ (by omega)];simp
 · rw [List.set_append_right _ _ (by omega)];simp
theorem UM:PV.vO (.agg ⟨[.int .i64 0,.int .i64 0,.int .i64 0,.string ⟨⟨[]⟩⟩,.string ⟨⟨[]⟩⟩,.bool false,.int .i64 0]⟩)=bX ⟨0,⟨0,0,[],[],false,0⟩⟩:=rfl
def tL (xs:List Nd) (ver:Nat):Obj:=⟨27,6,xs.map aA,true,ver⟩
def Cc (a:iA):List Nd:=if a.c.kind=3 then a.c::((if (dw a.c true).2 then [(dw a.c true).1] else [])++if (dw a.c false).2 then [(dw a.c false).1] else []) else []
def Ce (a:iA):List Nd:=if a.c.kind=4 then [a.c,⟨4,0,[],a.c.s++[0],false,0⟩] else []
theorem u_:∀ l,jV l=(l.map Cc).flatten
 | []=>rfl
 | a::l=>by simp only [jV,List.map_cons,List.flatten_cons,u_ l];rfl
theorem ve:∀ l,lN l=(l.map Ce).flatten
 | []=>rfl
 | a::l=>by simp only [lN,List.map_cons,List.flatten_cons,ve l];rfl
theorem Hz {l:List iA}{i:Nat}{a:iA}(h:l[i]?=some a):jV (l.take (i+1))=jV (l.take i)++Cc a:=by
 rw [u_,u_,List.take_add_one,h];simp
theorem HV {l:List iA}{i:Nat}{a:iA}(h:l[i]?=some a):lN (l.take (i+1))=lN (l.take i)++Ce a:=by
 rw [ve,ve,List.take_add_one,h];simp
theorem tN:∀ l:List iA,(jV l).length≤3*l.length
 | []=>by simp [jV]
 | a::l=>by
  have:=tN l
  simp only [jV,length_append,length_cons]
  split
  · simp only [length_cons,length_append]
    split <;> split <;> simp only [length_cons,length_nil] <;> omega
  · simp only [length_nil];omega
theorem yc:∀ l:List iA,(lN l).length≤2*l.length
 | []=>by simp [lN]
 | a::l=>by
  have:=yc l
  simp only [lN,length_append,length_cons]
  split
  · simp only [length_cons,length_nil];omega
  · simp only [length_nil];omega
def Cf:List Nd:=[⟨0,0,[],[],false,0⟩,⟨1,0,[],[],false,0⟩,⟨2,0,[],[],false,0⟩,⟨3,0,[],[],false,0⟩]
def FH (a:iA) (b:Bool):List Nd:=if (dw a.c b).2 then [(dw a.c b).1] else []
theorem DF {a:iA}(h:a.c.kind=3):Cc a=[a.c]++FH a true++FH a false:=by
 rw [Cc,if_pos h];simp [FH]
theorem vK (xs:List Nd) (n:Nd):List.map aA xs++[aA n]=List.map aA (xs++[n]):=by simp
theorem ab0 (xs:List Nd) (n m:Nd):List.map aA xs++[aA n,aA m]=List.map aA (xs++[n,m]):=by simp
theorem ER (n:Nd):Nd.mk n.kind n.many n.name n.s n.neg n.e=n:=rfl
theorem P7 (xs:List Nd) (ver:Nat):Obj.mk 27 6 (List.map aA xs) true ver=tL xs ver:=rfl
theorem MS:(∀ xs v,(tL xs v).live=true)∧(∀ xs v,(tL xs v).ver=v)∧(∀ xs v,(tL xs v).sz=6)∧(∀ xs v,(tL xs v).ty=27)∧(∀ xs v,(tL xs v).xs=List.map aA xs):=
 ⟨fun _ _=>rfl,fun _ _=>rfl,fun _ _=>rfl,fun _ _=>rfl,fun _ _=>rfl⟩
theorem aaX {O:List Obj}(h:jQ O) (xs:List Nd) (ver:Nat):jQ (O++[tL xs ver]):=by
 intro o ho x hx c hc
 rw [length_append]
 rcases List.mem_append.1 ho with ho | ho
 · have:=h o ho x hx c hc
   exact Gq (Nat.le_add_right _ _) this
 · rw [List.mem_singleton] at ho;subst ho
   obtain ⟨n,_,rfl⟩:=List.mem_map.1 hx
   simp only [aA,PV.cells,List.mem_cons,List.not_mem_nil,or_false] at hc
   rcases hc with rfl | rfl | rfl | rfl | rfl | rfl <;> rfl
theorem aek {O:List Obj}(h:jQ O) :
  (∀ d xs ver X,List.map (fB d (O.length+1) (O++tL xs ver::X)) (List.take (O.length+1) (O++tL xs ver::X))=O++[tL xs ver])∧
  (∀ d X ver,eZ d (O.length+1) X (.bG O.length ver)=.bG O.length ver)∧
  (∀ x (a:iA),eZ 1 (O.length+1) (O++[x,⟨29,7,[bX a],true,1⟩]) (.bJ (O.length+1) 1 0 0)=.addr (bX a)):=by
 refine ⟨fun d xs ver X=>?_,fun d X ver=>?_,fun x a=>?_⟩
 · have e:List.take (O.length+1) (O++tL xs ver::X)=O++[tL xs ver]:=by
    rw [List.take_append,List.take_of_length_le (by omega)];simp
   rw [e]
   have:=Fe (d:=d) (objs':=O++tL xs ver::X) (aaX h xs ver)
   rwa [length_append] at this
 · simp [eZ]
 · have:(O++[x,⟨29,7,[bX a],true,1⟩])[O.length+1]?=some ⟨29,7,[bX a],true,1⟩:=by
    rw [List.getElem?_append_right (by omega)];simp
   simp only [eZ,lt_irrefl,if_false,iU,this,Nat.le_refl,decide_true,Bool.and_self,BEq.rfl,if_true]
   rfl
theorem ab1 {O:List Obj}(h:jQ O) :
  (∀ d X,List.map (fB d O.length (O++X)) (List.take O.length (O++X))=O)∧
  (∀ xs v,eZ 1 O.length (O++[tL xs v]) (.bG O.length v)=aS xs):=by
 refine ⟨fun d X=>?_,fun xs v=>?_⟩
 · rw [List.take_append_of_le_length (Nat.le_refl _),take_length]
   exact Fe h
 · have:(O++[tL xs v])[O.length]?=some (tL xs v):=by
    rw [List.getElem?_append_right (Nat.le_refl _)];simp
   simp only [eZ,lt_irrefl,if_false,iU,this,MS,Nat.le_refl,decide_true,Bool.and_self,BEq.rfl,if_true]
   rw [SA aA fun n=>rfl]
   rfl
theorem ael {O:List Obj}(h:jQ O) :
  (∀ d X,List.map (fB d O.length (O++X)) (List.take O.length (O++X))=O)∧
  (∀ n:Nd,eZ 1 O.length (O++[⟨27,6,[aA n],true,1⟩]) (.bJ O.length 1 0 0)=.addr (aA n)):=by
 refine ⟨(ab1 h).1,fun n=>?_⟩
 have:(O++[⟨27,6,[aA n],true,1⟩])[O.length]?=some ⟨27,6,[aA n],true,1⟩:=by
  rw [List.getElem?_append_right (Nat.le_refl _)];simp
 simp only [eZ,lt_irrefl,if_false,iU,this,Nat.le_refl,decide_true,Bool.and_self,BEq.rfl,if_true]
 rfl
theorem Tq (l:List iA) (hl:l.length≤1000000) (hn:∀ a ∈ l,a.c.kind=3→MN a.c) (hs:∀ a ∈ l,a.c.s.length≤1000000):Gives Tryz.prog 113 [.addr (bC l)] ((gX l).map fun c=>[aA c]):=by
 refine yH.gives (fnT:=sJ [(114,nS)]) hD (af MP ah) aZ ?_
 intro I J objs y hI IL Yo
 have hO:=(IL 0 objs hI).2
 (conv=>arg 4;cbv);simp(maxSteps:=400000)only[↓aX,aY,BEq.rfl,reduceIte,reduceCtorEq,Nat.reduceLT,reduceAdd,reduceSub,reduceMul,Nat.reduceBEq,reduceLeDiff,reduceToNat,reduceLE,bN,bO]
 refine aH (fun m S=>∃ (i ver:Nat),i+m=l.length∧S=⟨dH 90 [(0,.E5 y),(1,.addr (bC l)),(3,.bG objs.length ver),(19,bC l),(20,.int .i64 l.length),(21,.int .i64 i)],objs++[tL (Cf++jV (l.take i)) ver]⟩) l.length ⟨0,1,by omega,?_⟩ ?_
 · simp only [bV,keepR,reduceAdd,ng,Nat.reduceBEq,map_nil]
   rfl
 rintro m S ⟨i,ver,him,rfl⟩
 rcases lt_or_ge i l.length with h | h
 · have hlt:((i:Int)<(l.length:Int))=True:=eq_true (by omega)
   have zi:(0≤(i:Int))=True:=eq_true (by omega)
   have hgi:=List.getElem?_eq_getElem h
   generalize l[i]=a at hgi
   have oB:=acX objs
   have oF:=aek hO
   have hxl:(Cf++jV (l.take i)).length≤4+3*i:=by
    have h1:=tN (l.take i)
    have h2:(l.take i).length≤i:=List.length_take_le i l
    have h3:Cf.length=4:=rfl
    rw [length_append];omega
   have htk:=Hz hgi
   have c0:Cf++jV (l.take (i+1))=(Cf++jV (l.take i))++Cc a:=by rw [htk,append_assoc]
   generalize hX:Cf++jV (l.take i)=X at hxl c0
   by_cases hk:a.c.kind=3
   rotate_left 1
   · have k3:(a.c.kind=3)=False:=eq_false hk
     simp(maxSteps:=400000)only[↓aX,aY,BEq.rfl,reduceIte,reduceCtorEq,Nat.reduceLT,reduceAdd,reduceSub,reduceMul,Nat.reduceBEq,reduceLeDiff,reduceToNat,reduceLE,hlt,zi,hgi,k3,oB,UM,ER,append_assoc,cons_append,nil_append,length_append,length_cons,length_nil]
     refine aO _ (Weak.freeze 1 (objs.length+1) (le_succ _) _) ?_
     simp(maxSteps:=400000)only[↓aX,aY,BEq.rfl,reduceIte,reduceCtorEq,Nat.reduceLT,reduceAdd,reduceSub,reduceMul,Nat.reduceBEq,reduceLeDiff,reduceToNat,reduceLE,oF]
     have e1:Cc a=[]:=if_neg hk
     exact ⟨⟨by omega,by omega⟩,m-1,by omega,i+1,ver,by omega,by rw [c0,e1,append_nil];rfl⟩
   · have k3:(a.c.kind=3)=True:=eq_true hk
     have aaY:=hn a (List.mem_of_getElem? hgi) hk
     simp(maxSteps:=400000)only[↓aX,aY,BEq.rfl,reduceIte,reduceCtorEq,Nat.reduceLT,reduceAdd,reduceSub,reduceMul,Nat.reduceBEq,reduceLeDiff,reduceToNat,reduceLE,hlt,zi,hgi,k3,oB,UM,bN,bO,ER,MS,append_assoc,cons_append,nil_append,length_append,length_cons,length_nil,length_map,vK,P7]
     refine ⟨by omega,by omega,?_⟩
     refine aO _ (Weak.freeze 1 (objs.length+1) (le_succ _) _) ?_
     simp(maxSteps:=400000)only[↓aX,aY,BEq.rfl,reduceIte,reduceCtorEq,Nat.reduceLT,reduceAdd,reduceSub,reduceMul,Nat.reduceBEq,reduceLeDiff,reduceToNat,reduceLE,oF]
     have l1:(FH a true).length≤1:=by unfold FH;split <;> simp
     have l2:(FH a false).length≤1:=by unfold FH;split <;> simp
     have st:∀ (j:Int) (xs:List Nd) (v:Nat),St:=fun j xs v=>⟨dH 90 [(0,.E5 y),(1,.addr (bC l)),(3,.bG objs.length v),(5,.addr (bX a)),(19,bC l),(20,.int .i64 l.length),(21,.int .i64 i),(34,.sl 1 [.bool true,.bool false] none),(35,.int .i64 ((2:Nat):Int)),(36,.int .i64 j)],objs++[tL xs v]⟩
     refine aH (fun m' S=>∃ (v:Nat) (j:Int) (xs:List Nd),(j=0∧m'=2∧xs=X++[a.c]∨j=1∧m'=1∧xs=X++[a.c]++FH a true∨j=2∧m'=0∧xs=X++[a.c]++FH a true++FH a false)∧S=⟨dH 90 [(0,.E5 y),(1,.addr (bC l)),(3,.bG objs.length v),(5,.addr (bX a)),(19,bC l),(20,.int .i64 l.length),(21,.int .i64 i),(34,.sl 1 [.bool true,.bool false] none),(35,.int .i64 ((2:Nat):Int)),(36,.int .i64 j)],objs++[tL xs v]⟩) 2 ⟨ver+1,0,_,.inl ⟨rfl,rfl,rfl⟩,?_⟩ ?_
     · simp only [bV,keepR,reduceAdd,ng,Nat.reduceBEq,map_nil]
     rintro m' S ⟨v,j,xs,hj,rfl⟩
     have n2:((2:Nat):Int)=2:=rfl
     rcases hj with ⟨rfl,rfl,hxs⟩ | ⟨rfl,rfl,hxs⟩ | ⟨rfl,rfl,hxs⟩
     · have WX:xs.length≤8+3*i:=by rw [hxs];simp only [length_append,length_cons,length_nil];omega
       cases hb:(dw a.c true).2
       · simp(maxSteps:=400000)only[↓aX,aY,BEq.rfl,reduceIte,reduceCtorEq,Nat.reduceLT,reduceAdd,reduceSub,reduceMul,Nat.reduceBEq,reduceLeDiff,reduceToNat,reduceLE,n2,Int.reduceLT,oB,bN,bO,ER,MS,↓nS,dK,hb,bg,append_assoc,cons_append,nil_append,length_append,length_cons,length_nil,length_map,vK,P7]
         refine ⟨aaY,?_⟩
         refine aO _ (Weak.freeze 1 (objs.length+1) (le_succ _) _) ?_
         simp(maxSteps:=400000)only[↓aX,aY,BEq.rfl,reduceIte,reduceCtorEq,Nat.reduceLT,reduceAdd,reduceSub,reduceMul,Nat.reduceBEq,reduceLeDiff,reduceToNat,reduceLE,oF]
         have hbs:FH a true=[]:=by simp [FH,hb]
         exact ⟨⟨by omega,by omega⟩,1,by omega,v,1,xs,.inr (.inl ⟨rfl,rfl,by rw [hxs,hbs,append_nil]⟩),rfl⟩
       · simp(maxSteps:=400000)only[↓aX,aY,BEq.rfl,reduceIte,reduceCtorEq,Nat.reduceLT,reduceAdd,reduceSub,reduceMul,Nat.reduceBEq,reduceLeDiff,reduceToNat,reduceLE,n2,Int.reduceLT,oB,bN,bO,ER,MS,↓nS,dK,hb,bg,append_assoc,cons_append,nil_append,length_append,length_cons,length_nil,length_map,vK,P7]
         refine ⟨aaY,by omega,by omega,?_⟩
         refine aO _ (Weak.freeze 1 (objs.length+1) (le_succ _) _) ?_
         simp(maxSteps:=400000)only[↓aX,aY,BEq.rfl,reduceIte,reduceCtorEq,Nat.reduceLT,reduceAdd,reduceSub,reduceMul,Nat.reduceBEq,reduceLeDiff,reduceToNat,reduceLE,oF]
         have hbs:FH a true=[(dw a.c true).1]:=by simp [FH,hb]
         exact ⟨⟨by omega,by omega⟩,1,by omega,v+1,1,xs++[(dw a.c true).1],.inr (.inl ⟨rfl,rfl,by rw [hxs,hbs]⟩),rfl⟩
     · have WX:xs.length≤8+3*i:=by rw [hxs];simp only [length_append,length_cons,length_nil];omega
       cases hb:(dw a.c false).2
       · simp(maxSteps:=400000)only[↓aX,aY,BEq.rfl,reduceIte,reduceCtorEq,Nat.reduceLT,reduceAdd,reduceSub,reduceMul,Nat.reduceBEq,reduceLeDiff,reduceToNat,reduceLE,n2,Int.reduceLT,oB,bN,bO,ER,MS,↓nS,dK,hb,bg,append_assoc,cons_append,nil_append,length_append,length_cons,length_nil,length_map,vK,P7]
         refine ⟨aaY,?_⟩
         refine aO _ (Weak.freeze 1 (objs.length+1) (le_succ _) _) ?_
         simp(maxSteps:=400000)only[↓aX,aY,BEq.rfl,reduceIte,reduceCtorEq,Nat.reduceLT,reduceAdd,reduceSub,reduceMul,Nat.reduceBEq,reduceLeDiff,reduceToNat,reduceLE,oF]
         have hbs:FH a false=[]:=by simp [FH,hb]
         exact ⟨⟨by omega,by omega⟩,0,by omega,v,2,xs,.inr (.inr ⟨rfl,rfl,by rw [hxs,hbs,append_nil]⟩),rfl⟩
       · simp(maxSteps:=400000)only[↓aX,aY,BEq.rfl,reduceIte,reduceCtorEq,Nat.reduceLT,reduceAdd,reduceSub,reduceMul,Nat.reduceBEq,reduceLeDiff,reduceToNat,reduceLE,n2,Int.reduceLT,oB,bN,bO,ER,MS,↓nS,dK,hb,bg,append_assoc,cons_append,nil_append,length_append,length_cons,length_nil,length_map,vK,P7]
         refine ⟨aaY,by omega,by omega,?_⟩
         refine aO _ (Weak.freeze 1 (objs.length+1) (le_succ _) _) ?_
         simp(maxSteps:=400000)only[↓aX,aY,BEq.rfl,reduceIte,reduceCtorEq,Nat.reduceLT,reduceAdd,reduceSub,reduceMul,Nat.reduceBEq,reduceLeDiff,reduceToNat,reduceLE,oF]
         have hbs:FH a false=[(dw a.c false).1]:=by simp [FH,hb]
         exact ⟨⟨by omega,by omega⟩,0,by omega,v+1,2,xs++[(dw a.c false).1],.inr (.inr ⟨rfl,rfl,by rw [hxs,hbs]⟩),rfl⟩
     · simp(maxSteps:=400000)only[↓aX,aY,BEq.rfl,reduceIte,reduceCtorEq,Nat.reduceLT,reduceAdd,reduceSub,reduceMul,Nat.reduceBEq,reduceLeDiff,reduceToNat,reduceLE,n2,Int.reduceLT]
       refine aO _ (Weak.freeze 1 (objs.length+1) (le_succ _) _) ?_
       simp(maxSteps:=400000)only[↓aX,aY,BEq.rfl,reduceIte,reduceCtorEq,Nat.reduceLT,reduceAdd,reduceSub,reduceMul,Nat.reduceBEq,reduceLeDiff,reduceToNat,reduceLE,oF]
       exact ⟨⟨by omega,by omega⟩,m-1,by omega,i+1,v,by omega,by rw [c0,DF hk,hxs,append_assoc,append_assoc,append_assoc];rfl⟩
 · have hlt:((i:Int)<(l.length:Int))=False:=eq_false (by omega)
   have oB:=acX objs
   have oF:=aek hO
   have hxl:(Cf++jV (l.take i)).length≤4+3*i:=by
    have h1:=tN (l.take i)
    have h2:(l.take i).length≤i:=List.length_take_le i l
    have h3:Cf.length=4:=rfl
    rw [length_append];omega
   have hi:i=l.length:=by omega
   rw [hi,take_length]
   rw [hi,take_length] at hxl
   generalize hX:Cf++jV l=X at hxl
   have hlt2:((l.length:Int)<(l.length:Int))=False:=eq_false (by omega)
   simp(maxSteps:=400000)only[↓aX,aY,BEq.rfl,reduceIte,reduceCtorEq,Nat.reduceLT,reduceAdd,reduceSub,reduceMul,Nat.reduceBEq,reduceLeDiff,reduceToNat,reduceLE,hlt2,oB,bN,bO,ER,MS,append_assoc,cons_append,nil_append,length_append,length_cons,length_nil,length_map,vK,P7]
   refine ⟨by omega,by omega,?_⟩
   refine aH (fun m S=>∃ (i ver:Nat),i+m=l.length∧S=⟨dH 90 [(0,.E5 y),(3,.bG objs.length ver),(58,bC l),(59,.int .i64 l.length),(60,.int .i64 i)],objs++[tL (X++⟨4,0,[],[],false,0⟩::lN (l.take i)) ver]⟩) l.length ⟨0,ver+1,by omega,?_⟩ ?_
   · simp only [bV,keepR,reduceAdd,ng,Nat.reduceBEq,map_nil]
     rfl
   rintro m S ⟨i,ver,him,rfl⟩
   have WX:(X++⟨4,0,[],[],false,0⟩::lN (l.take i)).length≤8+3*l.length+2*i:=by
    have h1:=yc (l.take i)
    have h2:(l.take i).length≤i:=List.length_take_le i l
    rw [length_append,length_cons];omega
   rcases lt_or_ge i l.length with h | h
   · have hlt:((i:Int)<(l.length:Int))=True:=eq_true (by omega)
     have zi:(0≤(i:Int))=True:=eq_true (by omega)
     have hgi:=List.getElem?_eq_getElem h
     generalize l[i]=a at hgi
     have has:=hs a (List.mem_of_getElem? hgi)
     have c0:X++⟨4,0,[],[],false,0⟩::lN (l.take (i+1))=(X++⟨4,0,[],[],false,0⟩::lN (l.take i))++Ce a:=by rw [HV hgi];simp
     generalize hY:X++⟨4,0,[],[],false,0⟩::lN (l.take i)=Y at WX c0
     by_cases hk:a.c.kind=4
     rotate_left 1
     · have k4:(a.c.kind=4)=False:=eq_false hk
       simp(maxSteps:=400000)only[↓aX,aY,BEq.rfl,reduceIte,reduceCtorEq,Nat.reduceLT,reduceAdd,reduceSub,reduceMul,Nat.reduceBEq,reduceLeDiff,reduceToNat,reduceLE,hlt,zi,hgi,k4,oB,UM,bN,bO,ER,MS,append_assoc,cons_append,nil_append,length_append,length_cons,length_nil,length_map,vK,ab0,P7]
       refine aO _ (Weak.freeze 1 (objs.length+1) (le_succ _) _) ?_
       simp(maxSteps:=400000)only[↓aX,aY,BEq.rfl,reduceIte,reduceCtorEq,Nat.reduceLT,reduceAdd,reduceSub,reduceMul,Nat.reduceBEq,reduceLeDiff,reduceToNat,reduceLE,oF]
       have e1:Ce a=[]:=if_neg hk
       exact ⟨⟨by omega,by omega⟩,m-1,by omega,i+1,ver,by omega,by rw [c0,e1,append_nil];rfl⟩
     · have k4:(a.c.kind=4)=True:=eq_true hk
       simp(maxSteps:=400000)only[↓aX,aY,BEq.rfl,reduceIte,reduceCtorEq,Nat.reduceLT,reduceAdd,reduceSub,reduceMul,Nat.reduceBEq,reduceLeDiff,reduceToNat,reduceLE,hlt,zi,hgi,k4,oB,UM,bN,bO,ER,MS,append_assoc,cons_append,nil_append,length_append,length_cons,length_nil,length_map,vK,ab0,P7]
       refine ⟨by omega,fun y hy=>by simp only [List.mem_cons,List.not_mem_nil,or_false] at hy;rcases hy with rfl | rfl <;> exact ⟨rfl,rfl⟩,by omega,by omega,?_⟩
       refine aO _ (Weak.freeze 1 (objs.length+1) (le_succ _) _) ?_
       simp(maxSteps:=400000)only[↓aX,aY,BEq.rfl,reduceIte,reduceCtorEq,Nat.reduceLT,reduceAdd,reduceSub,reduceMul,Nat.reduceBEq,reduceLeDiff,reduceToNat,reduceLE,oF]
       have e1:Ce a=[a.c,⟨4,0,[],a.c.s++[0],false,0⟩]:=if_pos hk
       exact ⟨⟨by omega,by omega⟩,m-1,by omega,i+1,ver+1,by omega,by rw [c0,e1];rfl⟩
   have hi:i=l.length:=by omega
   have hlt2:((l.length:Int)<(l.length:Int))=False:=eq_false (by omega)
   rw [hi,take_length]
   rw [hi,take_length] at WX
   have hC:X++⟨4,0,[],[],false,0⟩::lN l=gX l:=by rw [← hX];rfl
   rw [hC]
   rw [hC] at WX
   generalize gX l=C at WX
   simp(maxSteps:=400000)only[↓aX,aY,BEq.rfl,reduceIte,reduceCtorEq,Nat.reduceLT,reduceAdd,reduceSub,reduceMul,Nat.reduceBEq,reduceLeDiff,reduceToNat,reduceLE,hlt2]
   refine aO _ (Weak.freeze 1 objs.length (Nat.le_refl _) _) ?_
   have o1:=ab1 hO
   simp(maxSteps:=400000)only[↓aX,aY,BEq.rfl,reduceIte,reduceCtorEq,Nat.reduceLT,reduceAdd,reduceSub,reduceMul,Nat.reduceBEq,reduceLeDiff,reduceToNat,reduceLE,o1]
   refine aH (fun m S=>∃ (i:Nat) (O:List Obj),i+m=C.length∧I i O∧S=⟨dH 90 [(0,.E5 y),(79,aS C),(80,.int .i64 C.length),(81,.int .i64 i)],O⟩) C.length ⟨0,objs,by omega,hI,?_⟩ ?_
   · simp only [bV,keepR,reduceAdd,ng,Nat.reduceBEq,map_nil]
     rfl
   rintro m S ⟨i,O,him,hIi,rfl⟩
   have hOl:=(IL i O hIi).1
   have hOO:=(IL i O hIi).2
   rcases lt_or_ge i C.length with h | h
   · have hlt:((i:Int)<(C.length:Int))=True:=eq_true (by omega)
     have zi:(0≤(i:Int))=True:=eq_true (by omega)
     have hgi:=List.getElem?_eq_getElem h
     generalize C[i]=c at hgi
     have oB:=acX O
     simp(maxSteps:=400000)only[↓aX,aY,BEq.rfl,reduceIte,reduceCtorEq,Nat.reduceLT,reduceAdd,reduceSub,reduceMul,Nat.reduceBEq,reduceLeDiff,reduceToNat,reduceLE,hlt,zi,hgi,oB,bN,bO,ER]
     refine aO _ (Weak.freeze 1 O.length hOl _) ?_
     have o2:=ael hOO
     simp(maxSteps:=400000)only[↓aX,aY,BEq.rfl,reduceIte,reduceCtorEq,Nat.reduceLT,reduceAdd,reduceSub,reduceMul,Nat.reduceBEq,reduceLeDiff,reduceToNat,reduceLE,o2,Yd]
     refine ⟨rfl,i,hIi,by rw [hgi];rfl,fun O' hI'=>⟨⟨by omega,by omega⟩,m-1,by omega,i+1,O',by omega,hI',rfl⟩,fun O' hJ'=>⟨.inr rfl,.inr ⟨i,h,hJ'⟩⟩⟩
   · have hlt:((i:Int)<(C.length:Int))=False:=eq_false (by omega)
     simp(maxSteps:=400000)only[↓aX,aY,BEq.rfl,reduceIte,reduceCtorEq,Nat.reduceLT,reduceAdd,reduceSub,reduceMul,Nat.reduceBEq,reduceLeDiff,reduceToNat,reduceLE,hlt]
     have hi:i=C.length:=by omega
     subst hi
     exact ⟨.inl rfl,.inl hIi⟩
end Lp
namespace Lp
open Go Go.Proofs Go.RowKit
open List (mem_cons mem_singleton not_mem_nil)
open Nat (reduceAdd reduceLeDiff reduceMul reduceSub)
open Int (reduceLE reduceToNat)
def Cg:dD:=fun args objs K=>match args with
 | [a0]=>fE bC a0 (HK.mk:HK fun l=>K (.fn 113 [] [.addr (bC l)]) objs 0)
 | _=>False
theorem P8:aB Tryz.prog 102 (Cg):=by
 intro args objs K h
 unfold Cg at h
 split at h
 · rename_i a0
   obtain ⟨l,rfl,hk⟩:=h
   exact ⟨_,_,_,.pure _ rfl (EQ l),hk⟩
 · exact h.elim
def Ch:dD:=fun args objs K=>match args with
 | [.int .i64 mask,a1,a2]=>fE bC a1 (HK.mk:HK fun l=>fE aA a2 (HK.mk:HK fun n=>(0≤mask∧mask≤31)∧(l.length≤1000000)∧(∀ a ∈ l,fe a.c)∧(tC n)∧(n.s.length≤1000000)∧K (.bool (cO mask l n)) objs 0))
 | _=>False
theorem Tt:aB Tryz.prog 103 (Ch):=by
 intro args objs K h
 unfold Ch at h
 split at h
 · rename_i mask a1 a2
   obtain ⟨l,rfl,n,rfl,h1,h2,h3,h4,h5,hk⟩:=h
   exact ⟨_,_,_,.pure _ rfl (Mx mask l n h1 h2 h3 h4 h5),hk⟩
 · exact h.elim
def Zr (mask:Int) (l:List iA) (x:Nd) (b:Bool):List Obj:=[⟨3,1,[.int .i64 mask],true,1⟩,⟨56,1,[bC l],true,1⟩,⟨27,6,[aA x],true,1⟩,⟨4,1,[.bool b],true,1⟩]
theorem HY (mask:Int) (l:List iA) (x:Nd) (b:Bool):eX (Zr mask l x b++[vU,hole]):=by
 intro o ho y hy c hc
 simp only [Zr,List.cons_append,List.nil_append,mem_cons,not_mem_nil,or_false] at ho
 rcases ho with rfl | rfl | rfl | rfl | rfl | rfl
 · simp only [mem_singleton] at hy;subst hy
   simp only [PV.cells,mem_singleton] at hc;subst hc;rfl
 · simp only [mem_singleton] at hy;subst hy
   simp only [bC,PV.cells,mem_singleton] at hc;subst hc;rfl
 · simp only [mem_singleton] at hy;subst hy
   simp only [aA,PV.cells,mem_cons,not_mem_nil,or_false] at hc
   rcases hc with rfl | rfl | rfl | rfl | rfl | rfl <;> rfl
 · simp only [mem_singleton] at hy;subst hy
   simp only [PV.cells,mem_singleton] at hc;subst hc;rfl
 · cases hy
 · cases hy
theorem Zt (mask:Int) (l:List iA) (x:Nd) (b:Bool):Gh 4 (Zr mask l x b++[vU,hole]):=⟨Nat.le_refl _,(HY mask l x b).lt,rfl,rfl⟩
def kE (mask:Int) (l:List iA):PV:=.bZ [aA (kN mask l).1,.bool (kN mask l).2]
theorem Tv (l:List Nd):∀ y ∈ l.map (fun s=>[aA s]),y.length=1:=by
 intro y hy
 obtain ⟨p,_,rfl⟩:=List.mem_map.1 hy
 rfl
theorem Tw {l:List Nd}{i:Nat}{args:List PV}(h:(l.map fun s=>[aA s])[i]?=some args):∃ s,l[i]?=some s∧args=[aA s]:=by
 rw [List.getElem?_map] at h
 cases hx:l[i]? with
 | none=>rw [hx] at h;simp at h
 | some p=>rw [hx] at h;exact ⟨p,rfl,by simpa using h.symm⟩
theorem KA {mask:Int}{l:List iA}{i:Nat}{c:Nd}(h:(gX l)[i]?=some c) (hm:cO mask l c=true) (hb:∀ (j:Nat) d,j<i→(gX l)[j]?=some d→cO mask l d=false):kN mask l=(c,true):=by
 have:(gX l).find? (fun n=>cO mask l n)=some c:=by
  rw [List.find?_eq_some_iff_getElem]
  obtain ⟨hi,he⟩:=List.getElem?_eq_some_iff.1 h
  refine ⟨hm,i,hi,he,fun j hj=>?_⟩
  have:=hb j _ hj (List.getElem?_eq_getElem (by omega))
  simp [this]
 simp [kN,this]
theorem HZ {mask:Int}{l:List iA}(hb:∀ (j:Nat) d,(gX l)[j]?=some d→cO mask l d=false):kN mask l=(aN,false):=by
 have:(gX l).find? (fun n=>cO mask l n)=none:=by
  rw [List.find?_eq_none]
  intro x hx
  obtain ⟨i,hi⟩:=List.mem_iff_getElem?.1 hx
  simp [hb i x hi]
 simp [kN,this]
theorem P9 (mask:Int) (l:List iA) (x:Nd) (b:Bool) (o:Obj) (tm:List PV):(St.norm [] (some (1,6)) ⟨tm,Zr mask l x b++[vU,hole,o]⟩).objs=Zr mask l x b++[vU,hole]:=
 Fe (objs:=Zr mask l x b++[vU,hole]) (HY mask l x b).lt
theorem fe.num {n:Nd}(h:fe n) (hk:n.kind=3):MN n:=by
 have hb:=(oD n).1 (qw (og h.sc).1 hk)
 refine ⟨hb.2.2.1,hb.2.1,hb.2.2.2.1,hb.2.2.2.2.1,fun hs=>?_⟩
 have hl:=hb.2.2.2.2.2.2
 rw [if_neg hs] at hl
 unfold Lib.trimRightB
 have hne:n.s.reverse≠[]:=by simpa using hs
 obtain ⟨x,r,hx⟩:=List.exists_cons_of_ne_nil hne
 have hx0:x≠48:=fun e=>hl.2 (by rw [← List.head?_reverse,hx,e];rfl)
 have:(x==(48:UInt8))=false:=by simpa using hx0
 rw [hx,List.dropWhile_cons,this]
 simp
theorem Tx (neg:Bool) (f:List UInt8) (e:Int):(dM neg f e).1.name=[]:=by
 unfold dM
 split
 · rfl
 split
 · rfl
 split
 · rfl
 split <;> rfl
theorem MU (n:Nd) (b:Bool):(dw n b).1.s.length≤100∧(dw n b).1.name=[]:=by
 unfold dw
 split
 · exact ⟨by simp,rfl⟩
 · exact ⟨WQ _ _ _,Tx _ _ _⟩
theorem H6 {l:List iA}(hc:∀ a ∈ l,fe a.c) (hs:∀ a ∈ l,a.c.s.length≤500000):∀ c ∈ gX l,tC c∧c.s.length≤500001:=by
 have key:∀ c:Nd,c.name=[]→c.s.length≤500001→tC c∧c.s.length≤500001:=fun c h1 h2=>⟨⟨by omega,by rw [h1];simp⟩,h2⟩
 intro c hcm
 simp only [gX,List.mem_append,mem_cons,not_mem_nil,or_false,u_,ve,List.mem_flatten,List.mem_map] at hcm
 rcases hcm with ((rfl | rfl | rfl | rfl) | ⟨x,⟨a,ha,rfl⟩,hx⟩) | rfl | ⟨x,⟨a,ha,rfl⟩,hx⟩
 · exact key _ rfl (by simp)
 · exact key _ rfl (by simp)
 · exact key _ rfl (by simp)
 · exact key _ rfl (by simp)
 · by_cases hk:a.c.kind=3
   · rw [DF hk] at hx
     simp only [List.mem_append,mem_cons,not_mem_nil,or_false] at hx
     have hb:∀ b,c ∈ FH a b→tC c∧c.s.length≤500001:=fun b hb=>by
      unfold FH at hb
      split at hb
      · rw [mem_singleton] at hb;subst hb
        have:=MU a.c b
        exact key _ this.2 (by omega)
      · cases hb
     rcases hx with (rfl | hx) | hx
     · exact key _ (og (hc a ha).sc).2.1 (by have:=hs a ha;omega)
     · exact hb _ hx
     · exact hb _ hx
   · rw [show Cc a=[] from if_neg hk] at hx;cases hx
 · exact key _ rfl (by simp)
 · by_cases hk:a.c.kind=4
   · rw [show Ce a=[a.c,⟨4,0,[],a.c.s++[0],false,0⟩] from if_pos hk] at hx
     have hsa:=hs a ha
     simp only [mem_cons,not_mem_nil,or_false] at hx
     rcases hx with rfl | rfl
     · exact key _ (og (hc a ha).sc).2.1 (by omega)
     · exact key _ rfl (by simp;omega)
   · rw [show Ce a=[] from if_neg hk] at hx;cases hx
theorem Tz (mask:Int) (l:List iA) (hm:0≤mask∧mask≤31) (hl:l.length≤1000000) (hc:∀ a ∈ l,fe a.c) (hs:∀ a ∈ l,a.c.s.length≤500000):ai Tryz.prog 85 [.int .i64 mask,bC l] [] (kE mask l) []:=by
 refine Ls.SB (T:=aR Tryz.prog [(102,Cg),(103,Ch)]) 1 hD (aj (af P8 (af Tt ah))) aZ (by decide) (by decide) fun Q hQ=>?_
 have hgv:=Tq l hl (fun a ha hk=>(hc a ha).num hk) (fun a ha=>by have:=hs a ha;omega)
 (conv=>arg 4;cbv);simp(maxSteps:=400000)only[↓aX,aY,BEq.rfl,reduceIte,reduceCtorEq,Nat.reduceLT,reduceAdd,reduceSub,reduceMul,Nat.reduceBEq,reduceLeDiff,reduceToNat,reduceLE,hQ,↓Cg,bN,bO]
 refine Uu 113 [.addr (bC l)] ((gX l).map fun c=>[aA c])
  (fun i O=>(∀ (j:Nat) d,j<i→(gX l)[j]?=some d→cO mask l d=false)∧i≤(gX l).length∧O=Zr mask l ⟨0,0,[],[],false,0⟩ false++[vU,hole])
  (fun i O=>∃ c,(gX l)[i]?=some c∧cO mask l c=true∧(∀ (j:Nat) d,j<i→(gX l)[j]?=some d→cO mask l d=false)∧O=Zr mask l c true++[vU,hole]) .ret rfl rfl rfl rfl (Nat.le_refl _) hgv (Tv _) ⟨fun j q h=>absurd h (Nat.not_lt_zero j),Nat.zero_le _,rfl⟩ ?_ ?_ ?_ ?_ ?_
 · rintro i O ⟨_,_,rfl⟩
   exact Zt _ _ _ _
 · rintro i O ⟨c,_,_,_,rfl⟩
   exact ⟨Zt _ _ _ _,HY _ _ _ _⟩
 · rintro i args O ⟨hb,hi,rfl⟩ ha
   obtain ⟨c,hci,rfl⟩:=Tw ha
   have hil:=(List.getElem?_eq_some_iff.1 hci).1
   unfold Zr
   have hsm:=H6 hc hs c (List.mem_of_getElem? hci)
   cases he:cO mask l c
   · simp(maxSteps:=400000)only[↓aX,aY,BEq.rfl,reduceIte,reduceCtorEq,Nat.reduceLT,reduceAdd,reduceSub,reduceMul,Nat.reduceBEq,reduceLeDiff,reduceToNat,reduceLE,hQ,qj,knI,bN,bO,ER,↓Ch,he]
     refine ⟨hm,hl,hc,hsm.1,by omega,fun j d hj hd=>?_,by omega,P9 mask l ⟨0,0,[],[],false,0⟩ false _ _⟩
     rcases Nat.lt_or_ge j i with g | g
     · exact hb j d g hd
     · have:j=i:=by omega
       subst this
       rw [hci] at hd;cases hd;exact he
   · simp(maxSteps:=400000)only[↓aX,aY,BEq.rfl,reduceIte,reduceCtorEq,Nat.reduceLT,reduceAdd,reduceSub,reduceMul,Nat.reduceBEq,reduceLeDiff,reduceToNat,reduceLE,hQ,qj,knI,bN,bO,ER,↓Ch,he]
     exact ⟨hm,hl,hc,hsm.1,by omega,rfl,c,hci,he,hb,P9 mask l c true _ _⟩
 · rintro O ⟨hb,hi,rfl⟩
   unfold Zr
   simp(maxSteps:=400000)only[↓aX,aY,BEq.rfl,reduceIte,reduceCtorEq,Nat.reduceLT,reduceAdd,reduceSub,reduceMul,Nat.reduceBEq,reduceLeDiff,reduceToNat,reduceLE,hQ,bN,bO]
   have hr:kE mask l=.bZ [aA aN,.bool false]:=by
    have:=HZ (mask:=mask) (l:=l) fun j d hd=>hb j d (by rw [List.length_map];exact (List.getElem?_eq_some_iff.1 hd).1) hd
    simp [kE,this]
   exact ⟨by decide,rfl,by rw [hr];rfl⟩
 · rintro i O hi ⟨c,hci,he,hb,rfl⟩
   unfold Zr
   simp(maxSteps:=400000)only[↓aX,aY,BEq.rfl,reduceIte,reduceCtorEq,Nat.reduceLT,reduceAdd,reduceSub,reduceMul,Nat.reduceBEq,reduceLeDiff,reduceToNat,reduceLE,hQ,bN,bO]
   have hr:kE mask l=.bZ [aA c,.bool true]:=by
    simp [kE,KA hci he hb]
   rw [hr]
   exact ⟨_,_,rfl,rfl,rfl,rfl,Nat.le_refl _,rfl,_,_,rfl,rfl,rfl,rfl,Nat.le_refl _,rfl,rfl⟩
def qA:dD:=fun args objs K=>match args with
 | [.int .i64 mask,a1]=>fE bC a1 (HK.mk:HK fun l=>(0≤mask∧mask≤31)∧(l.length≤1000000)∧(∀ a ∈ l,fe a.c)∧(∀ a ∈ l,a.c.s.length≤500000)∧K (kE mask l) objs 0)
 | _=>False
theorem Et:aB Tryz.prog 85 (qA):=by
 intro args objs K h
 unfold qA at h
 split at h
 · rename_i mask a1
   obtain ⟨l,rfl,h1,h2,h3,h4,hk⟩:=h
   exact ⟨_,_,_,.pure _ rfl (Tz mask l h1 h2 h3 h4),hk⟩
 · exact h.elim
end Lp
