/-
  Part 5 of what the statement rests on: LpW7, LpH8, LpD3, LpH9, LpH20, LpH21, LpH24, LpHN1, LpHN2, LpHN3, LpD7, LpD8, LpE1, LpD5, LpV10, LpD6, LpD9, LpD10, LpD11, LpD12, LpE2, LpE3, LpC9, LpY4, LpTN, LpEqY, LpTB1, LpC10, LpTB1p, LpTB2, LpTB3, LpE4, LpE5, LpE6, LpTC1, LpTR, LpE7. No condition.
-/
import Derived.Test.YtgfdogdnlgfcpaaGreatDoorLp4
import Derived.Laws.IdiomStrings
import Derived.WalkKit
import Derived.Sort.Row

set_option linter.all false
set_option maxHeartbeats 8000000
set_option maxRecDepth 100000
namespace Lp
open Go Go.Proofs
def ac3 (a b:List Vl) (f:Vl→Vl→Int):dF:=fun args objs K=>∃ x y:Vl,(x ∈ a∧y ∈ b)∧args=[aS x,aS y]∧K (.int .i64 (f x y)) objs 0
theorem aaZ (a b:List Vl) (g:FuncId) (f:Vl→Vl→Int) (hg:∀ x ∈ a,∀ y ∈ b,ai Tryz.prog g [aS x,aS y] [] (.int .i64 (f x y)) []):aB Tryz.prog g (ac3 a b f):=by
 rintro args objs K ⟨x,y,⟨hx,hy⟩,rfl,hk⟩
 exact ⟨_,_,_,.pure _ rfl (hg x hx y hy),hk⟩
theorem uZ (a b:List Vl) (g:FuncId) (f:Vl→Vl→Int) (ha:a.length≤9223372036854775807) (hg:∀ x ∈ a,∀ y ∈ b,ai Tryz.prog g [aS x,aS y] [] (.int .i64 (f x y)) []) :
  ai Tryz.prog 150 [mO a,mO b,.fn g [] []] [] (.int .i64 (eP f a b)) []:=by
 refine fP.pure (T:=aR Tryz.prog [(g,ac3 a b f)]) 0 hD (aj (af (aaZ a b g f hg) ah)) a_ (by decide) ?_
 (conv=>arg 4;cbv);simp only [↓zO,El,↓Ba,↓yN,↓Bb,yO,↓mM,nk,jI,fw,Dk,Nat.reduceAdd,Nat.reduceSub,rq,bM,dU,qg,mO,List.length_map,FD,FE]
 refine aH (fun m S=>∃ i:Nat,m=a.length-i∧i≤a.length∧i≤b.length∧eP f (a.drop i) (b.drop i)=eP f a b∧
  S=⟨mkT 39 [(0,mO a),(1,mO b),(2,.fn g [] []),(11,mO a),(12,.int .i64 a.length),(13,.int .i64 i)],[]⟩) a.length ⟨0,rfl,Nat.zero_le _,Nat.zero_le _,rfl,?_⟩ ?_
 · simp only [Q9,mO,rq];rfl
 rintro m S ⟨i,rfl,hi,hib,hlex,rfl⟩
 simp only [↓zO,El,↓Ba,↓yN,↓Bb,yO,↓mM,nk,jI,fw,Dk,Nat.reduceAdd,Nat.reduceSub,rq,Q9,bM,caR,taR,ac3,Nat.reduceBEq,BEq.rfl,cond_true,cond_false,dU,qg,mO,FD,FE,wS,List.length_map,aZ,fq,↓zq,I7,FH,ne_eq,reduceCtorEq,not_false_eq_true,true_and,PV.bool.injEq,Int.toNat_natCast,List.length_cons,List.length_nil]
 refine ⟨fun h=>?_,fun h=>?_⟩
 · have hlt:i<a.length:=by have:=of_decide_eq_true h;omega
   rw [List.drop_eq_getElem_cons hlt] at hlex
   refine ⟨by omega,a[i],List.getElem?_eq_getElem hlt,rfl,rfl,fun hge=>?_,fun hgl=>?_⟩
   · have hbe:b.length≤i:=by have:=of_decide_eq_true hge;omega
     rw [List.drop_eq_nil_of_le hbe] at hlex
     rw [← hlex];rfl
   · have hbl:i<b.length:=by have:=of_decide_eq_false hgl;omega
     rw [List.drop_eq_getElem_cons hbl] at hlex
     refine ⟨by omega,b[i],List.getElem?_eq_getElem hbl,rfl,rfl,a[i],b[i],⟨List.getElem_mem _,List.getElem_mem _⟩,rfl,fun hne=>?_,fun heq=>⟨by omega,a.length-(i+1),by omega,i+1,rfl,by omega,by omega,?_,rfl⟩⟩
     · have hne':f a[i] b[i]≠0:=by simpa using hne
       rw [← hlex,eP,if_neg hne']
     · have heq':f a[i] b[i]=0:=by simpa using heq
       rw [← hlex,eP,if_pos heq']
 · rw [if_pos trivial]
   have hge:a.length≤i:=by have:=of_decide_eq_false h;omega
   rw [List.drop_eq_nil_of_le hge] at hlex
   refine ⟨fun hl=>?_,fun hl=>?_⟩
   · have hl':i<b.length:=by have:=of_decide_eq_true hl;omega
     rw [List.drop_eq_getElem_cons hl'] at hlex
     rw [← hlex];rfl
   · have hl':b.length≤i:=by have:=of_decide_eq_false hl;omega
     rw [List.drop_eq_nil_of_le hl'] at hlex
     rw [← hlex];rfl
end Lp
namespace Lp
open Go Go.Proofs
open Nat (reduceAdd reduceLeDiff reduceMul reduceSub)
def yh:dF:=fun args objs K=>match args with
 | [.int .i64 x,.int .i64 y]=>K (.int .i64 (uw x y)) objs 0
 | _=>False
theorem Hr:aB Tryz.prog 145 (yh):=by
 intro args objs K h
 unfold yh at h
 split at h
 · rename_i x y
   have hk:=h
   exact ⟨_,_,_,.pure _ rfl (DL x y),hk⟩
 · exact h.elim
def yj:dF:=fun args objs K=>match args with
 | [.str x,.str y]=>K (.int .i64 (jM x y)) objs 0
 | _=>False
theorem Ht:aB Tryz.prog 147 (yj):=by
 intro args objs K h
 unfold yj at h
 split at h
 · rename_i x y
   have hk:=h
   exact ⟨_,_,_,.pure _ rfl (tL x y),hk⟩
 · exact h.elim
theorem WH (a b:Nd) (ha:a.s.length≤1000000) (hb:b.s.length≤1000000) (hae:-1000≤a.e∧a.e≤1000) (hbe:-1000≤b.e∧b.e≤1000):ai Tryz.prog 172 [ay a,ay b] [] (.int .i64 (o6 a b)) []:=by
 refine RI.pure (T:=aR Tryz.prog [(145,yh),(147,yj)]) 0 hD (aj (af Hr (af Ht ah))) a_ (by decide) ?_
 (conv=>arg 4;cbv);simp(maxSteps:=400000)only[↓aV,aW,BEq.rfl,reduceIte,reduceCtorEq,Nat.reduceLT,reduceAdd,reduceSub,reduceMul,Nat.reduceBEq,reduceLeDiff,Int.reduceToNat,Int.reduceLE]
 refine aN _ (Weak.freeze 1 0 (Nat.le_refl _) _) ?_
 simp(maxSteps:=400000)only[↓aV,aW,BEq.rfl,reduceIte,reduceCtorEq,Nat.reduceLT,reduceAdd,reduceSub,reduceMul,Nat.reduceBEq,reduceLeDiff,Int.reduceToNat,Int.reduceLE,YW,YX,↓yh,↓yj]
 refine ⟨fun h=>?_,fun h=>⟨fun h'=>?_,fun h'=>⟨⟨by omega,by omega⟩,⟨by omega,by omega⟩,fun h0=>?_,fun h0=>?_⟩⟩⟩
 · rw [o6,if_pos (.inl h)]
 · rw [o6,if_pos (.inr h')]
 · rw [o6,if_neg (by simp [h,h']),if_pos h0]
 · rw [o6,if_neg (by simp [h,h']),if_neg h0]
def Zm (n:Nd):Prop:=n.s.length≤1000000∧-1000≤n.e∧n.e≤1000
def FN:dF:=fun args objs K=>match args with
 | [a0,a1]=>fB ay a0 (HK.mk:HK fun a=>fB ay a1 (HK.mk:HK fun b=>(Zm a)∧(Zm b)∧K (.int .i64 (o6 a b)) objs 0))
 | _=>False
theorem SF:aB Tryz.prog 172 (FN):=by
 intro args objs K h
 unfold FN at h
 split at h
 · rename_i a0 a1
   obtain ⟨a,rfl,b,rfl,h1,h2,hk⟩:=h
   exact ⟨_,_,_,.pure _ rfl (WH a b h1.1 h2.1 h1.2 h2.2),hk⟩
 · exact h.elim
theorem Pt (a b:Nd) (ha:Zm a) (hb:Zm b):ai Tryz.prog 146 [ay a,ay b] [] (.int .i64 (U8 a b)) []:=by
 refine V4.pure (T:=aR Tryz.prog [(172,FN)]) 0 hD (aj (af SF ah)) a_ (by decide) ?_
 (conv=>arg 4;cbv);simp(maxSteps:=400000)only[↓aV,aW,BEq.rfl,reduceIte,reduceCtorEq,Nat.reduceLT,reduceAdd,reduceSub,reduceMul,Nat.reduceBEq,reduceLeDiff,Int.reduceToNat,Int.reduceLE]
 refine aN _ (Weak.freeze 1 0 (Nat.le_refl _) _) ?_
 simp(maxSteps:=400000)only[↓aV,aW,BEq.rfl,reduceIte,reduceCtorEq,Nat.reduceLT,reduceAdd,reduceSub,reduceMul,Nat.reduceBEq,reduceLeDiff,Int.reduceToNat,Int.reduceLE,YW,YX,↓FN]
 cases hx:a.neg <;> cases hy:b.neg
 all_goals simp only [ifR,U8,hx,hy,Bool.not_true,Bool.not_false,reduceIte,Bool.and_true,Bool.and_false,Bool.and_self,Bool.false_eq_true,ha,hb]
 all_goals exact ⟨trivial,trivial,trivial⟩
def yo:dF:=fun args objs K=>match args with
 | [a0,a1]=>fB ay a0 (HK.mk:HK fun a=>fB ay a1 (HK.mk:HK fun b=>(Zm a)∧(Zm b)∧K (.int .i64 (U8 a b)) objs 0))
 | _=>False
theorem Ml:aB Tryz.prog 146 (yo):=by
 intro args objs K h
 unfold yo at h
 split at h
 · rename_i a0 a1
   obtain ⟨a,rfl,b,rfl,h1,h2,hk⟩:=h
   exact ⟨_,_,_,.pure _ rfl (Pt a b h1 h2),hk⟩
 · exact h.elim
end Lp
namespace Lp
open Go Go.Proofs
theorem Pv (v:Vl) (hl:v.length≤1099511627776) (ho:One v):ai Tryz.prog 151 [aS v] [] (mO (bQ v)) []:=by
 cases v with
 | nil=>exact absurd rfl ho.ne
 | cons n r=>
  obtain ⟨hm,ps,h1,_,_⟩:=ho.parts
  have:=RQ (n::r) n r ps rfl hl hm h1
  rw [bQ,mO,(gF h1).1,List.map_map]
  exact this
theorem Pw (v:Vl) (hl:v.length≤1099511627776) (ho:One v):ai Tryz.prog 149 [aS v] [] (kG (fC v)) []:=by
 cases v with
 | nil=>exact absurd rfl ho.ne
 | cons n r=>
  obtain ⟨hm,ps,h1,_,_⟩:=ho.parts
  have:=RS (n::r) n r ps rfl hl hm h1
  rw [KZ] at this
  rw [fC,kG,(gF h1).2]
  exact this
def BM:dF:=fun args objs K=>match args with
 | [a0]=>fB aS a0 (HK.mk:HK fun v=>(v.length≤1099511627776)∧(One v)∧K (mO (bQ v)) objs 0)
 | _=>False
theorem Px:aB Tryz.prog 151 (BM):=by
 intro args objs K h
 unfold BM at h
 split at h
 · rename_i a0
   obtain ⟨v,rfl,h1,h2,hk⟩:=h
   exact ⟨_,_,_,.pure _ rfl (Pv v h1 h2),hk⟩
 · exact h.elim
def BN:dF:=fun args objs K=>match args with
 | [a0]=>fB aS a0 (HK.mk:HK fun v=>(v.length≤1099511627776)∧(One v)∧K (kG (fC v)) objs 0)
 | _=>False
theorem Py:aB Tryz.prog 149 (BN):=by
 intro args objs K h
 unfold BN at h
 split at h
 · rename_i a0
   obtain ⟨v,rfl,h1,h2,hk⟩:=h
   exact ⟨_,_,_,.pure _ rfl (Pw v h1 h2),hk⟩
 · exact h.elim
end Lp
namespace Lp
open Go Go.Proofs
def Mq:dF:=fun args objs K=>match args with
 | [a0,a1]=>fB kG a0 (HK.mk:HK fun a=>fB kG a1 (HK.mk:HK fun b=>(a.length≤9223372036854775807)∧(b.length≤9223372036854775807)∧K (.int .i64 (eP jM a b)) objs 0))
 | _=>False
theorem WI:aB Tryz.prog 148 (Mq):=by
 intro args objs K h
 unfold Mq at h
 split at h
 · rename_i a0 a1
   obtain ⟨a,rfl,b,rfl,h1,h2,hk⟩:=h
   exact ⟨_,_,_,.pure _ rfl (Ae a b h1 h2),hk⟩
 · exact h.elim
def UR (f:Nat):dF:=fun args objs K=>match args with
 | [a0,a1,a2]=>fB mO a0 (HK.mk:HK fun x=>fB mO a1 (HK.mk:HK fun y=>a2=(.fn 128 [] [])∧(x.length≤9223372036854775807)∧(∀ p ∈ x,∀ q ∈ y,ai Tryz.prog 128 [aS p,aS q] [] (.int .i64 (sD f p q)) [])∧K (.int .i64 (eP (sD f) x y)) objs 0))
 | _=>False
theorem Zn (f:Nat):aB Tryz.prog 150 (UR f):=by
 intro args objs K h
 unfold UR at h
 split at h
 · rename_i a0 a1 a2
   obtain ⟨x,rfl,y,rfl,rfl,h1,h2,hk⟩:=h
   exact ⟨_,_,_,.pure _ rfl (uZ x y _ _ h1 h2),hk⟩
 · exact h.elim
structure Ok (v:Vl):Prop where
 one:One v
 len:v.length≤1099511627776
 all:∀ n ∈ v,Zm n
theorem Ok.parts {v:Vl}(h:Ok v):(bQ v).length≤1099511627776∧(fC v).length≤1099511627776∧∀ p ∈ bQ v,Ok p∧p.length+1≤v.length:=by
 cases v with
 | nil=>exact absurd rfl h.one.ne
 | cons n r=>
  obtain ⟨hm,ps,h1,h2,h3⟩:=h.one.parts
  have hpl:=eO _ _ _ h1
  have hpn:=bS _ _ _ h1
  have hlen:=h.len
  simp only [List.length_cons] at hlen
  refine ⟨?_,?_,?_⟩
  · rw [bQ,(gF h1).1,List.length_map];omega
  · rw [fC];split
    · rw [(gF h1).2,List.length_map];omega
    · simp
  · intro p hp
    rw [bQ,(gF h1).1] at hp
    obtain ⟨q,hq,rfl⟩:=List.mem_map.1 hp
    have XO:=lC hq
    rw [h2] at XO
    refine ⟨⟨(h3 q hq).j4,by rw [gZ];omega,?_⟩,by rw [gZ,List.length_cons];omega⟩
    have hin:∀ x ∈ q,Zm x:=fun x hx=>h.all x (List.mem_cons_of_mem _ (by rw [← h2];exact List.mem_flatten.2 ⟨q,hq,hx⟩))
    intro x hx
    cases q with
    | nil=>cases hx
    | cons m s=>
     rcases List.mem_cons.1 hx with rfl | hx
     · exact hin m (List.mem_cons_self ..)
     · exact hin x (List.mem_cons_of_mem _ hx)
theorem zB:∀ (f:Nat) (a b:Vl),a.length≤f→Ok a→Ok b→ai Tryz.prog 128 [aS a,aS b] [] (.int .i64 (sD f a b)) []
 | 0,a,b,h,ha,_=>by have:=ha.one.ne;cases a <;> simp at h this
 | f+1,[],b,_,ha,_=>absurd rfl ha.one.ne
 | f+1,n::r,[],_,_,hb=>absurd rfl hb.one.ne
 | f+1,n::r,m::q,h,ha,hb=>by
  have hpa:=ha.parts
  have hpb:=hb.parts
  have ih:∀ p ∈ bQ (n::r),∀ p' ∈ bQ (m::q),ai Tryz.prog 128 [aS p,aS p'] [] (.int .i64 (sD f p p')) []:=
   fun p hp p' hp'=>zB f p p' (by have:=(hpa.2.2 p hp).2;omega) (hpa.2.2 p hp).1 (hpb.2.2 p' hp').1
  refine Oz.pure (T:=aR Tryz.prog [(145,yh),(146,yo),(147,yj),(148,Mq),(149,BN),(151,BM),(150,(UR f))]) 0 hD (aj (af Hr (af Ml (af Ht (af WI (af Py (af Px (af (Zn f) ah)))))))) a_ (by decide) ?_
  (conv=>arg 4;cbv);simp(maxSteps:=400000)only[↓aV,aW,BEq.rfl,reduceIte,reduceCtorEq,Nat.reduceLT,Nat.reduceAdd,Nat.reduceSub,Nat.reduceMul,Nat.reduceBEq,Nat.reduceLeDiff,Int.reduceToNat,Int.reduceLE,↓yh,↓yo,↓yj,↓Mq,↓BN,↓BM,↓UR]
  have e1:Zm n:=ha.all n (List.mem_cons_self ..)
  have e2:Zm m:=hb.all m (List.mem_cons_self ..)
  have l1:r.length≤1099511627775:=by have:=ha.len;simp only [List.length_cons] at this;omega
  have l2:q.length≤1099511627775:=by have:=hb.len;simp only [List.length_cons] at this;omega
  have l3:(bQ (n::r)).length≤9223372036854775807:=by have:=hpa.1;omega
  have l4:(fC (n::r)).length≤9223372036854775807:=by have:=hpa.2.1;omega
  have l5:(fC (m::q)).length≤9223372036854775807:=by have:=hpb.2.1;omega
  refine ⟨fun hk=>?_,fun hk=>?_⟩
  · have hk:n.kind=m.kind:=(pU.zero _ _ trivial trivial).1 hk
    have k0:¬ (n.kind≠m.kind):=fun h=>h hk
    refine ⟨fun h3=>⟨e1,e2,?_⟩,fun h3=>⟨fun h4=>?_,fun h4=>⟨fun h6=>⟨l1,ha.one,l2,hb.one,l4,l5,fun hl=>⟨l1,ha.one,l2,hb.one,l3,ih,?_⟩,fun hl=>?_⟩,fun h6=>⟨fun h5=>⟨l1,ha.one,l2,hb.one,l3,ih,?_⟩,fun h5=>?_⟩⟩⟩⟩
    · simp only [sD,jF,if_neg k0,if_pos h3]
    · simp only [sD,jF,if_neg k0,if_neg h3,if_pos h4]
    · have h5:¬ n.kind=5:=by omega
      have h6':m.kind=6:=by omega
      simp only [fC,if_pos h6,if_pos h6'] at hl
      simp only [sD,jF,if_neg k0,if_neg h3,if_neg h4,if_neg h5,if_pos h6,if_pos hl,bQ]
    · have h5:¬ n.kind=5:=by omega
      have h6':m.kind=6:=by omega
      simp only [fC,if_pos h6,if_pos h6'] at hl ⊢
      simp only [sD,jF,if_neg k0,if_neg h3,if_neg h4,if_neg h5,if_pos h6,if_neg hl]
    · simp only [sD,jF,if_neg k0,if_neg h3,if_neg h4,if_pos h5,bQ]
    · simp only [sD,jF,if_neg k0,if_neg h3,if_neg h4,if_neg h5,if_neg h6]
  · have hk':n.kind≠m.kind:=fun h=>hk ((pU.zero _ _ trivial trivial).2 h)
    simp only [sD,jF,if_pos hk']
def yt (f:Nat):dF:=fun args objs K=>match args with
 | [a0,a1]=>fB aS a0 (HK.mk:HK fun a=>fB aS a1 (HK.mk:HK fun b=>(a.length≤f)∧(Ok a)∧(Ok b)∧K (.int .i64 (sD f a b)) objs 0))
 | _=>False
theorem Mr (f:Nat):aB Tryz.prog 128 (yt f):=by
 intro args objs K h
 unfold yt at h
 split at h
 · rename_i a0 a1
   obtain ⟨a,rfl,b,rfl,h1,h2,h3,hk⟩:=h
   exact ⟨_,_,_,.pure _ rfl (zB f a b h1 h2 h3),hk⟩
 · exact h.elim
end Lp
namespace Lp
open Go Go.Proofs
open Nat (lt_or_ge reduceAdd reduceLeDiff reduceMul reduceSub)
open Int (reduceLE reduceToNat)
def Ey (a b:Bool):Int:=if b then 0 else if a then -1 else 1
theorem WJ (a b:Bool):ai Tryz.prog 78 [.bool a,.bool b] [] (.int .i64 (Ey a b)) []:=by
 refine Bd.bg (T:=aR Tryz.prog []) 0 hD (aj ah) a_ (by decide) fun Q hQ=>?_
 cases a <;> cases b
 all_goals (conv=>arg 4;cbv);simp(maxSteps:=400000)only[↓aV,aW,BEq.rfl,reduceIte,reduceCtorEq,Nat.reduceLT,reduceAdd,reduceSub,reduceMul,Nat.reduceBEq,reduceLeDiff,reduceToNat,reduceLE,hQ,Ey]
def gU:dF:=fun args objs K=>match args with
 | [.bool a,.bool b]=>K (.int .i64 (Ey a b)) objs 0
 | _=>False
theorem Af:aB Tryz.prog 78 (gU):=by
 intro args objs K h
 unfold gU at h
 split at h
 · rename_i a b
   have hk:=h
   exact ⟨_,_,_,.pure _ rfl (WJ a b),hk⟩
 · exact h.elim
theorem KE {α:Type}(f:α→α→Int) (a b:List α) (h:a=[]∨b=[]):eP f a b=Ey (decide ((a.length:Int)<b.length)) (decide ((a.length:Int)=b.length)):=by
 rcases h with rfl | rfl
 · cases b with
   | nil=>rfl
   | cons y ys=>
    have h1:decide ((([]:List α).length:Int)<((y::ys).length:Int))=true:=by simp <;> omega
    have h2:decide ((([]:List α).length:Int)=((y::ys).length:Int))=false:=by simp <;> omega
    rw [h1,h2];rfl
 · cases a with
   | nil=>rfl
   | cons y ys=>
    have h1:decide (((y::ys).length:Int)<(([]:List α).length:Int))=false:=by simp <;> omega
    have h2:decide (((y::ys).length:Int)=(([]:List α).length:Int))=false:=by simp <;> omega
    rw [h1,h2];rfl
theorem Jo (a b:List (List UInt8)) (ha:a.length≤1000000) (hb:b.length≤1000000):ai Tryz.prog 81 [kG a,kG b] [] (.int .i64 (eP jM a b)) []:=by
 refine zS.bg (T:=aR Tryz.prog [(78,gU)]) 0 hD (aj (af Af ah)) a_ (by decide) fun Q hQ=>?_
 (conv=>arg 4;cbv);simp(maxSteps:=400000)only[↓aV,aW,BEq.rfl,reduceIte,reduceCtorEq,Nat.reduceLT,reduceAdd,reduceSub,reduceMul,Nat.reduceBEq,reduceLeDiff,reduceToNat,reduceLE,hQ]
 refine aH (fun m S=>∃ i:Nat,i+m=a.length∧i≤b.length∧eP jM (a.drop i) (b.drop i)=eP jM a b∧S=⟨dI 48 [(0,kG a),(1,kG b),(5,.int .i64 i)],[]⟩) a.length ⟨0,by omega,by omega,rfl,?_⟩ ?_
 · simp only [bW,keepR,reduceAdd,nu,Nat.reduceBEq,List.map_nil]
   rfl
 rintro m S ⟨i,him,hib,hlx,rfl⟩
 have zi:(0≤(i:Int))=True:=eq_true (by omega)
 have fin:a.length≤i∨b.length≤i→eP jM a b=Ey (decide ((a.length:Int)<b.length)) (decide ((a.length:Int)=b.length)):=by
  intro h
  rw [← hlx,KE]
  · simp only [List.length_drop]
    congr 1
    · exact decide_eq_decide.2 (by omega)
    · exact decide_eq_decide.2 (by omega)
  · rcases h with h | h
    · exact .inl (List.drop_eq_nil_of_le h)
    · exact .inr (List.drop_eq_nil_of_le h)
 rcases lt_or_ge i a.length with h | h
 rotate_left 1
 · have hlt:((i:Int)<(a.length:Int))=False:=eq_false (by omega)
   simp(maxSteps:=400000)only[↓aV,aW,BEq.rfl,reduceIte,reduceCtorEq,Nat.reduceLT,reduceAdd,reduceSub,reduceMul,Nat.reduceBEq,reduceLeDiff,reduceToNat,reduceLE,hQ,hlt,↓gU]
   rw [fin (.inl h)]
 have hlt:((i:Int)<(a.length:Int))=True:=eq_true (by omega)
 rcases lt_or_ge i b.length with h' | h'
 rotate_left 1
 · have hlt2:((i:Int)<(b.length:Int))=False:=eq_false (by omega)
   simp(maxSteps:=400000)only[↓aV,aW,BEq.rfl,reduceIte,reduceCtorEq,Nat.reduceLT,reduceAdd,reduceSub,reduceMul,Nat.reduceBEq,reduceLeDiff,reduceToNat,reduceLE,hQ,hlt,hlt2,↓gU]
   rw [fin (.inr h')]
 have hlt2:((i:Int)<(b.length:Int))=True:=eq_true (by omega)
 have ga:=List.getElem?_eq_getElem h
 have gb:=List.getElem?_eq_getElem h'
 have da:=List.drop_eq_getElem_cons h
 have db:=List.drop_eq_getElem_cons h'
 generalize a[i]=x at ga da
 generalize b[i]=y at gb db
 rw [da,db,eP] at hlx
 by_cases hxy:x=y
 · subst hxy
   rw [if_pos ((CR.zero _ _ trivial trivial).2 rfl)] at hlx
   simp(maxSteps:=400000)only[↓aV,aW,BEq.rfl,reduceIte,reduceCtorEq,Nat.reduceLT,reduceAdd,reduceSub,reduceMul,Nat.reduceBEq,reduceLeDiff,reduceToNat,reduceLE,hQ,hlt,hlt2,zi,ga,gb,↓gU]
   exact ⟨⟨by omega,by omega⟩,m-1,by omega,i+1,by omega,by omega,hlx,by simp⟩
 · have hne:jM x y≠0:=fun h=>hxy ((CR.zero _ _ trivial trivial).1 h)
   rw [if_neg hne] at hlx
   simp(maxSteps:=400000)only[↓aV,aW,BEq.rfl,reduceIte,reduceCtorEq,Nat.reduceLT,reduceAdd,reduceSub,reduceMul,Nat.reduceBEq,reduceLeDiff,reduceToNat,reduceLE,hQ,hlt,hlt2,zi,ga,gb,hxy,↓gU]
   rw [← hlx]
   rcases ko x y with ⟨h1,e1⟩ | ⟨h1,_⟩ | ⟨h1,e1⟩
   · rw [e1,h1];rfl
   · exact absurd h1 hxy
   · rw [e1,mg _ _ h1];rfl
def rE:dF:=fun args objs K=>match args with
 | [a0,a1]=>fB kG a0 (HK.mk:HK fun a=>fB kG a1 (HK.mk:HK fun b=>(a.length≤1000000)∧(b.length≤1000000)∧K (.int .i64 (eP jM a b)) objs 0))
 | _=>False
theorem Hu:aB Tryz.prog 81 (rE):=by
 intro args objs K h
 unfold rE at h
 split at h
 · rename_i a0 a1
   obtain ⟨a,rfl,b,rfl,h1,h2,hk⟩:=h
   exact ⟨_,_,_,.pure _ rfl (Jo a b h1 h2),hk⟩
 · exact h.elim
def BO (f:Vl→Vl→Int):dF:=fun args objs K=>match args with
 | [a0,a1]=>fB aS a0 (HK.mk:HK fun p=>fB aS a1 (HK.mk:HK fun q=>(ai Tryz.prog 51 [aS p,aS q] [] (.int .i64 (f p q)) [])∧K (.int .i64 (f p q)) objs 0))
 | _=>False
theorem SG (f:Vl→Vl→Int):aB Tryz.prog 51 (BO f):=by
 intro args objs K h
 unfold BO at h
 split at h
 · rename_i a0 a1
   obtain ⟨p,rfl,q,rfl,h1,hk⟩:=h
   exact ⟨_,_,_,.pure _ rfl (h1),hk⟩
 · exact h.elim
theorem Ms (f:Vl→Vl→Int) (a b:List Vl) (ha:a.length≤1000000) (hb:b.length≤1000000) (hf:∀ p ∈ a,∀ q ∈ b,ai Tryz.prog 51 [aS p,aS q] [] (.int .i64 (f p q)) []):ai Tryz.prog 80 [mO a,mO b] [] (.int .i64 (eP f a b)) []:=by
 refine Be.bg (T:=aR Tryz.prog [(51,(BO f)),(78,gU)]) 0 hD (aj (af (SG f) (af Af ah))) a_ (by decide) fun Q hQ=>?_
 (conv=>arg 4;cbv);simp(maxSteps:=400000)only[↓aV,aW,BEq.rfl,reduceIte,reduceCtorEq,Nat.reduceLT,reduceAdd,reduceSub,reduceMul,Nat.reduceBEq,reduceLeDiff,reduceToNat,reduceLE,hQ]
 refine aH (fun m S=>∃ i:Nat,i+m=a.length∧i≤b.length∧eP f (a.drop i) (b.drop i)=eP f a b∧S=⟨dI 42 [(0,mO a),(1,mO b),(5,.int .i64 i)],[]⟩) a.length ⟨0,by omega,by omega,rfl,?_⟩ ?_
 · simp only [bW,keepR,reduceAdd,nu,Nat.reduceBEq,List.map_nil]
   rfl
 rintro m S ⟨i,him,hib,hlx,rfl⟩
 have zi:(0≤(i:Int))=True:=eq_true (by omega)
 have fin:a.length≤i∨b.length≤i→eP f a b=Ey (decide ((a.length:Int)<b.length)) (decide ((a.length:Int)=b.length)):=by
  intro h
  rw [← hlx,KE]
  · simp only [List.length_drop]
    congr 1
    · exact decide_eq_decide.2 (by omega)
    · exact decide_eq_decide.2 (by omega)
  · rcases h with h | h
    · exact .inl (List.drop_eq_nil_of_le h)
    · exact .inr (List.drop_eq_nil_of_le h)
 rcases lt_or_ge i a.length with h | h
 rotate_left 1
 · have hlt:((i:Int)<(a.length:Int))=False:=eq_false (by omega)
   simp(maxSteps:=400000)only[↓aV,aW,BEq.rfl,reduceIte,reduceCtorEq,Nat.reduceLT,reduceAdd,reduceSub,reduceMul,Nat.reduceBEq,reduceLeDiff,reduceToNat,reduceLE,hQ,hlt,↓gU]
   rw [fin (.inl h)]
 have hlt:((i:Int)<(a.length:Int))=True:=eq_true (by omega)
 rcases lt_or_ge i b.length with h' | h'
 rotate_left 1
 · have hlt2:((i:Int)<(b.length:Int))=False:=eq_false (by omega)
   simp(maxSteps:=400000)only[↓aV,aW,BEq.rfl,reduceIte,reduceCtorEq,Nat.reduceLT,reduceAdd,reduceSub,reduceMul,Nat.reduceBEq,reduceLeDiff,reduceToNat,reduceLE,hQ,hlt,hlt2,↓gU]
   rw [fin (.inr h')]
 have hlt2:((i:Int)<(b.length:Int))=True:=eq_true (by omega)
 have ga:=List.getElem?_eq_getElem h
 have gb:=List.getElem?_eq_getElem h'
 have da:=List.drop_eq_getElem_cons h
 have db:=List.drop_eq_getElem_cons h'
 have hfx:=hf _ (List.getElem_mem h) _ (List.getElem_mem h')
 generalize a[i]=x at ga da hfx
 generalize b[i]=y at gb db hfx
 rw [da,db,eP] at hlx
 by_cases hxy:f x y=0
 · rw [if_pos hxy] at hlx
   simp(maxSteps:=400000)only[↓aV,aW,BEq.rfl,reduceIte,reduceCtorEq,Nat.reduceLT,reduceAdd,reduceSub,reduceMul,Nat.reduceBEq,reduceLeDiff,reduceToNat,reduceLE,hQ,hlt,hlt2,zi,ga,gb,hxy,↓gU,↓BO]
   exact ⟨by rw [← hxy];exact hfx,⟨by omega,by omega⟩,m-1,by omega,i+1,by omega,by omega,hlx,by simp⟩
 · rw [if_neg hxy] at hlx
   simp(maxSteps:=400000)only[↓aV,aW,BEq.rfl,reduceIte,reduceCtorEq,Nat.reduceLT,reduceAdd,reduceSub,reduceMul,Nat.reduceBEq,reduceLeDiff,reduceToNat,reduceLE,hQ,hlt,hlt2,zi,ga,gb,hxy,↓gU,↓BO]
   exact ⟨hfx,by rw [hlx]⟩
end Lp
namespace Lp
open Go Go.Proofs
open Nat (reduceAdd reduceLeDiff reduceMul reduceSub)
open Int (reduceEq reduceLE reduceToNat)
structure Ok2 (v:Vl):Prop where
 one:One v
 len:v.length≤1000000
 all:∀ n ∈ v,n.kind=3→BL n
theorem Ok2.parts {v:Vl}(h:Ok2 v):(bQ v).length≤1000000∧(fC v).length≤1000000∧∀ p ∈ bQ v,Ok2 p∧p.length+1≤v.length:=by
 cases v with
 | nil=>exact absurd rfl h.one.ne
 | cons n r=>
  obtain ⟨hm,ps,h1,h2,h3⟩:=h.one.parts
  have hpl:=eO _ _ _ h1
  have hpn:=bS _ _ _ h1
  have hlen:=h.len
  simp only [List.length_cons] at hlen
  refine ⟨?_,?_,?_⟩
  · rw [bQ,(gF h1).1,List.length_map];omega
  · rw [fC];split
    · rw [(gF h1).2,List.length_map];omega
    · simp
  · intro p hp
    rw [bQ,(gF h1).1] at hp
    obtain ⟨q,hq,rfl⟩:=List.mem_map.1 hp
    have XO:=lC hq
    rw [h2] at XO
    refine ⟨⟨(h3 q hq).j4,by rw [gZ];omega,?_⟩,by rw [gZ,List.length_cons];omega⟩
    have hin:∀ x ∈ q,x.kind=3→BL x:=fun x hx=>h.all x (List.mem_cons_of_mem _ (by rw [← h2];exact List.mem_flatten.2 ⟨q,hq,hx⟩))
    intro x hx
    cases q with
    | nil=>cases hx
    | cons m s=>
     rcases List.mem_cons.1 hx with rfl | hx
     · intro hk
       have:=hin m (List.mem_cons_self ..) hk
       exact ⟨this.len,this.gq,this.lo,this.hi⟩
     · exact hin x (List.mem_cons_of_mem _ hx)
def BP (f:Vl→Vl→Int):dF:=fun args objs K=>match args with
 | [a0,a1]=>fB mO a0 (HK.mk:HK fun x=>fB mO a1 (HK.mk:HK fun y=>(x.length≤1000000)∧(y.length≤1000000)∧(∀ p ∈ x,∀ q ∈ y,ai Tryz.prog 51 [aS p,aS q] [] (.int .i64 (f p q)) [])∧K (.int .i64 (eP f x y)) objs 0))
 | _=>False
theorem SH (f:Vl→Vl→Int):aB Tryz.prog 80 (BP f):=by
 intro args objs K h
 unfold BP at h
 split at h
 · rename_i a0 a1
   obtain ⟨x,rfl,y,rfl,h1,h2,h3,hk⟩:=h
   exact ⟨_,_,_,.pure _ rfl (Ms f x y h1 h2 h3),hk⟩
 · exact h.elim
theorem Hw {a b a' b':Nd}(h1:∀ p,zA a p=zA a' p) (h2:∀ p,zA b p=zA b' p):∀ (k:Nat) (p:Int),mV a b k p=mV a' b' k p
 | 0,_=>rfl
 | k+1,p=>by simp only [mV,h1,h2,Hw h1 h2 k]
theorem SI (n m:Nd) (k l:Int) (x y:List UInt8):lq { n with kind:=k,name:=x } { m with kind:=l,name:=y }=lq n m:=by
 have hd:∀ (j:Nat) (p:Int),mV { n with kind:=k,name:=x } { m with kind:=l,name:=y } j p=mV n m j p:=Hw (fun _=>rfl) (fun _=>rfl)
 simp only [lq,hd]
 rfl
theorem BQ:∀ (f:Nat) (a b:Vl),a.length≤f→Ok2 a→Ok2 b→ai Tryz.prog 51 [aS a,aS b] [] (.int .i64 (jF lq f a b)) []
 | 0,a,b,h,ha,_=>by have:=ha.one.ne;cases a <;> simp at h this
 | f+1,[],b,_,ha,_=>absurd rfl ha.one.ne
 | f+1,n::r,[],_,_,hb=>absurd rfl hb.one.ne
 | f+1,n::r,m::q,h,ha,hb=>by
  have hpa:=ha.parts
  have hpb:=hb.parts
  have ih:∀ p ∈ bQ (n::r),∀ p' ∈ bQ (m::q),ai Tryz.prog 51 [aS p,aS p'] [] (.int .i64 (jF lq f p p')) []:=
   fun p hp p' hp'=>BQ f p p' (by have:=(hpa.2.2 p hp).2;omega) (hpa.2.2 p hp).1 (hpb.2.2 p' hp').1
  have l1:=ha.len
  have l2:=hb.len
  have o1:=ha.one
  have o2:=hb.one
  generalize hA:n::r=A at *
  generalize hB:m::q=B at *
  have ga:A[0]?=some n:=by rw [← hA];rfl
  have gb:B[0]?=some m:=by rw [← hB];rfl
  have na:=ha.all n (by rw [← hA];exact List.mem_cons_self ..)
  have nb:=hb.all m (by rw [← hB];exact List.mem_cons_self ..)
  have pA:bQ A=partsOf n r:=by rw [← hA];rfl
  have pB:bQ B=partsOf m q:=by rw [← hB];rfl
  have sA:fC A=if n.kind=6 then uz n r else []:=by rw [← hA];rfl
  have sB:fC B=if m.kind=6 then uz m q else []:=by rw [← hB];rfl
  have res:jF lq (f+1) A B=jF lq (f+1) (n::r) (m::q):=by rw [hA,hB]
  refine Dl.bg (T:=aR Tryz.prog [(78,gU),(79,yg),(42,oL),(82,nY),(81,rE),(80,(BP (jF lq f)))]) 0 hD (aj (af Af (af Mg (af G_ (af DF (af Hu (af (SH (jF lq f)) ah))))))) a_ (by decide) fun Q hQ=>?_
  by_cases hk:n.kind=m.kind
  rotate_left 1
  · (conv=>arg 4;cbv);simp(maxSteps:=400000)only[↓aV,aW,BEq.rfl,reduceIte,reduceCtorEq,Nat.reduceLT,reduceAdd,reduceSub,reduceMul,Nat.reduceBEq,reduceLeDiff,reduceToNat,reduceLE,hQ,ga,gb,hk,↓gU]
    have:jF lq (f+1) A B=Ey (decide (n.kind<m.kind)) false:=by
     rw [res]
     simp only [jF,ne_eq,hk,not_false_eq_true,if_true,uw,Ey,decide_eq_true_eq,Bool.false_eq_true,if_false]
     split
     · rfl
     · rw [if_pos (by omega)]
    rw [this]
  by_cases h3:n.kind=3
  · have h3':m.kind=3:=by omega
    have e3:jF lq (f+1) A B=lq n m:=by
     rw [res];simp [jF,hk,h3']
    (conv=>arg 4;cbv);simp(maxSteps:=400000)only[↓aV,aW,BEq.rfl,reduceIte,reduceCtorEq,Nat.reduceLT,reduceAdd,reduceSub,reduceMul,Nat.reduceBEq,reduceLeDiff,reduceToNat,reduceLE,hQ,ga,gb,h3,h3',↓gU,↓yg,reduceEq,bO,bP]
    refine ⟨by decide,?_,?_,?_⟩
    · have:=na h3;exact ⟨this.len,this.gq,this.lo,this.hi⟩
    · have:=nb h3';exact ⟨this.len,this.gq,this.lo,this.hi⟩
    · rw [e3];exact congrArg _ (SI n m 3 3 [] []).symm
  by_cases h4:n.kind=4
  · have h4':m.kind=4:=by omega
    (conv=>arg 4;cbv);simp(maxSteps:=400000)only[↓aV,aW,BEq.rfl,reduceIte,reduceCtorEq,Nat.reduceLT,reduceAdd,reduceSub,reduceMul,Nat.reduceBEq,reduceLeDiff,reduceToNat,reduceLE,hQ,ga,gb,h4,h4',↓gU,reduceEq]
    have e4:jF lq (f+1) A B=jM n.s m.s:=by
     rw [res];simp [jF,hk,h4']
    rw [e4]
    rcases ko n.s m.s with ⟨g1,e1⟩ | ⟨g1,e1⟩ | ⟨g1,e1⟩
    · have:n.s≠m.s:=fun hh=>by rw [hh,eu] at g1;cases g1
      rw [e1,g1,decide_eq_false this];rfl
    · rw [e1,decide_eq_true g1];rfl
    · have:n.s≠m.s:=fun hh=>by rw [hh,eu] at g1;cases g1
      rw [e1,decide_eq_false this,mg _ _ g1];rfl
  by_cases h5:n.kind=5
  · have h5':m.kind=5:=by omega
    (conv=>arg 4;cbv);simp(maxSteps:=400000)only[↓aV,aW,BEq.rfl,reduceIte,reduceCtorEq,Nat.reduceLT,reduceAdd,reduceSub,reduceMul,Nat.reduceBEq,reduceLeDiff,reduceToNat,reduceLE,hQ,ga,gb,h5,h5',↓gU,reduceEq,↓oL,↓BP]
    have e5:jF lq (f+1) A B=eP (jF lq f) (bQ A) (bQ B):=by
     rw [res,pA,pB];simp [jF,hk,h5']
    exact ⟨o1,l1,o2,l2,hpa.1,hpb.1,ih,by rw [e5]⟩
  by_cases h6:n.kind=6
  · have h6':m.kind=6:=by omega
    (conv=>arg 4;cbv);simp(maxSteps:=400000)only[↓aV,aW,BEq.rfl,reduceIte,reduceCtorEq,Nat.reduceLT,reduceAdd,reduceSub,reduceMul,Nat.reduceBEq,reduceLeDiff,reduceToNat,reduceLE,hQ,ga,gb,h6,h6',↓gU,reduceEq,↓oL,↓BP,↓nY,↓rE]
    have e6:jF lq (f+1) A B=if eP jM (fC A) (fC B)=0 then eP (jF lq f) (bQ A) (bQ B) else eP jM (fC A) (fC B):=by
     rw [res,pA,pB,sA,sB,if_pos h6,if_pos h6'];simp [jF,hk,h6']
    refine ⟨o1,l1,o2,l2,hpa.2.1,hpb.2.1,fun hz=>⟨o1,l1,o2,l2,hpa.1,hpb.1,ih,?_⟩,fun hz=>?_⟩
    · rw [e6,if_pos hz]
    · rw [e6,if_neg hz]
  · have e0:jF lq (f+1) A B=0:=by
     rw [res];simp only [jF,hk,ne_eq,not_true_eq_false,if_false,hk ▸ h3,hk ▸ h4,hk ▸ h5,hk ▸ h6]
    (conv=>arg 4;cbv);simp(maxSteps:=400000)only[↓aV,aW,BEq.rfl,reduceIte,reduceCtorEq,Nat.reduceLT,reduceAdd,reduceSub,reduceMul,Nat.reduceBEq,reduceLeDiff,reduceToNat,reduceLE,hQ,ga,gb,hk ▸ h3,hk ▸ h4,hk ▸ h5,hk ▸ h6,hk,↓gU,e0]
def FO (f:Nat):dF:=fun args objs K=>match args with
 | [a0,a1]=>fB aS a0 (HK.mk:HK fun a=>fB aS a1 (HK.mk:HK fun b=>(a.length≤f)∧(Ok2 a)∧(Ok2 b)∧K (.int .i64 (jF lq f a b)) objs 0))
 | _=>False
theorem SK (f:Nat):aB Tryz.prog 51 (FO f):=by
 intro args objs K h
 unfold FO at h
 split at h
 · rename_i a0 a1
   obtain ⟨a,rfl,b,rfl,h1,h2,h3,hk⟩:=h
   exact ⟨_,_,_,.pure _ rfl (BQ f a b h1 h2 h3),hk⟩
 · exact h.elim
end Lp
namespace Lp
open Go
theorem Mt {v:Vl}(h:dJ v=true):∀ n ∈ v,bH n=true:=by
 have hg:=(xL h).good
 intro n hn
 obtain ⟨i,hi,rfl⟩:=List.getElem_of_mem hn
 exact (hg i v[i] (v.drop (i+1)) (List.drop_eq_getElem_cons hi)).1
theorem qC {n:Nd}(h:bH n=true) (hk:n.kind=3):rM n=true:=by
 rw [bH,if_neg (by omega),if_pos hk] at h
 exact h
theorem UU {n:Nd}(h:rM n=true):BL n:=by
 have:=(oK n).1 h
 exact ⟨by omega,this.2.1,by omega,by omega⟩
theorem WK {n:Nd}(h:bH n=true) (hs:n.s.length≤1000000):Zm n:=by
 refine ⟨hs,?_⟩
 by_cases h3:n.kind=3
 · have:=UU (qC h h3)
   exact ⟨this.lo,this.hi⟩
 · have he:n.e=0:=by
    unfold bH at h
    split at h
    · simp only [Bool.and_eq_true,beq_iff_eq] at h;exact h.2
    · split at h
      · simp only [Bool.and_eq_true,beq_iff_eq] at h;exact h.2
      · split at h
        · simp only [Bool.and_eq_true,beq_iff_eq] at h;exact h.2
        · cases h
   omega
structure aem (v:Vl) (k:Nat):Prop where
 len:v.length≤k
 rt:Rt v
 ok:Ok v
 ok2:Ok2 v
end Lp
namespace Lp
open Go
open List (drop_eq_nil_of_le)
def tN:List UInt8→List UInt8→Int
 | [],[]=>0
 | [],y::ys=>if 48<y.toNat then -1 else tN [] ys
 | x::xs,[]=>if 48<x.toNat then 1 else tN xs []
 | x::xs,y::ys=>if x.toNat<y.toNat then -1 else if y.toNat<x.toNat then 1 else tN xs ys
theorem Pz {s:List UInt8}(h:gq s=true):∀ c ∈ s,48≤c.toNat∧c.toNat≤57:=by
 intro c hc
 obtain ⟨i,hi,rfl⟩:=List.getElem_of_mem hc
 exact qB h (List.getElem?_eq_getElem hi)
theorem Mv (n:Nd) (i:Nat):zA n ((n.s.length:Int)+n.e-1-i)=match n.s[i]? with | some c=>(c.toNat:Int)-48 | none=>0:=by
 have e:(n.s.length:Int)-1-((n.s.length:Int)+n.e-1-i-n.e)=i:=by omega
 simp only [zA,e]
 rw [if_neg (by omega),Int.toNat_natCast]
 try rfl
theorem PD (a b:Nd) (ha:gq a.s=true) (hb:gq b.s=true) (ht:(a.s.length:Int)+a.e=b.s.length+b.e):∀ (k i:Nat),a.s.length≤i+k→b.s.length≤i+k→mV a b k ((a.s.length:Int)+a.e-1-i)=tN (a.s.drop i) (b.s.drop i)
 | 0,i,h1,h2=>by
  rw [drop_eq_nil_of_le (by omega),drop_eq_nil_of_le (by omega)]
  simp only [mV,tN]
 | k+1,i,h1,h2=>by
  have ih:=PD a b ha hb ht k (i+1) (by omega) (by omega)
  have e:(a.s.length:Int)+a.e-1-((i+1:Nat):Int)=(a.s.length:Int)+a.e-1-i-1:=by omega
  rw [e] at ih
  have fa:=Mv a i
  have fb:=Mv b i
  rw [← ht] at fb
  simp only [mV,ih]
  rcases Nat.lt_or_ge i a.s.length with la | la <;> rcases Nat.lt_or_ge i b.s.length with lb | lb
  · rw [List.getElem?_eq_getElem la] at fa
    rw [List.getElem?_eq_getElem lb] at fb
    simp only at fa fb
    rw [List.drop_eq_getElem_cons la,List.drop_eq_getElem_cons lb,tN,fa,fb]
    by_cases c1:a.s[i].toNat<b.s[i].toNat
    · rw [if_pos (by omega),if_pos c1]
    · rw [if_neg (by omega),if_neg c1]
      by_cases c2:b.s[i].toNat<a.s[i].toNat
      · rw [if_pos (by omega),if_pos c2]
      · rw [if_neg (by omega),if_neg c2]
  · rw [List.getElem?_eq_getElem la] at fa
    rw [List.getElem?_eq_none lb] at fb
    simp only at fa fb
    have:=qB ha (List.getElem?_eq_getElem la)
    rw [List.drop_eq_getElem_cons la,drop_eq_nil_of_le lb,drop_eq_nil_of_le (by omega:b.s.length≤i+1),tN,fa,fb]
    by_cases c1:48<a.s[i].toNat
    · rw [if_neg (by omega),if_pos (by omega),if_pos c1]
    · rw [if_neg (by omega),if_neg (by omega),if_neg c1]
  · rw [List.getElem?_eq_none la] at fa
    rw [List.getElem?_eq_getElem lb] at fb
    simp only at fa fb
    have:=qB hb (List.getElem?_eq_getElem lb)
    rw [List.drop_eq_getElem_cons lb,drop_eq_nil_of_le la,drop_eq_nil_of_le (by omega:a.s.length≤i+1),tN,fa,fb]
    by_cases c1:48<b.s[i].toNat
    · rw [if_pos (by omega),if_pos c1]
    · rw [if_neg (by omega),if_neg (by omega),if_neg c1]
  · rw [List.getElem?_eq_none la] at fa
    rw [List.getElem?_eq_none lb] at fb
    simp only at fa fb
    rw [drop_eq_nil_of_le la,drop_eq_nil_of_le lb,drop_eq_nil_of_le (by omega:a.s.length≤i+1),drop_eq_nil_of_le (by omega:b.s.length≤i+1),fa,fb]
    simp
theorem Hy:∀ ys:List UInt8,(∀ c ∈ ys,48≤c.toNat)→ys≠[]→ys.getLast?≠some 48→tN [] ys=-1
 | [],_,h,_=>absurd rfl h
 | [y],hf,_,hl=>by
  have h1:=hf y (List.mem_cons_self ..)
  have h2:y.toNat≠48:=fun h=>hl (by rw [List.getLast?_singleton];congr 1;exact UInt8.toNat_inj.1 (by simpa using h))
  rw [tN,if_pos (by omega)]
 | y::z::ys,hf,_,hl=>by
  rw [tN]
  split
  · rfl
  · exact Hy (z::ys) (fun c hc=>hf c (List.mem_cons_of_mem _ hc)) (by simp) (by rwa [List.getLast?_cons_cons] at hl)
theorem yu:∀ xs ys:List UInt8,tN ys xs=-tN xs ys
 | [],[]=>by simp [tN]
 | [],y::ys=>by
  simp only [tN];split
  · rfl
  · exact yu [] ys
 | x::xs,[]=>by
  simp only [tN];split
  · rfl
  · exact yu xs []
 | x::xs,y::ys=>by
  simp only [tN]
  have:=yu xs ys
  repeat' split
  all_goals omega
theorem PE:∀ xs ys:List UInt8,(∀ c ∈ xs,48≤c.toNat)→(∀ c ∈ ys,48≤c.toNat)→xs.getLast?≠some 48→ys.getLast?≠some 48→tN xs ys=jM xs ys
 | [],[],_,_,_,_=>by simp [tN,jM,Op.bytesLess]
 | [],y::ys,_,hb,_,lb=>by rw [Hy (y::ys) hb (by simp) lb];rfl
 | x::xs,[],ha,_,la,_=>by rw [yu,Hy (x::xs) ha (by simp) la];rfl
 | x::xs,y::ys,ha,hb,la,lb=>by
  have hla:xs.getLast?≠some 48:=by
   cases xs with
   | nil=>simp
   | cons z zs=>rwa [List.getLast?_cons_cons] at la
  have hlb:ys.getLast?≠some 48:=by
   cases ys with
   | nil=>simp
   | cons z zs=>rwa [List.getLast?_cons_cons] at lb
  have ih:=PE xs ys (fun c hc=>ha c (List.mem_cons_of_mem _ hc)) (fun c hc=>hb c (List.mem_cons_of_mem _ hc)) hla hlb
  rw [tN]
  by_cases h1:x.toNat<y.toNat
  · have:x<y:=UInt8.lt_iff_toNat_lt.2 h1
    rw [if_pos h1]
    simp [jM,Op.bytesLess,this]
  · rw [if_neg h1]
    have hn:¬ x<y:=fun h=>h1 (UInt8.lt_iff_toNat_lt.1 h)
    by_cases h2:y.toNat<x.toNat
    · have hxy:x≠y:=fun h=>by rw [h] at h2;omega
      rw [if_pos h2]
      simp [jM,Op.bytesLess,hn,hxy]
    · have hxy:x=y:=UInt8.toNat_inj.1 (by omega)
      subst hxy
      rw [if_neg h2,ih]
      simp [jM,Op.bytesLess]
theorem iH (n:Nd) (p:Int) (h:(n.s.length:Int)+n.e≤p):zA n p=0:=by
 simp only [zA]
 rw [if_pos (by omega)]
theorem yw (n:Nd) (hf:gq n.s=true) (hs:n.s≠[]) (hh:n.s.head?≠some 48):0<zA n ((n.s.length:Int)+n.e-1):=by
 have h:=Mv n 0
 cases hns:n.s with
 | nil=>exact absurd hns hs
 | cons c t=>
  have h0:n.s[0]?=some c:=by rw [hns];rfl
  rw [h0] at h
  simp only [Int.natCast_zero,Int.sub_zero] at h
  have hc:=qB hf h0
  have hne:c.toNat≠48:=fun he=>hh (by rw [hns,List.head?_cons];congr 1;exact UInt8.toNat_inj.1 (by simpa using he))
  rw [← hns,h]
  omega
theorem UW (a b:Nd) (k:Nat) (p:Int) (hk:2≤k) (h0:zA a p=zA b p) (h1:zA a (p-1)<zA b (p-1)):mV a b k p=-1:=by
 obtain ⟨k,rfl⟩:∃ q,k=q+2:=⟨k-2,by omega⟩
 rw [mV,if_neg (by omega),if_neg (by omega),mV,if_pos h1]
theorem UX (a b:Nd) (k:Nat) (p:Int) (hk:2≤k) (h0:zA a p=zA b p) (h1:zA b (p-1)<zA a (p-1)):mV a b k p=1:=by
 obtain ⟨k,rfl⟩:∃ q,k=q+2:=⟨k-2,by omega⟩
 rw [mV,if_neg (by omega),if_neg (by omega),mV,if_neg (by omega),if_pos h1]
theorem KF (a b:Nd) (h:∀ p,zA a p=zA b p):∀ (k:Nat) (p:Int),mV a b k p=0
 | 0,_=>rfl
 | k+1,p=>by
  have:=h p
  rw [mV,if_neg (by omega),if_neg (by omega)]
  exact KF a b h k (p-1)
end Lp
namespace Lp
open Go
theorem DN (a b:Nd) (t:Int) (h:∀ q,t≤q→zA a q=zA b q) (k:Nat):∀ d:Nat,mV a b (k+d) (t+d)=mV a b k t
 | 0=>by simp
 | d+1=>by
  have:=h (t+((d+1:Nat):Int)) (by omega)
  rw [show k+(d+1)=(k+d)+1 by omega,mV,if_neg (by omega),if_neg (by omega),show t+((d+1:Nat):Int)-1=t+d by omega]
  exact DN a b t h k d
theorem WL (a b:Nd) (ha:rM a=true) (hb:rM b=true):mV a b (kT a b-j6 a b+1).toNat (kT a b)=o6 a b:=by
 have A:=(oK a).1 ha
 have B:=(oK b).1 hb
 have hl:∀ x:Nd,x.s≠[]→0<x.s.length:=fun x h=>List.length_pos_iff.2 h
 have zero:∀ n:Nd,n.s=[]→∀ p,zA n p=0:=by
  intro n hn p
  simp only [zA,hn]
  split
  · rfl
  · simp
 by_cases sa:a.s=[]
 · have ea:a.e=0:=by have:=A.2.2.2.2.2.2;rw [if_pos sa] at this;exact this.2
   by_cases sb:b.s=[]
   · rw [KF a b (fun p=>by rw [zero a sa,zero b sb]),o6,if_pos (.inl sa),sa,sb];rfl
   · have hb2:=B.2.2.2.2.2.2
     rw [if_neg sb] at hb2
     have hlb:=hl b sb
     have first:=yw b B.2.1 sb hb2.1
     rw [o6,if_pos (.inl sa),sa,uw,if_pos (by simp;omega)]
     have low:j6 a b≤b.e:=by unfold j6;split <;> omega
     have htop:(b.s.length:Int)+b.e≤kT a b:=by unfold kT;split <;> omega
     have hsk:=DN a b ((b.s.length:Int)+b.e) (fun q hq=>by rw [zero a sa,iH b q hq]) ((b.s.length:Int)+b.e-j6 a b+1).toNat (kT a b-(b.s.length+b.e)).toNat
     rw [show ((b.s.length:Int)+b.e-j6 a b+1).toNat+(kT a b-(b.s.length+b.e)).toNat=(kT a b-j6 a b+1).toNat by omega,show ((b.s.length:Int)+b.e)+((kT a b-(b.s.length+b.e)).toNat:Int)=kT a b by omega] at hsk
     rw [hsk]
     refine UW a b _ _ (by omega) ?_ ?_
     · rw [zero a sa,iH b _ (Int.le_refl _)]
     · rw [zero a sa];exact first
 by_cases sb:b.s=[]
 · have eb:b.e=0:=by have:=B.2.2.2.2.2.2;rw [if_pos sb] at this;exact this.2
   have ha2:=A.2.2.2.2.2.2
   rw [if_neg sa] at ha2
   have hla:=hl a sa
   have first:=yw a A.2.1 sa ha2.1
   rw [o6,if_pos (.inr sb),sb,uw,if_neg (by simp),if_pos (by simp;omega)]
   have low:j6 a b≤a.e:=by unfold j6;split <;> omega
   have htop:(a.s.length:Int)+a.e≤kT a b:=by unfold kT;split <;> omega
   have hsk:=DN a b ((a.s.length:Int)+a.e) (fun q hq=>by rw [zero b sb,iH a q hq]) ((a.s.length:Int)+a.e-j6 a b+1).toNat (kT a b-(a.s.length+a.e)).toNat
   rw [show ((a.s.length:Int)+a.e-j6 a b+1).toNat+(kT a b-(a.s.length+a.e)).toNat=(kT a b-j6 a b+1).toNat by omega,show ((a.s.length:Int)+a.e)+((kT a b-(a.s.length+a.e)).toNat:Int)=kT a b by omega] at hsk
   rw [hsk]
   refine UX a b _ _ (by omega) ?_ ?_
   · rw [zero b sb,iH a _ (Int.le_refl _)]
   · rw [zero b sb];exact first
 · have ha2:=A.2.2.2.2.2.2
   have hb2:=B.2.2.2.2.2.2
   rw [if_neg sa] at ha2
   rw [if_neg sb] at hb2
   have hla:=hl a sa
   have hlb:=hl b sb
   have fa:=yw a A.2.1 sa ha2.1
   have fb:=yw b B.2.1 sb hb2.1
   rw [o6,if_neg (by simp [sa,sb])]
   have low:j6 a b≤a.e∧j6 a b≤b.e:=by unfold j6;split <;> omega
   by_cases ht:(a.s.length:Int)+a.e=b.s.length+b.e
   · rw [if_pos ((pU.zero _ _ trivial trivial).2 ht)]
     have htop:kT a b=a.s.length+a.e:=by unfold kT;split <;> omega
     rw [htop]
     obtain ⟨k,hk⟩:∃ k,((a.s.length:Int)+a.e-j6 a b+1).toNat=k+1:=⟨((a.s.length:Int)+a.e-j6 a b).toNat,by omega⟩
     rw [hk,mV,iH a _ (Int.le_refl _),iH b _ (by omega),if_neg (by omega),if_neg (by omega)]
     have:=PD a b A.2.1 B.2.1 ht k 0 (by omega) (by omega)
     simp only [Int.natCast_zero,Int.sub_zero,List.drop_zero] at this
     rw [this]
     exact PE _ _ (fun c hc=>(Pz A.2.1 c hc).1) (fun c hc=>(Pz B.2.1 c hc).1) ha2.2 hb2.2
   · rw [if_neg (fun h=>ht ((pU.zero _ _ trivial trivial).1 h))]
     rcases Int.lt_or_gt_of_ne ht with hlt | hgt
     · have htop:kT a b=b.s.length+b.e:=by unfold kT;split <;> omega
       rw [htop,uw,if_pos hlt]
       refine UW a b _ _ (by omega) ?_ ?_
       · rw [iH a _ (by omega),iH b _ (Int.le_refl _)]
       · rw [iH a _ (by omega)];exact fb
     · have htop:kT a b=a.s.length+a.e:=by unfold kT;split <;> omega
       rw [htop,uw,if_neg (by omega),if_pos hgt]
       refine UX a b _ _ (by omega) ?_ ?_
       · rw [iH b _ (by omega),iH a _ (Int.le_refl _)]
       · rw [iH b _ (by omega)];exact fa
theorem aa0 (a b:Nd) (ha:rM a=true) (hb:rM b=true):lq a b=U8 a b:=by
 have h:=WL a b ha hb
 have h2:=Q_ a b
 simp only [lq,h]
 cases hx:a.neg <;> cases hy:b.neg <;> simp [U8,hx,hy,h2]
end Lp
namespace Lp
open Go
theorem PG:∀ (f:Nat) (a b:Vl),Rt a→Rt b→jF lq f a b=sD f a b
 | 0,a,b,_,_=>by simp [jF]
 | f+1,[],b,ha,_=>absurd rfl ha.one.ne
 | f+1,n::r,[],_,hb=>absurd rfl hb.one.ne
 | f+1,n::r,m::q,ha,hb=>by
  have hp:=wC ha
  have hq:=wC hb
  have pn:=ha.parts.1
  have pm:=hb.parts.1
  have e:eP (jF lq f) (partsOf n r) (partsOf m q)=eP (sD f) (partsOf n r) (partsOf m q):=
   D7 _ _ fun x hx y hy=>PG f x y (hp x hx).2 (hq y hy).2
  by_cases hk:n.kind=m.kind
  · by_cases h3:n.kind=3
    · have:=aa0 n m (qC pn h3) (qC pm (hk ▸ h3))
      simp only [sD,jF,this,e]
    · simp only [sD,jF,if_neg h3,e]
  · simp only [sD,jF,ne_eq,hk,not_false_eq_true,if_true]
end Lp
namespace Lp
open Go Go.Proofs
open Nat (reduceAdd reduceLeDiff reduceMul reduceSub)
open Int (reduceEq reduceLE reduceToNat)
def BR (m e:Int):Bool:=decide (-1000≤e) && decide (e≤1000) && decide (m+e≤1000)
theorem Mw (m e:Int) (hm:0≤m∧m≤1000000):ai Tryz.prog 134 [.int .i64 m,.int .i64 e] [] (.bool (BR m e)) []:=by
 refine I9.bg (T:=aR Tryz.prog []) 0 hD (aj ah) a_ (by decide) fun Q hQ=>?_
 rcases tf (-1000≤e) with h1 | h1
 rotate_left 1
 · have hr:BR m e=false:=by have:¬ (-1000≤e):=fun h=>by rw [h1] at h;exact h
                            simp [BR,this]
   (conv=>arg 4;cbv);simp(maxSteps:=400000)only[↓aV,aW,BEq.rfl,reduceIte,reduceCtorEq,Nat.reduceLT,reduceAdd,reduceSub,reduceMul,Nat.reduceBEq,reduceLeDiff,reduceToNat,reduceLE,hQ,h1,hr]
 rcases tf (e≤1000) with h2 | h2
 rotate_left 1
 · have hr:BR m e=false:=by have:¬ (e≤1000):=fun h=>by rw [h2] at h;exact h
                            simp [BR,this]
   (conv=>arg 4;cbv);simp(maxSteps:=400000)only[↓aV,aW,BEq.rfl,reduceIte,reduceCtorEq,Nat.reduceLT,reduceAdd,reduceSub,reduceMul,Nat.reduceBEq,reduceLeDiff,reduceToNat,reduceLE,hQ,h1,h2,hr]
 have h1':=of_eq_true h1
 have h2':=of_eq_true h2
 have hr:BR m e=decide (m+e≤1000):=by simp [BR,h1',h2']
 (conv=>arg 4;cbv);simp(maxSteps:=400000)only[↓aV,aW,BEq.rfl,reduceIte,reduceCtorEq,Nat.reduceLT,reduceAdd,reduceSub,reduceMul,Nat.reduceBEq,reduceLeDiff,reduceToNat,reduceLE,hQ,h1,h2,hr]
 exact ⟨by omega,by omega⟩
def ja:dF:=fun args objs K=>match args with
 | [.int .i64 m,.int .i64 e]=>(0≤m∧m≤1000000)∧K (.bool (BR m e)) objs 0
 | _=>False
theorem zC:aB Tryz.prog 134 (ja):=by
 intro args objs K h
 unfold ja at h
 split at h
 · rename_i m e
   obtain ⟨h1,hk⟩:=h
   exact ⟨_,_,_,.pure _ rfl (Mw m e h1),hk⟩
 · exact h.elim
theorem Hz (s:List UInt8) (hs:s.length≤4611686018427387904):ai Tryz.prog 131 [.str s] [] (.bool (gq s)) []:=by
 refine ET.bg (T:=aR Tryz.prog [(154,uX)]) 0 hD (aj (af Jj ah)) a_ (by decide) fun Q hQ=>?_
 have hf:=Sc s
 (conv=>arg 4;cbv);simp(maxSteps:=400000)only[↓aV,aW,BEq.rfl,reduceIte,reduceCtorEq,Nat.reduceLT,reduceAdd,reduceSub,reduceMul,Nat.reduceBEq,reduceLeDiff,reduceToNat,reduceLE,hQ,↓uX]
 refine ⟨hs,?_⟩
 rw [Bool.eq_iff_iff,← hf,decide_eq_true_iff]
 constructor
 · intro h;rw [h]
 · intro h
   generalize Lib.trimF l9 ⟨⟨s⟩⟩=t at h
   obtain ⟨⟨t⟩⟩:=t
   have h':t=[]:=h
   rw [h']
def dB:dF:=fun args objs K=>match args with
 | [.str s]=>(s.length≤4611686018427387904)∧K (.bool (gq s)) objs 0
 | _=>False
theorem vR:aB Tryz.prog 131 (dB):=by
 intro args objs K h
 unfold dB at h
 split at h
 · rename_i s
   obtain ⟨h1,hk⟩:=h
   exact ⟨_,_,_,.pure _ rfl (Hz s h1),hk⟩
 · exact h.elim
theorem WM (n:Nd) (hk:n.kind=3) (hn:n.name=[]) (hs:n.s.length≤4611686018427387904):ai Tryz.prog 168 [ay n] [] (.bool (rM n)) []:=by
 refine OC.bg (T:=aR Tryz.prog [(134,ja),(131,dB),(185,BD)]) 0 hD (aj (af zC (af vR (af O6 ah)))) a_ (by decide) fun Q hQ=>?_
 (conv=>arg 4;cbv);simp(maxSteps:=400000)only[↓aV,aW,BEq.rfl,reduceIte,reduceCtorEq,Nat.reduceLT,reduceAdd,reduceSub,reduceMul,Nat.reduceBEq,reduceLeDiff,reduceToNat,reduceLE,hQ]
 refine aN _ (Weak.freeze 1 0 (Nat.le_refl _) _) ?_
 have key:=oK n
 have hpw:∀ b,BR n.s.length n.e=b→(b=true↔-1000≤n.e∧n.e≤1000∧n.s.length+n.e≤1000):=fun b hb=>by
  rw [← hb];simp [BR,and_assoc]
 cases hp:BR n.s.length n.e
 · have hr:rM n=false:=jr fun h=>by
    have g:=(hpw _ hp).2 ⟨(key.1 h).2.2.2.1,(key.1 h).2.2.2.2.1,(key.1 h).2.2.2.2.2.1⟩
    cases g
   simp(maxSteps:=400000)only[↓aV,aW,BEq.rfl,reduceIte,reduceCtorEq,Nat.reduceLT,reduceAdd,reduceSub,reduceMul,Nat.reduceBEq,reduceLeDiff,reduceToNat,reduceLE,hQ,jC,↓ja,hk,hn,reduceEq,hp,hr]
   refine fun h0 h1=>⟨by omega,by omega⟩
 have Zo:=(hpw _ hp).1 rfl
 cases hf:gq n.s
 · have hr:rM n=false:=jr fun h=>by have:=(key.1 h).2.1;rw [hf] at this;cases this
   simp(maxSteps:=400000)only[↓aV,aW,BEq.rfl,reduceIte,reduceCtorEq,Nat.reduceLT,reduceAdd,reduceSub,reduceMul,Nat.reduceBEq,reduceLeDiff,reduceToNat,reduceLE,hQ,jC,↓ja,↓dB,hk,hn,reduceEq,hp,hf,hr]
   refine fun h0 h1=>⟨⟨by omega,by omega⟩,hs⟩
 by_cases hz:n.s=[]
 · rw [if_pos hz] at key
   have hf0:gq []=true:=rfl
   rw [hz] at hp key
   have hp0:BR ((0:Nat):Int) n.e=true:=hp
   simp(maxSteps:=400000)only[↓aV,aW,BEq.rfl,reduceIte,reduceCtorEq,Nat.reduceLT,reduceAdd,reduceSub,reduceMul,Nat.reduceBEq,reduceLeDiff,reduceToNat,reduceLE,hQ,jC,↓ja,↓dB,hk,hn,reduceEq,hp0,hf0,hz]
   refine ⟨fun h0=>⟨fun h=>absurd h (by omega),fun _=>⟨⟨by omega,by omega⟩,fun hng=>?_,fun hng=>?_⟩⟩,fun h0=>jr fun hb=>h0 (key.1 hb).1⟩
   · exact jr fun hb=>by have:=(key.1 hb).2.2.2.2.2.2.1;rw [hng] at this;cases this
   · rw [Bool.eq_iff_iff,decide_eq_true_iff,key]
     refine ⟨fun h=>h.2.2.2.2.2.2.2,fun h=>⟨h0,rfl,by simp,Zo.1,Zo.2.1,by simp;omega,by simpa using hng,h⟩⟩
 · rw [if_neg hz] at key
   have htr:=Sd n.s 48
   have hz':(n.s=[])=False:=eq_false hz
   simp(maxSteps:=400000)only[↓aV,aW,BEq.rfl,reduceIte,reduceCtorEq,Nat.reduceLT,reduceAdd,reduceSub,reduceMul,Nat.reduceBEq,reduceLeDiff,reduceToNat,reduceLE,hQ,jC,↓ja,↓dB,↓BD,hk,hn,reduceEq,hp,hf,hz']
   refine ⟨fun h0=>⟨fun h=>jr fun hb=>?_,fun h1=>⟨⟨by omega,by omega⟩,hs,hs,?_⟩⟩,fun h0=>jr fun hb=>h0 (key.1 hb).1⟩
   · have:=key.1 hb;omega
   · rw [Bool.eq_iff_iff,decide_eq_true_iff,key,htr]
     exact ⟨fun h=>h.2.2.2.2.2.2,fun h=>⟨h0,hf,by omega,Zo.1,Zo.2.1,Zo.2.2,h⟩⟩
def mW:dF:=fun args objs K=>match args with
 | [a0]=>fB ay a0 (HK.mk:HK fun n=>(n.kind=3)∧(n.name=[])∧(n.s.length≤4611686018427387904)∧K (.bool (rM n)) objs 0)
 | _=>False
theorem SL:aB Tryz.prog 168 (mW):=by
 intro args objs K h
 unfold mW at h
 split at h
 · rename_i a0
   obtain ⟨n,rfl,h1,h2,h3,hk⟩:=h
   exact ⟨_,_,_,.pure _ rfl (WM n h1 h2 h3),hk⟩
 · exact h.elim
theorem Mx (n:Nd) (hl:n.s.length≤4611686018427387904):ai Tryz.prog 141 [ay n] [] (.bool (bH n)) []:=by
 refine I8.bg (T:=aR Tryz.prog [(142,eD),(168,mW)]) 0 hD (aj (af BB (af SL ah))) a_ (by decide) fun Q hQ=>?_
 (conv=>arg 4;cbv);simp(maxSteps:=400000)only[↓aV,aW,BEq.rfl,reduceIte,reduceCtorEq,Nat.reduceLT,reduceAdd,reduceSub,reduceMul,Nat.reduceBEq,reduceLeDiff,reduceToNat,reduceLE,hQ,nmP,afa]
 refine aN _ (Weak.freeze 1 0 (Nat.le_refl _) _) ?_
 have hn0:∀ h,eY 1 0 [⟨27,6,[ay { kind:=n.kind,many:=n.many,name:=[],s:=n.s,neg:=n.neg,e:=n.e }],true,1⟩] (.bI 0 1 0 0)=h→.addr (ay ⟨n.kind,n.many,[],n.s,n.neg,n.e⟩)=h:=fun _ h=>h
 have h8:n.kind=0∨n.kind=1∨n.kind=2∨n.kind=3∨n.kind=4∨n.kind=5∨n.kind=6∨(n.kind≠0∧n.kind≠1∧n.kind≠2∧n.kind≠3∧n.kind≠4∧n.kind≠5∧n.kind≠6):=by omega
 rcases h8 with hk | hk | hk | hk | hk | hk | hk | ⟨k0,k1,k2,k3,k4,k5,k6⟩
 · simp(maxSteps:=400000)only[↓aV,aW,BEq.rfl,reduceIte,reduceCtorEq,Nat.reduceLT,reduceAdd,reduceSub,reduceMul,Nat.reduceBEq,reduceLeDiff,reduceToNat,reduceLE,hQ,jC,↓eD,↓mW,hk,reduceEq]
   rw [Bool.eq_iff_iff]
   simp [bH,hk,and_assoc]
 · simp(maxSteps:=400000)only[↓aV,aW,BEq.rfl,reduceIte,reduceCtorEq,Nat.reduceLT,reduceAdd,reduceSub,reduceMul,Nat.reduceBEq,reduceLeDiff,reduceToNat,reduceLE,hQ,jC,↓eD,↓mW,hk,reduceEq]
   rw [Bool.eq_iff_iff]
   simp [bH,hk,and_assoc]
 · simp(maxSteps:=400000)only[↓aV,aW,BEq.rfl,reduceIte,reduceCtorEq,Nat.reduceLT,reduceAdd,reduceSub,reduceMul,Nat.reduceBEq,reduceLeDiff,reduceToNat,reduceLE,hQ,jC,↓eD,↓mW,hk,reduceEq]
   rw [Bool.eq_iff_iff]
   simp [bH,hk,and_assoc]
 · simp(maxSteps:=400000)only[↓aV,aW,BEq.rfl,reduceIte,reduceCtorEq,Nat.reduceLT,reduceAdd,reduceSub,reduceMul,Nat.reduceBEq,reduceLeDiff,reduceToNat,reduceLE,hQ,jC,↓eD,↓mW,hk,reduceEq]
   refine ⟨hl,?_⟩
   simp [bH,hk,rM]
 · simp(maxSteps:=400000)only[↓aV,aW,BEq.rfl,reduceIte,reduceCtorEq,Nat.reduceLT,reduceAdd,reduceSub,reduceMul,Nat.reduceBEq,reduceLeDiff,reduceToNat,reduceLE,hQ,jC,↓eD,↓mW,hk,reduceEq]
   refine ⟨hl,?_⟩
   cases hu:utf n.s
   · simp [zZ,bH,hk,hu]
   · simp only [ifR]
     rw [Bool.eq_iff_iff]
     simp [bH,hk,hu,and_assoc]
 · simp(maxSteps:=400000)only[↓aV,aW,BEq.rfl,reduceIte,reduceCtorEq,Nat.reduceLT,reduceAdd,reduceSub,reduceMul,Nat.reduceBEq,reduceLeDiff,reduceToNat,reduceLE,hQ,jC,↓eD,↓mW,hk,reduceEq]
   refine ⟨fun hm=>?_,fun hm=>?_⟩
   · rw [Bool.eq_iff_iff]
     simp [bH,hk,hm,and_assoc]
   · simp [bH,hk,hm]
 · simp(maxSteps:=400000)only[↓aV,aW,BEq.rfl,reduceIte,reduceCtorEq,Nat.reduceLT,reduceAdd,reduceSub,reduceMul,Nat.reduceBEq,reduceLeDiff,reduceToNat,reduceLE,hQ,jC,↓eD,↓mW,hk,reduceEq]
   refine ⟨fun hm=>?_,fun hm=>?_⟩
   · rw [Bool.eq_iff_iff]
     simp [bH,hk,hm,and_assoc]
   · simp [bH,hk,hm]
 · simp(maxSteps:=400000)only[↓aV,aW,BEq.rfl,reduceIte,reduceCtorEq,Nat.reduceLT,reduceAdd,reduceSub,reduceMul,Nat.reduceBEq,reduceLeDiff,reduceToNat,reduceLE,hQ,jC,↓eD,↓mW,k0,k1,k2,k3,k4,k5,k6]
   simp [bH,k0,k1,k2,k3,k4,k5,k6]
def gJ:dF:=fun args objs K=>match args with
 | [a0]=>fB ay a0 (HK.mk:HK fun n=>(n.s.length≤4611686018427387904)∧K (.bool (bH n)) objs 0)
 | _=>False
theorem Jp:aB Tryz.prog 141 (gJ):=by
 intro args objs K h
 unfold gJ at h
 split at h
 · rename_i a0
   obtain ⟨n,rfl,h1,hk⟩:=h
   exact ⟨_,_,_,.pure _ rfl (Mx n h1),hk⟩
 · exact h.elim
end Lp
namespace Lp
open Go Go.Proofs
open List (length_reverse map_cons map_map map_nil take_zero)
open Nat (lt_or_ge reduceAdd reduceLeDiff reduceMul reduceSub)
open Int (reduceLE reduceToNat)
def iT (o:Aw):PV:=.agg [.int .i64 o.kind,.int .i64 o.left,.bool o.first,.str o.last]
def BS (l:List Aw):PV:=.sl 4 (l.map iT) none
theorem HV:∀ a b,iT a=iT b→a=b:=by
 intro a b h
 cases a;cases b
 simp only [iT,PV.agg.injEq,List.cons.injEq,PV.int.injEq,PV.str.injEq,PV.bool.injEq,true_and,and_true] at h
 obtain ⟨rfl,rfl,rfl,rfl⟩:=h
 rfl
theorem DR :
  (∀ o,(iT o).cells=[.int .i64 o.kind,.int .i64 o.left,.bool o.first,.str o.last])∧(∀ o,(iT o).isAgg=true)∧(∀ o,(iT o).pure=true)∧(∀ d m O o,eY d m O (iT o)=iT o)∧(∀ d m O o,gQ d m O (iT o)=iT o)∧type_of% (aQ HV):=
 ⟨fun _=>rfl,fun _=>rfl,fun _=>rfl,fun _ _ _ _=>rfl,fun _ _ _ _=>rfl,aQ HV⟩
theorem hO:∀ l,BS l=.sl 4 (l.map iT) none:=fun _=>rfl
theorem KG:∀ a b,BS a=BS b→a=b:=nX hO HV
theorem inO:vP iT:=by intro d n o x;cases d <;> rfl
theorem Zp:type_of% DR∧type_of% (sV hO)∧type_of% (jO hO)∧type_of% (sW hO)∧type_of% (aQ KG)∧type_of% (iZ hO inO):=
 ⟨DR,sV hO,jO hO,sW hO,aQ KG,iZ hO inO⟩
def xB (o:Aw):Bool:=decide (0<o.left)
theorem SN (o:Aw):ai Tryz.prog 144 [iT o] [] (.bool (xB o)) []:=by
 unfold xB
 refine I_.bg (T:=aR Tryz.prog []) 0 hD (aj ah) a_ (by decide) fun Q hQ=>?_
 (conv=>arg 4;cbv);simp(maxSteps:=400000)only[↓aV,aW,BEq.rfl,reduceIte,reduceCtorEq,Nat.reduceLT,reduceAdd,reduceSub,reduceMul,Nat.reduceBEq,reduceLeDiff,reduceToNat,reduceLE,hQ,iT]
def xC:dF:=fun args objs K=>match args with
 | [a0]=>fB iT a0 (HK.mk:HK fun o=>K (.bool (xB o)) objs 0)
 | _=>False
theorem PI:aB Tryz.prog 144 (xC):=by
 intro args objs K h
 unfold xC at h
 split at h
 · rename_i a0
   obtain ⟨o,rfl,hk⟩:=h
   exact ⟨_,_,_,.pure _ rfl (SN o),hk⟩
 · exact h.elim
def idxOf {α:Type}(p:α→Bool) (l:List α):Int:=match l.findIdx? p with
 | some i=>i
 | none=>-1
theorem idxOf_hit {α:Type}{p:α→Bool}{l:List α}{i:Nat}{x:α}(h:l[i]?=some x) (hx:p x=true) (hb:∀ (j:Nat) y,j<i→l[j]?=some y→p y=false):idxOf p l=i:=by
 have:l.findIdx? p=some i:=by
  rw [List.findIdx?_eq_some_iff_getElem]
  obtain ⟨hi,he⟩:=List.getElem?_eq_some_iff.1 h
  refine ⟨hi,by rw [he];exact hx,fun j hj=>?_⟩
  have:=hb j _ hj (List.getElem?_eq_getElem (by omega))
  simp [this]
 simp [idxOf,this]
theorem u6 {α:Type}{p:α→Bool}{l:List α}(hb:∀ (j:Nat) y,l[j]?=some y→p y=false):idxOf p l=-1:=by
 have:l.findIdx? p=none:=by
  rw [List.findIdx?_eq_none_iff]
  intro x hx
  obtain ⟨i,hi⟩:=List.mem_iff_getElem?.1 hx
  exact hb i x hi
 simp [idxOf,this]
theorem yx {α:Type}(p:α→Bool) (l:List α):decide (0≤idxOf p l)=l.any p:=by
 rw [Bool.eq_iff_iff,decide_eq_true_iff]
 cases h:l.findIdx? p with
 | none=>
  rw [List.findIdx?_eq_none_iff] at h
  have:l.any p=false:=by rw [List.any_eq_false];intro x hx;simp [h x hx]
  simp [idxOf,List.findIdx?_eq_none_iff.2 h,this]
 | some i=>
  have h':=h
  rw [List.findIdx?_eq_some_iff_getElem] at h'
  obtain ⟨hi,hp,_⟩:=h'
  have:l.any p=true:=List.any_eq_true.2 ⟨_,List.getElem_mem hi,hp⟩
  simp [idxOf,h,this]
theorem MB (l:List Aw) (hl:l.length≤4611686018427387904):ai Tryz.prog 170 [BS l,.fn 144 [] []] [] (.int .i64 (idxOf xB l)) []:=by
 refine j5.bg (T:=aR Tryz.prog [(144,xC)]) 0 hD (aj (af PI ah)) a_ (by decide) fun Q hQ=>?_
 (conv=>arg 4;cbv);simp(maxSteps:=400000)only[↓aV,aW,BEq.rfl,reduceIte,reduceCtorEq,Nat.reduceLT,reduceAdd,reduceSub,reduceMul,Nat.reduceBEq,reduceLeDiff,reduceToNat,reduceLE,hQ,Zp]
 refine aH (fun m S=>∃ i:Nat,i+m=l.length∧(∀ (j:Nat) y,j<i→l[j]?=some y→xB y=false)∧S=⟨dI 19 [(0,BS l),(1,.fn 144 [] []),(7,.int .i64 l.length),(8,.int .i64 i)],[]⟩) l.length ⟨0,by omega,fun j y h=>absurd h (Nat.not_lt_zero j),?_⟩ ?_
 · simp only [bW,keepR,reduceAdd,nu,Nat.reduceBEq,map_nil]
   rfl
 rintro m S ⟨i,him,hb,rfl⟩
 rcases lt_or_ge i l.length with h | h
 rotate_left 1
 · have hlt:((i:Int)<(l.length:Int))=False:=eq_false (by omega)
   have hr:=u6 (l:=l) fun j y hj=>hb j y (by have:=(List.getElem?_eq_some_iff.1 hj).1;omega) hj
   simp(maxSteps:=400000)only[↓aV,aW,BEq.rfl,reduceIte,reduceCtorEq,Nat.reduceLT,reduceAdd,reduceSub,reduceMul,Nat.reduceBEq,reduceLeDiff,reduceToNat,reduceLE,hQ,hlt,hr]
 have hlt:((i:Int)<(l.length:Int))=True:=eq_true (by omega)
 have zi:(0≤(i:Int))=True:=eq_true (by omega)
 have hgi:=List.getElem?_eq_getElem h
 generalize l[i]=o at hgi
 cases hp:xB o
 rotate_left 1
 · have hr:idxOf xB l=i:=idxOf_hit hgi hp hb
   simp(maxSteps:=400000)only[↓aV,aW,BEq.rfl,reduceIte,reduceCtorEq,Nat.reduceLT,reduceAdd,reduceSub,reduceMul,Nat.reduceBEq,reduceLeDiff,reduceToNat,reduceLE,hQ,hlt,zi,Zp,hgi,↓xC,hp,hr]
 · simp(maxSteps:=400000)only[↓aV,aW,BEq.rfl,reduceIte,reduceCtorEq,Nat.reduceLT,reduceAdd,reduceSub,reduceMul,Nat.reduceBEq,reduceLeDiff,reduceToNat,reduceLE,hQ,hlt,zi,Zp,hgi,↓xC,hp]
   refine ⟨⟨by omega,by omega⟩,m-1,by omega,i+1,by omega,fun j y hj hy=>?_,rfl⟩
   rcases lt_or_ge j i with g | g
   · exact hb j y g hy
   · have:j=i:=by omega
     subst this
     rw [hgi] at hy;cases hy
     exact hp
def u7:dF:=fun args objs K=>match args with
 | [a0,a1]=>fB BS a0 (HK.mk:HK fun l=>a1=(.fn 144 [] [])∧(l.length≤4611686018427387904)∧K (.int .i64 (idxOf xB l)) objs 0)
 | _=>False
theorem Jq:aB Tryz.prog 170 (u7):=by
 intro args objs K h
 unfold u7 at h
 split at h
 · rename_i a0 a1
   obtain ⟨l,rfl,rfl,h1,hk⟩:=h
   exact ⟨_,_,_,.pure _ rfl (MB l h1),hk⟩
 · exact h.elim
theorem MC (l:List Aw) (hl:l.length≤4611686018427387904):ai Tryz.prog 143 [BS l,.fn 144 [] []] [] (.bool (l.any xB)) []:=by
 refine jK.bg (T:=aR Tryz.prog [(170,u7)]) 0 hD (aj (af Jq ah)) a_ (by decide) fun Q hQ=>?_
 (conv=>arg 4;cbv);simp(maxSteps:=400000)only[↓aV,aW,BEq.rfl,reduceIte,reduceCtorEq,Nat.reduceLT,reduceAdd,reduceSub,reduceMul,Nat.reduceBEq,reduceLeDiff,reduceToNat,reduceLE,hQ,Zp,↓u7,yx]
 exact hl
def u_:dF:=fun args objs K=>match args with
 | [a0,a1]=>fB BS a0 (HK.mk:HK fun l=>a1=(.fn 144 [] [])∧(l.length≤4611686018427387904)∧K (.bool (l.any xB)) objs 0)
 | _=>False
theorem Jr:aB Tryz.prog 143 (u_):=by
 intro args objs K h
 unfold u_ at h
 split at h
 · rename_i a0 a1
   obtain ⟨l,rfl,rfl,h1,hk⟩:=h
   exact ⟨_,_,_,.pure _ rfl (MC l h1),hk⟩
 · exact h.elim
theorem oM (objs:List Obj) (K:KT) :
  (∀ k m,bF D 167 [(0,.int .i64 k),(1,.int .i64 m)] objs K=K (iT ⟨k,m,false,[]⟩) objs 0)∧
  (∀ k m b,bF D 167 [(0,.int .i64 k),(1,.int .i64 m),(2,.bool b)] objs K=K (iT ⟨k,m,b,[]⟩) objs 0):=by
 have z:aI (D 167)=iT ⟨0,0,false,[]⟩:=by kernel_rfl
 have a:(D 167).agg=true:=by kernel_rfl
 simp only [bM] at z a
 refine ⟨fun k m=>?_,fun k m b=>?_⟩
 all_goals
  simp [bF,lJ,a,z,bM,mr,iT,PV.isAgg,qi,PV.cells,PV.storable,PV.lV,PV.pure]
theorem zOl:(PV.vX (Value.agg { toList:=[Value.int IntKind.i64 0,Value.int IntKind.i64 0,Value.bool false,Value.string { data:={ toList:=[] } }] })).cells.length=4:=rfl
theorem zOs:(PV.vX (Value.agg { toList:=[Value.int IntKind.i64 0,Value.int IntKind.i64 0,Value.bool false,Value.string { data:={ toList:=[] } }] })).cells.all PV.storable=true:=rfl
def PK (s:List Aw) (ver:Nat):Obj:=⟨167,4,s.reverse.map iT,true,ver⟩
theorem Ag:(∀ (o:Aw) (m:Int),(iT o).putCells 1 [.int .i64 m]=iT { o with left:=m })∧(∀ (o:Aw) (b:Bool),(iT o).putCells 2 [.bool b]=iT { o with first:=b })∧(∀ (o:Aw) (t:List UInt8),(iT o).putCells 3 [.str t]=iT { o with last:=t }):=⟨fun _ _=>rfl,fun _ _=>rfl,fun _ _=>rfl⟩
theorem HY (d n:Nat) (O:List Obj) (t:TypeId) (sz:Nat) (l:List Aw) (ver:Nat):fE d n O ⟨t,sz,l.map iT,true,ver⟩=⟨t,sz,l.map iT,true,ver⟩:=by
 have:(l.map iT).map (PV.bJ (eY d n O))=l.map iT:=by
  rw [map_map]
  exact List.map_congr_left fun x _=>rfl
 simp only [fE,this]
theorem Js (v:Vl) (hs:Small v):ai Tryz.prog 127 [aS v] [] (.bool (dJ v)) []:=by
 have hl:=hs.len
 refine OD.bg (T:=aR Tryz.prog [(141,gJ),(142,eD),(143,u_)]) 1 hD (aj (af Jp (af BB (af Jr ah)))) a_ (by decide) fun Q hQ=>?_
 (conv=>arg 4;cbv);simp(maxSteps:=400000)only[↓aV,aW,BEq.rfl,reduceIte,reduceCtorEq,Nat.reduceLT,reduceAdd,reduceSub,reduceMul,Nat.reduceBEq,reduceLeDiff,reduceToNat,reduceLE,hQ,Jg,Jh,oM,zOl,zOs,DR]
 refine aH (fun m S=>∃ (s:List Aw) (i ver:Nat),i+m=v.length∧F5 v.length s (v.drop i)=dJ v∧s.length≤i+1∧(∀ o ∈ s,0≤o.left∧o.left≤1000000)∧S=⟨dI 123 [(0,aS v),(3,.bG 0 ver),(10,aS v),(11,.int .i64 v.length),(12,.int .i64 i)],[PK s ver]⟩) v.length
  ⟨[⟨5,1,false,[]⟩],0,1,by omega,Rb v,by simp,by simp,?_⟩ ?_ (hz:=Nat.zero_le _)
 · simp only [bW,keepR,reduceAdd,nu,Nat.reduceBEq,map_nil]
   rfl
 rintro m S ⟨s,i,ver,him,hrun,hsl,hle,rfl⟩
 rcases lt_or_ge i v.length with h | h
 rotate_left 1
 · have hlt:((i:Int)<(v.length:Int))=False:=eq_false (by omega)
   have hr:dJ v=Bool.not (s.any xB):=by
    rw [← hrun,List.drop_eq_nil_of_le h,F5];rfl
   have hf:eY 1 0 [⟨167,4,s.reverse.map iT,true,ver⟩] (.bG 0 ver)=BS s.reverse:=by
    simp only [eY,Nat.not_lt_zero,if_false,iY,List.getElem?_cons_zero,Nat.le_refl,decide_true,Bool.true_and,beq_self_eq_true,if_true]
    rw [map_map]
    rfl
   unfold PK
   simp(maxSteps:=400000)only[↓aV,aW,BEq.rfl,reduceIte,reduceCtorEq,Nat.reduceLT,reduceAdd,reduceSub,reduceMul,Nat.reduceBEq,reduceLeDiff,reduceToNat,reduceLE,hQ,hlt]
   refine aN _ (Weak.freeze 1 0 (Nat.zero_le _) _) ?_
   rcases Nat.eq_zero_or_pos v.length with h0 | h0
   · have h0':((0:Int)<(v.length:Int))=False:=eq_false (by omega)
     have hrf:dJ v=false:=by
      have:v=[]:=List.length_eq_zero_iff.1 h0
      rw [this];rfl
     simp(maxSteps:=400000)only[↓aV,aW,BEq.rfl,reduceIte,reduceCtorEq,Nat.reduceLT,reduceAdd,reduceSub,reduceMul,Nat.reduceBEq,reduceLeDiff,reduceToNat,reduceLE,hQ,h0',hrf]
   · have h0':((0:Int)<(v.length:Int))=True:=eq_true (by omega)
     simp(maxSteps:=400000)only[↓aV,aW,BEq.rfl,reduceIte,reduceCtorEq,Nat.reduceLT,reduceAdd,reduceSub,reduceMul,Nat.reduceBEq,reduceLeDiff,reduceToNat,reduceLE,hQ,h0',hf,Zp,↓u_]
     exact ⟨by rw [length_reverse];omega,by rw [hr,List.any_reverse]⟩
 have hlt:((i:Int)<(v.length:Int))=True:=eq_true (by omega)
 have zi:(0≤(i:Int))=True:=eq_true (by omega)
 have hgi:=List.getElem?_eq_getElem h
 have hdi:=List.drop_eq_getElem_cons h
 have htx:=hs.txt _ (List.getElem_mem h)
 generalize v[i]=n at hgi hdi htx
 simp(maxSteps:=400000)only[↓aV,aW,BEq.rfl,reduceIte,reduceCtorEq,Nat.reduceLT,reduceAdd,reduceSub,reduceMul,Nat.reduceBEq,reduceLeDiff,reduceToNat,reduceLE,hQ,hlt,zi,hgi,Jg,Jh,bO,bP]
 rw [hdi] at hrun
 have hll:(n.many≤(v.length:Int))=(n.many≤(v.length:Int)):=rfl
 refine aH (fun m' S=>∃ (s':List Aw) (Jt:Nat),s'.length=m'∧s'.dropWhile (fun o=>o.left==0)=s.dropWhile (fun o=>o.left==0)∧s'.length≤i+1∧(∀ o ∈ s',0≤o.left∧o.left≤1000000)∧
  S=⟨dI 123 [(0,aS v),(3,.bG 0 Jt),(5,.bI 1 1 0 0),(10,aS v),(11,.int .i64 v.length),(12,.int .i64 i)],[PK s' Jt,⟨27,6,[ay n],true,1⟩]⟩) s.length ⟨s,ver,rfl,rfl,hsl,hle,?_⟩ ?_
 · simp only [bW,keepR,reduceAdd,nu,Nat.reduceBEq,map_nil]
 rintro m' S ⟨s',Jt,hm',hdw,afe,hle',rfl⟩
 cases s' with
 | nil=>
  have h00:((0:Int)<((0:Nat):Int))=False:=eq_false (by omega)
  have h01:(((0:Nat):Int)=0)=True:=eq_true rfl
  have hr:dJ v=false:=by rw [← hrun,F5,← hdw];rfl
  unfold PK
  simp(maxSteps:=400000)only[↓aV,aW,BEq.rfl,reduceIte,reduceCtorEq,Nat.reduceLT,reduceAdd,reduceSub,reduceMul,Nat.reduceBEq,reduceLeDiff,reduceToNat,reduceLE,hQ,h00,h01,hr,List.reverse_nil]
 | cons o t=>
 have hst:∀ w,PK (o::t) w=⟨167,4,t.reverse.map iT++[iT o],true,w⟩:=fun w=>by simp [PK]
 have hget:∀ x:PV,(t.reverse.map iT++[x])[t.length]?=some x:=fun x=>by rw [List.getElem?_append_right (by simp)];simp
 have hset:∀ x y:PV,(t.reverse.map iT++[x]).set t.length y=t.reverse.map iT++[y]:=fun x y=>by rw [List.set_append_right _ _ (by simp)];simp
 have hpos:((0:Int)<((t.length+1:Nat):Int))=True:=eq_true (by omega)
 have hne0:(((t.length+1:Nat):Int)=0)=False:=eq_false (by omega)
 have t1:(((t.length+1:Nat):Int)-1).toNat=t.length:=by omega
 have z1:(0≤((t.length+1:Nat):Int)-1)=True:=eq_true (by omega)
 have lt1:(((t.length+1:Nat):Int)-1<((t.length+1:Nat):Int))=True:=eq_true (by omega)
 have le1:(((t.length+1:Nat):Int)-1≤((t.length+1:Nat):Int))=True:=eq_true (by omega)
 simp only [List.length_cons] at afe hm'
 have i1:(-9223372036854775808≤((t.length+1:Nat):Int)-1∧((t.length+1:Nat):Int)-1≤9223372036854775807)=True:=eq_true ⟨by omega,by omega⟩
 have hlo:=hle' o (by simp)
 by_cases h0:o.left=0
 · have h0':(o.left=0)=True:=eq_true h0
   rw [hst]
   simp(maxSteps:=400000)only[↓aV,aW,BEq.rfl,reduceIte,reduceCtorEq,Nat.reduceLT,reduceAdd,reduceSub,reduceMul,Nat.reduceBEq,reduceLeDiff,reduceToNat,reduceLE,hQ,hpos,t1,z1,lt1,le1,i1,hget,hset,h0',DR,length_reverse]
   refine ⟨m'-1,by omega,t,Jt+1,by omega,?_,by omega,fun x hx=>hle' x (List.mem_cons_of_mem _ hx),?_⟩
   · rw [← hdw];exact (List.dropWhile_cons_of_pos (by simpa using h0)).symm
   · rw [List.take_left' (by simp)];rfl
 have h0':(o.left=0)=False:=eq_false h0
 have aff:s.dropWhile (fun o=>o.left==0)=o::t:=by rw [← hdw];exact List.dropWhile_cons_of_neg (by simpa using h0)
 have hstep:dJ v=(bH n && decide (n.many≤v.length) && fM o n.name && F5 v.length (⟨n.kind,n.many,true,[]⟩::⟨o.kind,o.left-1,false,n.name⟩::t) (v.drop (i+1))):=by
  rw [← hrun,F5,aff]
 rw [hst]
 cases hpl:bH n
 · have hr:dJ v=false:=by rw [hstep,hpl];rfl
   simp(maxSteps:=400000)only[↓aV,aW,BEq.rfl,reduceIte,reduceCtorEq,Nat.reduceLT,reduceAdd,reduceSub,reduceMul,Nat.reduceBEq,reduceLeDiff,reduceToNat,reduceLE,hQ,hpos,hne0,t1,z1,lt1,le1,i1,hget,hset,h0',DR,length_reverse,↓gJ,hpl,hr]
   exact htx.1
 by_cases hmL:n.many≤v.length
 rotate_left 1
 · have ME:((v.length:Int)<n.many)=True:=eq_true (by omega)
   have hr:dJ v=false:=by rw [hstep,decide_eq_false hmL];simp
   simp(maxSteps:=400000)only[↓aV,aW,BEq.rfl,reduceIte,reduceCtorEq,Nat.reduceLT,reduceAdd,reduceSub,reduceMul,Nat.reduceBEq,reduceLeDiff,reduceToNat,reduceLE,hQ,hpos,hne0,t1,z1,lt1,le1,i1,hget,hset,h0',DR,length_reverse,↓gJ,hpl,ME,hr]
   exact htx.1
 have ME:((v.length:Int)<n.many)=False:=eq_false (by omega)
 have hm0:0≤n.many:=by
  by_cases hk:n.kind=5∨n.kind=6
  · exact (CS hpl hk).1
  · rw [uD hpl hk];exact Int.le_refl 0
 have hA:∀ x y:Aw,t.reverse.map iT++[iT x]++[iT y]=(t.reverse++[x,y]).map iT:=fun x y=>by simp
 have fin:∀ hn:fM o n.name=true,∃ aen,aen<m∧∃ (s:List Aw) (FI ver:Nat),FI+aen=v.length∧F5 v.length s (v.drop FI)=dJ v∧s.length≤FI+1∧(∀ o ∈ s,0≤o.left∧o.left≤1000000)∧
     (⟨dI 123 [(0,aS v),(3,.bG 0 (Jt+1)),(10,aS v),(11,.int .i64 v.length),(12,.int .i64 ((i:Int)+1))],[⟨167,4,t.reverse.map iT++[iT ⟨o.kind,o.left-1,false,n.name⟩]++[iT ⟨n.kind,n.many,true,[]⟩],true,Jt+1⟩]⟩:St)=
     ⟨dI 123 [(0,aS v),(3,.bG 0 ver),(10,aS v),(11,.int .i64 v.length),(12,.int .i64 FI)],[PK s ver]⟩:=fun hn=>by
  refine ⟨m-1,by omega,⟨n.kind,n.many,true,[]⟩::⟨o.kind,o.left-1,false,n.name⟩::t,i+1,Jt+1,by omega,?_,by simp only [List.length_cons];omega,fun x hx=>?_,?_⟩
  · rw [hstep,hpl,hn,decide_eq_true hmL];simp
  · rcases List.mem_cons.1 hx with rfl | hx
    · exact ⟨hm0,by simp only;omega⟩
    · rcases List.mem_cons.1 hx with rfl | hx
      · simp only;omega
      · exact hle' x (List.mem_cons_of_mem _ hx)
  · simp [PK]
 by_cases k6:o.kind=6
 rotate_left 1
 · have k6':(o.kind=6)=False:=eq_false k6
   by_cases hnm:n.name=[]
   rotate_left 1
   · have hnm':(n.name=[])=False:=eq_false hnm
     have hr:dJ v=false:=by
      have:fM o n.name=false:=by simp [fM,k6,hnm]
      rw [hstep,this];simp
     simp(maxSteps:=400000)only[↓aV,aW,BEq.rfl,reduceIte,reduceCtorEq,Nat.reduceLT,reduceAdd,reduceSub,reduceMul,Nat.reduceBEq,reduceLeDiff,reduceToNat,reduceLE,hQ,hpos,hne0,t1,z1,lt1,le1,i1,hget,hset,h0',DR,length_reverse,↓gJ,hpl,ME,k6',dK,Ag,oM,zOl,zOs,hnm',hr]
     exact htx.1
   · have hnm':(n.name=[])=True:=eq_true hnm
     simp(maxSteps:=400000)only[↓aV,aW,BEq.rfl,reduceIte,reduceCtorEq,Nat.reduceLT,reduceAdd,reduceSub,reduceMul,Nat.reduceBEq,reduceLeDiff,reduceToNat,reduceLE,hQ,hpos,hne0,t1,z1,lt1,le1,i1,hget,hset,h0',DR,length_reverse,↓gJ,hpl,ME,k6',dK,Ag,oM,zOl,zOs,hnm']
     have hn:fM o n.name=true:=by simp [fM,k6,hnm]
     obtain ⟨m1,e0,s1,j1,w1,e1,e2,e3,e4,e5⟩:=fin hn
     refine ⟨htx.1,⟨by omega,by omega⟩,rfl,by omega,by omega,⟨by omega,by omega⟩,m1,e0,s1,j1,w1,e1,e2,e3,e4,?_⟩
     rw [← e5]
     simp only [hA,List.take_succ_cons,take_zero,map_cons (f:=fE _ _ _),map_nil,HY]
     rfl
 have k6':(o.kind=6)=True:=eq_true k6
 cases hu:utf n.name
 · have hr:dJ v=false:=by
    have:fM o n.name=false:=by simp [fM,k6,hu]
    rw [hstep,this];simp
   simp(maxSteps:=400000)only[↓aV,aW,BEq.rfl,reduceIte,reduceCtorEq,Nat.reduceLT,reduceAdd,reduceSub,reduceMul,Nat.reduceBEq,reduceLeDiff,reduceToNat,reduceLE,hQ,hpos,hne0,t1,z1,lt1,le1,i1,hget,hset,h0',DR,length_reverse,↓gJ,hpl,ME,k6',dK,Ag,oM,zOl,zOs,↓eD,hu,hr]
   exact ⟨htx.1,htx.2⟩
 cases hfst:o.first
 rotate_left 1
 · have hn:fM o n.name=true:=by simp [fM,k6,hu,hfst]
   simp(maxSteps:=400000)only[↓aV,aW,BEq.rfl,reduceIte,reduceCtorEq,Nat.reduceLT,reduceAdd,reduceSub,reduceMul,Nat.reduceBEq,reduceLeDiff,reduceToNat,reduceLE,hQ,hpos,hne0,t1,z1,lt1,le1,i1,hget,hset,h0',DR,length_reverse,↓gJ,hpl,ME,k6',dK,Ag,oM,zOl,zOs,↓eD,hu,hfst]
   obtain ⟨m1,e0,s1,j1,w1,e1,e2,e3,e4,e5⟩:=fin hn
   refine ⟨htx.1,htx.2,⟨by omega,by omega⟩,rfl,by omega,by omega,⟨by omega,by omega⟩,m1,e0,s1,j1,w1,e1,e2,e3,e4,?_⟩
   rw [← e5]
   simp only [hA,List.take_succ_cons,take_zero,map_cons (f:=fE _ _ _),map_nil,HY]
   rfl
 cases hbl:Op.bytesLess n.name o.last
 rotate_left 1
 · have hr:dJ v=false:=by
    have:fM o n.name=false:=by simp [fM,k6,hu,hfst,mg _ _ hbl]
    rw [hstep,this];simp
   simp(maxSteps:=400000)only[↓aV,aW,BEq.rfl,reduceIte,reduceCtorEq,Nat.reduceLT,reduceAdd,reduceSub,reduceMul,Nat.reduceBEq,reduceLeDiff,reduceToNat,reduceLE,hQ,hpos,hne0,t1,z1,lt1,le1,i1,hget,hset,h0',DR,length_reverse,↓gJ,hpl,ME,k6',dK,Ag,oM,zOl,zOs,↓eD,hu,hfst,hbl,hr]
   exact ⟨htx.1,htx.2⟩
 by_cases heq:n.name=o.last
 · have heq':(n.name=o.last)=True:=eq_true heq
   have hr:dJ v=false:=by
    have:fM o n.name=false:=by simp [fM,k6,hu,hfst,heq,eu]
    rw [hstep,this];simp
   simp(maxSteps:=400000)only[↓aV,aW,BEq.rfl,reduceIte,reduceCtorEq,Nat.reduceLT,reduceAdd,reduceSub,reduceMul,Nat.reduceBEq,reduceLeDiff,reduceToNat,reduceLE,hQ,hpos,hne0,t1,z1,lt1,le1,i1,hget,hset,h0',DR,length_reverse,↓gJ,hpl,ME,k6',dK,Ag,oM,zOl,zOs,↓eD,hu,hfst,hbl,heq',hr]
   exact ⟨htx.1,htx.2⟩
 · have heq':(n.name=o.last)=False:=eq_false heq
   have hn:fM o n.name=true:=by
    have:Op.bytesLess o.last n.name=true:=by
     rcases CQ o.last n.name with g | g | g
     · exact g
     · exact absurd g.symm heq
     · rw [g] at hbl;cases hbl
    simp [fM,k6,hu,this]
   simp(maxSteps:=400000)only[↓aV,aW,BEq.rfl,reduceIte,reduceCtorEq,Nat.reduceLT,reduceAdd,reduceSub,reduceMul,Nat.reduceBEq,reduceLeDiff,reduceToNat,reduceLE,hQ,hpos,hne0,t1,z1,lt1,le1,i1,hget,hset,h0',DR,length_reverse,↓gJ,hpl,ME,k6',dK,Ag,oM,zOl,zOs,↓eD,hu,hfst,hbl,heq']
   obtain ⟨m1,e0,s1,j1,w1,e1,e2,e3,e4,e5⟩:=fin hn
   refine ⟨htx.1,htx.2,⟨by omega,by omega⟩,rfl,by omega,by omega,⟨by omega,by omega⟩,m1,e0,s1,j1,w1,e1,e2,e3,e4,?_⟩
   rw [← e5]
   simp only [hA,List.take_succ_cons,take_zero,map_cons (f:=fE _ _ _),map_nil,HY]
   rfl
def oN:dF:=fun args objs K=>match args with
 | [a0]=>fB aS a0 (HK.mk:HK fun v=>(Small v)∧K (.bool (dJ v)) objs 0)
 | _=>False
theorem HZ:aB Tryz.prog 127 (oN):=by
 intro args objs K h
 unfold oN at h
 split at h
 · rename_i a0
   obtain ⟨v,rfl,h1,hk⟩:=h
   exact ⟨_,_,_,.pure _ rfl (Js v h1),hk⟩
 · exact h.elim
end Lp
namespace Lp
open Go Go.Proofs
open Nat (reduceAdd reduceLeDiff reduceMul reduceSub zero_le)
open Int (reduceEq reduceLE reduceToNat)
def pO (n:Nd):Prop:=n.s.length≤4611686018427387904∧n.name.length≤4611686018427387904
theorem pO.small {n:Nd}(h:pO n):Small [n]:=⟨by simp,fun m hm=>by rw [List.mem_singleton] at hm;subst hm;exact h⟩
theorem PL (n:Nd) (h:pO n):ai Tryz.prog 115 [ay n] [] (.bool (qV n)) []:=by
 unfold qV
 refine GU.bg (T:=aR Tryz.prog [(127,oN)]) 0 hD (aj (af HZ ah)) a_ (by decide) fun Q hQ=>?_
 (conv=>arg 4;cbv);simp(maxSteps:=400000)only[↓aT,aU,BEq.rfl,reduceIte,reduceCtorEq,Nat.reduceLT,reduceAdd,reduceSub,reduceMul,Nat.reduceBEq,reduceLeDiff,reduceToNat,reduceLE,hQ]
 refine aN _ (Weak.freeze 1 0 (zero_le _) _) ?_
 rcases tf (n.kind<5) with hk | hk
 · simp(maxSteps:=400000)only[↓aT,aU,BEq.rfl,reduceIte,reduceCtorEq,Nat.reduceLT,reduceAdd,reduceSub,reduceMul,Nat.reduceBEq,reduceLeDiff,reduceToNat,reduceLE,hQ,jC,hk,↓oN,bO,bP,Bool.false_and]
   exact h.small
 · simp(maxSteps:=400000)only[↓aT,aU,BEq.rfl,reduceIte,reduceCtorEq,Nat.reduceLT,reduceAdd,reduceSub,reduceMul,Nat.reduceBEq,reduceLeDiff,reduceToNat,reduceLE,hQ,jC,hk,↓oN,bO,bP,Bool.false_and]
def qb:dF:=fun args objs K=>match args with
 | [a0]=>fB ay a0 (HK.mk:HK fun n=>(pO n)∧K (.bool (qV n)) objs 0)
 | _=>False
theorem MF:aB Tryz.prog 115 (qb):=by
 intro args objs K h
 unfold qb at h
 split at h
 · rename_i a0
   obtain ⟨n,rfl,h1,hk⟩:=h
   exact ⟨_,_,_,.pure _ rfl (PL n h1),hk⟩
 · exact h.elim
theorem PN (n:Nd) (h:pO n):ai Tryz.prog 26 [ay n] [] (.bool (qV n)) []:=by
 unfold qV
 refine zW.bg (T:=aR Tryz.prog [(36,xA)]) 0 hD (aj (af OW ah)) a_ (by decide) fun Q hQ=>?_
 (conv=>arg 4;cbv);simp(maxSteps:=400000)only[↓aT,aU,BEq.rfl,reduceIte,reduceCtorEq,Nat.reduceLT,reduceAdd,reduceSub,reduceMul,Nat.reduceBEq,reduceLeDiff,reduceToNat,reduceLE,hQ]
 refine aN _ (Weak.freeze 1 0 (zero_le _) _) ?_
 rcases tf (n.kind<5) with hk | hk
 · simp(maxSteps:=400000)only[↓aT,aU,BEq.rfl,reduceIte,reduceCtorEq,Nat.reduceLT,reduceAdd,reduceSub,reduceMul,Nat.reduceBEq,reduceLeDiff,reduceToNat,reduceLE,hQ,jC,hk,↓xA,bO,bP,Bool.false_and]
   exact h.small
 · simp(maxSteps:=400000)only[↓aT,aU,BEq.rfl,reduceIte,reduceCtorEq,Nat.reduceLT,reduceAdd,reduceSub,reduceMul,Nat.reduceBEq,reduceLeDiff,reduceToNat,reduceLE,hQ,jC,hk,↓xA,bO,bP,Bool.false_and]
def lZ:dF:=fun args objs K=>match args with
 | [a0]=>fB ay a0 (HK.mk:HK fun n=>(pO n)∧K (.bool (qV n)) objs 0)
 | _=>False
theorem BU:aB Tryz.prog 26 (lZ):=by
 intro args objs K h
 unfold lZ at h
 split at h
 · rename_i a0
   obtain ⟨n,rfl,h1,hk⟩:=h
   exact ⟨_,_,_,.pure _ rfl (PN n h1),hk⟩
 · exact h.elim
theorem PO (a:fQ) (h:pO a.c):ai Tryz.prog 9 [bX a] [] (.bool (gG a)) []:=by
 unfold gG
 refine zX.bg (T:=aR Tryz.prog [(26,lZ)]) 0 hD (aj (af BU ah)) a_ (by decide) fun Q hQ=>?_
 (conv=>arg 4;cbv);simp(maxSteps:=400000)only[↓aT,aU,BEq.rfl,reduceIte,reduceCtorEq,Nat.reduceLT,reduceAdd,reduceSub,reduceMul,Nat.reduceBEq,reduceLeDiff,reduceToNat,reduceLE,hQ]
 refine aN _ (Weak.freeze 1 0 (zero_le _) _) ?_
 rcases tf (0≤a.n) with h1 | h1
 rotate_left 1
 · simp(maxSteps:=400000)only[↓aT,aU,BEq.rfl,reduceIte,reduceCtorEq,Nat.reduceLT,reduceAdd,reduceSub,reduceMul,Nat.reduceBEq,reduceLeDiff,reduceToNat,reduceLE,hQ,OL,h1,Bool.false_and]
 rcases tf (a.n≤5) with h2 | h2
 rotate_left 1
 · simp(maxSteps:=400000)only[↓aT,aU,BEq.rfl,reduceIte,reduceCtorEq,Nat.reduceLT,reduceAdd,reduceSub,reduceMul,Nat.reduceBEq,reduceLeDiff,reduceToNat,reduceLE,hQ,OL,h1,h2,Bool.false_and,Bool.and_false]
 simp(maxSteps:=400000)only[↓aT,aU,BEq.rfl,reduceIte,reduceCtorEq,Nat.reduceLT,reduceAdd,reduceSub,reduceMul,Nat.reduceBEq,reduceLeDiff,reduceToNat,reduceLE,hQ,OL,h1,h2,↓lZ]
 exact h
def l6:dF:=fun args objs K=>match args with
 | [a0]=>fB bX a0 (HK.mk:HK fun a=>(pO a.c)∧K (.bool (gG a)) objs 0)
 | _=>False
theorem BV:aB Tryz.prog 9 (l6):=by
 intro args objs K h
 unfold l6 at h
 split at h
 · rename_i a0
   obtain ⟨a,rfl,h1,hk⟩:=h
   exact ⟨_,_,_,.pure _ rfl (PO a h1),hk⟩
 · exact h.elim
theorem H6 (how c:Int):(how=0∧lS how c=decide (c=0))∨(how=1∧lS how c=!decide (c=0))∨(how=2∧lS how c=decide (c<0))∨(how=3∧lS how c=decide (c≤0))∨(how=4∧lS how c=decide (0<c))∨
  ((how=0)=False∧(how=1)=False∧(how=2)=False∧(how=3)=False∧(how=4)=False∧lS how c=decide (0≤c)):=by
 by_cases h0:how=0
 · exact .inl ⟨h0,by simp [lS,h0]⟩
 by_cases h1:how=1
 · exact .inr (.inl ⟨h1,by simp [lS,h1]⟩)
 by_cases h2:how=2
 · exact .inr (.inr (.inl ⟨h2,by simp [lS,h2]⟩))
 by_cases h3:how=3
 · exact .inr (.inr (.inr (.inl ⟨h3,by simp [lS,h3]⟩)))
 by_cases h4:how=4
 · exact .inr (.inr (.inr (.inr (.inl ⟨h4,by simp [lS,h4]⟩))))
 · exact .inr (.inr (.inr (.inr (.inr ⟨eq_false h0,eq_false h1,eq_false h2,eq_false h3,eq_false h4,by simp [lS,h0,h1,h2,h3,h4]⟩))))
theorem WN (how c:Int):ai Tryz.prog 50 [.int .i64 how,.int .i64 c] [] (.bool (lS how c)) []:=by
 refine Bl.bg (T:=aR Tryz.prog []) 0 hD (aj ah) a_ (by decide) fun Q hQ=>?_
 rcases H6 how c with ⟨h,hr⟩ | ⟨h,hr⟩ | ⟨h,hr⟩ | ⟨h,hr⟩ | ⟨h,hr⟩ | ⟨k0,k1,k2,k3,k4,hr⟩
 · rw [h] at hr
   (conv=>arg 4;cbv);simp(maxSteps:=400000)only[↓aT,aU,BEq.rfl,reduceIte,reduceCtorEq,Nat.reduceLT,reduceAdd,reduceSub,reduceMul,Nat.reduceBEq,reduceLeDiff,reduceToNat,reduceLE,hQ,hr,h]
 · rw [h] at hr
   (conv=>arg 4;cbv);simp(maxSteps:=400000)only[↓aT,aU,BEq.rfl,reduceIte,reduceCtorEq,Nat.reduceLT,reduceAdd,reduceSub,reduceMul,Nat.reduceBEq,reduceLeDiff,reduceToNat,reduceLE,hQ,hr,h,reduceEq]
 · rw [h] at hr
   (conv=>arg 4;cbv);simp(maxSteps:=400000)only[↓aT,aU,BEq.rfl,reduceIte,reduceCtorEq,Nat.reduceLT,reduceAdd,reduceSub,reduceMul,Nat.reduceBEq,reduceLeDiff,reduceToNat,reduceLE,hQ,hr,h,reduceEq]
 · rw [h] at hr
   (conv=>arg 4;cbv);simp(maxSteps:=400000)only[↓aT,aU,BEq.rfl,reduceIte,reduceCtorEq,Nat.reduceLT,reduceAdd,reduceSub,reduceMul,Nat.reduceBEq,reduceLeDiff,reduceToNat,reduceLE,hQ,hr,h,reduceEq]
 · rw [h] at hr
   (conv=>arg 4;cbv);simp(maxSteps:=400000)only[↓aT,aU,BEq.rfl,reduceIte,reduceCtorEq,Nat.reduceLT,reduceAdd,reduceSub,reduceMul,Nat.reduceBEq,reduceLeDiff,reduceToNat,reduceLE,hQ,hr,h,reduceEq]
 · (conv=>arg 4;cbv);simp(maxSteps:=400000)only[↓aT,aU,BEq.rfl,reduceIte,reduceCtorEq,Nat.reduceLT,reduceAdd,reduceSub,reduceMul,Nat.reduceBEq,reduceLeDiff,reduceToNat,reduceLE,hQ,k0,k1,k2,k3,k4,hr]
def FP:dF:=fun args objs K=>match args with
 | [.int .i64 how,.int .i64 c]=>K (.bool (lS how c)) objs 0
 | _=>False
theorem SQ:aB Tryz.prog 50 (FP):=by
 intro args objs K h
 unfold FP at h
 split at h
 · rename_i how c
   have hk:=h
   exact ⟨_,_,_,.pure _ rfl (WN how c),hk⟩
 · exact h.elim
structure fe (n:Nd):Prop where
 sc:qV n=true
 len:n.s.length≤1000000
theorem fe.few {n:Nd}(h:fe n):aem [n] 1:=by
 have hr:dJ [n]=true:=by
  have:=h.sc
  simp only [qV,Bool.and_eq_true] at this
  exact this.2
 have hrt:=xL hr
 have hpl:=Mt hr
 refine ⟨by simp,hrt,⟨hrt.one,by simp,fun m hm=>?_⟩,⟨hrt.one,by simp,fun m hm hk3=>UU (qC (hpl m hm) hk3)⟩⟩
 have hp:=hpl m hm
 rw [List.mem_singleton] at hm
 subst hm
 exact WK hp h.len
theorem PS (a:fQ) (n:Nd) (ha:fe a.c) (hn:fe n):ai Tryz.prog 117 [bX a,ay n] [] (.bool (jR a n)) []:=by
 obtain ⟨f,hf⟩:∃ f:Nat,f=1:=⟨1,rfl⟩
 have hh:jR a n=lS a.n (sD f [n] [a.c]):=by rw [hf];rfl
 rw [hh]
 have hl:[n].length≤f:=by rw [hf];exact Nat.le_refl _
 have o1:=hn.few.ok
 have o2:=ha.few.ok
 refine LH.bg (T:=aR Tryz.prog [(128,(yt f))]) 0 hD (aj (af (Mr f) ah)) a_ (by decide) fun Q hQ=>?_
 generalize hc:sD f [n] [a.c]=c
 (conv=>arg 4;cbv);simp(maxSteps:=400000)only[↓aT,aU,BEq.rfl,reduceIte,reduceCtorEq,Nat.reduceLT,reduceAdd,reduceSub,reduceMul,Nat.reduceBEq,reduceLeDiff,reduceToNat,reduceLE,hQ]
 refine aN _ (Weak.freeze 1 0 (zero_le _) _) ?_
 simp(maxSteps:=400000)only[↓aT,aU,BEq.rfl,reduceIte,reduceCtorEq,Nat.reduceLT,reduceAdd,reduceSub,reduceMul,Nat.reduceBEq,reduceLeDiff,reduceToNat,reduceLE,hQ,YS,YU,↓yt,hc,bO,bP]
 refine ⟨hl,o1,o2,?_⟩
 rcases H6 a.n c with ⟨h,hr⟩ | ⟨h,hr⟩ | ⟨h,hr⟩ | ⟨h,hr⟩ | ⟨h,hr⟩ | ⟨k0,k1,k2,k3,k4,hr⟩
 · rw [h] at hr
   simp(maxSteps:=400000)only[↓aT,aU,BEq.rfl,reduceIte,reduceCtorEq,Nat.reduceLT,reduceAdd,reduceSub,reduceMul,Nat.reduceBEq,reduceLeDiff,reduceToNat,reduceLE,hQ,hr,h]
 · rw [h] at hr
   simp(maxSteps:=400000)only[↓aT,aU,BEq.rfl,reduceIte,reduceCtorEq,Nat.reduceLT,reduceAdd,reduceSub,reduceMul,Nat.reduceBEq,reduceLeDiff,reduceToNat,reduceLE,hQ,hr,h,reduceEq]
 · rw [h] at hr
   simp(maxSteps:=400000)only[↓aT,aU,BEq.rfl,reduceIte,reduceCtorEq,Nat.reduceLT,reduceAdd,reduceSub,reduceMul,Nat.reduceBEq,reduceLeDiff,reduceToNat,reduceLE,hQ,hr,h,reduceEq]
 · rw [h] at hr
   simp(maxSteps:=400000)only[↓aT,aU,BEq.rfl,reduceIte,reduceCtorEq,Nat.reduceLT,reduceAdd,reduceSub,reduceMul,Nat.reduceBEq,reduceLeDiff,reduceToNat,reduceLE,hQ,hr,h,reduceEq]
 · rw [h] at hr
   simp(maxSteps:=400000)only[↓aT,aU,BEq.rfl,reduceIte,reduceCtorEq,Nat.reduceLT,reduceAdd,reduceSub,reduceMul,Nat.reduceBEq,reduceLeDiff,reduceToNat,reduceLE,hQ,hr,h,reduceEq]
 · simp(maxSteps:=400000)only[↓aT,aU,BEq.rfl,reduceIte,reduceCtorEq,Nat.reduceLT,reduceAdd,reduceSub,reduceMul,Nat.reduceBEq,reduceLeDiff,reduceToNat,reduceLE,hQ,k0,k1,k2,k3,k4,hr]
def yA:dF:=fun args objs K=>match args with
 | [a0,a1]=>fB bX a0 (HK.mk:HK fun a=>fB ay a1 (HK.mk:HK fun n=>(fe a.c)∧(fe n)∧K (.bool (jR a n)) objs 0))
 | _=>False
theorem MG:aB Tryz.prog 117 (yA):=by
 intro args objs K h
 unfold yA at h
 split at h
 · rename_i a0 a1
   obtain ⟨a,rfl,n,rfl,h1,h2,hk⟩:=h
   exact ⟨_,_,_,.pure _ rfl (PS a n h1 h2),hk⟩
 · exact h.elim
theorem PU (a:fQ) (n:Nd) (ha:fe a.c) (hn:fe n):ai Tryz.prog 19 [bX a,ay n] [] (.bool (jR a n)) []:=by
 obtain ⟨f,hf⟩:∃ f:Nat,f=1:=⟨1,rfl⟩
 have hh:jR a n=lS a.n (jF lq f [n] [a.c]):=by rw [hf,PG 1 _ _ hn.few.rt ha.few.rt];rfl
 rw [hh]
 have hl:[n].length≤f:=by rw [hf];exact Nat.le_refl _
 have o1:=hn.few.ok2
 have o2:=ha.few.ok2
 refine zY.bg (T:=aR Tryz.prog [(51,(FO f)),(50,FP)]) 0 hD (aj (af (SK f) (af SQ ah))) a_ (by decide) fun Q hQ=>?_
 (conv=>arg 4;cbv);simp(maxSteps:=400000)only[↓aT,aU,BEq.rfl,reduceIte,reduceCtorEq,Nat.reduceLT,reduceAdd,reduceSub,reduceMul,Nat.reduceBEq,reduceLeDiff,reduceToNat,reduceLE,hQ]
 refine aN _ (Weak.freeze 1 0 (zero_le _) _) ?_
 simp(maxSteps:=400000)only[↓aT,aU,BEq.rfl,reduceIte,reduceCtorEq,Nat.reduceLT,reduceAdd,reduceSub,reduceMul,Nat.reduceBEq,reduceLeDiff,reduceToNat,reduceLE,hQ,YS,YU,↓FO,↓FP,bO,bP]
 exact ⟨hl,o1,o2⟩
def tO:dF:=fun args objs K=>match args with
 | [a0,a1]=>fB bX a0 (HK.mk:HK fun a=>fB ay a1 (HK.mk:HK fun n=>(fe a.c)∧(fe n)∧K (.bool (jR a n)) objs 0))
 | _=>False
theorem MH:aB Tryz.prog 19 (tO):=by
 intro args objs K h
 unfold tO at h
 split at h
 · rename_i a0 a1
   obtain ⟨a,rfl,n,rfl,h1,h2,hk⟩:=h
   exact ⟨_,_,_,.pure _ rfl (PU a n h1 h2),hk⟩
 · exact h.elim
end Lp
namespace Lp
open Go Go.Proofs
end Lp
namespace Lp
open Go
structure Zq (names:List (List UInt8)) (l:List Vl) (q:JY) (done:List Bool) (m:Nat):Prop where
 par:names.length=l.length
 len:done.length=names.length
 cnt:q.length+m=names.length
 left:done.count false=m
 mem:∀ x:List UInt8×Vl,x ∈ q↔∃ i:Nat,done[i]?=some true∧names[i]?=some x.1∧l[i]?=some x.2
 rise:sH (q.map (·.1))
 utf:∀ x ∈ q,utf x.1=true
 low:∀ (i:Nat) nm,done[i]?=some false→names[i]?=some nm→∀ x ∈ q,Op.bytesLess nm x.1=false
 one:∀ (i j:Nat) nm,done[i]?=some true→done[j]?=some true→names[i]?=some nm→names[j]?=some nm→i=j
theorem Zq.above {names:List (List UInt8)}{l:List Vl}{q:JY}{done:List Bool}{m:Nat}(h:Zq names l q done m){b:Nat}{nm:List UInt8}(hb:done[b]?=some false) (hn:names[b]?=some nm)
  (hl:∀ x,q.getLast?=some x→x.1≠nm):∀ x ∈ q,Op.bytesLess x.1 nm=true:=by
 have hlow:=h.low b nm hb hn
 rcases List.eq_nil_or_concat q with rfl | ⟨q',z,rfl⟩
 · intro x hx;cases hx
 rw [List.concat_eq_append] at *
 have hz:z ∈ q'++[z]:=by simp
 have hzl:Op.bytesLess z.1 nm=true:=by
  rcases CQ z.1 nm with g | g | g
  · exact g
  · exact absurd g (hl z (by simp))
  · rw [hlow z hz] at g;cases g
 intro x hx
 have hr:=h.rise
 rw [List.map_append] at hr
 rcases List.mem_append.1 hx with hx | hx
 · exact om _ _ _ ((List.pairwise_append.1 hr).2.2 x.1 (List.mem_map.2 ⟨x,hx,rfl⟩) z.1 (by simp)) hzl
 · simp only [List.mem_singleton] at hx
   subst hx;exact hzl
theorem Zq.step {names:List (List UInt8)}{l:List Vl}{q:JY}{done:List Bool}{m:Nat}(h:Zq names l q done (m+1)){b:Nat}{nm:List UInt8}{v:Vl}(hb:done[b]?=some false) (hn:names[b]?=some nm) (hv:l[b]?=some v)
  (hmin:∀ (i:Nat) LP,done[i]?=some false→names[i]?=some LP→Op.bytesLess LP nm=false) (hu:Lp.utf nm=true) (hl:∀ x,q.getLast?=some x→x.1≠nm) :
  Zq names l (q++[(nm,v)]) (done.set b true) m:=by
 have hbl:=(List.getElem?_eq_some_iff.1 hb).1
 have hab:=h.above hb hn hl
 have hset:∀ i c,(done.set b true)[i]?=some c→(i=b∧c=true)∨(i≠b∧done[i]?=some c):=fun i c hc=>by
  rw [List.getElem?_set] at hc
  split at hc
  · rename_i e
    subst e
    exact .inl ⟨rfl,by simpa [hbl] using hc.symm⟩
  · rename_i e
    exact .inr ⟨fun e'=>e e'.symm,hc⟩
 have hset':∀ i c,i≠b→done[i]?=some c→(done.set b true)[i]?=some c:=fun i c hi hc=>by
  rw [List.getElem?_set_ne (fun e=>hi e.symm)];exact hc
 have hsb:(done.set b true)[b]?=some true:=by rw [List.getElem?_set_self hbl]
 refine ⟨h.par,by simp [h.len],by have:=h.cnt;simp;omega,?_,fun x=>?_,?_,?_,?_,?_⟩
 · have h1:=h.left
   have e:done=done.take b++false::done.drop (b+1):=by
    have:=List.getElem?_eq_some_iff.1 hb
    obtain ⟨_,e⟩:=this
    conv=>lhs;rw [← List.take_append_drop b done,List.drop_eq_getElem_cons hbl,e]
   have e2:done.set b true=done.take b++true::done.drop (b+1):=by
    rw [List.set_eq_take_append_cons_drop,if_pos hbl]
   rw [e2,List.count_append,List.count_cons]
   rw [e,List.count_append,List.count_cons] at h1
   simp at h1 ⊢
   omega
 · rw [List.mem_append,h.mem]
   constructor
   · rintro (⟨i,h1,h2,h3⟩ | hx)
     · have:i≠b:=fun e=>by subst e;rw [hb] at h1;cases h1
       exact ⟨i,hset' i _ this h1,h2,h3⟩
     · simp only [List.mem_singleton] at hx
       subst hx
       exact ⟨b,hsb,hn,hv⟩
   · rintro ⟨i,h1,h2,h3⟩
     rcases hset i _ h1 with ⟨rfl,_⟩ | ⟨hi,hd⟩
     · right
       rw [hn] at h2;rw [hv] at h3
       simp only [Option.some.injEq] at h2 h3
       simp [h2,h3]
     · exact .inl ⟨i,hd,h2,h3⟩
 · rw [List.map_append]
   refine List.pairwise_append.2 ⟨h.rise,by simp,fun x hx y hy=>?_⟩
   simp only [List.map_cons,List.map_nil,List.mem_singleton] at hy
   subst hy
   obtain ⟨z,hz,rfl⟩:=List.mem_map.1 hx
   exact hab z hz
 · intro x hx
   rcases List.mem_append.1 hx with hx | hx
   · exact h.utf x hx
   · simp only [List.mem_singleton] at hx
     subst hx;exact hu
 · intro i LP h1 h2 x hx
   rcases hset i _ h1 with ⟨_,hc⟩ | ⟨hi,hd⟩
   · cases hc
   · rcases List.mem_append.1 hx with hx | hx
     · exact h.low i LP hd h2 x hx
     · simp only [List.mem_singleton] at hx
       subst hx
       exact hmin i LP hd h2
 · intro i j LP h1 h2 h3 h4
   have key:∀ k,k≠b→done[k]?=some true→names[k]?=some LP→LP≠nm:=fun k hk hd hnk e=>by
    subst e
    have hkl:k<l.length:=by rw [← h.par];exact (List.getElem?_eq_some_iff.1 hnk).1
    have:=hab (LP,l[k]) ((h.mem _).2 ⟨k,hd,hnk,List.getElem?_eq_getElem hkl⟩)
    rw [eu] at this;cases this
   rcases hset i _ h1 with ⟨rfl,_⟩ | ⟨hi,hd⟩
   · rcases hset j _ h2 with ⟨rfl,_⟩ | ⟨hj,hd'⟩
     · rfl
     · rw [hn] at h3
       simp only [Option.some.injEq] at h3
       exact absurd h3.symm (key j hj hd' h4)
   · rcases hset j _ h2 with ⟨rfl,_⟩ | ⟨hj,hd'⟩
     · rw [hn] at h4
       simp only [Option.some.injEq] at h4
       exact absurd h4.symm (key i hi hd h3)
     · exact h.one i j LP hd hd' h3 h4
theorem Zq.all {names:List (List UInt8)}{l:List Vl}{q:JY}{done:List Bool}(h:Zq names l q done 0){i:Nat}(hi:i<names.length):done[i]?=some true:=by
 have h1:=List.getElem?_eq_getElem (by rw [h.len];exact hi:i<done.length)
 rw [h1]
 cases hd:done[i]'(by rw [h.len];exact hi) with
 | true=>rfl
 | false=>
  have:=h.left
  rw [List.count_eq_zero] at this
  exact absurd (by rw [← hd];exact List.getElem_mem _) this
theorem Zq.end {names:List (List UInt8)}{l:List Vl}{q:JY}{done:List Bool}(h:Zq names l q done 0):xM names l.length=true∧q=XL (names.zip l):=by
 have hq:∀ (i:Nat) (hi:i<names.length),(names[i],l[i]'(by rw [← h.par];exact hi)) ∈ q:=fun i hi=>
  (h.mem _).2 ⟨i,h.all hi,List.getElem?_eq_getElem hi,List.getElem?_eq_getElem _⟩
 have hok:xM names l.length=true:=by
  rw [qU]
  refine ⟨h.par,?_,fun x hx=>?_⟩
  · refine List.pairwise_iff_getElem.2 fun i j hi hj hij e=>?_
    have:=h.one i j names[i] (h.all hi) (h.all hj) (List.getElem?_eq_getElem hi) (by rw [e];exact List.getElem?_eq_getElem hj)
    omega
  · obtain ⟨i,hi,rfl⟩:=List.mem_iff_getElem.1 hx
    exact h.utf _ (hq i hi)
 refine ⟨hok,NM hok h.rise fun x=>?_⟩
 constructor
 · intro hx
   obtain ⟨i,_,h2,h3⟩:=(h.mem x).1 hx
   refine List.mem_iff_getElem?.2 ⟨i,?_⟩
   rw [List.getElem?_zip_eq_some]
   exact ⟨h2,h3⟩
 · intro hx
   obtain ⟨i,hi⟩:=List.mem_iff_getElem?.1 hx
   rw [List.getElem?_zip_eq_some] at hi
   exact (h.mem x).2 ⟨i,h.all (List.getElem?_eq_some_iff.1 hi.1).1,hi.1,hi.2⟩
theorem Zq.some {names:List (List UInt8)}{l:List Vl}{q:JY}{done:List Bool}{m:Nat}(h:Zq names l q done (m+1)):∃ i:Nat,done[i]?=Option.some false:=by
 have:0<done.count false:=by rw [h.left];omega
 exact List.mem_iff_getElem?.1 (List.count_pos_iff.1 this)
end Lp
namespace Lp
open Go Go.Proofs
theorem SS {α:Type}{f:PV→PV}(enc:α→PV) (h:∀ x,(enc x).bJ f=enc x) (l:List α):(l.map enc).map (PV.bJ f)=l.map enc:=by
 rw [List.map_map]
 exact List.map_congr_left fun x _=>h x
end Lp
namespace Lp
open Go Go.Proofs
theorem aP.SV {P:Program}{D:TypeId→aD}{T:Know}{f:FuncId}{n t u:Nat}{ty uy:TypeId}{C:LC}{args:List PV}{r:PV}(h:aP P f n [.cell t ty,.cell u uy] C) (d:Nat) (hD:∀ t,iN P t (D t)) (hT:FB P none rV T) (hm:P.follows .mixedOrders=true) (ht:t<n) (hu:u<n)
  (hw:∀ Q:Exit→St→Prop,(∀ l ob,Q .ret ⟨dI n l,ob⟩=fq (D ty) (l_ l t) ob fun p _ _=>fq (D uy) (l_ l u) ob fun q _ _=>r=.b_ [gQ d 0 ob p,gQ d 0 ob q])→kW P D T C Q (bV args n)):ai P f args [] r []:=by
 refine h.pure d hD hT hm (by simp) (hw _ fun l ob=>?_)
 simp only [nk,jI,rW.2.1 n l t ht,rW.2.1 n l u hu,List.map_cons,List.map_nil,fw]
def Ez:Vl→Int
 | []=>0
 | n::_=>n.kind
def Zr (v:Vl) (nm:List UInt8):Option Vl:=if Ez v=6 then aeV (prs v) nm else none
def SX (v:Vl) (nm:List UInt8):Vl:=(Zr v nm).getD []
theorem eX.lt {O:List Obj}(h:eX O):jU O:=fun o ho x hx c hc=>by
 have:=h o ho x hx c hc
 cases c <;> first | rfl | (simp [PV.ref] at this)
end Lp
namespace Lp
open Go Go.Proofs Go.RowKit Go.Sort
end Lp
namespace Lp
open Go Go.Proofs Go.RowKit
end Lp
namespace Lp
open Go Go.Proofs
theorem WO (P:Program) (D:TypeId→aD) (T:Know) (w pt:Bool) (ev:Operand→PV) (objs:List Obj) (K:KT) :
  (∀ t x ix ok,lg P D T w pt ev objs (.lookup t x ix ok) K=lG D t (ev x) (ev ix) ok objs K)∧
  (∀ t x y z,lg P D T w pt ev objs (.mapUpdate t x y z) K=gH D t (ev x) (ev y) (ev z) objs K)∧
  (∀ t,lg P D T w pt ev objs (.makeMap t none) K=kY D t objs K):=⟨fun _ _ _ _=>rfl,fun _ _ _ _=>rfl,fun _=>rfl⟩
theorem SY (ti:aD):(∀ i v,found ti (some (i,v)) true=.b_ [v,.bool true])∧(∀ i v,found ti (some (i,v)) false=v)∧(found ti none true=.b_ [aI ti,.bool false])∧(found ti none false=aI ti):=⟨fun _ _=>rfl,fun _ _=>rfl,rfl,rfl⟩
end Lp
namespace Lp
open Go Go.Proofs
open Nat (lt_or_ge reduceAdd reduceLeDiff reduceMul reduceSub)
open Int (reduceLE reduceToNat)
theorem WQ (mask kind:Int) (hm:0≤mask∧mask≤1000000) (hk:0≤kind∧kind≤1000000):ai Tryz.prog 73 [.int .i64 mask,.int .i64 kind] [] (.bool (jy mask kind)) []:=by
 refine Bn.bg (T:=aR Tryz.prog []) 0 hD (aj ah) a_ (by decide) fun Q hQ=>?_
 (conv=>arg 4;cbv);simp(maxSteps:=400000)only[↓aT,aU,BEq.rfl,reduceIte,reduceCtorEq,Nat.reduceLT,reduceAdd,reduceSub,reduceMul,Nat.reduceBEq,reduceLeDiff,reduceToNat,reduceLE,hQ]
 refine aH (fun m S=>∃ (i x:Nat),i+m=kind.toNat∧x=mask.toNat / 2 ^ i∧S=⟨dI 16 [(0,.int .i64 x),(1,.int .i64 kind),(5,.int .i64 i)],[]⟩) kind.toNat ⟨0,mask.toNat,by omega,by simp,?_⟩ ?_
 · simp only [bW,keepR,reduceAdd,nu,Nat.reduceBEq,List.map_nil]
   rw [Int.toNat_of_nonneg hm.1];rfl
 rintro m S ⟨i,x,him,hx,rfl⟩
 have hxm:x≤mask.toNat:=by rw [hx];exact Nat.div_le_self ..
 rcases lt_or_ge i kind.toNat with h | h
 rotate_left 1
 · have hlt:((i:Int)<kind)=False:=eq_false (by omega)
   have hi:i=kind.toNat:=by omega
   have hr:jy mask kind=decide ((x:Int).tmod 2=1):=by
    have e:(x:Int).tmod 2=((x % 2:Nat):Int):=rfl
    rw [e,jy,← hi,← hx,Bool.eq_iff_iff,beq_iff_eq,decide_eq_true_iff]
    omega
   simp(maxSteps:=400000)only[↓aT,aU,BEq.rfl,reduceIte,reduceCtorEq,Nat.reduceLT,reduceAdd,reduceSub,reduceMul,Nat.reduceBEq,reduceLeDiff,reduceToNat,reduceLE,hQ,hlt,hr]
   decide
 · have hlt:((i:Int)<kind)=True:=eq_true (by omega)
   simp(maxSteps:=400000)only[↓aT,aU,BEq.rfl,reduceIte,reduceCtorEq,Nat.reduceLT,reduceAdd,reduceSub,reduceMul,Nat.reduceBEq,reduceLeDiff,reduceToNat,reduceLE,hQ,hlt]
   have e:(x:Int).tdiv 2=((x / 2:Nat):Int):=rfl
   refine ⟨by decide,⟨by omega,by omega⟩,⟨by omega,by omega⟩,m-1,by omega,i+1,x / 2,by omega,?_,by simp [e]⟩
   rw [hx,Nat.div_div_eq_div_mul,Nat.pow_succ]
def BX:dF:=fun args objs K=>match args with
 | [.int .i64 mask,.int .i64 kind]=>(0≤mask∧mask≤1000000)∧(0≤kind∧kind≤1000000)∧K (.bool (jy mask kind)) objs 0
 | _=>False
theorem S9:aB Tryz.prog 73 (BX):=by
 intro args objs K h
 unfold BX at h
 split at h
 · rename_i mask kind
   obtain ⟨h1,h2,hk⟩:=h
   exact ⟨_,_,_,.pure _ rfl (WQ mask kind h1 h2),hk⟩
 · exact h.elim
theorem aeo (P:Program) (D:TypeId→aD) (T:Know) (w pt:Bool) (ev:Operand→PV) (objs:List Obj) (K:KT) :
  ∀ t x y z,lg P D T w pt ev objs (.insert t x y z) K=gH D t (ev x) (ev y) (ev z) objs K:=fun _ _ _ _=>rfl
theorem S_ (how:Int) (h:0≤how∧how≤5):ai Tryz.prog 89 [.int .i64 how] [] (.int .i64 (J3 how)) []:=by
 refine OE.bg (T:=aR Tryz.prog []) 0 hD (aj ah) a_ (by decide) fun Q hQ=>?_
 have:how=0∨how=1∨how=2∨how=3∨how=4∨how=5:=by omega
 rcases this with rfl | rfl | rfl | rfl | rfl | rfl
 all_goals
  (conv=>arg 4;cbv);simp(maxSteps:=400000)only[↓aT,aU,BEq.rfl,reduceIte,reduceCtorEq,Nat.reduceLT,reduceAdd,reduceSub,reduceMul,Nat.reduceBEq,reduceLeDiff,reduceToNat,reduceLE,hQ,↓WO,↓aeo,kY,gH,lG]
  repeat refine ⟨.inr ⟨_,rfl⟩,_,rfl,?_⟩
  rfl
def BZ:dF:=fun args objs K=>match args with
 | [.int .i64 how]=>(0≤how∧how≤5)∧K (.int .i64 (J3 how)) objs 0
 | _=>False
theorem PX:aB Tryz.prog 89 (BZ):=by
 intro args objs K h
 unfold BZ at h
 split at h
 · rename_i how
   obtain ⟨h1,hk⟩:=h
   exact ⟨_,_,_,.pure _ rfl (S_ how h1),hk⟩
 · exact h.elim
theorem WR (a:fQ) (n:Nd) (ha:fe a.c) (hn:fe n):ai Tryz.prog 116 [bX a,.addr (ay n)] [] (.bool (Bool.not (jR a n))) []:=by
 refine EU.bg (T:=aR Tryz.prog [(117,yA)]) 0 hD (aj (af MG ah)) a_ (by decide) fun Q hQ=>?_
 (conv=>arg 4;cbv);simp(maxSteps:=400000)only[↓aT,aU,BEq.rfl,reduceIte,reduceCtorEq,Nat.reduceLT,reduceAdd,reduceSub,reduceMul,Nat.reduceBEq,reduceLeDiff,reduceToNat,reduceLE,hQ]
 refine aN _ (Weak.freeze 1 0 (Nat.zero_le _) _) ?_
 simp(maxSteps:=400000)only[↓aT,aU,BEq.rfl,reduceIte,reduceCtorEq,Nat.reduceLT,reduceAdd,reduceSub,reduceMul,Nat.reduceBEq,reduceLeDiff,reduceToNat,reduceLE,hQ,OL,↓yA]
 exact ⟨ha,hn⟩
def B_ (n:Nd):dF:=fun args objs K=>match args with
 | [a0,a1]=>fB bX a0 (HK.mk:HK fun a=>a1=(.addr (ay n))∧(fe a.c)∧(fe n)∧K (.bool (Bool.not (jR a n))) objs 0)
 | _=>False
theorem Ta (n:Nd):aB Tryz.prog 116 (B_ n):=by
 intro args objs K h
 unfold B_ at h
 split at h
 · rename_i a0 a1
   obtain ⟨a,rfl,rfl,h1,h2,hk⟩:=h
   exact ⟨_,_,_,.pure _ rfl (WR a n h1 h2),hk⟩
 · exact h.elim
def lu (n:Nd) (a:fQ):Bool:=Bool.not (jR a n)
theorem MI (l:List fQ) (n:Nd) (hl:l.length≤4611686018427387904) (ha:∀ a ∈ l,fe a.c) (hn:fe n):ai Tryz.prog 104 [bf l,.fn 116 [] [.addr (ay n)]] [] (.int .i64 (idxOf (lu n) l)) []:=by
 refine fI.bg (T:=aR Tryz.prog [(116,(B_ n))]) 0 hD (aj (af (Ta n) ah)) a_ (by decide) fun Q hQ=>?_
 (conv=>arg 4;cbv);simp(maxSteps:=400000)only[↓aT,aU,BEq.rfl,reduceIte,reduceCtorEq,Nat.reduceLT,reduceAdd,reduceSub,reduceMul,Nat.reduceBEq,reduceLeDiff,reduceToNat,reduceLE,hQ]
 refine aH (fun m S=>∃ i:Nat,i+m=l.length∧(∀ (j:Nat) y,j<i→l[j]?=some y→lu n y=false)∧S=⟨dI 19 [(0,bf l),(1,.fn 116 [] [.addr (ay n)]),(7,.int .i64 l.length),(8,.int .i64 i)],[]⟩) l.length ⟨0,by omega,fun j y h=>absurd h (Nat.not_lt_zero j),?_⟩ ?_
 · simp only [bW,keepR,reduceAdd,nu,Nat.reduceBEq,List.map_nil]
   rfl
 rintro m S ⟨i,him,hb,rfl⟩
 rcases lt_or_ge i l.length with h | h
 rotate_left 1
 · have hlt:((i:Int)<(l.length:Int))=False:=eq_false (by omega)
   have hr:=u6 (l:=l) fun j y hj=>hb j y (by have:=(List.getElem?_eq_some_iff.1 hj).1;omega) hj
   simp(maxSteps:=400000)only[↓aT,aU,BEq.rfl,reduceIte,reduceCtorEq,Nat.reduceLT,reduceAdd,reduceSub,reduceMul,Nat.reduceBEq,reduceLeDiff,reduceToNat,reduceLE,hQ,hlt,hr]
 have hlt:((i:Int)<(l.length:Int))=True:=eq_true (by omega)
 have zi:(0≤(i:Int))=True:=eq_true (by omega)
 have hgi:=List.getElem?_eq_getElem h
 have hao:=ha _ (List.getElem_mem h)
 generalize l[i]=o at hgi hao
 cases hp:jR o n
 · have hr:idxOf (lu n) l=i:=idxOf_hit hgi (by simp [lu,hp]) hb
   simp(maxSteps:=400000)only[↓aT,aU,BEq.rfl,reduceIte,reduceCtorEq,Nat.reduceLT,reduceAdd,reduceSub,reduceMul,Nat.reduceBEq,reduceLeDiff,reduceToNat,reduceLE,hQ,hlt,zi,hgi,↓B_,hp,hr]
   exact ⟨hao,hn⟩
 · simp(maxSteps:=400000)only[↓aT,aU,BEq.rfl,reduceIte,reduceCtorEq,Nat.reduceLT,reduceAdd,reduceSub,reduceMul,Nat.reduceBEq,reduceLeDiff,reduceToNat,reduceLE,hQ,hlt,zi,hgi,↓B_,hp]
   refine ⟨hao,hn,⟨by omega,by omega⟩,m-1,by omega,i+1,by omega,fun j y hj hy=>?_,rfl⟩
   rcases lt_or_ge j i with g | g
   · exact hb j y g hy
   · have:j=i:=by omega
     subst this
     rw [hgi] at hy;cases hy
     simp [lu,hp]
def ve (n:Nd):dF:=fun args objs K=>match args with
 | [a0,a1]=>fB bf a0 (HK.mk:HK fun l=>a1=(.fn 116 [] [.addr (ay n)])∧(l.length≤4611686018427387904)∧(∀ a ∈ l,fe a.c)∧(fe n)∧K (.int .i64 (idxOf (lu n) l)) objs 0)
 | _=>False
theorem Ju (n:Nd):aB Tryz.prog 104 (ve n):=by
 intro args objs K h
 unfold ve at h
 split at h
 · rename_i a0 a1
   obtain ⟨l,rfl,rfl,h1,h2,h3,hk⟩:=h
   exact ⟨_,_,_,.pure _ rfl (MI l n h1 h2 h3),hk⟩
 · exact h.elim
theorem MJ (l:List fQ) (n:Nd) (hl:l.length≤4611686018427387904) (ha:∀ a ∈ l,fe a.c) (hn:fe n):ai Tryz.prog 86 [bf l,.fn 116 [] [.addr (ay n)]] [] (.bool (l.any (lu n))) []:=by
 refine eZ.bg (T:=aR Tryz.prog [(104,(ve n))]) 0 hD (aj (af (Ju n) ah)) a_ (by decide) fun Q hQ=>?_
 (conv=>arg 4;cbv);simp(maxSteps:=400000)only[↓aT,aU,BEq.rfl,reduceIte,reduceCtorEq,Nat.reduceLT,reduceAdd,reduceSub,reduceMul,Nat.reduceBEq,reduceLeDiff,reduceToNat,reduceLE,hQ,↓ve,yx]
 exact ⟨hl,ha,hn⟩
def vg (n:Nd):dF:=fun args objs K=>match args with
 | [a0,a1]=>fB bf a0 (HK.mk:HK fun l=>a1=(.fn 116 [] [.addr (ay n)])∧(l.length≤4611686018427387904)∧(∀ a ∈ l,fe a.c)∧(fe n)∧K (.bool (l.any (lu n))) objs 0)
 | _=>False
theorem Jv (n:Nd):aB Tryz.prog 86 (vg n):=by
 intro args objs K h
 unfold vg at h
 split at h
 · rename_i a0 a1
   obtain ⟨l,rfl,rfl,h1,h2,h3,hk⟩:=h
   exact ⟨_,_,_,.pure _ rfl (MJ l n h1 h2 h3),hk⟩
 · exact h.elim
theorem Zt {mask kind:Int}(hm:0≤mask∧mask≤31) (hk:0≤kind∧kind<5):oG .and .i64 (mask.fdiv (2 ^ min kind.toNat IntKind.i64.bits)) 1=if jy mask kind then 1 else 0:=by
 have key:∀ (m:Fin 32) (k:Fin 5),oG .and .i64 ((m.val:Int).fdiv (2 ^ min k.val IntKind.i64.bits)) 1=if (m.val / 2 ^ k.val) % 2==1 then 1 else 0:=by decide +kernel
 have:=key ⟨mask.toNat,by omega⟩ ⟨kind.toNat,by omega⟩
 simp only [Int.toNat_of_nonneg hm.1] at this
 exact this
theorem MK (mask:Int) (l:List fQ) (n:Nd) (hm:0≤mask∧mask≤31) (hl:l.length≤1000000) (ha:∀ a ∈ l,fe a.c) (hn:pO n) (hs:n.s.length≤1000000):ai Tryz.prog 103 [.int .i64 mask,bf l,ay n] [] (.bool (cO mask l n)) []:=by
 refine Ja.bg (T:=aR Tryz.prog [(115,qb),(86,(vg n))]) 0 hD (aj (af MF (af (Jv n) ah))) a_ (by decide) fun Q hQ=>?_
 (conv=>arg 4;cbv);simp(maxSteps:=400000)only[↓aT,aU,BEq.rfl,reduceIte,reduceCtorEq,Nat.reduceLT,reduceAdd,reduceSub,reduceMul,Nat.reduceBEq,reduceLeDiff,reduceToNat,reduceLE,hQ]
 refine aN _ (Weak.freeze 1 0 (Nat.zero_le _) _) ?_
 cases hp:qV n
 · have hr:cO mask l n=false:=by simp [cO,hp]
   simp(maxSteps:=400000)only[↓aT,aU,BEq.rfl,reduceIte,reduceCtorEq,Nat.reduceLT,reduceAdd,reduceSub,reduceMul,Nat.reduceBEq,reduceLeDiff,reduceToNat,reduceLE,hQ,jC,↓qb,hp,hr]
   exact hn
 have hk:=(oo hp).2.2
 have hbit:=Zt hm ⟨hk.1,hk.2.1⟩
 have hk0:(0≤n.kind)=True:=eq_true hk.1
 cases hb:jy mask n.kind
 · have hr:cO mask l n=false:=by simp [cO,hb]
   rw [hb,if_neg (by decide)] at hbit
   simp(maxSteps:=400000)only[↓aT,aU,BEq.rfl,reduceIte,reduceCtorEq,Nat.reduceLT,reduceAdd,reduceSub,reduceMul,Nat.reduceBEq,reduceLeDiff,reduceToNat,reduceLE,hQ,jC,↓qb,hp,hr,nL,hbit,hk0]
   exact hn
 · have hr:cO mask l n=!(l.any (lu n)):=by simp [cO,hp,hb,List.all_eq_not_any_not,lu];rfl
   rw [hb,if_pos rfl] at hbit
   simp(maxSteps:=400000)only[↓aT,aU,BEq.rfl,reduceIte,reduceCtorEq,Nat.reduceLT,reduceAdd,reduceSub,reduceMul,Nat.reduceBEq,reduceLeDiff,reduceToNat,reduceLE,hQ,jC,↓qb,hp,hr,nL,hbit,hk0,↓vg,Int.reduceEq]
   exact ⟨hn,by omega,ha,hp,hs⟩
end Lp
namespace Lp
open Go Go.Proofs
open Nat (lt_or_ge reduceAdd reduceLeDiff reduceMul reduceSub)
open Int (reduceLE reduceToNat)
theorem ML (mask:Int) (l:List fQ) (n:Nd) (hm:0≤mask∧mask≤1000000) (hl:l.length≤1000000) (ha:∀ a ∈ l,fe a.c) (hn:pO n) (hs:n.s.length≤1000000):ai Tryz.prog 40 [.int .i64 mask,bf l,ay n] [] (.bool (cO mask l n)) []:=by
 refine yS.bg (T:=aR Tryz.prog [(26,lZ),(73,BX),(19,tO)]) 0 hD (aj (af BU (af S9 (af MH ah)))) a_ (by decide) fun Q hQ=>?_
 (conv=>arg 4;cbv);simp(maxSteps:=400000)only[↓aT,aU,BEq.rfl,reduceIte,reduceCtorEq,Nat.reduceLT,reduceAdd,reduceSub,reduceMul,Nat.reduceBEq,reduceLeDiff,reduceToNat,reduceLE,hQ]
 refine aN _ (Weak.freeze 1 0 (Nat.zero_le _) _) ?_
 cases hp:qV n
 · have hr:cO mask l n=false:=by simp [cO,hp]
   simp(maxSteps:=400000)only[↓aT,aU,BEq.rfl,reduceIte,reduceCtorEq,Nat.reduceLT,reduceAdd,reduceSub,reduceMul,Nat.reduceBEq,reduceLeDiff,reduceToNat,reduceLE,hQ,jC,↓lZ,hp,hr]
   exact hn
 have hk:=(oo hp).2.2
 have hk':0≤n.kind∧n.kind≤1000000:=⟨hk.1,by omega⟩
 cases hb:jy mask n.kind
 · have hr:cO mask l n=false:=by simp [cO,hb]
   simp(maxSteps:=400000)only[↓aT,aU,BEq.rfl,reduceIte,reduceCtorEq,Nat.reduceLT,reduceAdd,reduceSub,reduceMul,Nat.reduceBEq,reduceLeDiff,reduceToNat,reduceLE,hQ,jC,↓lZ,↓BX,hp,hr,hb]
   exact ⟨hn,hm,hk'⟩
 have hr:cO mask l n=l.all fun a=>jR a n:=by simp [cO,hp,hb]
 simp(maxSteps:=400000)only[↓aT,aU,BEq.rfl,reduceIte,reduceCtorEq,Nat.reduceLT,reduceAdd,reduceSub,reduceMul,Nat.reduceBEq,reduceLeDiff,reduceToNat,reduceLE,hQ,jC,↓lZ,↓BX,hp,hr,hb]
 refine ⟨hn,hm,hk',?_⟩
 refine aH (fun m S=>∃ i:Nat,i+m=l.length∧(∀ (j:Nat) y,j<i→l[j]?=some y→jR y n=true)∧S=⟨dI 31 [(1,bf l),(5,.addr (ay n)),(7,.int .i64 i)],[]⟩) l.length ⟨0,by omega,fun j y h=>absurd h (Nat.not_lt_zero j),?_⟩ ?_
 · simp only [bW,keepR,reduceAdd,nu,Nat.reduceBEq,List.map_nil]
   rfl
 rintro m S ⟨i,him,hbf,rfl⟩
 rcases lt_or_ge i l.length with h | h
 rotate_left 1
 · have hlt:((i:Int)<(l.length:Int))=False:=eq_false (by omega)
   have hall:(l.all fun a=>jR a n)=true:=List.all_eq_true.2 fun x hx=>by
    obtain ⟨j,hj⟩:=List.mem_iff_getElem?.1 hx
    exact hbf j x (by have:=(List.getElem?_eq_some_iff.1 hj).1;omega) hj
   simp(maxSteps:=400000)only[↓aT,aU,BEq.rfl,reduceIte,reduceCtorEq,Nat.reduceLT,reduceAdd,reduceSub,reduceMul,Nat.reduceBEq,reduceLeDiff,reduceToNat,reduceLE,hQ,hlt,hr,hall]
 have hlt:((i:Int)<(l.length:Int))=True:=eq_true (by omega)
 have zi:(0≤(i:Int))=True:=eq_true (by omega)
 have hgi:=List.getElem?_eq_getElem h
 have hao:=ha _ (List.getElem_mem h)
 have hmem:=List.getElem_mem h
 generalize l[i]=o at hgi hao hmem
 cases hh:jR o n
 · have hall:(l.all fun a=>jR a n)=false:=List.all_eq_false.2 ⟨o,hmem,by simp [hh]⟩
   simp(maxSteps:=400000)only[↓aT,aU,BEq.rfl,reduceIte,reduceCtorEq,Nat.reduceLT,reduceAdd,reduceSub,reduceMul,Nat.reduceBEq,reduceLeDiff,reduceToNat,reduceLE,hQ,hlt,zi,hgi,↓tO,hh,hr,hall]
   exact ⟨hao,hp,hs⟩
 · simp(maxSteps:=400000)only[↓aT,aU,BEq.rfl,reduceIte,reduceCtorEq,Nat.reduceLT,reduceAdd,reduceSub,reduceMul,Nat.reduceBEq,reduceLeDiff,reduceToNat,reduceLE,hQ,hlt,zi,hgi,↓tO,hh]
   refine ⟨hao,⟨hp,hs⟩,⟨by omega,by omega⟩,m-1,by omega,i+1,by omega,fun j y hj hy=>?_,rfl⟩
   rcases lt_or_ge j i with g | g
   · exact hbf j y g hy
   · have:j=i:=by omega
     subst this
     rw [hgi] at hy;cases hy
     exact hh
def MN (a:fQ):Bool:=decide (a.c.s.length≤200) && gG a
def allA (l:List fQ) (most:Int):Bool:=decide ((l.length:Int)≤most) && l.all MN
theorem WS (l:List fQ) (most:Int) (hm:0≤most∧most≤1000000) (hl:l.length≤4611686018427387904) (hs:∀ a ∈ l,pO a.c):ai Tryz.prog 22 [bf l,.int .i64 most] [] (.bool (allA l most)) []:=by
 refine Dr.bg (T:=aR Tryz.prog [(9,l6)]) 0 hD (aj (af BV ah)) a_ (by decide) fun Q hQ=>?_
 (conv=>arg 4;cbv);simp(maxSteps:=400000)only[↓aT,aU,BEq.rfl,reduceIte,reduceCtorEq,Nat.reduceLT,reduceAdd,reduceSub,reduceMul,Nat.reduceBEq,reduceLeDiff,reduceToNat,reduceLE,hQ]
 refine aH (fun m S=>∃ i:Nat,i+m=l.length∧(i:Int)≤most∧(∀ (j:Nat) y,j<i→l[j]?=some y→MN y=true)∧S=⟨dI 33 [(0,bf l),(1,.int .i64 most),(5,.int .i64 i)],[]⟩) l.length ⟨0,by omega,by omega,fun j y h=>absurd h (Nat.not_lt_zero j),?_⟩ ?_
 · simp only [bW,keepR,reduceAdd,nu,Nat.reduceBEq,List.map_nil]
   rfl
 rintro m S ⟨i,him,hip,hbf,rfl⟩
 rcases lt_or_ge i l.length with h | h
 rotate_left 1
 · have hlt:((i:Int)<(l.length:Int))=False:=eq_false (by omega)
   have hall:allA l most=true:=by
    simp only [allA,Bool.and_eq_true,decide_eq_true_eq,List.all_eq_true]
    refine ⟨by omega,fun x hx=>?_⟩
    obtain ⟨j,hj⟩:=List.mem_iff_getElem?.1 hx
    exact hbf j x (by have:=(List.getElem?_eq_some_iff.1 hj).1;omega) hj
   simp(maxSteps:=400000)only[↓aT,aU,BEq.rfl,reduceIte,reduceCtorEq,Nat.reduceLT,reduceAdd,reduceSub,reduceMul,Nat.reduceBEq,reduceLeDiff,reduceToNat,reduceLE,hQ,hlt,hall]
 have hlt:((i:Int)<(l.length:Int))=True:=eq_true (by omega)
 have zi:(0≤(i:Int))=True:=eq_true (by omega)
 have hgi:=List.getElem?_eq_getElem h
 have hao:=hs _ (List.getElem_mem h)
 have hmem:=List.getElem_mem h
 generalize l[i]=o at hgi hao hmem
 have bad:MN o=false→allA l most=false:=fun hb=>by
  have:l.all MN=false:=List.all_eq_false.2 ⟨o,hmem,by simp [hb]⟩
  simp [allA,this]
 rcases tf (most≤(i:Int)) with h1 | h1
 · have hall:allA l most=false:=by
    have:=of_eq_true h1
    have:¬ (l.length:Int)≤most:=by omega
    simp [allA,this]
   simp(maxSteps:=400000)only[↓aT,aU,BEq.rfl,reduceIte,reduceCtorEq,Nat.reduceLT,reduceAdd,reduceSub,reduceMul,Nat.reduceBEq,reduceLeDiff,reduceToNat,reduceLE,hQ,hlt,zi,hgi,h1,hall]
 have h1':=of_eq_false h1
 rcases tf (200<(o.c.s.length:Int)) with h2 | h2
 · have hall:=bad (by have:=of_eq_true h2;have:¬ o.c.s.length≤200:=by omega
                      simp [MN,this])
   simp(maxSteps:=400000)only[↓aT,aU,BEq.rfl,reduceIte,reduceCtorEq,Nat.reduceLT,reduceAdd,reduceSub,reduceMul,Nat.reduceBEq,reduceLeDiff,reduceToNat,reduceLE,hQ,hlt,zi,hgi,h1,h2,hall]
 have h2':=of_eq_false h2
 cases h3:gG o
 · have hall:=bad (by simp [MN,h3])
   simp(maxSteps:=400000)only[↓aT,aU,BEq.rfl,reduceIte,reduceCtorEq,Nat.reduceLT,reduceAdd,reduceSub,reduceMul,Nat.reduceBEq,reduceLeDiff,reduceToNat,reduceLE,hQ,hlt,zi,hgi,h1,h2,↓l6,h3,hall]
   exact hao
 · simp(maxSteps:=400000)only[↓aT,aU,BEq.rfl,reduceIte,reduceCtorEq,Nat.reduceLT,reduceAdd,reduceSub,reduceMul,Nat.reduceBEq,reduceLeDiff,reduceToNat,reduceLE,hQ,hlt,zi,hgi,h1,h2,↓l6,h3]
   refine ⟨hao,⟨by omega,by omega⟩,m-1,by omega,i+1,by omega,by omega,fun j y hj hy=>?_,rfl⟩
   rcases lt_or_ge j i with g | g
   · exact hbf j y g hy
   · have:j=i:=by omega
     subst this
     rw [hgi] at hy;cases hy
     have:o.c.s.length≤200:=by omega
     simp [MN,this,h3]
def vk:dF:=fun args objs K=>match args with
 | [a0,.int .i64 most]=>fB bf a0 (HK.mk:HK fun l=>(0≤most∧most≤1000000)∧(l.length≤4611686018427387904)∧(∀ a ∈ l,pO a.c)∧K (.bool (allA l most)) objs 0)
 | _=>False
theorem Tc:aB Tryz.prog 22 (vk):=by
 intro args objs K h
 unfold vk at h
 split at h
 · rename_i a0 most
   obtain ⟨l,rfl,h1,h2,h3,hk⟩:=h
   exact ⟨_,_,_,.pure _ rfl (WS l most h1 h2 h3),hk⟩
 · exact h.elim
end Lp
namespace Lp
open Go Go.Proofs
theorem Ca:aP Tryz.prog 31 41 [.tmp 4] (gen [] [(35,none)] [] Tryz.f31):=bB Tryz.func31 rfl (by kernel_rfl)
theorem Ah:aP Tryz.prog 24 43 [.tmp 4] (gen [] [(35,none)] [] Tryz.f24):=bB Tryz.func24 rfl (by kernel_rfl)
theorem Ai:aP Tryz.prog 33 74 [.tmp 4] (gen [] [(227,some (1,0))] [] Tryz.f33):=bB Tryz.func33 rfl (by kernel_rfl)
theorem rF:aP Tryz.prog 35 54 [.tmp 6] (gen [] [(391,none)] [] Tryz.f35):=bB Tryz.func35 rfl (by kernel_rfl)
theorem Aj:aP Tryz.prog 14 87 [.tmp 2] (gen [] [(9,none)] [] Tryz.f14):=bB Tryz.func14 rfl (by kernel_rfl)
theorem Ak:aP Tryz.prog 38 44 [.tmp 4] (gen [7] [(99,none)] [] Tryz.f38):=bB Tryz.func38 rfl (by kernel_rfl)
theorem Cb:aP Tryz.prog 16 35 [.tmp 2] (gen [] [(9,some (1,0))] [] Tryz.f16):=bB Tryz.func16 rfl (by kernel_rfl)
theorem DT:aP Tryz.prog 7 12 [.tmp 4] (gen [] [] [] Tryz.f7):=bB Tryz.func7 rfl (by kernel_rfl)
theorem Cc:aP Tryz.prog 112 64 [.cell 6 27,.tmp 7] (gen [] [(71,none),(71,none)] [] Tryz.f112):=bB Tryz.func112 rfl (by kernel_rfl)
theorem yX:aP Tryz.prog 109 19 [.tmp 4] (gen [] [(100,none)] [] Tryz.f109):=bB Tryz.func109 rfl (by kernel_rfl)
theorem yY:aP Tryz.prog 98 60 [.cell 4 27,.tmp 5] (gen [] [] [] Tryz.f98):=bB Tryz.func98 rfl (by kernel_rfl)
theorem tQ:aP Tryz.prog 71 98 [.tmp 2] (gen [14] [(25,some (1,1)),(521,none)] [] Tryz.f71):=bB Tryz.func71 rfl (by kernel_rfl)
theorem Al:aP Tryz.prog 37 28 [.cell 4 27,.tmp 5] (gen [] [(211,none)] [] Tryz.f37):=bB Tryz.func37 rfl (by kernel_rfl)
theorem Ce:aP Tryz.prog 13 26 [.tmp 4] (gen [] [(35,none)] [] Tryz.f13):=bB Tryz.func13 rfl (by kernel_rfl)
theorem PY:aP Tryz.prog 94 19 [.tmp 4] (gen [] [(35,none)] [] Tryz.f94):=bB Tryz.func94 rfl (by kernel_rfl)
theorem PZ:aP Tryz.prog 93 28 [] (gen [] [(779,none)] [] Tryz.f93):=bB Tryz.func93 rfl (by kernel_rfl)
theorem WT:aP Tryz.prog 63 4 [.tmp 2] (gen [] [] [] Tryz.f63):=bB Tryz.func63 rfl (by kernel_rfl)
theorem jd:aP Tryz.prog 28 8 [.tmp 2] (gen [5] [] [] Tryz.f28):=bB Tryz.func28 rfl (by kernel_rfl)
theorem Td:aP Tryz.prog 52 24 [.tmp 2] (gen [] [(0,none)] [7] Tryz.f52):=bB Tryz.func52 rfl (by kernel_rfl)
theorem MO:aP Tryz.prog 101 35 [.tmp 4] (gen [] [(3670048,some (1,1))] [] Tryz.f101):=bB Tryz.func101 rfl (by kernel_rfl)
theorem H7:aP Tryz.prog 84 10 [.tmp 2] (gen [] [] [] Tryz.f84):=bB Tryz.func84 rfl (by kernel_rfl)
end Lp
namespace Lp
open Go
open List (cons_append drop_eq_getElem_cons flatten_cons length_drop length_take nil_append)
namespace Y
theorem qy (L:Nat) (v:aC):iD L v 0=some 0:=by cases v <;> rfl
theorem LV (L:Nat):∀ (v:aC) (k c i:Nat),iD L v k=some c→i<c→∃ k' c',iD L (v.drop i) (k'+1)=some c'
 | v,0,c,i,h,hi=>by rw [qy] at h;cases h;omega
 | [],k+1,c,i,h,hi=>by simp [iD] at h
 | n::v,k+1,c,0,h,hi=>⟨k,c,by simpa using h⟩
 | n::v,k+1,c,i+1,h,hi=>by
  rw [iD] at h
  split at h
  · cases h
  · cases hs:iD L v (k+n.many.toNat) with
    | none=>rw [hs] at h;simp at h
    | some c'=>
     rw [hs] at h
     simp only [Option.map_some,Option.some.injEq] at h
     simpa using LV L v _ c' i hs (by omega)
theorem tJ (L:Nat):∀ (v:aC) (j k c:Nat),iD L v (j+k)=some c→∃ c1 c2,iD L v j=some c1∧iD L (v.drop c1) k=some c2∧c=c1+c2
 | v,0,k,c,h=>⟨0,c,qy L v,by simpa using h,by simp⟩
 | [],j+1,k,c,h=>by
  rw [show j+1+k=(j+k)+1 by omega] at h
  simp [iD] at h
 | n::v,j+1,k,c,h=>by
  rw [show j+1+k=(j+k)+1 by omega,iD] at h
  split at h
  · cases h
  · rename_i hn
    cases hs:iD L v (j+k+n.many.toNat) with
    | none=>rw [hs] at h;simp at h
    | some c'=>
     rw [hs] at h
     simp only [Option.map_some,Option.some.injEq] at h
     rw [show j+k+n.many.toNat=(j+n.many.toNat)+k by omega] at hs
     obtain ⟨c1,c2,h1,h2,rfl⟩:=tJ L v _ k c' hs
     refine ⟨c1+1,c2,?_,by simpa using h2,by omega⟩
     rw [iD,if_neg hn,h1];rfl
theorem qz (L:Nat):∀ (v:aC) (k c:Nat),skip v k=some c→c≤L→iD L v k=some c
 | v,0,c,h,_=>by cases v <;> simpa [iD,skip] using h
 | [],k+1,c,h,_=>by simp [skip] at h
 | n::v,k+1,c,h,hc=>by
  obtain ⟨hm,c',rfl,h'⟩:=dh h
  have:=dZ _ _ _ h'
  rw [iD,if_neg (by omega),qz L v _ c' h' (by omega)];rfl
def oZ (t:aC) (i:Nat):aC:=match skip (t.drop i) 1 with | some c=>(t.drop i).take c | none=>[]
theorem r9 {t:aC}{i:Nat}{x:dY}(ho:One t) (hx:t[i]?=some x):∃ ps c,0≤x.many∧x.many≤t.length∧parts x.many.toNat (t.drop (i+1))=some ps∧skip (t.drop (i+1)) x.many.toNat=some c∧ps.flatten=(t.drop (i+1)).take c∧(∀ p ∈ ps,One p)∧
  oZ t i=x::ps.flatten∧i+1+c≤t.length:=by
 obtain ⟨hi,rfl⟩:=List.getElem?_eq_some_iff.1 hx
 obtain ⟨c,hc⟩:=ho.at hi
 have hc0:=hc
 rw [drop_eq_getElem_cons hi] at hc
 obtain ⟨hm,c',rfl,h'⟩:=dh (k:=0) hc
 rw [Nat.zero_add] at h'
 obtain ⟨ps,h1,h2,h3⟩:=eG _ _ _ h'
 have hl:=dZ _ _ _ h'
 rw [length_drop] at hl
 refine ⟨ps,c',hm,by omega,h1,h',h2,h3,?_,by omega⟩
 unfold oZ
 rw [hc0]
 simp only
 rw [drop_eq_getElem_cons hi,List.take_succ_cons,h2]
theorem Te {t:aC}(ho:One t):oZ t 0=t:=by
 unfold oZ
 rw [List.drop_zero,show skip t 1=some t.length from ho]
 simp
end Y
def mX (x:dY):Option (List UInt8)→List aC→Bool
 | _,[]=>true
 | prev,p::ps=>yH x p && (x.kind !=2 || (match prev with | none=>true | some a=>Op.bytesLess a (Y.nameOf p))) && mX x (some (Y.nameOf p)) ps
theorem P5 (x:dY):∀ (ps:List aC) (prev:Option (List UInt8)),mX x prev ps=(ps.all (yH x) && (x.kind !=2 || wD ((match prev with | none=>[] | some a=>[a])++ps.map Y.nameOf)))
 | [],prev=>by cases prev <;> simp [mX,wD]
 | p::ps,prev=>by
  have ih:=P5 x ps (some (Y.nameOf p))
  simp only [mX,ih,List.all_cons,List.map_cons]
  cases prev with
  | none=>
   simp only [nil_append,cons_append]
   cases yH x p <;> cases ps.all (yH x) <;> cases (x.kind !=2) <;> simp
  | some a=>
   simp only [nil_append,cons_append]
   rw [wD]
   cases yH x p <;> cases ps.all (yH x) <;> cases (x.kind !=2) <;> simp
theorem WU (x:dY) (ps:List aC):mX x none ps=sI x ps:=by
 rw [P5];rfl
def Am (t:aC) (i:Nat):Bool:=match t.drop i with
 | n::r=>(match Y.parts n.many.toNat r with | some ps=>sI n ps | none=>false)
 | []=>true
def kU (t:aC) (i:Nat):Bool:=match t.drop i with
 | n::r=>(match Y.parts n.many.toNat r with | some ps=>vN d_ n ps | none=>false)
 | []=>true
theorem Tf {t:aC}{i:Nat}{n:dY}(hi:t[i]?=some n):Y.fH (jS bq d_) (t.drop i)=(bK bq n && Am t i && kU t i && Y.fH (jS bq d_) (t.drop (i+1))):=by
 have hl:=(List.getElem?_eq_some_iff.1 hi).1
 have hd:=drop_eq_getElem_cons hl
 rw [List.getElem?_eq_getElem hl] at hi
 cases hi
 simp only [Am,kU,hd,Y.fH]
 cases Y.parts (t[i]).many.toNat (t.drop (i+1)) with
 | none=>simp
 | some ps=>simp [jS]
def jP (t:aC) (i:Nat) (p:List Stp):Int:=match jA p (Y.oZ t i) with
 | some j=>(i+j:Nat)
 | none=>-1
theorem H8:∀ (p:List Stp) (t:aC) (j:Nat),Y.One t→jA p t=some j→j<t.length
 | [],t,j,ho,h=>by
  simp only [jA,Option.some.injEq] at h
  subst h
  exact List.length_pos_iff.2 ho.ne
 | s::p,[],j,ho,_=>absurd rfl ho.ne
 | s::p,x::r,j,ho,h=>by
  obtain ⟨hm,ps,h1,h2,h3⟩:=ho.parts
  have hp:Y.partsOf x r=ps:=by simp [Y.partsOf,h1]
  simp only [jA,hp] at h
  split at h
  · cases hf:lU s.name 1 ps with
    | none=>rw [hf] at h;cases h
    | some oq=>
     obtain ⟨o,q⟩:=oq
     rw [hf] at h
     simp only [Option.map_eq_some_iff] at h
     obtain ⟨k,hk,rfl⟩:=h
     have gen:∀ (qs:List aC) (o0:Nat),lU s.name o0 qs=some (o,q)→q ∈ qs∧o+q.length≤o0+qs.flatten.length:=by
      intro qs
      induction qs with
      | nil=>intro o0 h;simp [lU] at h
      | cons a t ih=>
       intro o0 h
       simp only [lU] at h
       split at h
       · simp only [Option.some.injEq,Prod.mk.injEq] at h
         obtain ⟨rfl,rfl⟩:=h
         exact ⟨List.mem_cons_self ..,by simp only [flatten_cons,List.length_append];omega⟩
       · obtain ⟨g1,g2⟩:=ih _ h
         exact ⟨List.mem_cons_of_mem _ g1,by simp only [flatten_cons,List.length_append];omega⟩
     obtain ⟨g1,g2⟩:=gen ps 1 hf
     have:=H8 p q k (h3 q g1) hk
     rw [h2] at g2
     simp only [List.length_cons]
     omega
  · cases h
theorem P6 {t:aC}{i:Nat}{p:List Stp}(ho:Y.One t) (hi:i<t.length):jP t i p<t.length∧(0≤jP t i p∨jP t i p=-1):=by
 unfold jP
 cases h:jA p (Y.oZ t i) with
 | none=>
  show (-1:Int)<t.length∧(0≤(-1:Int)∨(-1:Int)=-1)
  exact ⟨by omega,.inr rfl⟩
 | some j=>
  obtain ⟨ps,c,_,_,_,_,h5,h6,h7,h8⟩:=Y.r9 ho (List.getElem?_eq_getElem hi)
  have hs:(Y.oZ t i).length=1+c:=by
   rw [h7,List.length_cons,h5,length_take,length_drop];omega
  have hone:Y.One (Y.oZ t i):=by
   rw [h7]
   exact Y.One.made (by
    have:=Y.bS _ _ _ ‹Y.parts _ _=some ps›
    omega) h6
  have:=H8 p _ j hone h
  simp only
  omega
theorem aa1 {t:aC}{i j:Nat}(ho:Y.One t) (hi:i<t.length) (hj:j<(Y.oZ t i).length):(Y.oZ t i)[j]?=t[i+j]?:=by
 obtain ⟨ps,c,_,_,_,_,h5,h6,h7,h8⟩:=Y.r9 ho (List.getElem?_eq_getElem hi)
 have e:Y.oZ t i=(t.drop i).take (c+1):=by rw [h7,h5,drop_eq_getElem_cons hi,List.take_succ_cons]
 rw [e] at hj ⊢
 rw [length_take,length_drop] at hj
 rw [List.getElem?_take,if_pos (by omega),List.getElem?_drop]
theorem sub_one {t:aC}{i:Nat}(ho:Y.One t) (hi:i<t.length):Y.One (Y.oZ t i):=by
 obtain ⟨ps,c,_,_,h3,_,h5,h6,h7,h8⟩:=Y.r9 ho (List.getElem?_eq_getElem hi)
 rw [h7]
 exact Y.One.made (by have:=Y.bS _ _ _ h3;omega) h6
theorem Zu {t:aC}{i:Nat}{p:List Stp}(ho:Y.One t) (hi:i<t.length):(jc p (Y.oZ t i)).isSome=true↔0≤jP t i p∧∃ x,t[(jP t i p).toNat]?=some x∧x.kind=1:=by
 unfold jc jP
 cases h:jA p (Y.oZ t i) with
 | none=>simp
 | some j=>
  have hj:=H8 p _ j (sub_one ho hi) h
  have hr:=aa1 ho hi hj
  simp only [Int.toNat_natCast]
  rw [hr]
  constructor
  · intro hs
    split at hs
    · rename_i hk
      cases hx:t[i+j]? with
      | none=>rw [hx] at hk;simp at hk
      | some x=>rw [hx] at hk;exact ⟨by omega,x,rfl,by simpa using hk⟩
    · cases hs
  · rintro ⟨_,x,hx,hk⟩
    rw [hx,Option.map_some,hk]
    rfl
def fG (t:aC):Bool:=!t.isEmpty && Y.nameOf t==[] && Y.kindOf t !=9 && (Y.iD t.length t 1==some t.length) && Y.fH (jS bq d_) t
def o_ (t:aC):Bool:=fG t && Y.fH IJ t
theorem tT {t:aC}(h:fG t=true):uG bq d_ t:=by
 simp only [fG,Bool.and_eq_true,beq_iff_eq,bne_iff_ne] at h
 obtain ⟨⟨⟨⟨_,h1⟩,h2⟩,h3⟩,h4⟩:=h
 exact ⟨Y.oh _ _ _ _ h3,h1,h2,(Y.lQ t).1 h4⟩
theorem WV {pk:List UInt8→Bool}{qM:List UInt8→List Stp}{n:dY}{ps:List aC}(hk:n.kind=1) (Zv:sI n ps=true) (ho:∀ p ∈ ps,Y.One p) (hg:∀ p ∈ ps,Y.Good (jS pk qM) p) :
  ps.flatten.length=ps.length∧∀ x ∈ ps.flatten,gG (iM x)=true∧x.kind=9∧x.s=[]∧x.many=0:=by
 have hone:∀ p ∈ ps,∃ x,p=[x]∧x.kind=9∧x.s=[]∧x.many=0∧gG (iM x)=true:=fun p hp=>by
  refine J5 (ho p hp) (hg p hp) ?_
  simp only [sI,Bool.and_eq_true,List.all_eq_true] at Zv
  have:=Zv.1 p hp
  simp only [yH,Bool.and_eq_true,hk] at this
  have h9:=this.1.1
  simpa using h9
 clear Zv ho hg
 induction ps with
 | nil=>exact ⟨rfl,fun x hx=>by cases hx⟩
 | cons q qs ih=>
  obtain ⟨i1,i2⟩:=ih fun p hp=>hone p (List.mem_cons_of_mem _ hp)
  obtain ⟨x,rfl,x1,x2,x3,x4⟩:=hone q (List.mem_cons_self ..)
  refine ⟨by simp [i1],fun y hy=>?_⟩
  simp only [flatten_cons,cons_append,nil_append,List.mem_cons] at hy
  rcases hy with rfl | hy
  · exact ⟨x4,x1,x2,x3⟩
  · exact i2 y hy
theorem UY {t:aC}{i:Nat}{n:dY}(hr:uG bq d_ t) (hn:t[i]?=some n) (hk:n.kind=1) :
  ∃ ps,Y.parts n.many.toNat (t.drop (i+1))=some ps∧ps.flatten=(t.drop (i+1)).take n.many.toNat∧0≤n.many∧i+1+n.many.toNat≤t.length∧1≤n.n∧n.n≤31∧∀ x ∈ ps.flatten,gG (iM x)=true:=by
 obtain ⟨hi,rfl⟩:=List.getElem?_eq_some_iff.1 hn
 obtain ⟨ps,c,h1,h2,h3,h4,h5,h6,h7,h8⟩:=Y.r9 hr.one (List.getElem?_eq_getElem hi)
 obtain ⟨qs,q1,q2⟩:=hr.good i t[i] (t.drop (i+1)) (drop_eq_getElem_cons hi)
 rw [h3] at q1;cases q1
 simp only [jS,Bool.and_eq_true] at q2
 have hgs:Y.Good (jS bq d_) ps.flatten:=by
  have hg0:=hr.good
  rw [← List.take_append_drop (i+1) t] at hg0
  have hg1:=hg0.suf
  rw [← List.take_append_drop c (t.drop (i+1)),← h5] at hg1
  have hone:Y.skip ps.flatten ps.length=some ps.flatten.length:=Y.kK ps h6
  intro j m s hd
  obtain ⟨qs,e1,e2⟩:=hg1 j m (s++(t.drop (i+1)).drop c) (Y.wB hd)
  have hj:j<ps.flatten.length:=by
   rcases Nat.lt_or_ge j ps.flatten.length with h | h
   · exact h
   · rw [List.drop_eq_nil_of_le h] at hd;cases hd
  obtain ⟨k',c',hk'⟩:=Y.pR ps.flatten ps.length _ j hone hj
  rw [hd] at hk'
  obtain ⟨_,c2,rfl,hk2⟩:=Y.dh hk'
  obtain ⟨ca,cb,hka,_,_⟩:=Y.ol _ m.many.toNat k' c2 (by rw [Nat.add_comm];exact hk2)
  obtain ⟨rs,r1,_,_⟩:=Y.eG _ _ _ hka
  have:=Y.iL _ _ ((t.drop (i+1)).drop c) _ r1
  rw [e1] at this;cases this
  exact ⟨qs,r1,e2⟩
 obtain ⟨a1,a2⟩:=WV hk q2.1.2 h6 (Y.Good.lH ps h6 hgs)
 have hpl:=Y.bS _ _ _ h3
 have hcl:ps.flatten.length=c:=by rw [h5,length_take,length_drop];omega
 have hc:c=(t[i]).many.toNat:=by omega
 have hp:=q2.1.1
 simp only [bK,hk,Int.reduceEq,if_false,if_true,Bool.and_eq_true,decide_eq_true_eq] at hp
 exact ⟨ps,h3,by rw [h5,hc],h1,by omega,hp.1.1.1.2,hp.1.1.2,fun x hx=>(a2 x hx).1⟩
def yB (t:aC) (i:Nat):Bool:=match t.drop i with
 | n::r=>(match Y.parts n.many.toNat r with | some ps=>IJ n ps | none=>false)
 | []=>true
theorem Tg {t:aC}{i:Nat}{n:dY}(hi:t[i]?=some n):Y.fH IJ (t.drop i)=(yB t i && Y.fH IJ (t.drop (i+1))):=by
 have hl:=(List.getElem?_eq_some_iff.1 hi).1
 have hd:=drop_eq_getElem_cons hl
 rw [List.getElem?_eq_getElem hl] at hi
 cases hi
 simp only [yB,hd,Y.fH]
 rfl
end Lp
namespace Lp
open Go Go.Proofs
def tV (v:aC) (i:Nat):Int:=match Y.iD v.length (v.drop i) 1 with
 | some c=>(i+c:Nat)
 | none=>-1
theorem Ao {v:aC}{i:Nat}(h:(Y.iD v.length (v.drop i) 1).map (fun c=>i+c)=none):tV v i=-1:=by
 unfold tV
 cases hx:Y.iD v.length (v.drop i) 1 with
 | none=>rfl
 | some c=>rw [hx] at h;simp at h
theorem H9 {v:aC}{i j:Nat}(h:(Y.iD v.length (v.drop i) 1).map (fun c=>i+c)=some j):tV v i=j:=by
 unfold tV
 cases hx:Y.iD v.length (v.drop i) 1 with
 | none=>rw [hx] at h;simp at h
 | some c=>rw [hx] at h;simp only [Option.map_some,Option.some.injEq] at h;rw [← h]
theorem KH (L:Nat) (v:aC):Y.iD L v 0=some 0:=by cases v <;> rfl
theorem Ti (v:aC) (i:Nat) (hi:i≤v.length) (hl:v.length≤1000000):ai Tryz.prog 31 [aA v,.int .i64 i] [] (.int .i64 (tV v i)) []:=by
 refine Ca.bg (T:=aR Tryz.prog []) 0 hD (aj ah) a_ (by decide) fun Q hQ=>?_
 (conv=>arg 4;cbv);simp(maxSteps:=400000)only[↓av,ax,BEq.rfl,reduceIte,reduceCtorEq,Nat.reduceLT,Nat.reduceAdd,Nat.reduceSub,Nat.reduceMul,Nat.reduceBEq,Nat.reduceLeDiff,Int.reduceToNat,Int.reduceLE,hQ]
 refine aH (fun m S=>∃ j k:Nat,j+m=v.length∧k≤1+j*1000000∧(Y.iD v.length (v.drop i) 1).map (fun c=>i+c)=(Y.iD v.length (v.drop j) k).map (fun c=>j+c)∧
  S=⟨dI 41 [(0,aA v),(1,.int .i64 j),(5,.int .i64 k)],[]⟩) (v.length-i) ⟨i,1,by omega,by omega,rfl,?_⟩ ?_
 · simp only [bW,keepR,Nat.reduceAdd,nu,Nat.reduceBEq,List.map_nil]
   rfl
 rintro m S ⟨j,k,hjm,hk,hn,rfl⟩
 rcases Nat.lt_or_ge j v.length with h | h
 · have hg:=List.getElem?_eq_getElem h
   have hd:=List.drop_eq_getElem_cons h
   generalize v[j]=n at hg hd
   simp(maxSteps:=400000)only[↓av,ax,BEq.rfl,reduceIte,reduceCtorEq,Nat.reduceLT,Nat.reduceAdd,Nat.reduceSub,Nat.reduceMul,Nat.reduceBEq,Nat.reduceLeDiff,Int.reduceToNat,Int.reduceLE,hQ,hg]
   refine ⟨fun hk0=>⟨fun h'=>absurd h' (by omega),fun _=>⟨by omega,fun hm=>?_,fun hm=>⟨by omega,fun hm2=>?_,fun hm2=>?_⟩⟩⟩,fun hk0=>?_⟩
   · obtain ⟨k,rfl⟩:∃ q,k=q+1:=⟨k-1,by omega⟩
     rw [hd,Y.iD,if_pos (.inl hm)] at hn
     rw [Ao hn]
   · obtain ⟨k,rfl⟩:∃ q,k=q+1:=⟨k-1,by omega⟩
     rw [hd,Y.iD,if_pos (.inr hm2)] at hn
     rw [Ao hn]
   · obtain ⟨k,rfl⟩:∃ q,k=q+1:=⟨k-1,by omega⟩
     rw [hd,Y.iD,if_neg (by omega)] at hn
     have hk2:(((k+1:Nat):Int)-1+n.many)=((k+n.many.toNat:Nat):Int):=by omega
     refine ⟨⟨by omega,by omega⟩,by omega,⟨by omega,by omega⟩,⟨by omega,by omega⟩,m-1,by omega,j+1,k+n.many.toNat,by omega,by omega,?_,?_⟩
     · rw [hn]
       cases Y.iD v.length (v.drop (j+1)) (k+n.many.toNat) with
       | none=>rfl
       | some c=>simp;omega
     · rw [hk2];rfl
   · have hk1:k=0:=by omega
     subst hk1
     rw [KH] at hn
     rw [H9 (j:=j) (by simpa using hn)]
 · simp(maxSteps:=400000)only[↓av,ax,BEq.rfl,reduceIte,reduceCtorEq,Nat.reduceLT,Nat.reduceAdd,Nat.reduceSub,Nat.reduceMul,Nat.reduceBEq,Nat.reduceLeDiff,Int.reduceToNat,Int.reduceLE,hQ]
   refine ⟨fun hk0=>⟨fun _=>?_,fun h'=>absurd (by omega) h'⟩,fun hk0=>?_⟩
   · obtain ⟨k,rfl⟩:∃ q,k=q+1:=⟨k-1,by omega⟩
     rw [List.drop_eq_nil_of_le h] at hn
     simp only [Y.iD,Option.map_none] at hn
     rw [Ao hn]
   · have hk1:k=0:=by omega
     subst hk1
     rw [KH] at hn
     rw [H9 (j:=j) (by simpa using hn)]
theorem P7 (v:aC) (i:Int) (h0:0≤i) (hi:i.toNat≤v.length) (hl:v.length≤1000000):ai Tryz.prog 31 [aA v,.int .i64 i] [] (.int .i64 (tV v i.toNat)) []:=by
 have e:i=(i.toNat:Int):=by omega
 rw [e]
 exact Ti v i.toNat hi hl
def iI:dF:=fun args objs K=>match args with
 | [a0,.int .i64 i]=>fB aA a0 (HK.mk:HK fun v=>(0≤i)∧(i.toNat≤v.length)∧(v.length≤1000000)∧K (.int .i64 (tV v i.toNat)) objs 0)
 | _=>False
theorem vo:aB Tryz.prog 31 (iI):=by
 intro args objs K h
 unfold iI at h
 split at h
 · rename_i a0 i
   obtain ⟨v,rfl,h1,h2,h3,hk⟩:=h
   exact ⟨_,_,_,.pure _ rfl (P7 v i h1 h2 h3),hk⟩
 · exact h.elim
theorem H_ {t:aC}{i c:Nat}(h:Y.iD t.length (t.drop i) 1=some c):tV t i=(i+c:Nat):=by
 simp only [tV,h]
theorem qR (objs:List Obj) (K:KT) :
  (∀ k m nm,bF D 51 [(0,.int .i64 k),(1,.int .i64 m),(2,.str nm)] objs K=K (aL ⟨k,m,nm,[],0,aM⟩) objs 0)∧
  (∀ k n m,bF D 51 [(0,.int .i64 k),(4,.int .i64 n),(1,.int .i64 m)] objs K=K (aL ⟨k,m,[],[],n,aM⟩) objs 0)∧
  (∀ k n c,bF D 51 [(0,.int .i64 k),(4,.int .i64 n),(5,ay c)] objs K=K (aL ⟨k,0,[],[],n,c⟩) objs 0)∧
  (∀ k n,bF D 51 [(0,.int .i64 k),(4,.int .i64 n)] objs K=K (aL ⟨k,0,[],[],n,aM⟩) objs 0)∧
  (∀ k,bF D 51 [(0,.int .i64 k)] objs K=K (aL ⟨k,0,[],[],0,aM⟩) objs 0)∧
  (bF D 51 [] objs K=K (aL ⟨0,0,[],[],0,aM⟩) objs 0):=by
 have z:aI (D 51)=aL ⟨0,0,[],[],0,aM⟩:=by kernel_rfl
 have a:(D 51).agg=true:=by kernel_rfl
 simp only [bM] at z a
 refine ⟨fun k m nm=>?_,fun k n m=>?_,fun k n c=>?_,fun k n=>?_,fun k=>?_,?_⟩
 all_goals
  simp [bF,lJ,a,z,bM,mr,aL,ay,aM,PV.isAgg,qi,PV.cells,PV.storable,PV.lV,PV.pure]
theorem gM:PV.vX (.agg ⟨[.int .i64 0,.int .i64 0,.string ⟨⟨[]⟩⟩,.string ⟨⟨[]⟩⟩,.int .i64 0,.int .i64 0,.int .i64 0,.string ⟨⟨[]⟩⟩,.string ⟨⟨[]⟩⟩,.bool false,.int .i64 0]⟩)=aL ⟨0,0,[],[],0,aM⟩:=rfl
theorem atB (objs:List Obj) (K:KT):(∀ n c,bF D 29 [(0,.int .i64 n),(1,ay c)] objs K=K (bX ⟨n,c⟩) objs 0):=by
 have z:aI (D 29)=bX ⟨0,aM⟩:=by kernel_rfl
 have a:(D 29).agg=true:=by kernel_rfl
 simp only [bM] at z a
 intro n c
 simp [bF,lJ,a,z,bM,mr,bX,ay,aM,PV.isAgg,qi,PV.cells,PV.storable,PV.lV,PV.pure]
theorem gV (a:dY) (k m:Int) (nm s:List UInt8) (n ck cm:Int) (cn cs:List UInt8) (cg:Bool) (ce:Int):(aL a).putCells 0 [.int .i64 k,.int .i64 m,.str nm,.str s,.int .i64 n,.int .i64 ck,.int .i64 cm,.str cn,.str cs,.bool cg,.int .i64 ce]=aL ⟨k,m,nm,s,n,⟨ck,cm,cn,cs,cg,ce⟩⟩:=rfl
theorem r_:(∀ x:dY,PV.agg [.int .i64 x.kind,.int .i64 x.many,.str x.name,.str x.s,.int .i64 x.n,.int .i64 x.c.kind,.int .i64 x.c.many,.str x.c.name,.str x.c.s,.bool x.c.neg,.int .i64 x.c.e]=aL x)∧
  (∀ (x:dY) nm,PV.agg [.int .i64 x.kind,.int .i64 x.many,.str nm,.str x.s,.int .i64 x.n,.int .i64 x.c.kind,.int .i64 x.c.many,.str x.c.name,.str x.c.s,.bool x.c.neg,.int .i64 x.c.e]=aL { x with name:=nm }):=⟨fun _=>rfl,fun _ _=>rfl⟩
theorem bY (n:Nd):Nd.mk n.kind n.many n.name n.s n.neg n.e=n:=rfl
theorem dO (x:dY):dY.mk x.kind x.many x.name x.s x.n x.c=x:=rfl
theorem Zw:PV.vX (.agg ⟨[.int .i64 0,.int .i64 0,.int .i64 0,.string ⟨⟨[]⟩⟩,.string ⟨⟨[]⟩⟩,.bool false,.int .i64 0]⟩)=bX ⟨0,aM⟩:=rfl
theorem FQ (v:List fQ) (ver:Nat) (t:TypeId) (rest:List Obj):eY 1 0 (⟨t,7,v.map bX,true,ver⟩::rest) (.bG 0 ver)=bf v:=by
 have:(v.map bX).map (PV.bJ (iY 0 0 (⟨t,7,v.map bX,true,ver⟩::rest)))=v.map bX:=by
  rw [List.map_map];exact List.map_congr_left fun x _=>rfl
 simp only [eY,Nat.not_lt_zero,if_false,iY,List.getElem?_cons_zero,Nat.le_refl,decide_true,Bool.true_and,beq_self_eq_true,if_true,this]
 rfl
theorem WW:∀ d X v,eY d 1 X (.bG 0 v)=.bG 0 v:=fun _ _ _=>rfl
end Lp
namespace Lp
open Go Go.Proofs
section
variable {P:Program}
theorem P8 {w:World}{d:Nat}{ok:Nat→Prop}{xs ys:Array Value}{gs:List Field}{r2:Bool}(hg:(Op.eqFields (d+1) xs ys gs).run P w=.ok r2 w):∀ (fs:List Field) (k:Nat) (aa bs:List PV) (r:Bool),wW P k fs aa bs=true→yK aa bs=some r→
  (∀ i p,aa[i]?=some p→∃ v,xs[k+i]?=some v∧dz w ok p v)→(∀ i p,bs[i]?=some p→∃ v,ys[k+i]?=some v∧dz w ok p v)→
  (Op.eqFields (d+1) xs ys (fs++gs)).run P w=.ok (r && r2) w
 | [],k,aa,bs,r,hf,he,_,_=>by
  cases aa <;> cases bs <;> simp [wW] at hf
  simp only [yK,Option.some.injEq] at he
  subst he
  simpa using hg
 | f::fs,k,aa,bs,r,hf,he,ha,hb=>by
  cases aa with
  | nil=>cases bs <;> simp [wW] at hf
  | cons p aa=>
   cases bs with
   | nil=>simp [wW] at hf
   | cons q bs=>
    simp only [wW,Bool.and_eq_true,beq_iff_eq,bne_iff_ne] at hf
    obtain ⟨⟨⟨hn,ho⟩,ht⟩,hr⟩:=hf
    obtain ⟨v,hv,rv⟩:=ha 0 p rfl
    obtain ⟨u,hu,ru⟩:=hb 0 q rfl
    obtain ⟨b,hb1,hb2,e,he1,he2⟩:=YN (d:=d) ht rv ru
    simp only [yK,hb1] at he
    cases hq:yK aa bs with
    | none=>rw [hq] at he;simp at he
    | some r'=>
     rw [hq] at he
     simp only [Option.some.injEq] at he
     subst he
     have ih:=P8 (w:=w) (d:=d) (ok:=ok) (xs:=xs) (ys:=ys) hg fs (k+1) aa bs r' hr hq (fun i p h=>by have:=ha (i+1) p (by simpa using h);rwa [show k+(i+1)=k+1+i by omega] at this) (fun i p h=>by have:=hb (i+1) p (by simpa using h);rwa [show k+(i+1)=k+1+i by omega] at this)
     have p1:=wX (w:=w) (xs:=xs) (o:=f.offset) he1 he2 (by rw [ho];simpa using hv)
     have p2:=wX (w:=w) (xs:=ys) (o:=f.offset) he1 he2 (by rw [ho];simpa using hu)
     simp only [List.cons_append,Op.eqFields,ne_eq,hn,not_false_eq_true,if_true,Sem.run_bind,p1,Result.andThen_ok,p2,hb2]
     cases b
     · simp
     · simpa using ih
theorem UZ:∀ {a1 b1 a2 b2:List PV}{r:Bool},a1.length=b1.length→yK (a1++a2) (b1++b2)=some r→∃ r1 r2,yK a1 b1=some r1∧yK a2 b2=some r2∧r=(r1 && r2)
 | [],[],a2,b2,r,_,h=>⟨true,r,rfl,h,by simp⟩
 | [],_::_,_,_,_,hl,_=>by simp at hl
 | _::_,[],_,_,_,hl,_=>by simp at hl
 | p::a1,q::b1,a2,b2,r,hl,h=>by
  simp only [List.cons_append,yK] at h
  cases hs:eqS p q with
  | none=>rw [hs] at h;simp at h
  | some x=>
   cases ht:yK (a1++a2) (b1++b2) with
   | none=>rw [hs,ht] at h;simp at h
   | some y=>
    rw [hs,ht] at h
    simp only [Option.some.injEq] at h
    obtain ⟨r1,r2,h1,h2,rfl⟩:=UZ (by simpa using hl) ht
    refine ⟨x && r1,r2,by simp [yK,hs,h1],h2,?_⟩
    rw [← h,Bool.and_assoc]
theorem WX {t:TypeId}{fs:List Field}{g:Field}{a1 a2 b1 b2:List PV}(hgd:P.eqGuardType P.depth t=false) (ht:P.underlying t=some (.struct (P.fieldsOf t))) (hp:P.stoodInHeld t=false)
  (hfs:(P.fieldsOf t).toList=fs++[g]) (hf:wW P 0 fs a1 b1=true) (hn:g.name≠ "_") (ho:g.offset=a1.length) (hl1:a1.length=b1.length) (hl2:a2.length=b2.length)
  (hu:P.underlying g.type=some (.struct (P.fieldsOf g.type))) (hp2:P.stoodInHeld g.type=false) (hs:∀ w,(Go.sizeOf g.type).run P w=.ok a2.length w) (hf2:wW P 0 (P.fieldsOf g.type).toList a2 b2=true) :
  AB P t (a1++a2) (b1++b2):=by
 refine ⟨hgd,fun w ok vs us r hr h1 h2=>?_⟩
 obtain ⟨r1,r2,e1,e2,rfl⟩:=UZ hl1 hr
 have e:Op.equal t (.agg ⟨vs⟩) (.agg ⟨us⟩)=Op.equalIn (9999+1) t (.agg ⟨vs⟩) (.agg ⟨us⟩):=rfl
 rw [e,run_equalIn_struct w 9999 t _ _ ht hp,hfs]
 have get:∀ {xs:List Value}{c1 c2:List PV},cZ (dz w ok) (c1++c2) xs→(∀ i p,c1[i]?=some p→∃ v,(⟨xs⟩:Array Value)[0+i]?=some v∧dz w ok p v)∧(∀ i p,c2[i]?=some p→∃ v,(⟨xs⟩:Array Value)[c1.length+i]?=some v∧dz w ok p v):=by
  intro xs c1 c2 h
  have hlen:=h.1
  rw [List.length_append] at hlen
  constructor
  · intro i p hi
    have hlt:=(List.getElem?_eq_some_iff.1 hi).1
    have hv:xs[i]?=some (xs[i]'(by omega)):=List.getElem?_eq_getElem _
    exact ⟨_,by simpa using hv,h.2 i p _ (by rw [List.getElem?_append_left hlt];exact hi) hv⟩
  · intro i p hi
    have hlt:=(List.getElem?_eq_some_iff.1 hi).1
    have hv:xs[c1.length+i]?=some (xs[c1.length+i]'(by omega)):=List.getElem?_eq_getElem _
    exact ⟨_,by simpa using hv,h.2 _ p _ (by rw [List.getElem?_append_right (by omega)];simpa using hi) hv⟩
 obtain ⟨g1,g2⟩:=get h1
 obtain ⟨k1,k2⟩:=get h2
 refine P8 (d:=9998) (ok:=ok) ?_ fs 0 a1 b1 r1 hf e1 g1 k1
 have pt:∀ xs:Array Value,(part g.type xs g.offset).run P w=.ok (.agg (xs.extract g.offset (g.offset+a2.length))) w:=fun xs=>by
  simp [part,isAgg,run_underlying hu,hs]
 have ext:∀ {xs:Array Value}{c:List PV},c.length=a2.length→(∀ i p,c[i]?=some p→∃ v,xs[g.offset+i]?=some v∧dz w ok p v)→∀ i p,c[i]?=some p→∃ v,(xs.extract g.offset (g.offset+a2.length))[0+i]?=some v∧dz w ok p v:=by
  intro xs c hc h i p hi
  have hlt:=(List.getElem?_eq_some_iff.1 hi).1
  obtain ⟨v,q1,q2⟩:=h i p hi
  refine ⟨v,?_,q2⟩
  have hx:=(Array.getElem?_eq_some_iff.1 q1).1
  rw [Nat.zero_add,Array.getElem?_extract,if_pos (by omega)]
  exact q1
 have hin:=LM (d:=9997) (w:=w) (ok:=ok) (xs:=Array.extract ⟨vs⟩ g.offset (g.offset+a2.length)) (ys:=Array.extract ⟨us⟩ g.offset (g.offset+a2.length)) _ 0 a2 b2 r2 hf2 e2
  (ext rfl (by rw [ho];exact g2)) (ext hl2.symm (by rw [ho,hl1];exact k2))
 have hst:=run_equalIn_struct w 9998 g.type (Array.extract ⟨vs⟩ g.offset (g.offset+a2.length)) (Array.extract ⟨us⟩ g.offset (g.offset+a2.length)) hu hp2
 have hst':(Op.equalIn (9998+1) g.type (.agg (Array.extract ⟨vs⟩ g.offset (g.offset+a2.length))) (.agg (Array.extract ⟨us⟩ g.offset (g.offset+a2.length)))).run P w=.ok r2 w:=hst.trans hin
 simp only [Op.eqFields,ne_eq,hn,not_false_eq_true,if_true,Sem.run_bind,pt,Result.andThen_ok,hst']
 cases r2 <;> simp
end
theorem Zx (a b:dY):AB Tryz.prog 51 (aL a).cells (aL b).cells:=by
 have h:(Tryz.prog.fieldsOf 51).toList.map (fun f=>(f.name != "_",f.offset,f.type))=[(true,0,3),(true,1,3),(true,2,9),(true,3,9),(true,4,3),(true,5,27)]:=by kernel_rfl
 generalize hfs:(Tryz.prog.fieldsOf 51).toList=fs at h
 obtain _ | ⟨f0,_ | ⟨f1,_ | ⟨f2,_ | ⟨f3,_ | ⟨f4,_ | ⟨f5,_ | ⟨f6,fr⟩⟩⟩⟩⟩⟩⟩:=fs
 all_goals simp only [List.map_cons,List.map_nil,List.cons.injEq,Prod.mk.injEq,and_true,reduceCtorEq,and_false] at h
 obtain ⟨⟨a0,b0,c0⟩,⟨a1,b1,c1⟩,⟨a2,b2,c2⟩,⟨a3,b3,c3⟩,⟨a4,b4,c4⟩,⟨a5,b5,c5⟩⟩:=h
 have u3:Tryz.prog.underlying 3=some (.int .i64):=by kernel_rfl
 have u9:Tryz.prog.underlying 9=some .string:=by kernel_rfl
 have hN:=YO a.c b.c
 have key:=WX (P:=Tryz.prog) (t:=51) (fs:=[f0,f1,f2,f3,f4]) (g:=f5) (a1:=[.int .i64 a.kind,.int .i64 a.many,.str a.name,.str a.s,.int .i64 a.n]) (b1:=[.int .i64 b.kind,.int .i64 b.many,.str b.name,.str b.s,.int .i64 b.n]) (a2:=(ay a.c).cells) (b2:=(ay b.c).cells)
  (by kernel_rfl) (by kernel_rfl) (by kernel_rfl) (by rw [hfs];rfl)
  (by simp only [wW,V6,a0,b0,c0,a1,b1,c1,a2,b2,c2,a3,b3,c3,a4,b4,c4,u3,u9,Bool.and_true,BEq.rfl,decide_true,Nat.zero_add,Nat.reduceAdd])
  (by simpa using a5) (by rw [b5];rfl) rfl rfl (by rw [c5];kernel_rfl) (by rw [c5];kernel_rfl) (fun w=>by rw [c5];have h:=(hD 27).dH (by simp [bM]) w;simp only [bM] at h;exact h) (by
   rw [c5]
   have h:(Tryz.prog.fieldsOf 27).toList.map (fun f=>(f.name != "_",f.offset,Tryz.prog.underlying f.type))=[(true,0,some (.int .i64)),(true,1,some (.int .i64)),(true,2,some .string),(true,3,some .string),(true,4,some .bool),(true,5,some (.int .i64))]:=by kernel_rfl
   generalize (Tryz.prog.fieldsOf 27).toList=fs at h
   obtain _ | ⟨f0,_ | ⟨f1,_ | ⟨f2,_ | ⟨f3,_ | ⟨f4,_ | ⟨f5,_ | ⟨f6,fr⟩⟩⟩⟩⟩⟩⟩:=fs
   all_goals simp only [List.map_cons,List.map_nil,List.cons.injEq,Prod.mk.injEq,and_true,reduceCtorEq,and_false] at h
   obtain ⟨⟨a0,b0,c0⟩,⟨a1,b1,c1⟩,⟨a2,b2,c2⟩,⟨a3,b3,c3⟩,⟨a4,b4,c4⟩,⟨a5,b5,c5⟩⟩:=h
   simp only [wW,V6,ay,PV.cells,a0,b0,c0,a1,b1,c1,a2,b2,c2,a3,b3,c3,a4,b4,c4,a5,b5,c5,Bool.and_true,BEq.rfl,decide_true,Nat.zero_add,Nat.reduceAdd])
 exact key
theorem aep (ti:aD) (K:PV→Prop) :
  (∀ a b,oH Tryz.prog ti 51 .eql (aL a) (aL b) K=K (.bool (decide (a=b))))∧
  (∀ a b,oH Tryz.prog ti 51 .neq (aL a) (aL b) K=K (.bool (!decide (a=b)))):=by
 refine ⟨fun a b=>?_,fun a b=>?_⟩
 · show (AB Tryz.prog 51 (aL a).cells (aL b).cells∧∃ r,yK (aL a).cells (aL b).cells=some r∧K (.bool r))=_
   rw [acX]
   simp [Zx]
 · show (AB Tryz.prog 51 (aL a).cells (aL b).cells∧∃ r,yK (aL a).cells (aL b).cells=some r∧K (.bool (!r)))=_
   rw [acX]
   simp [Zx]
end Lp
namespace Lp
open Go Go.Proofs
open Nat (lt_or_ge reduceAdd reduceLeDiff reduceMul reduceSub)
open Int (reduceLE reduceToNat)
def jV (n:dY):Bool:=decide (n.s.length≤100) && decide (n.name.length≤100) && decide (n.c.s.length≤100)
theorem Tj (t:aC) (k:Nat) (hk:k≤1000000) (hl:t.length≤4611686018427387904) (htx:∀ n ∈ t,n.s.length≤4611686018427387904∧n.name.length≤4611686018427387904∧n.c.s.length≤4611686018427387904) :
  ai Tryz.prog 24 [aA t,.int .i64 k] [] (.bool (decide (t.length≤k) && t.all jV)) []:=by
 refine Ah.bg (T:=aR Tryz.prog []) 0 hD (aj ah) a_ (by decide) fun Q hQ=>?_
 (conv=>arg 4;cbv);simp(maxSteps:=400000)only[↓av,ax,BEq.rfl,reduceIte,reduceCtorEq,Nat.reduceLT,reduceAdd,reduceSub,reduceMul,Nat.reduceBEq,reduceLeDiff,reduceToNat,reduceLE,hQ]
 refine aH (fun m S=>∃ i:Nat,i+m=t.length∧i≤k∧(∀ (j:Nat) x,j<i→t[j]?=some x→jV x=true)∧S=⟨dI 43 [(0,aA t),(1,.int .i64 k),(5,.int .i64 i)],[]⟩) t.length ⟨0,by omega,by omega,fun j x h=>absurd h (Nat.not_lt_zero j),?_⟩ ?_
 · simp only [bW,keepR,reduceAdd,nu,Nat.reduceBEq,List.map_nil]
   rfl
 rintro m S ⟨i,him,hik,hb,rfl⟩
 have zi:(0≤(i:Int))=True:=eq_true (by omega)
 rcases lt_or_ge i t.length with h | h
 · have hlt:((i:Int)<(t.length:Int))=True:=eq_true (by omega)
   have hgi:=List.getElem?_eq_getElem h
   have afg:=htx _ (List.getElem_mem h)
   generalize t[i]=x at hgi afg
   have no:jV x=false→(decide (t.length≤k) && t.all jV)=false:=fun hx=>by
    have:t.all jV=false:=by rw [List.all_eq_false];exact ⟨x,List.mem_of_getElem? hgi,by simp [hx]⟩
    simp [this]
   rcases lt_or_ge i k with g | g
   rotate_left 1
   · have hkl:((k:Int)≤(i:Int))=True:=eq_true (by omega)
     have hr:(decide (t.length≤k) && t.all jV)=false:=by
      have:decide (t.length≤k)=false:=decide_eq_false (by omega)
      simp [this]
     simp(maxSteps:=400000)only[↓av,ax,BEq.rfl,reduceIte,reduceCtorEq,Nat.reduceLT,reduceAdd,reduceSub,reduceMul,Nat.reduceBEq,reduceLeDiff,reduceToNat,reduceLE,hQ,hlt,zi,hgi,hkl,hr]
   have hkl:((k:Int)≤(i:Int))=False:=eq_false (by omega)
   by_cases h1:x.s.length≤100
   rotate_left 1
   · have e1:((100:Int)<(x.s.length:Int))=True:=eq_true (by omega)
     have hr:=no (by simp [jV,h1])
     simp(maxSteps:=400000)only[↓av,ax,BEq.rfl,reduceIte,reduceCtorEq,Nat.reduceLT,reduceAdd,reduceSub,reduceMul,Nat.reduceBEq,reduceLeDiff,reduceToNat,reduceLE,hQ,hlt,zi,hgi,hkl,e1,hr]
   have e1:((100:Int)<(x.s.length:Int))=False:=eq_false (by omega)
   by_cases h2:x.name.length≤100
   rotate_left 1
   · have e2:((100:Int)<(x.name.length:Int))=True:=eq_true (by omega)
     have hr:=no (by simp [jV,h2])
     simp(maxSteps:=400000)only[↓av,ax,BEq.rfl,reduceIte,reduceCtorEq,Nat.reduceLT,reduceAdd,reduceSub,reduceMul,Nat.reduceBEq,reduceLeDiff,reduceToNat,reduceLE,hQ,hlt,zi,hgi,hkl,e1,e2,hr]
   have e2:((100:Int)<(x.name.length:Int))=False:=eq_false (by omega)
   by_cases h3:x.c.s.length≤100
   rotate_left 1
   · have e3:((100:Int)<(x.c.s.length:Int))=True:=eq_true (by omega)
     have hr:=no (by simp [jV,h3])
     simp(maxSteps:=400000)only[↓av,ax,BEq.rfl,reduceIte,reduceCtorEq,Nat.reduceLT,reduceAdd,reduceSub,reduceMul,Nat.reduceBEq,reduceLeDiff,reduceToNat,reduceLE,hQ,hlt,zi,hgi,hkl,e1,e2,e3,hr]
   have e3:((100:Int)<(x.c.s.length:Int))=False:=eq_false (by omega)
   simp(maxSteps:=400000)only[↓av,ax,BEq.rfl,reduceIte,reduceCtorEq,Nat.reduceLT,reduceAdd,reduceSub,reduceMul,Nat.reduceBEq,reduceLeDiff,reduceToNat,reduceLE,hQ,hlt,zi,hgi,hkl,e1,e2,e3]
   refine ⟨⟨by omega,by omega⟩,m-1,by omega,i+1,by omega,by omega,fun j y hj hy=>?_,rfl⟩
   rcases lt_or_ge j i with g' | g'
   · exact hb j y g' hy
   · have:j=i:=by omega
     subst this
     rw [hgi] at hy;cases hy
     simp [jV,h1,h2,h3]
 · have hlt:((i:Int)<(t.length:Int))=False:=eq_false (by omega)
   have hr:(decide (t.length≤k) && t.all jV)=true:=by
    have h1:decide (t.length≤k)=true:=decide_eq_true (by omega)
    have h2:t.all jV=true:=by
     rw [List.all_eq_true];intro x hx
     obtain ⟨j,hj⟩:=List.mem_iff_getElem?.1 hx
     have:=(List.getElem?_eq_some_iff.1 hj).1
     exact hb j x (by omega) hj
    rw [h1,h2];rfl
   simp(maxSteps:=400000)only[↓av,ax,BEq.rfl,reduceIte,reduceCtorEq,Nat.reduceLT,reduceAdd,reduceSub,reduceMul,Nat.reduceBEq,reduceLeDiff,reduceToNat,reduceLE,hQ,hlt,hr]
def qD:dF:=fun args objs K=>match args with
 | [a0,.int .i64 k]=>fB aA a0 (HK.mk:HK fun t=>(0≤k)∧(k≤1000000)∧(t.length≤4611686018427387904)∧(∀ n ∈ t,n.s.length≤4611686018427387904∧n.name.length≤4611686018427387904∧n.c.s.length≤4611686018427387904)∧K (.bool (decide (t.length≤k.toNat) && t.all jV)) objs 0)
 | _=>False
theorem Jw:aB Tryz.prog 24 (qD):=by
 intro args objs K h
 unfold qD at h
 split at h
 · rename_i a0 k
   obtain ⟨t,rfl,h1,h2,h3,h4,hk⟩:=h
   exact ⟨_,_,_,.pure _ rfl ((by have:=Tj t k.toNat (by omega) h3 h4;rwa [Int.toNat_of_nonneg h1] at this)),hk⟩
 · exact h.elim
end Lp
namespace Lp
open Go Go.Proofs
def cu:LC:=
 (.cond (.tmp 105)
        .skip
        (.seq (.reg [⟨some 107,.binOp .eql 3 (.tmp 14) (.const (.int .i64 5)) 3,none,false⟩,
         ⟨some 105,.assign (.tmp 107),none,false⟩])
        (.cond (.tmp 105)
         .skip
         (.reg [⟨some 108,.binOp .eql 3 (.tmp 14) (.const (.int .i64 6)) 3,none,false⟩,
          ⟨some 105,.assign (.tmp 108),none,false⟩]))))
def dV:LC:=
 (.cond (.tmp 117)
         .skip
         (.reg [⟨some 119,.binOp .eql 3 (.tmp 14) (.const (.int .i64 8)) 3,none,false⟩,
          ⟨some 117,.assign (.tmp 119),none,false⟩]))
def dW:LC:=
 (.cond (.tmp 117)
         (.seq (.reg [⟨some 121,.fieldAddr 51 (.tmp 1) 3,none,false⟩,
          ⟨some 122,.load 9 (.tmp 121),none,false⟩,
          ⟨some 123,.call ⟨.value (.func 34),⟨[(.tmp 122)]⟩,⟨[9]⟩⟩,none,false⟩,
          ⟨some 120,.move (.tmp 123),none,false⟩,
          ⟨some 124,.extract (.tmp 120) 0,none,false⟩,
          ⟨some 125,.extract (.tmp 120) 1,none,false⟩,
          ⟨some 4,.assign (.tmp 124),none,false⟩,
          ⟨some 5,.assign (.tmp 125),none,false⟩])
         (.seq (.reg [⟨some 126,.fieldAddr 51 (.tmp 1) 3,none,false⟩,
          ⟨some 127,.load 9 (.tmp 126),none,false⟩,
          ⟨some 128,.fieldAddr 51 (.tmp 3) 3,none,false⟩,
          ⟨none,.store 9 (.tmp 128) (.tmp 127),none,false⟩])
         (.seq (.reg [⟨some 129,.load 51 (.tmp 1),none,false⟩,
          ⟨some 130,.load 51 (.tmp 3),none,false⟩,
          ⟨some 131,.binOp .eql 51 (.tmp 129) (.tmp 130) 51,none,false⟩,
          ⟨some 132,.move (.tmp 131),none,false⟩,
          ⟨some 133,.fieldAddr 51 (.tmp 1) 1,some (some 132,true),false⟩,
          ⟨some 134,.load 3 (.tmp 133),some (some 132,true),false⟩,
          ⟨some 135,.binOp .eql 3 (.tmp 134) (.const (.int .i64 1)) 3,some (some 132,true),false⟩,
          ⟨some 136,.pick (.tmp 132) (.tmp 135) (.const (.bool false)),none,false⟩,
          ⟨some 137,.move (.tmp 136),none,false⟩,
          ⟨some 138,.move (.tmp 5),some (some 137,true),false⟩,
          ⟨some 139,.pick (.tmp 137) (.tmp 138) (.const (.bool false)),none,false⟩,
          ⟨some 2,.assign (.tmp 139),none,false⟩])
         .ret)))
         .skip)
def cB:LC:=
 (.cond (.tmp 105)
        (.seq (.reg [⟨some 109,.load 51 (.tmp 1),none,false⟩,
         ⟨some 110,.load 51 (.tmp 3),none,false⟩,
         ⟨some 111,.binOp .eql 51 (.tmp 109) (.tmp 110) 51,none,false⟩,
         ⟨some 112,.move (.tmp 111),none,false⟩,
         ⟨some 113,.fieldAddr 51 (.tmp 1) 1,some (some 112,true),false⟩,
         ⟨some 114,.load 3 (.tmp 113),some (some 112,true),false⟩,
         ⟨some 115,.binOp .eql 3 (.tmp 114) (.const (.int .i64 1)) 3,some (some 112,true),false⟩,
         ⟨some 116,.pick (.tmp 112) (.tmp 115) (.const (.bool false)),none,false⟩,
         ⟨some 2,.assign (.tmp 116),none,false⟩])
        .ret)
        (.seq (.seq (.weak (.reg [⟨some 118,.binOp .eql 3 (.tmp 14) (.const (.int .i64 7)) 3,none,false⟩,
         ⟨some 117,.assign (.tmp 118),none,false⟩]))
        dV)
        dW))
def iq:LC:=
 (.cond (.tmp 95)
       (.seq (.reg [⟨some 97,.load 51 (.tmp 1),none,false⟩,
        ⟨some 98,.load 51 (.tmp 3),none,false⟩,
        ⟨some 99,.binOp .eql 51 (.tmp 97) (.tmp 98) 51,none,false⟩,
        ⟨some 100,.move (.tmp 99),none,false⟩,
        ⟨some 101,.fieldAddr 51 (.tmp 1) 1,some (some 100,true),false⟩,
        ⟨some 102,.load 3 (.tmp 101),some (some 100,true),false⟩,
        ⟨some 103,.binOp .geq 3 (.tmp 102) (.const (.int .i64 0)) 3,some (some 100,true),false⟩,
        ⟨some 104,.pick (.tmp 100) (.tmp 103) (.const (.bool false)),none,false⟩,
        ⟨some 2,.assign (.tmp 104),none,false⟩])
       .ret)
       (.seq (.seq (.weak (.reg [⟨some 106,.binOp .eql 3 (.tmp 14) (.const (.int .i64 3)) 3,none,false⟩,
        ⟨some 105,.assign (.tmp 106),none,false⟩]))
       cu)
       cB))
def iy:LC:=
 (.cond (.tmp 72)
   (.seq (.reg [⟨some 74,.fieldAddr 51 (.tmp 1) 4,none,false⟩,
    ⟨some 75,.load 3 (.tmp 74),none,false⟩,
    ⟨some 76,.fieldAddr 51 (.tmp 3) 4,none,false⟩,
    ⟨none,.store 3 (.tmp 76) (.tmp 75),none,false⟩])
   (.seq (.reg [⟨some 77,.load 51 (.tmp 1),none,false⟩,
    ⟨some 78,.load 51 (.tmp 3),none,false⟩,
    ⟨some 79,.binOp .eql 51 (.tmp 77) (.tmp 78) 51,none,false⟩,
    ⟨some 80,.move (.tmp 79),none,false⟩,
    ⟨some 81,.fieldAddr 51 (.tmp 1) 1,some (some 80,true),false⟩,
    ⟨some 82,.load 3 (.tmp 81),some (some 80,true),false⟩,
    ⟨some 83,.binOp .geq 3 (.tmp 82) (.const (.int .i64 0)) 3,some (some 80,true),false⟩,
    ⟨some 84,.pick (.tmp 80) (.tmp 83) (.const (.bool false)),none,false⟩,
    ⟨some 85,.move (.tmp 84),none,false⟩,
    ⟨some 86,.fieldAddr 51 (.tmp 1) 4,some (some 85,true),false⟩,
    ⟨some 87,.load 3 (.tmp 86),some (some 85,true),false⟩,
    ⟨some 88,.binOp .eql 3 (.tmp 87) (.const (.int .i64 0)) 3,some (some 85,true),false⟩,
    ⟨some 89,.move (.tmp 88),some (some 85,true),false⟩,
    ⟨some 90,.fieldAddr 51 (.tmp 1) 4,some (some 89,false),false⟩,
    ⟨some 91,.load 3 (.tmp 90),some (some 89,false),false⟩,
    ⟨some 92,.binOp .eql 3 (.tmp 91) (.const (.int .i64 1)) 3,some (some 89,false),false⟩,
    ⟨some 93,.pick (.tmp 89) (.const (.bool true)) (.tmp 92),some (some 85,true),false⟩,
    ⟨some 94,.pick (.tmp 85) (.tmp 93) (.const (.bool false)),none,false⟩,
    ⟨some 2,.assign (.tmp 94),none,false⟩])
   .ret))
   (.seq (.weak (.reg [⟨some 96,.binOp .eql 3 (.tmp 14) (.const (.int .i64 4)) 3,none,false⟩,
    ⟨some 95,.assign (.tmp 96),none,false⟩]))
   iq))
def iA:LC:=
 (.cond (.tmp 48)
   (.seq (.reg [⟨some 50,.fieldAddr 51 (.tmp 1) 4,none,false⟩,
    ⟨some 51,.load 3 (.tmp 50),none,false⟩,
    ⟨some 52,.fieldAddr 51 (.tmp 3) 4,none,false⟩,
    ⟨none,.store 3 (.tmp 52) (.tmp 51),none,false⟩])
   (.seq (.reg [⟨some 53,.fieldAddr 51 (.tmp 1) 5,none,false⟩,
    ⟨some 54,.load 27 (.tmp 53),none,false⟩,
    ⟨some 55,.fieldAddr 51 (.tmp 3) 5,none,false⟩,
    ⟨none,.store 27 (.tmp 55) (.tmp 54),none,false⟩])
   (.seq (.reg [⟨some 56,.load 51 (.tmp 1),none,false⟩,
    ⟨some 57,.load 51 (.tmp 3),none,false⟩,
    ⟨some 58,.binOp .eql 51 (.tmp 56) (.tmp 57) 51,none,false⟩,
    ⟨some 59,.move (.tmp 58),none,false⟩,
    ⟨some 60,.fieldAddr 51 (.tmp 1) 1,some (some 59,true),false⟩,
    ⟨some 61,.load 3 (.tmp 60),some (some 59,true),false⟩,
    ⟨some 62,.binOp .eql 3 (.tmp 61) (.const (.int .i64 0)) 3,some (some 59,true),false⟩,
    ⟨some 63,.pick (.tmp 59) (.tmp 62) (.const (.bool false)),none,false⟩,
    ⟨some 64,.move (.tmp 63),none,false⟩,
    ⟨some 65,.fieldAddr 51 (.tmp 1) 4,some (some 64,true),false⟩,
    ⟨some 66,.load 3 (.tmp 65),some (some 64,true),false⟩,
    ⟨some 67,.fieldAddr 51 (.tmp 1) 5,some (some 64,true),false⟩,
    ⟨some 68,.load 27 (.tmp 67),some (some 64,true),false⟩,
    ⟨some 69,.build 29 ⟨[(0,(.tmp 66)),(1,(.tmp 68))]⟩,some (some 64,true),false⟩,
    ⟨some 70,.call ⟨.value (.func 9),⟨[(.tmp 69)]⟩,⟨[29]⟩⟩,some (some 64,true),false⟩,
    ⟨some 71,.pick (.tmp 64) (.tmp 70) (.const (.bool false)),none,false⟩,
    ⟨some 2,.assign (.tmp 71),none,false⟩])
   .ret)))
   (.seq (.weak (.reg [⟨some 73,.binOp .eql 3 (.tmp 14) (.const (.int .i64 2)) 3,none,false⟩,
    ⟨some 72,.assign (.tmp 73),none,false⟩]))
   iy))
def iB:LC:=
 (.cond (.tmp 25)
  (.seq (.reg [⟨some 27,.fieldAddr 51 (.tmp 1) 4,none,false⟩,
   ⟨some 28,.load 3 (.tmp 27),none,false⟩,
   ⟨some 29,.fieldAddr 51 (.tmp 3) 4,none,false⟩,
   ⟨none,.store 3 (.tmp 29) (.tmp 28),none,false⟩])
  (.seq (.reg [⟨some 30,.load 51 (.tmp 1),none,false⟩,
   ⟨some 31,.load 51 (.tmp 3),none,false⟩,
   ⟨some 32,.binOp .eql 51 (.tmp 30) (.tmp 31) 51,none,false⟩,
   ⟨some 33,.move (.tmp 32),none,false⟩,
   ⟨some 34,.fieldAddr 51 (.tmp 1) 1,some (some 33,true),false⟩,
   ⟨some 35,.load 3 (.tmp 34),some (some 33,true),false⟩,
   ⟨some 36,.binOp .geq 3 (.tmp 35) (.const (.int .i64 0)) 3,some (some 33,true),false⟩,
   ⟨some 37,.pick (.tmp 33) (.tmp 36) (.const (.bool false)),none,false⟩,
   ⟨some 38,.move (.tmp 37),none,false⟩,
   ⟨some 39,.fieldAddr 51 (.tmp 1) 4,some (some 38,true),false⟩,
   ⟨some 40,.load 3 (.tmp 39),some (some 38,true),false⟩,
   ⟨some 41,.binOp .geq 3 (.tmp 40) (.const (.int .i64 1)) 3,some (some 38,true),false⟩,
   ⟨some 42,.pick (.tmp 38) (.tmp 41) (.const (.bool false)),none,false⟩,
   ⟨some 43,.move (.tmp 42),none,false⟩,
   ⟨some 44,.fieldAddr 51 (.tmp 1) 4,some (some 43,true),false⟩,
   ⟨some 45,.load 3 (.tmp 44),some (some 43,true),false⟩,
   ⟨some 46,.binOp .leq 3 (.tmp 45) (.const (.int .i64 31)) 3,some (some 43,true),false⟩,
   ⟨some 47,.pick (.tmp 43) (.tmp 46) (.const (.bool false)),none,false⟩,
   ⟨some 2,.assign (.tmp 47),none,false⟩])
  .ret))
  (.seq (.weak (.reg [⟨some 49,.binOp .eql 3 (.tmp 14) (.const (.int .i64 9)) 3,none,false⟩,
   ⟨some 48,.assign (.tmp 49),none,false⟩]))
  iA))
def iC:LC:=
 (.cond (.tmp 15)
  (.seq (.reg [⟨some 17,.load 51 (.tmp 1),none,false⟩,
   ⟨some 18,.load 51 (.tmp 3),none,false⟩,
   ⟨some 19,.binOp .eql 51 (.tmp 17) (.tmp 18) 51,none,false⟩,
   ⟨some 20,.move (.tmp 19),none,false⟩,
   ⟨some 21,.fieldAddr 51 (.tmp 1) 1,some (some 20,true),false⟩,
   ⟨some 22,.load 3 (.tmp 21),some (some 20,true),false⟩,
   ⟨some 23,.binOp .eql 3 (.tmp 22) (.const (.int .i64 0)) 3,some (some 20,true),false⟩,
   ⟨some 24,.pick (.tmp 20) (.tmp 23) (.const (.bool false)),none,false⟩,
   ⟨some 2,.assign (.tmp 24),none,false⟩])
  .ret)
  (.seq (.weak (.reg [⟨some 26,.binOp .eql 3 (.tmp 14) (.const (.int .i64 1)) 3,none,false⟩,
   ⟨some 25,.assign (.tmp 26),none,false⟩]))
  iB))
def nG:LC:=
 (.seq (.reg [⟨some 2,.assign (.const (.bool false)),none,false⟩])
 .ret)
def qE:LC:=
 (.seq (.reg [⟨some 1,.box 51 (.tmp 0),none,false⟩,
  ⟨some 2,.assign (.const (.bool false)),none,false⟩])
 (.seq (.reg [⟨some 6,.fieldAddr 51 (.tmp 1) 0,none,false⟩,
  ⟨some 7,.load 3 (.tmp 6),none,false⟩,
  ⟨some 8,.fieldAddr 51 (.tmp 1) 1,none,false⟩,
  ⟨some 9,.load 3 (.tmp 8),none,false⟩,
  ⟨some 10,.fieldAddr 51 (.tmp 1) 2,none,false⟩,
  ⟨some 11,.load 9 (.tmp 10),none,false⟩,
  ⟨some 12,.build 51 ⟨[(0,(.tmp 7)),(1,(.tmp 9)),(2,(.tmp 11))]⟩,none,false⟩,
  ⟨some 3,.alloc 51,none,false⟩,
  ⟨none,.store 51 (.tmp 3) (.tmp 12),none,false⟩])
 (.seq (.seq (.reg [⟨some 13,.fieldAddr 51 (.tmp 1) 0,none,false⟩,
  ⟨some 14,.load 3 (.tmp 13),none,false⟩])
 (.block 0 (.seq (.weak (.reg [⟨some 16,.binOp .eql 3 (.tmp 14) (.const (.int .i64 0)) 3,none,false⟩,
  ⟨some 15,.assign (.tmp 16),none,false⟩]))
  iC)))
 nG)))
theorem Ap:aP Tryz.prog 32 140 [.tmp 2] qE:=⟨_,_,Tryz.func32,by kernel_rfl,rfl,Tryz.ntmps32,rfl,by kernel_rfl⟩
end Lp
namespace Lp
open Go Go.Proofs
open Nat (reduceAdd reduceLeDiff reduceMul reduceSub)
open Int (reduceEq reduceLE reduceToNat)
theorem ny (a:dY):(∀ n,(aL a).putCells 4 [.int .i64 n]=aL { a with n:=n })∧(∀ x,(aL a).putCells 3 [.str x]=aL { a with s:=x })∧
  (∀ ck cm cn cs cg ce,(aL a).putCells 5 [.int .i64 ck,.int .i64 cm,.str cn,.str cs,.bool cg,.int .i64 ce]=aL { a with c:=⟨ck,cm,cn,cs,cg,ce⟩ }):=⟨fun _=>rfl,fun _=>rfl,fun _ _ _ _ _ _=>rfl⟩
theorem ac4 (t:dY):decide (t=⟨t.kind,t.many,t.name,[],0,aM⟩)=(t.s==[] && t.n==0 && t.c==aM):=by
 obtain ⟨k,m,nm,s,n,c⟩:=t
 rw [Bool.eq_iff_iff];simp [and_assoc]
theorem aer (t:dY):decide (t=⟨t.kind,t.many,t.name,[],t.n,aM⟩)=(t.s==[] && t.c==aM):=by
 obtain ⟨k,m,nm,s,n,c⟩:=t
 rw [Bool.eq_iff_iff];simp
theorem afh (t:dY):decide (t=⟨t.kind,t.many,t.name,[],t.n,t.c⟩)=(t.s==[]):=by
 obtain ⟨k,m,nm,s,n,c⟩:=t
 rw [Bool.eq_iff_iff];simp
theorem afi (t:dY):decide (t=⟨t.kind,t.many,t.name,t.s,0,aM⟩)=(t.n==0 && t.c==aM):=by
 obtain ⟨k,m,nm,s,n,c⟩:=t
 rw [Bool.eq_iff_iff];simp
theorem afj (pk:List UInt8→Bool) (t:dY) (k:t.kind=0):bK pk t=(decide (t=⟨t.kind,t.many,t.name,[],0,aM⟩) && decide (t.many=0)):=by
 rw [ac4]
 have b:∀ i:Int,(t.many==i)=decide (t.many=i):=fun _=>rfl
 have c:∀ i:Int,(t.n==i)=decide (t.n=i):=fun _=>rfl
 simp only [bK,k,reduceEq,if_true,if_false,false_or,or_false,or_self,true_or,or_true,b,c]
 ac_rfl
theorem afk (pk:List UInt8→Bool) (t:dY) (k:t.kind=1):bK pk t=(decide (t=⟨t.kind,t.many,t.name,[],t.n,aM⟩) && (decide (0≤t.many) && decide (1≤t.n) && decide (t.n≤31))):=by
 rw [aer]
 have b:∀ i:Int,(t.many==i)=decide (t.many=i):=fun _=>rfl
 have c:∀ i:Int,(t.n==i)=decide (t.n=i):=fun _=>rfl
 simp only [bK,k,reduceEq,if_true,if_false,false_or,or_false,or_self,true_or,or_true,b,c]
 ac_rfl
theorem afl (pk:List UInt8→Bool) (t:dY) (k:t.kind=9):bK pk t=(decide (t=⟨t.kind,t.many,t.name,[],t.n,t.c⟩) && (decide (t.many=0) && gG ⟨t.n,t.c⟩)):=by
 rw [afh]
 have b:∀ i:Int,(t.many==i)=decide (t.many=i):=fun _=>rfl
 have c:∀ i:Int,(t.n==i)=decide (t.n=i):=fun _=>rfl
 simp only [bK,k,reduceEq,if_true,if_false,false_or,or_false,or_self,true_or,or_true,b,c]
 ac_rfl
theorem afm (pk:List UInt8→Bool) (t:dY) (k:t.kind=2):bK pk t=(decide (t=⟨t.kind,t.many,t.name,[],t.n,aM⟩) && (decide (0≤t.many) && (decide (t.n=0) || decide (t.n=1)))):=by
 rw [aer]
 have b:∀ i:Int,(t.many==i)=decide (t.many=i):=fun _=>rfl
 have c:∀ i:Int,(t.n==i)=decide (t.n=i):=fun _=>rfl
 simp only [bK,k,reduceEq,if_true,if_false,false_or,or_false,or_self,true_or,or_true,b,c]
 ac_rfl
theorem afn (pk:List UInt8→Bool) (t:dY) (k:t.kind=4):bK pk t=(decide (t=⟨t.kind,t.many,t.name,[],0,aM⟩) && decide (0≤t.many)):=by
 rw [ac4]
 have b:∀ i:Int,(t.many==i)=decide (t.many=i):=fun _=>rfl
 have c:∀ i:Int,(t.n==i)=decide (t.n=i):=fun _=>rfl
 simp only [bK,k,reduceEq,if_true,if_false,false_or,or_false,or_self,true_or,or_true,b,c]
 ac_rfl
theorem ac5 (pk:List UInt8→Bool) (t:dY) (k:t.kind=3∨t.kind=5∨t.kind=6):bK pk t=(decide (t=⟨t.kind,t.many,t.name,[],0,aM⟩) && decide (t.many=1)):=by
 rw [ac4]
 have b:∀ i:Int,(t.many==i)=decide (t.many=i):=fun _=>rfl
 have c:∀ i:Int,(t.n==i)=decide (t.n=i):=fun _=>rfl
 rcases k with k | k | k <;> simp only [bK,k,reduceEq,if_true,if_false,false_or,or_false,or_self,true_or,or_true,b,c] <;> ac_rfl
theorem aes (pk:List UInt8→Bool) (t:dY) (k:t.kind=7∨t.kind=8):bK pk t=(decide (t=⟨t.kind,t.many,t.name,t.s,0,aM⟩) && (decide (t.many=1) && pk t.s)):=by
 rw [afi]
 have b:∀ i:Int,(t.many==i)=decide (t.many=i):=fun _=>rfl
 have c:∀ i:Int,(t.n==i)=decide (t.n=i):=fun _=>rfl
 rcases k with k | k <;> simp only [bK,k,reduceEq,if_true,if_false,false_or,or_false,or_self,true_or,or_true,b,c] <;> ac_rfl
theorem fo (k m n ck cm ce k' m' n' ck' cm' ce':Int) (nm s cn cs LP s' cn' cs':List UInt8) (cg cg':Bool):AB Tryz.prog 51 [.int .i64 k,.int .i64 m,.str nm,.str s,.int .i64 n,.int .i64 ck,.int .i64 cm,.str cn,.str cs,.bool cg,.int .i64 ce] [.int .i64 k',.int .i64 m',.str LP,.str s',.int .i64 n',.int .i64 ck',.int .i64 cm',.str cn',.str cs',.bool cg',.int .i64 ce']=True:=eq_true (Zx ⟨k,m,nm,s,n,⟨ck,cm,cn,cs,cg,ce⟩⟩ ⟨k',m',LP,s',n',⟨ck',cm',cn',cs',cg',ce'⟩⟩)
theorem je (k m n ck cm ce k' m' n' ck' cm' ce':Int) (nm s cn cs LP s' cn' cs':List UInt8) (cg cg':Bool):yK [.int .i64 k,.int .i64 m,.str nm,.str s,.int .i64 n,.int .i64 ck,.int .i64 cm,.str cn,.str cs,.bool cg,.int .i64 ce] [.int .i64 k',.int .i64 m',.str LP,.str s',.int .i64 n',.int .i64 ck',.int .i64 cm',.str cn',.str cs',.bool cg',.int .i64 ce']=some (decide ((⟨k,m,nm,s,n,⟨ck,cm,cn,cs,cg,ce⟩⟩:dY)=⟨k',m',LP,s',n',⟨ck',cm',cn',cs',cg',ce'⟩⟩)):=acX ⟨k,m,nm,s,n,⟨ck,cm,cn,cs,cg,ce⟩⟩ ⟨k',m',LP,s',n',⟨ck',cm',cn',cs',cg',ce'⟩⟩
theorem MP (t:dY) (hs:t.s.length≤1000000000) (hc:pO t.c):ai Tryz.prog 32 [aL t] [] (.bool (bK bq t)) []:=by
 refine Ap.bg (T:=aR Tryz.prog [(9,l6),(34,gy)]) 0 hD (aj (af BV (af BK ah))) a_ (by decide) fun Q hQ=>?_
 obtain ⟨kd,m,nm,s,n,c⟩:=t
 simp only at hs hc
 simp(maxSteps:=400000)only[↓av,ax,BEq.rfl,reduceIte,reduceCtorEq,Nat.reduceLT,reduceAdd,reduceSub,reduceMul,Nat.reduceBEq,reduceLeDiff,reduceToNat,reduceLE,hQ,qE,qR,gM,gV,ny,fo,je,bY,dO,reduceEq]
 refine aN _ (Weak.refl _ _) ?_
 by_cases k0:kd=0
 · subst k0
   have hp:bK bq ⟨0,m,nm,s,n,c⟩=(decide ((⟨0,m,nm,s,n,c⟩:dY)=⟨0,m,nm,[],0,aM⟩) && decide (m=0)):=afj bq ⟨0,m,nm,s,n,c⟩ rfl
   cases hb:decide ((⟨0,m,nm,s,n,c⟩:dY)=⟨0,m,nm,[],0,aM⟩) with
   | false=>
    rw [hb,Bool.false_and] at hp
    simp(maxSteps:=400000)only[↓av,ax,BEq.rfl,reduceIte,reduceCtorEq,Nat.reduceLT,reduceAdd,reduceSub,reduceMul,Nat.reduceBEq,reduceLeDiff,reduceToNat,reduceLE,hQ,iC,hb,hp,qR,gM,gV,ny,fo,je,bY,dO,reduceEq]
    repeat' (first | (omega) | exact hs | exact hc | intro _ | refine ⟨?_,?_⟩)
   | true=>
    rw [hb,Bool.true_and] at hp
    simp(maxSteps:=400000)only[↓av,ax,BEq.rfl,reduceIte,reduceCtorEq,Nat.reduceLT,reduceAdd,reduceSub,reduceMul,Nat.reduceBEq,reduceLeDiff,reduceToNat,reduceLE,hQ,iC,hb,hp,qR,gM,gV,ny,fo,je,bY,dO,reduceEq]
    repeat' (first | (omega) | exact hs | exact hc | ((simp [*];done)) | intro _ | refine ⟨?_,?_⟩)
 have n0:=eq_false k0
 simp(maxSteps:=400000)only[↓av,ax,BEq.rfl,reduceIte,reduceCtorEq,Nat.reduceLT,reduceAdd,reduceSub,reduceMul,Nat.reduceBEq,reduceLeDiff,reduceToNat,reduceLE,hQ,iC,n0,qR,gM,gV,ny,fo,je,bY,dO,reduceEq]
 refine aN _ (Weak.refl _ _) ?_
 by_cases k1:kd=1
 · subst k1
   have hp:bK bq ⟨1,m,nm,s,n,c⟩=(decide ((⟨1,m,nm,s,n,c⟩:dY)=⟨1,m,nm,[],n,aM⟩) && (decide (0≤m) && decide (1≤n) && decide (n≤31))):=afk bq ⟨1,m,nm,s,n,c⟩ rfl
   cases hb:decide ((⟨1,m,nm,s,n,c⟩:dY)=⟨1,m,nm,[],n,aM⟩) with
   | false=>
    rw [hb,Bool.false_and] at hp
    simp(maxSteps:=400000)only[↓av,ax,BEq.rfl,reduceIte,reduceCtorEq,Nat.reduceLT,reduceAdd,reduceSub,reduceMul,Nat.reduceBEq,reduceLeDiff,reduceToNat,reduceLE,hQ,iB,hb,hp,qR,gM,gV,ny,fo,je,bY,dO,reduceEq]
    repeat' (first | (omega) | exact hs | exact hc | intro _ | refine ⟨?_,?_⟩)
   | true=>
    rw [hb,Bool.true_and] at hp
    simp(maxSteps:=400000)only[↓av,ax,BEq.rfl,reduceIte,reduceCtorEq,Nat.reduceLT,reduceAdd,reduceSub,reduceMul,Nat.reduceBEq,reduceLeDiff,reduceToNat,reduceLE,hQ,iB,hb,hp,qR,gM,gV,ny,fo,je,bY,dO,reduceEq]
    repeat' (first | (omega) | exact hs | exact hc | ((simp [*];done)) | intro _ | refine ⟨?_,?_⟩)
 have n1:=eq_false k1
 simp(maxSteps:=400000)only[↓av,ax,BEq.rfl,reduceIte,reduceCtorEq,Nat.reduceLT,reduceAdd,reduceSub,reduceMul,Nat.reduceBEq,reduceLeDiff,reduceToNat,reduceLE,hQ,iB,n1,qR,gM,gV,ny,fo,je,bY,dO,reduceEq]
 refine aN _ (Weak.refl _ _) ?_
 by_cases k9:kd=9
 · subst k9
   have hp:bK bq ⟨9,m,nm,s,n,c⟩=(decide ((⟨9,m,nm,s,n,c⟩:dY)=⟨9,m,nm,[],n,c⟩) && (decide (m=0) && gG ⟨n,c⟩)):=afl bq ⟨9,m,nm,s,n,c⟩ rfl
   cases hb:decide ((⟨9,m,nm,s,n,c⟩:dY)=⟨9,m,nm,[],n,c⟩) with
   | false=>
    rw [hb,Bool.false_and] at hp
    simp(maxSteps:=400000)only[↓av,ax,BEq.rfl,reduceIte,reduceCtorEq,Nat.reduceLT,reduceAdd,reduceSub,reduceMul,Nat.reduceBEq,reduceLeDiff,reduceToNat,reduceLE,hQ,iA,hb,hp,↓l6,qR,gM,gV,ny,fo,je,bY,dO,reduceEq]
    repeat' (first | (omega) | exact hs | exact hc | intro _ | refine ⟨?_,?_⟩)
   | true=>
    rw [hb,Bool.true_and] at hp
    simp(maxSteps:=400000)only[↓av,ax,BEq.rfl,reduceIte,reduceCtorEq,Nat.reduceLT,reduceAdd,reduceSub,reduceMul,Nat.reduceBEq,reduceLeDiff,reduceToNat,reduceLE,hQ,iA,hb,hp,↓l6,qR,gM,gV,ny,fo,je,bY,dO,reduceEq]
    repeat' (first | (omega) | exact hs | exact hc | ((simp [*];done)) | intro _ | refine ⟨?_,?_⟩)
 have n9:=eq_false k9
 simp(maxSteps:=400000)only[↓av,ax,BEq.rfl,reduceIte,reduceCtorEq,Nat.reduceLT,reduceAdd,reduceSub,reduceMul,Nat.reduceBEq,reduceLeDiff,reduceToNat,reduceLE,hQ,iA,n9,qR,gM,gV,ny,fo,je,bY,dO,reduceEq]
 refine aN _ (Weak.refl _ _) ?_
 by_cases k2:kd=2
 · subst k2
   have hp:bK bq ⟨2,m,nm,s,n,c⟩=(decide ((⟨2,m,nm,s,n,c⟩:dY)=⟨2,m,nm,[],n,aM⟩) && (decide (0≤m) && (decide (n=0) || decide (n=1)))):=afm bq ⟨2,m,nm,s,n,c⟩ rfl
   cases hb:decide ((⟨2,m,nm,s,n,c⟩:dY)=⟨2,m,nm,[],n,aM⟩) with
   | false=>
    rw [hb,Bool.false_and] at hp
    simp(maxSteps:=400000)only[↓av,ax,BEq.rfl,reduceIte,reduceCtorEq,Nat.reduceLT,reduceAdd,reduceSub,reduceMul,Nat.reduceBEq,reduceLeDiff,reduceToNat,reduceLE,hQ,iy,hb,hp,qR,gM,gV,ny,fo,je,bY,dO,reduceEq]
    repeat' (first | (omega) | exact hs | exact hc | intro _ | refine ⟨?_,?_⟩)
   | true=>
    rw [hb,Bool.true_and] at hp
    simp(maxSteps:=400000)only[↓av,ax,BEq.rfl,reduceIte,reduceCtorEq,Nat.reduceLT,reduceAdd,reduceSub,reduceMul,Nat.reduceBEq,reduceLeDiff,reduceToNat,reduceLE,hQ,iy,hb,hp,qR,gM,gV,ny,fo,je,bY,dO,reduceEq]
    repeat' (first | (omega) | exact hs | exact hc | ((simp [*];done)) | intro _ | refine ⟨?_,?_⟩)
 have n2:=eq_false k2
 simp(maxSteps:=400000)only[↓av,ax,BEq.rfl,reduceIte,reduceCtorEq,Nat.reduceLT,reduceAdd,reduceSub,reduceMul,Nat.reduceBEq,reduceLeDiff,reduceToNat,reduceLE,hQ,iy,n2,qR,gM,gV,ny,fo,je,bY,dO,reduceEq]
 refine aN _ (Weak.refl _ _) ?_
 by_cases k4:kd=4
 · subst k4
   have hp:bK bq ⟨4,m,nm,s,n,c⟩=(decide ((⟨4,m,nm,s,n,c⟩:dY)=⟨4,m,nm,[],0,aM⟩) && decide (0≤m)):=afn bq ⟨4,m,nm,s,n,c⟩ rfl
   cases hb:decide ((⟨4,m,nm,s,n,c⟩:dY)=⟨4,m,nm,[],0,aM⟩) with
   | false=>
    rw [hb,Bool.false_and] at hp
    simp(maxSteps:=400000)only[↓av,ax,BEq.rfl,reduceIte,reduceCtorEq,Nat.reduceLT,reduceAdd,reduceSub,reduceMul,Nat.reduceBEq,reduceLeDiff,reduceToNat,reduceLE,hQ,iq,hb,hp,qR,gM,gV,ny,fo,je,bY,dO,reduceEq]
    repeat' (first | (omega) | exact hs | exact hc | intro _ | refine ⟨?_,?_⟩)
   | true=>
    rw [hb,Bool.true_and] at hp
    simp(maxSteps:=400000)only[↓av,ax,BEq.rfl,reduceIte,reduceCtorEq,Nat.reduceLT,reduceAdd,reduceSub,reduceMul,Nat.reduceBEq,reduceLeDiff,reduceToNat,reduceLE,hQ,iq,hb,hp,qR,gM,gV,ny,fo,je,bY,dO,reduceEq]
    repeat' (first | (omega) | exact hs | exact hc | ((simp [*];done)) | intro _ | refine ⟨?_,?_⟩)
 have n4:=eq_false k4
 simp(maxSteps:=400000)only[↓av,ax,BEq.rfl,reduceIte,reduceCtorEq,Nat.reduceLT,reduceAdd,reduceSub,reduceMul,Nat.reduceBEq,reduceLeDiff,reduceToNat,reduceLE,hQ,iq,n4,qR,gM,gV,ny,fo,je,bY,dO,reduceEq]
 refine aN _ (Weak.refl _ _) ?_
 by_cases k3:kd=3
 · subst k3
   have hp:bK bq ⟨3,m,nm,s,n,c⟩=(decide ((⟨3,m,nm,s,n,c⟩:dY)=⟨3,m,nm,[],0,aM⟩) && decide (m=1)):=ac5 bq ⟨3,m,nm,s,n,c⟩ (.inl rfl)
   cases hb:decide ((⟨3,m,nm,s,n,c⟩:dY)=⟨3,m,nm,[],0,aM⟩) with
   | false=>
    rw [hb,Bool.false_and] at hp
    simp(maxSteps:=400000)only[↓av,ax,BEq.rfl,reduceIte,reduceCtorEq,Nat.reduceLT,reduceAdd,reduceSub,reduceMul,Nat.reduceBEq,reduceLeDiff,reduceToNat,reduceLE,hQ,cB,cu,hb,hp,qR,gM,gV,ny,fo,je,bY,dO,reduceEq]
    repeat' (first | (omega) | exact hs | exact hc | intro _ | refine ⟨?_,?_⟩)
   | true=>
    rw [hb,Bool.true_and] at hp
    simp(maxSteps:=400000)only[↓av,ax,BEq.rfl,reduceIte,reduceCtorEq,Nat.reduceLT,reduceAdd,reduceSub,reduceMul,Nat.reduceBEq,reduceLeDiff,reduceToNat,reduceLE,hQ,cB,cu,hb,hp,qR,gM,gV,ny,fo,je,bY,dO,reduceEq]
    repeat' (first | (omega) | exact hs | exact hc | ((simp [*];done)) | intro _ | refine ⟨?_,?_⟩)
 have n3:=eq_false k3
 by_cases k5:kd=5
 · subst k5
   have hp:bK bq ⟨5,m,nm,s,n,c⟩=(decide ((⟨5,m,nm,s,n,c⟩:dY)=⟨5,m,nm,[],0,aM⟩) && decide (m=1)):=ac5 bq ⟨5,m,nm,s,n,c⟩ (.inr (.inl rfl))
   cases hb:decide ((⟨5,m,nm,s,n,c⟩:dY)=⟨5,m,nm,[],0,aM⟩) with
   | false=>
    rw [hb,Bool.false_and] at hp
    simp(maxSteps:=400000)only[↓av,ax,BEq.rfl,reduceIte,reduceCtorEq,Nat.reduceLT,reduceAdd,reduceSub,reduceMul,Nat.reduceBEq,reduceLeDiff,reduceToNat,reduceLE,hQ,cB,cu,hb,hp,qR,gM,gV,ny,fo,je,bY,dO,reduceEq]
    repeat' (first | (omega) | exact hs | exact hc | intro _ | refine ⟨?_,?_⟩)
   | true=>
    rw [hb,Bool.true_and] at hp
    simp(maxSteps:=400000)only[↓av,ax,BEq.rfl,reduceIte,reduceCtorEq,Nat.reduceLT,reduceAdd,reduceSub,reduceMul,Nat.reduceBEq,reduceLeDiff,reduceToNat,reduceLE,hQ,cB,cu,hb,hp,qR,gM,gV,ny,fo,je,bY,dO,reduceEq]
    repeat' (first | (omega) | exact hs | exact hc | ((simp [*];done)) | intro _ | refine ⟨?_,?_⟩)
 have n5:=eq_false k5
 by_cases k6:kd=6
 · subst k6
   have hp:bK bq ⟨6,m,nm,s,n,c⟩=(decide ((⟨6,m,nm,s,n,c⟩:dY)=⟨6,m,nm,[],0,aM⟩) && decide (m=1)):=ac5 bq ⟨6,m,nm,s,n,c⟩ (.inr (.inr rfl))
   cases hb:decide ((⟨6,m,nm,s,n,c⟩:dY)=⟨6,m,nm,[],0,aM⟩) with
   | false=>
    rw [hb,Bool.false_and] at hp
    simp(maxSteps:=400000)only[↓av,ax,BEq.rfl,reduceIte,reduceCtorEq,Nat.reduceLT,reduceAdd,reduceSub,reduceMul,Nat.reduceBEq,reduceLeDiff,reduceToNat,reduceLE,hQ,cB,cu,hb,hp,qR,gM,gV,ny,fo,je,bY,dO,reduceEq]
    repeat' (first | (omega) | exact hs | exact hc | intro _ | refine ⟨?_,?_⟩)
   | true=>
    rw [hb,Bool.true_and] at hp
    simp(maxSteps:=400000)only[↓av,ax,BEq.rfl,reduceIte,reduceCtorEq,Nat.reduceLT,reduceAdd,reduceSub,reduceMul,Nat.reduceBEq,reduceLeDiff,reduceToNat,reduceLE,hQ,cB,cu,hb,hp,qR,gM,gV,ny,fo,je,bY,dO,reduceEq]
    repeat' (first | (omega) | exact hs | exact hc | ((simp [*];done)) | intro _ | refine ⟨?_,?_⟩)
 have n6:=eq_false k6
 simp(maxSteps:=400000)only[↓av,ax,BEq.rfl,reduceIte,reduceCtorEq,Nat.reduceLT,reduceAdd,reduceSub,reduceMul,Nat.reduceBEq,reduceLeDiff,reduceToNat,reduceLE,hQ,cB,cu,n3,n5,n6,qR,gM,gV,ny,fo,je,bY,dO,reduceEq]
 refine aN _ (Weak.refl _ _) ?_
 by_cases k7:kd=7
 · subst k7
   have hp:bK bq ⟨7,m,nm,s,n,c⟩=(decide ((⟨7,m,nm,s,n,c⟩:dY)=⟨7,m,nm,s,0,aM⟩) && (decide (m=1) && bq s)):=aes bq ⟨7,m,nm,s,n,c⟩ (.inl rfl)
   cases hb:decide ((⟨7,m,nm,s,n,c⟩:dY)=⟨7,m,nm,s,0,aM⟩) with
   | false=>
    rw [hb,Bool.false_and] at hp
    simp(maxSteps:=400000)only[↓av,ax,BEq.rfl,reduceIte,reduceCtorEq,Nat.reduceLT,reduceAdd,reduceSub,reduceMul,Nat.reduceBEq,reduceLeDiff,reduceToNat,reduceLE,hQ,dW,dV,hb,hp,↓gy,ic,qR,gM,gV,ny,fo,je,bY,dO,reduceEq]
    repeat' (first | (omega) | exact hs | exact hc | intro _ | refine ⟨?_,?_⟩)
   | true=>
    rw [hb,Bool.true_and] at hp
    simp(maxSteps:=400000)only[↓av,ax,BEq.rfl,reduceIte,reduceCtorEq,Nat.reduceLT,reduceAdd,reduceSub,reduceMul,Nat.reduceBEq,reduceLeDiff,reduceToNat,reduceLE,hQ,dW,dV,hb,hp,↓gy,ic,qR,gM,gV,ny,fo,je,bY,dO,reduceEq]
    repeat' (first | (omega) | exact hs | exact hc | ((simp [*];done)) | intro _ | refine ⟨?_,?_⟩)
 have n7:=eq_false k7
 by_cases k8:kd=8
 · subst k8
   have hp:bK bq ⟨8,m,nm,s,n,c⟩=(decide ((⟨8,m,nm,s,n,c⟩:dY)=⟨8,m,nm,s,0,aM⟩) && (decide (m=1) && bq s)):=aes bq ⟨8,m,nm,s,n,c⟩ (.inr rfl)
   cases hb:decide ((⟨8,m,nm,s,n,c⟩:dY)=⟨8,m,nm,s,0,aM⟩) with
   | false=>
    rw [hb,Bool.false_and] at hp
    simp(maxSteps:=400000)only[↓av,ax,BEq.rfl,reduceIte,reduceCtorEq,Nat.reduceLT,reduceAdd,reduceSub,reduceMul,Nat.reduceBEq,reduceLeDiff,reduceToNat,reduceLE,hQ,dW,dV,hb,hp,↓gy,ic,qR,gM,gV,ny,fo,je,bY,dO,reduceEq]
    repeat' (first | (omega) | exact hs | exact hc | intro _ | refine ⟨?_,?_⟩)
   | true=>
    rw [hb,Bool.true_and] at hp
    simp(maxSteps:=400000)only[↓av,ax,BEq.rfl,reduceIte,reduceCtorEq,Nat.reduceLT,reduceAdd,reduceSub,reduceMul,Nat.reduceBEq,reduceLeDiff,reduceToNat,reduceLE,hQ,dW,dV,hb,hp,↓gy,ic,qR,gM,gV,ny,fo,je,bY,dO,reduceEq]
    repeat' (first | (omega) | exact hs | exact hc | ((simp [*];done)) | intro _ | refine ⟨?_,?_⟩)
 have n8:=eq_false k8
 simp(maxSteps:=400000)only[↓av,ax,BEq.rfl,reduceIte,reduceCtorEq,Nat.reduceLT,reduceAdd,reduceSub,reduceMul,Nat.reduceBEq,reduceLeDiff,reduceToNat,reduceLE,hQ,dW,dV,n7,n8,qR,gM,gV,ny,fo,je,bY,dO,reduceEq]
 have hp:bK bq ⟨kd,m,nm,s,n,c⟩=false:=by simp [bK,k0,k1,k9,k2,k4,k3,k5,k6,k7,k8]
 simp(maxSteps:=400000)only[↓av,ax,BEq.rfl,reduceIte,reduceCtorEq,Nat.reduceLT,reduceAdd,reduceSub,reduceMul,Nat.reduceBEq,reduceLeDiff,reduceToNat,reduceLE,hQ,nG,hp]
def gK:dF:=fun args objs K=>match args with
 | [a0]=>fB aL a0 (HK.mk:HK fun t=>(t.s.length≤1000000000)∧(pO t.c)∧K (.bool (bK bq t)) objs 0)
 | _=>False
theorem Jy:aB Tryz.prog 32 (gK):=by
 intro args objs K h
 unfold gK at h
 split at h
 · rename_i a0
   obtain ⟨t,rfl,h1,h2,hk⟩:=h
   exact ⟨_,_,_,.pure _ rfl (MP t h1 h2),hk⟩
 · exact h.elim
end Lp
namespace Lp
open Go Go.Proofs
open Nat (reduceAdd reduceLeDiff reduceMul reduceSub)
open Int (reduceEq reduceLE reduceToNat toNat_natCast)
structure qF (t:aC):Prop where
 len:t.length≤1000000
 txt:∀ n ∈ t,n.s.length≤1000000000∧n.name.length≤1000000000∧pO n.c
theorem aa2 (d n:Nat) (O:List Obj) (t:TypeId) (sz:Nat) (l:aC) (ver:Nat):fE d n O ⟨t,sz,l.map aL,true,ver⟩=⟨t,sz,l.map aL,true,ver⟩:=by
 have:(l.map aL).map (PV.bJ (eY d n O))=l.map aL:=by
  rw [List.map_map]
  exact List.map_congr_left fun x _=>rfl
 simp only [fE,this]
theorem Tk (x:dY) (prev:Option (List UInt8)) (p:aC) (ps:List aC):mX x prev (p::ps)=(yH x p && (x.kind !=2 || (match prev with | none=>true | some a=>Op.bytesLess a (Y.nameOf p))) && mX x (some (Y.nameOf p)) ps):=by cases prev <;> rfl
theorem MQ (t:aC) (at':Nat) (n:dY) (hs:qF t) (ho:Y.One t) (hat:t[at']?=some n) :
  ai Tryz.prog 33 [aA t,.int .i64 at'] [] (.bool (Am t at')) []:=by
 obtain ⟨hl,htx⟩:=hs
 have aaU:=(List.getElem?_eq_some_iff.1 hat).1
 obtain ⟨ps,c,hm,hmL,hps,hsk,hfl,hone,_,_⟩:=Y.r9 ho hat
 have hpl:=Y.bS _ _ _ hps
 have hres:Am t at'=mX n none ps:=by
  rw [WU]
  have hd:=List.drop_eq_getElem_cons aaU
  rw [List.getElem?_eq_getElem aaU] at hat
  cases hat
  simp only [Am,hd,hps]
 rw [hres]
 refine Ai.bg (T:=aR Tryz.prog [(25,gT),(31,iI)]) 0 hD (aj (af Dy (af vo ah))) a_ (by decide) fun Q hQ=>?_
 (conv=>arg 4;cbv);simp(maxSteps:=400000)only[↓av,ax,BEq.rfl,reduceIte,reduceCtorEq,Nat.reduceLT,reduceAdd,reduceSub,reduceMul,Nat.reduceBEq,reduceLeDiff,reduceToNat,reduceLE,hQ]
 refine ⟨⟨by omega,by omega⟩,?_⟩
 refine aH (fun m S=>∃ (i:Nat) (rest:List aC) (prev:Option (List UInt8)) (last:List UInt8),m=rest.length∧rest.length≤ps.length∧Y.parts rest.length (t.drop i)=some rest∧i≤t.length∧mX n prev rest=mX n none ps∧
  ((prev=none∧rest.length=ps.length)∨(prev=some last∧rest.length<ps.length))∧
  S=⟨dI 74 [(0,aA t),(1,.int .i64 at'),(5,.int .i64 i),(6,.str last),(7,.int .i64 ((ps.length:Int)-rest.length))],[]⟩) ps.length (hz:=Nat.zero_le _) ⟨at'+1,ps,none,[],rfl,Nat.le_refl _,by rw [hpl];exact hps,by omega,rfl,.inl ⟨rfl,rfl⟩,?_⟩ ?_
 · simp only [bW,keepR,reduceAdd,nu,Nat.reduceBEq,List.map_nil]
   simp only [Int.sub_self]
   rfl
 rintro m S ⟨i,rest,prev,last,rfl,hrl,hrp,hit,hrb,ab8,rfl⟩
 have hmn:n.many=(ps.length:Int):=by omega
 have z0:(0≤(at':Int))=True:=eq_true (by omega)
 have zi:(0≤(i:Int))=True:=eq_true (by omega)
 cases rest with
 | nil=>
  have hlt:((ps.length:Int)-((0:Nat):Int)<(ps.length:Int))=False:=eq_false (by omega)
  have hr:mX n none ps=true:=by rw [← hrb];rfl
  simp(maxSteps:=400000)only[↓av,ax,BEq.rfl,reduceIte,reduceCtorEq,Nat.reduceLT,reduceAdd,reduceSub,reduceMul,Nat.reduceBEq,reduceLeDiff,reduceToNat,reduceLE,hQ,hat,hmn,z0,List.length_nil,hlt,hr]
 | cons p qs=>
  obtain ⟨pc,qs',h1,h2,h3⟩:=Y.eH (k:=qs.length) hrp
  simp only [List.cons.injEq] at h2
  obtain ⟨hp,rfl⟩:=h2
  have hpc:=Y.dZ _ _ _ h1
  simp only [List.length_drop] at hpc
  have hil:i<t.length:=by omega
  have hgi:=List.getElem?_eq_getElem hil
  have hdi:=List.drop_eq_getElem_cons hil
  have Jd:=htx _ (List.getElem_mem hil)
  generalize t[i]=pn at hgi hdi Jd
  obtain ⟨q,hq⟩:∃ q,pc=q+1:=⟨pc-1,by omega⟩
  have hname:Y.nameOf p=pn.name:=by rw [hp,hdi,hq];rfl
  have hkind:Y.kindOf p=pn.kind:=by rw [hp,hdi,hq];rfl
  have hnx:tV t i=(i+pc:Nat):=H_ (Y.qz _ _ _ _ h1 (by omega))
  simp only [List.length_cons] at hrl ab8
  have h3':Y.parts qs.length (t.drop (i+pc))=some qs:=by rw [← List.drop_drop];exact h3
  have rY:((ps.length:Int)-((qs.length+1:Nat):Int)<(ps.length:Int))=True:=eq_true (by omega)
  have hlt1:(-9223372036854775808≤(ps.length:Int)-((qs.length+1:Nat):Int)+1∧(ps.length:Int)-((qs.length+1:Nat):Int)+1≤9223372036854775807)=True:=eq_true ⟨by omega,by omega⟩
  have e:(ps.length:Int)-((qs.length+1:Nat):Int)+1=(ps.length:Int)-qs.length:=by omega
  rw [Tk,yH,hname,hkind] at hrb
  have step:mX n (some pn.name) qs=mX n none ps→∃ m',m'<qs.length+1∧∃ (FI:Nat) (rest:List aC) (prev:Option (List UInt8)) (last:List UInt8),m'=rest.length∧rest.length≤ps.length∧Y.parts rest.length (t.drop FI)=some rest∧FI≤t.length∧mX n prev rest=mX n none ps∧
      ((prev=none∧rest.length=ps.length)∨(prev=some last∧rest.length<ps.length))∧
      (⟨dI 74 [(0,aA t),(1,.int .i64 at'),(5,.int .i64 (i+pc:Nat)),(6,.str pn.name),(7,.int .i64 ((ps.length:Int)-((qs.length+1:Nat):Int)+1))],[]⟩:St)=⟨dI 74 [(0,aA t),(1,.int .i64 at'),(5,.int .i64 FI),(6,.str last),(7,.int .i64 ((ps.length:Int)-rest.length))],[]⟩:=fun hx=>
   ⟨qs.length,by omega,i+pc,qs,some pn.name,pn.name,rfl,by omega,h3',by omega,hx,.inr ⟨rfl,by omega⟩,by rw [e]⟩
  by_cases hb:(pn.kind=9)=(n.kind=1)
  rotate_left 1
  ·
   have hr:mX n none ps=false:=by
    rw [← hrb]
    have:(pn.kind==9)≠(n.kind==1):=fun h=>hb (by rw [Bool.eq_iff_iff,beq_iff_eq,beq_iff_eq] at h;exact propext h)
    simp [this]
   by_cases k9:pn.kind=9
   · have k1:(n.kind=1)=False:=eq_false fun k1=>hb (by simp [k9,k1])
     have k9':=eq_true k9
     simp(maxSteps:=400000)only[↓av,ax,BEq.rfl,reduceIte,reduceCtorEq,Nat.reduceLT,reduceAdd,reduceSub,reduceMul,Nat.reduceBEq,reduceLeDiff,reduceToNat,reduceLE,hQ,hat,hmn,z0,zi,hgi,rY,k9,k1,hr,qR,gM,gV,r_,bY,dO,reduceEq]
   · have k1:n.kind=1:=Decidable.of_not_not fun k1=>hb (by simp [k9,k1])
     have k9':=eq_false k9
     simp(maxSteps:=400000)only[↓av,ax,BEq.rfl,reduceIte,reduceCtorEq,Nat.reduceLT,reduceAdd,reduceSub,reduceMul,Nat.reduceBEq,reduceLeDiff,reduceToNat,reduceLE,hQ,hat,hmn,z0,zi,hgi,rY,k9',k1,hr,qR,gM,gV,r_,bY,dO,reduceEq]
  have hbb:(pn.kind==9)=(n.kind==1):=by
   rw [Bool.eq_iff_iff];simpa using hb
  rw [hbb] at hrb
  by_cases k2:n.kind=2
  · have k9:(pn.kind=9)=False:=by rw [hb,k2];simp
    have hk1:¬ n.kind=1:=by omega
    simp only [k2,BEq.rfl,bne_self_eq_false,Bool.true_or,Bool.false_or,Bool.true_and] at hrb
    cases hu:utf pn.name with
    | false=>
     have hr:mX n none ps=false:=by rw [← hrb,hu];simp
     simp(maxSteps:=400000)only[↓av,ax,BEq.rfl,reduceIte,reduceCtorEq,Nat.reduceLT,reduceAdd,reduceSub,reduceMul,Nat.reduceBEq,reduceLeDiff,reduceToNat,reduceLE,hQ,hat,hmn,z0,zi,hgi,rY,k9,k2,hu,↓gT,hr,qR,gM,gV,r_,bY,dO,reduceEq]
     repeat' (first | (omega) | intro _ | refine ⟨?_,?_⟩)
    | true=>
     rw [hu] at hrb
     rcases ab8 with ⟨rfl,hq0⟩ | ⟨rfl,hq0⟩
     · have kz:((0:Int)<(ps.length:Int)-((qs.length+1:Nat):Int))=False:=eq_false (by omega)
       have hst:=step (by simpa using hrb)
       simp(maxSteps:=400000)only[↓av,ax,BEq.rfl,reduceIte,reduceCtorEq,Nat.reduceLT,reduceAdd,reduceSub,reduceMul,Nat.reduceBEq,reduceLeDiff,reduceToNat,reduceLE,hQ,hat,hmn,z0,zi,hgi,rY,hlt1,k9,k2,hu,↓gT,kz,↓iI,hnx,toNat_natCast,qR,gM,gV,r_,bY,dO,reduceEq]
       repeat' (first | exact hst | (omega) | intro _ | refine ⟨?_,?_⟩)
     · have kz:((0:Int)<(ps.length:Int)-((qs.length+1:Nat):Int))=True:=eq_true (by omega)
       simp only [Bool.true_and] at hrb
       cases hbl:Op.bytesLess last pn.name with
       | true=>
        have hne:(pn.name=last)=False:=eq_false fun h=>by rw [h,eu] at hbl;cases hbl
        have Zy:=mg _ _ hbl
        have hst:=step (by rw [← hrb,hbl];simp)
        simp(maxSteps:=400000)only[↓av,ax,BEq.rfl,reduceIte,reduceCtorEq,Nat.reduceLT,reduceAdd,reduceSub,reduceMul,Nat.reduceBEq,reduceLeDiff,reduceToNat,reduceLE,hQ,hat,hmn,z0,zi,hgi,rY,hlt1,k9,k2,hu,↓gT,kz,hne,Zy,↓iI,hnx,toNat_natCast,qR,gM,gV,r_,bY,dO,reduceEq]
        repeat' (first | exact hst | (omega) | intro _ | refine ⟨?_,?_⟩)
       | false=>
        have hr:mX n none ps=false:=by rw [← hrb,hbl];simp
        by_cases he:pn.name=last
        · have he':=eq_true he
          have Zy:Op.bytesLess pn.name last=false:=by rw [he,eu]
          simp(maxSteps:=400000)only[↓av,ax,BEq.rfl,reduceIte,reduceCtorEq,Nat.reduceLT,reduceAdd,reduceSub,reduceMul,Nat.reduceBEq,reduceLeDiff,reduceToNat,reduceLE,hQ,hat,hmn,z0,zi,hgi,rY,k9,k2,hu,↓gT,kz,he',Zy,hr,qR,gM,gV,r_,bY,dO,reduceEq]
          repeat' (first | (omega) | intro _ | refine ⟨?_,?_⟩)
        · have he':=eq_false he
          have Zy:Op.bytesLess pn.name last=true:=by
           rcases CQ pn.name last with g | g | g
           · exact g
           · exact absurd g he
           · rw [g] at hbl;cases hbl
          simp(maxSteps:=400000)only[↓av,ax,BEq.rfl,reduceIte,reduceCtorEq,Nat.reduceLT,reduceAdd,reduceSub,reduceMul,Nat.reduceBEq,reduceLeDiff,reduceToNat,reduceLE,hQ,hat,hmn,z0,zi,hgi,rY,k9,k2,hu,↓gT,kz,he',Zy,hr,qR,gM,gV,r_,bY,dO,reduceEq]
          repeat' (first | (omega) | intro _ | refine ⟨?_,?_⟩)
  · have k2':=eq_false k2
    have k2b:(n.kind==2)=false:=by simpa using k2
    have k2n:(n.kind !=2)=true:=by simpa using k2
    simp only [BEq.rfl,k2b,k2n,Bool.true_and,Bool.false_or,Bool.true_or,Bool.and_true] at hrb
    by_cases hnm:pn.name=[]
    · have hnm':=eq_true hnm
      have hst:=step (by rw [← hrb,hnm];simp)
      by_cases k1:n.kind=1
      · have k9:(pn.kind=9)=True:=by rw [hb];exact eq_true k1
        have k1':=eq_true k1
        simp(maxSteps:=400000)only[↓av,ax,BEq.rfl,reduceIte,reduceCtorEq,Nat.reduceLT,reduceAdd,reduceSub,reduceMul,Nat.reduceBEq,reduceLeDiff,reduceToNat,reduceLE,hQ,hat,hmn,z0,zi,hgi,rY,hlt1,k9,k1,hnm',↓iI,hnx,toNat_natCast,qR,gM,gV,r_,bY,dO,reduceEq]
        repeat' (first | exact hst | (omega) | intro _ | refine ⟨?_,?_⟩)
      · have k1':=eq_false k1
        have k9:(pn.kind=9)=False:=by rw [hb];exact k1'
        simp(maxSteps:=400000)only[↓av,ax,BEq.rfl,reduceIte,reduceCtorEq,Nat.reduceLT,reduceAdd,reduceSub,reduceMul,Nat.reduceBEq,reduceLeDiff,reduceToNat,reduceLE,hQ,hat,hmn,z0,zi,hgi,rY,hlt1,k9,k1',k2',hnm',↓iI,hnx,toNat_natCast,qR,gM,gV,r_,bY,dO,reduceEq]
        repeat' (first | exact hst | (omega) | intro _ | refine ⟨?_,?_⟩)
    · have hnm':=eq_false hnm
      have hr:mX n none ps=false:=by rw [← hrb];simp [hnm]
      by_cases k1:n.kind=1
      · have k9:(pn.kind=9)=True:=by rw [hb];exact eq_true k1
        simp(maxSteps:=400000)only[↓av,ax,BEq.rfl,reduceIte,reduceCtorEq,Nat.reduceLT,reduceAdd,reduceSub,reduceMul,Nat.reduceBEq,reduceLeDiff,reduceToNat,reduceLE,hQ,hat,hmn,z0,zi,hgi,rY,k9,k1,hnm',hr,qR,gM,gV,r_,bY,dO,reduceEq]
      · have k1':=eq_false k1
        have k9:(pn.kind=9)=False:=by rw [hb];exact k1'
        simp(maxSteps:=400000)only[↓av,ax,BEq.rfl,reduceIte,reduceCtorEq,Nat.reduceLT,reduceAdd,reduceSub,reduceMul,Nat.reduceBEq,reduceLeDiff,reduceToNat,reduceLE,hQ,hat,hmn,z0,zi,hgi,rY,k9,k1',k2',hnm',hr,qR,gM,gV,r_,bY,dO,reduceEq]
def iJ:dF:=fun args objs K=>match args with
 | [a0,.int .i64 i]=>fB aA a0 (HK.mk:HK fun t=>(0≤i)∧(i.toNat<t.length)∧(qF t)∧(Y.One t)∧K (.bool (Am t i.toNat)) objs 0)
 | _=>False
theorem MR:aB Tryz.prog 33 (iJ):=by
 intro args objs K h
 unfold iJ at h
 split at h
 · rename_i a0 i
   obtain ⟨t,rfl,h1,h2,h3,h4,hk⟩:=h
   exact ⟨_,_,_,.pure _ rfl ((by have:=MQ t i.toNat _ h3 h4 (List.getElem?_eq_getElem h2);rwa [Int.toNat_of_nonneg h1] at this)),hk⟩
 · exact h.elim
theorem Tm (nm:List UInt8) (o:Nat) (q:aC) (qs:List aC):lU nm o (q::qs)=if Y.nameOf q=nm then some (o,q) else lU nm (o+q.length) qs:=rfl
theorem EA (t:aC) (hs:qF t) (ho:Y.One t):∀ (p:List Stp) (at':Nat),at'<t.length→p.length≤1000000→ai Tryz.prog 35 [aA t,.int .i64 at',gL p] [] (.int .i64 (jP t at' p)) []
 | [],at',hat,hp=>by
  refine rF.bg (T:=aR Tryz.prog []) 0 hD (aj ah) a_ (by decide) fun Q hQ=>?_
  have hr:jP t at' []=at':=by simp [jP,jA]
  have c00:((0:Nat):Int)=0:=rfl
  (conv=>arg 4;cbv);simp(maxSteps:=400000)only[↓av,ax,BEq.rfl,reduceIte,reduceCtorEq,Nat.reduceLT,reduceAdd,reduceSub,reduceMul,Nat.reduceBEq,reduceLeDiff,reduceToNat,reduceLE,hQ,hr,c00]
 | s::p,at',hat,hp=>by
  have hok:aB Tryz.prog 35 (fun args objs K=>∃ i:Int,args=[aA t,.int .i64 i,gL p]∧0≤i∧i<t.length∧K (.int .i64 (jP t i.toNat p)) objs 0):=by
   rintro args objs K ⟨i,rfl,h1,h2,hk⟩
   have:=EA t hs ho p i.toNat (by omega) (by simp only [List.length_cons] at hp;omega)
   rw [Int.toNat_of_nonneg h1] at this
   exact ⟨_,_,_,.pure _ rfl this,hk⟩
  refine rF.bg (T:=aR Tryz.prog [(31,iI),(35,_)]) 0 hD (aj (af vo (af hok ah))) a_ (by decide) fun Q hQ=>?_
  have hl:=hs.len
  have hgt:=List.getElem?_eq_getElem hat
  generalize t[at']=n at hgt
  obtain ⟨ps,c,hm,hmL,hps,hsk,hfl,hone,hsub,hle⟩:=Y.r9 ho hgt
  have hpl:=Y.bS _ _ _ hps
  have hpo:Y.partsOf n ps.flatten=ps:=by
   have:=Y.iV ps hone
   rw [hpl] at this
   simp [Y.partsOf,this]
  have z0:(0≤(at':Int))=True:=eq_true (by omega)
  have hg0:(s::p)[0]?=some s:=rfl
  have hdr:(s::p).drop 1=p:=rfl
  have hpn:(((s::p).length:Int)=0)=False:=eq_false (by simp only [List.length_cons];omega)
  have hwl:1≤(s::p).length:=by simp
  generalize hsp:s::p=w at *
  by_cases hk:n.kind=2∧s.part=false
  rotate_left 1
  · have hr:jP t at' w=-1:=by
     simp only [jP,hsub,← hsp,jA];rw [if_neg hk]
    by_cases k2:n.kind=2
    · have hpt:s.part=true:=by
       cases h:s.part with
       | true=>rfl
       | false=>exact absurd ⟨k2,h⟩ hk
      (conv=>arg 4;cbv);simp(maxSteps:=400000)only[↓av,ax,BEq.rfl,reduceIte,reduceCtorEq,Nat.reduceLT,reduceAdd,reduceSub,reduceMul,Nat.reduceBEq,reduceLeDiff,reduceToNat,reduceLE,hQ,hpn,hgt,z0,k2,hg0,hpt,hr,reduceEq]
    · have k2':=eq_false k2
      (conv=>arg 4;cbv);simp(maxSteps:=400000)only[↓av,ax,BEq.rfl,reduceIte,reduceCtorEq,Nat.reduceLT,reduceAdd,reduceSub,reduceMul,Nat.reduceBEq,reduceLeDiff,reduceToNat,reduceLE,hQ,hpn,hgt,z0,k2',hr]
  obtain ⟨k2,hpt⟩:=hk
  have hr:jP t at' w=match lU s.name 1 ps with | some (o,q)=>(match (jA p q).map (o+·) with | some j=>((at'+j:Nat):Int) | none=>-1) | none=>-1:=by
   simp only [jP,hsub,← hsp,jA]
   rw [if_pos ⟨k2,hpt⟩,hpo]
   cases lU s.name 1 ps with
   | none=>rfl
   | some oq=>rfl
  (conv=>arg 4;cbv);simp(maxSteps:=400000)only[↓av,ax,BEq.rfl,reduceIte,reduceCtorEq,Nat.reduceLT,reduceAdd,reduceSub,reduceMul,Nat.reduceBEq,reduceLeDiff,reduceToNat,reduceLE,hQ,hpn,hgt,z0,k2,hg0,hpt,reduceEq]
  refine ⟨⟨by omega,by omega⟩,?_⟩
  refine aH (fun m S=>∃ (i:Nat) (rest:List aC),m=rest.length∧rest.length≤ps.length∧at'+1≤i∧Y.parts rest.length (t.drop i)=some rest∧i≤t.length∧lU s.name (i-at') rest=lU s.name 1 ps∧
   S=⟨dI 54 [(0,aA t),(1,.int .i64 at'),(2,gL w),(7,.int .i64 i),(8,.int .i64 ((ps.length:Int)-rest.length))],[]⟩) ps.length ⟨at'+1,ps,rfl,Nat.le_refl _,Nat.le_refl _,by rw [hpl];exact hps,by omega,by rw [show at'+1-at'=1 by omega],?_⟩ ?_
  · simp only [bW,keepR,reduceAdd,nu,Nat.reduceBEq,List.map_nil]
    simp
  rintro m S ⟨i,rest,rfl,hrl,hia,hrp,hit,hrb,rfl⟩
  have hmn:n.many=(ps.length:Int):=by omega
  have zi:(0≤(i:Int))=True:=eq_true (by omega)
  cases rest with
  | nil=>
   have hlt:((ps.length:Int)-((0:Nat):Int)<(ps.length:Int))=False:=eq_false (by omega)
   have hr':jP t at' w=-1:=by rw [hr,← hrb];rfl
   simp(maxSteps:=400000)only[↓av,ax,BEq.rfl,reduceIte,reduceCtorEq,Nat.reduceLT,reduceAdd,reduceSub,reduceMul,Nat.reduceBEq,reduceLeDiff,reduceToNat,reduceLE,hQ,hgt,hmn,z0,List.length_nil,hlt,hr']
  | cons q qs=>
   obtain ⟨pc,qs',h1,h2,h3⟩:=Y.eH (k:=qs.length) hrp
   simp only [List.cons.injEq] at h2
   obtain ⟨hp',rfl⟩:=h2
   have hpc:=Y.dZ _ _ _ h1
   simp only [List.length_drop] at hpc
   have hil:i<t.length:=by omega
   have hgi:=List.getElem?_eq_getElem hil
   have hdi:=List.drop_eq_getElem_cons hil
   generalize t[i]=pn at hgi hdi
   obtain ⟨k,hk⟩:∃ k,pc=k+1:=⟨pc-1,by omega⟩
   have hname:Y.nameOf q=pn.name:=by rw [hp',hdi,hk];rfl
   have hnx:tV t i=(i+pc:Nat):=H_ (Y.qz _ _ _ _ h1 (by omega))
   have hsq:Y.oZ t i=q:=by unfold Y.oZ;rw [h1];exact hp'.symm
   have XO:q.length=pc:=by rw [hp',List.length_take,List.length_drop];omega
   simp only [List.length_cons] at hrl
   have h3':Y.parts qs.length (t.drop (i+pc))=some qs:=by rw [← List.drop_drop];exact h3
   have rY:((ps.length:Int)-((qs.length+1:Nat):Int)<(ps.length:Int))=True:=eq_true (by omega)
   have hlt1:(-9223372036854775808≤(ps.length:Int)-((qs.length+1:Nat):Int)+1∧(ps.length:Int)-((qs.length+1:Nat):Int)+1≤9223372036854775807)=True:=eq_true ⟨by omega,by omega⟩
   have e:(ps.length:Int)-((qs.length+1:Nat):Int)+1=(ps.length:Int)-qs.length:=by omega
   rw [Tm,hname] at hrb
   by_cases hnm:pn.name=s.name
   · have hnm':=eq_true hnm
     rw [if_pos hnm] at hrb
     have hr':jP t at' w=jP t i p:=by
      rw [hr,← hrb]
      simp only [jP,hsq]
      cases jA p q with
      | none=>rfl
      | some j=>simp only [Option.map_some];omega
     simp(maxSteps:=400000)only[↓av,ax,BEq.rfl,reduceIte,reduceCtorEq,Nat.reduceLT,reduceAdd,reduceSub,reduceMul,Nat.reduceBEq,reduceLeDiff,reduceToNat,reduceLE,hQ,hgt,hmn,z0,zi,hgi,hg0,rY,hnm',hr',List.take_length,hdr,toNat_natCast]
     repeat' (first | (omega) | exact rfl | exact ⟨(i:Int),rfl,by omega,by omega,by rw [toNat_natCast]⟩ | intro _ | refine ⟨?_,?_⟩)
   · have hnm':=eq_false hnm
     rw [if_neg hnm] at hrb
     simp(maxSteps:=400000)only[↓av,ax,BEq.rfl,reduceIte,reduceCtorEq,Nat.reduceLT,reduceAdd,reduceSub,reduceMul,Nat.reduceBEq,reduceLeDiff,reduceToNat,reduceLE,hQ,hgt,hmn,z0,zi,hgi,hg0,rY,hlt1,hnm',↓iI,hnx,toNat_natCast]
     repeat' (first | (omega) | exact ⟨qs.length,by omega,i+pc,qs,rfl,by omega,by omega,h3',by omega,by rw [show i+pc-at'=i-at'+q.length by omega];exact hrb,by rw [e]⟩ | intro _ | refine ⟨?_,?_⟩)
def kP:dF:=fun args objs K=>match args with
 | [a0,.int .i64 i,a2]=>fB aA a0 (HK.mk:HK fun t=>fB gL a2 (HK.mk:HK fun p=>(0≤i)∧(i<t.length)∧(qF t)∧(Y.One t)∧(p.length≤1000000)∧K (.int .i64 (jP t i.toNat p)) objs 0))
 | _=>False
theorem MS:aB Tryz.prog 35 (kP):=by
 intro args objs K h
 unfold kP at h
 split at h
 · rename_i a0 i a2
   obtain ⟨t,rfl,p,rfl,h1,h2,h3,h4,h5,hk⟩:=h
   exact ⟨_,_,_,.pure _ rfl ((by have:=EA t h3 h4 p i.toNat (by omega) h5;rwa [Int.toNat_of_nonneg h1] at this)),hk⟩
 · exact h.elim
def oO (t:aC) (p:List Stp):PV:=.b_ [.int .i64 (match jc p t with | some i=>(i:Int) | none=>0),.bool (jc p t).isSome]
end Lp
namespace Lp
open Go Go.Proofs
open List (length_drop map_nil)
open Nat (reduceAdd reduceLeDiff reduceMul reduceSub)
open Int (reduceLE reduceToNat toNat_natCast)
theorem Tn {x:dY}(h:bK bq x=true) (hk:x.kind=7∨x.kind=8):x.many=1:=by
 rcases hk with k | k <;> simp only [bK,k,Int.reduceEq,if_false,if_true,or_false,or_true,false_or,true_or,Bool.and_eq_true,beq_iff_eq] at h <;> exact h.1.1.1
theorem WY {t:aC}{i:Nat}{x:dY}(ho:Y.One t) (hx:t[i]?=some x) (hm:(x.kind=7∨x.kind=8)→x.many=1) :
  (x.kind=7∨x.kind=8→i+1<t.length∧(kU t i=true↔0≤jP t (i+1) (d_ x.s)∧∃ y,t[(jP t (i+1) (d_ x.s)).toNat]?=some y∧y.kind=1))∧(¬ (x.kind=7∨x.kind=8)→kU t i=true):=by
 obtain ⟨ps,c,h1,h2,h3,h4,h5,h6,h7,h8⟩:=Y.r9 ho hx
 have hl:=(List.getElem?_eq_some_iff.1 hx).1
 have hd:=List.drop_eq_getElem_cons hl
 have he:kU t i=vN d_ x ps:=by
  rw [List.getElem?_eq_getElem hl] at hx
  cases hx
  simp only [kU,hd,h3]
 rw [he]
 constructor
 · intro hk
   rw [hm hk] at h3 h4
   obtain ⟨pc,qs,g1,g2,g3⟩:=Y.eH (k:=0) h3
   have hq:qs=[]:=by simpa [Y.parts] using g3.symm
   subst hq
   have hil:i+1<t.length:=by
    have:=Y.dZ _ _ _ g1
    rw [length_drop] at this;omega
   have hsub:Y.oZ t (i+1)=(t.drop (i+1)).take pc:=by unfold Y.oZ;rw [g1]
   refine ⟨hil,?_⟩
   rw [← Zu ho hil,hsub]
   simp only [vN,if_pos hk,g2]
 · intro hk
   simp only [vN,if_neg hk]
theorem MU (t:aC) (hs:qF t):ai Tryz.prog 14 [aA t] [] (.bool (fG t)) []:=by
 have hl:=hs.len
 refine Aj.bg (T:=aR Tryz.prog [(31,iI),(32,gK),(33,iJ),(34,gy),(35,kP)]) 0 hD (aj (af vo (af Jy (af MR (af BK (af MS ah)))))) a_ (by decide) fun Q hQ=>?_
 rcases Nat.eq_zero_or_pos t.length with hv | hv
 · have hr:fG t=false:=by
    have:t=[]:=List.length_eq_zero_iff.1 hv
    rw [this];rfl
   have hv':((t.length:Int)=0)=True:=eq_true (by omega)
   (conv=>arg 4;cbv);simp(maxSteps:=400000)only[↓av,ax,BEq.rfl,reduceIte,reduceCtorEq,Nat.reduceLT,reduceAdd,reduceSub,reduceMul,Nat.reduceBEq,reduceLeDiff,reduceToNat,reduceLE,hQ,hr,hv']
 have hv':((t.length:Int)=0)=False:=eq_false (by omega)
 obtain ⟨n0,r0,hvr⟩:∃ n r,t=n::r:=by
  cases t with
  | nil=>simp at hv
  | cons n r=>exact ⟨n,r,rfl⟩
 have hg0:t[0]?=some n0:=by rw [hvr];rfl
 have hnm:Y.nameOf t=n0.name:=by rw [hvr];rfl
 have hkd:Y.kindOf t=n0.kind:=by rw [hvr];rfl
 have hne:t.isEmpty=false:=by rw [hvr];rfl
 by_cases hname:n0.name=[]
 rotate_left 1
 · have hr:fG t=false:=by simp [fG,hnm,hname]
   (conv=>arg 4;cbv);simp(maxSteps:=400000)only[↓av,ax,BEq.rfl,reduceIte,reduceCtorEq,Nat.reduceLT,reduceAdd,reduceSub,reduceMul,Nat.reduceBEq,reduceLeDiff,reduceToNat,reduceLE,hQ,hr,hv',hg0,hname]
 by_cases hk9:n0.kind=9
 · have hr:fG t=false:=by simp [fG,hkd,hk9]
   (conv=>arg 4;cbv);simp(maxSteps:=400000)only[↓av,ax,BEq.rfl,reduceIte,reduceCtorEq,Nat.reduceLT,reduceAdd,reduceSub,reduceMul,Nat.reduceBEq,reduceLeDiff,reduceToNat,reduceLE,hQ,hr,hv',hg0,hname,hk9]
 have aeu:=eq_false hk9
 have hz:Int.toNat 0=0:=rfl
 by_cases hnx:tV t 0=(t.length:Int)
 rotate_left 1
 · have hr:fG t=false:=by
    have:Y.iD t.length t 1≠some t.length:=fun h=>hnx (by rw [H_ (i:=0) (by simpa using h)];simp)
    simp [fG,this]
   have afo:=eq_false hnx
   (conv=>arg 4;cbv);simp(maxSteps:=400000)only[↓av,ax,BEq.rfl,reduceIte,reduceCtorEq,Nat.reduceLT,reduceAdd,reduceSub,reduceMul,Nat.reduceBEq,reduceLeDiff,reduceToNat,reduceLE,hQ,hr,hv',hg0,hname,aeu,hz,↓iI,afo]
   exact ⟨Nat.zero_le _,hl⟩
 have hn:Y.iD t.length t 1=some t.length:=by
  unfold tV at hnx
  rw [List.drop_zero] at hnx
  cases hx:Y.iD t.length t 1 with
  | none=>rw [hx] at hnx;simp only at hnx;omega
  | some c=>rw [hx] at hnx;simp only at hnx;congr 1;omega
 have ho:Y.One t:=Y.oh _ _ _ _ hn
 have hr:fG t=Y.fH (jS bq d_) t:=by
  simp [fG,hnm,hkd,hname,hk9,hn,hne]
 (conv=>arg 4;cbv);simp(maxSteps:=400000)only[↓av,ax,BEq.rfl,reduceIte,reduceCtorEq,Nat.reduceLT,reduceAdd,reduceSub,reduceMul,Nat.reduceBEq,reduceLeDiff,reduceToNat,reduceLE,hQ,hv',hg0,hname,aeu,hz,↓iI,hnx]
 refine ⟨Nat.zero_le _,hl,?_⟩
 refine aH (fun m S=>∃ i:Nat,i+m=t.length∧Y.fH (jS bq d_) (t.drop i)=Y.fH (jS bq d_) t∧S=⟨dI 87 [(0,aA t),(3,.int .i64 i)],[]⟩) t.length ⟨0,by omega,rfl,?_⟩ ?_
 · simp only [bW,keepR,reduceAdd,nu,Nat.reduceBEq,map_nil]
   rfl
 rintro m S ⟨i,him,hgd,rfl⟩
 rcases Nat.lt_or_ge i t.length with h | h
 · have hg:=List.getElem?_eq_getElem h
   have htx:=hs.txt _ (List.getElem_mem h)
   generalize t[i]=n at hg htx
   have hd:=Tf hg
   rw [hgd,← hr] at hd
   have zi:(0≤(i:Int))=True:=eq_true (by omega)
   have NH:(0≤(i:Int)+1)=True:=eq_true (by omega)
   have Md:((i:Int)+1).toNat=i+1:=by omega
   have hlt:((i:Int)<(t.length:Int))=True:=eq_true (by omega)
   have next:fG t=Y.fH (jS bq d_) (t.drop (i+1))→∃ m',m'<m∧∃ FI:Nat,FI+m'=t.length∧Y.fH (jS bq d_) (t.drop FI)=Y.fH (jS bq d_) t∧(⟨dI 87 [(0,aA t),(3,.int .i64 ((i:Int)+1))],[]⟩:St)=⟨dI 87 [(0,aA t),(3,.int .i64 FI)],[]⟩:=fun e=>
    ⟨m-1,by omega,i+1,by omega,by rw [← e,hr],rfl⟩
   cases hp:bK bq n
   · have hr2:fG t=false:=by rw [hd,hp];rfl
     simp(maxSteps:=400000)only[↓av,ax,BEq.rfl,reduceIte,reduceCtorEq,Nat.reduceLT,reduceAdd,reduceSub,reduceMul,Nat.reduceBEq,reduceLeDiff,reduceToNat,reduceLE,hQ,hg,↓gK,↓iJ,hp,zi,hlt,hr2]
     exact ⟨htx.1,htx.2.2⟩
   cases hq:Am t i
   · have hr2:fG t=false:=by rw [hd,hp,hq];rfl
     simp(maxSteps:=400000)only[↓av,ax,BEq.rfl,reduceIte,reduceCtorEq,Nat.reduceLT,reduceAdd,reduceSub,reduceMul,Nat.reduceBEq,reduceLeDiff,reduceToNat,reduceLE,hQ,hg,↓gK,↓iJ,toNat_natCast,hp,hq,zi,hlt,hr2]
     exact ⟨htx.1,htx.2.2,h,hs,ho⟩
   rw [hp,hq,Bool.true_and,Bool.true_and] at hd
   obtain ⟨l1,l2⟩:=WY ho hg (Tn hp)
   by_cases hk:n.kind=7∨n.kind=8
   rotate_left 1
   · have k7:(n.kind=7)=False:=eq_false fun h=>hk (.inl h)
     have k8:(n.kind=8)=False:=eq_false fun h=>hk (.inr h)
     rw [l2 hk,Bool.true_and] at hd
     have hst:=next hd
     simp(maxSteps:=400000)only[↓av,ax,BEq.rfl,reduceIte,reduceCtorEq,Nat.reduceLT,reduceAdd,reduceSub,reduceMul,Nat.reduceBEq,reduceLeDiff,reduceToNat,reduceLE,hQ,hg,↓gK,↓iJ,toNat_natCast,hp,hq,zi,hlt,k7,k8]
     repeat' (first | omega | exact htx.1 | exact htx.2.2 | exact hs | exact ho | exact hst | refine ⟨?_,?_⟩)
   obtain ⟨hil,Y5⟩:=l1 hk
   have hpl:=KD n.s
   have hlr:=P6 (p:=d_ n.s) ho hil
   by_cases h7:n.kind=7
   · have k7:=eq_true h7
     generalize hL:jP t (i+1) (d_ n.s)=L at *
     by_cases hn0:L<0
     · have MV:=eq_true hn0
       have hr2:fG t=false:=by
        rw [hd]
        have:kU t i=false:=by
         cases hx:kU t i with
         | false=>rfl
         | true=>exact absurd (Y5.1 hx).1 (by omega)
        rw [this];rfl
       simp(maxSteps:=400000)only[↓av,ax,BEq.rfl,reduceIte,reduceCtorEq,Nat.reduceLT,reduceAdd,reduceSub,reduceMul,Nat.reduceBEq,reduceLeDiff,reduceToNat,reduceLE,hQ,hg,↓gK,↓iJ,↓gy,↓kP,ic,toNat_natCast,Md,hp,hq,zi,hlt,k7,hL,MV,hr2]
       repeat' (first | omega | exact htx.1 | exact htx.2.2 | exact hs | exact ho | refine ⟨?_,?_⟩)
     · have MV:=eq_false hn0
       obtain ⟨j,rfl⟩:∃ j:Nat,L=j:=⟨L.toNat,by omega⟩
       rw [toNat_natCast] at Y5
       have hjl:j<t.length:=by omega
       have hgj:=List.getElem?_eq_getElem hjl
       have zj:(0≤(j:Int))=True:=eq_true (by omega)
       generalize t[j]=y at hgj
       by_cases hk1:y.kind=1
       · have hla:kU t i=true:=Y5.2 ⟨by omega,y,hgj,hk1⟩
         rw [hla,Bool.true_and] at hd
         have hst:=next hd
         simp(maxSteps:=400000)only[↓av,ax,BEq.rfl,reduceIte,reduceCtorEq,Nat.reduceLT,reduceAdd,reduceSub,reduceMul,Nat.reduceBEq,reduceLeDiff,reduceToNat,reduceLE,hQ,hg,↓gK,↓iJ,↓gy,↓kP,ic,toNat_natCast,Md,hp,hq,zi,hlt,k7,hL,MV,zj,hgj,hk1]
         repeat' (first | omega | exact htx.1 | exact htx.2.2 | exact hs | exact ho | exact hst | refine ⟨?_,?_⟩)
       · have Tp:=eq_false hk1
         have hr2:fG t=false:=by
          rw [hd]
          have:kU t i=false:=by
           cases hx:kU t i with
           | false=>rfl
           | true=>obtain ⟨_,z,hz1,hz2⟩:=Y5.1 hx;rw [hgj] at hz1;cases hz1;exact absurd hz2 hk1
          rw [this];rfl
         simp(maxSteps:=400000)only[↓av,ax,BEq.rfl,reduceIte,reduceCtorEq,Nat.reduceLT,reduceAdd,reduceSub,reduceMul,Nat.reduceBEq,reduceLeDiff,reduceToNat,reduceLE,hQ,hg,↓gK,↓iJ,↓gy,↓kP,ic,toNat_natCast,Md,hp,hq,zi,hlt,k7,hL,MV,zj,hgj,Tp,hr2]
         repeat' (first | omega | exact htx.1 | exact htx.2.2 | exact hs | exact ho | refine ⟨?_,?_⟩)
   · have k7:=eq_false h7
     have k8:=eq_true (hk.resolve_left h7)
     generalize hL:jP t (i+1) (d_ n.s)=L at *
     by_cases hn0:L<0
     · have MV:=eq_true hn0
       have hr2:fG t=false:=by
        rw [hd]
        have:kU t i=false:=by
         cases hx:kU t i with
         | false=>rfl
         | true=>exact absurd (Y5.1 hx).1 (by omega)
        rw [this];rfl
       simp(maxSteps:=400000)only[↓av,ax,BEq.rfl,reduceIte,reduceCtorEq,Nat.reduceLT,reduceAdd,reduceSub,reduceMul,Nat.reduceBEq,reduceLeDiff,reduceToNat,reduceLE,hQ,hg,↓gK,↓iJ,↓gy,↓kP,ic,toNat_natCast,Md,hp,hq,zi,hlt,k7,k8,hL,MV,hr2]
       repeat' (first | omega | exact htx.1 | exact htx.2.2 | exact hs | exact ho | refine ⟨?_,?_⟩)
     · have MV:=eq_false hn0
       obtain ⟨j,rfl⟩:∃ j:Nat,L=j:=⟨L.toNat,by omega⟩
       rw [toNat_natCast] at Y5
       have hjl:j<t.length:=by omega
       have hgj:=List.getElem?_eq_getElem hjl
       have zj:(0≤(j:Int))=True:=eq_true (by omega)
       generalize t[j]=y at hgj
       by_cases hk1:y.kind=1
       · have hla:kU t i=true:=Y5.2 ⟨by omega,y,hgj,hk1⟩
         rw [hla,Bool.true_and] at hd
         have hst:=next hd
         simp(maxSteps:=400000)only[↓av,ax,BEq.rfl,reduceIte,reduceCtorEq,Nat.reduceLT,reduceAdd,reduceSub,reduceMul,Nat.reduceBEq,reduceLeDiff,reduceToNat,reduceLE,hQ,hg,↓gK,↓iJ,↓gy,↓kP,ic,toNat_natCast,Md,hp,hq,zi,hlt,k7,k8,hL,MV,zj,hgj,hk1]
         repeat' (first | omega | exact htx.1 | exact htx.2.2 | exact hs | exact ho | exact hst | refine ⟨?_,?_⟩)
       · have Tp:=eq_false hk1
         have hr2:fG t=false:=by
          rw [hd]
          have:kU t i=false:=by
           cases hx:kU t i with
           | false=>rfl
           | true=>obtain ⟨_,z,hz1,hz2⟩:=Y5.1 hx;rw [hgj] at hz1;cases hz1;exact absurd hz2 hk1
          rw [this];rfl
         simp(maxSteps:=400000)only[↓av,ax,BEq.rfl,reduceIte,reduceCtorEq,Nat.reduceLT,reduceAdd,reduceSub,reduceMul,Nat.reduceBEq,reduceLeDiff,reduceToNat,reduceLE,hQ,hg,↓gK,↓iJ,↓gy,↓kP,ic,toNat_natCast,Md,hp,hq,zi,hlt,k7,k8,hL,MV,zj,hgj,Tp,hr2]
         repeat' (first | omega | exact htx.1 | exact htx.2.2 | exact hs | exact ho | refine ⟨?_,?_⟩)
 · have hlt:((i:Int)<(t.length:Int))=False:=eq_false (by omega)
   have hr2:fG t=true:=by rw [hr,← hgd,List.drop_eq_nil_of_le h];rfl
   simp(maxSteps:=400000)only[↓av,ax,BEq.rfl,reduceIte,reduceCtorEq,Nat.reduceLT,reduceAdd,reduceSub,reduceMul,Nat.reduceBEq,reduceLeDiff,reduceToNat,reduceLE,hQ,hlt,hr2]
def qG:dF:=fun args objs K=>match args with
 | [a0]=>fB aA a0 (HK.mk:HK fun t=>(qF t)∧K (.bool (fG t)) objs 0)
 | _=>False
theorem Jz:aB Tryz.prog 14 (qG):=by
 intro args objs K h
 unfold qG at h
 split at h
 · rename_i a0
   obtain ⟨t,rfl,h1,hk⟩:=h
   exact ⟨_,_,_,.pure _ rfl (MU t h1),hk⟩
 · exact h.elim
theorem ab9:(bX ⟨0,aM⟩).cells.length=7∧(∀ a,(bX a).cells.length=7)∧(∀ a,(bX a).cells.all PV.storable=true):=⟨rfl,fun _=>rfl,fun _=>rfl⟩
theorem MW (t:aC) (at':Nat) (n:dY) (hl:t.length≤1000000) (hat:t[at']?=some n) (hm:n.kind=1→0≤n.many∧at'+1+n.many.toNat≤t.length) (hb:-1000000000≤n.many∧n.many≤1000000000) :
  ai Tryz.prog 38 [aA t,.int .i64 at'] [] (bf (if n.kind=1 then ((t.drop (at'+1)).take n.many.toNat).map iM else [])) []:=by
 have aaU:=(List.getElem?_eq_some_iff.1 hat).1
 have z0:(0≤(at':Int))=True:=eq_true (by omega)
 generalize hR:(if n.kind=1 then ((t.drop (at'+1)).take n.many.toNat).map iM else [])=R
 refine Ak.bg (T:=aR Tryz.prog []) 1 hD (aj ah) a_ (by decide) fun Q hQ=>?_
 (conv=>arg 4;cbv);simp(maxSteps:=400000)only[↓av,ax,BEq.rfl,reduceIte,reduceCtorEq,Nat.reduceLT,reduceAdd,reduceSub,reduceMul,Nat.reduceBEq,reduceLeDiff,reduceToNat,reduceLE,hQ,atB,Zw,ab9]
 refine ⟨⟨by omega,by omega⟩,?_⟩
 by_cases hk:n.kind=1
 rotate_left 1
 · rw [if_neg hk] at hR
   subst hR
   have hk':=eq_false hk
   refine aH (fun m S=>∃ _u:Unit,S=⟨dI 44 [(0,aA t),(1,.int .i64 at'),(5,.bG 0 1),(6,.int .i64 ((at':Int)+1))],[⟨29,7,[],true,1⟩]⟩) 0 ⟨(),?_⟩ ?_
   · simp only [bW,keepR,reduceAdd,nu,Nat.reduceBEq,map_nil]
   rintro m S ⟨_,rfl⟩
   have e0:∀ ver,eY 1 0 [⟨29,7,[],true,ver⟩] (.bG 0 ver)=bf []:=fun ver=>FQ [] ver 29 []
   by_cases hgt:(at':Int)+1≤(at':Int)+n.many
   · have ac6:=eq_true hgt
     simp(maxSteps:=400000)only[↓av,ax,BEq.rfl,reduceIte,reduceCtorEq,Nat.reduceLT,reduceAdd,reduceSub,reduceMul,Nat.reduceBEq,reduceLeDiff,reduceToNat,reduceLE,hQ,hat,z0,hk',ac6,e0]
     repeat' (first | (omega) | exact rfl | intro _ | refine ⟨?_,?_⟩)
   · have ac6:=eq_false hgt
     simp(maxSteps:=400000)only[↓av,ax,BEq.rfl,reduceIte,reduceCtorEq,Nat.reduceLT,reduceAdd,reduceSub,reduceMul,Nat.reduceBEq,reduceLeDiff,reduceToNat,reduceLE,hQ,hat,z0,hk',ac6,e0]
     repeat' (first | (omega) | exact rfl | intro _ | refine ⟨?_,?_⟩)
 rw [if_pos hk] at hR
 subst hR
 obtain ⟨hm0,hm1⟩:=hm hk
 have hk':=eq_true hk
 refine aH (fun m S=>∃ (i ver:Nat),i+m=n.many.toNat∧S=⟨dI 44 [(0,aA t),(1,.int .i64 at'),(5,.bG 0 ver),(6,.int .i64 ((at':Int)+1+i))],[⟨29,7,(((t.drop (at'+1)).take i).map iM).map bX,true,ver⟩]⟩) n.many.toNat ⟨0,1,by omega,?_⟩ ?_
 · simp only [bW,keepR,reduceAdd,nu,Nat.reduceBEq,map_nil]
   simp
 rintro m S ⟨i,ver,him,rfl⟩
 rcases Nat.lt_or_ge i n.many.toNat with h | h
 · have hlt:((at':Int)+1+(i:Int)≤(at':Int)+n.many)=True:=eq_true (by omega)
   have hil:at'+1+i<t.length:=by omega
   have ti:((at':Int)+1+(i:Int)).toNat=at'+1+i:=by omega
   have zi:(0≤(at':Int)+1+(i:Int))=True:=eq_true (by omega)
   have hgi:=List.getElem?_eq_getElem hil
   have hgd:(t.drop (at'+1))[i]?=some t[at'+1+i]:=by rw [List.getElem?_drop];exact hgi
   generalize t[at'+1+i]=x at hgi hgd
   have htk:((t.drop (at'+1)).take (i+1)).map iM=((t.drop (at'+1)).take i).map iM++[⟨x.n,x.c⟩]:=by
    rw [List.take_add_one,hgd];simp [iM]
   have tl:((t.drop (at'+1)).take i).length=i:=by rw [List.length_take,length_drop];omega
   simp(maxSteps:=400000)only[↓av,ax,BEq.rfl,reduceIte,reduceCtorEq,Nat.reduceLT,reduceAdd,reduceSub,reduceMul,Nat.reduceBEq,reduceLeDiff,reduceToNat,reduceLE,hQ,hat,z0,hk',hlt,ti,zi,hgi,atB,Zw,ab9,tl]
   repeat' (first | (omega) | exact ⟨m-1,by omega,i+1,ver+1,by omega,by rw [htk,List.map_append,List.map_cons,map_nil,Int.natCast_add,Int.natCast_one,Int.add_assoc]⟩ | exact rfl | intro _ | refine ⟨?_,?_⟩)
 · have hi:i=n.many.toNat:=by omega
   subst hi
   have hlt:((at':Int)+1+(n.many.toNat:Int)≤(at':Int)+n.many)=False:=eq_false (by omega)
   simp(maxSteps:=400000)only[↓av,ax,BEq.rfl,reduceIte,reduceCtorEq,Nat.reduceLT,reduceAdd,reduceSub,reduceMul,Nat.reduceBEq,reduceLeDiff,reduceToNat,reduceLE,hQ,hat,z0,hk',hlt,FQ]
   repeat' (first | (omega) | exact rfl | intro _ | refine ⟨?_,?_⟩)
def n_ (t:aC) (i:Nat):List fQ:=match t[i]? with
 | some n=>if n.kind=1 then ((t.drop (i+1)).take n.many.toNat).map iM else []
 | none=>[]
theorem JA (t:aC) (i:Int) (h0:0≤i) (hi:i.toNat<t.length) (hl:t.length≤1000000) (ho:Y.One t):ai Tryz.prog 38 [aA t,.int .i64 i] [] (bf (n_ t i.toNat)) []:=by
 have hg:=List.getElem?_eq_getElem hi
 generalize t[i.toNat]=n at hg
 obtain ⟨ps,c,h1,h2,h3,h4,h5,h6,h7,h8⟩:=Y.r9 ho hg
 have hpl:=Y.bS _ _ _ h3
 have hfl:ps.length≤ps.flatten.length:=by
  have:∀ qs:List aC,(∀ p ∈ qs,Y.One p)→qs.length≤qs.flatten.length:=by
   intro qs
   induction qs with
   | nil=>intro _;simp
   | cons q qs ih=>
    intro h
    have a:=ih fun p hp=>h p (List.mem_cons_of_mem _ hp)
    have b:=List.length_pos_iff.2 (h q (List.mem_cons_self ..)).ne
    simp only [List.length_cons,List.flatten_cons,List.length_append];omega
  exact this ps h6
 rw [h5,List.length_take,length_drop] at hfl
 have:=MW t i.toNat n hl hg (fun _=>⟨h1,by omega⟩) ⟨by omega,by omega⟩
 rw [Int.toNat_of_nonneg h0] at this
 simp only [n_,hg]
 exact this
def mY:dF:=fun args objs K=>match args with
 | [a0,.int .i64 i]=>fB aA a0 (HK.mk:HK fun t=>(0≤i)∧(i.toNat<t.length)∧(t.length≤1000000)∧(Y.One t)∧K (bf (n_ t i.toNat)) objs 0)
 | _=>False
theorem EY:aB Tryz.prog 38 (mY):=by
 intro args objs K h
 unfold mY at h
 split at h
 · rename_i a0 i
   obtain ⟨t,rfl,h1,h2,h3,h4,hk⟩:=h
   exact ⟨_,_,_,.pure _ rfl (JA t i h1 h2 h3 h4),hk⟩
 · exact h.elim
end Lp
namespace Lp
open Go Go.Proofs Go.RowKit
open Nat (reduceAdd reduceLeDiff reduceMul reduceSub)
open Int (reduceLE reduceToNat)
theorem Ia (s:List UInt8):ai Tryz.prog 132 [.str s,.str [48]] [] (.str (Lib.trimLeftB s 48)) []:=by
 refine ai.rD ⟨_,Tryz.UM.f161,by kernel_rfl,by kernel_rfl⟩ fun w vs ok hg hr=>?_
 obtain ⟨u,v,rfl,h,h'⟩:=O4 hr
 cases kH h
 cases kH h'
 refine (Any.strings_TrimLeft_one Tryz.UM ⟨⟨s⟩⟩ 48 (by decide) w).mono ?_
 rintro e w' ⟨h1,rfl⟩
 exact ⟨_,h1,fun w ok=>.str _,.refl _ _⟩
theorem EZ (s:List UInt8) (c:UInt8) (hc:c.toNat<128) (hs:s.length≤4611686018427387904):ai Tryz.prog 133 [.str s,.str [c]] [] (.str (Lib.trimRightB s c)) []:=by
 refine ai.rD ⟨_,Tryz.UN.f162,by kernel_rfl,by kernel_rfl⟩ fun w vs ok hg hr=>?_
 obtain ⟨u,v,rfl,h,h'⟩:=O4 hr
 cases kH h
 cases kH h'
 refine (Any.strings_TrimRight_one Tryz.UN ⟨⟨s⟩⟩ c hc w (by rw [Lib.size_eq];simp;omega)).mono ?_
 rintro e w' ⟨h1,rfl⟩
 exact ⟨_,h1,fun w ok=>.str _,.refl _ _⟩
def kQ:dF:=fun args objs K=>match args with
 | [.str s,a1]=>a1=(.str [48])∧K (.str (Lib.trimLeftB s 48)) objs 0
 | _=>False
theorem MX:aB Tryz.prog 132 (kQ):=by
 intro args objs K h
 unfold kQ at h
 split at h
 · rename_i s a1
   obtain ⟨rfl,hk⟩:=h
   exact ⟨_,_,_,.pure _ rfl (Ia s),hk⟩
 · exact h.elim
def jv (c:UInt8):dF:=fun args objs K=>match args with
 | [.str s,a1]=>a1=(.str [c])∧(c.toNat<128)∧(s.length≤4611686018427387904)∧K (.str (Lib.trimRightB s c)) objs 0
 | _=>False
theorem vw (c:UInt8):aB Tryz.prog 133 (jv c):=by
 intro args objs K h
 unfold jv at h
 split at h
 · rename_i s a1
   obtain ⟨rfl,h1,h2,hk⟩:=h
   exact ⟨_,_,_,.pure _ rfl (EZ s c h1 h2),hk⟩
 · exact h.elim
theorem Zz:Builder.Extra Tryz.prog Tryz.Et where
 sizeBuilder:=by kernel_rfl
 liesBuilder:=by kernel_rfl
 t5:=Tryz.x_.t5
 a5:=Tryz.x_.a5
 z5:=Tryz.x_.z5
 v5:=Tryz.x_.v5
 infoByte:=by kernel_rfl
 cellsByte:=by kernel_rfl
 sizeByte:=by kernel_rfl
 neB5:=by decide
theorem EB (c:UInt8):∀ n,Lib.repeatL [c] n=List.replicate n c
 | 0=>rfl
 | n+1=>by rw [Lib.repeatL,EB c n,List.replicate_succ];rfl
theorem P9 (c:UInt8) (n:Int) (h:0≤n∧n≤1000000000):ai Tryz.prog 126 [.str [c],.int .i64 n] [] (.str (List.replicate n.toNat c)) []:=by
 obtain ⟨n,rfl⟩:∃ k:Nat,n=k:=⟨n.toNat,by omega⟩
 refine ai.rD ⟨_,Tryz.x_.f105,by kernel_rfl,by kernel_rfl⟩ fun w vs ok hg hr=>?_
 obtain ⟨u,v,rfl,h,h'⟩:=O4 hr
 cases kH h
 cases O5 h'
 refine (Any.strings_Repeat Tryz.x_ Zz ⟨⟨[c]⟩⟩ n w (by omega) (by rw [Lib.size_eq];simp;omega)).mono ?_
 rintro e w' ⟨h1,h2⟩
 refine ⟨_,h1,fun w ok=>?_,h2⟩
 have e1:(⟨⟨[c]⟩⟩:ByteArray).data.toList=[c]:=rfl
 rw [e1,EB]
 exact .str _
def mZ (c:UInt8):dF:=fun args objs K=>match args with
 | [a0,.int .i64 n]=>a0=(.str [c])∧(0≤n∧n≤1000000000)∧K (.str (List.replicate n.toNat c)) objs 0
 | _=>False
theorem Aq (c:UInt8):aB Tryz.prog 126 (mZ c):=by
 intro args objs K h
 unfold mZ at h
 split at h
 · rename_i a0 n
   obtain ⟨rfl,h1,hk⟩:=h
   exact ⟨_,_,_,.pure _ rfl (P9 c n h1),hk⟩
 · exact h.elim
theorem aP.Ib {P:Program}{D:TypeId→aD}{T:Know}{f:FuncId}{n t u:Nat}{ty:TypeId}{C:LC}{args:List PV}{r:PV}(h:aP P f n [.cell t ty,.tmp u] C) (d:Nat) (hD:∀ t,iN P t (D t)) (hT:FB P none rV T) (hm:P.follows .mixedOrders=true) (ht:t<n) (hu:u<n)
  (hw:∀ Q:Exit→St→Prop,(∀ l ob,Q .ret ⟨dI n l,ob⟩=fq (D ty) (l_ l t) ob fun p _ _=>r=.b_ [gQ d 0 ob p,gQ d 0 ob (l_ l u)])→kW P D T C Q (bV args n)):ai P f args [] r []:=by
 refine h.pure d hD hT hm (by simp) (hw _ fun l ob=>?_)
 simp only [nk,jI,rW.2.1 n l t ht,rW.2.1 n l u hu,List.map_cons,List.map_nil,fw]
def dS (neg:Bool) (f:List UInt8) (e:Int):PV:=.b_ [ay (dN neg f e).1,.int .i64 (dN neg f e).2]
theorem nU (s:List UInt8) (c:UInt8):(Lib.trimRightB s c).length≤s.length:=by
 unfold Lib.trimRightB
 rw [List.length_reverse]
 exact Nat.le_trans (List.dropWhile_suffix _).length_le (by rw [List.length_reverse];exact Nat.le_refl _)
theorem Tq (s:List UInt8) (c:UInt8):(Lib.trimLeftB s c).length≤s.length:=(List.dropWhile_suffix _).length_le
theorem WZ (neg:Bool) (f:List UInt8) (e:Int) (hf:f.length≤1000000) (he:-1000000000≤e∧e≤1000000000):ai Tryz.prog 123 [.bool neg,.str f,.int .i64 e] [] (dS neg f e) []:=by
 refine RL.Ib (T:=aR Tryz.prog [(131,dB),(132,kQ),(133,jv 48),(134,ja)]) 0 hD (aj (af vR (af MX (af (vw 48) (af zC ah))))) a_ (by decide) (by decide) fun Q hQ=>?_
 have c48:(48:UInt8).toNat<128:=by decide
 have hf':f.length≤4611686018427387904:=by omega
 have hlL:=Tq f 48
 generalize hs:Lib.trimLeftB f 48=s at *
 have hlR:=nU s 48
 generalize ht:Lib.trimRightB s 48=t at *
 cases h1:gq f
 · have hr:dS neg f e=.b_ [ay ⟨0,0,[],[],false,0⟩,.int .i64 4]:=by simp [dS,dN,h1,aM]
   (conv=>arg 4;cbv);simp(maxSteps:=400000)only[↓aT,aU,BEq.rfl,reduceIte,reduceCtorEq,Nat.reduceLT,reduceAdd,reduceSub,reduceMul,Nat.reduceBEq,reduceLeDiff,reduceToNat,reduceLE,hQ,↓dB,h1,hr,bO,bP]
   repeat' (first | omega | exact c48 | refine ⟨?_,?_⟩)
 by_cases h2:s=[]
 · have hr:dS neg f e=.b_ [ay ⟨3,0,[],[],false,0⟩,.int .i64 0]:=by simp [dS,dN,h1,hs,h2]
   have h2':(s=[])=True:=eq_true h2
   (conv=>arg 4;cbv);simp(maxSteps:=400000)only[↓aT,aU,BEq.rfl,reduceIte,reduceCtorEq,Nat.reduceLT,reduceAdd,reduceSub,reduceMul,Nat.reduceBEq,reduceLeDiff,reduceToNat,reduceLE,hQ,↓dB,↓kQ,h1,hs,h2',hr,bO,bP]
   repeat' (first | omega | exact c48 | refine ⟨?_,?_⟩)
 have h2':(s=[])=False:=eq_false h2
 rcases tf (e < -100000000) with h3 | h3
 · have hr:dS neg f e=.b_ [ay ⟨0,0,[],[],false,0⟩,.int .i64 2]:=by simp [dS,dN,h1,hs,h2,of_eq_true h3,aM]
   (conv=>arg 4;cbv);simp(maxSteps:=400000)only[↓aT,aU,BEq.rfl,reduceIte,reduceCtorEq,Nat.reduceLT,reduceAdd,reduceSub,reduceMul,Nat.reduceBEq,reduceLeDiff,reduceToNat,reduceLE,hQ,↓dB,↓kQ,h1,hs,h2',h3,hr,bO,bP]
   repeat' (first | omega | exact c48 | refine ⟨?_,?_⟩)
 rcases tf (100000000<e) with h4 | h4
 · have hr:dS neg f e=.b_ [ay ⟨0,0,[],[],false,0⟩,.int .i64 2]:=by simp [dS,dN,h1,hs,h2,of_eq_true h4,aM]
   (conv=>arg 4;cbv);simp(maxSteps:=400000)only[↓aT,aU,BEq.rfl,reduceIte,reduceCtorEq,Nat.reduceLT,reduceAdd,reduceSub,reduceMul,Nat.reduceBEq,reduceLeDiff,reduceToNat,reduceLE,hQ,↓dB,↓kQ,h1,hs,h2',h3,h4,hr,bO,bP]
   repeat' (first | omega | exact c48 | refine ⟨?_,?_⟩)
 have h3':=of_eq_false h3
 have h4':=of_eq_false h4
 rcases tf (100<(t.length:Int)) with h5 | h5
 · have hr:dS neg f e=.b_ [ay ⟨0,0,[],[],false,0⟩,.int .i64 2]:=by
    have:100<t.length:=by have:=of_eq_true h5;omega
    simp [dS,dN,h1,hs,h2,h3',h4',ht,this,aM]
   (conv=>arg 4;cbv);simp(maxSteps:=400000)only[↓aT,aU,BEq.rfl,reduceIte,reduceCtorEq,Nat.reduceLT,reduceAdd,reduceSub,reduceMul,Nat.reduceBEq,reduceLeDiff,reduceToNat,reduceLE,hQ,↓dB,↓kQ,↓jv,h1,hs,ht,h2',h3,h4,h5,hr,bO,bP]
   repeat' (first | omega | exact c48 | refine ⟨?_,?_⟩)
 have h5':¬ 100<t.length:=by have:=of_eq_false h5;omega
 have hpb:NP t.length (e+(s.length-t.length))=BR t.length (e+(s.length-t.length)):=rfl
 cases h6:BR t.length (e+(s.length-t.length))
 · have hr:dS neg f e=.b_ [ay ⟨0,0,[],[],false,0⟩,.int .i64 2]:=by
    simp [dS,dN,h1,hs,h2,h3',h4',ht,hpb,h6,aM]
   (conv=>arg 4;cbv);simp(maxSteps:=400000)only[↓aT,aU,BEq.rfl,reduceIte,reduceCtorEq,Nat.reduceLT,reduceAdd,reduceSub,reduceMul,Nat.reduceBEq,reduceLeDiff,reduceToNat,reduceLE,hQ,↓dB,↓kQ,↓jv,↓ja,h1,hs,ht,h2',h3,h4,h5,h6,hr,bO,bP]
   repeat' (first | omega | exact c48 | refine ⟨?_,?_⟩)
 · have hr:dS neg f e=.b_ [ay ⟨3,0,[],t,neg,e+(s.length-t.length)⟩,.int .i64 0]:=by
    simp [dS,dN,h1,hs,h2,h3',h4',ht,hpb,h6,h5']
   (conv=>arg 4;cbv);simp(maxSteps:=400000)only[↓aT,aU,BEq.rfl,reduceIte,reduceCtorEq,Nat.reduceLT,reduceAdd,reduceSub,reduceMul,Nat.reduceBEq,reduceLeDiff,reduceToNat,reduceLE,hQ,↓dB,↓kQ,↓jv,↓ja,h1,hs,ht,h2',h3,h4,h5,h6,hr,bO,bP]
   repeat' (first | omega | exact c48 | refine ⟨?_,?_⟩)
theorem W9 (neg:Bool) (f:List UInt8) (e:Int):(dN neg f e).1.s.length≤100:=by
 unfold dN
 split
 · simp [aM]
 split
 · simp
 split
 · simp [aM]
 split
 · simp [aM]
 · rename_i h
   have:=fun h'=>h (.inl h')
   simpa using this
def vz:dF:=fun args objs K=>match args with
 | [.bool neg,.str f,.int .i64 e]=>(f.length≤1000000)∧(-1000000000≤e∧e≤1000000000)∧K (dS neg f e) objs 0
 | _=>False
theorem Tt:aB Tryz.prog 123 (vz):=by
 intro args objs K h
 unfold vz at h
 split at h
 · rename_i neg f e
   obtain ⟨h1,h2,hk⟩:=h
   exact ⟨_,_,_,.pure _ rfl (WZ neg f e h1 h2),hk⟩
 · exact h.elim
end Lp
namespace Lp
open Go Go.Proofs Go.RowKit
theorem KI (c:UInt8) (h:c.toNat<128):(Utf8.encode (c.toNat:Int)).data.toList=[c]:=by
 have hv:Utf8.valid (c.toNat:Int)=true:=by
  simp only [Utf8.valid,Bool.or_eq_true,Bool.and_eq_true,decide_eq_true_eq]
  exact .inl ⟨by omega,by omega⟩
 simp only [Utf8.encode,hv,if_true,Int.toNat_natCast,if_pos h]
 show [UInt8.ofNat c.toNat]=[c]
 simp
theorem Ar {s:List UInt8}{c:UInt8}(h:0<(Lib.trimRightB s c).length):∃ d,s[(Lib.trimRightB s c).length-1]?=some d∧d≠c:=by
 have aev:(s.reverse.dropWhile (·==c))≠[]:=by
  intro hh;simp [Lib.trimRightB,hh] at h
 obtain ⟨d,r,hr⟩:=List.exists_cons_of_ne_nil aev
 have hd:d≠c:=by
  have:=List.head_dropWhile_not (·==c) (l:=s.reverse) aev
  simp only [hr,List.head_cons] at this
  simpa using this
 have hpre:Lib.trimRightB s c <+:s:=by
  unfold Lib.trimRightB
  have:=List.dropWhile_suffix (l:=s.reverse) (·==c)
  rwa [← List.reverse_prefix,List.reverse_reverse] at this
 have ht:Lib.trimRightB s c=r.reverse++[d]:=by simp [Lib.trimRightB,hr]
 rw [ht] at hpre ⊢
 obtain ⟨q,hq⟩:=hpre
 refine ⟨d,?_,hd⟩
 rw [← hq,List.getElem?_append_left (by simp)]
 simp
theorem wrap32 {c:UInt8}:IntKind.i32.wrap (c.toNat:Int)=(c.toNat:Int):=by
 have h:=c.toNat_lt
 have hm:(c.toNat:Int) % 4294967296=c.toNat:=by omega
 unfold IntKind.wrap
 simp [IntKind.bits,IntKind.signed,hm]
 omega
theorem aa3 (s:List UInt8) (hf:gq s=true) (hs:s.length≤1000000):ai Tryz.prog 124 [.str s] [] (.str (NQ s)) []:=by
 refine V5.bg (T:=aR Tryz.prog [(133,(jv 57)),(126,(mZ 48))]) 0 hD (aj (af (vw 57) (af (Aq 48) ah))) a_ (by decide) fun Q hQ=>?_
 have hle:=nU s 57
 have c57:(57:UInt8).toNat<128:=by decide
 by_cases h0:(Lib.trimRightB s 57).length=0
 · have h0':(((Lib.trimRightB s 57).length:Int)=0)=True:=eq_true (by omega)
   have hr:NQ s=49::List.replicate s.length 48:=by simp [NQ,h0]
   (conv=>arg 4;cbv);simp(maxSteps:=400000)only[↓aT,aU,BEq.rfl,reduceIte,reduceCtorEq,Nat.reduceLT,Nat.reduceAdd,Nat.reduceSub,Nat.reduceMul,Nat.reduceBEq,Nat.reduceLeDiff,Int.reduceToNat,Int.reduceLE,hQ,↓jv,↓mZ,h0',hr]
   have e:((s.length:Int)-((Lib.trimRightB s 57).length:Int)).toNat=s.length:=by omega
   rw [e]
   exact ⟨c57,by omega,by omega,by omega,by omega,rfl⟩
 · have h0':(((Lib.trimRightB s 57).length:Int)=0)=False:=eq_false (by omega)
   obtain ⟨d,hd,hne⟩:=Ar (s:=s) (c:=57) (by omega)
   have hdf:=qB hf hd
   have hr:NQ s=s.take ((Lib.trimRightB s 57).length-1)++(d+1)::List.replicate (s.length-(Lib.trimRightB s 57).length) 48:=by simp [NQ,h0,List.getD_eq_getElem?_getD,hd]
   generalize hn:(Lib.trimRightB s 57).length=n at *
   have e1:((n:Int)-1).toNat=n-1:=by omega
   have e2:((s.length:Int)-(n:Int)).toNat=s.length-n:=by omega
   have afP:d.toNat≤56:=by
    have:d.toNat≠57:=fun h=>hne (UInt8.toNat_inj.1 h)
    omega
   have e3:((d+1).toNat:Int)=(d.toNat:Int)+1:=by
    rw [UInt8.toNat_add]
    have:(1:UInt8).toNat=1:=rfl
    omega
   have e4:IntKind.i32.wrap ((d.toNat:Int)+1)=((d+1).toNat:Int):=by rw [← e3];exact wrap32
   have e5:=KI (d+1) (by omega)
   (conv=>arg 4;cbv);simp(maxSteps:=400000)only[↓aT,aU,BEq.rfl,reduceIte,reduceCtorEq,Nat.reduceLT,Nat.reduceAdd,Nat.reduceSub,Nat.reduceMul,Nat.reduceBEq,Nat.reduceLeDiff,Int.reduceToNat,Int.reduceLE,hQ,↓jv,↓mZ,hn,h0',hr,e1,e2,hd,kD,nC,e4,e5,List.drop_zero,List.length_take,List.append_assoc,List.cons_append,List.nil_append]
   repeat' (first | omega | exact c57 | exact trivial | refine ⟨?_,?_⟩)
def U0:dF:=fun args objs K=>match args with
 | [.str s]=>(gq s=true)∧(s.length≤1000000)∧K (.str (NQ s)) objs 0
 | _=>False
theorem ZA:aB Tryz.prog 124 (U0):=by
 intro args objs K h
 unfold U0 at h
 split at h
 · rename_i s
   obtain ⟨h1,h2,hk⟩:=h
   exact ⟨_,_,_,.pure _ rfl (aa3 s h1 h2),hk⟩
 · exact h.elim
theorem W_ (s:List UInt8) (hf:gq s=true) (h0:0<(Lib.trimRightB s 48).length) (hs:s.length≤1000000):ai Tryz.prog 125 [.str s] [] (.str (ou s)) []:=by
 refine OG.bg (T:=aR Tryz.prog [(133,(jv 48)),(126,(mZ 57))]) 0 hD (aj (af (vw 48) (af (Aq 57) ah))) a_ (by decide) fun Q hQ=>?_
 have hle:=nU s 48
 have c48:(48:UInt8).toNat<128:=by decide
 obtain ⟨d,hd,hne⟩:=Ar (s:=s) (c:=48) h0
 have hdf:=qB hf hd
 have hr:ou s=s.take ((Lib.trimRightB s 48).length-1)++(d-1)::List.replicate (s.length-(Lib.trimRightB s 48).length) 57:=by simp [ou,List.getD_eq_getElem?_getD,hd]
 generalize hn:(Lib.trimRightB s 48).length=n at *
 have e1:((n:Int)-1).toNat=n-1:=by omega
 have e2:((s.length:Int)-(n:Int)).toNat=s.length-n:=by omega
 have afQ:49≤d.toNat:=by
  have:d.toNat≠48:=fun h=>hne (UInt8.toNat_inj.1 h)
  omega
 have e3:((d-1).toNat:Int)=(d.toNat:Int)-1:=by
  rw [UInt8.toNat_sub_of_le _ _ (by rw [UInt8.le_iff_toNat_le];have:(1:UInt8).toNat=1:=rfl;omega)]
  have:(1:UInt8).toNat=1:=rfl
  omega
 have e4:IntKind.i32.wrap ((d.toNat:Int)-1)=((d-1).toNat:Int):=by rw [← e3];exact wrap32
 have e5:=KI (d-1) (by omega)
 (conv=>arg 4;cbv);simp(maxSteps:=400000)only[↓aT,aU,BEq.rfl,reduceIte,reduceCtorEq,Nat.reduceLT,Nat.reduceAdd,Nat.reduceSub,Nat.reduceMul,Nat.reduceBEq,Nat.reduceLeDiff,Int.reduceToNat,Int.reduceLE,hQ,↓jv,↓mZ,hn,hr,e1,e2,hd,kD,nC,e4,e5,List.drop_zero,List.length_take,List.append_assoc,List.cons_append,List.nil_append]
 repeat' (first | omega | exact c48 | exact trivial | refine ⟨?_,?_⟩)
def Cf:dF:=fun args objs K=>match args with
 | [.str s]=>(gq s=true)∧(0<(Lib.trimRightB s 48).length)∧(s.length≤1000000)∧K (.str (ou s)) objs 0
 | _=>False
theorem Tv:aB Tryz.prog 125 (Cf):=by
 intro args objs K h
 unfold Cf at h
 split at h
 · rename_i s
   obtain ⟨h1,h2,h3,hk⟩:=h
   exact ⟨_,_,_,.pure _ rfl (W_ s h1 h2 h3),hk⟩
 · exact h.elim
end Lp
namespace Lp
open Go Go.Proofs Go.RowKit
open List (length_append length_replicate)
open Nat (reduceAdd reduceLeDiff reduceMul reduceSub)
structure MZ (n:Nd):Prop where
 len:n.s.length≤100
 gq:gq n.s=true
 lo:-1000≤n.e
 hi:n.e≤1000
 last:n.s≠[]→0<(Lib.trimRightB n.s 48).length
def dL (n:Nd) (above:Bool):PV:=.b_ [ay (dw n above).1,.bool (dw n above).2]
theorem EC (a b:List UInt8) (ha:gq a=true) (hb:gq b=true):gq (a++b)=true:=by
 unfold gq at *
 simp only [List.all_append,ha,hb,Bool.and_self]
theorem P_ (n:Nat):gq (List.replicate n 48)=true:=by
 unfold gq
 rw [List.all_eq_true]
 intro x hx
 rw [(List.mem_replicate.1 hx).2]
 decide
theorem KJ (s:List UInt8) (n:Nat):Lib.trimRightB (s++List.replicate n 48) 48=Lib.trimRightB s 48:=by
 have:∀ (k:Nat) (l:List UInt8),List.dropWhile (·==(48:UInt8)) (List.replicate k 48++l)=List.dropWhile (·==(48:UInt8)) l:=by
  intro k l
  induction k with
  | zero=>rfl
  | succ k ih=>rw [List.replicate_succ,List.cons_append,List.dropWhile_cons];simp [ih]
 unfold Lib.trimRightB
 rw [List.reverse_append,List.reverse_replicate,this]
theorem aa4 (s:List UInt8):(NQ s).length≤s.length+1:=by
 unfold NQ
 have:=nU s 57
 split
 · simp
 · simp only [length_append,List.length_take,List.length_cons,length_replicate];omega
theorem KL (s:List UInt8):(ou s).length≤s.length+1:=by
 unfold ou
 have:=nU s 48
 simp only [length_append,List.length_take,List.length_cons,length_replicate];omega
theorem aa5 (above:Bool):dS (!above) [49] (-1000)=.b_ [ay ⟨3,0,[],[49],!above,-1000⟩,.int .i64 0]:=by
 cases above <;> rfl
theorem Qa (n:Nd) (above:Bool) (hn:MZ n):ai Tryz.prog 114 [ay n,.bool above] [] (dL n above) []:=by
 refine Jb.Ib (T:=aR Tryz.prog [(123,vz),(126,mZ 48),(124,U0),(125,Cf)]) 0 hD (aj (af Tt (af (Aq 48) (af ZA (af Tv ah))))) a_ (by decide) (by decide) fun Q hQ=>?_
 by_cases hs:n.s=[]
 · have hr:dL n above=.b_ [ay ⟨3,0,[],[49],!above,-1000⟩,.bool true]:=by simp [dL,dw,hs]
   have b0:=aa5 above
   (conv=>arg 4;cbv);simp(maxSteps:=400000)only[↓aT,aU,BEq.rfl,reduceIte,reduceCtorEq,Nat.reduceLT,reduceAdd,reduceSub,reduceMul,Nat.reduceBEq,reduceLeDiff,Int.reduceToNat,Int.reduceLE,hQ,↓vz,b0,hs,hr,bO,bP,bA]
 have hs':(n.s=[])=False:=eq_false hs
 have l1:=hn.len
 have l2:=hn.lo
 have l3:=hn.hi
 have hE:∀ T:Int,jY n above=max (T-100) (-1000)→(if (-1000:Int) > T-100 then (-1000:Int) else T-100)=jY n above:=fun T h=>by rw [h];split <;> omega
 have l4:(0:Int)<n.s.length:=by
  cases h:n.s with
  | nil=>exact absurd h hs
  | cons x r=>simp
 have hEb:-1000≤jY n above∧jY n above≤1000∧jY n above≤n.e:=by
  unfold jY
  split <;> omega
 generalize UB:jY n above=E at *
 have E5:mh n E=n.s++List.replicate (n.e-E).toNat 48:=rfl
 have hpl:(mh n E).length≤3000:=by rw [E5,length_append,length_replicate];omega
 have hpf:gq (mh n E)=true:=EC _ _ hn.gq (P_ _)
 have hpt:0<(Lib.trimRightB (mh n E) 48).length:=by rw [E5,KJ];exact hn.last hs
 have hul:=aa4 (mh n E)
 have hdl:=KL (mh n E)
 have hpl':n.s.length+(n.e-E).toNat≤3000:=by have:=hpl;rw [E5,length_append,length_replicate] at this;exact this
 have hpp:(mh n E).length=n.s.length+(n.e-E).toNat:=by rw [E5,length_append,length_replicate]
 by_cases hg:n.neg=above
 · have hg':(n.neg=above)=True:=eq_true hg
   have hr:dL n above=.b_ [ay (dN n.neg (ou (mh n E)) E).1,.bool (decide ((dN n.neg (ou (mh n E)) E).2=0))]:=by
    simp only [dL,dw,if_neg hs,if_pos hg,UB]
   by_cases h49:n.s=[49]
   · have M0:(n.s=[49])=True:=eq_true h49
     have hEe:=hE (n.s.length+n.e-1) (by rw [← UB];unfold jY;rw [if_pos ⟨hg,h49⟩])
     (conv=>arg 4;cbv);simp(maxSteps:=400000)only[↓aT,aU,BEq.rfl,reduceIte,reduceCtorEq,Nat.reduceLT,reduceAdd,reduceSub,reduceMul,Nat.reduceBEq,reduceLeDiff,Int.reduceToNat,Int.reduceLE,hQ,↓vz,↓mZ,↓Cf,hs',hg',M0,bO,bP,bA,hEe,← E5,hr,dS]
     repeat' (first | omega | exact hpf | exact hpt | exact (by decide) | refine ⟨?_,?_⟩)
   · have M0:(n.s=[49])=False:=eq_false h49
     have hEe:=hE (n.s.length+n.e) (by rw [← UB];unfold jY;rw [if_neg fun h=>h49 h.2])
     (conv=>arg 4;cbv);simp(maxSteps:=400000)only[↓aT,aU,BEq.rfl,reduceIte,reduceCtorEq,Nat.reduceLT,reduceAdd,reduceSub,reduceMul,Nat.reduceBEq,reduceLeDiff,Int.reduceToNat,Int.reduceLE,hQ,↓vz,↓mZ,↓Cf,hs',hg',M0,bO,bP,bA,hEe,← E5,hr,dS]
     repeat' (first | omega | exact hpf | exact hpt | exact (by decide) | refine ⟨?_,?_⟩)
 · have hg':(n.neg=above)=False:=eq_false hg
   have hr:dL n above=.b_ [ay (dN n.neg (NQ (mh n E)) E).1,.bool (decide ((dN n.neg (NQ (mh n E)) E).2=0))]:=by
    simp only [dL,dw,if_neg hs,if_neg hg,UB]
   have hEe:=hE (n.s.length+n.e) (by rw [← UB];unfold jY;rw [if_neg fun h=>hg h.1])
   (conv=>arg 4;cbv);simp(maxSteps:=400000)only[↓aT,aU,BEq.rfl,reduceIte,reduceCtorEq,Nat.reduceLT,reduceAdd,reduceSub,reduceMul,Nat.reduceBEq,reduceLeDiff,Int.reduceToNat,Int.reduceLE,hQ,↓vz,↓mZ,↓U0,hs',hg',bO,bP,bA,hEe,← E5,hr,dS]
   repeat' (first | omega | exact hpf | exact hpt | exact (by decide) | refine ⟨?_,?_⟩)
def nV:dF:=fun args objs K=>match args with
 | [a0,.bool above]=>fB ay a0 (HK.mk:HK fun n=>(MZ n)∧K (dL n above) objs 0)
 | _=>False
theorem M4:aB Tryz.prog 114 (nV):=by
 intro args objs K h
 unfold nV at h
 split at h
 · rename_i a0 above
   obtain ⟨n,rfl,h1,hk⟩:=h
   exact ⟨_,_,_,.pure _ rfl (Qa n above h1),hk⟩
 · exact h.elim
end Lp
namespace Lp
open Go Go.Proofs Go.RowKit
open List (length_cons map_nil)
open Nat (reduceAdd reduceLeDiff reduceMul reduceSub)
open Int (reduceLE reduceToNat)
theorem Tw (s:List UInt8):Lib.trimLeftB (48::s) 48=Lib.trimLeftB s 48:=rfl
theorem Tx {c:UInt8}{s:List UInt8}(h:c≠48):Lib.trimLeftB (c::s) 48=c::s:=by
 unfold Lib.trimLeftB
 have:(c==(48:UInt8))=false:=by simpa using h
 simp [this]
theorem Tz (s:List UInt8):Lib.trimRightB (s++[48]) 48=Lib.trimRightB s 48:=by
 unfold Lib.trimRightB
 rw [List.reverse_append];rfl
theorem TA {c:UInt8}{s:List UInt8}(h:c≠48):Lib.trimRightB (s++[c]) 48=s++[c]:=by
 unfold Lib.trimRightB
 have:(c==(48:UInt8))=false:=by simpa using h
 rw [List.reverse_append]
 simp [this]
theorem TB {c:UInt8}{s:List UInt8}(h:c≠48):Lib.trimRightB (c::s) 48≠[]:=by
 unfold Lib.trimRightB
 have hc:(c==(48:UInt8))=false:=by simpa using h
 rw [List.reverse_cons,List.dropWhile_append]
 split
 · simp [hc]
 · simp
def vS (t:List UInt8) (e:Int):Bool:=decide (100<t.length) || decide (e < -1000) || decide (1000<(t.length:Int)+e)
theorem TD {neg:Bool}{f s t:List UInt8}{e e':Int}(h1:gq f=true) (h2:Lib.trimLeftB f 48=s) (h3:s≠[]) (h4:¬ (e < -100000000∨100000000<e)) (h5:Lib.trimRightB s 48=t) (h6:e'+t.length=e+s.length) :
  dN neg f e=if vS t e' then (aM,2) else (⟨3,0,[],t,neg,e'⟩,0):=by
 have h4a:¬ e < -100000000:=fun h=>h4 (.inl h)
 have h4b:¬ 100000000<e:=fun h=>h4 (.inr h)
 have he:e+((s.length:Int)-(t.length:Int))=e':=by omega
 unfold dN
 rw [if_neg (by simp [h1]),h2,if_neg h3,if_neg h4,h5,he]
 by_cases hb:vS t e'=true
 · rw [if_pos hb,if_pos]
   simp only [vS,Bool.or_eq_true,decide_eq_true_eq] at hb
   rcases hb with (hb | hb) | hb
   · exact .inl hb
   · right;simp [NP];omega
   · right;simp [NP];omega
 · rw [if_neg hb,if_neg]
   simp only [vS,Bool.or_eq_true,decide_eq_true_eq,not_or] at hb
   rintro (h | h)
   · exact hb.1.1 h
   · simp only [NP,Bool.and_eq_false_iff,decide_eq_false_iff_not] at h;omega
theorem M5 (neg:Bool) (f:List UInt8) (e:Int) (hf:f.length≤1000000) (he:-1000000000≤e∧e≤1000000000):ai Tryz.prog 112 [.bool neg,.str f,.int .i64 e] [] (dS neg f e) []:=by
 refine Cc.Ib (T:=aR Tryz.prog [(108,pI)]) 0 hD (aj (af G7 ah)) a_ (by decide) (by decide) fun Q hQ=>?_
 cases h1:gq f
 · have hr:dS neg f e=.b_ [ay ⟨0,0,[],[],false,0⟩,.int .i64 4]:=by simp [dS,dN,h1,aM]
   (conv=>arg 4;cbv);simp(maxSteps:=400000)only[↓aT,aU,BEq.rfl,reduceIte,reduceCtorEq,Nat.reduceLT,reduceAdd,reduceSub,reduceMul,Nat.reduceBEq,reduceLeDiff,reduceToNat,reduceLE,hQ,↓pI,h1,hr,bO,bP]
   repeat' (first | omega | exact rfl | refine ⟨?_,?_⟩)
 (conv=>arg 4;cbv);simp(maxSteps:=400000)only[↓aT,aU,BEq.rfl,reduceIte,reduceCtorEq,Nat.reduceLT,reduceAdd,reduceSub,reduceMul,Nat.reduceBEq,reduceLeDiff,reduceToNat,reduceLE,hQ,↓pI,h1,bO,bP]
 refine ⟨by omega,?_⟩
 refine aH (fun m S=>∃ s:List UInt8,s.length=m∧m≤f.length∧Lib.trimLeftB f 48=Lib.trimLeftB s 48∧S=⟨dI 64 [(0,.bool neg),(1,.str s),(2,.int .i64 e),(6,.bI 0 1 0 0)],[⟨27,6,[ay ⟨0,0,[],[],false,0⟩],true,1⟩]⟩) f.length ⟨f,rfl,Nat.le_refl _,rfl,?_⟩ ?_
 · simp only [bW,keepR,reduceAdd,nu,Nat.reduceBEq,map_nil]
 rintro m S ⟨s,hsl,hmf,htl,rfl⟩
 cases s with
 | nil=>
  have z0:((0:Int)<(([]:List UInt8).length:Int))=False:=eq_false (by simp)
  have hr:dS neg f e=.b_ [ay ⟨3,0,[],[],false,0⟩,.int .i64 0]:=by
   have:Lib.trimLeftB f 48=[]:=by rw [htl];rfl
   simp [dS,dN,h1,this]
  have he0:(([]:List UInt8)=[])=True:=eq_true rfl
  simp(maxSteps:=400000)only[↓aT,aU,BEq.rfl,reduceIte,reduceCtorEq,Nat.reduceLT,reduceAdd,reduceSub,reduceMul,Nat.reduceBEq,reduceLeDiff,reduceToNat,reduceLE,hQ,z0,he0,hr,bO,bP,List.length_nil]
  repeat' (first | omega | exact rfl | refine ⟨?_,?_⟩)
 | cons c s=>
  simp only [length_cons] at hsl
  have zl:((0:Int)<((c::s).length:Int))=True:=eq_true (by simp only [length_cons];omega)
  have hg0:(c::s)[0]?=some c:=rfl
  have hdr:(c::s).drop 1=s:=rfl
  have b48:(c.toNat:Int)=48↔c=48:=mq (k:=48) (by omega)
  by_cases hc:(c.toNat:Int)=48
  · have hcc:=b48.1 hc
    subst hcc
    rw [Tw] at htl
    have hwl:((48:UInt8)::s).length=m:=by simp only [length_cons];omega
    generalize hw:(48:UInt8)::s=w at *
    simp(maxSteps:=400000)only[↓aT,aU,BEq.rfl,reduceIte,reduceCtorEq,Nat.reduceLT,reduceAdd,reduceSub,reduceMul,Nat.reduceBEq,reduceLeDiff,reduceToNat,reduceLE,hQ,zl,hg0,hc,List.take_length,hdr]
    repeat' (first | omega | exact ⟨m-1,by omega,s,by omega,by omega,htl,rfl⟩ | exact rfl | refine ⟨?_,?_⟩)
  have hc':=eq_false hc
  have hcn:c≠48:=fun h=>hc (b48.2 h)
  rw [Tx hcn] at htl
  have hne:(c::s=[])=False:=eq_false (by simp)
  have hth:=TB (s:=s) hcn
  have hwl:(c::s).length=m:=by simp only [length_cons];omega
  generalize hw:c::s=w at *
  have hwne:w≠[]:=fun h=>hne.mp h
  rcases tf (e < -100000000) with h3 | h3
  · have hr:dS neg f e=.b_ [ay ⟨0,0,[],[],false,0⟩,.int .i64 2]:=by simp [dS,dN,h1,htl,hwne,of_eq_true h3,aM]
    simp(maxSteps:=400000)only[↓aT,aU,BEq.rfl,reduceIte,reduceCtorEq,Nat.reduceLT,reduceAdd,reduceSub,reduceMul,Nat.reduceBEq,reduceLeDiff,reduceToNat,reduceLE,hQ,zl,hg0,hc',hne,h3,hr,bO,bP]
    repeat' (first | omega | exact rfl | refine ⟨?_,?_⟩)
  rcases tf (100000000<e) with h4 | h4
  · have hr:dS neg f e=.b_ [ay ⟨0,0,[],[],false,0⟩,.int .i64 2]:=by simp [dS,dN,h1,htl,hwne,of_eq_true h4,aM]
    simp(maxSteps:=400000)only[↓aT,aU,BEq.rfl,reduceIte,reduceCtorEq,Nat.reduceLT,reduceAdd,reduceSub,reduceMul,Nat.reduceBEq,reduceLeDiff,reduceToNat,reduceLE,hQ,zl,hg0,hc',hne,h3,h4,hr,bO,bP]
    repeat' (first | omega | exact rfl | refine ⟨?_,?_⟩)
  have h3':=of_eq_false h3
  have h4':=of_eq_false h4
  have hrg:¬ (e < -100000000∨100000000<e):=by omega
  simp(maxSteps:=400000)only[↓aT,aU,BEq.rfl,reduceIte,reduceCtorEq,Nat.reduceLT,reduceAdd,reduceSub,reduceMul,Nat.reduceBEq,reduceLeDiff,reduceToNat,reduceLE,hQ,zl,hg0,hc',hne,h3,h4]
  refine aH (fun m' S=>∃ (u:List UInt8) (e':Int),u.length=m'∧m'≤m∧Lib.trimRightB w 48=Lib.trimRightB u 48∧e'+u.length=e+w.length∧S=⟨dI 64 [(0,.bool neg),(1,.str u),(2,.int .i64 e'),(6,.bI 0 1 0 0)],[⟨27,6,[ay ⟨0,0,[],[],false,0⟩],true,1⟩]⟩) m ⟨w,e,hwl,Nat.le_refl _,rfl,rfl,?_⟩ ?_
  · simp only [bW,keepR,reduceAdd,nu,Nat.reduceBEq,map_nil]
  rintro m' S ⟨u,e',hul,hum,htr,hee,rfl⟩
  have hun:u≠[]:=fun h=>by rw [htr,h] at hth;exact hth rfl
  have hup:0<u.length:=List.length_pos_iff.2 hun
  have hlt:u.length-1<u.length:=by omega
  have hgl:=List.getElem?_eq_getElem hlt
  have hsplit:u=u.take (u.length-1)++[u[u.length-1]]:=by
   conv=>lhs;rw [← List.take_append_drop (u.length-1) u]
   rw [List.drop_eq_getElem_cons hlt,List.drop_eq_nil_of_le (by omega)]
  generalize u[u.length-1]=d at hgl hsplit
  have tl:((u.length:Int)-1).toNat=u.length-1:=by omega
  have zl1:(0≤(u.length:Int)-1)=True:=eq_true (by omega)
  have ll1:((u.length:Int)-1<(u.length:Int))=True:=eq_true (by omega)
  have i1:(-9223372036854775808≤(u.length:Int)-1∧(u.length:Int)-1≤9223372036854775807)=True:=eq_true ⟨by omega,by omega⟩
  have d48:(d.toNat:Int)=48↔d=48:=mq (k:=48) (by omega)
  by_cases hd:(d.toNat:Int)=48
  · have hdd:=d48.1 hd
    have afp:Lib.trimRightB w 48=Lib.trimRightB (u.take (u.length-1)) 48:=by
     have hs2:u=u.take (u.length-1)++[48]:=by rw [← hdd];exact hsplit
     rw [htr]
     conv=>lhs;rw [hs2]
     exact Tz _
    have afR:(u.take (u.length-1)).length=u.length-1:=by rw [List.length_take];omega
    simp(maxSteps:=400000)only[↓aT,aU,BEq.rfl,reduceIte,reduceCtorEq,Nat.reduceLT,reduceAdd,reduceSub,reduceMul,Nat.reduceBEq,reduceLeDiff,reduceToNat,reduceLE,hQ,tl,zl1,ll1,i1,hgl,hd]
    repeat' (first | omega | exact ⟨m'-1,by omega,u.take (u.length-1),e'+1,by omega,by omega,afp,by omega,rfl⟩ | exact rfl | refine ⟨?_,?_⟩)
  have hd':=eq_false hd
  have htu:Lib.trimRightB w 48=u:=by rw [htr,hsplit];exact TA fun h=>hd (d48.2 h)
  have hmk:=TD (neg:=neg) h1 htl hwne hrg htu hee
  rcases tf (100<(u.length:Int)) with g1 | g1
  · have hr:dS neg f e=.b_ [ay ⟨0,0,[],[],false,0⟩,.int .i64 2]:=by
     have:vS u e'=true:=by have:=of_eq_true g1;simp [vS];omega
     rw [dS,hmk,this];rfl
    simp(maxSteps:=400000)only[↓aT,aU,BEq.rfl,reduceIte,reduceCtorEq,Nat.reduceLT,reduceAdd,reduceSub,reduceMul,Nat.reduceBEq,reduceLeDiff,reduceToNat,reduceLE,hQ,tl,zl1,ll1,i1,hgl,hd',g1,hr,bO,bP]
    repeat' (first | omega | exact rfl | refine ⟨?_,?_⟩)
  rcases tf (e' < -1000) with g2 | g2
  · have hr:dS neg f e=.b_ [ay ⟨0,0,[],[],false,0⟩,.int .i64 2]:=by
     have:vS u e'=true:=by have:=of_eq_true g2;simp [vS];omega
     rw [dS,hmk,this];rfl
    simp(maxSteps:=400000)only[↓aT,aU,BEq.rfl,reduceIte,reduceCtorEq,Nat.reduceLT,reduceAdd,reduceSub,reduceMul,Nat.reduceBEq,reduceLeDiff,reduceToNat,reduceLE,hQ,tl,zl1,ll1,i1,hgl,hd',g1,g2,hr,bO,bP]
    repeat' (first | omega | exact rfl | refine ⟨?_,?_⟩)
  rcases tf (1000<(u.length:Int)+e') with g3 | g3
  · have hr:dS neg f e=.b_ [ay ⟨0,0,[],[],false,0⟩,.int .i64 2]:=by
     have:vS u e'=true:=by have:=of_eq_true g3;simp [vS];omega
     rw [dS,hmk,this];rfl
    simp(maxSteps:=400000)only[↓aT,aU,BEq.rfl,reduceIte,reduceCtorEq,Nat.reduceLT,reduceAdd,reduceSub,reduceMul,Nat.reduceBEq,reduceLeDiff,reduceToNat,reduceLE,hQ,tl,zl1,ll1,i1,hgl,hd',g1,g2,g3,hr,bO,bP]
    repeat' (first | omega | exact rfl | refine ⟨?_,?_⟩)
  · have hr:dS neg f e=.b_ [ay ⟨3,0,[],u,neg,e'⟩,.int .i64 0]:=by
     have:vS u e'=false:=by
      have g1':=of_eq_false g1
      have g2':=of_eq_false g2
      have g3':=of_eq_false g3
      simp only [vS,Bool.or_eq_false_iff,decide_eq_false_iff_not];omega
     rw [dS,hmk,this];rfl
    simp(maxSteps:=400000)only[↓aT,aU,BEq.rfl,reduceIte,reduceCtorEq,Nat.reduceLT,reduceAdd,reduceSub,reduceMul,Nat.reduceBEq,reduceLeDiff,reduceToNat,reduceLE,hQ,tl,zl1,ll1,i1,hgl,hd',g1,g2,g3,hr,bO,bP]
    repeat' (first | omega | exact rfl | refine ⟨?_,?_⟩)
def m_:dF:=fun args objs K=>match args with
 | [.bool neg,.str f,.int .i64 e]=>(f.length≤1000000)∧(-1000000000≤e∧e≤1000000000)∧K (dS neg f e) objs 0
 | _=>False
theorem Qb:aB Tryz.prog 112 (m_):=by
 intro args objs K h
 unfold m_ at h
 split at h
 · rename_i neg f e
   obtain ⟨h1,h2,hk⟩:=h
   exact ⟨_,_,_,.pure _ rfl (M5 neg f e h1 h2),hk⟩
 · exact h.elim
theorem Qc (n:Nd) (e:Int) (h1:-2000≤e∧e≤n.e∧n.e≤2000) (h2:n.s.length≤100000):ai Tryz.prog 109 [ay n,.int .i64 e] [] (.str (mh n e)) []:=by
 refine yX.bg (T:=aR Tryz.prog []) 0 hD (aj ah) a_ (by decide) fun Q hQ=>?_
 (conv=>arg 4;cbv);simp(maxSteps:=400000)only[↓aT,aU,BEq.rfl,reduceIte,reduceCtorEq,Nat.reduceLT,reduceAdd,reduceSub,reduceMul,Nat.reduceBEq,reduceLeDiff,reduceToNat,reduceLE,hQ]
 refine aH (fun m S=>∃ k:Nat,(k:Int)+m=n.e-e∧S=⟨dI 19 [(2,.bI 0 1 0 0),(5,.str (n.s++List.replicate k 48)),(6,.int .i64 (e+k))],[⟨27,6,[ay n],true,1⟩]⟩) (n.e-e).toNat ⟨0,by omega,?_⟩ ?_
 · simp only [bW,keepR,reduceAdd,nu,Nat.reduceBEq,map_nil]
   simp
 rintro m S ⟨k,hkm,rfl⟩
 have hl:(n.s++List.replicate k 48).length=n.s.length+k:=by rw [List.length_append,List.length_replicate]
 rcases Nat.eq_zero_or_pos m with h0 | h0
 · have hlt:(e+(k:Int)<n.e)=False:=eq_false (by omega)
   have hr:mh n e=n.s++List.replicate k 48:=by unfold mh;congr 2;omega
   simp(maxSteps:=400000)only[↓aT,aU,BEq.rfl,reduceIte,reduceCtorEq,Nat.reduceLT,reduceAdd,reduceSub,reduceMul,Nat.reduceBEq,reduceLeDiff,reduceToNat,reduceLE,hQ,hlt,hr]
 · have hlt:(e+(k:Int)<n.e)=True:=eq_true (by omega)
   have hs:n.s++List.replicate k 48++[48]=n.s++List.replicate (k+1) 48:=by rw [List.append_assoc,List.replicate_succ']
   simp(maxSteps:=400000)only[↓aT,aU,BEq.rfl,reduceIte,reduceCtorEq,Nat.reduceLT,reduceAdd,reduceSub,reduceMul,Nat.reduceBEq,reduceLeDiff,reduceToNat,reduceLE,hQ,hlt]
   repeat' (first | omega | exact ⟨m-1,by omega,k+1,by omega,by rw [hs,Int.natCast_add,Int.natCast_one,Int.add_assoc]⟩ | exact rfl | refine ⟨?_,?_⟩)
def kR:dF:=fun args objs K=>match args with
 | [a0,.int .i64 e]=>fB ay a0 (HK.mk:HK fun n=>(-2000≤e∧e≤n.e∧n.e≤2000)∧(n.s.length≤100000)∧K (.str (mh n e)) objs 0)
 | _=>False
theorem M6:aB Tryz.prog 109 (kR):=by
 intro args objs K h
 unfold kR at h
 split at h
 · rename_i a0 e
   obtain ⟨n,rfl,h1,h2,hk⟩:=h
   exact ⟨_,_,_,.pure _ rfl (Qc n e h1 h2),hk⟩
 · exact h.elim
end Lp
namespace Lp
open Go Go.Proofs Go.Sort Go.RowKit
open List (length_cons length_take)
def iOf:Value→Int
 | .int _ q=>q
 | _=>0
def kV (b:UInt8):Value:=.int .u8 (b.toNat:Int)
set_option maxRecDepth 1000000 in
set_option maxHeartbeats 4000000 in
theorem Xa (s:List UInt8) (hlen:s.length≤1000000) (w:World) (cap:Nat) (W1:World) (g n:Nat) (d0:Array UInt8) (hn:d0.size=n+1) (h0:∃ j,j≤n∧d0[j]!≠57) (hn1:n≤1000000)
 (KM:(convert 9 146 (.string (⟨#[48]⟩++⟨⟨s⟩⟩))).run Tryz.prog w=.ok (.slice (some ⟨g,0,none⟩) (n+1) cap) W1)
 (hH:Holds kV W1 g 0 d0)
 (hback:∀ dk:Array UInt8,dk.size=n+1→(convert 146 9 (.slice (some ⟨g,0,none⟩) (n+1) cap)).run Tryz.prog (putRow kV W1 g 0 dk)=.ok (.string ⟨dk⟩) (putRow kV W1 g 0 dk)) :
 Calls Tryz.prog 110 #[.string ⟨⟨s⟩⟩] w fun e w'=>∃ (k:Nat) (dk:Array UInt8),k≤n∧dk.size=n+1∧(∀ j,j≤k→dk[j]! =d0[j]!)∧(∀ j,k<j→j≤n→dk[j]! =48∧d0[j]! =57)∧d0[k]!≠57∧e=.returned (.string ⟨dk.setIfInBounds k (dk[k]!+1)⟩)∧w'=putRow kV W1 g 0 (dk.setIfInBounds k (dk[k]!+1)):=by
 go_enter Tryz.func110,Tryz.ntmps110
 go_wp2
 rw [← putRow_self kV W1 g 0 d0 hH]
 go_loopw [4] (fun i wr=>∃ (k:Nat) (dk:Array UInt8),k≤n∧i=.int .i64 k∧dk.size=n+1∧(∀ j,j≤k→dk[j]! =d0[j]!)∧(∀ j,k<j→j≤n→dk[j]! =48∧d0[j]! =57)∧wr=putRow kV W1 g 0 dk) (fun i _=>(iOf i).toNat)
 case atStart=>exact ⟨n,d0,Nat.le_refl _,by simp,hn,fun _ _=>rfl,fun j h1 h2=>by omega,rfl⟩
 case round=>
  obtain ⟨k,dk,hk,rfl,hdk,hr1,hr2,rfl⟩:=hrel
  have hc:=cell?_putRow kV W1 g 0 d0 dk hH (by omega) k (by omega)
  have hf:(putRow kV W1 g 0 dk).frozen? ⟨g,0+k,none⟩=false:=by rw [frozen?_putRow];exact (hH k (by omega)).2
  rw [Nat.zero_add] at hc hf
  have hs1:=putRow_set kV W1 g 0 dk k 48 (by omega)
  have hs2:=putRow_set kV W1 g 0 dk k (dk[k]!+1) (by omega)
  rw [Nat.zero_add] at hs1 hs2
  have hb2:=hback (dk.setIfInBounds k (dk[k]!+1)) (by simpa using hdk)
  obtain ⟨x,hx⟩:∃ x,dk[k]! =x:=⟨_,rfl⟩
  rw [hx] at hc hb2 hs2
  have eS:(x.toNat:Int)=57↔x=57:=⟨fun h=>UInt8.toNat_inj.1 (by have:(57:UInt8).toNat=57:=rfl;omega),fun h=>by rw [h];rfl⟩
  have hx1:((x+1).toNat:Int)=((x.toNat:Int)+1) % 256:=by
   have h1:(1:UInt8).toNat=1:=rfl
   have h2:=x.toNat_lt
   rw [UInt8.toNat_add];omega
  unfold kV at hc hs1 hs2 hb2
  rw [hx1] at hs2
  have hP:(((48:UInt8).toNat:Nat):Int)=48:=rfl
  rw [hP] at hs1
  generalize hwq:putRow (fun b:UInt8=>Value.int .u8 (b.toNat:Int)) W1 g 0 dk=wq at *
  have ac7:putRow kV W1 g 0 dk=wq:=hwq
  rw [ac7] at hf ⊢
  generalize hX:(x.toNat:Int)=X at *
  by_cases hS:X=57
  · subst hS
    have hxS:=eS.1 rfl
    have hk1:1≤k:=by
     rcases Nat.eq_zero_or_pos k with h | h
     · subst h
       obtain ⟨j,hj1,hj2⟩:=h0
       rcases Nat.eq_zero_or_pos j with h' | h'
       · subst h'
         exact absurd ((hr1 0 (Nat.le_refl _)).symm.trans (hx.trans hxS)) hj2
       · exact absurd (hr2 j h' hj1).2 hj2
     · exact h
    go_wp2
    refine ⟨⟨k-1,dk.setIfInBounds k 48,by omega,by congr 1;omega,by simpa using hdk,fun j hj=>?_,fun j h1 h2=>?_,rfl⟩,by simp [iOf];omega⟩
    · rw [getElem!_set_other dk k j 48 (by omega)];exact hr1 j (by omega)
    · by_cases hjk:j=k
      · subst hjk
        rw [getElem!_set_same dk j 48 (by omega),← hr1 j (Nat.le_refl _),hx]
        exact ⟨rfl,hxS⟩
      · rw [getElem!_set_other dk k j 48 hjk];exact hr2 j (by omega) h2
  · have hSb:(X==57)=false:=by simpa using hS
    go_wp2
    go_ret
    refine ⟨k,dk,hk,hdk,hr1,hr2,?_,by rw [hx];rfl,?_⟩
    · rw [← hr1 k (Nat.le_refl _),hx];intro h;exact hS (eS.2 h)
    · rw [hx];rfl
set_option maxRecDepth 1000000 in
set_option maxHeartbeats 4000000 in
theorem Xb (s:List UInt8) (hlen:s.length≤1000000) (w:World) (cap:Nat) (W1:World) (g n:Nat) (d0:Array UInt8) (hn:d0.size=n+1) (h0:∃ j,j≤n∧d0[j]!≠48) (hn1:n≤1000000)
 (KM:(convert 9 146 (.string ⟨⟨s⟩⟩)).run Tryz.prog w=.ok (.slice (some ⟨g,0,none⟩) (n+1) cap) W1)
 (hH:Holds kV W1 g 0 d0)
 (hback:∀ dk:Array UInt8,dk.size=n+1→(convert 146 9 (.slice (some ⟨g,0,none⟩) (n+1) cap)).run Tryz.prog (putRow kV W1 g 0 dk)=.ok (.string ⟨dk⟩) (putRow kV W1 g 0 dk)) :
 Calls Tryz.prog 111 #[.string ⟨⟨s⟩⟩] w fun e w'=>∃ (k:Nat) (dk:Array UInt8),k≤n∧dk.size=n+1∧(∀ j,j≤k→dk[j]! =d0[j]!)∧(∀ j,k<j→j≤n→dk[j]! =57∧d0[j]! =48)∧d0[k]!≠48∧e=.returned (.string ⟨dk.setIfInBounds k (dk[k]!-1)⟩)∧w'=putRow kV W1 g 0 (dk.setIfInBounds k (dk[k]!-1)):=by
 go_enter Tryz.func111,Tryz.ntmps111
 go_wp2
 rw [← putRow_self kV W1 g 0 d0 hH]
 go_loopw [4] (fun i wr=>∃ (k:Nat) (dk:Array UInt8),k≤n∧i=.int .i64 k∧dk.size=n+1∧(∀ j,j≤k→dk[j]! =d0[j]!)∧(∀ j,k<j→j≤n→dk[j]! =57∧d0[j]! =48)∧wr=putRow kV W1 g 0 dk) (fun i _=>(iOf i).toNat)
 case atStart=>exact ⟨n,d0,Nat.le_refl _,by simp,hn,fun _ _=>rfl,fun j h1 h2=>by omega,rfl⟩
 case round=>
  obtain ⟨k,dk,hk,rfl,hdk,hr1,hr2,rfl⟩:=hrel
  have hc:=cell?_putRow kV W1 g 0 d0 dk hH (by omega) k (by omega)
  have hf:(putRow kV W1 g 0 dk).frozen? ⟨g,0+k,none⟩=false:=by rw [frozen?_putRow];exact (hH k (by omega)).2
  rw [Nat.zero_add] at hc hf
  have hs1:=putRow_set kV W1 g 0 dk k 57 (by omega)
  have hs2:=putRow_set kV W1 g 0 dk k (dk[k]!-1) (by omega)
  rw [Nat.zero_add] at hs1 hs2
  have hb2:=hback (dk.setIfInBounds k (dk[k]!-1)) (by simpa using hdk)
  obtain ⟨x,hx⟩:∃ x,dk[k]! =x:=⟨_,rfl⟩
  rw [hx] at hc hb2 hs2
  have eS:(x.toNat:Int)=48↔x=48:=⟨fun h=>UInt8.toNat_inj.1 (by have:(48:UInt8).toNat=48:=rfl;omega),fun h=>by rw [h];rfl⟩
  have hx1:((x-1).toNat:Int)=((x.toNat:Int)-1) % 256:=by
   have h1:(1:UInt8).toNat=1:=rfl
   have h2:=x.toNat_lt
   rw [UInt8.toNat_sub];omega
  unfold kV at hc hs1 hs2 hb2
  rw [hx1] at hs2
  have hP:(((57:UInt8).toNat:Nat):Int)=57:=rfl
  rw [hP] at hs1
  generalize hwq:putRow (fun b:UInt8=>Value.int .u8 (b.toNat:Int)) W1 g 0 dk=wq at *
  have ac7:putRow kV W1 g 0 dk=wq:=hwq
  rw [ac7] at hf ⊢
  generalize hX:(x.toNat:Int)=X at *
  by_cases hS:X=48
  · subst hS
    have hxS:=eS.1 rfl
    have hk1:1≤k:=by
     rcases Nat.eq_zero_or_pos k with h | h
     · subst h
       obtain ⟨j,hj1,hj2⟩:=h0
       rcases Nat.eq_zero_or_pos j with h' | h'
       · subst h'
         exact absurd ((hr1 0 (Nat.le_refl _)).symm.trans (hx.trans hxS)) hj2
       · exact absurd (hr2 j h' hj1).2 hj2
     · exact h
    go_wp2
    refine ⟨⟨k-1,dk.setIfInBounds k 57,by omega,by congr 1;omega,by simpa using hdk,fun j hj=>?_,fun j h1 h2=>?_,rfl⟩,by simp [iOf];omega⟩
    · rw [getElem!_set_other dk k j 57 (by omega)];exact hr1 j (by omega)
    · by_cases hjk:j=k
      · subst hjk
        rw [getElem!_set_same dk j 57 (by omega),← hr1 j (Nat.le_refl _),hx]
        exact ⟨rfl,hxS⟩
      · rw [getElem!_set_other dk k j 57 hjk];exact hr2 j (by omega) h2
  · have hSb:(X==48)=false:=by simpa using hS
    go_wp2
    go_ret
    refine ⟨k,dk,hk,hdk,hr1,hr2,?_,by rw [hx];rfl,?_⟩
    · rw [← hr1 k (Nat.le_refl _),hx];intro h;exact hS (eS.2 h)
    · rw [hx];rfl
theorem below_putRow {B:Nat}{a w:World}(h:Below B a w){g:Nat}(hg:B≤g) (d:Array UInt8):Below B a (putRow kV w g 0 d):=
 h.trans ⟨rfl,rfl,rfl,by simp,fun k hk=>by simp only [putRow,mapBlock,Array.getElem?_modify];rw [if_neg (by omega)]⟩
theorem Qd (w:World) (l:List UInt8):∃ (cap:Nat) (W1:World),(convert 9 146 (.string ⟨⟨l⟩⟩)).run Tryz.prog w=.ok (.slice (some ⟨w.heap.size,0,none⟩) l.length cap) W1∧Holds kV W1 w.heap.size 0 ⟨l⟩∧Below w.heap.size w W1∧
  ∀ dk:Array UInt8,dk.size=l.length→(convert 146 9 (.slice (some ⟨w.heap.size,0,none⟩) l.length cap)).run Tryz.prog (putRow kV W1 w.heap.size 0 dk)=.ok (.string ⟨dk⟩) (putRow kV W1 w.heap.size 0 dk):=by
 have us:Tryz.prog.underlying 9=some .string:=by kernel_rfl
 have ub:Tryz.prog.underlying 146=some (.slice 5):=by kernel_rfl
 have u8:Tryz.prog.underlying 5=some (.int .u8):=by kernel_rfl
 have KM:=run_bytes_of_string (P:=Tryz.prog) w 9 146 5 ⟨⟨l⟩⟩ us ub u8
 have hsz:(ByteArray.mk ⟨l⟩).size=l.length:=by simp [ByteArray.size]
 rw [hsz] at KM
 generalize hcap:grownCap w l.length 0 5=cap at KM
 generalize hC:bytesRow ⟨⟨l⟩⟩ cap=C at KM
 have hCl:l.length≤C.size:=by rw [← hC];simp [bytesRow]
 have hH:Holds kV (w.drew.alloc (.cells C 5 (C.size,C.size+1))) w.heap.size 0 ⟨l⟩:=by
  intro j hj
  have hj':j<l.length:=hj
  have h1:=World.cell?_alloc_mark w.drew C 5 (C.size,C.size+1) (0+j)
  have h2:=World.frozen?_alloc_mark w.drew C 5 C.size (C.size+1) (0+j)
  have hh:w.drew.heap.size=w.heap.size:=rfl
  rw [hh] at h1 h2
  refine ⟨h1.trans ?_,h2.trans ?_⟩
  · rw [Nat.zero_add,← hC,bytesRow_at ⟨⟨l⟩⟩ cap j hj]
    simp [kV,hj']
  · have:decide (C.size≤0+j)=false:=decide_eq_false (by omega)
    rw [this];rfl
 refine ⟨cap,_,KM,hH,(Below.refl _ _).drew.alloc (Nat.le_refl _) _,fun dk hdk=>?_⟩
 have aew:=holds_putRow kV _ w.heap.size 0 ⟨l⟩ dk hH hdk
 have:=run_convert_bytes_back (P:=Tryz.prog) (putRow kV (w.drew.alloc (.cells C 5 (C.size,C.size+1))) w.heap.size 0 dk) 146 9 5 ⟨w.heap.size,0,none⟩ cap dk.toList ub u8 us (fun j hj=>by
  have hj':j<dk.size:=by simpa using hj
  have:=(aew j hj').1
  rw [add_lit,this,kV]
  simp [hj'])
 have hl:dk.toList.length=l.length:=by simpa using hdk
 rw [hl] at this
 simpa using this
theorem Qe {b:List UInt8}{c:UInt8}{k:Nat}(hk:k<b.length) (h1:b[k]?≠some c) (h2:∀ j,k<j→j<b.length→b[j]?=some c):(Lib.trimRightB b c).length=k+1:=by
 have hb:b=b.take k++[b[k]]++List.replicate (b.length-(k+1)) c:=by
  apply List.ext_getElem?
  intro j
  rcases Nat.lt_trichotomy j k with h | h | h
  · rw [List.append_assoc,List.getElem?_append_left (by rw [length_take];omega),List.getElem?_take,if_pos h]
  · subst h
    rw [List.getElem?_append_left (by simp;omega),List.getElem?_append_right (by rw [length_take];omega),List.getElem?_eq_getElem hk]
    simp [Nat.min_eq_left (Nat.le_of_lt hk)] <;> omega
  · have hl:(b.take k++[b[k]]).length=k+1:=by simp;omega
    rw [List.getElem?_append_right (by omega),hl,List.getElem?_replicate]
    rcases Nat.lt_or_ge j b.length with g | g
    · rw [if_pos (by omega),h2 j h g]
    · rw [if_neg (by omega),List.getElem?_eq_none g]
 have hne:b[k]≠c:=fun e=>h1 (by rw [List.getElem?_eq_getElem hk,e])
 have E5:∀ (n:Nat) (l:List UInt8),List.dropWhile (·==c) (List.replicate n c++l)=List.dropWhile (·==c) l:=by
  intro n l
  induction n with
  | zero=>rfl
  | succ n ih=>rw [List.replicate_succ,List.cons_append,List.dropWhile_cons];simp [ih]
 unfold Lib.trimRightB
 rw [hb,List.reverse_append,List.reverse_replicate,E5,List.reverse_append]
 have:(b[k]==c)=false:=by simpa using hne
 simp only [List.reverse_cons,List.reverse_nil,List.nil_append,List.cons_append,List.dropWhile_cons,this,Bool.false_eq_true,if_false,List.length_append,List.length_reverse,length_cons,List.length_nil,length_take]
 omega
def ZB (b:List UInt8):List UInt8:=b.take ((Lib.trimRightB b 57).length-1)++(b.getD ((Lib.trimRightB b 57).length-1) 0+1)::List.replicate (b.length-(Lib.trimRightB b 57).length) 48
def rG (s:List UInt8):List UInt8:=ZB (48::s)
theorem Qf {b:List UInt8}{dk:Array UInt8}{k:Nat}{x p:UInt8}(hdk:dk.size=b.length) (hk:k<b.length) (h1:∀ j,j≤k→dk[j]! =(⟨b⟩:Array UInt8)[j]!) (h2:∀ j,k<j→j<b.length→dk[j]! =p) :
  dk.setIfInBounds k x=(b.take k++x::List.replicate (b.length-(k+1)) p).toArray:=by
 apply Array.ext_getElem?
 intro j
 rw [Array.getElem?_setIfInBounds,hdk]
 have hg:∀ (i:Nat) (_:i<dk.size),dk[i]?=some dk[i]!:=fun i hi=>by rw [getElem!_pos dk i hi];exact Array.getElem?_eq_getElem hi
 have hR:(b.take k++x::List.replicate (b.length-(k+1)) p).toArray[j]?=(b.take k++x::List.replicate (b.length-(k+1)) p)[j]?:=List.getElem?_toArray
 rw [hR]
 rcases Nat.lt_trichotomy j k with h | h | h
 · rw [if_neg (by omega),hg j (by omega),h1 j (by omega),List.getElem?_append_left (by rw [length_take];omega),List.getElem?_take,if_pos h,getElem!_pos (⟨b⟩:Array UInt8) j (by simp;omega),List.getElem?_eq_getElem (by omega)]
   rfl
 · subst h
   rw [if_pos rfl,if_pos hk,List.getElem?_append_right (by rw [length_take];omega)]
   simp [Nat.min_eq_left (Nat.le_of_lt hk)]
 · rw [if_neg (by omega)]
   have hl:(b.take k).length=k:=by rw [length_take];omega
   rw [List.getElem?_append_right (by omega),hl,show j-k=(j-k-1)+1 by omega,List.getElem?_cons_succ,List.getElem?_replicate]
   rcases Nat.lt_or_ge j b.length with g | g
   · rw [if_pos (by omega),hg j (by omega),h2 j h g]
   · rw [if_neg (by omega),Array.getElem?_eq_none (by omega)]
theorem vB {b:List UInt8}{j:Nat}(h:j<b.length):b[j]?=some ((⟨b⟩:Array UInt8)[j]!):=by
 rw [getElem!_pos (⟨b⟩:Array UInt8) j (by simpa using h),List.getElem?_eq_getElem h];rfl
theorem Xc (s:List UInt8) (hs:s.length≤1000000):ai Tryz.prog 110 [.str s] [] (.str (rG s)) []:=by
 refine ai.rD ⟨_,Tryz.func110,by kernel_rfl,by kernel_rfl⟩ fun w vs ok hg hr=>?_
 obtain ⟨u,rfl,h⟩:=ac0 hr
 cases kH h
 obtain ⟨cap,W1,h1,h2,h3,h4⟩:=Qd w (48::s)
 have hB:(⟨#[48]⟩++⟨⟨s⟩⟩:ByteArray)=⟨⟨48::s⟩⟩:=by
  apply ByteArray.ext
  rw [ByteArray.data_append]
  apply Array.ext'
  simp
 refine (Xa s hs w cap W1 w.heap.size s.length ⟨48::s⟩ (by simp) ⟨0,Nat.zero_le _,by rw [show (⟨48::s⟩:Array UInt8)[0]! =48 from rfl];decide⟩ hs (by rw [hB];exact h1) h2 h4).mono ?_
 rintro e w' ⟨k,dk,k1,k2,k3,k4,k5,rfl,rfl⟩
 have kl:k<(48::s).length:=by simp only [length_cons];omega
 have ht:=Qe (b:=48::s) (c:=57) kl (by rw [vB kl];exact fun e=>k5 (Option.some.inj e)) (fun j h1 h2=>by
  rw [vB h2,(k4 j h1 (by simp only [length_cons] at h2;omega)).2])
 have hrow:=Qf (b:=48::s) (x:=dk[k]!+1) (p:=48) (by rw [k2];rfl) kl k3 (fun j h1 h2=>(k4 j h1 (by simp only [length_cons] at h2;omega)).1)
 have hres:(48::s).take k++(dk[k]!+1)::List.replicate ((48::s).length-(k+1)) 48=rG s:=by
  rw [rG,ZB,ht,Nat.add_sub_cancel,List.getD_eq_getElem?_getD,vB kl,k3 k (Nat.le_refl _)];rfl
 rw [hres] at hrow
 exact ⟨_,rfl,fun w ok=>by rw [hrow];exact .str _,below_putRow h3 (Nat.le_refl _) _⟩
theorem Xd (s:List UInt8) (h0:0<(Lib.trimRightB s 48).length) (hs:s.length≤1000000):ai Tryz.prog 111 [.str s] [] (.str (ou s)) []:=by
 refine ai.rD ⟨_,Tryz.func111,by kernel_rfl,by kernel_rfl⟩ fun w vs ok hg hr=>?_
 obtain ⟨u,rfl,h⟩:=ac0 hr
 cases kH h
 obtain ⟨cap,W1,h1,h2,h3,h4⟩:=Qd w s
 obtain ⟨d,hd,hne⟩:=Ar h0
 have hdl:=(List.getElem?_eq_some_iff.1 hd).1
 obtain ⟨n,hn⟩:∃ n,s.length=n+1:=⟨s.length-1,by omega⟩
 rw [hn] at h1 h4
 refine (Xb s hs w cap W1 w.heap.size n ⟨s⟩ hn ⟨(Lib.trimRightB s 48).length-1,by omega,by
  rw [vB hdl] at hd;rw [Option.some.inj hd];exact hne⟩ (by omega) h1 h2 h4).mono ?_
 rintro e w' ⟨k,dk,k1,k2,k3,k4,k5,rfl,rfl⟩
 have kl:k<s.length:=by omega
 have ht:=Qe (b:=s) (c:=48) kl (by rw [vB kl];exact fun e=>k5 (Option.some.inj e)) (fun j h1 h2=>by
  rw [vB h2,(k4 j h1 (by omega)).2])
 have hrow:=Qf (b:=s) (x:=dk[k]!-1) (p:=57) (by rw [k2,hn]) kl k3 (fun j h1 h2=>(k4 j h1 (by omega)).1)
 have hres:s.take k++(dk[k]!-1)::List.replicate (s.length-(k+1)) 57=ou s:=by
  rw [ou,ht,Nat.add_sub_cancel,List.getD_eq_getElem?_getD,vB kl,k3 k (Nat.le_refl _)];rfl
 rw [hres] at hrow
 exact ⟨_,rfl,fun w ok=>by rw [hrow];exact .str _,below_putRow h3 (Nat.le_refl _) _⟩
def Cg:dF:=fun args objs K=>match args with
 | [.str s]=>(s.length≤1000000)∧K (.str (rG s)) objs 0
 | _=>False
theorem TF:aB Tryz.prog 110 (Cg):=by
 intro args objs K h
 unfold Cg at h
 split at h
 · rename_i s
   obtain ⟨h1,hk⟩:=h
   exact ⟨_,_,_,.pure _ rfl (Xc s h1),hk⟩
 · exact h.elim
def vC:dF:=fun args objs K=>match args with
 | [.str s]=>(0<(Lib.trimRightB s 48).length)∧(s.length≤1000000)∧K (.str (ou s)) objs 0
 | _=>False
theorem TG:aB Tryz.prog 111 (vC):=by
 intro args objs K h
 unfold vC at h
 split at h
 · rename_i s
   obtain ⟨h1,h2,hk⟩:=h
   exact ⟨_,_,_,.pure _ rfl (Xd s h1 h2),hk⟩
 · exact h.elim
theorem Xe (s:List UInt8):(rG s).length≤s.length+2:=by
 unfold rG ZB
 have:=nU (48::s) 57
 simp only [List.length_append,length_take,length_cons,List.length_replicate] at *;omega
theorem TH (neg:Bool) (x:List UInt8) (e:Int):dN neg (48::x) e=dN neg x e:=by
 have h1:gq (48::x)=gq x:=by simp [gq]
 have h2:Lib.trimLeftB (48::x) 48=Lib.trimLeftB x 48:=rfl
 unfold dN
 rw [h1,h2]
theorem TI (neg:Bool) (s:List UInt8) (e:Int):dN neg (rG s) e=dN neg (NQ s) e:=by
 have hrev:Lib.trimRightB (48::s) 57=if Lib.trimRightB s 57=[] then [48] else 48::Lib.trimRightB s 57:=by
  unfold Lib.trimRightB
  rw [List.reverse_cons]
  cases h:s.reverse.dropWhile (·==(57:UInt8)) with
  | nil=>
   have:(s.reverse++[48]).dropWhile (·==(57:UInt8))=[48]:=by
    rw [List.dropWhile_append,h];rfl
   rw [this];rfl
  | cons a t=>
   have:(s.reverse++[48]).dropWhile (·==(57:UInt8))=(a::t)++[48]:=by
    rw [List.dropWhile_append,h];rfl
   rw [this]
   simp
 by_cases h:Lib.trimRightB s 57=[]
 · rw [if_pos h] at hrev
   have:rG s=NQ s:=by
    rw [rG,ZB,hrev,NQ,h];rfl
   rw [this]
 · rw [if_neg h] at hrev
   have hl:0<(Lib.trimRightB s 57).length:=List.length_pos_iff.2 h
   have:rG s=48::NQ s:=by
    rw [rG,ZB,hrev,NQ,if_neg (by omega)]
    obtain ⟨n,hn⟩:∃ n,(Lib.trimRightB s 57).length=n+1:=⟨_,(Nat.succ_pred_eq_of_pos hl).symm⟩
    simp [hn]
   rw [this,TH]
end Lp
namespace Lp
open Go Go.Proofs Go.RowKit
open List (append_assoc append_nil cons_append length_append length_cons length_map length_nil map_nil nil_append take_length)
open Nat (le_succ lt_irrefl lt_or_ge reduceAdd reduceLeDiff reduceMul reduceSub)
open Int (reduceLE reduceToNat)
theorem afq:vP bf:=by intro d n o x;cases d <;> rfl
theorem aex (l:List fQ):eY 1 0 [⟨56,1,[bf l],true,1⟩] (.bI 0 1 0 0)=.addr (bf l):=by
 simp only [eY,Nat.not_lt_zero,if_false,iY,List.getElem?_cons_zero,Nat.zero_le,decide_true,Bool.and_self,BEq.rfl,if_true]
 rw [afq]
theorem E8 (l:List fQ):ai Tryz.prog 102 [bf l] [] (.fn 113 [] [.addr (bf l)]) []:=by
 refine Bj.bg (T:=aR Tryz.prog []) 0 hD (aj ah) a_ (by decide) fun Q hQ=>?_
 (conv=>arg 4;cbv);simp(maxSteps:=400000)only[↓aT,aU,BEq.rfl,reduceIte,reduceCtorEq,Nat.reduceLT,reduceAdd,reduceSub,reduceMul,Nat.reduceBEq,reduceLeDiff,reduceToNat,reduceLE,hQ]
 refine aN _ (Weak.freeze 1 0 (Nat.zero_le _) _) ?_
 simp(maxSteps:=400000)only[↓aT,aU,BEq.rfl,reduceIte,reduceCtorEq,Nat.reduceLT,reduceAdd,reduceSub,reduceMul,Nat.reduceBEq,reduceLeDiff,reduceToNat,reduceLE,hQ,aex]
theorem ac8 (O:List Obj) :
  (∀ x X,(O++x::X)[O.length]?=some x)∧(∀ x y X,(O++x::y::X)[O.length+1]?=some y)∧(∀ x y z X,(O++x::y::z::X)[O.length+2]?=some z)∧
  (∀ x z X,(O++x::X).set O.length z=O++z::X)∧(∀ x y z X,(O++x::y::X).set (O.length+1) z=O++x::z::X)∧(∀ x y z u X,(O++x::y::z::X).set (O.length+2) u=O++x::y::u::X):=by
 refine ⟨fun x X=>?_,fun x y X=>?_,fun x y z X=>?_,fun x z X=>?_,fun x y z X=>?_,fun x y z u X=>?_⟩
 · rw [List.getElem?_append_right (Nat.le_refl _)];simp
 · rw [List.getElem?_append_right (by omega)];simp
 · rw [List.getElem?_append_right (by omega)];simp
 · rw [List.set_append_right _ _ (Nat.le_refl _)];simp
 · rw [List.set_append_right _ _ (by omega)];simp
 · rw [List.set_append_right _ _ (by omega)];simp
theorem U1:PV.vX (.agg ⟨[.int .i64 0,.int .i64 0,.int .i64 0,.string ⟨⟨[]⟩⟩,.string ⟨⟨[]⟩⟩,.bool false,.int .i64 0]⟩)=bX ⟨0,⟨0,0,[],[],false,0⟩⟩:=rfl
def tX (xs:List Nd) (ver:Nat):Obj:=⟨27,6,xs.map ay,true,ver⟩
def Ch (a:fQ):List Nd:=if a.c.kind=3 then a.c::((if (dw a.c true).2 then [(dw a.c true).1] else [])++if (dw a.c false).2 then [(dw a.c false).1] else []) else []
def Ci (a:fQ):List Nd:=if a.c.kind=4 then [a.c,⟨4,0,[],a.c.s++[0],false,0⟩] else []
theorem vD:∀ l,jZ l=(l.map Ch).flatten
 | []=>rfl
 | a::l=>by simp only [jZ,List.map_cons,List.flatten_cons,vD l];rfl
theorem vE:∀ l,lT l=(l.map Ci).flatten
 | []=>rfl
 | a::l=>by simp only [lT,List.map_cons,List.flatten_cons,vE l];rfl
theorem Ic {l:List fQ}{i:Nat}{a:fQ}(h:l[i]?=some a):jZ (l.take (i+1))=jZ (l.take i)++Ch a:=by
 rw [vD,vD,List.take_add_one,h];simp
theorem Ie {l:List fQ}{i:Nat}{a:fQ}(h:l[i]?=some a):lT (l.take (i+1))=lT (l.take i)++Ci a:=by
 rw [vE,vE,List.take_add_one,h];simp
theorem tY:∀ l:List fQ,(jZ l).length≤3*l.length
 | []=>by simp [jZ]
 | a::l=>by
  have:=tY l
  simp only [jZ,length_append,length_cons]
  split
  · simp only [length_cons,length_append]
    split <;> split <;> simp only [length_cons,length_nil] <;> omega
  · simp only [length_nil];omega
theorem yC:∀ l:List fQ,(lT l).length≤2*l.length
 | []=>by simp [lT]
 | a::l=>by
  have:=yC l
  simp only [lT,length_append,length_cons]
  split
  · simp only [length_cons,length_nil];omega
  · simp only [length_nil];omega
def Cj:List Nd:=[⟨0,0,[],[],false,0⟩,⟨1,0,[],[],false,0⟩,⟨2,0,[],[],false,0⟩,⟨3,0,[],[],false,0⟩]
def FR (a:fQ) (b:Bool):List Nd:=if (dw a.c b).2 then [(dw a.c b).1] else []
theorem DU {a:fQ}(h:a.c.kind=3):Ch a=[a.c]++FR a true++FR a false:=by
 rw [Ch,if_pos h];simp [FR]
theorem vT (xs:List Nd) (n:Nd):List.map ay xs++[ay n]=List.map ay (xs++[n]):=by simp
theorem ab_ (xs:List Nd) (n m:Nd):List.map ay xs++[ay n,ay m]=List.map ay (xs++[n,m]):=by simp
theorem E9 (n:Nd):Nd.mk n.kind n.many n.name n.s n.neg n.e=n:=rfl
theorem Qg (xs:List Nd) (ver:Nat):Obj.mk 27 6 (List.map ay xs) true ver=tX xs ver:=rfl
theorem M7:(∀ xs v,(tX xs v).live=true)∧(∀ xs v,(tX xs v).ver=v)∧(∀ xs v,(tX xs v).sz=6)∧(∀ xs v,(tX xs v).ty=27)∧(∀ xs v,(tX xs v).xs=List.map ay xs):=
 ⟨fun _ _=>rfl,fun _ _=>rfl,fun _ _=>rfl,fun _ _=>rfl,fun _ _=>rfl⟩
theorem aa6 {O:List Obj}(h:jU O) (xs:List Nd) (ver:Nat):jU (O++[tX xs ver]):=by
 intro o ho x hx c hc
 rw [length_append]
 rcases List.mem_append.1 ho with ho | ho
 · have:=h o ho x hx c hc
   exact GD (Nat.le_add_right _ _) this
 · rw [List.mem_singleton] at ho;subst ho
   obtain ⟨n,_,rfl⟩:=List.mem_map.1 hx
   simp only [ay,PV.cells,List.mem_cons,List.not_mem_nil,or_false] at hc
   rcases hc with rfl | rfl | rfl | rfl | rfl | rfl <;> rfl
theorem aey {O:List Obj}(h:jU O) :
  (∀ d xs ver X,List.map (fE d (O.length+1) (O++tX xs ver::X)) (List.take (O.length+1) (O++tX xs ver::X))=O++[tX xs ver])∧
  (∀ d X ver,eY d (O.length+1) X (.bG O.length ver)=.bG O.length ver)∧
  (∀ x (a:fQ),eY 1 (O.length+1) (O++[x,⟨29,7,[bX a],true,1⟩]) (.bI (O.length+1) 1 0 0)=.addr (bX a)):=by
 refine ⟨fun d xs ver X=>?_,fun d X ver=>?_,fun x a=>?_⟩
 · have e:List.take (O.length+1) (O++tX xs ver::X)=O++[tX xs ver]:=by
    rw [List.take_append,List.take_of_length_le (by omega)];simp
   rw [e]
   have:=Fw (d:=d) (objs':=O++tX xs ver::X) (aa6 h xs ver)
   rwa [length_append] at this
 · simp [eY]
 · have:(O++[x,⟨29,7,[bX a],true,1⟩])[O.length+1]?=some ⟨29,7,[bX a],true,1⟩:=by
    rw [List.getElem?_append_right (by omega)];simp
   simp only [eY,lt_irrefl,if_false,iY,this,Nat.le_refl,decide_true,Bool.and_self,BEq.rfl,if_true]
   rfl
theorem acd {O:List Obj}(h:jU O) :
  (∀ d X,List.map (fE d O.length (O++X)) (List.take O.length (O++X))=O)∧
  (∀ xs v,eY 1 O.length (O++[tX xs v]) (.bG O.length v)=aS xs):=by
 refine ⟨fun d X=>?_,fun xs v=>?_⟩
 · rw [List.take_append_of_le_length (Nat.le_refl _),take_length]
   exact Fw h
 · have:(O++[tX xs v])[O.length]?=some (tX xs v):=by
    rw [List.getElem?_append_right (Nat.le_refl _)];simp
   simp only [eY,lt_irrefl,if_false,iY,this,M7,Nat.le_refl,decide_true,Bool.and_self,BEq.rfl,if_true]
   rw [SS ay fun n=>rfl]
   rfl
theorem aez {O:List Obj}(h:jU O) :
  (∀ d X,List.map (fE d O.length (O++X)) (List.take O.length (O++X))=O)∧
  (∀ n:Nd,eY 1 O.length (O++[⟨27,6,[ay n],true,1⟩]) (.bI O.length 1 0 0)=.addr (ay n)):=by
 refine ⟨(acd h).1,fun n=>?_⟩
 have:(O++[⟨27,6,[ay n],true,1⟩])[O.length]?=some ⟨27,6,[ay n],true,1⟩:=by
  rw [List.getElem?_append_right (Nat.le_refl _)];simp
 simp only [eY,lt_irrefl,if_false,iY,this,Nat.le_refl,decide_true,Bool.and_self,BEq.rfl,if_true]
 rfl
theorem TJ (l:List fQ) (hl:l.length≤1000000) (hn:∀ a ∈ l,a.c.kind=3→MZ a.c) (hs:∀ a ∈ l,a.c.s.length≤1000000):Gives Tryz.prog 113 [.addr (bf l)] ((g_ l).map fun c=>[ay c]):=by
 refine yR.gives (fnT:=sS [(114,nV)]) hD (af M4 ah) a_ ?_
 intro I J objs y hI I5 Yz
 have hO:=(I5 0 objs hI).2
 (conv=>arg 4;cbv);simp(maxSteps:=400000)only[↓aT,aU,BEq.rfl,reduceIte,reduceCtorEq,Nat.reduceLT,reduceAdd,reduceSub,reduceMul,Nat.reduceBEq,reduceLeDiff,reduceToNat,reduceLE,bO,bP]
 refine aH (fun m S=>∃ (i ver:Nat),i+m=l.length∧S=⟨dI 90 [(0,.Fj y),(1,.addr (bf l)),(3,.bG objs.length ver),(19,bf l),(20,.int .i64 l.length),(21,.int .i64 i)],objs++[tX (Cj++jZ (l.take i)) ver]⟩) l.length ⟨0,1,by omega,?_⟩ ?_
 · simp only [bW,keepR,reduceAdd,nu,Nat.reduceBEq,map_nil]
   rfl
 rintro m S ⟨i,ver,him,rfl⟩
 rcases lt_or_ge i l.length with h | h
 · have hlt:((i:Int)<(l.length:Int))=True:=eq_true (by omega)
   have zi:(0≤(i:Int))=True:=eq_true (by omega)
   have hgi:=List.getElem?_eq_getElem h
   generalize l[i]=a at hgi
   have oB:=ac8 objs
   have oF:=aey hO
   have hxl:(Cj++jZ (l.take i)).length≤4+3*i:=by
    have h1:=tY (l.take i)
    have h2:(l.take i).length≤i:=List.length_take_le i l
    have h3:Cj.length=4:=rfl
    rw [length_append];omega
   have htk:=Ic hgi
   have c0:Cj++jZ (l.take (i+1))=(Cj++jZ (l.take i))++Ch a:=by rw [htk,append_assoc]
   generalize hX:Cj++jZ (l.take i)=X at hxl c0
   by_cases hk:a.c.kind=3
   rotate_left 1
   · have k3:(a.c.kind=3)=False:=eq_false hk
     simp(maxSteps:=400000)only[↓aT,aU,BEq.rfl,reduceIte,reduceCtorEq,Nat.reduceLT,reduceAdd,reduceSub,reduceMul,Nat.reduceBEq,reduceLeDiff,reduceToNat,reduceLE,hlt,zi,hgi,k3,oB,U1,E9,append_assoc,cons_append,nil_append,length_append,length_cons,length_nil]
     refine aN _ (Weak.freeze 1 (objs.length+1) (le_succ _) _) ?_
     simp(maxSteps:=400000)only[↓aT,aU,BEq.rfl,reduceIte,reduceCtorEq,Nat.reduceLT,reduceAdd,reduceSub,reduceMul,Nat.reduceBEq,reduceLeDiff,reduceToNat,reduceLE,oF]
     have e1:Ch a=[]:=if_neg hk
     exact ⟨⟨by omega,by omega⟩,m-1,by omega,i+1,ver,by omega,by rw [c0,e1,append_nil];rfl⟩
   · have k3:(a.c.kind=3)=True:=eq_true hk
     have aa7:=hn a (List.mem_of_getElem? hgi) hk
     simp(maxSteps:=400000)only[↓aT,aU,BEq.rfl,reduceIte,reduceCtorEq,Nat.reduceLT,reduceAdd,reduceSub,reduceMul,Nat.reduceBEq,reduceLeDiff,reduceToNat,reduceLE,hlt,zi,hgi,k3,oB,U1,bO,bP,E9,M7,append_assoc,cons_append,nil_append,length_append,length_cons,length_nil,length_map,vT,Qg]
     refine ⟨by omega,by omega,?_⟩
     refine aN _ (Weak.freeze 1 (objs.length+1) (le_succ _) _) ?_
     simp(maxSteps:=400000)only[↓aT,aU,BEq.rfl,reduceIte,reduceCtorEq,Nat.reduceLT,reduceAdd,reduceSub,reduceMul,Nat.reduceBEq,reduceLeDiff,reduceToNat,reduceLE,oF]
     have l1:(FR a true).length≤1:=by unfold FR;split <;> simp
     have l2:(FR a false).length≤1:=by unfold FR;split <;> simp
     have st:∀ (j:Int) (xs:List Nd) (v:Nat),St:=fun j xs v=>⟨dI 90 [(0,.Fj y),(1,.addr (bf l)),(3,.bG objs.length v),(5,.addr (bX a)),(19,bf l),(20,.int .i64 l.length),(21,.int .i64 i),(34,.sl 1 [.bool true,.bool false] none),(35,.int .i64 ((2:Nat):Int)),(36,.int .i64 j)],objs++[tX xs v]⟩
     refine aH (fun m' S=>∃ (v:Nat) (j:Int) (xs:List Nd),(j=0∧m'=2∧xs=X++[a.c]∨j=1∧m'=1∧xs=X++[a.c]++FR a true∨j=2∧m'=0∧xs=X++[a.c]++FR a true++FR a false)∧S=⟨dI 90 [(0,.Fj y),(1,.addr (bf l)),(3,.bG objs.length v),(5,.addr (bX a)),(19,bf l),(20,.int .i64 l.length),(21,.int .i64 i),(34,.sl 1 [.bool true,.bool false] none),(35,.int .i64 ((2:Nat):Int)),(36,.int .i64 j)],objs++[tX xs v]⟩) 2 ⟨ver+1,0,_,.inl ⟨rfl,rfl,rfl⟩,?_⟩ ?_
     · simp only [bW,keepR,reduceAdd,nu,Nat.reduceBEq,map_nil]
     rintro m' S ⟨v,j,xs,hj,rfl⟩
     have n2:((2:Nat):Int)=2:=rfl
     rcases hj with ⟨rfl,rfl,hxs⟩ | ⟨rfl,rfl,hxs⟩ | ⟨rfl,rfl,hxs⟩
     · have Xf:xs.length≤8+3*i:=by rw [hxs];simp only [length_append,length_cons,length_nil];omega
       cases hb:(dw a.c true).2
       · simp(maxSteps:=400000)only[↓aT,aU,BEq.rfl,reduceIte,reduceCtorEq,Nat.reduceLT,reduceAdd,reduceSub,reduceMul,Nat.reduceBEq,reduceLeDiff,reduceToNat,reduceLE,n2,Int.reduceLT,oB,bO,bP,E9,M7,↓nV,dL,hb,bA,append_assoc,cons_append,nil_append,length_append,length_cons,length_nil,length_map,vT,Qg]
         refine ⟨aa7,?_⟩
         refine aN _ (Weak.freeze 1 (objs.length+1) (le_succ _) _) ?_
         simp(maxSteps:=400000)only[↓aT,aU,BEq.rfl,reduceIte,reduceCtorEq,Nat.reduceLT,reduceAdd,reduceSub,reduceMul,Nat.reduceBEq,reduceLeDiff,reduceToNat,reduceLE,oF]
         have hbs:FR a true=[]:=by simp [FR,hb]
         exact ⟨⟨by omega,by omega⟩,1,by omega,v,1,xs,.inr (.inl ⟨rfl,rfl,by rw [hxs,hbs,append_nil]⟩),rfl⟩
       · simp(maxSteps:=400000)only[↓aT,aU,BEq.rfl,reduceIte,reduceCtorEq,Nat.reduceLT,reduceAdd,reduceSub,reduceMul,Nat.reduceBEq,reduceLeDiff,reduceToNat,reduceLE,n2,Int.reduceLT,oB,bO,bP,E9,M7,↓nV,dL,hb,bA,append_assoc,cons_append,nil_append,length_append,length_cons,length_nil,length_map,vT,Qg]
         refine ⟨aa7,by omega,by omega,?_⟩
         refine aN _ (Weak.freeze 1 (objs.length+1) (le_succ _) _) ?_
         simp(maxSteps:=400000)only[↓aT,aU,BEq.rfl,reduceIte,reduceCtorEq,Nat.reduceLT,reduceAdd,reduceSub,reduceMul,Nat.reduceBEq,reduceLeDiff,reduceToNat,reduceLE,oF]
         have hbs:FR a true=[(dw a.c true).1]:=by simp [FR,hb]
         exact ⟨⟨by omega,by omega⟩,1,by omega,v+1,1,xs++[(dw a.c true).1],.inr (.inl ⟨rfl,rfl,by rw [hxs,hbs]⟩),rfl⟩
     · have Xf:xs.length≤8+3*i:=by rw [hxs];simp only [length_append,length_cons,length_nil];omega
       cases hb:(dw a.c false).2
       · simp(maxSteps:=400000)only[↓aT,aU,BEq.rfl,reduceIte,reduceCtorEq,Nat.reduceLT,reduceAdd,reduceSub,reduceMul,Nat.reduceBEq,reduceLeDiff,reduceToNat,reduceLE,n2,Int.reduceLT,oB,bO,bP,E9,M7,↓nV,dL,hb,bA,append_assoc,cons_append,nil_append,length_append,length_cons,length_nil,length_map,vT,Qg]
         refine ⟨aa7,?_⟩
         refine aN _ (Weak.freeze 1 (objs.length+1) (le_succ _) _) ?_
         simp(maxSteps:=400000)only[↓aT,aU,BEq.rfl,reduceIte,reduceCtorEq,Nat.reduceLT,reduceAdd,reduceSub,reduceMul,Nat.reduceBEq,reduceLeDiff,reduceToNat,reduceLE,oF]
         have hbs:FR a false=[]:=by simp [FR,hb]
         exact ⟨⟨by omega,by omega⟩,0,by omega,v,2,xs,.inr (.inr ⟨rfl,rfl,by rw [hxs,hbs,append_nil]⟩),rfl⟩
       · simp(maxSteps:=400000)only[↓aT,aU,BEq.rfl,reduceIte,reduceCtorEq,Nat.reduceLT,reduceAdd,reduceSub,reduceMul,Nat.reduceBEq,reduceLeDiff,reduceToNat,reduceLE,n2,Int.reduceLT,oB,bO,bP,E9,M7,↓nV,dL,hb,bA,append_assoc,cons_append,nil_append,length_append,length_cons,length_nil,length_map,vT,Qg]
         refine ⟨aa7,by omega,by omega,?_⟩
         refine aN _ (Weak.freeze 1 (objs.length+1) (le_succ _) _) ?_
         simp(maxSteps:=400000)only[↓aT,aU,BEq.rfl,reduceIte,reduceCtorEq,Nat.reduceLT,reduceAdd,reduceSub,reduceMul,Nat.reduceBEq,reduceLeDiff,reduceToNat,reduceLE,oF]
         have hbs:FR a false=[(dw a.c false).1]:=by simp [FR,hb]
         exact ⟨⟨by omega,by omega⟩,0,by omega,v+1,2,xs++[(dw a.c false).1],.inr (.inr ⟨rfl,rfl,by rw [hxs,hbs]⟩),rfl⟩
     · simp(maxSteps:=400000)only[↓aT,aU,BEq.rfl,reduceIte,reduceCtorEq,Nat.reduceLT,reduceAdd,reduceSub,reduceMul,Nat.reduceBEq,reduceLeDiff,reduceToNat,reduceLE,n2,Int.reduceLT]
       refine aN _ (Weak.freeze 1 (objs.length+1) (le_succ _) _) ?_
       simp(maxSteps:=400000)only[↓aT,aU,BEq.rfl,reduceIte,reduceCtorEq,Nat.reduceLT,reduceAdd,reduceSub,reduceMul,Nat.reduceBEq,reduceLeDiff,reduceToNat,reduceLE,oF]
       exact ⟨⟨by omega,by omega⟩,m-1,by omega,i+1,v,by omega,by rw [c0,DU hk,hxs,append_assoc,append_assoc,append_assoc];rfl⟩
 · have hlt:((i:Int)<(l.length:Int))=False:=eq_false (by omega)
   have oB:=ac8 objs
   have oF:=aey hO
   have hxl:(Cj++jZ (l.take i)).length≤4+3*i:=by
    have h1:=tY (l.take i)
    have h2:(l.take i).length≤i:=List.length_take_le i l
    have h3:Cj.length=4:=rfl
    rw [length_append];omega
   have hi:i=l.length:=by omega
   rw [hi,take_length]
   rw [hi,take_length] at hxl
   generalize hX:Cj++jZ l=X at hxl
   have hlt2:((l.length:Int)<(l.length:Int))=False:=eq_false (by omega)
   simp(maxSteps:=400000)only[↓aT,aU,BEq.rfl,reduceIte,reduceCtorEq,Nat.reduceLT,reduceAdd,reduceSub,reduceMul,Nat.reduceBEq,reduceLeDiff,reduceToNat,reduceLE,hlt2,oB,bO,bP,E9,M7,append_assoc,cons_append,nil_append,length_append,length_cons,length_nil,length_map,vT,Qg]
   refine ⟨by omega,by omega,?_⟩
   refine aH (fun m S=>∃ (i ver:Nat),i+m=l.length∧S=⟨dI 90 [(0,.Fj y),(3,.bG objs.length ver),(58,bf l),(59,.int .i64 l.length),(60,.int .i64 i)],objs++[tX (X++⟨4,0,[],[],false,0⟩::lT (l.take i)) ver]⟩) l.length ⟨0,ver+1,by omega,?_⟩ ?_
   · simp only [bW,keepR,reduceAdd,nu,Nat.reduceBEq,map_nil]
     rfl
   rintro m S ⟨i,ver,him,rfl⟩
   have Xf:(X++⟨4,0,[],[],false,0⟩::lT (l.take i)).length≤8+3*l.length+2*i:=by
    have h1:=yC (l.take i)
    have h2:(l.take i).length≤i:=List.length_take_le i l
    rw [length_append,length_cons];omega
   rcases lt_or_ge i l.length with h | h
   · have hlt:((i:Int)<(l.length:Int))=True:=eq_true (by omega)
     have zi:(0≤(i:Int))=True:=eq_true (by omega)
     have hgi:=List.getElem?_eq_getElem h
     generalize l[i]=a at hgi
     have has:=hs a (List.mem_of_getElem? hgi)
     have c0:X++⟨4,0,[],[],false,0⟩::lT (l.take (i+1))=(X++⟨4,0,[],[],false,0⟩::lT (l.take i))++Ci a:=by rw [Ie hgi];simp
     generalize hY:X++⟨4,0,[],[],false,0⟩::lT (l.take i)=Y at Xf c0
     by_cases hk:a.c.kind=4
     rotate_left 1
     · have k4:(a.c.kind=4)=False:=eq_false hk
       simp(maxSteps:=400000)only[↓aT,aU,BEq.rfl,reduceIte,reduceCtorEq,Nat.reduceLT,reduceAdd,reduceSub,reduceMul,Nat.reduceBEq,reduceLeDiff,reduceToNat,reduceLE,hlt,zi,hgi,k4,oB,U1,bO,bP,E9,M7,append_assoc,cons_append,nil_append,length_append,length_cons,length_nil,length_map,vT,ab_,Qg]
       refine aN _ (Weak.freeze 1 (objs.length+1) (le_succ _) _) ?_
       simp(maxSteps:=400000)only[↓aT,aU,BEq.rfl,reduceIte,reduceCtorEq,Nat.reduceLT,reduceAdd,reduceSub,reduceMul,Nat.reduceBEq,reduceLeDiff,reduceToNat,reduceLE,oF]
       have e1:Ci a=[]:=if_neg hk
       exact ⟨⟨by omega,by omega⟩,m-1,by omega,i+1,ver,by omega,by rw [c0,e1,append_nil];rfl⟩
     · have k4:(a.c.kind=4)=True:=eq_true hk
       simp(maxSteps:=400000)only[↓aT,aU,BEq.rfl,reduceIte,reduceCtorEq,Nat.reduceLT,reduceAdd,reduceSub,reduceMul,Nat.reduceBEq,reduceLeDiff,reduceToNat,reduceLE,hlt,zi,hgi,k4,oB,U1,bO,bP,E9,M7,append_assoc,cons_append,nil_append,length_append,length_cons,length_nil,length_map,vT,ab_,Qg]
       refine ⟨by omega,fun y hy=>by simp only [List.mem_cons,List.not_mem_nil,or_false] at hy;rcases hy with rfl | rfl <;> exact ⟨rfl,rfl⟩,by omega,by omega,?_⟩
       refine aN _ (Weak.freeze 1 (objs.length+1) (le_succ _) _) ?_
       simp(maxSteps:=400000)only[↓aT,aU,BEq.rfl,reduceIte,reduceCtorEq,Nat.reduceLT,reduceAdd,reduceSub,reduceMul,Nat.reduceBEq,reduceLeDiff,reduceToNat,reduceLE,oF]
       have e1:Ci a=[a.c,⟨4,0,[],a.c.s++[0],false,0⟩]:=if_pos hk
       exact ⟨⟨by omega,by omega⟩,m-1,by omega,i+1,ver+1,by omega,by rw [c0,e1];rfl⟩
   have hi:i=l.length:=by omega
   have hlt2:((l.length:Int)<(l.length:Int))=False:=eq_false (by omega)
   rw [hi,take_length]
   rw [hi,take_length] at Xf
   have hC:X++⟨4,0,[],[],false,0⟩::lT l=g_ l:=by rw [← hX];rfl
   rw [hC]
   rw [hC] at Xf
   generalize g_ l=C at Xf
   simp(maxSteps:=400000)only[↓aT,aU,BEq.rfl,reduceIte,reduceCtorEq,Nat.reduceLT,reduceAdd,reduceSub,reduceMul,Nat.reduceBEq,reduceLeDiff,reduceToNat,reduceLE,hlt2]
   refine aN _ (Weak.freeze 1 objs.length (Nat.le_refl _) _) ?_
   have o1:=acd hO
   simp(maxSteps:=400000)only[↓aT,aU,BEq.rfl,reduceIte,reduceCtorEq,Nat.reduceLT,reduceAdd,reduceSub,reduceMul,Nat.reduceBEq,reduceLeDiff,reduceToNat,reduceLE,o1]
   refine aH (fun m S=>∃ (i:Nat) (O:List Obj),i+m=C.length∧I i O∧S=⟨dI 90 [(0,.Fj y),(79,aS C),(80,.int .i64 C.length),(81,.int .i64 i)],O⟩) C.length ⟨0,objs,by omega,hI,?_⟩ ?_
   · simp only [bW,keepR,reduceAdd,nu,Nat.reduceBEq,map_nil]
     rfl
   rintro m S ⟨i,O,him,hIi,rfl⟩
   have hOl:=(I5 i O hIi).1
   have hOO:=(I5 i O hIi).2
   rcases lt_or_ge i C.length with h | h
   · have hlt:((i:Int)<(C.length:Int))=True:=eq_true (by omega)
     have zi:(0≤(i:Int))=True:=eq_true (by omega)
     have hgi:=List.getElem?_eq_getElem h
     generalize C[i]=c at hgi
     have oB:=ac8 O
     simp(maxSteps:=400000)only[↓aT,aU,BEq.rfl,reduceIte,reduceCtorEq,Nat.reduceLT,reduceAdd,reduceSub,reduceMul,Nat.reduceBEq,reduceLeDiff,reduceToNat,reduceLE,hlt,zi,hgi,oB,bO,bP,E9]
     refine aN _ (Weak.freeze 1 O.length hOl _) ?_
     have o2:=aez hOO
     simp(maxSteps:=400000)only[↓aT,aU,BEq.rfl,reduceIte,reduceCtorEq,Nat.reduceLT,reduceAdd,reduceSub,reduceMul,Nat.reduceBEq,reduceLeDiff,reduceToNat,reduceLE,o2,Yn]
     refine ⟨rfl,i,hIi,by rw [hgi];rfl,fun O' hI'=>⟨⟨by omega,by omega⟩,m-1,by omega,i+1,O',by omega,hI',rfl⟩,fun O' hJ'=>⟨.inr rfl,.inr ⟨i,h,hJ'⟩⟩⟩
   · have hlt:((i:Int)<(C.length:Int))=False:=eq_false (by omega)
     simp(maxSteps:=400000)only[↓aT,aU,BEq.rfl,reduceIte,reduceCtorEq,Nat.reduceLT,reduceAdd,reduceSub,reduceMul,Nat.reduceBEq,reduceLeDiff,reduceToNat,reduceLE,hlt]
     have hi:i=C.length:=by omega
     subst hi
     exact ⟨.inl rfl,.inl hIi⟩
end Lp
