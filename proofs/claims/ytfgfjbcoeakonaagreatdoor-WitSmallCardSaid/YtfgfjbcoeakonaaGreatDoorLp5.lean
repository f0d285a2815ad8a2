/-
  Part 5 of what the statement rests on: LpTA4, LpW13, LpW5, LpW6, LpW7, LpH8, LpD3, LpH9, LpH20, LpH21, LpH24, LpHN1, LpHN2, LpHN3, LpD7, LpD8, LpE1, LpD5, LpV10, LpD6, LpD9, LpD10, LpD11, LpD12, LpE2, LpE3, LpC9, LpY4, LpTN, LpEqY, LpTB1, LpC10, LpTB1p, LpTB2, LpTB3, LpE4, LpE5. No condition.
-/
import Derived.Test.YtfgfjbcoeakonaaGreatDoorLp4

set_option linter.all false
set_option maxHeartbeats 8000000
set_option maxRecDepth 100000
namespace Lp
open Go Go.Proofs
open List (length_cons length_nil map_map map_nil)
open Nat (lt_or_ge reduceAdd reduceLeDiff reduceMul reduceSub)
open Int (reduceLE reduceToNat toNat_natCast)
def pz:dJ:=fun args objs K=>match args with
 | [.str s,.int .i64 i,.bool b]=>(s.length≤1000000000)∧(0≤i)∧(i≤s.length)∧K (.bP [encS (gL s i.toNat b).1,.int .i64 (gL s i.toNat b).2]) objs 0
 | _=>False
theorem TN:aD Tryz.prog 149 (pz):=by
 intro args objs K h
 unfold pz at h
 split at h
 · rename_i s i b
   obtain ⟨h1,h2,h3,hk⟩:=h
   exact ⟨_,_,_,.pure _ rfl ((by have:=XI s i.toNat b h1 (by omega);rwa [Int.toNat_of_nonneg h2] at this)),hk⟩
 · exact h.elim
theorem QA (s:List UInt8) (a i:Nat) (ha:a≤s.length) (hi:i+1≤s.length∨s.length≤i):(l6 s a i).2≤s.length:=by
 unfold l6
 split
 · exact ha
 · split
   · exact ha
   · rename_i h1 h2
     have h3:s[(dI s (i+1)).2]?=some 93:=Decidable.of_not_not fun h=>h2 (.inr h)
     exact (List.getElem?_eq_some_iff.1 h3).1
theorem Z6 (s:List UInt8) (i:Nat) (b:Bool) (hi:i≤s.length):(gL s i b).2≤s.length:=by
 unfold gL
 split
 · rename_i hd
   have h:=(List.getElem?_eq_some_iff.1 hd).1
   split
   · exact Qy s (i+1) (s.length-(i+1)) (i+1) (by omega)
   · split
     · rename_i hc
       have hu:=(zw (s.drop (i+1))).1 hc.1
       rw [List.length_drop] at hu
       show i+1+(bE (s.drop (i+1))).2.1.toNat≤s.length
       omega
     · split
       · exact QA s i (i+1) hi (by omega)
       · exact hi
 · split
   · exact hi
   · exact QA s i i hi (by omega)
theorem Eo {s:List UInt8}{f i:Nat}{out:List Stp}(h:f=0∨(gL s i out.isEmpty).2=i):zI s f i out=(out,i):=by
 cases f with
 | zero=>rfl
 | succ f=>
  rcases h with h | h
  · omega
  · simp only [zI];rw [if_pos h]
theorem VO {s:List UInt8}{f i:Nat}{out:List Stp}(h:¬ (gL s i out.isEmpty).2=i):zI s (f+1) i out=zI s f (gL s i out.isEmpty).2 (out++[(gL s i out.isEmpty).1]):=by
 simp only [zI];rw [if_neg h]
def QB (l:List Stp) (ver:Nat):Obj:=⟨122,3,l.map encS,true,ver⟩
theorem Cu (v:List Stp) (ver:Nat) (t:TypeId) (rest:List Obj):fC 1 0 (⟨t,3,v.map encS,true,ver⟩::rest) (.bA 0 ver)=iV v:=by
 have:(v.map encS).map (PV.bL (gF 0 0 (⟨t,3,v.map encS,true,ver⟩::rest)))=v.map encS:=by
  rw [map_map];exact List.map_congr_left fun x _=>rfl
 simp only [fC,Nat.not_lt_zero,if_false,gF,List.getElem?_cons_zero,Nat.le_refl,decide_true,Bool.true_and,beq_self_eq_true,if_true,this]
 rfl
theorem zSl:(PV.wz (.agg ⟨[.bool false,.string ⟨⟨[]⟩⟩,.int .i64 0]⟩)).cells.length=3:=rfl
theorem zSs:(PV.wz (.agg ⟨[.bool false,.string ⟨⟨[]⟩⟩,.int .i64 0]⟩)).cells.all PV.storable=true:=rfl
theorem aer (a:Stp):PV.agg [.bool a.part,.str a.name,.int .i64 a.n]=encS a:=rfl
theorem acw (a:Stp):encS ⟨a.part,a.name,a.n⟩=encS a:=rfl
theorem Z7:∀ d X v,fC d 1 X (.bA 0 v)=.bA 0 v:=fun _ _ _=>rfl
theorem aes (X:List Obj) (l:List Stp) (a:Stp) (v:Nat):gM 1 1 X ⟨122,3,l.map encS++[encS a],true,v⟩=⟨122,3,l.map encS++[encS a],true,v⟩:=by
 unfold gM
 simp only [List.map_append,map_map,List.map_cons,map_nil]
 rfl
theorem QC (s:List UInt8) (hs:s.length≤1000000000):ai Tryz.prog 117 [.str s,.int .i64 0] [] (.bP [iV (eG s).1,.int .i64 (eG s).2]) []:=by
 refine yT.r_ (T:=aP Tryz.prog [(149,pz)]) 1 hD (aj (af TN ah)) aU (by decide) (by decide) fun Q hQ=>?_
 (conv=>arg 4;cbv);simp(maxSteps:=400000)only[↓au,av,BEq.rfl,reduceIte,reduceCtorEq,Nat.reduceLT,reduceAdd,reduceSub,reduceMul,Nat.reduceBEq,reduceLeDiff,reduceToNat,reduceLE,hQ,mR,mU,mV,zSl,zSs]
 refine aF (fun m S=>∃ (i ver:Nat) (out:List Stp),m+out.length=20∧i≤s.length∧zI s 20 0 []=zI s m i out∧S=⟨dz 52 [(0,.str s),(1,.int .i64 i),(6,.bA 0 ver),(7,.int .i64 0)],[QB out ver]⟩) 20 (hz:=Nat.zero_le _) ⟨0,1,[],rfl,by omega,rfl,?_⟩ ?_
 · simp only [bG,keepR,reduceAdd,kS,Nat.reduceBEq,map_nil]
   rfl
 rintro m S ⟨i,ver,out,hm,hi,hB,rfl⟩
 rcases Nat.eq_zero_or_pos m with h0 | h0
 · subst h0
   have hlt:((out.length:Int)<20)=False:=eq_false (by omega)
   have b0:decide ((out.length:Int)=0)=false:=decide_eq_false (by omega)
   have hb:eG s=(out,i):=by
    unfold eG;rw [hB,Eo (.inl rfl)]
    rw [if_neg];rintro ⟨h,_⟩;simp only at h;rw [h] at hm;simp at hm
   unfold QB
   simp(maxSteps:=400000)only[↓au,av,BEq.rfl,reduceIte,reduceCtorEq,Nat.reduceLT,reduceAdd,reduceSub,reduceMul,Nat.reduceBEq,reduceLeDiff,reduceToNat,reduceLE,hQ,hlt,b0,hb,Cu]
 · obtain ⟨m,rfl⟩:∃ k,m=k+1:=⟨m-1,by omega⟩
   have hlt:((out.length:Int)<20)=True:=eq_true (by omega)
   have hle:=Z6 s i out.isEmpty hi
   have z0:Int.toNat 0=0:=rfl
   cases hE:out.isEmpty with
   | true=>
    have ho:out=[]:=List.isEmpty_iff.1 hE
    have b0:decide ((out.length:Int)=0)=true:=decide_eq_true (by rw [ho];rfl)
    have b1:((out.length:Int)=0)=True:=eq_true (by rw [ho];rfl)
    rw [hE] at hle
    by_cases hst:(gL s i true).2=i
    · have hst':(((gL s i true).2:Int)=(i:Int))=True:=eq_true (by omega)
      have hF:zI s 20 0 []=([],i):=by rw [hB,Eo (.inr (by rw [hE];exact hst)),ho]
      rcases lt_or_ge 0 s.length with hp | hp
      · have pl:((0:Int)<(s.length:Int))=True:=eq_true (by omega)
        have pg:=List.getElem?_eq_getElem hp
        generalize s[0]=d at pg
        have b46:(d.toNat:Int)=46↔d=46:=mF (k:=46) (by omega)
        by_cases hd:(d.toNat:Int)=46
        · have hb:eG s=(out,1):=by rw [ho];unfold eG;rw [hF,if_pos ⟨rfl,by rw [pg,b46.1 hd]⟩]
          unfold QB
          simp(maxSteps:=400000)only[↓au,av,BEq.rfl,reduceIte,reduceCtorEq,Nat.reduceLT,reduceAdd,reduceSub,reduceMul,Nat.reduceBEq,reduceLeDiff,reduceToNat,reduceLE,hQ,hlt,b0,b1,↓pz,toNat_natCast,dX,mR,mU,mV,zSl,zSs,hst',pl,z0,pg,hd,hb,Cu]
          repeat' (first | (omega) | exact rfl | intro _ | refine ⟨?_,?_⟩)
        · have hb:eG s=(out,i):=by rw [ho];unfold eG;rw [hF,if_neg];rintro ⟨_,h⟩;rw [pg] at h;exact hd (b46.2 (Option.some.inj h))
          have hd':=eq_false hd
          unfold QB
          simp(maxSteps:=400000)only[↓au,av,BEq.rfl,reduceIte,reduceCtorEq,Nat.reduceLT,reduceAdd,reduceSub,reduceMul,Nat.reduceBEq,reduceLeDiff,reduceToNat,reduceLE,hQ,hlt,b0,b1,↓pz,toNat_natCast,dX,mR,mU,mV,zSl,zSs,hst',pl,z0,pg,hd',hb,Cu]
          repeat' (first | (omega) | exact rfl | intro _ | refine ⟨?_,?_⟩)
      · have pl:((0:Int)<(s.length:Int))=False:=eq_false (by omega)
        have hb:eG s=(out,i):=by rw [ho];unfold eG;rw [hF,if_neg];rintro ⟨_,h⟩;rw [List.getElem?_eq_none_iff.2 hp] at h;cases h
        unfold QB
        simp(maxSteps:=400000)only[↓au,av,BEq.rfl,reduceIte,reduceCtorEq,Nat.reduceLT,reduceAdd,reduceSub,reduceMul,Nat.reduceBEq,reduceLeDiff,reduceToNat,reduceLE,hQ,hlt,b0,b1,↓pz,toNat_natCast,dX,mR,mU,mV,zSl,zSs,hst',pl,hb,Cu]
        repeat' (first | (omega) | exact rfl | intro _ | refine ⟨?_,?_⟩)
    · have hst':(((gL s i true).2:Int)=(i:Int))=False:=eq_false (by omega)
      have hg:=VO (s:=s) (f:=m) (i:=i) (out:=out) (by rw [hE];exact hst)
      rw [hE] at hg
      unfold QB
      simp(maxSteps:=400000)only[↓au,av,BEq.rfl,reduceIte,reduceCtorEq,Nat.reduceLT,reduceAdd,reduceSub,reduceMul,Nat.reduceBEq,reduceLeDiff,reduceToNat,reduceLE,hQ,hlt,b0,↓pz,toNat_natCast,dX,mR,mU,mV,zSl,zSs,hst',aer,acw,Z7,List.take_succ_cons,List.take_zero,aes]
      repeat' (first | (omega) | exact ⟨m,by omega,(gL s i true).2,ver+1,out++[(gL s i true).1],by rw [List.length_append];simp only [length_cons,length_nil];omega,hle,hB.trans hg,by simp⟩ | intro _ | refine ⟨?_,?_⟩)
   | false=>
    have hon:out≠[]:=fun e=>by rw [e] at hE;cases hE
    have hol:0<out.length:=List.length_pos_iff.2 hon
    have b0:decide ((out.length:Int)=0)=false:=decide_eq_false (by omega)
    rw [hE] at hle
    by_cases hst:(gL s i false).2=i
    · have hst':(((gL s i false).2:Int)=(i:Int))=True:=eq_true (by omega)
      have hb:eG s=(out,i):=by
       unfold eG;rw [hB,Eo (.inr (by rw [hE];exact hst)),if_neg];rintro ⟨h,_⟩;exact hon h
      unfold QB
      simp(maxSteps:=400000)only[↓au,av,BEq.rfl,reduceIte,reduceCtorEq,Nat.reduceLT,reduceAdd,reduceSub,reduceMul,Nat.reduceBEq,reduceLeDiff,reduceToNat,reduceLE,hQ,hlt,b0,↓pz,toNat_natCast,dX,mR,mU,mV,zSl,zSs,hst',hb,Cu]
      repeat' (first | (omega) | exact rfl | intro _ | refine ⟨?_,?_⟩)
    · have hst':(((gL s i false).2:Int)=(i:Int))=False:=eq_false (by omega)
      have hg:=VO (s:=s) (f:=m) (i:=i) (out:=out) (by rw [hE];exact hst)
      rw [hE] at hg
      unfold QB
      simp(maxSteps:=400000)only[↓au,av,BEq.rfl,reduceIte,reduceCtorEq,Nat.reduceLT,reduceAdd,reduceSub,reduceMul,Nat.reduceBEq,reduceLeDiff,reduceToNat,reduceLE,hQ,hlt,b0,↓pz,toNat_natCast,dX,mR,mU,mV,zSl,zSs,hst',aer,acw,Z7,List.take_succ_cons,List.take_zero,aes]
      repeat' (first | (omega) | exact ⟨m,by omega,(gL s i false).2,ver+1,out++[(gL s i false).1],by rw [List.length_append];simp only [length_cons,length_nil];omega,hle,hB.trans hg,by simp⟩ | intro _ | refine ⟨?_,?_⟩)
def nW:dJ:=fun args objs K=>match args with
 | [.str s,a1]=>a1=(.int .i64 0)∧(s.length≤1000000000)∧K (.bP [iV (eG s).1,.int .i64 (eG s).2]) objs 0
 | _=>False
theorem Np:aD Tryz.prog 117 (nW):=by
 intro args objs K h
 unfold nW at h
 split at h
 · rename_i s a1
   obtain ⟨rfl,h1,hk⟩:=h
   exact ⟨_,_,_,.pure _ rfl (QC s h1),hk⟩
 · exact h.elim
def zx (s:List UInt8):PV:=if (iU s).2.2=0 then .bP [iV (iU s).1,.int .i64 (iU s).2.1,.int .i64 (iU s).2.2] else .bP [.sl 0 [] (some true),.int .i64 (iU s).2.1,.int .i64 (iU s).2.2]
theorem TP (s:List UInt8) (hs:s.length≤1000000000):ai Tryz.prog 99 [.str s] [] (zx s) []:=by
 refine Cf.ZO (T:=aP Tryz.prog [(117,nW)]) 0 hD (aj (af Np ah)) aU (by decide) (by decide) (by decide) fun Q hQ=>?_
 by_cases h46:s=[46]
 · have hr:zx s=.bP [iV (eG s).1,.int .i64 0,.int .i64 0]:=by simp only [zx,iU,if_pos h46,if_true]
   have Z8:=eq_true h46
   (conv=>arg 4;cbv);simp(maxSteps:=400000)only[↓au,av,BEq.rfl,reduceIte,reduceCtorEq,Nat.reduceLT,reduceAdd,reduceSub,reduceMul,Nat.reduceBEq,reduceLeDiff,reduceToNat,reduceLE,hQ,↓nW,dX,Z8,hr]
   repeat' (first | (omega) | exact rfl | intro _ | refine ⟨?_,?_⟩)
 have Z8:=eq_false h46
 cases hB:eG s with
 | mk p n=>
 by_cases hp:p=[]
 · have hr:zx s=.bP [.sl 0 [] (some true),.int .i64 0,.int .i64 1]:=by simp [zx,iU,h46,hB,hp]
   subst hp
   have b0:((([]:List Stp).length:Int)=0)=True:=eq_true rfl
   (conv=>arg 4;cbv);simp(maxSteps:=400000)only[↓au,av,BEq.rfl,reduceIte,reduceCtorEq,Nat.reduceLT,reduceAdd,reduceSub,reduceMul,Nat.reduceBEq,reduceLeDiff,reduceToNat,reduceLE,hQ,↓nW,dX,Z8,hB,b0,hr]
   repeat' (first | (omega) | exact rfl | intro _ | refine ⟨?_,?_⟩)
 · have hpl:0<p.length:=List.length_pos_iff.2 hp
   have b0:((p.length:Int)=0)=False:=eq_false (by omega)
   rcases lt_or_ge n s.length with hn | hn
   · have hn':((n:Int)<(s.length:Int))=True:=eq_true (by omega)
     have hr:zx s=.bP [.sl 0 [] (some true),.int .i64 n,.int .i64 1]:=by simp [zx,iU,h46,hB,hp,hn]
     (conv=>arg 4;cbv);simp(maxSteps:=400000)only[↓au,av,BEq.rfl,reduceIte,reduceCtorEq,Nat.reduceLT,reduceAdd,reduceSub,reduceMul,Nat.reduceBEq,reduceLeDiff,reduceToNat,reduceLE,hQ,↓nW,dX,Z8,hB,b0,hn',hr]
     repeat' (first | (omega) | exact rfl | intro _ | refine ⟨?_,?_⟩)
   · have hn':((n:Int)<(s.length:Int))=False:=eq_false (by omega)
     have hr:zx s=.bP [iV p,.int .i64 0,.int .i64 0]:=by simp [zx,iU,h46,hB,hp,Nat.not_lt.2 hn]
     (conv=>arg 4;cbv);simp(maxSteps:=400000)only[↓au,av,BEq.rfl,reduceIte,reduceCtorEq,Nat.reduceLT,reduceAdd,reduceSub,reduceMul,Nat.reduceBEq,reduceLeDiff,reduceToNat,reduceLE,hQ,↓nW,dX,Z8,hB,b0,hn',hr]
     repeat' (first | (omega) | exact rfl | intro _ | refine ⟨?_,?_⟩)
theorem adi {a b c a':PV}(h:jy a a'):jy (.bP [a,b,c]) (.bP [a',b,c]):=
 .bP rfl fun i p q hp hq=>by
  match i with
  | 0=>cases hp;cases hq;exact h
  | 1=>cases hp;cases hq;exact .refl _
  | 2=>cases hp;cases hq;exact .refl _
  | _+3=>simp at hp
theorem XJ {s:List UInt8}(h:¬ (iU s).2.2=0):(iU s).1=[]:=by
 unfold iU at h ⊢
 split
 · rename_i h1;rw [if_pos h1] at h;exact absurd rfl h
 · rename_i h1
   rw [if_neg h1] at h
   split
   · rfl
   · rename_i h2
     rw [if_neg h2] at h
     split
     · rfl
     · rename_i h3;rw [if_neg h3] at h;exact absurd rfl h
theorem XK (s:List UInt8) (hs:s.length≤1000000000):ai Tryz.prog 99 [.str s] [] (.bP [iV (iU s).1,.int .i64 (iU s).2.1,.int .i64 (iU s).2.2]) []:=by
 refine (TP s hs).res ?_
 unfold zx
 split
 · exact .refl _
 · rename_i h;rw [XJ h];exact adi (ji 0 3)
def Cv:dJ:=fun args objs K=>match args with
 | [.str s]=>(s.length≤1000000000)∧K (.bP [iV (iU s).1,.int .i64 (iU s).2.1,.int .i64 (iU s).2.2]) objs 0
 | _=>False
theorem TQ:aD Tryz.prog 99 (Cv):=by
 intro args objs K h
 unfold Cv at h
 split at h
 · rename_i s
   obtain ⟨h1,hk⟩:=h
   exact ⟨_,_,_,.pure _ rfl (XK s h1),hk⟩
 · exact h.elim
theorem QD (s:List UInt8):∀ (f i:Nat) (out:List Stp),(zI s f i out).1.length≤out.length+f
 | 0,_,_=>Nat.le_refl _
 | f+1,i,out=>by
  simp only [zI]
  split
  · show out.length≤_;omega
  · have:=QD s f (gL s i out.isEmpty).2 (out++[(gL s i out.isEmpty).1])
    rw [List.length_append] at this
    simp only [length_cons,length_nil] at this
    omega
theorem Ep (s:List UInt8):(dF s).length≤20:=by
 have hb:(eG s).1.length≤20:=by
  unfold eG
  split
  · simp
  · have:=QD s 20 0 [];simpa using this
 unfold dF iU
 split
 · exact hb
 · split
   · simp
   · split
     · simp
     · exact hb
theorem QE (p:List Stp) (hp:p.length≤1000000):ai Tryz.prog 100 [iV p] [] (.bool (p.all fun x=>!x.part)) []:=by
 refine yU.a_ (T:=aP Tryz.prog []) 0 hD (aj ah) aU (by decide) fun Q hQ=>?_
 (conv=>arg 4;cbv);simp(maxSteps:=400000)only[↓au,av,BEq.rfl,reduceIte,reduceCtorEq,Nat.reduceLT,reduceAdd,reduceSub,reduceMul,Nat.reduceBEq,reduceLeDiff,reduceToNat,reduceLE,hQ]
 refine aF (fun m S=>∃ i:Nat,i+m=p.length∧(∀ (j:Nat) x,j<i→p[j]?=some x→x.part=false)∧S=⟨dz 15 [(0,iV p),(3,.int .i64 i)],[]⟩) p.length ⟨0,by omega,fun j x h=>absurd h (Nat.not_lt_zero j),?_⟩ ?_
 · simp only [bG,keepR,reduceAdd,kS,Nat.reduceBEq,map_nil]
   rfl
 rintro m S ⟨i,him,hb,rfl⟩
 have zi:(0≤(i:Int))=True:=eq_true (by omega)
 rcases lt_or_ge i p.length with h | h
 · have hlt:((i:Int)<(p.length:Int))=True:=eq_true (by omega)
   have hgi:=List.getElem?_eq_getElem h
   generalize p[i]=x at hgi
   cases hx:x.part with
   | true=>
    have hr:(p.all fun x=>!x.part)=false:=by rw [List.all_eq_false];exact ⟨x,List.mem_of_getElem? hgi,by simp [hx]⟩
    simp(maxSteps:=400000)only[↓au,av,BEq.rfl,reduceIte,reduceCtorEq,Nat.reduceLT,reduceAdd,reduceSub,reduceMul,Nat.reduceBEq,reduceLeDiff,reduceToNat,reduceLE,hQ,hlt,zi,hgi,hx,hr]
   | false=>
    simp(maxSteps:=400000)only[↓au,av,BEq.rfl,reduceIte,reduceCtorEq,Nat.reduceLT,reduceAdd,reduceSub,reduceMul,Nat.reduceBEq,reduceLeDiff,reduceToNat,reduceLE,hQ,hlt,zi,hgi,hx]
    refine ⟨⟨by omega,by omega⟩,m-1,by omega,i+1,by omega,fun j y hj hy=>?_,rfl⟩
    rcases lt_or_ge j i with g | g
    · exact hb j y g hy
    · have:j=i:=by omega
      subst this
      rw [hgi] at hy;cases hy;exact hx
 · have hlt:((i:Int)<(p.length:Int))=False:=eq_false (by omega)
   have hr:(p.all fun x=>!x.part)=true:=by
    rw [List.all_eq_true];intro x hx
    obtain ⟨j,hj⟩:=List.mem_iff_getElem?.1 hx
    have:=(List.getElem?_eq_some_iff.1 hj).1
    rw [hb j x (by omega) hj];rfl
   simp(maxSteps:=400000)only[↓au,av,BEq.rfl,reduceIte,reduceCtorEq,Nat.reduceLT,reduceAdd,reduceSub,reduceMul,Nat.reduceBEq,reduceLeDiff,reduceToNat,reduceLE,hQ,hlt,hr]
def tK:dJ:=fun args objs K=>match args with
 | [a0]=>fU iV a0 (HK.mk:HK fun p=>(p.length≤1000000)∧K (.bool (p.all fun x=>!x.part)) objs 0)
 | _=>False
theorem Nq:aD Tryz.prog 100 (tK):=by
 intro args objs K h
 unfold tK at h
 split at h
 · rename_i a0
   obtain ⟨p,rfl,h1,hk⟩:=h
   exact ⟨_,_,_,.pure _ rfl (QE p h1),hk⟩
 · exact h.elim
theorem XL (s:List UInt8) (hs:s.length≤1000000000):ai Tryz.prog 72 [.str s] [] (.bP [iV (dF s),.bool (bC s)]) []:=by
 refine Cg.r_ (T:=aP Tryz.prog [(99,Cv),(100,tK)]) 0 hD (aj (af TQ (af Nq ah))) aU (by decide) (by decide) fun Q hQ=>?_
 have hl:=Ep s
 unfold dF at hl
 by_cases he:(iU s).2.2=0
 · have he':=eq_true he
   have d1:decide ((iU s).2.2=0)=true:=decide_eq_true he
   have hr:bC s=(iU s).1.all fun x=>!x.part:=by unfold bC;rw [d1];rfl
   (conv=>arg 4;cbv);simp(maxSteps:=400000)only[↓au,av,BEq.rfl,reduceIte,reduceCtorEq,Nat.reduceLT,reduceAdd,reduceSub,reduceMul,Nat.reduceBEq,reduceLeDiff,reduceToNat,reduceLE,hQ,↓Cv,↓tK,dX,he',dF,hr]
   repeat' (first | (omega) | exact rfl | intro _ | refine ⟨?_,?_⟩)
 · have he':=eq_false he
   have d1:decide ((iU s).2.2=0)=false:=decide_eq_false he
   have hr:bC s=false:=by unfold bC;rw [d1];rfl
   (conv=>arg 4;cbv);simp(maxSteps:=400000)only[↓au,av,BEq.rfl,reduceIte,reduceCtorEq,Nat.reduceLT,reduceAdd,reduceSub,reduceMul,Nat.reduceBEq,reduceLeDiff,reduceToNat,reduceLE,hQ,↓Cv,↓tK,dX,he',dF,hr]
   repeat' (first | (omega) | exact rfl | intro _ | refine ⟨?_,?_⟩)
def fu:dJ:=fun args objs K=>match args with
 | [.str s]=>(s.length≤1000000000)∧K (.bP [iV (dF s),.bool (bC s)]) objs 0
 | _=>False
theorem uY:aD Tryz.prog 72 (fu):=by
 intro args objs K h
 unfold fu at h
 split at h
 · rename_i s
   obtain ⟨h1,hk⟩:=h
   exact ⟨_,_,_,.pure _ rfl (XL s h1),hk⟩
 · exact h.elim
theorem TR (s:List UInt8) (hs:s.length≤1000000000):ai Tryz.prog 96 [.str s] [] (iV (dF s)) []:=by
 refine Ch.a_ (T:=aP Tryz.prog [(72,fu)]) 0 hD (aj (af uY ah)) aU (by decide) fun Q hQ=>?_
 (conv=>arg 4;cbv);simp(maxSteps:=400000)only[↓au,av,BEq.rfl,reduceIte,reduceCtorEq,Nat.reduceLT,reduceAdd,reduceSub,reduceMul,Nat.reduceBEq,reduceLeDiff,reduceToNat,reduceLE,hQ,↓fu,dX]
 repeat' (first | (omega) | exact rfl | intro _ | refine ⟨?_,?_⟩)
def tL:dJ:=fun args objs K=>match args with
 | [.str s]=>(s.length≤1000000000)∧K (iV (dF s)) objs 0
 | _=>False
theorem Nr:aD Tryz.prog 96 (tL):=by
 intro args objs K h
 unfold tL at h
 split at h
 · rename_i s
   obtain ⟨h1,hk⟩:=h
   exact ⟨_,_,_,.pure _ rfl (TR s h1),hk⟩
 · exact h.elim
end Lp
namespace Lp
open Go Go.Proofs
open Nat (reduceAdd reduceLeDiff reduceMul reduceSub)
open Int (reduceLE reduceToNat)
def zy (n:Nd) (p:Int):Int:=
 let i:Int:=n.s.length-1-(p-n.e)
 if i<0 then 0 else match n.s[i.toNat]? with
  | some c=>(c.toNat:Int)-48
  | none=>0
def mW (a b:Nd):Nat→Int→Int
 | 0,_=>0
 | k+1,p=>if zy a p<zy b p then -1 else if zy b p<zy a p then 1 else mW a b k (p-1)
def kZ (a b:Nd):Int:=if (b.s.length+b.e:Int) > a.s.length+a.e then (b.s.length+b.e:Int) else a.s.length+a.e
def jZ (a b:Nd):Int:=if b.e<a.e then b.e else a.e
def jm (a b:Nd):Int:=
 let side:Int:=if a.neg then -1 else 1
 if a.neg≠b.neg then side else side*mW a b (kZ a b-jZ a b+1).toNat (kZ a b)
structure Cw (n:Nd):Prop where
 len:n.s.length≤200
 gy:gy n.s=true
 lo:-1000≤n.e
 hi:n.e≤1000
theorem qA {s:List UInt8}(h:gy s=true){i:Nat}{c:UInt8}(hc:s[i]?=some c):48≤c.toNat∧c.toNat≤57:=by
 simp only [gy,List.all_eq_true,Bool.and_eq_true,decide_eq_true_eq] at h
 have:=h c (List.mem_of_getElem? hc)
 exact ⟨UInt8.le_iff_toNat_le.1 this.1,UInt8.le_iff_toNat_le.1 this.2⟩
theorem abp (n:Nd) (p:Int) (hn:Cw n) (hp:-2000≤p∧p≤2000):ai Tryz.prog 115 [aA n,.int .i64 p] [] (.int .i64 (zy n p)) []:=by
 obtain ⟨h1,h2,h3,h4⟩:=hn
 refine FE.pure (T:=aP Tryz.prog []) 0 hD (aj ah) aU (by decide) ?_
 (conv=>arg 4;cbv);simp(maxSteps:=400000)only[↓aH,aI,BEq.rfl,reduceIte,reduceCtorEq,Nat.reduceLT,reduceAdd,reduceSub,reduceMul,Nat.reduceBEq,reduceLeDiff,reduceToNat,reduceLE]
 refine aT _ (Weak.freeze 1 0 (Nat.le_refl _) _) ?_
 simp(maxSteps:=400000)only[↓aH,aI,BEq.rfl,reduceIte,reduceCtorEq,Nat.reduceLT,reduceAdd,reduceSub,reduceMul,Nat.reduceBEq,reduceLeDiff,reduceToNat,reduceLE,jA]
 refine ⟨⟨by omega,by omega⟩,⟨by omega,by omega⟩,⟨by omega,by omega⟩,fun h=>?_,fun h=>⟨fun h'=>?_,fun h'=>⟨by omega,?_⟩⟩⟩
 · simp only [zy,if_pos h]
 · have:n.s[(↑n.s.length-1-(p-n.e)).toNat]?=none:=List.getElem?_eq_none (by omega)
   simp only [zy,if_neg h,this]
 · have hi:(↑n.s.length-1-(p-n.e)).toNat<n.s.length:=by omega
   have hg:=List.getElem?_eq_getElem hi
   have hf:=qA h2 hg
   generalize hc:n.s[(↑n.s.length-1-(p-n.e)).toNat]=c at *
   simp(maxSteps:=400000)only[↓aH,aI,BEq.rfl,reduceIte,reduceCtorEq,Nat.reduceLT,reduceAdd,reduceSub,reduceMul,Nat.reduceBEq,reduceLeDiff,reduceToNat,reduceLE,hg,ko,nE,IntKind.wrap]
   refine ⟨⟨by omega,by omega⟩,?_⟩
   simp only [zy,if_neg h,hg]
   have hm:((c.toNat:Int)-48) % 2 ^ IntKind.i64.bits=(c.toNat:Int)-48:=Int.emod_eq_of_lt (by omega) (by have:(2:Int) ^ IntKind.i64.bits=18446744073709551616:=rfl;omega)
   rw [hm,if_neg]
   have h2:(2:Int) ^ (IntKind.i64.bits-1)=9223372036854775808:=rfl
   have h3:IntKind.i64.signed=true:=rfl
   rw [h2,h3]
   simp
   omega
def VP:dJ:=fun args objs K=>match args with
 | [a0,.int .i64 p]=>fU aA a0 (HK.mk:HK fun n=>(Cw n)∧(-2000≤p∧p≤2000)∧K (.int .i64 (zy n p)) objs 0)
 | _=>False
theorem Z9:aD Tryz.prog 115 (VP):=by
 intro args objs K h
 unfold VP at h
 split at h
 · rename_i a0 p
   obtain ⟨n,rfl,h1,h2,hk⟩:=h
   exact ⟨_,_,_,.pure _ rfl (abp n p h1 h2),hk⟩
 · exact h.elim
theorem QF (a b:Nd) (ha:Cw a) (hb:Cw b):ai Tryz.prog 92 [aA a,aA b] [] (.int .i64 (jm a b)) []:=by
 refine D8.pure (T:=aP Tryz.prog [(115,VP)]) 0 hD (aj (af Z9 ah)) aU (by decide) ?_
 (conv=>arg 4;cbv);simp(maxSteps:=400000)only[↓aH,aI,BEq.rfl,reduceIte,reduceCtorEq,Nat.reduceLT,reduceAdd,reduceSub,reduceMul,Nat.reduceBEq,reduceLeDiff,reduceToNat,reduceLE]
 refine aT _ (Weak.freeze 1 0 (Nat.le_refl _) _) ?_
 cases hx:a.neg <;> cases hy:b.neg
 all_goals simp(maxSteps:=400000)only[↓aH,aI,BEq.rfl,reduceIte,reduceCtorEq,Nat.reduceLT,reduceAdd,reduceSub,reduceMul,Nat.reduceBEq,reduceLeDiff,reduceToNat,reduceLE,ZA,ZB,hx,hy]
 case false.true=>simp [jm,hx,hy]
 case true.false=>simp [jm,hx,hy]
 all_goals
  have b1:-2000≤kZ a b∧kZ a b≤2000:=by obtain ⟨a1,a2,a3,a4⟩:=ha;obtain ⟨b1,b2,b3,b4⟩:=hb;unfold kZ;split <;> omega
  have b2:-1000≤jZ a b∧jZ a b≤1000:=by obtain ⟨a1,a2,a3,a4⟩:=ha;obtain ⟨b1,b2,b3,b4⟩:=hb;unfold jZ;split <;> omega
  have l1:=ha.len
  have l2:=hb.len
  have e1:=ha.lo
  have e2:=ha.hi
  have e3:=hb.lo
  have e4:=hb.hi
  refine ⟨⟨by omega,by omega⟩,⟨by omega,by omega⟩,?_⟩
  refine aF (fun m S=>∃ p:Int,(m:Int)=(if 0≤p-jZ a b+1 then p-jZ a b+1 else 0)∧p≤kZ a b∧-2000≤p∧
   (mW a b (kZ a b-jZ a b+1).toNat (kZ a b)=mW a b (p-jZ a b+1).toNat p)∧
   S=⟨dz 56 [(2,.addr (aA a)),(3,.addr (aA b)),(5,.int .i64 (if a.neg=true then -1 else 1)),(7,.int .i64 p)],[]⟩) (kZ a b-jZ a b+1).toNat ⟨kZ a b,?_,Int.le_refl _,by omega,rfl,?_⟩ ?_
  · split <;> omega
  · simp only [bG,keepR,reduceAdd,kS,Nat.reduceBEq,hx,if_true,if_false,kZ,Bool.false_eq_true]
  rintro m S ⟨p,hm,hp1,hp2,hd,rfl⟩
  simp(maxSteps:=400000)only[↓aH,aI,BEq.rfl,reduceIte,reduceCtorEq,Nat.reduceLT,reduceAdd,reduceSub,reduceMul,Nat.reduceBEq,reduceLeDiff,reduceToNat,reduceLE,↓VP]
  refine ⟨fun hlow=>⟨ha,⟨by omega,by omega⟩,hb,⟨by omega,by omega⟩,fun hlt=>?_,fun hlt=>⟨fun hgt=>?_,fun hgt=>?_⟩⟩,fun hlow=>?_⟩
  · have hl:jZ a b≤p:=hlow
    have e:(p-jZ a b+1).toNat=(p-jZ a b).toNat+1:=by omega
    rw [e] at hd
    simp only [mW,if_pos hlt] at hd
    simp only [jm,hd,hx,hy]
    simp
  · have hl:jZ a b≤p:=hlow
    have e:(p-jZ a b+1).toNat=(p-jZ a b).toNat+1:=by omega
    rw [e] at hd
    simp only [mW,if_neg hlt,if_pos hgt] at hd
    simp only [jm,hd,hx,hy]
    simp
  · have hl:jZ a b≤p:=hlow
    have e:(p-jZ a b+1).toNat=(p-1-jZ a b+1).toNat+1:=by omega
    rw [e] at hd
    simp only [mW,if_neg hlt,if_neg hgt] at hd
    rw [if_pos (by omega)] at hm
    refine ⟨⟨by omega,by omega⟩,m-1,by omega,p-1,?_,by omega,by omega,hd,rfl⟩
    split <;> omega
  · have hl:¬ jZ a b≤p:=hlow
    have e:(p-jZ a b+1).toNat=0:=by omega
    rw [e] at hd
    simp only [mW] at hd
    simp only [jm,hd,hx,hy]
    simp
def yj:dJ:=fun args objs K=>match args with
 | [a0,a1]=>fU aA a0 (HK.mk:HK fun a=>fU aA a1 (HK.mk:HK fun b=>(Cw a)∧(Cw b)∧K (.int .i64 (jm a b)) objs 0))
 | _=>False
theorem Ns:aD Tryz.prog 92 (yj):=by
 intro args objs K h
 unfold yj at h
 split at h
 · rename_i a0 a1
   obtain ⟨a,rfl,b,rfl,h1,h2,hk⟩:=h
   exact ⟨_,_,_,.pure _ rfl (QF a b h1 h2),hk⟩
 · exact h.elim
end Lp
namespace Lp
open Go Go.Proofs
theorem Iy (x:Int):ai Tryz.prog 166 [.int .i64 x] [] (.bool false) []:=by
 refine D9.pure (T:=aP Tryz.prog []) 0 hD (aj ah) aU (by decide) ?_
 (conv=>arg 4;cbv);simp only [↓BL,Gf,↓DY,↓zP,↓DZ,zQ,↓nT,nu,jh,fA,FD,Nat.reduceAdd,Nat.reduceSub,sD,bY,Jw,Jy]
 simp
def Nt:dJ:=fun args objs K=>∃ x:Int,args=[.int .i64 x]∧K (.bool false) objs 0
theorem TS:aD Tryz.prog 166 Nt:=by
 rintro args objs K ⟨x,rfl,hk⟩
 exact ⟨_,_,_,.pure _ rfl (Iy x),hk⟩
theorem Er (x y:Int):ai Tryz.prog 131 [.int .i64 x,.int .i64 y] [] (.int .i64 (uz x y)) []:=by
 refine zU.pure (T:=aP Tryz.prog [(166,Nt)]) 0 hD (aj (af TS ah)) aU (by decide) ?_
 (conv=>arg 4;cbv);simp only [↓BL,Gf,↓DY,↓zP,↓DZ,zQ,↓nT,nu,jh,fA,FD,Nat.reduceAdd,Nat.reduceSub,sD,bY,caR,taR,Nt,Nat.reduceBEq,BEq.rfl,cond_true,cond_false,rC,Jw,Jy]
 refine ⟨x,rfl,y,rfl,(fun h=>by cases h),fun _=>⟨(fun h=>by cases h),fun _=>⟨fun h=>?_,fun h=>⟨fun h'=>?_,fun h'=>?_⟩⟩⟩⟩
 · rw [uz,if_pos (of_decide_eq_true h)]
 · rw [uz,if_neg (of_decide_eq_false h),if_pos (of_decide_eq_true h')]
 · rw [uz,if_neg (of_decide_eq_false h),if_neg (of_decide_eq_false h')]
theorem Iz (x:List UInt8):ai Tryz.prog 168 [.str x] [] (.bool false) []:=by
 refine yP.pure (T:=aP Tryz.prog []) 0 hD (aj ah) aU (by decide) ?_
 (conv=>arg 4;cbv);simp only [↓BL,Gf,↓DY,↓zP,↓DZ,zQ,↓nT,nu,jh,fA,FD,Nat.reduceAdd,Nat.reduceSub,sD,bY,Jw,je]
 simp
def Nu:dJ:=fun args objs K=>∃ x:List UInt8,args=[.str x]∧K (.bool false) objs 0
theorem TT:aD Tryz.prog 168 Nu:=by
 rintro args objs K ⟨x,rfl,hk⟩
 exact ⟨_,_,_,.pure _ rfl (Iz x),hk⟩
theorem tN (x y:List UInt8):ai Tryz.prog 133 [.str x,.str y] [] (.int .i64 (jK x y)) []:=by
 refine vX.pure (T:=aP Tryz.prog [(168,Nu)]) 0 hD (aj (af TT ah)) aU (by decide) ?_
 (conv=>arg 4;cbv);simp only [↓BL,Gf,↓DY,↓zP,↓DZ,zQ,↓nT,nu,jh,fA,FD,Nat.reduceAdd,Nat.reduceSub,sD,bY,caR,taR,Nu,Nat.reduceBEq,BEq.rfl,cond_true,cond_false,rC,Jw,je]
 refine ⟨x,rfl,y,rfl,(fun h=>by cases h),fun _=>⟨(fun h=>by cases h),fun _=>⟨fun h=>?_,fun h=>⟨fun h'=>?_,fun h'=>?_⟩⟩⟩⟩
 · rw [jK,if_pos h]
 · rw [h,Bool.false_or] at h'
   have hne:x≠y:=by simpa using h'
   rw [jK,if_neg (by rw [h];simp),if_neg hne]
 · rw [h,Bool.false_or] at h'
   have he:x=y:=by simpa using h'
   rw [jK,if_neg (by rw [h];simp),if_pos he]
end Lp
namespace Lp
open Go Go.Proofs
def Nv:dJ:=fun args objs K=>∃ x y:List UInt8,args=[.str x,.str y]∧K (.int .i64 (jK x y)) objs 0
theorem TU:aD Tryz.prog 133 Nv:=by
 rintro args objs K ⟨x,y,rfl,hk⟩
 exact ⟨_,_,_,.pure _ rfl (tN x y),hk⟩
theorem Am (a b:List (List UInt8)) (ha:a.length≤9223372036854775807) (_hb:b.length≤9223372036854775807) :
  ai Tryz.prog 134 [dQ a,dQ b] [] (.int .i64 (eZ jK a b)) []:=by
 refine mh.pure (T:=aP Tryz.prog [(133,Nv)]) 0 hD (aj (af TU ah)) aU (by decide) ?_
 (conv=>arg 4;cbv);simp only [↓BL,Gf,↓DY,↓zP,↓DZ,zQ,↓nT,nu,jh,fA,FD,Nat.reduceAdd,Nat.reduceSub,sD,bY,fq,qg,dQ,List.length_map,Jw,Jy]
 refine aF (fun m S=>∃ i:Nat,m=a.length-i∧i≤a.length∧i≤b.length∧eZ jK (a.drop i) (b.drop i)=eZ jK a b∧
  S=⟨mkT 36 [(0,dQ a),(1,dQ b),(9,dQ a),(10,.int .i64 a.length),(11,.int .i64 i)],[]⟩) a.length ⟨0,rfl,Nat.zero_le _,Nat.zero_le _,rfl,?_⟩ ?_
 · simp only [VE,dQ,sD];rfl
 rintro m S ⟨i,rfl,hi,hib,hlex,rfl⟩
 simp only [↓BL,Gf,↓DY,↓zP,↓DZ,zQ,↓nT,nu,jh,fA,FD,Nat.reduceAdd,Nat.reduceSub,sD,VE,bY,caR,taR,Nv,Nat.reduceBEq,BEq.rfl,cond_true,cond_false,fq,qg,dQ,Jw,Jy,zR,List.length_map,bq,fF,↓zh,JP,Gg,ne_eq,reduceCtorEq,not_false_eq_true,true_and,PV.bool.injEq,Int.toNat_natCast,List.length_cons,List.length_nil]
 refine ⟨fun h=>?_,fun h=>?_⟩
 · have hlt:i<a.length:=by have:=of_decide_eq_true h;omega
   rw [List.drop_eq_getElem_cons hlt] at hlex
   refine ⟨by omega,a[i],List.getElem?_eq_getElem hlt,fun hge=>?_,fun hgl=>?_⟩
   · have hbe:b.length≤i:=by have:=of_decide_eq_true hge;omega
     rw [List.drop_eq_nil_of_le hbe] at hlex
     rw [← hlex];rfl
   · have hbl:i<b.length:=by have:=of_decide_eq_false hgl;omega
     rw [List.drop_eq_getElem_cons hbl] at hlex
     refine ⟨by omega,b[i],List.getElem?_eq_getElem hbl,a[i],b[i],rfl,fun hne=>?_,fun heq=>⟨by omega,a.length-(i+1),by omega,i+1,rfl,by omega,by omega,?_,rfl⟩⟩
     · have hne':jK a[i] b[i]≠0:=by simpa using hne
       rw [← hlex,eZ,if_neg hne']
     · have heq':jK a[i] b[i]=0:=by simpa using heq
       rw [← hlex,eZ,if_pos heq']
 · rw [if_pos trivial]
   have hge:a.length≤i:=by have:=of_decide_eq_false h;omega
   rw [List.drop_eq_nil_of_le hge] at hlex
   refine ⟨fun hl=>?_,fun hl=>?_⟩
   · have hl':i<b.length:=by have:=of_decide_eq_true hl;omega
     rw [List.drop_eq_getElem_cons hl'] at hlex
     rw [← hlex];rfl
   · have hl':b.length≤i:=by have:=of_decide_eq_false hl;omega
     rw [List.drop_eq_nil_of_le hl'] at hlex
     rw [← hlex];rfl
end Lp
namespace Lp
open Go Go.Proofs
def adj (a b:List Vl) (f:Vl→Vl→Int):dJ:=fun args objs K=>∃ x y:Vl,(x ∈ a∧y ∈ b)∧args=[aB x,aB y]∧K (.int .i64 (f x y)) objs 0
theorem abq (a b:List Vl) (g:FuncId) (f:Vl→Vl→Int) (hg:∀ x ∈ a,∀ y ∈ b,ai Tryz.prog g [aB x,aB y] [] (.int .i64 (f x y)) []):aD Tryz.prog g (adj a b f):=by
 rintro args objs K ⟨x,y,⟨hx,hy⟩,rfl,hk⟩
 exact ⟨_,_,_,.pure _ rfl (hg x hx y hy),hk⟩
theorem uZ (a b:List Vl) (g:FuncId) (f:Vl→Vl→Int) (ha:a.length≤9223372036854775807) (hg:∀ x ∈ a,∀ y ∈ b,ai Tryz.prog g [aB x,aB y] [] (.int .i64 (f x y)) []) :
  ai Tryz.prog 136 [dD a,dD b,.fn g [] []] [] (.int .i64 (eZ f a b)) []:=by
 refine fT.pure (T:=aP Tryz.prog [(g,adj a b f)]) 0 hD (aj (af (abq a b g f hg) ah)) aU (by decide) ?_
 (conv=>arg 4;cbv);simp only [↓BL,Gf,↓DY,↓zP,↓DZ,zQ,↓nT,nu,jh,fA,FD,Nat.reduceAdd,Nat.reduceSub,sD,bY,fq,qg,dD,List.length_map,Jw,Jy]
 refine aF (fun m S=>∃ i:Nat,m=a.length-i∧i≤a.length∧i≤b.length∧eZ f (a.drop i) (b.drop i)=eZ f a b∧
  S=⟨mkT 39 [(0,dD a),(1,dD b),(2,.fn g [] []),(11,dD a),(12,.int .i64 a.length),(13,.int .i64 i)],[]⟩) a.length ⟨0,rfl,Nat.zero_le _,Nat.zero_le _,rfl,?_⟩ ?_
 · simp only [VE,dD,sD];rfl
 rintro m S ⟨i,rfl,hi,hib,hlex,rfl⟩
 simp only [↓BL,Gf,↓DY,↓zP,↓DZ,zQ,↓nT,nu,jh,fA,FD,Nat.reduceAdd,Nat.reduceSub,sD,VE,bY,caR,taR,adj,Nat.reduceBEq,BEq.rfl,cond_true,cond_false,fq,qg,dD,Jw,Jy,zR,List.length_map,bq,fF,↓zh,JP,Gg,ne_eq,reduceCtorEq,not_false_eq_true,true_and,PV.bool.injEq,Int.toNat_natCast,List.length_cons,List.length_nil]
 refine ⟨fun h=>?_,fun h=>?_⟩
 · have hlt:i<a.length:=by have:=of_decide_eq_true h;omega
   rw [List.drop_eq_getElem_cons hlt] at hlex
   refine ⟨by omega,a[i],List.getElem?_eq_getElem hlt,rfl,rfl,fun hge=>?_,fun hgl=>?_⟩
   · have hbe:b.length≤i:=by have:=of_decide_eq_true hge;omega
     rw [List.drop_eq_nil_of_le hbe] at hlex
     rw [← hlex];rfl
   · have hbl:i<b.length:=by have:=of_decide_eq_false hgl;omega
     rw [List.drop_eq_getElem_cons hbl] at hlex
     refine ⟨by omega,b[i],List.getElem?_eq_getElem hbl,rfl,rfl,a[i],b[i],⟨List.getElem_mem _,List.getElem_mem _⟩,rfl,fun hne=>?_,fun heq=>⟨by omega,a.length-(i+1),by omega,i+1,rfl,by omega,by omega,?_,rfl⟩⟩
     · have hne':f a[i] b[i]≠0:=by simpa using hne
       rw [← hlex,eZ,if_neg hne']
     · have heq':f a[i] b[i]=0:=by simpa using heq
       rw [← hlex,eZ,if_pos heq']
 · rw [if_pos trivial]
   have hge:a.length≤i:=by have:=of_decide_eq_false h;omega
   rw [List.drop_eq_nil_of_le hge] at hlex
   refine ⟨fun hl=>?_,fun hl=>?_⟩
   · have hl':i<b.length:=by have:=of_decide_eq_true hl;omega
     rw [List.drop_eq_getElem_cons hl'] at hlex
     rw [← hlex];rfl
   · have hl':b.length≤i:=by have:=of_decide_eq_false hl;omega
     rw [List.drop_eq_nil_of_le hl'] at hlex
     rw [← hlex];rfl
end Lp
namespace Lp
open Go Go.Proofs
open Nat (reduceAdd reduceLeDiff reduceMul reduceSub)
def yo:dJ:=fun args objs K=>match args with
 | [.int .i64 x,.int .i64 y]=>K (.int .i64 (uz x y)) objs 0
 | _=>False
theorem IA:aD Tryz.prog 131 (yo):=by
 intro args objs K h
 unfold yo at h
 split at h
 · rename_i x y
   have hk:=h
   exact ⟨_,_,_,.pure _ rfl (Er x y),hk⟩
 · exact h.elim
def yt:dJ:=fun args objs K=>match args with
 | [.str x,.str y]=>K (.int .i64 (jK x y)) objs 0
 | _=>False
theorem IB:aD Tryz.prog 133 (yt):=by
 intro args objs K h
 unfold yt at h
 split at h
 · rename_i x y
   have hk:=h
   exact ⟨_,_,_,.pure _ rfl (tN x y),hk⟩
 · exact h.elim
theorem XM (a b:Nd) (ha:a.s.length≤1000000) (hb:b.s.length≤1000000) (hae:-1000≤a.e∧a.e≤1000) (hbe:-1000≤b.e∧b.e≤1000):ai Tryz.prog 167 [aA a,aA b] [] (.int .i64 (oU a b)) []:=by
 refine SS.pure (T:=aP Tryz.prog [(131,yo),(133,yt)]) 0 hD (aj (af IA (af IB ah))) aU (by decide) ?_
 (conv=>arg 4;cbv);simp(maxSteps:=400000)only[↓aH,aI,BEq.rfl,reduceIte,reduceCtorEq,Nat.reduceLT,reduceAdd,reduceSub,reduceMul,Nat.reduceBEq,reduceLeDiff,Int.reduceToNat,Int.reduceLE]
 refine aT _ (Weak.freeze 1 0 (Nat.le_refl _) _) ?_
 simp(maxSteps:=400000)only[↓aH,aI,BEq.rfl,reduceIte,reduceCtorEq,Nat.reduceLT,reduceAdd,reduceSub,reduceMul,Nat.reduceBEq,reduceLeDiff,Int.reduceToNat,Int.reduceLE,ZA,ZB,↓yo,↓yt]
 refine ⟨fun h=>?_,fun h=>⟨fun h'=>?_,fun h'=>⟨⟨by omega,by omega⟩,⟨by omega,by omega⟩,fun h0=>?_,fun h0=>?_⟩⟩⟩
 · rw [oU,if_pos (.inl h)]
 · rw [oU,if_pos (.inr h')]
 · rw [oU,if_neg (by simp [h,h']),if_pos h0]
 · rw [oU,if_neg (by simp [h,h']),if_neg h0]
def Z_ (n:Nd):Prop:=n.s.length≤1000000∧-1000≤n.e∧n.e≤1000
def Gp:dJ:=fun args objs K=>match args with
 | [a0,a1]=>fU aA a0 (HK.mk:HK fun a=>fU aA a1 (HK.mk:HK fun b=>(Z_ a)∧(Z_ b)∧K (.int .i64 (oU a b)) objs 0))
 | _=>False
theorem TV:aD Tryz.prog 167 (Gp):=by
 intro args objs K h
 unfold Gp at h
 split at h
 · rename_i a0 a1
   obtain ⟨a,rfl,b,rfl,h1,h2,hk⟩:=h
   exact ⟨_,_,_,.pure _ rfl (XM a b h1.1 h2.1 h1.2 h2.2),hk⟩
 · exact h.elim
theorem QG (a b:Nd) (ha:Z_ a) (hb:Z_ b):ai Tryz.prog 132 [aA a,aA b] [] (.int .i64 (Wi a b)) []:=by
 refine Xd.pure (T:=aP Tryz.prog [(167,Gp)]) 0 hD (aj (af TV ah)) aU (by decide) ?_
 (conv=>arg 4;cbv);simp(maxSteps:=400000)only[↓aH,aI,BEq.rfl,reduceIte,reduceCtorEq,Nat.reduceLT,reduceAdd,reduceSub,reduceMul,Nat.reduceBEq,reduceLeDiff,Int.reduceToNat,Int.reduceLE]
 refine aT _ (Weak.freeze 1 0 (Nat.le_refl _) _) ?_
 simp(maxSteps:=400000)only[↓aH,aI,BEq.rfl,reduceIte,reduceCtorEq,Nat.reduceLT,reduceAdd,reduceSub,reduceMul,Nat.reduceBEq,reduceLeDiff,Int.reduceToNat,Int.reduceLE,ZA,ZB,↓Gp]
 cases hx:a.neg <;> cases hy:b.neg
 all_goals simp only [ifR,Wi,hx,hy,Bool.not_true,Bool.not_false,reduceIte,Bool.and_true,Bool.and_false,Bool.and_self,Bool.false_eq_true,ha,hb]
 all_goals exact ⟨trivial,trivial,trivial⟩
def yu:dJ:=fun args objs K=>match args with
 | [a0,a1]=>fU aA a0 (HK.mk:HK fun a=>fU aA a1 (HK.mk:HK fun b=>(Z_ a)∧(Z_ b)∧K (.int .i64 (Wi a b)) objs 0))
 | _=>False
theorem Nw:aD Tryz.prog 132 (yu):=by
 intro args objs K h
 unfold yu at h
 split at h
 · rename_i a0 a1
   obtain ⟨a,rfl,b,rfl,h1,h2,hk⟩:=h
   exact ⟨_,_,_,.pure _ rfl (QG a b h1 h2),hk⟩
 · exact h.elim
end Lp
namespace Lp
open Go Go.Proofs
theorem QH (v:Vl) (hl:v.length≤1099511627776) (ho:One v):ai Tryz.prog 137 [aB v] [] (dD (ax v)) []:=by
 cases v with
 | nil=>exact absurd rfl ho.ne
 | cons n r=>
  obtain ⟨hm,ps,h1,_,_⟩:=ho.parts
  have:=Td (n::r) n r ps rfl hl hm h1
  rw [ax,dD,(cZ h1).1,List.map_map]
  exact this
theorem QI (v:Vl) (hl:v.length≤1099511627776) (ho:One v):ai Tryz.prog 135 [aB v] [] (dQ (bN v)) []:=by
 cases v with
 | nil=>exact absurd rfl ho.ne
 | cons n r=>
  obtain ⟨hm,ps,h1,_,_⟩:=ho.parts
  have:=Te (n::r) n r ps rfl hl hm h1
  rw [Md] at this
  rw [bN,dQ,(cZ h1).2]
  exact this
def Cx:dJ:=fun args objs K=>match args with
 | [a0]=>fU aB a0 (HK.mk:HK fun v=>(v.length≤1099511627776)∧(One v)∧K (dD (ax v)) objs 0)
 | _=>False
theorem QJ:aD Tryz.prog 137 (Cx):=by
 intro args objs K h
 unfold Cx at h
 split at h
 · rename_i a0
   obtain ⟨v,rfl,h1,h2,hk⟩:=h
   exact ⟨_,_,_,.pure _ rfl (QH v h1 h2),hk⟩
 · exact h.elim
def Cy:dJ:=fun args objs K=>match args with
 | [a0]=>fU aB a0 (HK.mk:HK fun v=>(v.length≤1099511627776)∧(One v)∧K (dQ (bN v)) objs 0)
 | _=>False
theorem QK:aD Tryz.prog 135 (Cy):=by
 intro args objs K h
 unfold Cy at h
 split at h
 · rename_i a0
   obtain ⟨v,rfl,h1,h2,hk⟩:=h
   exact ⟨_,_,_,.pure _ rfl (QI v h1 h2),hk⟩
 · exact h.elim
end Lp
namespace Lp
open Go Go.Proofs
def Ny:dJ:=fun args objs K=>match args with
 | [a0,a1]=>fU dQ a0 (HK.mk:HK fun a=>fU dQ a1 (HK.mk:HK fun b=>(a.length≤9223372036854775807)∧(b.length≤9223372036854775807)∧K (.int .i64 (eZ jK a b)) objs 0))
 | _=>False
theorem XO:aD Tryz.prog 134 (Ny):=by
 intro args objs K h
 unfold Ny at h
 split at h
 · rename_i a0 a1
   obtain ⟨a,rfl,b,rfl,h1,h2,hk⟩:=h
   exact ⟨_,_,_,.pure _ rfl (Am a b h1 h2),hk⟩
 · exact h.elim
def VQ (f:Nat):dJ:=fun args objs K=>match args with
 | [a0,a1,a2]=>fU dD a0 (HK.mk:HK fun x=>fU dD a1 (HK.mk:HK fun y=>a2=(.fn 107 [] [])∧(x.length≤9223372036854775807)∧(∀ p ∈ x,∀ q ∈ y,ai Tryz.prog 107 [aB p,aB q] [] (.int .i64 (sF f p q)) [])∧K (.int .i64 (eZ (sF f) x y)) objs 0))
 | _=>False
theorem aac (f:Nat):aD Tryz.prog 136 (VQ f):=by
 intro args objs K h
 unfold VQ at h
 split at h
 · rename_i a0 a1 a2
   obtain ⟨x,rfl,y,rfl,rfl,h1,h2,hk⟩:=h
   exact ⟨_,_,_,.pure _ rfl (uZ x y _ _ h1 h2),hk⟩
 · exact h.elim
structure Ok (v:Vl):Prop where
 one:One v
 len:v.length≤1099511627776
 all:∀ n ∈ v,Z_ n
theorem Ok.parts {v:Vl}(h:Ok v):(ax v).length≤1099511627776∧(bN v).length≤1099511627776∧∀ p ∈ ax v,Ok p∧p.length+1≤v.length:=by
 cases v with
 | nil=>exact absurd rfl h.one.ne
 | cons n r=>
  obtain ⟨hm,ps,h1,h2,h3⟩:=h.one.parts
  have hpl:=fV _ _ _ h1
  have hpn:=bB _ _ _ h1
  have hlen:=h.len
  simp only [List.length_cons] at hlen
  refine ⟨?_,?_,?_⟩
  · rw [ax,(cZ h1).1,List.length_map];omega
  · rw [bN];split
    · rw [(cZ h1).2,List.length_map];omega
    · simp
  · intro p hp
    rw [ax,(cZ h1).1] at hp
    obtain ⟨q,hq,rfl⟩:=List.mem_map.1 hp
    have hql:=lK hq
    rw [h2] at hql
    refine ⟨⟨(h3 q hq).gU,by rw [fe];omega,?_⟩,by rw [fe,List.length_cons];omega⟩
    have hin:∀ x ∈ q,Z_ x:=fun x hx=>h.all x (List.mem_cons_of_mem _ (by rw [← h2];exact List.mem_flatten.2 ⟨q,hq,hx⟩))
    intro x hx
    cases q with
    | nil=>cases hx
    | cons m s=>
     rcases List.mem_cons.1 hx with rfl | hx
     · exact hin m (List.mem_cons_self ..)
     · exact hin x (List.mem_cons_of_mem _ hx)
theorem zA:∀ (f:Nat) (a b:Vl),a.length≤f→Ok a→Ok b→ai Tryz.prog 107 [aB a,aB b] [] (.int .i64 (sF f a b)) []
 | 0,a,b,h,ha,_=>by have:=ha.one.ne;cases a <;> simp at h this
 | f+1,[],b,_,ha,_=>absurd rfl ha.one.ne
 | f+1,n::r,[],_,_,hb=>absurd rfl hb.one.ne
 | f+1,n::r,m::q,h,ha,hb=>by
  have hpa:=ha.parts
  have hpb:=hb.parts
  have ih:∀ p ∈ ax (n::r),∀ p' ∈ ax (m::q),ai Tryz.prog 107 [aB p,aB p'] [] (.int .i64 (sF f p p')) []:=
   fun p hp p' hp'=>zA f p p' (by have:=(hpa.2.2 p hp).2;omega) (hpa.2.2 p hp).1 (hpb.2.2 p' hp').1
  refine PK.pure (T:=aP Tryz.prog [(131,yo),(132,yu),(133,yt),(134,Ny),(135,Cy),(137,Cx),(136,(VQ f))]) 0 hD (aj (af IA (af Nw (af IB (af XO (af QK (af QJ (af (aac f) ah)))))))) aU (by decide) ?_
  (conv=>arg 4;cbv);simp(maxSteps:=400000)only[↓aH,aI,BEq.rfl,reduceIte,reduceCtorEq,Nat.reduceLT,Nat.reduceAdd,Nat.reduceSub,Nat.reduceMul,Nat.reduceBEq,Nat.reduceLeDiff,Int.reduceToNat,Int.reduceLE,↓yo,↓yu,↓yt,↓Ny,↓Cy,↓Cx,↓VQ]
  have e1:Z_ n:=ha.all n (List.mem_cons_self ..)
  have e2:Z_ m:=hb.all m (List.mem_cons_self ..)
  have l1:r.length≤1099511627775:=by have:=ha.len;simp only [List.length_cons] at this;omega
  have l2:q.length≤1099511627775:=by have:=hb.len;simp only [List.length_cons] at this;omega
  have l3:(ax (n::r)).length≤9223372036854775807:=by have:=hpa.1;omega
  have l4:(bN (n::r)).length≤9223372036854775807:=by have:=hpa.2.1;omega
  have l5:(bN (m::q)).length≤9223372036854775807:=by have:=hpb.2.1;omega
  refine ⟨fun hk=>?_,fun hk=>?_⟩
  · have hk:n.kind=m.kind:=(pJ.zero _ _ trivial trivial).1 hk
    have k0:¬ (n.kind≠m.kind):=fun h=>h hk
    refine ⟨fun h3=>⟨e1,e2,?_⟩,fun h3=>⟨fun h4=>?_,fun h4=>⟨fun h6=>⟨l1,ha.one,l2,hb.one,l4,l5,fun hl=>⟨l1,ha.one,l2,hb.one,l3,ih,?_⟩,fun hl=>?_⟩,fun h6=>⟨fun h5=>⟨l1,ha.one,l2,hb.one,l3,ih,?_⟩,fun h5=>?_⟩⟩⟩⟩
    · simp only [sF,gV,if_neg k0,if_pos h3]
    · simp only [sF,gV,if_neg k0,if_neg h3,if_pos h4]
    · have h5:¬ n.kind=5:=by omega
      have h6':m.kind=6:=by omega
      simp only [bN,if_pos h6,if_pos h6'] at hl
      simp only [sF,gV,if_neg k0,if_neg h3,if_neg h4,if_neg h5,if_pos h6,if_pos hl,ax]
    · have h5:¬ n.kind=5:=by omega
      have h6':m.kind=6:=by omega
      simp only [bN,if_pos h6,if_pos h6'] at hl ⊢
      simp only [sF,gV,if_neg k0,if_neg h3,if_neg h4,if_neg h5,if_pos h6,if_neg hl]
    · simp only [sF,gV,if_neg k0,if_neg h3,if_neg h4,if_pos h5,ax]
    · simp only [sF,gV,if_neg k0,if_neg h3,if_neg h4,if_neg h5,if_neg h6]
  · have hk':n.kind≠m.kind:=fun h=>hk ((pJ.zero _ _ trivial trivial).2 h)
    simp only [sF,gV,if_pos hk']
def yw (f:Nat):dJ:=fun args objs K=>match args with
 | [a0,a1]=>fU aB a0 (HK.mk:HK fun a=>fU aB a1 (HK.mk:HK fun b=>(a.length≤f)∧(Ok a)∧(Ok b)∧K (.int .i64 (sF f a b)) objs 0))
 | _=>False
theorem Nz (f:Nat):aD Tryz.prog 107 (yw f):=by
 intro args objs K h
 unfold yw at h
 split at h
 · rename_i a0 a1
   obtain ⟨a,rfl,b,rfl,h1,h2,h3,hk⟩:=h
   exact ⟨_,_,_,.pure _ rfl (zA f a b h1 h2 h3),hk⟩
 · exact h.elim
end Lp
namespace Lp
open Go Go.Proofs
open Nat (lt_or_ge reduceAdd reduceLeDiff reduceMul reduceSub)
open Int (reduceLE reduceToNat)
def Fg (a b:Bool):Int:=if b then 0 else if a then -1 else 1
theorem XP (a b:Bool):ai Tryz.prog 91 [.bool a,.bool b] [] (.int .i64 (Fg a b)) []:=by
 refine BO.a_ (T:=aP Tryz.prog []) 0 hD (aj ah) aU (by decide) fun Q hQ=>?_
 cases a <;> cases b
 all_goals (conv=>arg 4;cbv);simp(maxSteps:=400000)only[↓aH,aI,BEq.rfl,reduceIte,reduceCtorEq,Nat.reduceLT,reduceAdd,reduceSub,reduceMul,Nat.reduceBEq,reduceLeDiff,reduceToNat,reduceLE,hQ,Fg]
def gQ:dJ:=fun args objs K=>match args with
 | [.bool a,.bool b]=>K (.int .i64 (Fg a b)) objs 0
 | _=>False
theorem Ao:aD Tryz.prog 91 (gQ):=by
 intro args objs K h
 unfold gQ at h
 split at h
 · rename_i a b
   have hk:=h
   exact ⟨_,_,_,.pure _ rfl (XP a b),hk⟩
 · exact h.elim
theorem Lx {α:Type}(f:α→α→Int) (a b:List α) (h:a=[]∨b=[]):eZ f a b=Fg (decide ((a.length:Int)<b.length)) (decide ((a.length:Int)=b.length)):=by
 rcases h with rfl | rfl
 · cases b with
   | nil=>rfl
   | cons y ys=>
    have h1:decide ((([]:List α).length:Int)<((y::ys).length:Int))=true:=by simp <;> omega
    have h2:decide ((([]:List α).length:Int)=((y::ys).length:Int))=false:=by simp <;> omega
    rw [h1,h2];rfl
 · cases a with
   | nil=>rfl
   | cons y ys=>
    have h1:decide (((y::ys).length:Int)<(([]:List α).length:Int))=false:=by simp <;> omega
    have h2:decide (((y::ys).length:Int)=(([]:List α).length:Int))=false:=by simp <;> omega
    rw [h1,h2];rfl
theorem J8 (a b:List (List UInt8)) (ha:a.length≤1000000) (hb:b.length≤1000000):ai Tryz.prog 94 [dQ a,dQ b] [] (.int .i64 (eZ jK a b)) []:=by
 refine zW.a_ (T:=aP Tryz.prog [(91,gQ)]) 0 hD (aj (af Ao ah)) aU (by decide) fun Q hQ=>?_
 (conv=>arg 4;cbv);simp(maxSteps:=400000)only[↓aH,aI,BEq.rfl,reduceIte,reduceCtorEq,Nat.reduceLT,reduceAdd,reduceSub,reduceMul,Nat.reduceBEq,reduceLeDiff,reduceToNat,reduceLE,hQ]
 refine aF (fun m S=>∃ i:Nat,i+m=a.length∧i≤b.length∧eZ jK (a.drop i) (b.drop i)=eZ jK a b∧S=⟨dz 48 [(0,dQ a),(1,dQ b),(5,.int .i64 i)],[]⟩) a.length ⟨0,by omega,by omega,rfl,?_⟩ ?_
 · simp only [bG,keepR,reduceAdd,kS,Nat.reduceBEq,List.map_nil]
   rfl
 rintro m S ⟨i,him,hib,hlx,rfl⟩
 have zi:(0≤(i:Int))=True:=eq_true (by omega)
 have fin:a.length≤i∨b.length≤i→eZ jK a b=Fg (decide ((a.length:Int)<b.length)) (decide ((a.length:Int)=b.length)):=by
  intro h
  rw [← hlx,Lx]
  · simp only [List.length_drop]
    congr 1
    · exact decide_eq_decide.2 (by omega)
    · exact decide_eq_decide.2 (by omega)
  · rcases h with h | h
    · exact .inl (List.drop_eq_nil_of_le h)
    · exact .inr (List.drop_eq_nil_of_le h)
 rcases lt_or_ge i a.length with h | h
 rotate_left 1
 · have hlt:((i:Int)<(a.length:Int))=False:=eq_false (by omega)
   simp(maxSteps:=400000)only[↓aH,aI,BEq.rfl,reduceIte,reduceCtorEq,Nat.reduceLT,reduceAdd,reduceSub,reduceMul,Nat.reduceBEq,reduceLeDiff,reduceToNat,reduceLE,hQ,hlt,↓gQ]
   rw [fin (.inl h)]
 have hlt:((i:Int)<(a.length:Int))=True:=eq_true (by omega)
 rcases lt_or_ge i b.length with h' | h'
 rotate_left 1
 · have hlt2:((i:Int)<(b.length:Int))=False:=eq_false (by omega)
   simp(maxSteps:=400000)only[↓aH,aI,BEq.rfl,reduceIte,reduceCtorEq,Nat.reduceLT,reduceAdd,reduceSub,reduceMul,Nat.reduceBEq,reduceLeDiff,reduceToNat,reduceLE,hQ,hlt,hlt2,↓gQ]
   rw [fin (.inr h')]
 have hlt2:((i:Int)<(b.length:Int))=True:=eq_true (by omega)
 have ga:=List.getElem?_eq_getElem h
 have gb:=List.getElem?_eq_getElem h'
 have da:=List.drop_eq_getElem_cons h
 have db:=List.drop_eq_getElem_cons h'
 generalize a[i]=x at ga da
 generalize b[i]=y at gb db
 rw [da,db,eZ] at hlx
 by_cases hxy:x=y
 · subst hxy
   rw [if_pos ((Dt.zero _ _ trivial trivial).2 rfl)] at hlx
   simp(maxSteps:=400000)only[↓aH,aI,BEq.rfl,reduceIte,reduceCtorEq,Nat.reduceLT,reduceAdd,reduceSub,reduceMul,Nat.reduceBEq,reduceLeDiff,reduceToNat,reduceLE,hQ,hlt,hlt2,zi,ga,gb,↓gQ]
   exact ⟨⟨by omega,by omega⟩,m-1,by omega,i+1,by omega,by omega,hlx,by simp⟩
 · have hne:jK x y≠0:=fun h=>hxy ((Dt.zero _ _ trivial trivial).1 h)
   rw [if_neg hne] at hlx
   simp(maxSteps:=400000)only[↓aH,aI,BEq.rfl,reduceIte,reduceCtorEq,Nat.reduceLT,reduceAdd,reduceSub,reduceMul,Nat.reduceBEq,reduceLeDiff,reduceToNat,reduceLE,hQ,hlt,hlt2,zi,ga,gb,hxy,↓gQ]
   rw [← hlx]
   rcases j5 x y with ⟨h1,e1⟩ | ⟨h1,_⟩ | ⟨h1,e1⟩
   · rw [e1,h1];rfl
   · exact absurd h1 hxy
   · rw [e1,lu _ _ h1];rfl
def rJ:dJ:=fun args objs K=>match args with
 | [a0,a1]=>fU dQ a0 (HK.mk:HK fun a=>fU dQ a1 (HK.mk:HK fun b=>(a.length≤1000000)∧(b.length≤1000000)∧K (.int .i64 (eZ jK a b)) objs 0))
 | _=>False
theorem IC:aD Tryz.prog 94 (rJ):=by
 intro args objs K h
 unfold rJ at h
 split at h
 · rename_i a0 a1
   obtain ⟨a,rfl,b,rfl,h1,h2,hk⟩:=h
   exact ⟨_,_,_,.pure _ rfl (J8 a b h1 h2),hk⟩
 · exact h.elim
def Cz (f:Vl→Vl→Int):dJ:=fun args objs K=>match args with
 | [a0,a1]=>fU aB a0 (HK.mk:HK fun p=>fU aB a1 (HK.mk:HK fun q=>(ai Tryz.prog 67 [aB p,aB q] [] (.int .i64 (f p q)) [])∧K (.int .i64 (f p q)) objs 0))
 | _=>False
theorem TW (f:Vl→Vl→Int):aD Tryz.prog 67 (Cz f):=by
 intro args objs K h
 unfold Cz at h
 split at h
 · rename_i a0 a1
   obtain ⟨p,rfl,q,rfl,h1,hk⟩:=h
   exact ⟨_,_,_,.pure _ rfl (h1),hk⟩
 · exact h.elim
theorem NA (f:Vl→Vl→Int) (a b:List Vl) (ha:a.length≤1000000) (hb:b.length≤1000000) (hf:∀ p ∈ a,∀ q ∈ b,ai Tryz.prog 67 [aB p,aB q] [] (.int .i64 (f p q)) []):ai Tryz.prog 93 [dD a,dD b] [] (.int .i64 (eZ f a b)) []:=by
 refine BP.a_ (T:=aP Tryz.prog [(67,(Cz f)),(91,gQ)]) 0 hD (aj (af (TW f) (af Ao ah))) aU (by decide) fun Q hQ=>?_
 (conv=>arg 4;cbv);simp(maxSteps:=400000)only[↓aH,aI,BEq.rfl,reduceIte,reduceCtorEq,Nat.reduceLT,reduceAdd,reduceSub,reduceMul,Nat.reduceBEq,reduceLeDiff,reduceToNat,reduceLE,hQ]
 refine aF (fun m S=>∃ i:Nat,i+m=a.length∧i≤b.length∧eZ f (a.drop i) (b.drop i)=eZ f a b∧S=⟨dz 42 [(0,dD a),(1,dD b),(5,.int .i64 i)],[]⟩) a.length ⟨0,by omega,by omega,rfl,?_⟩ ?_
 · simp only [bG,keepR,reduceAdd,kS,Nat.reduceBEq,List.map_nil]
   rfl
 rintro m S ⟨i,him,hib,hlx,rfl⟩
 have zi:(0≤(i:Int))=True:=eq_true (by omega)
 have fin:a.length≤i∨b.length≤i→eZ f a b=Fg (decide ((a.length:Int)<b.length)) (decide ((a.length:Int)=b.length)):=by
  intro h
  rw [← hlx,Lx]
  · simp only [List.length_drop]
    congr 1
    · exact decide_eq_decide.2 (by omega)
    · exact decide_eq_decide.2 (by omega)
  · rcases h with h | h
    · exact .inl (List.drop_eq_nil_of_le h)
    · exact .inr (List.drop_eq_nil_of_le h)
 rcases lt_or_ge i a.length with h | h
 rotate_left 1
 · have hlt:((i:Int)<(a.length:Int))=False:=eq_false (by omega)
   simp(maxSteps:=400000)only[↓aH,aI,BEq.rfl,reduceIte,reduceCtorEq,Nat.reduceLT,reduceAdd,reduceSub,reduceMul,Nat.reduceBEq,reduceLeDiff,reduceToNat,reduceLE,hQ,hlt,↓gQ]
   rw [fin (.inl h)]
 have hlt:((i:Int)<(a.length:Int))=True:=eq_true (by omega)
 rcases lt_or_ge i b.length with h' | h'
 rotate_left 1
 · have hlt2:((i:Int)<(b.length:Int))=False:=eq_false (by omega)
   simp(maxSteps:=400000)only[↓aH,aI,BEq.rfl,reduceIte,reduceCtorEq,Nat.reduceLT,reduceAdd,reduceSub,reduceMul,Nat.reduceBEq,reduceLeDiff,reduceToNat,reduceLE,hQ,hlt,hlt2,↓gQ]
   rw [fin (.inr h')]
 have hlt2:((i:Int)<(b.length:Int))=True:=eq_true (by omega)
 have ga:=List.getElem?_eq_getElem h
 have gb:=List.getElem?_eq_getElem h'
 have da:=List.drop_eq_getElem_cons h
 have db:=List.drop_eq_getElem_cons h'
 have hfx:=hf _ (List.getElem_mem h) _ (List.getElem_mem h')
 generalize a[i]=x at ga da hfx
 generalize b[i]=y at gb db hfx
 rw [da,db,eZ] at hlx
 by_cases hxy:f x y=0
 · rw [if_pos hxy] at hlx
   simp(maxSteps:=400000)only[↓aH,aI,BEq.rfl,reduceIte,reduceCtorEq,Nat.reduceLT,reduceAdd,reduceSub,reduceMul,Nat.reduceBEq,reduceLeDiff,reduceToNat,reduceLE,hQ,hlt,hlt2,zi,ga,gb,hxy,↓gQ,↓Cz]
   exact ⟨by rw [← hxy];exact hfx,⟨by omega,by omega⟩,m-1,by omega,i+1,by omega,by omega,hlx,by simp⟩
 · rw [if_neg hxy] at hlx
   simp(maxSteps:=400000)only[↓aH,aI,BEq.rfl,reduceIte,reduceCtorEq,Nat.reduceLT,reduceAdd,reduceSub,reduceMul,Nat.reduceBEq,reduceLeDiff,reduceToNat,reduceLE,hQ,hlt,hlt2,zi,ga,gb,hxy,↓gQ,↓Cz]
   exact ⟨hfx,by rw [hlx]⟩
end Lp
namespace Lp
open Go Go.Proofs
open Nat (reduceAdd reduceLeDiff reduceMul reduceSub)
open Int (reduceEq reduceLE reduceToNat)
structure Ok2 (v:Vl):Prop where
 one:One v
 len:v.length≤1000000
 all:∀ n ∈ v,n.kind=3→Cw n
theorem Ok2.parts {v:Vl}(h:Ok2 v):(ax v).length≤1000000∧(bN v).length≤1000000∧∀ p ∈ ax v,Ok2 p∧p.length+1≤v.length:=by
 cases v with
 | nil=>exact absurd rfl h.one.ne
 | cons n r=>
  obtain ⟨hm,ps,h1,h2,h3⟩:=h.one.parts
  have hpl:=fV _ _ _ h1
  have hpn:=bB _ _ _ h1
  have hlen:=h.len
  simp only [List.length_cons] at hlen
  refine ⟨?_,?_,?_⟩
  · rw [ax,(cZ h1).1,List.length_map];omega
  · rw [bN];split
    · rw [(cZ h1).2,List.length_map];omega
    · simp
  · intro p hp
    rw [ax,(cZ h1).1] at hp
    obtain ⟨q,hq,rfl⟩:=List.mem_map.1 hp
    have hql:=lK hq
    rw [h2] at hql
    refine ⟨⟨(h3 q hq).gU,by rw [fe];omega,?_⟩,by rw [fe,List.length_cons];omega⟩
    have hin:∀ x ∈ q,x.kind=3→Cw x:=fun x hx=>h.all x (List.mem_cons_of_mem _ (by rw [← h2];exact List.mem_flatten.2 ⟨q,hq,hx⟩))
    intro x hx
    cases q with
    | nil=>cases hx
    | cons m s=>
     rcases List.mem_cons.1 hx with rfl | hx
     · intro hk
       have:=hin m (List.mem_cons_self ..) hk
       exact ⟨this.len,this.gy,this.lo,this.hi⟩
     · exact hin x (List.mem_cons_of_mem _ hx)
def CB (f:Vl→Vl→Int):dJ:=fun args objs K=>match args with
 | [a0,a1]=>fU dD a0 (HK.mk:HK fun x=>fU dD a1 (HK.mk:HK fun y=>(x.length≤1000000)∧(y.length≤1000000)∧(∀ p ∈ x,∀ q ∈ y,ai Tryz.prog 67 [aB p,aB q] [] (.int .i64 (f p q)) [])∧K (.int .i64 (eZ f x y)) objs 0))
 | _=>False
theorem TY (f:Vl→Vl→Int):aD Tryz.prog 93 (CB f):=by
 intro args objs K h
 unfold CB at h
 split at h
 · rename_i a0 a1
   obtain ⟨x,rfl,y,rfl,h1,h2,h3,hk⟩:=h
   exact ⟨_,_,_,.pure _ rfl (NA f x y h1 h2 h3),hk⟩
 · exact h.elim
theorem IE {a b a' b':Nd}(h1:∀ p,zy a p=zy a' p) (h2:∀ p,zy b p=zy b' p):∀ (k:Nat) (p:Int),mW a b k p=mW a' b' k p
 | 0,_=>rfl
 | k+1,p=>by simp only [mW,h1,h2,IE h1 h2 k]
theorem T9 (n m:Nd) (k l:Int) (x y:List UInt8):jm { n with kind:=k,name:=x } { m with kind:=l,name:=y }=jm n m:=by
 have hd:∀ (j:Nat) (p:Int),mW { n with kind:=k,name:=x } { m with kind:=l,name:=y } j p=mW n m j p:=IE (fun _=>rfl) (fun _=>rfl)
 simp only [jm,hd]
 rfl
theorem CF:∀ (f:Nat) (a b:Vl),a.length≤f→Ok2 a→Ok2 b→ai Tryz.prog 67 [aB a,aB b] [] (.int .i64 (gV jm f a b)) []
 | 0,a,b,h,ha,_=>by have:=ha.one.ne;cases a <;> simp at h this
 | f+1,[],b,_,ha,_=>absurd rfl ha.one.ne
 | f+1,n::r,[],_,_,hb=>absurd rfl hb.one.ne
 | f+1,n::r,m::q,h,ha,hb=>by
  have hpa:=ha.parts
  have hpb:=hb.parts
  have ih:∀ p ∈ ax (n::r),∀ p' ∈ ax (m::q),ai Tryz.prog 67 [aB p,aB p'] [] (.int .i64 (gV jm f p p')) []:=
   fun p hp p' hp'=>CF f p p' (by have:=(hpa.2.2 p hp).2;omega) (hpa.2.2 p hp).1 (hpb.2.2 p' hp').1
  have l1:=ha.len
  have l2:=hb.len
  have o1:=ha.one
  have o2:=hb.one
  generalize hA:n::r=A at *
  generalize hB:m::q=B at *
  have ga:A[0]?=some n:=by rw [← hA];rfl
  have gb:B[0]?=some m:=by rw [← hB];rfl
  have na:=ha.all n (by rw [← hA];exact List.mem_cons_self ..)
  have nb:=hb.all m (by rw [← hB];exact List.mem_cons_self ..)
  have pA:ax A=partsOf n r:=by rw [← hA];rfl
  have pB:ax B=partsOf m q:=by rw [← hB];rfl
  have sA:bN A=if n.kind=6 then uD n r else []:=by rw [← hA];rfl
  have sB:bN B=if m.kind=6 then uD m q else []:=by rw [← hB];rfl
  have res:gV jm (f+1) A B=gV jm (f+1) (n::r) (m::q):=by rw [hA,hB]
  refine D6.a_ (T:=aP Tryz.prog [(91,gQ),(92,yj),(38,aS),(90,jP),(94,rJ),(93,(CB (gV jm f)))]) 0 hD (aj (af Ao (af Ns (af jl (af tJ (af IC (af (TY (gV jm f)) ah))))))) aU (by decide) fun Q hQ=>?_
  by_cases hk:n.kind=m.kind
  rotate_left 1
  · (conv=>arg 4;cbv);simp(maxSteps:=400000)only[↓aH,aI,BEq.rfl,reduceIte,reduceCtorEq,Nat.reduceLT,reduceAdd,reduceSub,reduceMul,Nat.reduceBEq,reduceLeDiff,reduceToNat,reduceLE,hQ,ga,gb,hk,↓gQ]
    have:gV jm (f+1) A B=Fg (decide (n.kind<m.kind)) false:=by
     rw [res]
     simp only [gV,ne_eq,hk,not_false_eq_true,if_true,uz,Fg,decide_eq_true_eq,Bool.false_eq_true,if_false]
     split
     · rfl
     · rw [if_pos (by omega)]
    rw [this]
  by_cases h3:n.kind=3
  · have h3':m.kind=3:=by omega
    have e3:gV jm (f+1) A B=jm n m:=by
     rw [res];simp [gV,hk,h3']
    (conv=>arg 4;cbv);simp(maxSteps:=400000)only[↓aH,aI,BEq.rfl,reduceIte,reduceCtorEq,Nat.reduceLT,reduceAdd,reduceSub,reduceMul,Nat.reduceBEq,reduceLeDiff,reduceToNat,reduceLE,hQ,ga,gb,h3,h3',↓gQ,↓yj,reduceEq,bI,bJ]
    refine ⟨by decide,?_,?_,?_⟩
    · have:=na h3;exact ⟨this.len,this.gy,this.lo,this.hi⟩
    · have:=nb h3';exact ⟨this.len,this.gy,this.lo,this.hi⟩
    · rw [e3];exact congrArg _ (T9 n m 3 3 [] []).symm
  by_cases h4:n.kind=4
  · have h4':m.kind=4:=by omega
    (conv=>arg 4;cbv);simp(maxSteps:=400000)only[↓aH,aI,BEq.rfl,reduceIte,reduceCtorEq,Nat.reduceLT,reduceAdd,reduceSub,reduceMul,Nat.reduceBEq,reduceLeDiff,reduceToNat,reduceLE,hQ,ga,gb,h4,h4',↓gQ,reduceEq]
    have e4:gV jm (f+1) A B=jK n.s m.s:=by
     rw [res];simp [gV,hk,h4']
    rw [e4]
    rcases j5 n.s m.s with ⟨g1,e1⟩ | ⟨g1,e1⟩ | ⟨g1,e1⟩
    · have:n.s≠m.s:=fun hh=>by rw [hh,eT] at g1;cases g1
      rw [e1,g1,decide_eq_false this];rfl
    · rw [e1,decide_eq_true g1];rfl
    · have:n.s≠m.s:=fun hh=>by rw [hh,eT] at g1;cases g1
      rw [e1,decide_eq_false this,lu _ _ g1];rfl
  by_cases h5:n.kind=5
  · have h5':m.kind=5:=by omega
    (conv=>arg 4;cbv);simp(maxSteps:=400000)only[↓aH,aI,BEq.rfl,reduceIte,reduceCtorEq,Nat.reduceLT,reduceAdd,reduceSub,reduceMul,Nat.reduceBEq,reduceLeDiff,reduceToNat,reduceLE,hQ,ga,gb,h5,h5',↓gQ,reduceEq,↓aS,↓CB]
    have e5:gV jm (f+1) A B=eZ (gV jm f) (ax A) (ax B):=by
     rw [res,pA,pB];simp [gV,hk,h5']
    exact ⟨o1,l1,o2,l2,hpa.1,hpb.1,ih,by rw [e5]⟩
  by_cases h6:n.kind=6
  · have h6':m.kind=6:=by omega
    (conv=>arg 4;cbv);simp(maxSteps:=400000)only[↓aH,aI,BEq.rfl,reduceIte,reduceCtorEq,Nat.reduceLT,reduceAdd,reduceSub,reduceMul,Nat.reduceBEq,reduceLeDiff,reduceToNat,reduceLE,hQ,ga,gb,h6,h6',↓gQ,reduceEq,↓aS,↓CB,↓jP,↓rJ]
    have e6:gV jm (f+1) A B=if eZ jK (bN A) (bN B)=0 then eZ (gV jm f) (ax A) (ax B) else eZ jK (bN A) (bN B):=by
     rw [res,pA,pB,sA,sB,if_pos h6,if_pos h6'];simp [gV,hk,h6']
    refine ⟨o1,l1,o2,l2,hpa.2.1,hpb.2.1,fun hz=>⟨o1,l1,o2,l2,hpa.1,hpb.1,ih,?_⟩,fun hz=>?_⟩
    · rw [e6,if_pos hz]
    · rw [e6,if_neg hz]
  · have e0:gV jm (f+1) A B=0:=by
     rw [res];simp only [gV,hk,ne_eq,not_true_eq_false,if_false,hk ▸ h3,hk ▸ h4,hk ▸ h5,hk ▸ h6]
    (conv=>arg 4;cbv);simp(maxSteps:=400000)only[↓aH,aI,BEq.rfl,reduceIte,reduceCtorEq,Nat.reduceLT,reduceAdd,reduceSub,reduceMul,Nat.reduceBEq,reduceLeDiff,reduceToNat,reduceLE,hQ,ga,gb,hk ▸ h3,hk ▸ h4,hk ▸ h5,hk ▸ h6,hk,↓gQ,e0]
def oh (f:Nat):dJ:=fun args objs K=>match args with
 | [a0,a1]=>fU aB a0 (HK.mk:HK fun a=>fU aB a1 (HK.mk:HK fun b=>(a.length≤f)∧(Ok2 a)∧(Ok2 b)∧K (.int .i64 (gV jm f a b)) objs 0))
 | _=>False
theorem Ap (f:Nat):aD Tryz.prog 67 (oh f):=by
 intro args objs K h
 unfold oh at h
 split at h
 · rename_i a0 a1
   obtain ⟨a,rfl,b,rfl,h1,h2,h3,hk⟩:=h
   exact ⟨_,_,_,.pure _ rfl (CF f a b h1 h2 h3),hk⟩
 · exact h.elim
end Lp
namespace Lp
open Go
theorem NC {v:Vl}(h:dG v=true):∀ n ∈ v,bD n=true:=by
 have hg:=(nJ h).good
 intro n hn
 obtain ⟨i,hi,rfl⟩:=List.getElem_of_mem hn
 exact (hg i v[i] (v.drop (i+1)) (List.drop_eq_getElem_cons hi)).1
theorem qB {n:Nd}(h:bD n=true) (hk:n.kind=3):qQ n=true:=by
 rw [bD,if_neg (by omega),if_pos hk] at h
 exact h
theorem VR {n:Nd}(h:qQ n=true):Cw n:=by
 have:=(oK n).1 h
 exact ⟨by omega,this.2.1,by omega,by omega⟩
theorem XQ {n:Nd}(h:bD n=true) (hs:n.s.length≤1000000):Z_ n:=by
 refine ⟨hs,?_⟩
 by_cases h3:n.kind=3
 · have:=VR (qB h h3)
   exact ⟨this.lo,this.hi⟩
 · have he:n.e=0:=by
    unfold bD at h
    split at h
    · simp only [Bool.and_eq_true,beq_iff_eq] at h;exact h.2
    · split at h
      · simp only [Bool.and_eq_true,beq_iff_eq] at h;exact h.2
      · split at h
        · simp only [Bool.and_eq_true,beq_iff_eq] at h;exact h.2
        · cases h
   omega
structure aeu (v:Vl) (k:Nat):Prop where
 len:v.length≤k
 rt:Rt v
 ok:Ok v
 ok2:Ok2 v
end Lp
namespace Lp
open Go
open List (drop_eq_nil_of_le)
def tO:List UInt8→List UInt8→Int
 | [],[]=>0
 | [],y::ys=>if 48<y.toNat then -1 else tO [] ys
 | x::xs,[]=>if 48<x.toNat then 1 else tO xs []
 | x::xs,y::ys=>if x.toNat<y.toNat then -1 else if y.toNat<x.toNat then 1 else tO xs ys
theorem QL {s:List UInt8}(h:gy s=true):∀ c ∈ s,48≤c.toNat∧c.toNat≤57:=by
 intro c hc
 obtain ⟨i,hi,rfl⟩:=List.getElem_of_mem hc
 exact qA h (List.getElem?_eq_getElem hi)
theorem ND (n:Nd) (i:Nat):zy n ((n.s.length:Int)+n.e-1-i)=match n.s[i]? with | some c=>(c.toNat:Int)-48 | none=>0:=by
 have e:(n.s.length:Int)-1-((n.s.length:Int)+n.e-1-i-n.e)=i:=by omega
 simp only [zy,e]
 rw [if_neg (by omega),Int.toNat_natCast]
 try rfl
theorem QM (a b:Nd) (ha:gy a.s=true) (hb:gy b.s=true) (ht:(a.s.length:Int)+a.e=b.s.length+b.e):∀ (k i:Nat),a.s.length≤i+k→b.s.length≤i+k→mW a b k ((a.s.length:Int)+a.e-1-i)=tO (a.s.drop i) (b.s.drop i)
 | 0,i,h1,h2=>by
  rw [drop_eq_nil_of_le (by omega),drop_eq_nil_of_le (by omega)]
  simp only [mW,tO]
 | k+1,i,h1,h2=>by
  have ih:=QM a b ha hb ht k (i+1) (by omega) (by omega)
  have e:(a.s.length:Int)+a.e-1-((i+1:Nat):Int)=(a.s.length:Int)+a.e-1-i-1:=by omega
  rw [e] at ih
  have fa:=ND a i
  have fb:=ND b i
  rw [← ht] at fb
  simp only [mW,ih]
  rcases Nat.lt_or_ge i a.s.length with la | la <;> rcases Nat.lt_or_ge i b.s.length with lb | lb
  · rw [List.getElem?_eq_getElem la] at fa
    rw [List.getElem?_eq_getElem lb] at fb
    simp only at fa fb
    rw [List.drop_eq_getElem_cons la,List.drop_eq_getElem_cons lb,tO,fa,fb]
    by_cases c1:a.s[i].toNat<b.s[i].toNat
    · rw [if_pos (by omega),if_pos c1]
    · rw [if_neg (by omega),if_neg c1]
      by_cases c2:b.s[i].toNat<a.s[i].toNat
      · rw [if_pos (by omega),if_pos c2]
      · rw [if_neg (by omega),if_neg c2]
  · rw [List.getElem?_eq_getElem la] at fa
    rw [List.getElem?_eq_none lb] at fb
    simp only at fa fb
    have:=qA ha (List.getElem?_eq_getElem la)
    rw [List.drop_eq_getElem_cons la,drop_eq_nil_of_le lb,drop_eq_nil_of_le (by omega:b.s.length≤i+1),tO,fa,fb]
    by_cases c1:48<a.s[i].toNat
    · rw [if_neg (by omega),if_pos (by omega),if_pos c1]
    · rw [if_neg (by omega),if_neg (by omega),if_neg c1]
  · rw [List.getElem?_eq_none la] at fa
    rw [List.getElem?_eq_getElem lb] at fb
    simp only at fa fb
    have:=qA hb (List.getElem?_eq_getElem lb)
    rw [List.drop_eq_getElem_cons lb,drop_eq_nil_of_le la,drop_eq_nil_of_le (by omega:a.s.length≤i+1),tO,fa,fb]
    by_cases c1:48<b.s[i].toNat
    · rw [if_pos (by omega),if_pos c1]
    · rw [if_neg (by omega),if_neg (by omega),if_neg c1]
  · rw [List.getElem?_eq_none la] at fa
    rw [List.getElem?_eq_none lb] at fb
    simp only at fa fb
    rw [drop_eq_nil_of_le la,drop_eq_nil_of_le lb,drop_eq_nil_of_le (by omega:a.s.length≤i+1),drop_eq_nil_of_le (by omega:b.s.length≤i+1),fa,fb]
    simp
theorem IG:∀ ys:List UInt8,(∀ c ∈ ys,48≤c.toNat)→ys≠[]→ys.getLast?≠some 48→tO [] ys=-1
 | [],_,h,_=>absurd rfl h
 | [y],hf,_,hl=>by
  have h1:=hf y (List.mem_cons_self ..)
  have h2:y.toNat≠48:=fun h=>hl (by rw [List.getLast?_singleton];congr 1;exact UInt8.toNat_inj.1 (by simpa using h))
  rw [tO,if_pos (by omega)]
 | y::z::ys,hf,_,hl=>by
  rw [tO]
  split
  · rfl
  · exact IG (z::ys) (fun c hc=>hf c (List.mem_cons_of_mem _ hc)) (by simp) (by rwa [List.getLast?_cons_cons] at hl)
theorem yx:∀ xs ys:List UInt8,tO ys xs=-tO xs ys
 | [],[]=>by simp [tO]
 | [],y::ys=>by
  simp only [tO];split
  · rfl
  · exact yx [] ys
 | x::xs,[]=>by
  simp only [tO];split
  · rfl
  · exact yx xs []
 | x::xs,y::ys=>by
  simp only [tO]
  have:=yx xs ys
  repeat' split
  all_goals omega
theorem QN:∀ xs ys:List UInt8,(∀ c ∈ xs,48≤c.toNat)→(∀ c ∈ ys,48≤c.toNat)→xs.getLast?≠some 48→ys.getLast?≠some 48→tO xs ys=jK xs ys
 | [],[],_,_,_,_=>by simp [tO,jK,Op.bytesLess]
 | [],y::ys,_,hb,_,lb=>by rw [IG (y::ys) hb (by simp) lb];rfl
 | x::xs,[],ha,_,la,_=>by rw [yx,IG (x::xs) ha (by simp) la];rfl
 | x::xs,y::ys,ha,hb,la,lb=>by
  have hla:xs.getLast?≠some 48:=by
   cases xs with
   | nil=>simp
   | cons z zs=>rwa [List.getLast?_cons_cons] at la
  have hlb:ys.getLast?≠some 48:=by
   cases ys with
   | nil=>simp
   | cons z zs=>rwa [List.getLast?_cons_cons] at lb
  have ih:=QN xs ys (fun c hc=>ha c (List.mem_cons_of_mem _ hc)) (fun c hc=>hb c (List.mem_cons_of_mem _ hc)) hla hlb
  rw [tO]
  by_cases h1:x.toNat<y.toNat
  · have:x<y:=UInt8.lt_iff_toNat_lt.2 h1
    rw [if_pos h1]
    simp [jK,Op.bytesLess,this]
  · rw [if_neg h1]
    have hn:¬ x<y:=fun h=>h1 (UInt8.lt_iff_toNat_lt.1 h)
    by_cases h2:y.toNat<x.toNat
    · have hxy:x≠y:=fun h=>by rw [h] at h2;omega
      rw [if_pos h2]
      simp [jK,Op.bytesLess,hn,hxy]
    · have hxy:x=y:=UInt8.toNat_inj.1 (by omega)
      subst hxy
      rw [if_neg h2,ih]
      simp [jK,Op.bytesLess]
theorem iD (n:Nd) (p:Int) (h:(n.s.length:Int)+n.e≤p):zy n p=0:=by
 simp only [zy]
 rw [if_pos (by omega)]
theorem yA (n:Nd) (hf:gy n.s=true) (hs:n.s≠[]) (hh:n.s.head?≠some 48):0<zy n ((n.s.length:Int)+n.e-1):=by
 have h:=ND n 0
 cases hns:n.s with
 | nil=>exact absurd hns hs
 | cons c t=>
  have h0:n.s[0]?=some c:=by rw [hns];rfl
  rw [h0] at h
  simp only [Int.natCast_zero,Int.sub_zero] at h
  have hc:=qA hf h0
  have hne:c.toNat≠48:=fun he=>hh (by rw [hns,List.head?_cons];congr 1;exact UInt8.toNat_inj.1 (by simpa using he))
  rw [← hns,h]
  omega
theorem VS (a b:Nd) (k:Nat) (p:Int) (hk:2≤k) (h0:zy a p=zy b p) (h1:zy a (p-1)<zy b (p-1)):mW a b k p=-1:=by
 obtain ⟨k,rfl⟩:∃ q,k=q+2:=⟨k-2,by omega⟩
 rw [mW,if_neg (by omega),if_neg (by omega),mW,if_pos h1]
theorem VT (a b:Nd) (k:Nat) (p:Int) (hk:2≤k) (h0:zy a p=zy b p) (h1:zy b (p-1)<zy a (p-1)):mW a b k p=1:=by
 obtain ⟨k,rfl⟩:∃ q,k=q+2:=⟨k-2,by omega⟩
 rw [mW,if_neg (by omega),if_neg (by omega),mW,if_neg (by omega),if_pos h1]
theorem LA (a b:Nd) (h:∀ p,zy a p=zy b p):∀ (k:Nat) (p:Int),mW a b k p=0
 | 0,_=>rfl
 | k+1,p=>by
  have:=h p
  rw [mW,if_neg (by omega),if_neg (by omega)]
  exact LA a b h k (p-1)
end Lp
namespace Lp
open Go
theorem Es (a b:Nd) (t:Int) (h:∀ q,t≤q→zy a q=zy b q) (k:Nat):∀ d:Nat,mW a b (k+d) (t+d)=mW a b k t
 | 0=>by simp
 | d+1=>by
  have:=h (t+((d+1:Nat):Int)) (by omega)
  rw [show k+(d+1)=(k+d)+1 by omega,mW,if_neg (by omega),if_neg (by omega),show t+((d+1:Nat):Int)-1=t+d by omega]
  exact Es a b t h k d
theorem XR (a b:Nd) (ha:qQ a=true) (hb:qQ b=true):mW a b (kZ a b-jZ a b+1).toNat (kZ a b)=oU a b:=by
 have A:=(oK a).1 ha
 have B:=(oK b).1 hb
 have hl:∀ x:Nd,x.s≠[]→0<x.s.length:=fun x h=>List.length_pos_iff.2 h
 have zero:∀ n:Nd,n.s=[]→∀ p,zy n p=0:=by
  intro n hn p
  simp only [zy,hn]
  split
  · rfl
  · simp
 by_cases sa:a.s=[]
 · have ea:a.e=0:=by have:=A.2.2.2.2.2.2;rw [if_pos sa] at this;exact this.2
   by_cases sb:b.s=[]
   · rw [LA a b (fun p=>by rw [zero a sa,zero b sb]),oU,if_pos (.inl sa),sa,sb];rfl
   · have hb2:=B.2.2.2.2.2.2
     rw [if_neg sb] at hb2
     have hlb:=hl b sb
     have first:=yA b B.2.1 sb hb2.1
     rw [oU,if_pos (.inl sa),sa,uz,if_pos (by simp;omega)]
     have low:jZ a b≤b.e:=by unfold jZ;split <;> omega
     have htop:(b.s.length:Int)+b.e≤kZ a b:=by unfold kZ;split <;> omega
     have hsk:=Es a b ((b.s.length:Int)+b.e) (fun q hq=>by rw [zero a sa,iD b q hq]) ((b.s.length:Int)+b.e-jZ a b+1).toNat (kZ a b-(b.s.length+b.e)).toNat
     rw [show ((b.s.length:Int)+b.e-jZ a b+1).toNat+(kZ a b-(b.s.length+b.e)).toNat=(kZ a b-jZ a b+1).toNat by omega,show ((b.s.length:Int)+b.e)+((kZ a b-(b.s.length+b.e)).toNat:Int)=kZ a b by omega] at hsk
     rw [hsk]
     refine VS a b _ _ (by omega) ?_ ?_
     · rw [zero a sa,iD b _ (Int.le_refl _)]
     · rw [zero a sa];exact first
 by_cases sb:b.s=[]
 · have eb:b.e=0:=by have:=B.2.2.2.2.2.2;rw [if_pos sb] at this;exact this.2
   have ha2:=A.2.2.2.2.2.2
   rw [if_neg sa] at ha2
   have hla:=hl a sa
   have first:=yA a A.2.1 sa ha2.1
   rw [oU,if_pos (.inr sb),sb,uz,if_neg (by simp),if_pos (by simp;omega)]
   have low:jZ a b≤a.e:=by unfold jZ;split <;> omega
   have htop:(a.s.length:Int)+a.e≤kZ a b:=by unfold kZ;split <;> omega
   have hsk:=Es a b ((a.s.length:Int)+a.e) (fun q hq=>by rw [zero b sb,iD a q hq]) ((a.s.length:Int)+a.e-jZ a b+1).toNat (kZ a b-(a.s.length+a.e)).toNat
   rw [show ((a.s.length:Int)+a.e-jZ a b+1).toNat+(kZ a b-(a.s.length+a.e)).toNat=(kZ a b-jZ a b+1).toNat by omega,show ((a.s.length:Int)+a.e)+((kZ a b-(a.s.length+a.e)).toNat:Int)=kZ a b by omega] at hsk
   rw [hsk]
   refine VT a b _ _ (by omega) ?_ ?_
   · rw [zero b sb,iD a _ (Int.le_refl _)]
   · rw [zero b sb];exact first
 · have ha2:=A.2.2.2.2.2.2
   have hb2:=B.2.2.2.2.2.2
   rw [if_neg sa] at ha2
   rw [if_neg sb] at hb2
   have hla:=hl a sa
   have hlb:=hl b sb
   have fa:=yA a A.2.1 sa ha2.1
   have fb:=yA b B.2.1 sb hb2.1
   rw [oU,if_neg (by simp [sa,sb])]
   have low:jZ a b≤a.e∧jZ a b≤b.e:=by unfold jZ;split <;> omega
   by_cases ht:(a.s.length:Int)+a.e=b.s.length+b.e
   · rw [if_pos ((pJ.zero _ _ trivial trivial).2 ht)]
     have htop:kZ a b=a.s.length+a.e:=by unfold kZ;split <;> omega
     rw [htop]
     obtain ⟨k,hk⟩:∃ k,((a.s.length:Int)+a.e-jZ a b+1).toNat=k+1:=⟨((a.s.length:Int)+a.e-jZ a b).toNat,by omega⟩
     rw [hk,mW,iD a _ (Int.le_refl _),iD b _ (by omega),if_neg (by omega),if_neg (by omega)]
     have:=QM a b A.2.1 B.2.1 ht k 0 (by omega) (by omega)
     simp only [Int.natCast_zero,Int.sub_zero,List.drop_zero] at this
     rw [this]
     exact QN _ _ (fun c hc=>(QL A.2.1 c hc).1) (fun c hc=>(QL B.2.1 c hc).1) ha2.2 hb2.2
   · rw [if_neg (fun h=>ht ((pJ.zero _ _ trivial trivial).1 h))]
     rcases Int.lt_or_gt_of_ne ht with hlt | hgt
     · have htop:kZ a b=b.s.length+b.e:=by unfold kZ;split <;> omega
       rw [htop,uz,if_pos hlt]
       refine VS a b _ _ (by omega) ?_ ?_
       · rw [iD a _ (by omega),iD b _ (Int.le_refl _)]
       · rw [iD a _ (by omega)];exact fb
     · have htop:kZ a b=a.s.length+a.e:=by unfold kZ;split <;> omega
       rw [htop,uz,if_neg (by omega),if_pos hgt]
       refine VT a b _ _ (by omega) ?_ ?_
       · rw [iD b _ (by omega),iD a _ (Int.le_refl _)]
       · rw [iD b _ (by omega)];exact fa
theorem abr (a b:Nd) (ha:qQ a=true) (hb:qQ b=true):jm a b=Wi a b:=by
 have h:=XR a b ha hb
 have h2:=R9 a b
 simp only [jm,h]
 cases hx:a.neg <;> cases hy:b.neg <;> simp [Wi,hx,hy,h2]
end Lp
namespace Lp
open Go
theorem QO:∀ (f:Nat) (a b:Vl),Rt a→Rt b→gV jm f a b=sF f a b
 | 0,a,b,_,_=>by simp [gV]
 | f+1,[],b,ha,_=>absurd rfl ha.one.ne
 | f+1,n::r,[],_,hb=>absurd rfl hb.one.ne
 | f+1,n::r,m::q,ha,hb=>by
  have hp:=lY ha
  have hq:=lY hb
  have pn:=ha.parts.1
  have pm:=hb.parts.1
  have e:eZ (gV jm f) (partsOf n r) (partsOf m q)=eZ (sF f) (partsOf n r) (partsOf m q):=
   EC _ _ fun x hx y hy=>QO f x y (hp x hx).2 (hq y hy).2
  by_cases hk:n.kind=m.kind
  · by_cases h3:n.kind=3
    · have:=abr n m (qB pn h3) (qB pm (hk ▸ h3))
      simp only [sF,gV,this,e]
    · simp only [sF,gV,if_neg h3,e]
  · simp only [sF,gV,ne_eq,hk,not_false_eq_true,if_true]
end Lp
namespace Lp
open Go Go.Proofs
open Nat (reduceAdd reduceLeDiff reduceMul reduceSub)
open Int (reduceEq reduceLE reduceToNat)
def CG (m e:Int):Bool:=decide (-1000≤e) && decide (e≤1000) && decide (m+e≤1000)
theorem NE (m e:Int) (hm:0≤m∧m≤1000000):ai Tryz.prog 121 [.int .i64 m,.int .i64 e] [] (.bool (CG m e)) []:=by
 refine JR.a_ (T:=aP Tryz.prog []) 0 hD (aj ah) aU (by decide) fun Q hQ=>?_
 rcases tf (-1000≤e) with h1 | h1
 rotate_left 1
 · have hr:CG m e=false:=by have:¬ (-1000≤e):=fun h=>by rw [h1] at h;exact h
                            simp [CG,this]
   (conv=>arg 4;cbv);simp(maxSteps:=400000)only[↓aH,aI,BEq.rfl,reduceIte,reduceCtorEq,Nat.reduceLT,reduceAdd,reduceSub,reduceMul,Nat.reduceBEq,reduceLeDiff,reduceToNat,reduceLE,hQ,h1,hr]
 rcases tf (e≤1000) with h2 | h2
 rotate_left 1
 · have hr:CG m e=false:=by have:¬ (e≤1000):=fun h=>by rw [h2] at h;exact h
                            simp [CG,this]
   (conv=>arg 4;cbv);simp(maxSteps:=400000)only[↓aH,aI,BEq.rfl,reduceIte,reduceCtorEq,Nat.reduceLT,reduceAdd,reduceSub,reduceMul,Nat.reduceBEq,reduceLeDiff,reduceToNat,reduceLE,hQ,h1,h2,hr]
 have h1':=of_eq_true h1
 have h2':=of_eq_true h2
 have hr:CG m e=decide (m+e≤1000):=by simp [CG,h1',h2']
 (conv=>arg 4;cbv);simp(maxSteps:=400000)only[↓aH,aI,BEq.rfl,reduceIte,reduceCtorEq,Nat.reduceLT,reduceAdd,reduceSub,reduceMul,Nat.reduceBEq,reduceLeDiff,reduceToNat,reduceLE,hQ,h1,h2,hr]
 exact ⟨by omega,by omega⟩
def iR:dJ:=fun args objs K=>match args with
 | [.int .i64 m,.int .i64 e]=>(0≤m∧m≤1000000)∧K (.bool (CG m e)) objs 0
 | _=>False
theorem zB:aD Tryz.prog 121 (iR):=by
 intro args objs K h
 unfold iR at h
 split at h
 · rename_i m e
   obtain ⟨h1,hk⟩:=h
   exact ⟨_,_,_,.pure _ rfl (NE m e h1),hk⟩
 · exact h.elim
theorem II (s:List UInt8) (hs:s.length≤4611686018427387904):ai Tryz.prog 118 [.str s] [] (.bool (gy s)) []:=by
 refine FH.a_ (T:=aP Tryz.prog [(150,uW)]) 0 hD (aj (af J4 ah)) aU (by decide) fun Q hQ=>?_
 have hf:=Tx s
 (conv=>arg 4;cbv);simp(maxSteps:=400000)only[↓aH,aI,BEq.rfl,reduceIte,reduceCtorEq,Nat.reduceLT,reduceAdd,reduceSub,reduceMul,Nat.reduceBEq,reduceLeDiff,reduceToNat,reduceLE,hQ,↓uW]
 refine ⟨hs,?_⟩
 rw [Bool.eq_iff_iff,← hf,decide_eq_true_iff]
 constructor
 · intro h;rw [h]
 · intro h
   generalize Lib.trimF mq ⟨⟨s⟩⟩=t at h
   obtain ⟨⟨t⟩⟩:=t
   have h':t=[]:=h
   rw [h']
def dK:dJ:=fun args objs K=>match args with
 | [.str s]=>(s.length≤4611686018427387904)∧K (.bool (gy s)) objs 0
 | _=>False
theorem vQ:aD Tryz.prog 118 (dK):=by
 intro args objs K h
 unfold dK at h
 split at h
 · rename_i s
   obtain ⟨h1,hk⟩:=h
   exact ⟨_,_,_,.pure _ rfl (II s h1),hk⟩
 · exact h.elim
theorem XT (n:Nd) (hk:n.kind=3) (hn:n.name=[]) (hs:n.s.length≤4611686018427387904):ai Tryz.prog 164 [aA n] [] (.bool (qQ n)) []:=by
 refine PO.a_ (T:=aP Tryz.prog [(121,iR),(118,dK),(187,Cn)]) 0 hD (aj (af zB (af vQ (af Ql ah)))) aU (by decide) fun Q hQ=>?_
 (conv=>arg 4;cbv);simp(maxSteps:=400000)only[↓aH,aI,BEq.rfl,reduceIte,reduceCtorEq,Nat.reduceLT,reduceAdd,reduceSub,reduceMul,Nat.reduceBEq,reduceLeDiff,reduceToNat,reduceLE,hQ]
 refine aT _ (Weak.freeze 1 0 (Nat.le_refl _) _) ?_
 have key:=oK n
 have hpw:∀ b,CG n.s.length n.e=b→(b=true↔-1000≤n.e∧n.e≤1000∧n.s.length+n.e≤1000):=fun b hb=>by
  rw [← hb];simp [CG,and_assoc]
 cases hp:CG n.s.length n.e
 · have hr:qQ n=false:=jk fun h=>by
    have g:=(hpw _ hp).2 ⟨(key.1 h).2.2.2.1,(key.1 h).2.2.2.2.1,(key.1 h).2.2.2.2.2.1⟩
    cases g
   simp(maxSteps:=400000)only[↓aH,aI,BEq.rfl,reduceIte,reduceCtorEq,Nat.reduceLT,reduceAdd,reduceSub,reduceMul,Nat.reduceBEq,reduceLeDiff,reduceToNat,reduceLE,hQ,jA,↓iR,hk,hn,reduceEq,hp,hr]
   refine fun h0 h1=>⟨by omega,by omega⟩
 have aad:=(hpw _ hp).1 rfl
 cases hf:gy n.s
 · have hr:qQ n=false:=jk fun h=>by have:=(key.1 h).2.1;rw [hf] at this;cases this
   simp(maxSteps:=400000)only[↓aH,aI,BEq.rfl,reduceIte,reduceCtorEq,Nat.reduceLT,reduceAdd,reduceSub,reduceMul,Nat.reduceBEq,reduceLeDiff,reduceToNat,reduceLE,hQ,jA,↓iR,↓dK,hk,hn,reduceEq,hp,hf,hr]
   refine fun h0 h1=>⟨⟨by omega,by omega⟩,hs⟩
 by_cases hz:n.s=[]
 · rw [if_pos hz] at key
   have hf0:gy []=true:=rfl
   rw [hz] at hp key
   have hp0:CG ((0:Nat):Int) n.e=true:=hp
   simp(maxSteps:=400000)only[↓aH,aI,BEq.rfl,reduceIte,reduceCtorEq,Nat.reduceLT,reduceAdd,reduceSub,reduceMul,Nat.reduceBEq,reduceLeDiff,reduceToNat,reduceLE,hQ,jA,↓iR,↓dK,hk,hn,reduceEq,hp0,hf0,hz]
   refine ⟨fun h0=>⟨fun h=>absurd h (by omega),fun _=>⟨⟨by omega,by omega⟩,fun hng=>?_,fun hng=>?_⟩⟩,fun h0=>jk fun hb=>h0 (key.1 hb).1⟩
   · exact jk fun hb=>by have:=(key.1 hb).2.2.2.2.2.2.1;rw [hng] at this;cases this
   · rw [Bool.eq_iff_iff,decide_eq_true_iff,key]
     refine ⟨fun h=>h.2.2.2.2.2.2.2,fun h=>⟨h0,rfl,by simp,aad.1,aad.2.1,by simp;omega,by simpa using hng,h⟩⟩
 · rw [if_neg hz] at key
   have htr:=Ty n.s 48
   have hz':(n.s=[])=False:=eq_false hz
   simp(maxSteps:=400000)only[↓aH,aI,BEq.rfl,reduceIte,reduceCtorEq,Nat.reduceLT,reduceAdd,reduceSub,reduceMul,Nat.reduceBEq,reduceLeDiff,reduceToNat,reduceLE,hQ,jA,↓iR,↓dK,↓Cn,hk,hn,reduceEq,hp,hf,hz']
   refine ⟨fun h0=>⟨fun h=>jk fun hb=>?_,fun h1=>⟨⟨by omega,by omega⟩,hs,hs,?_⟩⟩,fun h0=>jk fun hb=>h0 (key.1 hb).1⟩
   · have:=key.1 hb;omega
   · rw [Bool.eq_iff_iff,decide_eq_true_iff,key,htr]
     exact ⟨fun h=>h.2.2.2.2.2.2,fun h=>⟨h0,hf,by omega,aad.1,aad.2.1,aad.2.2,h⟩⟩
def mX:dJ:=fun args objs K=>match args with
 | [a0]=>fU aA a0 (HK.mk:HK fun n=>(n.kind=3)∧(n.name=[])∧(n.s.length≤4611686018427387904)∧K (.bool (qQ n)) objs 0)
 | _=>False
theorem T_:aD Tryz.prog 164 (mX):=by
 intro args objs K h
 unfold mX at h
 split at h
 · rename_i a0
   obtain ⟨n,rfl,h1,h2,h3,hk⟩:=h
   exact ⟨_,_,_,.pure _ rfl (XT n h1 h2 h3),hk⟩
 · exact h.elim
theorem NF (n:Nd) (hl:n.s.length≤4611686018427387904):ai Tryz.prog 128 [aA n] [] (.bool (bD n)) []:=by
 refine JQ.a_ (T:=aP Tryz.prog [(56,dA),(164,mX)]) 0 hD (aj (af pq (af T_ ah))) aU (by decide) fun Q hQ=>?_
 (conv=>arg 4;cbv);simp(maxSteps:=400000)only[↓aH,aI,BEq.rfl,reduceIte,reduceCtorEq,Nat.reduceLT,reduceAdd,reduceSub,reduceMul,Nat.reduceBEq,reduceLeDiff,reduceToNat,reduceLE,hQ,nmP,aeo]
 refine aT _ (Weak.freeze 1 0 (Nat.le_refl _) _) ?_
 have hn0:∀ h,fC 1 0 [⟨42,6,[aA { kind:=n.kind,many:=n.many,name:=[],s:=n.s,neg:=n.neg,e:=n.e }],true,1⟩] (.bR 0 1 0 0)=h→.addr (aA ⟨n.kind,n.many,[],n.s,n.neg,n.e⟩)=h:=fun _ h=>h
 have h8:n.kind=0∨n.kind=1∨n.kind=2∨n.kind=3∨n.kind=4∨n.kind=5∨n.kind=6∨(n.kind≠0∧n.kind≠1∧n.kind≠2∧n.kind≠3∧n.kind≠4∧n.kind≠5∧n.kind≠6):=by omega
 rcases h8 with hk | hk | hk | hk | hk | hk | hk | ⟨k0,k1,k2,k3,k4,k5,k6⟩
 · simp(maxSteps:=400000)only[↓aH,aI,BEq.rfl,reduceIte,reduceCtorEq,Nat.reduceLT,reduceAdd,reduceSub,reduceMul,Nat.reduceBEq,reduceLeDiff,reduceToNat,reduceLE,hQ,jA,↓dA,↓mX,hk,reduceEq]
   rw [Bool.eq_iff_iff]
   simp [bD,hk,and_assoc]
 · simp(maxSteps:=400000)only[↓aH,aI,BEq.rfl,reduceIte,reduceCtorEq,Nat.reduceLT,reduceAdd,reduceSub,reduceMul,Nat.reduceBEq,reduceLeDiff,reduceToNat,reduceLE,hQ,jA,↓dA,↓mX,hk,reduceEq]
   rw [Bool.eq_iff_iff]
   simp [bD,hk,and_assoc]
 · simp(maxSteps:=400000)only[↓aH,aI,BEq.rfl,reduceIte,reduceCtorEq,Nat.reduceLT,reduceAdd,reduceSub,reduceMul,Nat.reduceBEq,reduceLeDiff,reduceToNat,reduceLE,hQ,jA,↓dA,↓mX,hk,reduceEq]
   rw [Bool.eq_iff_iff]
   simp [bD,hk,and_assoc]
 · simp(maxSteps:=400000)only[↓aH,aI,BEq.rfl,reduceIte,reduceCtorEq,Nat.reduceLT,reduceAdd,reduceSub,reduceMul,Nat.reduceBEq,reduceLeDiff,reduceToNat,reduceLE,hQ,jA,↓dA,↓mX,hk,reduceEq]
   refine ⟨hl,?_⟩
   simp [bD,hk,qQ]
 · simp(maxSteps:=400000)only[↓aH,aI,BEq.rfl,reduceIte,reduceCtorEq,Nat.reduceLT,reduceAdd,reduceSub,reduceMul,Nat.reduceBEq,reduceLeDiff,reduceToNat,reduceLE,hQ,jA,↓dA,↓mX,hk,reduceEq]
   refine ⟨hl,?_⟩
   cases hu:utf n.s
   · simp [Ac,bD,hk,hu]
   · simp only [ifR]
     rw [Bool.eq_iff_iff]
     simp [bD,hk,hu,and_assoc]
 · simp(maxSteps:=400000)only[↓aH,aI,BEq.rfl,reduceIte,reduceCtorEq,Nat.reduceLT,reduceAdd,reduceSub,reduceMul,Nat.reduceBEq,reduceLeDiff,reduceToNat,reduceLE,hQ,jA,↓dA,↓mX,hk,reduceEq]
   refine ⟨fun hm=>?_,fun hm=>?_⟩
   · rw [Bool.eq_iff_iff]
     simp [bD,hk,hm,and_assoc]
   · simp [bD,hk,hm]
 · simp(maxSteps:=400000)only[↓aH,aI,BEq.rfl,reduceIte,reduceCtorEq,Nat.reduceLT,reduceAdd,reduceSub,reduceMul,Nat.reduceBEq,reduceLeDiff,reduceToNat,reduceLE,hQ,jA,↓dA,↓mX,hk,reduceEq]
   refine ⟨fun hm=>?_,fun hm=>?_⟩
   · rw [Bool.eq_iff_iff]
     simp [bD,hk,hm,and_assoc]
   · simp [bD,hk,hm]
 · simp(maxSteps:=400000)only[↓aH,aI,BEq.rfl,reduceIte,reduceCtorEq,Nat.reduceLT,reduceAdd,reduceSub,reduceMul,Nat.reduceBEq,reduceLeDiff,reduceToNat,reduceLE,hQ,jA,↓dA,↓mX,k0,k1,k2,k3,k4,k5,k6]
   simp [bD,k0,k1,k2,k3,k4,k5,k6]
def gH:dJ:=fun args objs K=>match args with
 | [a0]=>fU aA a0 (HK.mk:HK fun n=>(n.s.length≤4611686018427387904)∧K (.bool (bD n)) objs 0)
 | _=>False
theorem J9:aD Tryz.prog 128 (gH):=by
 intro args objs K h
 unfold gH at h
 split at h
 · rename_i a0
   obtain ⟨n,rfl,h1,hk⟩:=h
   exact ⟨_,_,_,.pure _ rfl (NF n h1),hk⟩
 · exact h.elim
end Lp
namespace Lp
open Go Go.Proofs
open List (length_reverse map_cons map_map map_nil take_zero)
open Nat (lt_or_ge reduceAdd reduceLeDiff reduceMul reduceSub)
open Int (reduceLE reduceToNat)
def iM (o:A_):PV:=.agg [.int .i64 o.kind,.int .i64 o.left,.bool o.first,.str o.last]
def CJ (l:List A_):PV:=.sl 4 (l.map iM) none
theorem IJ:∀ a b,iM a=iM b→a=b:=by
 intro a b h
 cases a;cases b
 simp only [iM,PV.agg.injEq,List.cons.injEq,PV.int.injEq,PV.str.injEq,PV.bool.injEq,true_and,and_true] at h
 obtain ⟨rfl,rfl,rfl,rfl⟩:=h
 rfl
theorem Et :
  (∀ o,(iM o).cells=[.int .i64 o.kind,.int .i64 o.left,.bool o.first,.str o.last])∧(∀ o,(iM o).isAgg=true)∧(∀ o,(iM o).pure=true)∧(∀ d m O o,fC d m O (iM o)=iM o)∧(∀ d m O o,gY d m O (iM o)=iM o)∧type_of% (aQ IJ):=
 ⟨fun _=>rfl,fun _=>rfl,fun _=>rfl,fun _ _ _ _=>rfl,fun _ _ _ _=>rfl,aQ IJ⟩
theorem hO:∀ l,CJ l=.sl 4 (l.map iM) none:=fun _=>rfl
theorem LB:∀ a b,CJ a=CJ b→a=b:=n_ hO IJ
theorem inO:vO iM:=by intro d n o x;cases d <;> rfl
theorem aae:type_of% Et∧type_of% (sV hO)∧type_of% (jM hO)∧type_of% (sW hO)∧type_of% (aQ LB)∧type_of% (iQ hO inO):=
 ⟨Et,sV hO,jM hO,sW hO,aQ LB,iQ hO inO⟩
def xu (o:A_):Bool:=decide (0<o.left)
theorem Ua (o:A_):ai Tryz.prog 130 [iM o] [] (.bool (xu o)) []:=by
 unfold xu
 refine JS.a_ (T:=aP Tryz.prog []) 0 hD (aj ah) aU (by decide) fun Q hQ=>?_
 (conv=>arg 4;cbv);simp(maxSteps:=400000)only[↓aH,aI,BEq.rfl,reduceIte,reduceCtorEq,Nat.reduceLT,reduceAdd,reduceSub,reduceMul,Nat.reduceBEq,reduceLeDiff,reduceToNat,reduceLE,hQ,iM]
def xw:dJ:=fun args objs K=>match args with
 | [a0]=>fU iM a0 (HK.mk:HK fun o=>K (.bool (xu o)) objs 0)
 | _=>False
theorem QR:aD Tryz.prog 130 (xw):=by
 intro args objs K h
 unfold xw at h
 split at h
 · rename_i a0
   obtain ⟨o,rfl,hk⟩:=h
   exact ⟨_,_,_,.pure _ rfl (Ua o),hk⟩
 · exact h.elim
def idxOf {α:Type}(p:α→Bool) (l:List α):Int:=match l.findIdx? p with
 | some i=>i
 | none=>-1
theorem idxOf_hit {α:Type}{p:α→Bool}{l:List α}{i:Nat}{x:α}(h:l[i]?=some x) (hx:p x=true) (hb:∀ (j:Nat) y,j<i→l[j]?=some y→p y=false):idxOf p l=i:=by
 have:l.findIdx? p=some i:=by
  rw [List.findIdx?_eq_some_iff_getElem]
  obtain ⟨hi,he⟩:=List.getElem?_eq_some_iff.1 h
  refine ⟨hi,by rw [he];exact hx,fun j hj=>?_⟩
  have:=hb j _ hj (List.getElem?_eq_getElem (by omega))
  simp [this]
 simp [idxOf,this]
theorem IK {α:Type}{p:α→Bool}{l:List α}(hb:∀ (j:Nat) y,l[j]?=some y→p y=false):idxOf p l=-1:=by
 have:l.findIdx? p=none:=by
  rw [List.findIdx?_eq_none_iff]
  intro x hx
  obtain ⟨i,hi⟩:=List.mem_iff_getElem?.1 hx
  exact hb i x hi
 simp [idxOf,this]
theorem LD {α:Type}(p:α→Bool) (l:List α):decide (0≤idxOf p l)=l.any p:=by
 rw [Bool.eq_iff_iff,decide_eq_true_iff]
 cases h:l.findIdx? p with
 | none=>
  rw [List.findIdx?_eq_none_iff] at h
  have:l.any p=false:=by rw [List.any_eq_false];intro x hx;simp [h x hx]
  simp [idxOf,List.findIdx?_eq_none_iff.2 h,this]
 | some i=>
  have h':=h
  rw [List.findIdx?_eq_some_iff_getElem] at h'
  obtain ⟨hi,hp,_⟩:=h'
  have:l.any p=true:=List.any_eq_true.2 ⟨_,List.getElem_mem hi,hp⟩
  simp [idxOf,h,this]
theorem NG (l:List A_) (hl:l.length≤4611686018427387904):ai Tryz.prog 165 [CJ l,.fn 130 [] []] [] (.int .i64 (idxOf xu l)) []:=by
 refine jX.a_ (T:=aP Tryz.prog [(130,xw)]) 0 hD (aj (af QR ah)) aU (by decide) fun Q hQ=>?_
 (conv=>arg 4;cbv);simp(maxSteps:=400000)only[↓aH,aI,BEq.rfl,reduceIte,reduceCtorEq,Nat.reduceLT,reduceAdd,reduceSub,reduceMul,Nat.reduceBEq,reduceLeDiff,reduceToNat,reduceLE,hQ,aae]
 refine aF (fun m S=>∃ i:Nat,i+m=l.length∧(∀ (j:Nat) y,j<i→l[j]?=some y→xu y=false)∧S=⟨dz 19 [(0,CJ l),(1,.fn 130 [] []),(7,.int .i64 l.length),(8,.int .i64 i)],[]⟩) l.length ⟨0,by omega,fun j y h=>absurd h (Nat.not_lt_zero j),?_⟩ ?_
 · simp only [bG,keepR,reduceAdd,kS,Nat.reduceBEq,map_nil]
   rfl
 rintro m S ⟨i,him,hb,rfl⟩
 rcases lt_or_ge i l.length with h | h
 rotate_left 1
 · have hlt:((i:Int)<(l.length:Int))=False:=eq_false (by omega)
   have hr:=IK (l:=l) fun j y hj=>hb j y (by have:=(List.getElem?_eq_some_iff.1 hj).1;omega) hj
   simp(maxSteps:=400000)only[↓aH,aI,BEq.rfl,reduceIte,reduceCtorEq,Nat.reduceLT,reduceAdd,reduceSub,reduceMul,Nat.reduceBEq,reduceLeDiff,reduceToNat,reduceLE,hQ,hlt,hr]
 have hlt:((i:Int)<(l.length:Int))=True:=eq_true (by omega)
 have zi:(0≤(i:Int))=True:=eq_true (by omega)
 have hgi:=List.getElem?_eq_getElem h
 generalize l[i]=o at hgi
 cases hp:xu o
 rotate_left 1
 · have hr:idxOf xu l=i:=idxOf_hit hgi hp hb
   simp(maxSteps:=400000)only[↓aH,aI,BEq.rfl,reduceIte,reduceCtorEq,Nat.reduceLT,reduceAdd,reduceSub,reduceMul,Nat.reduceBEq,reduceLeDiff,reduceToNat,reduceLE,hQ,hlt,zi,aae,hgi,↓xw,hp,hr]
 · simp(maxSteps:=400000)only[↓aH,aI,BEq.rfl,reduceIte,reduceCtorEq,Nat.reduceLT,reduceAdd,reduceSub,reduceMul,Nat.reduceBEq,reduceLeDiff,reduceToNat,reduceLE,hQ,hlt,zi,aae,hgi,↓xw,hp]
   refine ⟨⟨by omega,by omega⟩,m-1,by omega,i+1,by omega,fun j y hj hy=>?_,rfl⟩
   rcases lt_or_ge j i with g | g
   · exact hb j y g hy
   · have:j=i:=by omega
     subst this
     rw [hgi] at hy;cases hy
     exact hp
def u6:dJ:=fun args objs K=>match args with
 | [a0,a1]=>fU CJ a0 (HK.mk:HK fun l=>a1=(.fn 130 [] [])∧(l.length≤4611686018427387904)∧K (.int .i64 (idxOf xu l)) objs 0)
 | _=>False
theorem J_:aD Tryz.prog 165 (u6):=by
 intro args objs K h
 unfold u6 at h
 split at h
 · rename_i a0 a1
   obtain ⟨l,rfl,rfl,h1,hk⟩:=h
   exact ⟨_,_,_,.pure _ rfl (NG l h1),hk⟩
 · exact h.elim
theorem NH (l:List A_) (hl:l.length≤4611686018427387904):ai Tryz.prog 129 [CJ l,.fn 130 [] []] [] (.bool (l.any xu)) []:=by
 refine jG.a_ (T:=aP Tryz.prog [(165,u6)]) 0 hD (aj (af J_ ah)) aU (by decide) fun Q hQ=>?_
 (conv=>arg 4;cbv);simp(maxSteps:=400000)only[↓aH,aI,BEq.rfl,reduceIte,reduceCtorEq,Nat.reduceLT,reduceAdd,reduceSub,reduceMul,Nat.reduceBEq,reduceLeDiff,reduceToNat,reduceLE,hQ,aae,↓u6,LD]
 exact hl
def u7:dJ:=fun args objs K=>match args with
 | [a0,a1]=>fU CJ a0 (HK.mk:HK fun l=>a1=(.fn 130 [] [])∧(l.length≤4611686018427387904)∧K (.bool (l.any xu)) objs 0)
 | _=>False
theorem Ka:aD Tryz.prog 129 (u7):=by
 intro args objs K h
 unfold u7 at h
 split at h
 · rename_i a0 a1
   obtain ⟨l,rfl,rfl,h1,hk⟩:=h
   exact ⟨_,_,_,.pure _ rfl (NH l h1),hk⟩
 · exact h.elim
theorem oL (objs:List Obj) (K:KT) :
  (∀ k m,bK D 153 [(0,.int .i64 k),(1,.int .i64 m)] objs K=K (iM ⟨k,m,false,[]⟩) objs 0)∧
  (∀ k m b,bK D 153 [(0,.int .i64 k),(1,.int .i64 m),(2,.bool b)] objs K=K (iM ⟨k,m,b,[]⟩) objs 0):=by
 have z:aM (D 153)=iM ⟨0,0,false,[]⟩:=by kernel_rfl
 have a:(D 153).agg=true:=by kernel_rfl
 simp only [bY] at z a
 refine ⟨fun k m=>?_,fun k m b=>?_⟩
 all_goals
  simp [bK,nN,a,z,bY,oH,iM,PV.isAgg,uK,PV.cells,PV.storable,PV.nD,PV.pure]
theorem zOl:(PV.wz (Value.agg { toList:=[Value.int IntKind.i64 0,Value.int IntKind.i64 0,Value.bool false,Value.string { data:={ toList:=[] } }] })).cells.length=4:=rfl
theorem zOs:(PV.wz (Value.agg { toList:=[Value.int IntKind.i64 0,Value.int IntKind.i64 0,Value.bool false,Value.string { data:={ toList:=[] } }] })).cells.all PV.storable=true:=rfl
def QS (s:List A_) (ver:Nat):Obj:=⟨153,4,s.reverse.map iM,true,ver⟩
theorem Aq:(∀ (o:A_) (m:Int),(iM o).putCells 1 [.int .i64 m]=iM { o with left:=m })∧(∀ (o:A_) (b:Bool),(iM o).putCells 2 [.bool b]=iM { o with first:=b })∧(∀ (o:A_) (t:List UInt8),(iM o).putCells 3 [.str t]=iM { o with last:=t }):=⟨fun _ _=>rfl,fun _ _=>rfl,fun _ _=>rfl⟩
theorem IL (d n:Nat) (O:List Obj) (t:TypeId) (sz:Nat) (l:List A_) (ver:Nat):gM d n O ⟨t,sz,l.map iM,true,ver⟩=⟨t,sz,l.map iM,true,ver⟩:=by
 have:(l.map iM).map (PV.bL (fC d n O))=l.map iM:=by
  rw [map_map]
  exact List.map_congr_left fun x _=>rfl
 simp only [gM,this]
theorem Kb (v:Vl) (hs:Small v):ai Tryz.prog 105 [aB v] [] (.bool (dG v)) []:=by
 have hl:=hs.len
 refine PS.a_ (T:=aP Tryz.prog [(128,gH),(56,dA),(129,u7)]) 1 hD (aj (af J9 (af pq (af Ka ah)))) aU (by decide) fun Q hQ=>?_
 (conv=>arg 4;cbv);simp(maxSteps:=400000)only[↓aH,aI,BEq.rfl,reduceIte,reduceCtorEq,Nat.reduceLT,reduceAdd,reduceSub,reduceMul,Nat.reduceBEq,reduceLeDiff,reduceToNat,reduceLE,hQ,Aj,Ak,oL,zOl,zOs,Et]
 refine aF (fun m S=>∃ (s:List A_) (i ver:Nat),i+m=v.length∧GH v.length s (v.drop i)=dG v∧s.length≤i+1∧(∀ o ∈ s,0≤o.left∧o.left≤1000000)∧S=⟨dz 123 [(0,aB v),(3,.bA 0 ver),(10,aB v),(11,.int .i64 v.length),(12,.int .i64 i)],[QS s ver]⟩) v.length
  ⟨[⟨5,1,false,[]⟩],0,1,by omega,Sd v,by simp,by simp,?_⟩ ?_ (hz:=Nat.zero_le _)
 · simp only [bG,keepR,reduceAdd,kS,Nat.reduceBEq,map_nil]
   rfl
 rintro m S ⟨s,i,ver,him,hrun,hsl,hle,rfl⟩
 rcases lt_or_ge i v.length with h | h
 rotate_left 1
 · have hlt:((i:Int)<(v.length:Int))=False:=eq_false (by omega)
   have hr:dG v=Bool.not (s.any xu):=by
    rw [← hrun,List.drop_eq_nil_of_le h,GH];rfl
   have hf:fC 1 0 [⟨153,4,s.reverse.map iM,true,ver⟩] (.bA 0 ver)=CJ s.reverse:=by
    simp only [fC,Nat.not_lt_zero,if_false,gF,List.getElem?_cons_zero,Nat.le_refl,decide_true,Bool.true_and,beq_self_eq_true,if_true]
    rw [map_map]
    rfl
   unfold QS
   simp(maxSteps:=400000)only[↓aH,aI,BEq.rfl,reduceIte,reduceCtorEq,Nat.reduceLT,reduceAdd,reduceSub,reduceMul,Nat.reduceBEq,reduceLeDiff,reduceToNat,reduceLE,hQ,hlt]
   refine aT _ (Weak.freeze 1 0 (Nat.zero_le _) _) ?_
   rcases Nat.eq_zero_or_pos v.length with h0 | h0
   · have h0':((0:Int)<(v.length:Int))=False:=eq_false (by omega)
     have hrf:dG v=false:=by
      have:v=[]:=List.length_eq_zero_iff.1 h0
      rw [this];rfl
     simp(maxSteps:=400000)only[↓aH,aI,BEq.rfl,reduceIte,reduceCtorEq,Nat.reduceLT,reduceAdd,reduceSub,reduceMul,Nat.reduceBEq,reduceLeDiff,reduceToNat,reduceLE,hQ,h0',hrf]
   · have h0':((0:Int)<(v.length:Int))=True:=eq_true (by omega)
     simp(maxSteps:=400000)only[↓aH,aI,BEq.rfl,reduceIte,reduceCtorEq,Nat.reduceLT,reduceAdd,reduceSub,reduceMul,Nat.reduceBEq,reduceLeDiff,reduceToNat,reduceLE,hQ,h0',hf,aae,↓u7]
     exact ⟨by rw [length_reverse];omega,by rw [hr,List.any_reverse]⟩
 have hlt:((i:Int)<(v.length:Int))=True:=eq_true (by omega)
 have zi:(0≤(i:Int))=True:=eq_true (by omega)
 have hgi:=List.getElem?_eq_getElem h
 have hdi:=List.drop_eq_getElem_cons h
 have htx:=hs.txt _ (List.getElem_mem h)
 generalize v[i]=n at hgi hdi htx
 simp(maxSteps:=400000)only[↓aH,aI,BEq.rfl,reduceIte,reduceCtorEq,Nat.reduceLT,reduceAdd,reduceSub,reduceMul,Nat.reduceBEq,reduceLeDiff,reduceToNat,reduceLE,hQ,hlt,zi,hgi,Aj,Ak,bI,bJ]
 rw [hdi] at hrun
 have hll:(n.many≤(v.length:Int))=(n.many≤(v.length:Int)):=rfl
 refine aF (fun m' S=>∃ (s':List A_) (Kc:Nat),s'.length=m'∧s'.dropWhile (fun o=>o.left==0)=s.dropWhile (fun o=>o.left==0)∧s'.length≤i+1∧(∀ o ∈ s',0≤o.left∧o.left≤1000000)∧
  S=⟨dz 123 [(0,aB v),(3,.bA 0 Kc),(5,.bR 1 1 0 0),(10,aB v),(11,.int .i64 v.length),(12,.int .i64 i)],[QS s' Kc,⟨42,6,[aA n],true,1⟩]⟩) s.length ⟨s,ver,rfl,rfl,hsl,hle,?_⟩ ?_
 · simp only [bG,keepR,reduceAdd,kS,Nat.reduceBEq,map_nil]
 rintro m' S ⟨s',Kc,hm',hdw,afb,hle',rfl⟩
 cases s' with
 | nil=>
  have h00:((0:Int)<((0:Nat):Int))=False:=eq_false (by omega)
  have h01:(((0:Nat):Int)=0)=True:=eq_true rfl
  have hr:dG v=false:=by rw [← hrun,GH,← hdw];rfl
  unfold QS
  simp(maxSteps:=400000)only[↓aH,aI,BEq.rfl,reduceIte,reduceCtorEq,Nat.reduceLT,reduceAdd,reduceSub,reduceMul,Nat.reduceBEq,reduceLeDiff,reduceToNat,reduceLE,hQ,h00,h01,hr,List.reverse_nil]
 | cons o t=>
 have hst:∀ w,QS (o::t) w=⟨153,4,t.reverse.map iM++[iM o],true,w⟩:=fun w=>by simp [QS]
 have hget:∀ x:PV,(t.reverse.map iM++[x])[t.length]?=some x:=fun x=>by rw [List.getElem?_append_right (by simp)];simp
 have hset:∀ x y:PV,(t.reverse.map iM++[x]).set t.length y=t.reverse.map iM++[y]:=fun x y=>by rw [List.set_append_right _ _ (by simp)];simp
 have hpos:((0:Int)<((t.length+1:Nat):Int))=True:=eq_true (by omega)
 have hne0:(((t.length+1:Nat):Int)=0)=False:=eq_false (by omega)
 have t1:(((t.length+1:Nat):Int)-1).toNat=t.length:=by omega
 have z1:(0≤((t.length+1:Nat):Int)-1)=True:=eq_true (by omega)
 have lt1:(((t.length+1:Nat):Int)-1<((t.length+1:Nat):Int))=True:=eq_true (by omega)
 have le1:(((t.length+1:Nat):Int)-1≤((t.length+1:Nat):Int))=True:=eq_true (by omega)
 simp only [List.length_cons] at afb hm'
 have i1:(-9223372036854775808≤((t.length+1:Nat):Int)-1∧((t.length+1:Nat):Int)-1≤9223372036854775807)=True:=eq_true ⟨by omega,by omega⟩
 have hlo:=hle' o (by simp)
 by_cases h0:o.left=0
 · have h0':(o.left=0)=True:=eq_true h0
   rw [hst]
   simp(maxSteps:=400000)only[↓aH,aI,BEq.rfl,reduceIte,reduceCtorEq,Nat.reduceLT,reduceAdd,reduceSub,reduceMul,Nat.reduceBEq,reduceLeDiff,reduceToNat,reduceLE,hQ,hpos,t1,z1,lt1,le1,i1,hget,hset,h0',Et,length_reverse]
   refine ⟨m'-1,by omega,t,Kc+1,by omega,?_,by omega,fun x hx=>hle' x (List.mem_cons_of_mem _ hx),?_⟩
   · rw [← hdw];exact (List.dropWhile_cons_of_pos (by simpa using h0)).symm
   · rw [List.take_left' (by simp)];rfl
 have h0':(o.left=0)=False:=eq_false h0
 have afc:s.dropWhile (fun o=>o.left==0)=o::t:=by rw [← hdw];exact List.dropWhile_cons_of_neg (by simpa using h0)
 have hstep:dG v=(bD n && decide (n.many≤v.length) && fP o n.name && GH v.length (⟨n.kind,n.many,true,[]⟩::⟨o.kind,o.left-1,false,n.name⟩::t) (v.drop (i+1))):=by
  rw [← hrun,GH,afc]
 rw [hst]
 cases hpl:bD n
 · have hr:dG v=false:=by rw [hstep,hpl];rfl
   simp(maxSteps:=400000)only[↓aH,aI,BEq.rfl,reduceIte,reduceCtorEq,Nat.reduceLT,reduceAdd,reduceSub,reduceMul,Nat.reduceBEq,reduceLeDiff,reduceToNat,reduceLE,hQ,hpos,hne0,t1,z1,lt1,le1,i1,hget,hset,h0',Et,length_reverse,↓gH,hpl,hr]
   exact htx.1
 by_cases hmL:n.many≤v.length
 rotate_left 1
 · have NI:((v.length:Int)<n.many)=True:=eq_true (by omega)
   have hr:dG v=false:=by rw [hstep,decide_eq_false hmL];simp
   simp(maxSteps:=400000)only[↓aH,aI,BEq.rfl,reduceIte,reduceCtorEq,Nat.reduceLT,reduceAdd,reduceSub,reduceMul,Nat.reduceBEq,reduceLeDiff,reduceToNat,reduceLE,hQ,hpos,hne0,t1,z1,lt1,le1,i1,hget,hset,h0',Et,length_reverse,↓gH,hpl,NI,hr]
   exact htx.1
 have NI:((v.length:Int)<n.many)=False:=eq_false (by omega)
 have hm0:0≤n.many:=by
  by_cases hk:n.kind=5∨n.kind=6
  · exact (sI hpl hk).1
  · rw [qb hpl hk];exact Int.le_refl 0
 have hA:∀ x y:A_,t.reverse.map iM++[iM x]++[iM y]=(t.reverse++[x,y]).map iM:=fun x y=>by simp
 have fin:∀ hn:fP o n.name=true,∃ aev,aev<m∧∃ (s:List A_) (Gi ver:Nat),Gi+aev=v.length∧GH v.length s (v.drop Gi)=dG v∧s.length≤Gi+1∧(∀ o ∈ s,0≤o.left∧o.left≤1000000)∧
     (⟨dz 123 [(0,aB v),(3,.bA 0 (Kc+1)),(10,aB v),(11,.int .i64 v.length),(12,.int .i64 ((i:Int)+1))],[⟨153,4,t.reverse.map iM++[iM ⟨o.kind,o.left-1,false,n.name⟩]++[iM ⟨n.kind,n.many,true,[]⟩],true,Kc+1⟩]⟩:St)=
     ⟨dz 123 [(0,aB v),(3,.bA 0 ver),(10,aB v),(11,.int .i64 v.length),(12,.int .i64 Gi)],[QS s ver]⟩:=fun hn=>by
  refine ⟨m-1,by omega,⟨n.kind,n.many,true,[]⟩::⟨o.kind,o.left-1,false,n.name⟩::t,i+1,Kc+1,by omega,?_,by simp only [List.length_cons];omega,fun x hx=>?_,?_⟩
  · rw [hstep,hpl,hn,decide_eq_true hmL];simp
  · rcases List.mem_cons.1 hx with rfl | hx
    · exact ⟨hm0,by simp only;omega⟩
    · rcases List.mem_cons.1 hx with rfl | hx
      · simp only;omega
      · exact hle' x (List.mem_cons_of_mem _ hx)
  · simp [QS]
 by_cases k6:o.kind=6
 rotate_left 1
 · have k6':(o.kind=6)=False:=eq_false k6
   by_cases hnm:n.name=[]
   rotate_left 1
   · have hnm':(n.name=[])=False:=eq_false hnm
     have hr:dG v=false:=by
      have:fP o n.name=false:=by simp [fP,k6,hnm]
      rw [hstep,this];simp
     simp(maxSteps:=400000)only[↓aH,aI,BEq.rfl,reduceIte,reduceCtorEq,Nat.reduceLT,reduceAdd,reduceSub,reduceMul,Nat.reduceBEq,reduceLeDiff,reduceToNat,reduceLE,hQ,hpos,hne0,t1,z1,lt1,le1,i1,hget,hset,h0',Et,length_reverse,↓gH,hpl,NI,k6',dS,Aq,oL,zOl,zOs,hnm',hr]
     exact htx.1
   · have hnm':(n.name=[])=True:=eq_true hnm
     simp(maxSteps:=400000)only[↓aH,aI,BEq.rfl,reduceIte,reduceCtorEq,Nat.reduceLT,reduceAdd,reduceSub,reduceMul,Nat.reduceBEq,reduceLeDiff,reduceToNat,reduceLE,hQ,hpos,hne0,t1,z1,lt1,le1,i1,hget,hset,h0',Et,length_reverse,↓gH,hpl,NI,k6',dS,Aq,oL,zOl,zOs,hnm']
     have hn:fP o n.name=true:=by simp [fP,k6,hnm]
     obtain ⟨m1,e0,s1,j1,w1,e1,e2,e3,e4,e5⟩:=fin hn
     refine ⟨htx.1,⟨by omega,by omega⟩,rfl,by omega,by omega,⟨by omega,by omega⟩,m1,e0,s1,j1,w1,e1,e2,e3,e4,?_⟩
     rw [← e5]
     simp only [hA,List.take_succ_cons,take_zero,map_cons (f:=gM _ _ _),map_nil,IL]
     rfl
 have k6':(o.kind=6)=True:=eq_true k6
 cases hu:utf n.name
 · have hr:dG v=false:=by
    have:fP o n.name=false:=by simp [fP,k6,hu]
    rw [hstep,this];simp
   simp(maxSteps:=400000)only[↓aH,aI,BEq.rfl,reduceIte,reduceCtorEq,Nat.reduceLT,reduceAdd,reduceSub,reduceMul,Nat.reduceBEq,reduceLeDiff,reduceToNat,reduceLE,hQ,hpos,hne0,t1,z1,lt1,le1,i1,hget,hset,h0',Et,length_reverse,↓gH,hpl,NI,k6',dS,Aq,oL,zOl,zOs,↓dA,hu,hr]
   exact ⟨htx.1,htx.2⟩
 cases yV:o.first
 rotate_left 1
 · have hn:fP o n.name=true:=by simp [fP,k6,hu,yV]
   simp(maxSteps:=400000)only[↓aH,aI,BEq.rfl,reduceIte,reduceCtorEq,Nat.reduceLT,reduceAdd,reduceSub,reduceMul,Nat.reduceBEq,reduceLeDiff,reduceToNat,reduceLE,hQ,hpos,hne0,t1,z1,lt1,le1,i1,hget,hset,h0',Et,length_reverse,↓gH,hpl,NI,k6',dS,Aq,oL,zOl,zOs,↓dA,hu,yV]
   obtain ⟨m1,e0,s1,j1,w1,e1,e2,e3,e4,e5⟩:=fin hn
   refine ⟨htx.1,htx.2,⟨by omega,by omega⟩,rfl,by omega,by omega,⟨by omega,by omega⟩,m1,e0,s1,j1,w1,e1,e2,e3,e4,?_⟩
   rw [← e5]
   simp only [hA,List.take_succ_cons,take_zero,map_cons (f:=gM _ _ _),map_nil,IL]
   rfl
 cases hbl:Op.bytesLess n.name o.last
 rotate_left 1
 · have hr:dG v=false:=by
    have:fP o n.name=false:=by simp [fP,k6,hu,yV,lu _ _ hbl]
    rw [hstep,this];simp
   simp(maxSteps:=400000)only[↓aH,aI,BEq.rfl,reduceIte,reduceCtorEq,Nat.reduceLT,reduceAdd,reduceSub,reduceMul,Nat.reduceBEq,reduceLeDiff,reduceToNat,reduceLE,hQ,hpos,hne0,t1,z1,lt1,le1,i1,hget,hset,h0',Et,length_reverse,↓gH,hpl,NI,k6',dS,Aq,oL,zOl,zOs,↓dA,hu,yV,hbl,hr]
   exact ⟨htx.1,htx.2⟩
 by_cases heq:n.name=o.last
 · have heq':(n.name=o.last)=True:=eq_true heq
   have hr:dG v=false:=by
    have:fP o n.name=false:=by simp [fP,k6,hu,yV,heq,eT]
    rw [hstep,this];simp
   simp(maxSteps:=400000)only[↓aH,aI,BEq.rfl,reduceIte,reduceCtorEq,Nat.reduceLT,reduceAdd,reduceSub,reduceMul,Nat.reduceBEq,reduceLeDiff,reduceToNat,reduceLE,hQ,hpos,hne0,t1,z1,lt1,le1,i1,hget,hset,h0',Et,length_reverse,↓gH,hpl,NI,k6',dS,Aq,oL,zOl,zOs,↓dA,hu,yV,hbl,heq',hr]
   exact ⟨htx.1,htx.2⟩
 · have heq':(n.name=o.last)=False:=eq_false heq
   have hn:fP o n.name=true:=by
    have:Op.bytesLess o.last n.name=true:=by
     rcases wm o.last n.name with g | g | g
     · exact g
     · exact absurd g.symm heq
     · rw [g] at hbl;cases hbl
    simp [fP,k6,hu,this]
   simp(maxSteps:=400000)only[↓aH,aI,BEq.rfl,reduceIte,reduceCtorEq,Nat.reduceLT,reduceAdd,reduceSub,reduceMul,Nat.reduceBEq,reduceLeDiff,reduceToNat,reduceLE,hQ,hpos,hne0,t1,z1,lt1,le1,i1,hget,hset,h0',Et,length_reverse,↓gH,hpl,NI,k6',dS,Aq,oL,zOl,zOs,↓dA,hu,yV,hbl,heq']
   obtain ⟨m1,e0,s1,j1,w1,e1,e2,e3,e4,e5⟩:=fin hn
   refine ⟨htx.1,htx.2,⟨by omega,by omega⟩,rfl,by omega,by omega,⟨by omega,by omega⟩,m1,e0,s1,j1,w1,e1,e2,e3,e4,?_⟩
   rw [← e5]
   simp only [hA,List.take_succ_cons,take_zero,map_cons (f:=gM _ _ _),map_nil,IL]
   rfl
def oM:dJ:=fun args objs K=>match args with
 | [a0]=>fU aB a0 (HK.mk:HK fun v=>(Small v)∧K (.bool (dG v)) objs 0)
 | _=>False
theorem IQ:aD Tryz.prog 105 (oM):=by
 intro args objs K h
 unfold oM at h
 split at h
 · rename_i a0
   obtain ⟨v,rfl,h1,hk⟩:=h
   exact ⟨_,_,_,.pure _ rfl (Kb v h1),hk⟩
 · exact h.elim
end Lp
namespace Lp
open Go Go.Proofs
open Nat (reduceAdd reduceLeDiff reduceMul reduceSub zero_le)
open Int (reduceEq reduceLE reduceToNat)
def su (n:Nd):Prop:=n.s.length≤4611686018427387904∧n.name.length≤4611686018427387904
theorem su.small {n:Nd}(h:su n):Small [n]:=⟨by simp,fun m hm=>by rw [List.mem_singleton] at hm;subst hm;exact h⟩
theorem QT (n:Nd) (h:su n):ai Tryz.prog 76 [aA n] [] (.bool (q8 n)) []:=by
 unfold q8
 refine Ia.a_ (T:=aP Tryz.prog [(105,oM)]) 0 hD (aj (af IQ ah)) aU (by decide) fun Q hQ=>?_
 (conv=>arg 4;cbv);simp(maxSteps:=400000)only[↓aW,aX,BEq.rfl,reduceIte,reduceCtorEq,Nat.reduceLT,reduceAdd,reduceSub,reduceMul,Nat.reduceBEq,reduceLeDiff,reduceToNat,reduceLE,hQ]
 refine aT _ (Weak.freeze 1 0 (zero_le _) _) ?_
 rcases tf (n.kind<5) with hk | hk
 · simp(maxSteps:=400000)only[↓aW,aX,BEq.rfl,reduceIte,reduceCtorEq,Nat.reduceLT,reduceAdd,reduceSub,reduceMul,Nat.reduceBEq,reduceLeDiff,reduceToNat,reduceLE,hQ,jA,hk,↓oM,bI,bJ,Bool.false_and]
   exact h.small
 · simp(maxSteps:=400000)only[↓aW,aX,BEq.rfl,reduceIte,reduceCtorEq,Nat.reduceLT,reduceAdd,reduceSub,reduceMul,Nat.reduceBEq,reduceLeDiff,reduceToNat,reduceLE,hQ,jA,hk,↓oM,bI,bJ,Bool.false_and]
def p9:dJ:=fun args objs K=>match args with
 | [a0]=>fU aA a0 (HK.mk:HK fun n=>(su n)∧K (.bool (q8 n)) objs 0)
 | _=>False
theorem NJ:aD Tryz.prog 76 (p9):=by
 intro args objs K h
 unfold p9 at h
 split at h
 · rename_i a0
   obtain ⟨n,rfl,h1,hk⟩:=h
   exact ⟨_,_,_,.pure _ rfl (QT n h1),hk⟩
 · exact h.elim
theorem QU (n:Nd) (h:su n):ai Tryz.prog 62 [aA n] [] (.bool (q8 n)) []:=by
 unfold q8
 refine z_.a_ (T:=aP Tryz.prog [(16,mO)]) 0 hD (aj (af xk ah)) aU (by decide) fun Q hQ=>?_
 (conv=>arg 4;cbv);simp(maxSteps:=400000)only[↓aW,aX,BEq.rfl,reduceIte,reduceCtorEq,Nat.reduceLT,reduceAdd,reduceSub,reduceMul,Nat.reduceBEq,reduceLeDiff,reduceToNat,reduceLE,hQ]
 refine aT _ (Weak.freeze 1 0 (zero_le _) _) ?_
 rcases tf (n.kind<5) with hk | hk
 · simp(maxSteps:=400000)only[↓aW,aX,BEq.rfl,reduceIte,reduceCtorEq,Nat.reduceLT,reduceAdd,reduceSub,reduceMul,Nat.reduceBEq,reduceLeDiff,reduceToNat,reduceLE,hQ,jA,hk,↓mO,bI,bJ,Bool.false_and]
   exact h.small
 · simp(maxSteps:=400000)only[↓aW,aX,BEq.rfl,reduceIte,reduceCtorEq,Nat.reduceLT,reduceAdd,reduceSub,reduceMul,Nat.reduceBEq,reduceLeDiff,reduceToNat,reduceLE,hQ,jA,hk,↓mO,bI,bJ,Bool.false_and]
def l9:dJ:=fun args objs K=>match args with
 | [a0]=>fU aA a0 (HK.mk:HK fun n=>(su n)∧K (.bool (q8 n)) objs 0)
 | _=>False
theorem CK:aD Tryz.prog 62 (l9):=by
 intro args objs K h
 unfold l9 at h
 split at h
 · rename_i a0
   obtain ⟨n,rfl,h1,hk⟩:=h
   exact ⟨_,_,_,.pure _ rfl (QU n h1),hk⟩
 · exact h.elim
theorem QV (a:lQ) (h:su a.c):ai Tryz.prog 98 [dU a] [] (.bool (kW a)) []:=by
 unfold kW
 refine Aa.a_ (T:=aP Tryz.prog [(62,l9)]) 0 hD (aj (af CK ah)) aU (by decide) fun Q hQ=>?_
 (conv=>arg 4;cbv);simp(maxSteps:=400000)only[↓aW,aX,BEq.rfl,reduceIte,reduceCtorEq,Nat.reduceLT,reduceAdd,reduceSub,reduceMul,Nat.reduceBEq,reduceLeDiff,reduceToNat,reduceLE,hQ]
 refine aT _ (Weak.freeze 1 0 (zero_le _) _) ?_
 rcases tf (0≤a.n) with h1 | h1
 rotate_left 1
 · simp(maxSteps:=400000)only[↓aW,aX,BEq.rfl,reduceIte,reduceCtorEq,Nat.reduceLT,reduceAdd,reduceSub,reduceMul,Nat.reduceBEq,reduceLeDiff,reduceToNat,reduceLE,hQ,VG,h1,Bool.false_and]
 rcases tf (a.n≤5) with h2 | h2
 rotate_left 1
 · simp(maxSteps:=400000)only[↓aW,aX,BEq.rfl,reduceIte,reduceCtorEq,Nat.reduceLT,reduceAdd,reduceSub,reduceMul,Nat.reduceBEq,reduceLeDiff,reduceToNat,reduceLE,hQ,VG,h1,h2,Bool.false_and,Bool.and_false]
 simp(maxSteps:=400000)only[↓aW,aX,BEq.rfl,reduceIte,reduceCtorEq,Nat.reduceLT,reduceAdd,reduceSub,reduceMul,Nat.reduceBEq,reduceLeDiff,reduceToNat,reduceLE,hQ,VG,h1,h2,↓l9]
 exact h
def tQ:dJ:=fun args objs K=>match args with
 | [a0]=>fU dU a0 (HK.mk:HK fun a=>(su a.c)∧K (.bool (kW a)) objs 0)
 | _=>False
theorem NK:aD Tryz.prog 98 (tQ):=by
 intro args objs K h
 unfold tQ at h
 split at h
 · rename_i a0
   obtain ⟨a,rfl,h1,hk⟩:=h
   exact ⟨_,_,_,.pure _ rfl (QV a h1),hk⟩
 · exact h.elim
theorem IU (how c:Int):(how=0∧oo how c=decide (c=0))∨(how=1∧oo how c=!decide (c=0))∨(how=2∧oo how c=decide (c<0))∨(how=3∧oo how c=decide (c≤0))∨(how=4∧oo how c=decide (0<c))∨
  ((how=0)=False∧(how=1)=False∧(how=2)=False∧(how=3)=False∧(how=4)=False∧oo how c=decide (0≤c)):=by
 by_cases h0:how=0
 · exact .inl ⟨h0,by simp [oo,h0]⟩
 by_cases h1:how=1
 · exact .inr (.inl ⟨h1,by simp [oo,h1]⟩)
 by_cases h2:how=2
 · exact .inr (.inr (.inl ⟨h2,by simp [oo,h2]⟩))
 by_cases h3:how=3
 · exact .inr (.inr (.inr (.inl ⟨h3,by simp [oo,h3]⟩)))
 by_cases h4:how=4
 · exact .inr (.inr (.inr (.inr (.inl ⟨h4,by simp [oo,h4]⟩))))
 · exact .inr (.inr (.inr (.inr (.inr ⟨eq_false h0,eq_false h1,eq_false h2,eq_false h3,eq_false h4,by simp [oo,h0,h1,h2,h3,h4]⟩))))
theorem XU (how c:Int):ai Tryz.prog 89 [.int .i64 how,.int .i64 c] [] (.bool (oo how c)) []:=by
 refine BV.a_ (T:=aP Tryz.prog []) 0 hD (aj ah) aU (by decide) fun Q hQ=>?_
 rcases IU how c with ⟨h,hr⟩ | ⟨h,hr⟩ | ⟨h,hr⟩ | ⟨h,hr⟩ | ⟨h,hr⟩ | ⟨k0,k1,k2,k3,k4,hr⟩
 · rw [h] at hr
   (conv=>arg 4;cbv);simp(maxSteps:=400000)only[↓aW,aX,BEq.rfl,reduceIte,reduceCtorEq,Nat.reduceLT,reduceAdd,reduceSub,reduceMul,Nat.reduceBEq,reduceLeDiff,reduceToNat,reduceLE,hQ,hr,h]
 · rw [h] at hr
   (conv=>arg 4;cbv);simp(maxSteps:=400000)only[↓aW,aX,BEq.rfl,reduceIte,reduceCtorEq,Nat.reduceLT,reduceAdd,reduceSub,reduceMul,Nat.reduceBEq,reduceLeDiff,reduceToNat,reduceLE,hQ,hr,h,reduceEq]
 · rw [h] at hr
   (conv=>arg 4;cbv);simp(maxSteps:=400000)only[↓aW,aX,BEq.rfl,reduceIte,reduceCtorEq,Nat.reduceLT,reduceAdd,reduceSub,reduceMul,Nat.reduceBEq,reduceLeDiff,reduceToNat,reduceLE,hQ,hr,h,reduceEq]
 · rw [h] at hr
   (conv=>arg 4;cbv);simp(maxSteps:=400000)only[↓aW,aX,BEq.rfl,reduceIte,reduceCtorEq,Nat.reduceLT,reduceAdd,reduceSub,reduceMul,Nat.reduceBEq,reduceLeDiff,reduceToNat,reduceLE,hQ,hr,h,reduceEq]
 · rw [h] at hr
   (conv=>arg 4;cbv);simp(maxSteps:=400000)only[↓aW,aX,BEq.rfl,reduceIte,reduceCtorEq,Nat.reduceLT,reduceAdd,reduceSub,reduceMul,Nat.reduceBEq,reduceLeDiff,reduceToNat,reduceLE,hQ,hr,h,reduceEq]
 · (conv=>arg 4;cbv);simp(maxSteps:=400000)only[↓aW,aX,BEq.rfl,reduceIte,reduceCtorEq,Nat.reduceLT,reduceAdd,reduceSub,reduceMul,Nat.reduceBEq,reduceLeDiff,reduceToNat,reduceLE,hQ,k0,k1,k2,k3,k4,hr]
def Gq:dJ:=fun args objs K=>match args with
 | [.int .i64 how,.int .i64 c]=>K (.bool (oo how c)) objs 0
 | _=>False
theorem Ub:aD Tryz.prog 89 (Gq):=by
 intro args objs K h
 unfold Gq at h
 split at h
 · rename_i how c
   have hk:=h
   exact ⟨_,_,_,.pure _ rfl (XU how c),hk⟩
 · exact h.elim
structure fO (n:Nd):Prop where
 sc:q8 n=true
 len:n.s.length≤1000000
theorem fO.few {n:Nd}(h:fO n):aeu [n] 1:=by
 have hr:dG [n]=true:=by
  have:=h.sc
  simp only [q8,Bool.and_eq_true] at this
  exact this.2
 have hrt:=nJ hr
 have hpl:=NC hr
 refine ⟨by simp,hrt,⟨hrt.one,by simp,fun m hm=>?_⟩,⟨hrt.one,by simp,fun m hm hk3=>VR (qB (hpl m hm) hk3)⟩⟩
 have hp:=hpl m hm
 rw [List.mem_singleton] at hm
 subst hm
 exact XQ hp h.len
theorem QW (a:lQ) (n:Nd) (ha:fO a.c) (hn:fO n):ai Tryz.prog 79 [dU a,aA n] [] (.bool (kX a n)) []:=by
 obtain ⟨f,hf⟩:∃ f:Nat,f=1:=⟨1,rfl⟩
 have hh:kX a n=oo a.n (sF f [n] [a.c]):=by rw [hf];rfl
 rw [hh]
 have hl:[n].length≤f:=by rw [hf];exact Nat.le_refl _
 have o1:=hn.few.ok
 have o2:=ha.few.ok
 refine MU.a_ (T:=aP Tryz.prog [(107,(yw f))]) 0 hD (aj (af (Nz f) ah)) aU (by decide) fun Q hQ=>?_
 generalize hc:sF f [n] [a.c]=c
 (conv=>arg 4;cbv);simp(maxSteps:=400000)only[↓aW,aX,BEq.rfl,reduceIte,reduceCtorEq,Nat.reduceLT,reduceAdd,reduceSub,reduceMul,Nat.reduceBEq,reduceLeDiff,reduceToNat,reduceLE,hQ]
 refine aT _ (Weak.freeze 1 0 (zero_le _) _) ?_
 simp(maxSteps:=400000)only[↓aW,aX,BEq.rfl,reduceIte,reduceCtorEq,Nat.reduceLT,reduceAdd,reduceSub,reduceMul,Nat.reduceBEq,reduceLeDiff,reduceToNat,reduceLE,hQ,Zx,Zy,↓yw,hc,bI,bJ]
 refine ⟨hl,o1,o2,?_⟩
 rcases IU a.n c with ⟨h,hr⟩ | ⟨h,hr⟩ | ⟨h,hr⟩ | ⟨h,hr⟩ | ⟨h,hr⟩ | ⟨k0,k1,k2,k3,k4,hr⟩
 · rw [h] at hr
   simp(maxSteps:=400000)only[↓aW,aX,BEq.rfl,reduceIte,reduceCtorEq,Nat.reduceLT,reduceAdd,reduceSub,reduceMul,Nat.reduceBEq,reduceLeDiff,reduceToNat,reduceLE,hQ,hr,h]
 · rw [h] at hr
   simp(maxSteps:=400000)only[↓aW,aX,BEq.rfl,reduceIte,reduceCtorEq,Nat.reduceLT,reduceAdd,reduceSub,reduceMul,Nat.reduceBEq,reduceLeDiff,reduceToNat,reduceLE,hQ,hr,h,reduceEq]
 · rw [h] at hr
   simp(maxSteps:=400000)only[↓aW,aX,BEq.rfl,reduceIte,reduceCtorEq,Nat.reduceLT,reduceAdd,reduceSub,reduceMul,Nat.reduceBEq,reduceLeDiff,reduceToNat,reduceLE,hQ,hr,h,reduceEq]
 · rw [h] at hr
   simp(maxSteps:=400000)only[↓aW,aX,BEq.rfl,reduceIte,reduceCtorEq,Nat.reduceLT,reduceAdd,reduceSub,reduceMul,Nat.reduceBEq,reduceLeDiff,reduceToNat,reduceLE,hQ,hr,h,reduceEq]
 · rw [h] at hr
   simp(maxSteps:=400000)only[↓aW,aX,BEq.rfl,reduceIte,reduceCtorEq,Nat.reduceLT,reduceAdd,reduceSub,reduceMul,Nat.reduceBEq,reduceLeDiff,reduceToNat,reduceLE,hQ,hr,h,reduceEq]
 · simp(maxSteps:=400000)only[↓aW,aX,BEq.rfl,reduceIte,reduceCtorEq,Nat.reduceLT,reduceAdd,reduceSub,reduceMul,Nat.reduceBEq,reduceLeDiff,reduceToNat,reduceLE,hQ,k0,k1,k2,k3,k4,hr]
def yB:dJ:=fun args objs K=>match args with
 | [a0,a1]=>fU dU a0 (HK.mk:HK fun a=>fU aA a1 (HK.mk:HK fun n=>(fO a.c)∧(fO n)∧K (.bool (kX a n)) objs 0))
 | _=>False
theorem NM:aD Tryz.prog 79 (yB):=by
 intro args objs K h
 unfold yB at h
 split at h
 · rename_i a0 a1
   obtain ⟨a,rfl,n,rfl,h1,h2,hk⟩:=h
   exact ⟨_,_,_,.pure _ rfl (QW a n h1 h2),hk⟩
 · exact h.elim
theorem QX (a:lQ) (n:Nd) (ha:fO a.c) (hn:fO n):ai Tryz.prog 64 [dU a,aA n] [] (.bool (kX a n)) []:=by
 obtain ⟨f,hf⟩:∃ f:Nat,f=1:=⟨1,rfl⟩
 have hh:kX a n=oo a.n (gV jm f [n] [a.c]):=by rw [hf,QO 1 _ _ hn.few.rt ha.few.rt];rfl
 rw [hh]
 have hl:[n].length≤f:=by rw [hf];exact Nat.le_refl _
 have o1:=hn.few.ok2
 have o2:=ha.few.ok2
 refine Ab.a_ (T:=aP Tryz.prog [(67,(oh f)),(89,Gq)]) 0 hD (aj (af (Ap f) (af Ub ah))) aU (by decide) fun Q hQ=>?_
 (conv=>arg 4;cbv);simp(maxSteps:=400000)only[↓aW,aX,BEq.rfl,reduceIte,reduceCtorEq,Nat.reduceLT,reduceAdd,reduceSub,reduceMul,Nat.reduceBEq,reduceLeDiff,reduceToNat,reduceLE,hQ]
 refine aT _ (Weak.freeze 1 0 (zero_le _) _) ?_
 simp(maxSteps:=400000)only[↓aW,aX,BEq.rfl,reduceIte,reduceCtorEq,Nat.reduceLT,reduceAdd,reduceSub,reduceMul,Nat.reduceBEq,reduceLeDiff,reduceToNat,reduceLE,hQ,Zx,Zy,↓oh,↓Gq,bI,bJ]
 exact ⟨hl,o1,o2⟩
def tT:dJ:=fun args objs K=>match args with
 | [a0,a1]=>fU dU a0 (HK.mk:HK fun a=>fU aA a1 (HK.mk:HK fun n=>(fO a.c)∧(fO n)∧K (.bool (kX a n)) objs 0))
 | _=>False
theorem NN:aD Tryz.prog 64 (tT):=by
 intro args objs K h
 unfold tT at h
 split at h
 · rename_i a0 a1
   obtain ⟨a,rfl,n,rfl,h1,h2,hk⟩:=h
   exact ⟨_,_,_,.pure _ rfl (QX a n h1 h2),hk⟩
 · exact h.elim
end Lp
namespace Lp
open Go Go.Proofs
end Lp
namespace Lp
open Go
structure Sel (names:List (List UInt8)) (l:List Vl) (q:uq) (done:List Bool) (m:Nat):Prop where
 par:names.length=l.length
 len:done.length=names.length
 cnt:q.length+m=names.length
 left:done.count false=m
 mem:∀ x:List UInt8×Vl,x ∈ q↔∃ i:Nat,done[i]?=some true∧names[i]?=some x.1∧l[i]?=some x.2
 rise:qR (q.map (·.1))
 utf:∀ x ∈ q,utf x.1=true
 low:∀ (i:Nat) nm,done[i]?=some false→names[i]?=some nm→∀ x ∈ q,Op.bytesLess nm x.1=false
 one:∀ (i j:Nat) nm,done[i]?=some true→done[j]?=some true→names[i]?=some nm→names[j]?=some nm→i=j
theorem Sel.above {names:List (List UInt8)}{l:List Vl}{q:uq}{done:List Bool}{m:Nat}(h:Sel names l q done m){b:Nat}{nm:List UInt8}(hb:done[b]?=some false) (hn:names[b]?=some nm)
  (hl:∀ x,q.getLast?=some x→x.1≠nm):∀ x ∈ q,Op.bytesLess x.1 nm=true:=by
 have hlow:=h.low b nm hb hn
 rcases List.eq_nil_or_concat q with rfl | ⟨q',z,rfl⟩
 · intro x hx;cases hx
 rw [List.concat_eq_append] at *
 have hz:z ∈ q'++[z]:=by simp
 have hzl:Op.bytesLess z.1 nm=true:=by
  rcases wm z.1 nm with g | g | g
  · exact g
  · exact absurd g (hl z (by simp))
  · rw [hlow z hz] at g;cases g
 intro x hx
 have hr:=h.rise
 rw [List.map_append] at hr
 rcases List.mem_append.1 hx with hx | hx
 · exact mr _ _ _ ((List.pairwise_append.1 hr).2.2 x.1 (List.mem_map.2 ⟨x,hx,rfl⟩) z.1 (by simp)) hzl
 · simp only [List.mem_singleton] at hx
   subst hx;exact hzl
theorem Sel.step {names:List (List UInt8)}{l:List Vl}{q:uq}{done:List Bool}{m:Nat}(h:Sel names l q done (m+1)){b:Nat}{nm:List UInt8}{v:Vl}(hb:done[b]?=some false) (hn:names[b]?=some nm) (hv:l[b]?=some v)
  (hmin:∀ (i:Nat) M0,done[i]?=some false→names[i]?=some M0→Op.bytesLess M0 nm=false) (hu:Lp.utf nm=true) (hl:∀ x,q.getLast?=some x→x.1≠nm) :
  Sel names l (q++[(nm,v)]) (done.set b true) m:=by
 have hbl:=(List.getElem?_eq_some_iff.1 hb).1
 have hab:=h.above hb hn hl
 have hset:∀ i c,(done.set b true)[i]?=some c→(i=b∧c=true)∨(i≠b∧done[i]?=some c):=fun i c hc=>by
  rw [List.getElem?_set] at hc
  split at hc
  · rename_i e
    subst e
    exact .inl ⟨rfl,by simpa [hbl] using hc.symm⟩
  · rename_i e
    exact .inr ⟨fun e'=>e e'.symm,hc⟩
 have hset':∀ i c,i≠b→done[i]?=some c→(done.set b true)[i]?=some c:=fun i c hi hc=>by
  rw [List.getElem?_set_ne (fun e=>hi e.symm)];exact hc
 have hsb:(done.set b true)[b]?=some true:=by rw [List.getElem?_set_self hbl]
 refine ⟨h.par,by simp [h.len],by have:=h.cnt;simp;omega,?_,fun x=>?_,?_,?_,?_,?_⟩
 · have h1:=h.left
   have e:done=done.take b++false::done.drop (b+1):=by
    have:=List.getElem?_eq_some_iff.1 hb
    obtain ⟨_,e⟩:=this
    conv=>lhs;rw [← List.take_append_drop b done,List.drop_eq_getElem_cons hbl,e]
   have e2:done.set b true=done.take b++true::done.drop (b+1):=by
    rw [List.set_eq_take_append_cons_drop,if_pos hbl]
   rw [e2,List.count_append,List.count_cons]
   rw [e,List.count_append,List.count_cons] at h1
   simp at h1 ⊢
   omega
 · rw [List.mem_append,h.mem]
   constructor
   · rintro (⟨i,h1,h2,h3⟩ | hx)
     · have:i≠b:=fun e=>by subst e;rw [hb] at h1;cases h1
       exact ⟨i,hset' i _ this h1,h2,h3⟩
     · simp only [List.mem_singleton] at hx
       subst hx
       exact ⟨b,hsb,hn,hv⟩
   · rintro ⟨i,h1,h2,h3⟩
     rcases hset i _ h1 with ⟨rfl,_⟩ | ⟨hi,hd⟩
     · right
       rw [hn] at h2;rw [hv] at h3
       simp only [Option.some.injEq] at h2 h3
       simp [h2,h3]
     · exact .inl ⟨i,hd,h2,h3⟩
 · rw [List.map_append]
   refine List.pairwise_append.2 ⟨h.rise,by simp,fun x hx y hy=>?_⟩
   simp only [List.map_cons,List.map_nil,List.mem_singleton] at hy
   subst hy
   obtain ⟨z,hz,rfl⟩:=List.mem_map.1 hx
   exact hab z hz
 · intro x hx
   rcases List.mem_append.1 hx with hx | hx
   · exact h.utf x hx
   · simp only [List.mem_singleton] at hx
     subst hx;exact hu
 · intro i M0 h1 h2 x hx
   rcases hset i _ h1 with ⟨_,hc⟩ | ⟨hi,hd⟩
   · cases hc
   · rcases List.mem_append.1 hx with hx | hx
     · exact h.low i M0 hd h2 x hx
     · simp only [List.mem_singleton] at hx
       subst hx
       exact hmin i M0 hd h2
 · intro i j M0 h1 h2 h3 h4
   have key:∀ k,k≠b→done[k]?=some true→names[k]?=some M0→M0≠nm:=fun k hk hd hnk e=>by
    subst e
    have hkl:k<l.length:=by rw [← h.par];exact (List.getElem?_eq_some_iff.1 hnk).1
    have:=hab (M0,l[k]) ((h.mem _).2 ⟨k,hd,hnk,List.getElem?_eq_getElem hkl⟩)
    rw [eT] at this;cases this
   rcases hset i _ h1 with ⟨rfl,_⟩ | ⟨hi,hd⟩
   · rcases hset j _ h2 with ⟨rfl,_⟩ | ⟨hj,hd'⟩
     · rfl
     · rw [hn] at h3
       simp only [Option.some.injEq] at h3
       exact absurd h3.symm (key j hj hd' h4)
   · rcases hset j _ h2 with ⟨rfl,_⟩ | ⟨hj,hd'⟩
     · rw [hn] at h4
       simp only [Option.some.injEq] at h4
       exact absurd h4.symm (key i hi hd h3)
     · exact h.one i j M0 hd hd' h3 h4
theorem Sel.all {names:List (List UInt8)}{l:List Vl}{q:uq}{done:List Bool}(h:Sel names l q done 0){i:Nat}(hi:i<names.length):done[i]?=some true:=by
 have h1:=List.getElem?_eq_getElem (by rw [h.len];exact hi:i<done.length)
 rw [h1]
 cases hd:done[i]'(by rw [h.len];exact hi) with
 | true=>rfl
 | false=>
  have:=h.left
  rw [List.count_eq_zero] at this
  exact absurd (by rw [← hd];exact List.getElem_mem _) this
theorem Sel.end {names:List (List UInt8)}{l:List Vl}{q:uq}{done:List Bool}(h:Sel names l q done 0):g_ names l.length=true∧q=vU (names.zip l):=by
 have hq:∀ (i:Nat) (hi:i<names.length),(names[i],l[i]'(by rw [← h.par];exact hi)) ∈ q:=fun i hi=>
  (h.mem _).2 ⟨i,h.all hi,List.getElem?_eq_getElem hi,List.getElem?_eq_getElem _⟩
 have hok:g_ names l.length=true:=by
  rw [fZ]
  refine ⟨h.par,?_,fun x hx=>?_⟩
  · refine List.pairwise_iff_getElem.2 fun i j hi hj hij e=>?_
    have:=h.one i j names[i] (h.all hi) (h.all hj) (List.getElem?_eq_getElem hi) (by rw [e];exact List.getElem?_eq_getElem hj)
    omega
  · obtain ⟨i,hi,rfl⟩:=List.mem_iff_getElem.1 hx
    exact h.utf _ (hq i hi)
 refine ⟨hok,EG hok h.rise fun x=>?_⟩
 constructor
 · intro hx
   obtain ⟨i,_,h2,h3⟩:=(h.mem x).1 hx
   refine List.mem_iff_getElem?.2 ⟨i,?_⟩
   rw [List.getElem?_zip_eq_some]
   exact ⟨h2,h3⟩
 · intro hx
   obtain ⟨i,hi⟩:=List.mem_iff_getElem?.1 hx
   rw [List.getElem?_zip_eq_some] at hi
   exact (h.mem x).2 ⟨i,h.all (List.getElem?_eq_some_iff.1 hi.1).1,hi.1,hi.2⟩
theorem Sel.some {names:List (List UInt8)}{l:List Vl}{q:uq}{done:List Bool}{m:Nat}(h:Sel names l q done (m+1)):∃ i:Nat,done[i]?=Option.some false:=by
 have:0<done.count false:=by rw [h.left];omega
 exact List.mem_iff_getElem?.1 (List.count_pos_iff.1 this)
end Lp
namespace Lp
open Go Go.Proofs
theorem qC {α:Type}{f:PV→PV}(enc:α→PV) (h:∀ x,(enc x).bL f=enc x) (l:List α):(l.map enc).map (PV.bL f)=l.map enc:=by
 rw [List.map_map]
 exact List.map_congr_left fun x _=>h x
def Uc (names:List (List UInt8)) (l:List Vl):PV:=if g_ names l.length then .bP [aB (iB names l),.int .i64 0] else .bP [.sl 0 [] (some true),.int .i64 4]
theorem acy {d n k a b:Nat}{q:PV}{o':Obj}{l:List (Nat×PV)}{ob:List Obj}{o:Obj}(ha:a<n) (hb:b<n) (h1:ob[k]?=some o) (h2:o.live=true) (h3:lM l a=.bA k o.ver) (h4:lM l b=q) (h5:oW d k ⟨dz n l,ob⟩ o=o') (h6:fB [o']) (h7:q.atom=true):ada D d [.tmp a,.tmp b] [q] o' ⟨dz n l,ob⟩:=
 ae4 h1 h2 (by simp only [jh,nV.2.1 n l a ha,nV.2.1 n l b hb,h3,h4]) h5 h6 (by simp [h7])
theorem Ud (names:List (List UInt8)) (l:List Vl):jy (Uc names l) (.bP [aB (iB names l),.int .i64 (Mf names l)]):=by
 unfold Uc iB Mf
 split
 · exact .refl _
 · exact MZ (.inr rfl) (ji 0 6) (.refl _)
end Lp
namespace Lp
open Go Go.Proofs
theorem aO.adk {P:Program}{D:TypeId→aJ}{T:Know}{f:FuncId}{n t u:Nat}{ty uy:TypeId}{C:LC}{args:List PV}{r:PV}(h:aO P f n [.cell t ty,.cell u uy] C) (d:Nat) (hD:∀ t,iY P t (D t)) (hT:H7 P none uQ T) (hm:P.follows .mixedOrders=true) (ht:t<n) (hu:u<n)
  (hw:∀ Q:Exit→St→Prop,(∀ l ob,Q .ret ⟨dz n l,ob⟩=fF (D ty) (lM l t) ob fun p _ _=>fF (D uy) (lM l u) ob fun q _ _=>r=.bP [gY d 0 ob p,gY d 0 ob q])→lq P D T C Q (bZ args n)):ai P f args [] r []:=by
 refine h.pure d hD hT hm (by simp) (hw _ fun l ob=>?_)
 simp only [nu,jh,nV.2.1 n l t ht,nV.2.1 n l u hu,List.map_cons,List.map_nil,fA]
def jC:Vl→Int
 | []=>0
 | n::_=>n.kind
def qZ (v:Vl) (nm:List UInt8):Option Vl:=if jC v=6 then qU (Me v) nm else none
def fK (v:Vl) (nm:List UInt8):Vl:=(qZ v nm).getD []
def tV (v:Vl) (nm:List UInt8):Bool:=(qZ v nm).isSome
def u_ (v:Vl) (nm:List UInt8):PV:=match qZ v nm with
 | some x=>.bP [aB x,.bool true]
 | none=>.bP [.sl 0 [] (some true),.bool false]
theorem fB.lt {O:List Obj}(h:fB O):jR O:=fun o ho x hx c hc=>by
 have:=h o ho x hx c hc
 cases c <;> first | rfl | (simp [PV.ref] at this)
theorem Ke (v:Vl) (nm:List UInt8):jy (u_ v nm) (.bP [aB (fK v nm),.bool (tV v nm)]):=by
 unfold u_ fK tV
 split
 · rename_i x h;rw [h];exact .refl _
 · rename_i h;rw [h];exact MZ (.inr rfl) (ji 0 6) (.refl _)
end Lp
namespace Lp
open Go Go.Proofs Go.RowKit Go.Sort
def jV (ss:List (List UInt8)):List (List UInt8):=ss.mergeSort fun x y=>decide (x≤y)
theorem pE (ss:List (List UInt8)):(jV ss).length=ss.length:=List.length_mergeSort _
theorem afd {R:PV→Value→Prop}{p:PV}{vs:List Value}(h:dw R [p] vs):∃ u,vs=[u]∧R p u:=by
 obtain ⟨hl,h⟩:=h
 match vs,hl with
 | [u],_=>exact ⟨u,rfl,h 0 _ _ rfl rfl⟩
theorem QY {w:World}{g:Nat}{cur:Array Value}{t:TypeId}(hg:w.heap[g]?=some (.cells cur t (0,0))) (o:Nat):w.frozen? ⟨g,o,none⟩=false:=by
 simp [World.frozen?,hg]
theorem abt {α:Type}{l:List α}{k:Nat}{x:α}(h:l[k]?=some x):l.set k x=l:=by
 refine List.ext_getElem? fun i=>?_
 rw [List.getElem?_set]
 split
 · rename_i e
   subst e
   rw [if_pos (List.getElem?_eq_some_iff.1 h).1,h]
 · rfl
theorem aaf {objs:List Obj}{k ver:Nat}(ss:List (List UInt8)) (h1:objs[k]?=some ⟨9,1,ss.map .str,true,ver⟩) (hl:ss.length≤1000000) :
  Vm Tryz.prog 85 [.bA k ver] objs (.bP []) (objs.set k ⟨9,1,(jV ss).map .str,true,ver⟩):=by
 refine ⟨⟨_,Tryz.Cm.f190,by kernel_rfl,by kernel_rfl⟩,by simp,fun base ak w0 tmps blk a w vs R hargs=>?_⟩
 obtain ⟨u,rfl,r⟩:=afd hargs
 have hh:=r.bA h1 rfl rfl
 have EK:=R.objs.ob k _ h1 rfl
 unfold Bq at hh
 unfold dm at EK
 cases hb:blk k with
 | none=>
  rw [hb] at hh
  obtain ⟨rfl,hx⟩:=hh
  have hx':ss.map PV.str=[]:=hx
  have hs:ss=[]:=List.map_eq_nil_iff.1 hx'
  subst hs
  refine (Any.slices_Sort_string_none Tryz.Cm none 0 w).mono ?_
  rintro e w' ⟨h2,rfl⟩
  have hs0:jV []=[]:=List.mergeSort_nil
  have hset:objs.set k ⟨9,1,(jV []).map .str,true,ver⟩=objs:=by rw [hs0];exact abt h1
  rw [hset]
  exact ⟨_,blk,h2,R,⟨[],rfl,rfl,fun i p v h=>by simp at h⟩⟩
 | some g=>
  rw [hb] at hh EK
  obtain ⟨cap,c,hv,hc,h3,h4,h5⟩:=hh
  obtain ⟨c',hc',_,hcell⟩:=EK
  obtain ⟨_,ec,_,_⟩:=Sj (hc'.symm.trans hc |> Option.some.inj)
  rw [ec] at hcell
  clear hc' ec
  have hv2:u=.slice (some ⟨g,0,none⟩) ss.length cap:=by rw [hv];simp
  clear hv
  subst hv2
  simp only [Nat.mul_one] at h5
  have hg:=(Array.getElem?_eq_some_iff.1 hc).1
  have hsl:(ss.map PV.str).length=ss.length:=List.length_map ..
  have hcl:∀ (j:Nat) (x:List UInt8),ss[j]?=some x→c[j]?=some (encStr x):=fun j x hx=>by
   obtain ⟨_,h⟩:=hcell j (.str x) (by simp only [List.getElem?_map,hx];rfl)
   obtain ⟨v,h6,h7⟩:=h 0 (.str x) rfl
   cases h7
   simpa using h6
  have hH:Holds encStr w g 0 ss.toArray:=fun j hj=>by
   have hj':j<ss.length:=by simpa using hj
   refine ⟨?_,QY hc _⟩
   have e:=hcl j ss[j] (List.getElem?_eq_getElem hj')
   have e2:ss.toArray[j]! =ss[j]:=by rw [getElem!_pos _ j (by simpa using hj')];simp
   rw [e2,Nat.zero_add]
   simp only [World.cell?,hc]
   exact e
  refine (Any.slices_Sort_string Tryz.Cm g 0 cap ss w hH hg (by omega)).mono ?_
  rintro e W ⟨h6,n,os,hW⟩
  have hW:W=grow (putRow encStr (ahead w n) g 0 (jV ss).toArray) os:=hW
  have h3':ss.length≤cap:=by simpa using h3
  have hsz:(jV ss).length≤c.size:=by rw [pE];omega
  have hheap:W.heap[g]?=some (.cells (putCells encStr 0 (jV ss).toArray c) 9 (0,0)):=by
   rw [hW]
   simp only [grow,putRow,mapBlock,heap_ahead]
   rw [Array.getElem?_append_left (by simpa using hg),Array.getElem?_modify,if_pos rfl,hc]
   rfl
  have hoth:∀ b z,g≠b→w.heap[b]?=some z→W.heap[b]?=some z:=fun b z hb hz=>by
   rw [hW]
   have hbl:=(Array.getElem?_eq_some_iff.1 hz).1
   simp only [grow,putRow,mapBlock,heap_ahead]
   rw [Array.getElem?_append_left (by simpa using hbl),Array.getElem?_modify,if_neg hb,hz]
  have hput:∀ (j:Nat) (x:List UInt8),(jV ss)[j]?=some x→(putCells encStr 0 (jV ss).toArray c)[j]?=some (encStr x):=fun j x hx=>by
   have hj:=(List.getElem?_eq_some_iff.1 hx).1
   unfold putCells
   rw [Array.getElem?_mapIdx,Array.getElem?_eq_getElem (by omega:j<c.size)]
   simp only [Option.map_some,Nat.zero_le,true_and,Nat.zero_add,List.size_toArray,hj,if_true,Nat.sub_zero]
   rw [getElem!_pos _ j (by simpa using hj)]
   obtain ⟨_,rfl⟩:=List.getElem?_eq_some_iff.1 hx
   simp
  have hWs:w.heap.size≤W.heap.size:=by rw [hW];simp [grow]
  have hWo:W.os=w.os∧W.output=w.output:=by rw [hW];exact ⟨rfl,rfl⟩
  refine ⟨_,aK blk k (blk k),h6,?_,⟨[],rfl,rfl,fun i p v h=>by simp at h⟩⟩
  refine R.setObj (o':=⟨9,1,(jV ss).map .str,true,ver⟩) hWo h1 rfl rfl hWs ?_ (fun g' hg'=>.inl hg') (Nat.le_refl _) ?_ ?_
  · intro b z hbz hz
    exact hoth b z (fun e=>hbz (by rw [hb,e])) hz
  · intro _
    refine ⟨rfl,rfl,rfl,fun _=>by simp [pE],fun g' c' hg' hc'=>?_⟩
    rw [hb] at hg';cases hg'
    rw [hc] at hc';cases hc'
    exact ⟨_,hheap,by unfold putCells;simp⟩
  · intro hmono
    unfold dm
    have hbk:aK blk k (blk k) k=some g:=by unfold aK;rw [if_pos rfl,hb]
    rw [hbk]
    have hMT:9≠MT:=by decide
    refine ⟨_,(by rw [kK hMT];exact hheap),rq hMT (by simp [putCells,pE];omega),fun i' x' hx'=>?_⟩
    rw [List.getElem?_map] at hx'
    cases hi:(jV ss)[i']? with
    | none=>rw [hi] at hx';simp at hx'
    | some x=>
     rw [hi] at hx'
     simp only [Option.map_some,Option.some.injEq] at hx'
     subst hx'
     refine ⟨rfl,fun j p hp=>?_⟩
     match j,hp with
     | 0,hp=>
      cases hp
      exact ⟨_,by simpa using hput i' x hi,.aL (.str x)⟩
     | _+1,hp=>simp [PV.cells] at hp
end Lp
namespace Lp
open Go Go.Proofs Go.RowKit
open List (mem_singleton)
open Nat (reduceAdd reduceLeDiff reduceMul reduceSub)
open Int (reduceLE reduceToNat)
theorem acz:∀ x y:List UInt8,x<y↔Op.bytesLess x y=true
 | [],[]=>by simp [Op.bytesLess]
 | [],b::y=>by simp [Op.bytesLess]
 | a::x,[]=>by simp [Op.bytesLess]
 | a::x,b::y=>by
  have ih:=acz x y
  rw [List.cons_lt_cons_iff,ih]
  simp only [Op.bytesLess]
  by_cases h1:a<b
  · simp [h1]
  · by_cases h2:a=b
    · subst h2;simp [h1]
    · simp [h1,h2]
theorem VU (x y:List UInt8):decide (x≤y)=!Op.bytesLess y x:=by
 have:x≤y↔¬ y<x:=Iff.rfl
 rw [Bool.eq_iff_iff,decide_eq_true_iff,this,acz]
 simp
theorem ve (ss:List (List UInt8)):(jV ss).Perm ss:=List.mergeSort_perm ..
theorem Ue {ss:List (List UInt8)}(h:ss.Nodup):qR (jV ss):=by
 have h1:(jV ss).Pairwise fun x y=>decide (x≤y)=true:=List.pairwise_mergeSort
  (fun a b c h1 h2=>by
   rw [VU,Bool.not_eq_true'] at *
   cases h:Op.bytesLess c a with
   | false=>rfl
   | true=>
    rcases wm a b with g | g | g
    · rw [mr _ _ _ h g] at h2;cases h2
    · subst g;rw [h] at h2;cases h2
    · rw [g] at h1;cases h1)
  (fun a b=>by
   rw [VU,VU]
   cases h:Op.bytesLess b a with
   | false=>rfl
   | true=>rw [lu _ _ h];rfl) ss
 have h2:(jV ss).Nodup:=(ve ss).nodup_iff.2 h
 refine List.Pairwise.imp ?_ (h1.and h2)
 rintro a b ⟨h3,h4⟩
 rw [VU] at h3
 rcases wm a b with g | g | g
 · exact g
 · exact absurd g h4
 · rw [g] at h3;cases h3
theorem QZ (l:List (List UInt8)):ai Tryz.prog 58 [dQ l] [] (.fn 86 [] [.addr (dQ l)]) []:=by
 refine mM.a_ (T:=aP Tryz.prog []) 1 hD (aj ah) aU (by decide) fun Q hQ=>?_
 (conv=>arg 4;cbv);simp(maxSteps:=400000)only[↓aH,aI,BEq.rfl,reduceIte,reduceCtorEq,Nat.reduceLT,reduceAdd,reduceSub,reduceMul,Nat.reduceBEq,reduceLeDiff,reduceToNat,reduceLE,hQ]
 rfl
def IV (l:List (List UInt8)):PV:=.fn 86 [] [.addr (dQ l)]
theorem IW:∀ a b,IV a=IV b→a=b:=by
 intro a b h
 simp only [IV,PV.fn.injEq,List.cons.injEq,PV.addr.injEq,and_true,true_and] at h
 exact wU _ _ h
theorem seqB:type_of% (aQ IW):=aQ IW
def yC:dJ:=fun args objs K=>match args with
 | [a0]=>fU dQ a0 (HK.mk:HK fun l=>K (IV l) objs 0)
 | _=>False
theorem NP:aD Tryz.prog 58 (yC):=by
 intro args objs K h
 unfold yC at h
 split at h
 · rename_i a0
   obtain ⟨l,rfl,hk⟩:=h
   exact ⟨_,_,_,.pure _ rfl (QZ l),hk⟩
 · exact h.elim
theorem zC (l:List (List UInt8)) (hl:l.length≤1000000):Gives Tryz.prog 86 [.addr (dQ l)] (l.map fun s=>[.str s]):=by
 refine lV.gives (fnT:=uR []) hD ah aU ?_
 intro I J objs y hI Jv Yu
 (conv=>arg 4;cbv);simp(maxSteps:=400000)only[↓aH,aI,BEq.rfl,reduceIte,reduceCtorEq,Nat.reduceLT,reduceAdd,reduceSub,reduceMul,Nat.reduceBEq,reduceLeDiff,reduceToNat,reduceLE]
 refine aF (fun m S=>∃ (i:Nat) (O:List Obj),i+m=l.length∧I i O∧S=⟨dz 16 [(0,.Fx y),(5,dQ l),(6,.int .i64 l.length),(7,.int .i64 i)],O⟩) l.length ⟨0,objs,by omega,hI,?_⟩ ?_
 · simp only [bG,keepR,reduceAdd,kS,Nat.reduceBEq,List.map_nil]
   rfl
 rintro m S ⟨i,O,him,hIi,rfl⟩
 rcases Nat.lt_or_ge i l.length with h | h
 · have hlt:((i:Int)<(l.length:Int))=True:=eq_true (by omega)
   have zi:(0≤(i:Int))=True:=eq_true (by omega)
   have hgi:=List.getElem?_eq_getElem h
   generalize l[i]=s at hgi
   simp(maxSteps:=400000)only[↓aH,aI,BEq.rfl,reduceIte,reduceCtorEq,Nat.reduceLT,reduceAdd,reduceSub,reduceMul,Nat.reduceBEq,reduceLeDiff,reduceToNat,reduceLE,hlt,zi,hgi,Yt]
   refine ⟨rfl,i,hIi,by rw [hgi];rfl,fun O' hI'=>⟨⟨by omega,by omega⟩,m-1,by omega,i+1,O',by omega,hI',rfl⟩,fun O' hJ'=>⟨.inr rfl,.inr ⟨i,h,hJ'⟩⟩⟩
 · have hlt:((i:Int)<(l.length:Int))=False:=eq_false (by omega)
   simp(maxSteps:=400000)only[↓aH,aI,BEq.rfl,reduceIte,reduceCtorEq,Nat.reduceLT,reduceAdd,reduceSub,reduceMul,Nat.reduceBEq,reduceLeDiff,reduceToNat,reduceLE,hlt]
   have hi:i=l.length:=by omega
   subst hi
   exact ⟨.inl rfl,.inl hIi⟩
theorem Fh (l:List (List UInt8)):∀ y ∈ l.map (fun s=>[PV.str s]),y.length=1:=by
 intro y hy
 obtain ⟨p,_,rfl⟩:=List.mem_map.1 hy
 rfl
theorem Q0 {l:List (List UInt8)}{i:Nat}{args:List PV}(h:(l.map fun s=>[PV.str s])[i]?=some args):∃ s,l[i]?=some s∧args=[.str s]:=by
 rw [List.getElem?_map] at h
 cases hx:l[i]? with
 | none=>rw [hx] at h;simp at h
 | some p=>rw [hx] at h;exact ⟨p,rfl,by simpa using h.symm⟩
def afe (l:List (List UInt8)) (i:Nat):List Obj→Prop:=fun O=>
 (i=0∧O=[⟨49,1,[.sl 0 [] (some true)],true,1⟩])∨(0<i∧∃ ver,O=[⟨49,1,[.bA 1 ver],true,1⟩,⟨9,1,(l.take i).map .str,true,ver⟩])
theorem Gr (l:List (List UInt8)){ver:Nat}:fB [⟨9,1,l.map .str,true,ver⟩]:=by
 intro o ho x hx c hc
 simp only [mem_singleton] at ho;subst ho
 obtain ⟨p,_,rfl⟩:=List.mem_map.1 hx
 simp only [PV.cells,mem_singleton] at hc;subst hc;rfl
theorem IX (l:List (List UInt8)) (h0:l≠[]) (hl:l.length≤1000000):ai Tryz.prog 108 [.sl 0 [] (some true),.fn 86 [] [.addr (dQ l)]] [] (.bA 0 0) [⟨9,1,l.map .str,true,0⟩]:=by
 refine gT.P5 (T:=aP Tryz.prog []) 0 hD (aj ah) aU fun Q hQ=>?_
 (conv=>arg 4;cbv);simp(maxSteps:=400000)only[↓aH,aI,BEq.rfl,reduceIte,reduceCtorEq,Nat.reduceLT,reduceAdd,reduceSub,reduceMul,Nat.reduceBEq,reduceLeDiff,reduceToNat,reduceLE,hQ]
 refine H9 86 [.addr (dQ l)] (l.map fun s=>[.str s]) (fun i O=>afe l i O∧i≤l.length) rfl rfl rfl trivial (zC l hl) (Fh l) ⟨.inl ⟨rfl,rfl⟩,Nat.zero_le _⟩ ?_ ?_ ?_
 · rintro i O ⟨⟨_,rfl⟩ | ⟨_,ver,rfl⟩,_⟩
   · refine ⟨Nat.le_refl _,?_⟩
     intro o ho x hx c hc
     simp only [mem_singleton] at ho;subst ho
     simp only [mem_singleton] at hx;subst hx
     simp only [PV.cells,mem_singleton] at hc;subst hc;rfl
   · refine ⟨by simp,?_⟩
     intro o ho x hx c hc
     simp only [List.mem_cons,List.not_mem_nil,or_false] at ho
     rcases ho with rfl | rfl
     · simp only [mem_singleton] at hx;subst hx
       simp only [PV.cells,mem_singleton] at hc;subst hc;rfl
     · obtain ⟨p,_,rfl⟩:=List.mem_map.1 hx
       simp only [PV.cells,mem_singleton] at hc;subst hc;rfl
 · rintro i args O ⟨hO,hi⟩ ha
   obtain ⟨s,hs,rfl⟩:=Q0 ha
   have hil:=(List.getElem?_eq_some_iff.1 hs).1
   have htk:l.take (i+1)=l.take i++[s]:=by rw [List.take_add_one,hs];rfl
   rcases hO with ⟨rfl,rfl⟩ | ⟨h1,ver,rfl⟩
   · simp(maxSteps:=400000)only[↓aH,aI,BEq.rfl,reduceIte,reduceCtorEq,Nat.reduceLT,reduceAdd,reduceSub,reduceMul,Nat.reduceBEq,reduceLeDiff,reduceToNat,reduceLE,hQ,qX,knI]
     exact ⟨.inr ⟨by omega,1,by rw [htk];rfl⟩,by omega⟩
   · simp(maxSteps:=400000)only[↓aH,aI,BEq.rfl,reduceIte,reduceCtorEq,Nat.reduceLT,reduceAdd,reduceSub,reduceMul,Nat.reduceBEq,reduceLeDiff,reduceToNat,reduceLE,hQ,qX,knI]
     have:=List.length_take_le i l
     exact ⟨by omega,by omega,.inr ⟨by omega,ver+1,by rw [htk,List.map_append];rfl⟩,by omega⟩
 · rintro O ⟨hO,_⟩
   rw [List.length_map] at hO
   rcases hO with ⟨h1,rfl⟩ | ⟨h1,ver,rfl⟩
   · exact absurd (List.length_eq_zero_iff.1 h1) h0
   · simp(maxSteps:=400000)only[↓aH,aI,BEq.rfl,reduceIte,reduceCtorEq,Nat.reduceLT,reduceAdd,reduceSub,reduceMul,Nat.reduceBEq,reduceLeDiff,reduceToNat,reduceLE,hQ]
     refine Xg (k:=1) (ver:=ver) rfl rfl rfl rfl ?_ (Gr l)
     simp only [gM,List.take_length]
     rw [qC PV.str fun _=>rfl]
theorem Kg:ai Tryz.prog 108 [.sl 0 [] (some true),.fn 86 [] [.addr (dQ [])]] [] (.sl 0 [] (some true)) []:=by
 refine gT.a_ (T:=aP Tryz.prog []) 0 hD (aj ah) aU (by decide) fun Q hQ=>?_
 (conv=>arg 4;cbv);simp(maxSteps:=400000)only[↓aH,aI,BEq.rfl,reduceIte,reduceCtorEq,Nat.reduceLT,reduceAdd,reduceSub,reduceMul,Nat.reduceBEq,reduceLeDiff,reduceToNat,reduceLE,hQ]
 refine H9 86 [.addr (dQ [])] ([].map fun s=>[PV.str s]) (fun i O=>i≤0∧O=[⟨49,1,[.sl 0 [] (some true)],true,1⟩]) rfl rfl rfl trivial (zC [] (by simp)) (Fh []) ⟨Nat.le_refl _,rfl⟩ ?_ ?_ ?_
 · rintro i O ⟨_,rfl⟩
   refine ⟨Nat.le_refl _,?_⟩
   intro o ho x hx c hc
   simp only [mem_singleton] at ho;subst ho
   simp only [mem_singleton] at hx;subst hx
   simp only [PV.cells,mem_singleton] at hc;subst hc;rfl
 · rintro i args O _ ha
   simp at ha
 · rintro O ⟨_,rfl⟩
   simp(maxSteps:=400000)only[↓aH,aI,BEq.rfl,reduceIte,reduceCtorEq,Nat.reduceLT,reduceAdd,reduceSub,reduceMul,Nat.reduceBEq,reduceLeDiff,reduceToNat,reduceLE,hQ]
def Ar:dJ:=fun args objs K=>∃ l:List (List UInt8),args=[.sl 0 [] (some true),.fn 86 [] [.addr (dQ l)]]∧l≠[]∧l.length≤1000000∧K (.bA objs.length 0) (objs++[⟨9,1,l.map .str,true,0⟩]) 2
theorem Kh:aD Tryz.prog 108 Ar:=by
 rintro args objs K ⟨l,rfl,h0,h1,hk⟩
 exact ⟨_,_,_,mI.made (objs:=objs) _ _ rfl (Gr l) (IX l h0 h1),by simpa [PV.shift,PV.qi] using hk⟩
def vg:dJ:=fun args objs K=>match args with
 | [a0,a1]=>a0=(.sl 0 [] (some true))∧a1=(.fn 86 [] [.addr (dQ [])])∧K (.sl 0 [] (some true)) objs 0
 | _=>False
theorem Ki:aD Tryz.prog 108 (vg):=by
 intro args objs K h
 unfold vg at h
 split at h
 · rename_i a0 a1
   obtain ⟨rfl,rfl,hk⟩:=h
   exact ⟨_,_,_,.pure _ rfl (Kg),hk⟩
 · exact h.elim
theorem NQ (l:List (List UInt8)) (h0:l≠[]) (hl:l.length≤1000000):ai Tryz.prog 84 [.fn 86 [] [.addr (dQ l)]] [] (.bA 0 0) [⟨9,1,l.map .str,true,0⟩]:=by
 refine lH.P5 (T:=aP Tryz.prog [(108,Ar)]) 0 hD (aj (af Kh ah)) aU fun Q hQ=>?_
 (conv=>arg 4;cbv);simp(maxSteps:=400000)only[↓aH,aI,BEq.rfl,reduceIte,reduceCtorEq,Nat.reduceLT,reduceAdd,reduceSub,reduceMul,Nat.reduceBEq,reduceLeDiff,reduceToNat,reduceLE,hQ,↓Ar]
 refine ⟨l,rfl,h0,hl,Xg (k:=0) (ver:=0) rfl rfl rfl rfl ?_ (Gr l)⟩
 simp only [gM]
 rw [qC PV.str fun _=>rfl]
def xA:dJ:=fun args objs K=>∃ l:List (List UInt8),args=[.fn 86 [] [.addr (dQ l)]]∧l≠[]∧l.length≤1000000∧K (.bA objs.length 0) (objs++[⟨9,1,l.map .str,true,0⟩]) 2
theorem IY:aD Tryz.prog 84 xA:=by
 rintro args objs K ⟨l,rfl,h0,h1,hk⟩
 exact ⟨_,_,_,mI.made (objs:=objs) _ _ rfl (Gr l) (NQ l h0 h1),by simpa [PV.shift,PV.qi] using hk⟩
def IZ:dJ:=fun args objs K=>∃ (k ver:Nat) (ss:List (List UInt8)),args=[.bA k ver]∧objs[k]?=some ⟨9,1,ss.map .str,true,ver⟩∧ss.length≤1000000∧K (.bP []) (objs.set k ⟨9,1,(jV ss).map .str,true,ver⟩) 2
theorem Q5:aD Tryz.prog 85 IZ:=by
 rintro args objs K ⟨k,ver,ss,rfl,h1,h2,hk⟩
 exact ⟨_,_,_,.used _ _ (aaf ss h1 h2),hk⟩
theorem Q6:ai Tryz.prog 84 [.fn 86 [] [.addr (dQ [])]] [] (.sl 0 [] (some true)) []:=by
 refine lH.a_ (T:=aP Tryz.prog [(108,vg)]) 0 hD (aj (af Ki ah)) aU (by decide) fun Q hQ=>?_
 (conv=>arg 4;cbv);simp(maxSteps:=400000)only[↓aH,aI,BEq.rfl,reduceIte,reduceCtorEq,Nat.reduceLT,reduceAdd,reduceSub,reduceMul,Nat.reduceBEq,reduceLeDiff,reduceToNat,reduceLE,hQ,↓vg]
def rM:dJ:=fun args objs K=>match args with
 | [a0]=>a0=(.fn 86 [] [.addr (dQ [])])∧K (.sl 0 [] (some true)) objs 0
 | _=>False
theorem I4:aD Tryz.prog 84 (rM):=by
 intro args objs K h
 unfold rM at h
 split at h
 · rename_i a0
   obtain ⟨rfl,hk⟩:=h
   exact ⟨_,_,_,.pure _ rfl (Q6),hk⟩
 · exact h.elim
theorem NR:ai Tryz.prog 85 [.sl 0 [] (some true)] [] (.bP []) []:=by
 refine ai.o_ ⟨_,Tryz.Cm.f190,by kernel_rfl,by kernel_rfl⟩ fun w vs ok hg hr=>?_
 obtain ⟨u,rfl,h⟩:=abk hr
 have hu:u=.slice none 0 0:=by
  cases h with
  | slnil=>rfl
  | JB _ _ hq=>exact absurd rfl hq
  | sl _ _ _ hq=>exact absurd rfl hq
 subst hu
 refine (Any.slices_Sort_string_none Tryz.Cm none 0 w).mono ?_
 rintro e w' ⟨h1,rfl⟩
 exact ⟨_,h1,fun w ok=>.bP _ _ rfl (fun i p v h=>by simp at h),.refl _ _⟩
def CO:dJ:=fun args objs K=>match args with
 | [a0]=>a0=(.sl 0 [] (some true))∧K (.bP []) objs 0
 | _=>False
theorem Q7:aD Tryz.prog 85 (CO):=by
 intro args objs K h
 unfold CO at h
 split at h
 · rename_i a0
   obtain ⟨rfl,hk⟩:=h
   exact ⟨_,_,_,.pure _ rfl (NR),hk⟩
 · exact h.elim
theorem Q8 (l:List (List UInt8)) (hl:l.length≤1000000):ai Tryz.prog 57 [.fn 86 [] [.addr (dQ l)]] [] (dQ (jV l)) []:=by
 by_cases h0:l=[]
 · subst h0
   refine ai.res (r:=.sl 0 [] (some true)) ?_ (by have:jV []=[]:=List.mergeSort_nil;rw [this];exact ji 0 1)
   refine l8.a_ (T:=aP Tryz.prog [(84,rM),(85,CO)]) 0 hD (aj (af I4 (af Q7 ah))) aU (by decide) fun Q hQ=>?_
   (conv=>arg 4;cbv);simp(maxSteps:=400000)only[↓aH,aI,BEq.rfl,reduceIte,reduceCtorEq,Nat.reduceLT,reduceAdd,reduceSub,reduceMul,Nat.reduceBEq,reduceLeDiff,reduceToNat,reduceLE,hQ,↓rM,↓CO]
 refine l8.a_ (T:=aP Tryz.prog [(84,xA),(85,IZ)]) 1 hD (aj (af IY (af Q5 ah))) aU (by decide) fun Q hQ=>?_
 (conv=>arg 4;cbv);simp(maxSteps:=400000)only[↓aH,aI,BEq.rfl,reduceIte,reduceCtorEq,Nat.reduceLT,reduceAdd,reduceSub,reduceMul,Nat.reduceBEq,reduceLeDiff,reduceToNat,reduceLE,hQ,↓xA]
 refine ⟨l,rfl,h0,hl,?_⟩
 simp(maxSteps:=400000)only[↓aH,aI,BEq.rfl,reduceIte,reduceCtorEq,Nat.reduceLT,reduceAdd,reduceSub,reduceMul,Nat.reduceBEq,reduceLeDiff,reduceToNat,reduceLE,hQ,↓IZ]
 refine ⟨0,0,l,rfl,rfl,hl,?_⟩
 simp only [List.set_cons_zero,fC,Nat.not_lt_zero,if_false,gF,List.getElem?_cons_zero,Nat.le_refl,decide_true,Bool.true_and,beq_self_eq_true,if_true]
 rw [qC PV.str fun _=>rfl]
 rfl
def yD:dJ:=fun args objs K=>match args with
 | [a0]=>fU IV a0 (HK.mk:HK fun l=>(l.length≤1000000)∧K (dQ (jV l)) objs 0)
 | _=>False
theorem NS:aD Tryz.prog 57 (yD):=by
 intro args objs K h
 unfold yD at h
 split at h
 · rename_i a0
   obtain ⟨l,rfl,h1,hk⟩:=h
   exact ⟨_,_,_,.pure _ rfl (Q8 l h1),hk⟩
 · exact h.elim
end Lp
namespace Lp
open Go Go.Proofs
open List (getElem_mem map_append map_cons map_fst_zip map_id map_map map_nil take_add_one)
open Nat (lt_or_ge reduceAdd reduceLeDiff reduceMul reduceSub zero_le)
open Int (reduceLE reduceToNat)
def XV (x:List UInt8×Vl):PV:=.agg [.str x.1,aB x.2]
def I5 (q:uq):Obj:=⟨MT,2,q.map XV,true,1⟩
theorem Q9 (P:Program) (D:TypeId→aJ) (T:Know) (w pt:Bool) (ev:Operand→PV) (objs:List Obj) (K:KT) :
  (∀ t x ix ok,mg P D T w pt ev objs (.lookup t x ix ok) K=jT D t (ev x) (ev ix) ok objs K)∧
  (∀ t x y z,mg P D T w pt ev objs (.mapUpdate t x y z) K=gX D t (ev x) (ev y) (ev z) objs K)∧
  (∀ t,mg P D T w pt ev objs (.makeMap t none) K=lD D t objs K):=⟨fun _ _ _ _=>rfl,fun _ _ _ _=>rfl,fun _=>rfl⟩
theorem Eu (ti:aJ):(∀ i v,found ti (some (i,v)) true=.bP [v,.bool true])∧(∀ i v,found ti (some (i,v)) false=v)∧(found ti none true=.bP [aM ti,.bool false])∧(found ti none false=aM ti):=⟨fun _ _=>rfl,fun _ _=>rfl,rfl,rfl⟩
theorem Au {nm:List UInt8}:∀ (q:uq) (i:Nat),nm ∉ q.map (·.1)→sN .str (.str nm) (q.map XV) i=some none
 | [],_,_=>rfl
 | x::q,i,h=>by
  simp only [map_cons,List.mem_cons,not_or] at h
  have:R7 .str (.str nm) (.str x.1)=some false:=by simp [R7,h.1]
  simp only [map_cons,XV,sN,this]
  exact Au q (i+1) h.2
theorem Av {nm:List UInt8}{v:Vl}:∀ (q:uq) (i:Nat),qU q nm=some v→∃ j,sN .str (.str nm) (q.map XV) i=some (some (j,aB v))
 | [],_,h=>by simp [qU] at h
 | x::q,i,h=>by
  by_cases e:x.1=nm
  · have hk:R7 .str (.str nm) (.str x.1)=some true:=by simp [R7,e]
    have hv:x.2=v:=by simpa [qU,e] using h
    refine ⟨i,?_⟩
    simp only [map_cons,XV,sN,hk,hv]
  · have hk:R7 .str (.str nm) (.str x.1)=some false:=by simp [R7];exact fun h=>e h.symm
    have h':qU q nm=some v:=by simpa [qU,e] using h
    obtain ⟨j,hj⟩:=Av q (i+1) h'
    refine ⟨j,?_⟩
    simp only [map_cons,XV,sN,hk]
    exact hj
theorem Uf {names:List (List UInt8)}{l:List Vl}(h:g_ names l.length=true):((jV names).map fun nm=>(nm,(qU (names.zip l) nm).getD []))=vU (names.zip l)∧∀ nm ∈ names,∃ v,qU (names.zip l) nm=some v∧v ∈ l:=by
 obtain ⟨h1,h2,h3⟩:=fZ.1 h
 have yV:(names.zip l).map (·.1)=names:=map_fst_zip (by omega)
 have hget:∀ nm ∈ names,∃ v,qU (names.zip l) nm=some v∧v ∈ l:=fun nm hm=>by
  cases hg:qU (names.zip l) nm with
  | none=>rw [xM,yV] at hg;exact absurd hm hg
  | some v=>exact ⟨v,rfl,(List.of_mem_zip (pK hg)).2⟩
 refine ⟨EG h ?_ fun x=>?_,hget⟩
 · rw [map_map]
   have:(Prod.fst ∘ fun nm=>(nm,(qU (names.zip l) nm).getD []))=id:=rfl
   show qR (List.map (Prod.fst ∘ fun nm=>(nm,(qU (names.zip l) nm).getD [])) (jV names))
   rw [this,map_id]
   exact Ue h2
 · constructor
   · intro hx
     obtain ⟨nm,hn,rfl⟩:=List.mem_map.1 hx
     obtain ⟨v,hv,_⟩:=hget nm ((ve names).mem_iff.1 hn)
     rw [hv]
     exact pK hv
   · intro hx
     have hg:=GA (by rw [yV];exact h2) hx
     refine List.mem_map.2 ⟨x.1,(ve names).mem_iff.2 (by rw [← yV];exact List.mem_map.2 ⟨x,hx,rfl⟩),?_⟩
     rw [hg];rfl
theorem Kj (names:List (List UInt8)) (l:List Vl) (hbad:g_ names l.length=false) (hn:names.length≤1000000) (htx:∀ s ∈ names,s.length≤4611686018427387904):ai Tryz.prog 31 [dQ names,dD l] [] (.bP [.sl 0 [] (some true),.int .i64 4]) []:=by
 by_cases hp:names.length=l.length
 rotate_left 1
 · skip
   refine uT.r_ (T:=aP Tryz.prog []) 1 hD (aj ah) aU (by decide) (by decide) fun Q hQ=>?_
   have hl':((names.length:Int)=(l.length:Int))=False:=eq_false (by omega)
   (conv=>arg 4;cbv);simp(maxSteps:=400000)only[↓aH,aI,BEq.rfl,reduceIte,reduceCtorEq,Nat.reduceLT,reduceAdd,reduceSub,reduceMul,Nat.reduceBEq,reduceLeDiff,reduceToNat,reduceLE,hQ,hl']
 have hl':((names.length:Int)=(l.length:Int))=True:=eq_true (by omega)
 refine uT.r_ (T:=aP Tryz.prog [(56,dA)]) 1 hD (aj (af pq ah)) aU (by decide) (by decide) fun Q hQ=>?_
 (conv=>arg 4;cbv);simp(maxSteps:=400000)only[↓aH,aI,BEq.rfl,reduceIte,reduceCtorEq,Nat.reduceLT,reduceAdd,reduceSub,reduceMul,Nat.reduceBEq,reduceLeDiff,reduceToNat,reduceLE,hQ,hl',↓Q9,lD]
 refine aF (fun m S=>∃ i:Nat,i+m=names.length∧(names.take i).Nodup∧(∀ x ∈ names.take i,utf x=true)∧S=⟨dz 66 [(0,dQ names),(1,dD l),(6,.uw 0 1),(21,dQ names),(22,.int .i64 names.length),(23,.int .i64 i)],[I5 ((names.zip l).take i)]⟩) names.length ⟨0,by omega,by simp,by simp,?_⟩ ?_
 · simp only [bG,keepR,reduceAdd,kS,Nat.reduceBEq,map_nil]
   rfl
 rintro m S ⟨i,him,hnd,hut,rfl⟩
 rcases lt_or_ge i names.length with h | h
 · have hlt:((i:Int)<(names.length:Int))=True:=eq_true (by omega)
   have zi:(0≤(i:Int))=True:=eq_true (by omega)
   have hgi:=List.getElem?_eq_getElem h
   have hgl:l[i]?=some (l[i]'(by omega)):=List.getElem?_eq_getElem _
   have hx:=htx _ (getElem_mem h)
   generalize names[i]=nm at hgi hx
   generalize l[i]'(by omega)=v at hgl
   have hgz:(names.zip l)[i]?=some (nm,v):=by rw [List.getElem?_zip_eq_some];exact ⟨hgi,hgl⟩
   have htk:names.take (i+1)=names.take i++[nm]:=by rw [take_add_one,hgi];rfl
   have htz:(names.zip l).take (i+1)=(names.zip l).take i++[(nm,v)]:=by rw [take_add_one,hgz];rfl
   have yV:((names.zip l).take i).map (·.1)=names.take i:=by rw [List.map_take,map_fst_zip (by omega)]
   by_cases hin:nm ∈ names.take i
   · skip
     obtain ⟨v',hv'⟩:∃ v',qU ((names.zip l).take i) nm=some v':=by
      cases hg:qU ((names.zip l).take i) nm with
      | none=>rw [xM,yV] at hg;exact absurd hin hg
      | some v'=>exact ⟨v',rfl⟩
     obtain ⟨j,hj⟩:=Av _ 0 hv'
     unfold I5
     simp(maxSteps:=400000)only[↓aH,aI,BEq.rfl,reduceIte,reduceCtorEq,Nat.reduceLT,reduceAdd,reduceSub,reduceMul,Nat.reduceBEq,reduceLeDiff,reduceToNat,reduceLE,hQ,hlt,zi,hgi,↓Q9,jT,hj,Eu,bU,true_or]
   · have hmf:=Au ((names.zip l).take i) 0 (by rw [yV];exact hin)
     cases hu:utf nm
     · unfold I5
       simp(maxSteps:=400000)only[↓aH,aI,BEq.rfl,reduceIte,reduceCtorEq,Nat.reduceLT,reduceAdd,reduceSub,reduceMul,Nat.reduceBEq,reduceLeDiff,reduceToNat,reduceLE,hQ,hlt,zi,hgi,↓dA,hu,↓Q9,jT,hmf,Eu,bU,true_or]
       exact hx
     · unfold I5
       simp(maxSteps:=400000)only[↓aH,aI,BEq.rfl,reduceIte,reduceCtorEq,Nat.reduceLT,reduceAdd,reduceSub,reduceMul,Nat.reduceBEq,reduceLeDiff,reduceToNat,reduceLE,hQ,hlt,zi,hgi,hgl,↓dA,hu,↓Q9,jT,gX,hmf,Eu,bU,true_or,Fz]
       refine ⟨hx,⟨by omega,by omega⟩,m-1,by omega,i+1,by omega,?_,fun x hx=>?_,?_⟩
       · rw [htk,List.nodup_append]
         refine ⟨hnd,by simp,fun a ha b hb=>?_⟩
         simp only [List.mem_singleton] at hb
         subst hb
         rintro rfl;exact hin ha
       · rw [htk] at hx
         rcases List.mem_append.1 hx with hx | hx
         · exact hut x hx
         · simp only [List.mem_singleton] at hx
           subst hx;exact hu
       · rw [htz,map_append];rfl
 rw [List.take_of_length_le h] at hnd hut
 rw [fZ.2 ⟨hp,hnd,hut⟩] at hbad
 cases hbad
theorem I6 (names:List (List UInt8)) (l:List Vl) (hok:g_ names l.length=true) (hn:names.length≤1000000) (hb:l.flatten.length≤1000000) (hne:∀ v ∈ l,v≠[]) (htx:∀ s ∈ names,s.length≤4611686018427387904):ai Tryz.prog 31 [dQ names,dD l] [] (.bP [.bA 0 0,.int .i64 0]) [TF (iB names l) 0]:=by
 obtain ⟨hp,hnd,hut⟩:=fZ.1 hok
 have hl':((names.length:Int)=(l.length:Int))=True:=eq_true (by omega)
 obtain ⟨hsrt,hget⟩:=Uf hok
 have hsl:(jV names).length=names.length:=pE names
 have hsm:∀ nm ∈ jV names,nm ∈ names:=fun nm h=>(ve names).mem_iff.1 h
 refine uT.adb (qs:=[.int .i64 0]) (T:=aP Tryz.prog [(56,dA),(58,yC),(57,yD),(59,xq)]) 1 hD (aj (af pq (af NP (af NS (af Qp ah))))) aU (by decide) fun Q hQ=>?_
 (conv=>arg 4;cbv);simp(maxSteps:=400000)only[↓aH,aI,BEq.rfl,reduceIte,reduceCtorEq,Nat.reduceLT,reduceAdd,reduceSub,reduceMul,Nat.reduceBEq,reduceLeDiff,reduceToNat,reduceLE,hQ,hl',↓Q9,lD]
 refine aF (fun m S=>∃ i:Nat,i+m=names.length∧S=⟨dz 66 [(0,dQ names),(1,dD l),(6,.uw 0 1),(21,dQ names),(22,.int .i64 names.length),(23,.int .i64 i)],[I5 ((names.zip l).take i)]⟩) names.length ⟨0,by omega,?_⟩ ?_
 · simp only [bG,keepR,reduceAdd,kS,Nat.reduceBEq,map_nil]
   rfl
 rintro m S ⟨i,him,rfl⟩
 rcases lt_or_ge i names.length with h | h
 · have hlt:((i:Int)<(names.length:Int))=True:=eq_true (by omega)
   have zi:(0≤(i:Int))=True:=eq_true (by omega)
   have hgi:=List.getElem?_eq_getElem h
   have hgl:l[i]?=some (l[i]'(by omega)):=List.getElem?_eq_getElem _
   have hx:=htx _ (getElem_mem h)
   have hu:=hut _ (getElem_mem h)
   generalize names[i]=nm at hgi hx hu
   generalize l[i]'(by omega)=v at hgl
   have hgz:(names.zip l)[i]?=some (nm,v):=by rw [List.getElem?_zip_eq_some];exact ⟨hgi,hgl⟩
   have htz:(names.zip l).take (i+1)=(names.zip l).take i++[(nm,v)]:=by rw [take_add_one,hgz];rfl
   have yV:((names.zip l).take i).map (·.1)=names.take i:=by rw [List.map_take,map_fst_zip (by omega)]
   have hin:nm ∉ names.take i:=fun hin=>by
    have htk:names.take (i+1)=names.take i++[nm]:=by rw [take_add_one,hgi];rfl
    have h2:(names.take (i+1)).Nodup:=List.Pairwise.sublist (List.take_sublist _ _) hnd
    rw [htk,List.nodup_append] at h2
    exact absurd rfl (h2.2.2 nm hin nm (by simp))
   have hmf:=Au ((names.zip l).take i) 0 (by rw [yV];exact hin)
   unfold I5
   simp(maxSteps:=400000)only[↓aH,aI,BEq.rfl,reduceIte,reduceCtorEq,Nat.reduceLT,reduceAdd,reduceSub,reduceMul,Nat.reduceBEq,reduceLeDiff,reduceToNat,reduceLE,hQ,hlt,zi,hgi,hgl,↓dA,hu,↓Q9,jT,gX,hmf,Eu,bU,true_or,Fz]
   exact ⟨hx,⟨by omega,by omega⟩,m-1,by omega,i+1,by omega,by rw [htz,map_append];rfl⟩
 have hlt:((i:Int)<(names.length:Int))=False:=eq_false (by omega)
 have htz:(names.zip l).take i=names.zip l:=List.take_of_length_le (by simp;omega)
 rw [htz]
 unfold I5
 simp(maxSteps:=400000)only[↓aH,aI,BEq.rfl,reduceIte,reduceCtorEq,Nat.reduceLT,reduceAdd,reduceSub,reduceMul,Nat.reduceBEq,reduceLeDiff,reduceToNat,reduceLE,hQ,hlt,↓yC,↓yD,seqB]
 refine ⟨by omega,?_⟩
 generalize jV names=ss at *
 obtain ⟨P,hP⟩:∃ P:List UInt8→Vl,P=fun nm=>(qU (names.zip l) nm).getD []:=⟨_,rfl⟩
 refine aF (fun m S=>∃ j:Nat,j+m=names.length∧((j=0∧S=⟨dz 66 [(6,.uw 0 1),(11,dQ ss),(12,.sl 0 [] (some true)),(50,dQ ss),(51,.int .i64 ss.length),(52,.int .i64 j)],[I5 (names.zip l)]⟩)∨
  (0<j∧∃ ver,S=⟨dz 66 [(6,.uw 0 1),(11,dQ ss),(12,.bA 1 ver),(50,dQ ss),(51,.int .i64 ss.length),(52,.int .i64 j)],[I5 (names.zip l),⟨28,1,((ss.take j).map P).map aB,true,ver⟩]⟩))) names.length ⟨0,by omega,.inl ⟨rfl,?_⟩⟩ ?_
 · simp only [bG,keepR,reduceAdd,kS,Nat.reduceBEq,map_nil]
   rfl
 rintro m' S ⟨j,hjm,hS⟩
 rcases lt_or_ge j ss.length with h' | h'
 · have hlt:((j:Int)<(ss.length:Int))=True:=eq_true (by omega)
   have zj:(0≤(j:Int))=True:=eq_true (by omega)
   have hgj:=List.getElem?_eq_getElem h'
   have hm:=hsm _ (getElem_mem h')
   generalize ss[j]=nm at hgj hm
   have htk:ss.take (j+1)=ss.take j++[nm]:=by rw [take_add_one,hgj];rfl
   obtain ⟨v,hv,hvl⟩:=hget nm hm
   obtain ⟨j2,hj2⟩:=Av _ 0 hv
   have hPv:P nm=v:=by rw [hP];simp [hv]
   rcases hS with ⟨rfl,rfl⟩ | ⟨h0,ver,rfl⟩
   · unfold I5
     simp(maxSteps:=400000)only[↓aH,aI,BEq.rfl,reduceIte,reduceCtorEq,Nat.reduceLT,reduceAdd,reduceSub,reduceMul,Nat.reduceBEq,reduceLeDiff,reduceToNat,reduceLE,hQ,hlt,zj,hgj,↓Q9,jT,hj2,Eu,true_or]
     refine ⟨⟨by omega,by omega⟩,m'-1,by omega,1,by omega,.inr ⟨by omega,1,?_⟩⟩
     rw [show ss.take 1=[nm] from htk,map_cons,hPv]
     rfl
   · unfold I5
     simp(maxSteps:=400000)only[↓aH,aI,BEq.rfl,reduceIte,reduceCtorEq,Nat.reduceLT,reduceAdd,reduceSub,reduceMul,Nat.reduceBEq,reduceLeDiff,reduceToNat,reduceLE,hQ,hlt,zj,hgj,↓Q9,jT,hj2,Eu,true_or]
     have:=List.length_take_le j ss
     refine ⟨by omega,by omega,⟨by omega,by omega⟩,m'-1,by omega,j+1,by omega,.inr ⟨by omega,ver+1,?_⟩⟩
     rw [htk,map_append (f:=P),map_append,map_cons,hPv]
     rfl
 have hlt:((j:Int)<(ss.length:Int))=False:=eq_false (by omega)
 have hq:(ss.map fun nm=>(nm,P nm))=vU (names.zip l):=by rw [hP];exact hsrt
 have e:OP ss (ss.map P)=iB names l:=by
  have e:OP ss (ss.map P)=OI (ss.map fun nm=>(nm,P nm)):=by
   rw [← YA,map_map,map_map]
   congr 1
   exact (map_id ss).symm
  rw [e,hq]
  simp [iB,hok]
 have hsn:ss.map P=(vU (names.zip l)).map (·.2):=by
  rw [← hq,map_map];rfl
 have hfl:(ss.map P).flatten.length≤1000000:=by rw [hsn,KU hp];exact hb
 have hnp:∀ v ∈ ss.map P,v≠[]:=fun v hv=>by
  obtain ⟨nm,hn,rfl⟩:=List.mem_map.1 hv
  obtain ⟨v,hv,hvl⟩:=hget nm (hsm nm hn)
  have hPv:P nm=v:=by rw [hP];simp [hv]
  rw [hPv]
  exact hne v hvl
 have hlp:(ss.map P).length≤1000000:=by rw [List.length_map];omega
 rcases hS with ⟨hj0,rfl⟩ | ⟨h0,ver,rfl⟩
 · have hs0:ss.length=0:=by omega
   have hl0:OP ss []=iB names l:=by
    rw [← e]
    have:ss=[]:=List.length_eq_zero_iff.1 hs0
    rw [this];rfl
   simp(maxSteps:=400000)only[↓aH,aI,BEq.rfl,reduceIte,reduceCtorEq,Nat.reduceLT,reduceAdd,reduceSub,reduceMul,Nat.reduceBEq,reduceLeDiff,reduceToNat,reduceLE,hQ,hlt]
   refine aT _ (Weak.freeze 1 0 (zero_le _) _) ?_
   simp(maxSteps:=400000)only[↓aH,aI,BEq.rfl,reduceIte,reduceCtorEq,Nat.reduceLT,reduceAdd,reduceSub,reduceMul,Nat.reduceBEq,reduceLeDiff,reduceToNat,reduceLE,hQ,↓xq,aep,abl]
   exact ⟨hs0,by simp,by simp,acy (k:=0) (by decide) (by decide) rfl rfl rfl rfl (by rw [← hl0];simp only [oW,TF,kF]) (yg _ 0) rfl⟩
 simp(maxSteps:=400000)only[↓aH,aI,BEq.rfl,reduceIte,reduceCtorEq,Nat.reduceLT,reduceAdd,reduceSub,reduceMul,Nat.reduceBEq,reduceLeDiff,reduceToNat,reduceLE,hQ,hlt]
 refine aT _ (Weak.freeze 1 0 (zero_le _) _) ?_
 have f2:∀ x:Obj,fC 1 0 [x,⟨28,1,List.map aB ((ss.take j).map P),true,ver⟩] (.bA 1 ver)=dD (ss.map P):=fun x=>by
  simp only [fC,Nat.not_lt_zero,if_false,gF,List.getElem?_cons_succ,List.getElem?_cons_zero,zero_le,decide_true,Bool.true_and,beq_self_eq_true,if_true]
  rw [qC aB fun _=>rfl,List.take_of_length_le h'];rfl
 simp(maxSteps:=400000)only[↓aH,aI,BEq.rfl,reduceIte,reduceCtorEq,Nat.reduceLT,reduceAdd,reduceSub,reduceMul,Nat.reduceBEq,reduceLeDiff,reduceToNat,reduceLE,hQ,↓xq,aep,abl,f2]
 exact ⟨by rw [List.length_map] at hlp;exact hlp,hfl,hnp,acy (k:=0) (by decide) (by decide) rfl rfl rfl rfl (by rw [← e];simp only [oW,TF,kF]) (yg _ 0) rfl⟩
theorem I7 (names:List (List UInt8)) (l:List Vl) (hn:names.length≤1000000) (hb:l.flatten.length≤1000000) (hne:∀ v ∈ l,v≠[]) (htx:∀ s ∈ names,s.length≤4611686018427387904):ai Tryz.prog 31 [dQ names,dD l] [] (Uc names l) []:=by
 cases hok:g_ names l.length with
 | false=>rw [show Uc names l=_ from by simp only [Uc,hok];rfl];exact Kj names l hok hn htx
 | true=>
  have h:=(I6 names l hok hn hb hne htx).ade rfl rfl rfl (yg _ 0)
  rw [show Uc names l=.bP [aB (iB names l),.int .i64 0] from by simp only [Uc,hok];rfl]
  exact h
theorem FN (names:List (List UInt8)) (l:List Vl) (hn:names.length≤1000000) (hb:l.flatten.length≤1000000) (hne:∀ v ∈ l,v≠[]) (htx:∀ s ∈ names,s.length≤4611686018427387904) :
  ai Tryz.prog 31 [dQ names,dD l] [] (.bP [aB (iB names l),.int .i64 (Mf names l)]) []:=
 (I7 names l hn hb hne htx).res (Ud names l)
def pF:dJ:=fun args objs K=>match args with
 | [a0,a1]=>fU dQ a0 (HK.mk:HK fun names=>fU dD a1 (HK.mk:HK fun l=>(names.length≤1000000)∧(l.flatten.length≤1000000)∧(∀ v ∈ l,v≠[])∧(∀ s ∈ names,s.length≤4611686018427387904)∧K (.bP [aB (iB names l),.int .i64 (Mf names l)]) objs 0))
 | _=>False
theorem FO:aD Tryz.prog 31 (pF):=by
 intro args objs K h
 unfold pF at h
 split at h
 · rename_i a0 a1
   obtain ⟨names,rfl,l,rfl,h1,h2,h3,h4,hk⟩:=h
   exact ⟨_,_,_,.pure _ rfl (FN names l h1 h2 h3 h4),hk⟩
 · exact h.elim
end Lp
namespace Lp
open Go Go.Proofs
open Nat (lt_or_ge reduceAdd reduceLeDiff reduceMul reduceSub)
open Int (reduceLE reduceToNat)
theorem XW (mask kind:Int) (hm:0≤mask∧mask≤1000000) (hk:0≤kind∧kind≤1000000):ai Tryz.prog 63 [.int .i64 mask,.int .i64 kind] [] (.bool (EH mask kind)) []:=by
 refine BX.a_ (T:=aP Tryz.prog []) 0 hD (aj ah) aU (by decide) fun Q hQ=>?_
 (conv=>arg 4;cbv);simp(maxSteps:=400000)only[↓aW,aX,BEq.rfl,reduceIte,reduceCtorEq,Nat.reduceLT,reduceAdd,reduceSub,reduceMul,Nat.reduceBEq,reduceLeDiff,reduceToNat,reduceLE,hQ]
 refine aF (fun m S=>∃ (i x:Nat),i+m=kind.toNat∧x=mask.toNat / 2 ^ i∧S=⟨dz 16 [(0,.int .i64 x),(1,.int .i64 kind),(5,.int .i64 i)],[]⟩) kind.toNat ⟨0,mask.toNat,by omega,by simp,?_⟩ ?_
 · simp only [bG,keepR,reduceAdd,kS,Nat.reduceBEq,List.map_nil]
   rw [Int.toNat_of_nonneg hm.1];rfl
 rintro m S ⟨i,x,him,hx,rfl⟩
 have hxm:x≤mask.toNat:=by rw [hx];exact Nat.div_le_self ..
 rcases lt_or_ge i kind.toNat with h | h
 rotate_left 1
 · have hlt:((i:Int)<kind)=False:=eq_false (by omega)
   have hi:i=kind.toNat:=by omega
   have hr:EH mask kind=decide ((x:Int).tmod 2=1):=by
    have e:(x:Int).tmod 2=((x % 2:Nat):Int):=rfl
    rw [e,EH,← hi,← hx,Bool.eq_iff_iff,beq_iff_eq,decide_eq_true_iff]
    omega
   simp(maxSteps:=400000)only[↓aW,aX,BEq.rfl,reduceIte,reduceCtorEq,Nat.reduceLT,reduceAdd,reduceSub,reduceMul,Nat.reduceBEq,reduceLeDiff,reduceToNat,reduceLE,hQ,hlt,hr]
   decide
 · have hlt:((i:Int)<kind)=True:=eq_true (by omega)
   simp(maxSteps:=400000)only[↓aW,aX,BEq.rfl,reduceIte,reduceCtorEq,Nat.reduceLT,reduceAdd,reduceSub,reduceMul,Nat.reduceBEq,reduceLeDiff,reduceToNat,reduceLE,hQ,hlt]
   have e:(x:Int).tdiv 2=((x / 2:Nat):Int):=rfl
   refine ⟨by decide,⟨by omega,by omega⟩,⟨by omega,by omega⟩,m-1,by omega,i+1,x / 2,by omega,?_,by simp [e]⟩
   rw [hx,Nat.div_div_eq_div_mul,Nat.pow_succ]
def CP:dJ:=fun args objs K=>match args with
 | [.int .i64 mask,.int .i64 kind]=>(0≤mask∧mask≤1000000)∧(0≤kind∧kind≤1000000)∧K (.bool (EH mask kind)) objs 0
 | _=>False
theorem Ug:aD Tryz.prog 63 (CP):=by
 intro args objs K h
 unfold CP at h
 split at h
 · rename_i mask kind
   obtain ⟨h1,h2,hk⟩:=h
   exact ⟨_,_,_,.pure _ rfl (XW mask kind h1 h2),hk⟩
 · exact h.elim
theorem XY (a:lQ) (n:Nd) (ha:fO a.c) (hn:fO n):ai Tryz.prog 78 [dU a,.addr (aA n)] [] (.bool (Bool.not (kX a n))) []:=by
 refine FI.a_ (T:=aP Tryz.prog [(79,yB)]) 0 hD (aj (af NM ah)) aU (by decide) fun Q hQ=>?_
 (conv=>arg 4;cbv);simp(maxSteps:=400000)only[↓aW,aX,BEq.rfl,reduceIte,reduceCtorEq,Nat.reduceLT,reduceAdd,reduceSub,reduceMul,Nat.reduceBEq,reduceLeDiff,reduceToNat,reduceLE,hQ]
 refine aT _ (Weak.freeze 1 0 (Nat.zero_le _) _) ?_
 simp(maxSteps:=400000)only[↓aW,aX,BEq.rfl,reduceIte,reduceCtorEq,Nat.reduceLT,reduceAdd,reduceSub,reduceMul,Nat.reduceBEq,reduceLeDiff,reduceToNat,reduceLE,hQ,VG,↓yB]
 exact ⟨ha,hn⟩
def CQ (n:Nd):dJ:=fun args objs K=>match args with
 | [a0,a1]=>fU dU a0 (HK.mk:HK fun a=>a1=(.addr (aA n))∧(fO a.c)∧(fO n)∧K (.bool (Bool.not (kX a n))) objs 0)
 | _=>False
theorem Uh (n:Nd):aD Tryz.prog 78 (CQ n):=by
 intro args objs K h
 unfold CQ at h
 split at h
 · rename_i a0 a1
   obtain ⟨a,rfl,rfl,h1,h2,hk⟩:=h
   exact ⟨_,_,_,.pure _ rfl (XY a n h1 h2),hk⟩
 · exact h.elim
def lI (n:Nd) (a:lQ):Bool:=Bool.not (kX a n)
theorem NT (l:List lQ) (n:Nd) (hl:l.length≤4611686018427387904) (ha:∀ a ∈ l,fO a.c) (hn:fO n):ai Tryz.prog 106 [bW l,.fn 78 [] [.addr (aA n)]] [] (.int .i64 (idxOf (lI n) l)) []:=by
 refine jY.a_ (T:=aP Tryz.prog [(78,(CQ n))]) 0 hD (aj (af (Uh n) ah)) aU (by decide) fun Q hQ=>?_
 (conv=>arg 4;cbv);simp(maxSteps:=400000)only[↓aW,aX,BEq.rfl,reduceIte,reduceCtorEq,Nat.reduceLT,reduceAdd,reduceSub,reduceMul,Nat.reduceBEq,reduceLeDiff,reduceToNat,reduceLE,hQ]
 refine aF (fun m S=>∃ i:Nat,i+m=l.length∧(∀ (j:Nat) y,j<i→l[j]?=some y→lI n y=false)∧S=⟨dz 19 [(0,bW l),(1,.fn 78 [] [.addr (aA n)]),(7,.int .i64 l.length),(8,.int .i64 i)],[]⟩) l.length ⟨0,by omega,fun j y h=>absurd h (Nat.not_lt_zero j),?_⟩ ?_
 · simp only [bG,keepR,reduceAdd,kS,Nat.reduceBEq,List.map_nil]
   rfl
 rintro m S ⟨i,him,hb,rfl⟩
 rcases lt_or_ge i l.length with h | h
 rotate_left 1
 · have hlt:((i:Int)<(l.length:Int))=False:=eq_false (by omega)
   have hr:=IK (l:=l) fun j y hj=>hb j y (by have:=(List.getElem?_eq_some_iff.1 hj).1;omega) hj
   simp(maxSteps:=400000)only[↓aW,aX,BEq.rfl,reduceIte,reduceCtorEq,Nat.reduceLT,reduceAdd,reduceSub,reduceMul,Nat.reduceBEq,reduceLeDiff,reduceToNat,reduceLE,hQ,hlt,hr]
 have hlt:((i:Int)<(l.length:Int))=True:=eq_true (by omega)
 have zi:(0≤(i:Int))=True:=eq_true (by omega)
 have hgi:=List.getElem?_eq_getElem h
 have hao:=ha _ (List.getElem_mem h)
 generalize l[i]=o at hgi hao
 cases hp:kX o n
 · have hr:idxOf (lI n) l=i:=idxOf_hit hgi (by simp [lI,hp]) hb
   simp(maxSteps:=400000)only[↓aW,aX,BEq.rfl,reduceIte,reduceCtorEq,Nat.reduceLT,reduceAdd,reduceSub,reduceMul,Nat.reduceBEq,reduceLeDiff,reduceToNat,reduceLE,hQ,hlt,zi,hgi,↓CQ,hp,hr]
   exact ⟨hao,hn⟩
 · simp(maxSteps:=400000)only[↓aW,aX,BEq.rfl,reduceIte,reduceCtorEq,Nat.reduceLT,reduceAdd,reduceSub,reduceMul,Nat.reduceBEq,reduceLeDiff,reduceToNat,reduceLE,hQ,hlt,zi,hgi,↓CQ,hp]
   refine ⟨hao,hn,⟨by omega,by omega⟩,m-1,by omega,i+1,by omega,fun j y hj hy=>?_,rfl⟩
   rcases lt_or_ge j i with g | g
   · exact hb j y g hy
   · have:j=i:=by omega
     subst this
     rw [hgi] at hy;cases hy
     simp [lI,hp]
def vk (n:Nd):dJ:=fun args objs K=>match args with
 | [a0,a1]=>fU bW a0 (HK.mk:HK fun l=>a1=(.fn 78 [] [.addr (aA n)])∧(l.length≤4611686018427387904)∧(∀ a ∈ l,fO a.c)∧(fO n)∧K (.int .i64 (idxOf (lI n) l)) objs 0)
 | _=>False
theorem Kk (n:Nd):aD Tryz.prog 106 (vk n):=by
 intro args objs K h
 unfold vk at h
 split at h
 · rename_i a0 a1
   obtain ⟨l,rfl,rfl,h1,h2,h3,hk⟩:=h
   exact ⟨_,_,_,.pure _ rfl (NT l n h1 h2 h3),hk⟩
 · exact h.elim
theorem NU (l:List lQ) (n:Nd) (hl:l.length≤4611686018427387904) (ha:∀ a ∈ l,fO a.c) (hn:fO n):ai Tryz.prog 77 [bW l,.fn 78 [] [.addr (aA n)]] [] (.bool (l.any (lI n))) []:=by
 refine jH.a_ (T:=aP Tryz.prog [(106,(vk n))]) 0 hD (aj (af (Kk n) ah)) aU (by decide) fun Q hQ=>?_
 (conv=>arg 4;cbv);simp(maxSteps:=400000)only[↓aW,aX,BEq.rfl,reduceIte,reduceCtorEq,Nat.reduceLT,reduceAdd,reduceSub,reduceMul,Nat.reduceBEq,reduceLeDiff,reduceToNat,reduceLE,hQ,↓vk,LD]
 exact ⟨hl,ha,hn⟩
def vo (n:Nd):dJ:=fun args objs K=>match args with
 | [a0,a1]=>fU bW a0 (HK.mk:HK fun l=>a1=(.fn 78 [] [.addr (aA n)])∧(l.length≤4611686018427387904)∧(∀ a ∈ l,fO a.c)∧(fO n)∧K (.bool (l.any (lI n))) objs 0)
 | _=>False
theorem Kl (n:Nd):aD Tryz.prog 77 (vo n):=by
 intro args objs K h
 unfold vo at h
 split at h
 · rename_i a0 a1
   obtain ⟨l,rfl,rfl,h1,h2,h3,hk⟩:=h
   exact ⟨_,_,_,.pure _ rfl (NU l n h1 h2 h3),hk⟩
 · exact h.elim
theorem aag {mask kind:Int}(hm:0≤mask∧mask≤31) (hk:0≤kind∧kind<5):GN .and .i64 (mask.fdiv (2 ^ min kind.toNat IntKind.i64.bits)) 1=if EH mask kind then 1 else 0:=by
 have key:∀ (m:Fin 32) (k:Fin 5),GN .and .i64 ((m.val:Int).fdiv (2 ^ min k.val IntKind.i64.bits)) 1=if (m.val / 2 ^ k.val) % 2==1 then 1 else 0:=by decide +kernel
 have:=key ⟨mask.toNat,by omega⟩ ⟨kind.toNat,by omega⟩
 simp only [Int.toNat_of_nonneg hm.1] at this
 exact this
theorem NV (mask:Int) (l:List lQ) (n:Nd) (hm:0≤mask∧mask≤31) (hl:l.length≤1000000) (ha:∀ a ∈ l,fO a.c) (hn:su n) (hs:n.s.length≤1000000):ai Tryz.prog 51 [.int .i64 mask,bW l,aA n] [] (.bool (bO mask l n)) []:=by
 refine JU.a_ (T:=aP Tryz.prog [(76,p9),(77,(vo n))]) 0 hD (aj (af NJ (af (Kl n) ah))) aU (by decide) fun Q hQ=>?_
 (conv=>arg 4;cbv);simp(maxSteps:=400000)only[↓aW,aX,BEq.rfl,reduceIte,reduceCtorEq,Nat.reduceLT,reduceAdd,reduceSub,reduceMul,Nat.reduceBEq,reduceLeDiff,reduceToNat,reduceLE,hQ]
 refine aT _ (Weak.freeze 1 0 (Nat.zero_le _) _) ?_
 cases hp:q8 n
 · have hr:bO mask l n=false:=by simp [bO,hp]
   simp(maxSteps:=400000)only[↓aW,aX,BEq.rfl,reduceIte,reduceCtorEq,Nat.reduceLT,reduceAdd,reduceSub,reduceMul,Nat.reduceBEq,reduceLeDiff,reduceToNat,reduceLE,hQ,jA,↓p9,hp,hr]
   exact hn
 have hk:=(jr hp).2.2
 have hbit:=aag hm ⟨hk.1,hk.2.1⟩
 have hk0:(0≤n.kind)=True:=eq_true hk.1
 cases hb:EH mask n.kind
 · have hr:bO mask l n=false:=by simp [bO,hb]
   rw [hb,if_neg (by decide)] at hbit
   simp(maxSteps:=400000)only[↓aW,aX,BEq.rfl,reduceIte,reduceCtorEq,Nat.reduceLT,reduceAdd,reduceSub,reduceMul,Nat.reduceBEq,reduceLeDiff,reduceToNat,reduceLE,hQ,jA,↓p9,hp,hr,rV,hbit,hk0]
   exact hn
 · have hr:bO mask l n=!(l.any (lI n)):=by simp [bO,hp,hb,List.all_eq_not_any_not,lI];rfl
   rw [hb,if_pos rfl] at hbit
   simp(maxSteps:=400000)only[↓aW,aX,BEq.rfl,reduceIte,reduceCtorEq,Nat.reduceLT,reduceAdd,reduceSub,reduceMul,Nat.reduceBEq,reduceLeDiff,reduceToNat,reduceLE,hQ,jA,↓p9,hp,hr,rV,hbit,hk0,↓vo,Int.reduceEq]
   exact ⟨hn,by omega,ha,hp,hs⟩
end Lp
namespace Lp
open Go Go.Proofs
open Nat (reduceAdd reduceLeDiff reduceMul reduceSub)
open Int (reduceLE reduceToNat)
theorem NW (mask:Int) (l:List lQ) (n:Nd) (hm:0≤mask∧mask≤1000000) (hl:l.length≤1000000) (ha:∀ a ∈ l,fO a.c) (hn:su n) (hs:n.s.length≤1000000):ai Tryz.prog 37 [.int .i64 mask,bW l,aA n] [] (.bool (bO mask l n)) []:=by
 refine yR.a_ (T:=aP Tryz.prog [(62,l9),(63,CP),(64,tT)]) 0 hD (aj (af CK (af Ug (af NN ah)))) aU (by decide) fun Q hQ=>?_
 (conv=>arg 4;cbv);simp(maxSteps:=400000)only[↓aW,aX,BEq.rfl,reduceIte,reduceCtorEq,Nat.reduceLT,reduceAdd,reduceSub,reduceMul,Nat.reduceBEq,reduceLeDiff,reduceToNat,reduceLE,hQ]
 refine aT _ (Weak.freeze 1 0 (Nat.zero_le _) _) ?_
 cases hp:q8 n
 · have hr:bO mask l n=false:=by simp [bO,hp]
   simp(maxSteps:=400000)only[↓aW,aX,BEq.rfl,reduceIte,reduceCtorEq,Nat.reduceLT,reduceAdd,reduceSub,reduceMul,Nat.reduceBEq,reduceLeDiff,reduceToNat,reduceLE,hQ,jA,↓l9,hp,hr]
   exact hn
 have hk:=(jr hp).2.2
 have hk':0≤n.kind∧n.kind≤1000000:=⟨hk.1,by omega⟩
 cases hb:EH mask n.kind
 · have hr:bO mask l n=false:=by simp [bO,hb]
   simp(maxSteps:=400000)only[↓aW,aX,BEq.rfl,reduceIte,reduceCtorEq,Nat.reduceLT,reduceAdd,reduceSub,reduceMul,Nat.reduceBEq,reduceLeDiff,reduceToNat,reduceLE,hQ,jA,↓l9,↓CP,hp,hr,hb]
   exact ⟨hn,hm,hk'⟩
 have hr:bO mask l n=l.all fun a=>kX a n:=by simp [bO,hp,hb]
 simp(maxSteps:=400000)only[↓aW,aX,BEq.rfl,reduceIte,reduceCtorEq,Nat.reduceLT,reduceAdd,reduceSub,reduceMul,Nat.reduceBEq,reduceLeDiff,reduceToNat,reduceLE,hQ,jA,↓l9,↓CP,hp,hr,hb]
 refine ⟨hn,hm,hk',?_⟩
 refine aF (fun m S=>∃ i:Nat,i+m=l.length∧(∀ (j:Nat) y,j<i→l[j]?=some y→kX y n=true)∧S=⟨dz 31 [(1,bW l),(5,.addr (aA n)),(7,.int .i64 i)],[]⟩) l.length ⟨0,by omega,fun j y h=>absurd h (Nat.not_lt_zero j),?_⟩ ?_
 · simp only [bG,keepR,reduceAdd,kS,Nat.reduceBEq,List.map_nil]
   rfl
 rintro m S ⟨i,him,hbf,rfl⟩
 rcases Nat.lt_or_ge i l.length with h | h
 rotate_left 1
 · have hlt:((i:Int)<(l.length:Int))=False:=eq_false (by omega)
   have hall:(l.all fun a=>kX a n)=true:=List.all_eq_true.2 fun x hx=>by
    obtain ⟨j,hj⟩:=List.mem_iff_getElem?.1 hx
    exact hbf j x (by have:=(List.getElem?_eq_some_iff.1 hj).1;omega) hj
   simp(maxSteps:=400000)only[↓aW,aX,BEq.rfl,reduceIte,reduceCtorEq,Nat.reduceLT,reduceAdd,reduceSub,reduceMul,Nat.reduceBEq,reduceLeDiff,reduceToNat,reduceLE,hQ,hlt,hr,hall]
 have hlt:((i:Int)<(l.length:Int))=True:=eq_true (by omega)
 have zi:(0≤(i:Int))=True:=eq_true (by omega)
 have hgi:=List.getElem?_eq_getElem h
 have hao:=ha _ (List.getElem_mem h)
 have hmem:=List.getElem_mem h
 generalize l[i]=o at hgi hao hmem
 cases hh:kX o n
 · have hall:(l.all fun a=>kX a n)=false:=List.all_eq_false.2 ⟨o,hmem,by simp [hh]⟩
   simp(maxSteps:=400000)only[↓aW,aX,BEq.rfl,reduceIte,reduceCtorEq,Nat.reduceLT,reduceAdd,reduceSub,reduceMul,Nat.reduceBEq,reduceLeDiff,reduceToNat,reduceLE,hQ,hlt,zi,hgi,↓tT,hh,hr,hall]
   exact ⟨hao,hp,hs⟩
 · simp(maxSteps:=400000)only[↓aW,aX,BEq.rfl,reduceIte,reduceCtorEq,Nat.reduceLT,reduceAdd,reduceSub,reduceMul,Nat.reduceBEq,reduceLeDiff,reduceToNat,reduceLE,hQ,hlt,zi,hgi,↓tT,hh]
   refine ⟨hao,⟨hp,hs⟩,⟨by omega,by omega⟩,m-1,by omega,i+1,by omega,fun j y hj hy=>?_,rfl⟩
   rcases Nat.lt_or_ge j i with g | g
   · exact hbf j y g hy
   · have:j=i:=by omega
     subst this
     rw [hgi] at hy;cases hy
     exact hh
end Lp
namespace Lp
open Go Go.Proofs
theorem CR:aO Tryz.prog 45 41 [.tmp 4] (gen [] [(35,none)] [] Tryz.f45):=bg Tryz.func45 rfl (by kernel_rfl)
theorem Aw:aO Tryz.prog 25 43 [.tmp 4] (gen [] [(35,none)] [] Tryz.f25):=bg Tryz.func25 rfl (by kernel_rfl)
theorem Ay:aO Tryz.prog 71 74 [.tmp 4] (gen [] [(227,some (1,0))] [] Tryz.f71):=bg Tryz.func71 rfl (by kernel_rfl)
theorem rO:aO Tryz.prog 73 54 [.tmp 6] (gen [] [(391,none)] [] Tryz.f73):=bg Tryz.func73 rfl (by kernel_rfl)
theorem Az:aO Tryz.prog 48 87 [.tmp 2] (gen [] [(9,none)] [] Tryz.f48):=bg Tryz.func48 rfl (by kernel_rfl)
theorem AA:aO Tryz.prog 49 44 [.tmp 4] (gen [7] [(99,none)] [] Tryz.f49):=bg Tryz.func49 rfl (by kernel_rfl)
theorem AB:aO Tryz.prog 33 5 [.tmp 2] (gen [] [] [] Tryz.f33):=bg Tryz.func33 rfl (by kernel_rfl)
theorem CS:aO Tryz.prog 26 35 [.tmp 2] (gen [] [(9,some (1,0))] [] Tryz.f26):=bg Tryz.func26 rfl (by kernel_rfl)
theorem Ev:aO Tryz.prog 8 12 [.tmp 4] (gen [] [] [] Tryz.f8):=bg Tryz.func8 rfl (by kernel_rfl)
theorem CU:aO Tryz.prog 114 64 [.cell 6 42,.tmp 7] (gen [] [(71,none),(71,none)] [] Tryz.f114):=bg Tryz.func114 rfl (by kernel_rfl)
theorem yX:aO Tryz.prog 111 19 [.tmp 4] (gen [] [(100,none)] [] Tryz.f111):=bg Tryz.func111 rfl (by kernel_rfl)
theorem yY:aO Tryz.prog 87 60 [.cell 4 42,.tmp 5] (gen [] [] [] Tryz.f87):=bg Tryz.func87 rfl (by kernel_rfl)
theorem tX:aO Tryz.prog 60 98 [.tmp 2] (gen [14] [(25,some (1,1)),(521,none)] [] Tryz.f60):=bg Tryz.func60 rfl (by kernel_rfl)
theorem AJ:aO Tryz.prog 32 28 [.cell 4 42,.tmp 5] (gen [] [(211,none)] [] Tryz.f32):=bg Tryz.func32 rfl (by kernel_rfl)
theorem AL:aO Tryz.prog 20 47 [.tmp 2] (gen [9,28] [(57,none)] [11] Tryz.f20):=bg Tryz.func20 rfl (by kernel_rfl)
theorem AO:aO Tryz.prog 24 34 [.tmp 2] (gen [6] [(57,none)] [] Tryz.f24):=bg Tryz.func24 rfl (by kernel_rfl)
theorem Q_:aO Tryz.prog 82 19 [.tmp 4] (gen [] [(35,none)] [] Tryz.f82):=bg Tryz.func82 rfl (by kernel_rfl)
theorem Ra:aO Tryz.prog 81 28 [] (gen [] [(779,none)] [] Tryz.f81):=bg Tryz.func81 rfl (by kernel_rfl)
theorem XZ:aO Tryz.prog 54 4 [.tmp 2] (gen [] [] [] Tryz.f54):=bg Tryz.func54 rfl (by kernel_rfl)
theorem iW:aO Tryz.prog 55 8 [.tmp 2] (gen [5] [] [] Tryz.f55):=bg Tryz.func55 rfl (by kernel_rfl)
theorem Ui:aO Tryz.prog 30 24 [.tmp 2] (gen [] [(0,none)] [7] Tryz.f30):=bg Tryz.func30 rfl (by kernel_rfl)
theorem NY:aO Tryz.prog 52 35 [.tmp 4] (gen [] [(3670048,some (1,1))] [] Tryz.f52):=bg Tryz.func52 rfl (by kernel_rfl)
theorem I8:aO Tryz.prog 28 10 [.tmp 2] (gen [] [] [] Tryz.f28):=bg Tryz.func28 rfl (by kernel_rfl)
theorem aah:aO Tryz.prog 11 81 [.tmp 2] (gen [] [(61572651155681,none)] [21] Tryz.f11):=bg Tryz.func11 rfl (by kernel_rfl)
theorem Uj:aO Tryz.prog 14 20 [.tmp 4] (gen [] [(6240,none)] [] Tryz.f14):=bg Tryz.func14 rfl (by kernel_rfl)
theorem AP:aO Tryz.prog 9 44 [.tmp 0] (gen [] [] [] Tryz.f9):=bg Tryz.func9 rfl (by kernel_rfl)
end Lp
namespace Lp
open Go
open List (cons_append drop_eq_getElem_cons flatten_cons length_drop length_take nil_append)
namespace Y
theorem qz (L:Nat) (v:aY):iA L v 0=some 0:=by cases v <;> rfl
theorem M6 (L:Nat):∀ (v:aY) (k c i:Nat),iA L v k=some c→i<c→∃ k' c',iA L (v.drop i) (k'+1)=some c'
 | v,0,c,i,h,hi=>by rw [qz] at h;cases h;omega
 | [],k+1,c,i,h,hi=>by simp [iA] at h
 | n::v,k+1,c,0,h,hi=>⟨k,c,by simpa using h⟩
 | n::v,k+1,c,i+1,h,hi=>by
  rw [iA] at h
  split at h
  · cases h
  · cases hs:iA L v (k+n.many.toNat) with
    | none=>rw [hs] at h;simp at h
    | some c'=>
     rw [hs] at h
     simp only [Option.map_some,Option.some.injEq] at h
     simpa using M6 L v _ c' i hs (by omega)
theorem tH (L:Nat):∀ (v:aY) (j k c:Nat),iA L v (j+k)=some c→∃ c1 c2,iA L v j=some c1∧iA L (v.drop c1) k=some c2∧c=c1+c2
 | v,0,k,c,h=>⟨0,c,qz L v,by simpa using h,by simp⟩
 | [],j+1,k,c,h=>by
  rw [show j+1+k=(j+k)+1 by omega] at h
  simp [iA] at h
 | n::v,j+1,k,c,h=>by
  rw [show j+1+k=(j+k)+1 by omega,iA] at h
  split at h
  · cases h
  · rename_i hn
    cases hs:iA L v (j+k+n.many.toNat) with
    | none=>rw [hs] at h;simp at h
    | some c'=>
     rw [hs] at h
     simp only [Option.map_some,Option.some.injEq] at h
     rw [show j+k+n.many.toNat=(j+n.many.toNat)+k by omega] at hs
     obtain ⟨c1,c2,h1,h2,rfl⟩:=tH L v _ k c' hs
     refine ⟨c1+1,c2,?_,by simpa using h2,by omega⟩
     rw [iA,if_neg hn,h1];rfl
theorem mP (L:Nat):∀ (v:aY) (k c:Nat),skip v k=some c→c≤L→iA L v k=some c
 | v,0,c,h,_=>by cases v <;> simpa [iA,skip] using h
 | [],k+1,c,h,_=>by simp [skip] at h
 | n::v,k+1,c,h,hc=>by
  obtain ⟨hm,c',rfl,h'⟩:=dx h
  have:=dR _ _ _ h'
  rw [iA,if_neg (by omega),mP L v _ c' h' (by omega)];rfl
def qD (t:aY) (i:Nat):aY:=match skip (t.drop i) 1 with | some c=>(t.drop i).take c | none=>[]
theorem vw {t:aY}{i:Nat}{x:fE}(ho:One t) (hx:t[i]?=some x):∃ ps c,0≤x.many∧x.many≤t.length∧parts x.many.toNat (t.drop (i+1))=some ps∧skip (t.drop (i+1)) x.many.toNat=some c∧ps.flatten=(t.drop (i+1)).take c∧(∀ p ∈ ps,One p)∧
  qD t i=x::ps.flatten∧i+1+c≤t.length:=by
 obtain ⟨hi,rfl⟩:=List.getElem?_eq_some_iff.1 hx
 obtain ⟨c,hc⟩:=ho.at hi
 have hc0:=hc
 rw [drop_eq_getElem_cons hi] at hc
 obtain ⟨hm,c',rfl,h'⟩:=dx (k:=0) hc
 rw [Nat.zero_add] at h'
 obtain ⟨ps,h1,h2,h3⟩:=eY _ _ _ h'
 have hl:=dR _ _ _ h'
 rw [length_drop] at hl
 refine ⟨ps,c',hm,by omega,h1,h',h2,h3,?_,by omega⟩
 unfold qD
 rw [hc0]
 simp only
 rw [drop_eq_getElem_cons hi,List.take_succ_cons,h2]
end Y
def mY (x:fE):Option (List UInt8)→List aY→Bool
 | _,[]=>true
 | prev,p::ps=>Dv x p && (x.kind !=2 || (match prev with | none=>true | some a=>Op.bytesLess a (Y.nameOf p))) && mY x (some (Y.nameOf p)) ps
theorem Rb (x:fE):∀ (ps:List aY) (prev:Option (List UInt8)),mY x prev ps=(ps.all (Dv x) && (x.kind !=2 || Bj ((match prev with | none=>[] | some a=>[a])++ps.map Y.nameOf)))
 | [],prev=>by cases prev <;> simp [mY,Bj]
 | p::ps,prev=>by
  have ih:=Rb x ps (some (Y.nameOf p))
  simp only [mY,ih,List.all_cons,List.map_cons]
  cases prev with
  | none=>
   simp only [nil_append,cons_append]
   cases Dv x p <;> cases ps.all (Dv x) <;> cases (x.kind !=2) <;> simp
  | some a=>
   simp only [nil_append,cons_append]
   rw [Bj]
   cases Dv x p <;> cases ps.all (Dv x) <;> cases (x.kind !=2) <;> simp
theorem X0 (x:fE) (ps:List aY):mY x none ps=Bl x ps:=by
 rw [Rb];rfl
def AQ (t:aY) (i:Nat):Bool:=match t.drop i with
 | n::r=>(match Y.parts n.many.toNat r with | some ps=>Bl n ps | none=>false)
 | []=>true
def lg (t:aY) (i:Nat):Bool:=match t.drop i with
 | n::r=>(match Y.parts n.many.toNat r with | some ps=>GJ dF n ps | none=>false)
 | []=>true
theorem Uk {t:aY}{i:Nat}{n:fE}(hi:t[i]?=some n):Y.fM (rR bC dF) (t.drop i)=(dh bC n && AQ t i && lg t i && Y.fM (rR bC dF) (t.drop (i+1))):=by
 have hl:=(List.getElem?_eq_some_iff.1 hi).1
 have hd:=drop_eq_getElem_cons hl
 rw [List.getElem?_eq_getElem hl] at hi
 cases hi
 simp only [AQ,lg,hd,Y.fM]
 cases Y.parts (t[i]).many.toNat (t.drop (i+1)) with
 | none=>simp
 | some ps=>simp [rR]
def jW (t:aY) (i:Nat) (p:List Stp):Int:=match lC p (Y.qD t i) with
 | some j=>(i+j:Nat)
 | none=>-1
theorem I9:∀ (p:List Stp) (t:aY) (j:Nat),Y.One t→lC p t=some j→j<t.length
 | [],t,j,ho,h=>by
  simp only [lC,Option.some.injEq] at h
  subst h
  exact List.length_pos_iff.2 ho.ne
 | s::p,[],j,ho,_=>absurd rfl ho.ne
 | s::p,x::r,j,ho,h=>by
  obtain ⟨hm,ps,h1,h2,h3⟩:=ho.parts
  have hp:Y.partsOf x r=ps:=by simp [Y.partsOf,h1]
  simp only [lC,hp] at h
  split at h
  · cases hf:q9 s.name 1 ps with
    | none=>rw [hf] at h;cases h
    | some oq=>
     obtain ⟨o,q⟩:=oq
     rw [hf] at h
     simp only [Option.map_eq_some_iff] at h
     obtain ⟨k,hk,rfl⟩:=h
     have gen:∀ (qs:List aY) (o0:Nat),q9 s.name o0 qs=some (o,q)→q ∈ qs∧o+q.length≤o0+qs.flatten.length:=by
      intro qs
      induction qs with
      | nil=>intro o0 h;simp [q9] at h
      | cons a t ih=>
       intro o0 h
       simp only [q9] at h
       split at h
       · simp only [Option.some.injEq,Prod.mk.injEq] at h
         obtain ⟨rfl,rfl⟩:=h
         exact ⟨List.mem_cons_self ..,by simp only [flatten_cons,List.length_append];omega⟩
       · obtain ⟨g1,g2⟩:=ih _ h
         exact ⟨List.mem_cons_of_mem _ g1,by simp only [flatten_cons,List.length_append];omega⟩
     obtain ⟨g1,g2⟩:=gen ps 1 hf
     have:=I9 p q k (h3 q g1) hk
     rw [h2] at g2
     simp only [List.length_cons]
     omega
  · cases h
theorem aai {t:aY}{i:Nat}{p:List Stp}(ho:Y.One t) (hi:i<t.length):jW t i p<t.length∧(0≤jW t i p∨jW t i p=-1):=by
 unfold jW
 cases h:lC p (Y.qD t i) with
 | none=>
  show (-1:Int)<t.length∧(0≤(-1:Int)∨(-1:Int)=-1)
  exact ⟨by omega,.inr rfl⟩
 | some j=>
  obtain ⟨ps,c,_,_,_,_,h5,h6,h7,h8⟩:=Y.vw ho (List.getElem?_eq_getElem hi)
  have hs:(Y.qD t i).length=1+c:=by
   rw [h7,List.length_cons,h5,length_take,length_drop];omega
  have hone:Y.One (Y.qD t i):=by
   rw [h7]
   exact Y.One.made (by
    have:=Y.bB _ _ _ ‹Y.parts _ _=some ps›
    omega) h6
  have:=I9 p _ j hone h
  simp only
  omega
theorem abu {t:aY}{i j:Nat}(ho:Y.One t) (hi:i<t.length) (hj:j<(Y.qD t i).length):(Y.qD t i)[j]?=t[i+j]?:=by
 obtain ⟨ps,c,_,_,_,_,h5,h6,h7,h8⟩:=Y.vw ho (List.getElem?_eq_getElem hi)
 have e:Y.qD t i=(t.drop i).take (c+1):=by rw [h7,h5,drop_eq_getElem_cons hi,List.take_succ_cons]
 rw [e] at hj ⊢
 rw [length_take,length_drop] at hj
 rw [List.getElem?_take,if_pos (by omega),List.getElem?_drop]
theorem sub_one {t:aY}{i:Nat}(ho:Y.One t) (hi:i<t.length):Y.One (Y.qD t i):=by
 obtain ⟨ps,c,_,_,h3,_,h5,h6,h7,h8⟩:=Y.vw ho (List.getElem?_eq_getElem hi)
 rw [h7]
 exact Y.One.made (by have:=Y.bB _ _ _ h3;omega) h6
theorem aaj {t:aY}{i:Nat}{p:List Stp}(ho:Y.One t) (hi:i<t.length):(Ve p (Y.qD t i)).isSome=true↔0≤jW t i p∧∃ x,t[(jW t i p).toNat]?=some x∧x.kind=1:=by
 unfold Ve jW
 cases h:lC p (Y.qD t i) with
 | none=>simp
 | some j=>
  have hj:=I9 p _ j (sub_one ho hi) h
  have hr:=abu ho hi hj
  simp only [Int.toNat_natCast]
  rw [hr]
  constructor
  · intro hs
    split at hs
    · rename_i hk
      cases hx:t[i+j]? with
      | none=>rw [hx] at hk;simp at hk
      | some x=>rw [hx] at hk;exact ⟨by omega,x,rfl,by simpa using hk⟩
    · cases hs
  · rintro ⟨_,x,hx,hk⟩
    rw [hx,Option.map_some,hk]
    rfl
def gu (t:aY):Bool:=!t.isEmpty && Y.nameOf t==[] && Y.kindOf t !=9 && (Y.iA t.length t 1==some t.length) && Y.fM (rR bC dF) t
def qE (t:aY):Bool:=gu t && Y.fM rT t
theorem LF {t:aY}(h:gu t=true):Dw bC dF t:=by
 simp only [gu,Bool.and_eq_true,beq_iff_eq,bne_iff_ne] at h
 obtain ⟨⟨⟨⟨_,h1⟩,h2⟩,h3⟩,h4⟩:=h
 exact ⟨Y.ol _ _ _ _ h3,h1,h2,(Y.kI t).1 h4⟩
theorem X3 {pk:List UInt8→Bool}{Ba:List UInt8→List Stp}{n:fE}{ps:List aY}(hk:n.kind=1) (aak:Bl n ps=true) (ho:∀ p ∈ ps,Y.One p) (hg:∀ p ∈ ps,Y.Good (rR pk Ba) p) :
  ps.flatten.length=ps.length∧∀ x ∈ ps.flatten,kW (iH x)=true∧x.kind=9∧x.s=[]∧x.many=0:=by
 have hone:∀ p ∈ ps,∃ x,p=[x]∧x.kind=9∧x.s=[]∧x.many=0∧kW (iH x)=true:=fun p hp=>by
  refine KX (ho p hp) (hg p hp) ?_
  simp only [Bl,Bool.and_eq_true,List.all_eq_true] at aak
  have:=aak.1 p hp
  simp only [Dv,Bool.and_eq_true,hk] at this
  have h9:=this.1.1
  simpa using h9
 clear aak ho hg
 induction ps with
 | nil=>exact ⟨rfl,fun x hx=>by cases hx⟩
 | cons q qs ih=>
  obtain ⟨i1,i2⟩:=ih fun p hp=>hone p (List.mem_cons_of_mem _ hp)
  obtain ⟨x,rfl,x1,x2,x3,x4⟩:=hone q (List.mem_cons_self ..)
  refine ⟨by simp [i1],fun y hy=>?_⟩
  simp only [flatten_cons,cons_append,nil_append,List.mem_cons] at hy
  rcases hy with rfl | hy
  · exact ⟨x4,x1,x2,x3⟩
  · exact i2 y hy
theorem VW {t:aY}{i:Nat}{n:fE}(hr:Dw bC dF t) (hn:t[i]?=some n) (hk:n.kind=1) :
  ∃ ps,Y.parts n.many.toNat (t.drop (i+1))=some ps∧ps.flatten=(t.drop (i+1)).take n.many.toNat∧0≤n.many∧i+1+n.many.toNat≤t.length∧1≤n.n∧n.n≤31∧∀ x ∈ ps.flatten,kW (iH x)=true:=by
 obtain ⟨hi,rfl⟩:=List.getElem?_eq_some_iff.1 hn
 obtain ⟨ps,c,h1,h2,h3,h4,h5,h6,h7,h8⟩:=Y.vw hr.one (List.getElem?_eq_getElem hi)
 obtain ⟨qs,q1,q2⟩:=hr.good i t[i] (t.drop (i+1)) (drop_eq_getElem_cons hi)
 rw [h3] at q1;cases q1
 simp only [rR,Bool.and_eq_true] at q2
 have hgs:Y.Good (rR bC dF) ps.flatten:=by
  have hg0:=hr.good
  rw [← List.take_append_drop (i+1) t] at hg0
  have hg1:=hg0.suf
  rw [← List.take_append_drop c (t.drop (i+1)),← h5] at hg1
  have hone:Y.skip ps.flatten ps.length=some ps.flatten.length:=Y.kH ps h6
  intro j m s hd
  obtain ⟨qs,e1,e2⟩:=hg1 j m (s++(t.drop (i+1)).drop c) (Y.wh hd)
  have hj:j<ps.flatten.length:=by
   rcases Nat.lt_or_ge j ps.flatten.length with h | h
   · exact h
   · rw [List.drop_eq_nil_of_le h] at hd;cases hd
  obtain ⟨k',c',hk'⟩:=Y.pI ps.flatten ps.length _ j hone hj
  rw [hd] at hk'
  obtain ⟨_,c2,rfl,hk2⟩:=Y.dx hk'
  obtain ⟨ca,cb,hka,_,_⟩:=Y.om _ m.many.toNat k' c2 (by rw [Nat.add_comm];exact hk2)
  obtain ⟨rs,r1,_,_⟩:=Y.eY _ _ _ hka
  have:=Y.iG _ _ ((t.drop (i+1)).drop c) _ r1
  rw [e1] at this;cases this
  exact ⟨qs,r1,e2⟩
 obtain ⟨a1,a2⟩:=X3 hk q2.1.2 h6 (Y.Good.j4 ps h6 hgs)
 have hpl:=Y.bB _ _ _ h3
 have hcl:ps.flatten.length=c:=by rw [h5,length_take,length_drop];omega
 have hc:c=(t[i]).many.toNat:=by omega
 have hp:=q2.1.1
 simp only [dh,hk,Int.reduceEq,if_false,if_true,Bool.and_eq_true,decide_eq_true_eq] at hp
 exact ⟨ps,h3,by rw [h5,hc],h1,by omega,hp.1.1.1.2,hp.1.1.2,fun x hx=>(a2 x hx).1⟩
def yE (t:aY) (i:Nat):Bool:=match t.drop i with
 | n::r=>(match Y.parts n.many.toNat r with | some ps=>rT n ps | none=>false)
 | []=>true
theorem Ul {t:aY}{i:Nat}{n:fE}(hi:t[i]?=some n):Y.fM rT (t.drop i)=(yE t i && Y.fM rT (t.drop (i+1))):=by
 have hl:=(List.getElem?_eq_some_iff.1 hi).1
 have hd:=drop_eq_getElem_cons hl
 rw [List.getElem?_eq_getElem hl] at hi
 cases hi
 simp only [yE,hd,Y.fM]
 rfl
end Lp
namespace Lp
open Go Go.Proofs
def qF (v:aY) (i:Nat):Int:=match Y.iA v.length (v.drop i) 1 with
 | some c=>(i+c:Nat)
 | none=>-1
theorem AR {v:aY}{i:Nat}(h:(Y.iA v.length (v.drop i) 1).map (fun c=>i+c)=none):qF v i=-1:=by
 unfold qF
 cases hx:Y.iA v.length (v.drop i) 1 with
 | none=>rfl
 | some c=>rw [hx] at h;simp at h
theorem I_ {v:aY}{i j:Nat}(h:(Y.iA v.length (v.drop i) 1).map (fun c=>i+c)=some j):qF v i=j:=by
 unfold qF
 cases hx:Y.iA v.length (v.drop i) 1 with
 | none=>rw [hx] at h;simp at h
 | some c=>rw [hx] at h;simp only [Option.map_some,Option.some.injEq] at h;rw [← h]
theorem LG (L:Nat) (v:aY):Y.iA L v 0=some 0:=by cases v <;> rfl
theorem Um (v:aY) (i:Nat) (hi:i≤v.length) (hl:v.length≤1000000):ai Tryz.prog 45 [aG v,.int .i64 i] [] (.int .i64 (qF v i)) []:=by
 refine CR.a_ (T:=aP Tryz.prog []) 0 hD (aj ah) aU (by decide) fun Q hQ=>?_
 (conv=>arg 4;cbv);simp(maxSteps:=400000)only[↓au,av,BEq.rfl,reduceIte,reduceCtorEq,Nat.reduceLT,Nat.reduceAdd,Nat.reduceSub,Nat.reduceMul,Nat.reduceBEq,Nat.reduceLeDiff,Int.reduceToNat,Int.reduceLE,hQ]
 refine aF (fun m S=>∃ j k:Nat,j+m=v.length∧k≤1+j*1000000∧(Y.iA v.length (v.drop i) 1).map (fun c=>i+c)=(Y.iA v.length (v.drop j) k).map (fun c=>j+c)∧
  S=⟨dz 41 [(0,aG v),(1,.int .i64 j),(5,.int .i64 k)],[]⟩) (v.length-i) ⟨i,1,by omega,by omega,rfl,?_⟩ ?_
 · simp only [bG,keepR,Nat.reduceAdd,kS,Nat.reduceBEq,List.map_nil]
   rfl
 rintro m S ⟨j,k,hjm,hk,hn,rfl⟩
 rcases Nat.lt_or_ge j v.length with h | h
 · have hg:=List.getElem?_eq_getElem h
   have hd:=List.drop_eq_getElem_cons h
   generalize v[j]=n at hg hd
   simp(maxSteps:=400000)only[↓au,av,BEq.rfl,reduceIte,reduceCtorEq,Nat.reduceLT,Nat.reduceAdd,Nat.reduceSub,Nat.reduceMul,Nat.reduceBEq,Nat.reduceLeDiff,Int.reduceToNat,Int.reduceLE,hQ,hg]
   refine ⟨fun hk0=>⟨fun h'=>absurd h' (by omega),fun _=>⟨by omega,fun hm=>?_,fun hm=>⟨by omega,fun hm2=>?_,fun hm2=>?_⟩⟩⟩,fun hk0=>?_⟩
   · obtain ⟨k,rfl⟩:∃ q,k=q+1:=⟨k-1,by omega⟩
     rw [hd,Y.iA,if_pos (.inl hm)] at hn
     rw [AR hn]
   · obtain ⟨k,rfl⟩:∃ q,k=q+1:=⟨k-1,by omega⟩
     rw [hd,Y.iA,if_pos (.inr hm2)] at hn
     rw [AR hn]
   · obtain ⟨k,rfl⟩:∃ q,k=q+1:=⟨k-1,by omega⟩
     rw [hd,Y.iA,if_neg (by omega)] at hn
     have hk2:(((k+1:Nat):Int)-1+n.many)=((k+n.many.toNat:Nat):Int):=by omega
     refine ⟨⟨by omega,by omega⟩,by omega,⟨by omega,by omega⟩,⟨by omega,by omega⟩,m-1,by omega,j+1,k+n.many.toNat,by omega,by omega,?_,?_⟩
     · rw [hn]
       cases Y.iA v.length (v.drop (j+1)) (k+n.many.toNat) with
       | none=>rfl
       | some c=>simp;omega
     · rw [hk2];rfl
   · have hk1:k=0:=by omega
     subst hk1
     rw [LG] at hn
     rw [I_ (j:=j) (by simpa using hn)]
 · simp(maxSteps:=400000)only[↓au,av,BEq.rfl,reduceIte,reduceCtorEq,Nat.reduceLT,Nat.reduceAdd,Nat.reduceSub,Nat.reduceMul,Nat.reduceBEq,Nat.reduceLeDiff,Int.reduceToNat,Int.reduceLE,hQ]
   refine ⟨fun hk0=>⟨fun _=>?_,fun h'=>absurd (by omega) h'⟩,fun hk0=>?_⟩
   · obtain ⟨k,rfl⟩:∃ q,k=q+1:=⟨k-1,by omega⟩
     rw [List.drop_eq_nil_of_le h] at hn
     simp only [Y.iA,Option.map_none] at hn
     rw [AR hn]
   · have hk1:k=0:=by omega
     subst hk1
     rw [LG] at hn
     rw [I_ (j:=j) (by simpa using hn)]
theorem Rc (v:aY) (i:Int) (h0:0≤i) (hi:i.toNat≤v.length) (hl:v.length≤1000000):ai Tryz.prog 45 [aG v,.int .i64 i] [] (.int .i64 (qF v i.toNat)) []:=by
 have e:i=(i.toNat:Int):=by omega
 rw [e]
 exact Um v i.toNat hi hl
def fw:dJ:=fun args objs K=>match args with
 | [a0,.int .i64 i]=>fU aG a0 (HK.mk:HK fun v=>(0≤i)∧(i.toNat≤v.length)∧(v.length≤1000000)∧K (.int .i64 (qF v i.toNat)) objs 0)
 | _=>False
theorem mZ:aD Tryz.prog 45 (fw):=by
 intro args objs K h
 unfold fw at h
 split at h
 · rename_i a0 i
   obtain ⟨v,rfl,h1,h2,h3,hk⟩:=h
   exact ⟨_,_,_,.pure _ rfl (Rc v i h1 h2 h3),hk⟩
 · exact h.elim
theorem xB {t:aY}{i c:Nat}(h:Y.iA t.length (t.drop i) 1=some c):qF t i=(i+c:Nat):=by
 simp only [qF,h]
theorem tY (objs:List Obj) (K:KT) :
  (∀ k m nm,bK D 44 [(0,.int .i64 k),(1,.int .i64 m),(2,.str nm)] objs K=K (bH ⟨k,m,nm,[],0,aV⟩) objs 0)∧
  (∀ k n m,bK D 44 [(0,.int .i64 k),(4,.int .i64 n),(1,.int .i64 m)] objs K=K (bH ⟨k,m,[],[],n,aV⟩) objs 0)∧
  (∀ k n c,bK D 44 [(0,.int .i64 k),(4,.int .i64 n),(5,aA c)] objs K=K (bH ⟨k,0,[],[],n,c⟩) objs 0)∧
  (∀ k n,bK D 44 [(0,.int .i64 k),(4,.int .i64 n)] objs K=K (bH ⟨k,0,[],[],n,aV⟩) objs 0)∧
  (∀ k,bK D 44 [(0,.int .i64 k)] objs K=K (bH ⟨k,0,[],[],0,aV⟩) objs 0)∧
  (bK D 44 [] objs K=K (bH ⟨0,0,[],[],0,aV⟩) objs 0):=by
 have z:aM (D 44)=bH ⟨0,0,[],[],0,aV⟩:=by kernel_rfl
 have a:(D 44).agg=true:=by kernel_rfl
 simp only [bY] at z a
 refine ⟨fun k m nm=>?_,fun k n m=>?_,fun k n c=>?_,fun k n=>?_,fun k=>?_,?_⟩
 all_goals
  simp [bK,nN,a,z,bY,oH,bH,aA,aV,PV.isAgg,uK,PV.cells,PV.storable,PV.nD,PV.pure]
theorem iN:PV.wz (.agg ⟨[.int .i64 0,.int .i64 0,.string ⟨⟨[]⟩⟩,.string ⟨⟨[]⟩⟩,.int .i64 0,.int .i64 0,.int .i64 0,.string ⟨⟨[]⟩⟩,.string ⟨⟨[]⟩⟩,.bool false,.int .i64 0]⟩)=bH ⟨0,0,[],[],0,aV⟩:=rfl
theorem atB (objs:List Obj) (K:KT):(∀ n c,bK D 87 [(0,.int .i64 n),(1,aA c)] objs K=K (dU ⟨n,c⟩) objs 0):=by
 have z:aM (D 87)=dU ⟨0,aV⟩:=by kernel_rfl
 have a:(D 87).agg=true:=by kernel_rfl
 simp only [bY] at z a
 intro n c
 simp [bK,nN,a,z,bY,oH,dU,aA,aV,PV.isAgg,uK,PV.cells,PV.storable,PV.nD,PV.pure]
theorem iT (a:fE) (k m:Int) (nm s:List UInt8) (n ck cm:Int) (cn cs:List UInt8) (cg:Bool) (ce:Int):(bH a).putCells 0 [.int .i64 k,.int .i64 m,.str nm,.str s,.int .i64 n,.int .i64 ck,.int .i64 cm,.str cn,.str cs,.bool cg,.int .i64 ce]=bH ⟨k,m,nm,s,n,⟨ck,cm,cn,cs,cg,ce⟩⟩:=rfl
theorem AU:(∀ x:fE,PV.agg [.int .i64 x.kind,.int .i64 x.many,.str x.name,.str x.s,.int .i64 x.n,.int .i64 x.c.kind,.int .i64 x.c.many,.str x.c.name,.str x.c.s,.bool x.c.neg,.int .i64 x.c.e]=bH x)∧
  (∀ (x:fE) nm,PV.agg [.int .i64 x.kind,.int .i64 x.many,.str nm,.str x.s,.int .i64 x.n,.int .i64 x.c.kind,.int .i64 x.c.many,.str x.c.name,.str x.c.s,.bool x.c.neg,.int .i64 x.c.e]=bH { x with name:=nm }):=⟨fun _=>rfl,fun _ _=>rfl⟩
theorem bT (n:Nd):Nd.mk n.kind n.many n.name n.s n.neg n.e=n:=rfl
theorem eF (x:fE):fE.mk x.kind x.many x.name x.s x.n x.c=x:=rfl
theorem adl:PV.wz (.agg ⟨[.int .i64 0,.int .i64 0,.int .i64 0,.string ⟨⟨[]⟩⟩,.string ⟨⟨[]⟩⟩,.bool false,.int .i64 0]⟩)=dU ⟨0,aV⟩:=rfl
theorem NZ (v:List lQ) (ver:Nat) (t:TypeId) (rest:List Obj):fC 1 0 (⟨t,7,v.map dU,true,ver⟩::rest) (.bA 0 ver)=bW v:=by
 have:(v.map dU).map (PV.bL (gF 0 0 (⟨t,7,v.map dU,true,ver⟩::rest)))=v.map dU:=by
  rw [List.map_map];exact List.map_congr_left fun x _=>rfl
 simp only [fC,Nat.not_lt_zero,if_false,gF,List.getElem?_cons_zero,Nat.le_refl,decide_true,Bool.true_and,beq_self_eq_true,if_true,this]
 rfl
theorem Un:∀ d X v,fC d 1 X (.bA 0 v)=.bA 0 v:=fun _ _ _=>rfl
end Lp
namespace Lp
open Go Go.Proofs
section
variable {P:Program}
theorem Rf {w:World}{d:Nat}{ok:Nat→Prop}{xs ys:Array Value}{gs:List Field}{r2:Bool}(hg:(Op.eqFields (d+1) xs ys gs).run P w=.ok r2 w):∀ (fs:List Field) (k:Nat) (aa bs:List PV) (r:Bool),wS P k fs aa bs=true→Dp aa bs=some r→
  (∀ i p,aa[i]?=some p→∃ v,xs[k+i]?=some v∧dN w ok p v)→(∀ i p,bs[i]?=some p→∃ v,ys[k+i]?=some v∧dN w ok p v)→
  (Op.eqFields (d+1) xs ys (fs++gs)).run P w=.ok (r && r2) w
 | [],k,aa,bs,r,hf,he,_,_=>by
  cases aa <;> cases bs <;> simp [wS] at hf
  simp only [Dp,Option.some.injEq] at he
  subst he
  simpa using hg
 | f::fs,k,aa,bs,r,hf,he,ha,hb=>by
  cases aa with
  | nil=>cases bs <;> simp [wS] at hf
  | cons p aa=>
   cases bs with
   | nil=>simp [wS] at hf
   | cons q bs=>
    simp only [wS,Bool.and_eq_true,beq_iff_eq,bne_iff_ne] at hf
    obtain ⟨⟨⟨hn,ho⟩,ht⟩,hr⟩:=hf
    obtain ⟨v,hv,rv⟩:=ha 0 p rfl
    obtain ⟨u,hu,ru⟩:=hb 0 q rfl
    obtain ⟨b,hb1,hb2,e,he1,he2⟩:=Zt (d:=d) ht rv ru
    simp only [Dp,hb1] at he
    cases hq:Dp aa bs with
    | none=>rw [hq] at he;simp at he
    | some r'=>
     rw [hq] at he
     simp only [Option.some.injEq] at he
     subst he
     have ih:=Rf (w:=w) (d:=d) (ok:=ok) (xs:=xs) (ys:=ys) hg fs (k+1) aa bs r' hr hq (fun i p h=>by have:=ha (i+1) p (by simpa using h);rwa [show k+(i+1)=k+1+i by omega] at this) (fun i p h=>by have:=hb (i+1) p (by simpa using h);rwa [show k+(i+1)=k+1+i by omega] at this)
     have p1:=BZ (w:=w) (xs:=xs) (o:=f.offset) he1 he2 (by rw [ho];simpa using hv)
     have p2:=BZ (w:=w) (xs:=ys) (o:=f.offset) he1 he2 (by rw [ho];simpa using hu)
     simp only [List.cons_append,Op.eqFields,ne_eq,hn,not_false_eq_true,if_true,Sem.run_bind,p1,Result.andThen_ok,p2,hb2]
     cases b
     · simp
     · simpa using ih
theorem VX:∀ {a1 b1 a2 b2:List PV}{r:Bool},a1.length=b1.length→Dp (a1++a2) (b1++b2)=some r→∃ r1 r2,Dp a1 b1=some r1∧Dp a2 b2=some r2∧r=(r1 && r2)
 | [],[],a2,b2,r,_,h=>⟨true,r,rfl,h,by simp⟩
 | [],_::_,_,_,_,hl,_=>by simp at hl
 | _::_,[],_,_,_,hl,_=>by simp at hl
 | p::a1,q::b1,a2,b2,r,hl,h=>by
  simp only [List.cons_append,Dp] at h
  cases hs:eqS p q with
  | none=>rw [hs] at h;simp at h
  | some x=>
   cases ht:Dp (a1++a2) (b1++b2) with
   | none=>rw [hs,ht] at h;simp at h
   | some y=>
    rw [hs,ht] at h
    simp only [Option.some.injEq] at h
    obtain ⟨r1,r2,h1,h2,rfl⟩:=VX (by simpa using hl) ht
    refine ⟨x && r1,r2,by simp [Dp,hs,h1],h2,?_⟩
    rw [← h,Bool.and_assoc]
theorem X4 {t:TypeId}{fs:List Field}{g:Field}{a1 a2 b1 b2:List PV}(hgd:P.eqGuardType P.depth t=false) (ht:P.underlying t=some (.struct (P.fieldsOf t))) (hp:P.stoodInHeld t=false)
  (hfs:(P.fieldsOf t).toList=fs++[g]) (hf:wS P 0 fs a1 b1=true) (hn:g.name≠ "_") (ho:g.offset=a1.length) (hl1:a1.length=b1.length) (hl2:a2.length=b2.length)
  (hu:P.underlying g.type=some (.struct (P.fieldsOf g.type))) (hp2:P.stoodInHeld g.type=false) (hs:∀ w,(Go.sizeOf g.type).run P w=.ok a2.length w) (hf2:wS P 0 (P.fieldsOf g.type).toList a2 b2=true) :
  JD P t (a1++a2) (b1++b2):=by
 refine ⟨hgd,fun w ok vs us r hr h1 h2=>?_⟩
 obtain ⟨r1,r2,e1,e2,rfl⟩:=VX hl1 hr
 have e:Op.equal t (.agg ⟨vs⟩) (.agg ⟨us⟩)=Op.equalIn (9999+1) t (.agg ⟨vs⟩) (.agg ⟨us⟩):=rfl
 rw [e,run_equalIn_struct w 9999 t _ _ ht hp,hfs]
 have get:∀ {xs:List Value}{c1 c2:List PV},dw (dN w ok) (c1++c2) xs→(∀ i p,c1[i]?=some p→∃ v,(⟨xs⟩:Array Value)[0+i]?=some v∧dN w ok p v)∧(∀ i p,c2[i]?=some p→∃ v,(⟨xs⟩:Array Value)[c1.length+i]?=some v∧dN w ok p v):=by
  intro xs c1 c2 h
  have hlen:=h.1
  rw [List.length_append] at hlen
  constructor
  · intro i p hi
    have hlt:=(List.getElem?_eq_some_iff.1 hi).1
    have hv:xs[i]?=some (xs[i]'(by omega)):=List.getElem?_eq_getElem _
    exact ⟨_,by simpa using hv,h.2 i p _ (by rw [List.getElem?_append_left hlt];exact hi) hv⟩
  · intro i p hi
    have hlt:=(List.getElem?_eq_some_iff.1 hi).1
    have hv:xs[c1.length+i]?=some (xs[c1.length+i]'(by omega)):=List.getElem?_eq_getElem _
    exact ⟨_,by simpa using hv,h.2 _ p _ (by rw [List.getElem?_append_right (by omega)];simpa using hi) hv⟩
 obtain ⟨g1,g2⟩:=get h1
 obtain ⟨k1,k2⟩:=get h2
 refine Rf (d:=9998) (ok:=ok) ?_ fs 0 a1 b1 r1 hf e1 g1 k1
 have pt:∀ xs:Array Value,(part g.type xs g.offset).run P w=.ok (.agg (xs.extract g.offset (g.offset+a2.length))) w:=fun xs=>by
  simp [part,isAgg,run_underlying hu,hs]
 have ext:∀ {xs:Array Value}{c:List PV},c.length=a2.length→(∀ i p,c[i]?=some p→∃ v,xs[g.offset+i]?=some v∧dN w ok p v)→∀ i p,c[i]?=some p→∃ v,(xs.extract g.offset (g.offset+a2.length))[0+i]?=some v∧dN w ok p v:=by
  intro xs c hc h i p hi
  have hlt:=(List.getElem?_eq_some_iff.1 hi).1
  obtain ⟨v,q1,q2⟩:=h i p hi
  refine ⟨v,?_,q2⟩
  have hx:=(Array.getElem?_eq_some_iff.1 q1).1
  rw [Nat.zero_add,Array.getElem?_extract,if_pos (by omega)]
  exact q1
 have hin:=MX (d:=9997) (w:=w) (ok:=ok) (xs:=Array.extract ⟨vs⟩ g.offset (g.offset+a2.length)) (ys:=Array.extract ⟨us⟩ g.offset (g.offset+a2.length)) _ 0 a2 b2 r2 hf2 e2
  (ext rfl (by rw [ho];exact g2)) (ext hl2.symm (by rw [ho,hl1];exact k2))
 have hst:=run_equalIn_struct w 9998 g.type (Array.extract ⟨vs⟩ g.offset (g.offset+a2.length)) (Array.extract ⟨us⟩ g.offset (g.offset+a2.length)) hu hp2
 have hst':(Op.equalIn (9998+1) g.type (.agg (Array.extract ⟨vs⟩ g.offset (g.offset+a2.length))) (.agg (Array.extract ⟨us⟩ g.offset (g.offset+a2.length)))).run P w=.ok r2 w:=hst.trans hin
 simp only [Op.eqFields,ne_eq,hn,not_false_eq_true,if_true,Sem.run_bind,pt,Result.andThen_ok,hst']
 cases r2 <;> simp
end
theorem aew (a b:fE):JD Tryz.prog 44 (bH a).cells (bH b).cells:=by
 have h:(Tryz.prog.fieldsOf 44).toList.map (fun f=>(f.name != "_",f.offset,f.type))=[(true,0,3),(true,1,3),(true,2,9),(true,3,9),(true,4,3),(true,5,42)]:=by kernel_rfl
 generalize hfs:(Tryz.prog.fieldsOf 44).toList=fs at h
 obtain _ | ⟨f0,_ | ⟨f1,_ | ⟨f2,_ | ⟨f3,_ | ⟨f4,_ | ⟨f5,_ | ⟨f6,fr⟩⟩⟩⟩⟩⟩⟩:=fs
 all_goals simp only [List.map_cons,List.map_nil,List.cons.injEq,Prod.mk.injEq,and_true,reduceCtorEq,and_false] at h
 obtain ⟨⟨a0,b0,c0⟩,⟨a1,b1,c1⟩,⟨a2,b2,c2⟩,⟨a3,b3,c3⟩,⟨a4,b4,c4⟩,⟨a5,b5,c5⟩⟩:=h
 have u3:Tryz.prog.underlying 3=some (.int .i64):=by kernel_rfl
 have u9:Tryz.prog.underlying 9=some .string:=by kernel_rfl
 have hN:=Zu a.c b.c
 have key:=X4 (P:=Tryz.prog) (t:=44) (fs:=[f0,f1,f2,f3,f4]) (g:=f5) (a1:=[.int .i64 a.kind,.int .i64 a.many,.str a.name,.str a.s,.int .i64 a.n]) (b1:=[.int .i64 b.kind,.int .i64 b.many,.str b.name,.str b.s,.int .i64 b.n]) (a2:=(aA a.c).cells) (b2:=(aA b.c).cells)
  (by kernel_rfl) (by kernel_rfl) (by kernel_rfl) (by rw [hfs];rfl)
  (by simp only [wS,Xf,a0,b0,c0,a1,b1,c1,a2,b2,c2,a3,b3,c3,a4,b4,c4,u3,u9,Bool.and_true,BEq.rfl,decide_true,Nat.zero_add,Nat.reduceAdd])
  (by simpa using a5) (by rw [b5];rfl) rfl rfl (by rw [c5];kernel_rfl) (by rw [c5];kernel_rfl) (fun w=>by rw [c5];have h:=(hD 42).dP (by simp [bY]) w;simp only [bY] at h;exact h) (by
   rw [c5]
   have h:(Tryz.prog.fieldsOf 42).toList.map (fun f=>(f.name != "_",f.offset,Tryz.prog.underlying f.type))=[(true,0,some (.int .i64)),(true,1,some (.int .i64)),(true,2,some .string),(true,3,some .string),(true,4,some .bool),(true,5,some (.int .i64))]:=by kernel_rfl
   generalize (Tryz.prog.fieldsOf 42).toList=fs at h
   obtain _ | ⟨f0,_ | ⟨f1,_ | ⟨f2,_ | ⟨f3,_ | ⟨f4,_ | ⟨f5,_ | ⟨f6,fr⟩⟩⟩⟩⟩⟩⟩:=fs
   all_goals simp only [List.map_cons,List.map_nil,List.cons.injEq,Prod.mk.injEq,and_true,reduceCtorEq,and_false] at h
   obtain ⟨⟨a0,b0,c0⟩,⟨a1,b1,c1⟩,⟨a2,b2,c2⟩,⟨a3,b3,c3⟩,⟨a4,b4,c4⟩,⟨a5,b5,c5⟩⟩:=h
   simp only [wS,Xf,aA,PV.cells,a0,b0,c0,a1,b1,c1,a2,b2,c2,a3,b3,c3,a4,b4,c4,a5,b5,c5,Bool.and_true,BEq.rfl,decide_true,Nat.zero_add,Nat.reduceAdd])
 exact key
end Lp
namespace Lp
open Go Go.Proofs
open Nat (lt_or_ge reduceAdd reduceLeDiff reduceMul reduceSub)
open Int (reduceLE reduceToNat)
def jI (n:fE):Bool:=decide (n.s.length≤100) && decide (n.name.length≤100) && decide (n.c.s.length≤100)
theorem Uo (t:aY) (k:Nat) (hk:k≤1000000) (hl:t.length≤4611686018427387904) (htx:∀ n ∈ t,n.s.length≤4611686018427387904∧n.name.length≤4611686018427387904∧n.c.s.length≤4611686018427387904) :
  ai Tryz.prog 25 [aG t,.int .i64 k] [] (.bool (decide (t.length≤k) && t.all jI)) []:=by
 refine Aw.a_ (T:=aP Tryz.prog []) 0 hD (aj ah) aU (by decide) fun Q hQ=>?_
 (conv=>arg 4;cbv);simp(maxSteps:=400000)only[↓au,av,BEq.rfl,reduceIte,reduceCtorEq,Nat.reduceLT,reduceAdd,reduceSub,reduceMul,Nat.reduceBEq,reduceLeDiff,reduceToNat,reduceLE,hQ]
 refine aF (fun m S=>∃ i:Nat,i+m=t.length∧i≤k∧(∀ (j:Nat) x,j<i→t[j]?=some x→jI x=true)∧S=⟨dz 43 [(0,aG t),(1,.int .i64 k),(5,.int .i64 i)],[]⟩) t.length ⟨0,by omega,by omega,fun j x h=>absurd h (Nat.not_lt_zero j),?_⟩ ?_
 · simp only [bG,keepR,reduceAdd,kS,Nat.reduceBEq,List.map_nil]
   rfl
 rintro m S ⟨i,him,hik,hb,rfl⟩
 have zi:(0≤(i:Int))=True:=eq_true (by omega)
 rcases lt_or_ge i t.length with h | h
 · have hlt:((i:Int)<(t.length:Int))=True:=eq_true (by omega)
   have hgi:=List.getElem?_eq_getElem h
   have aff:=htx _ (List.getElem_mem h)
   generalize t[i]=x at hgi aff
   have no:jI x=false→(decide (t.length≤k) && t.all jI)=false:=fun hx=>by
    have:t.all jI=false:=by rw [List.all_eq_false];exact ⟨x,List.mem_of_getElem? hgi,by simp [hx]⟩
    simp [this]
   rcases lt_or_ge i k with g | g
   rotate_left 1
   · have hkl:((k:Int)≤(i:Int))=True:=eq_true (by omega)
     have hr:(decide (t.length≤k) && t.all jI)=false:=by
      have:decide (t.length≤k)=false:=decide_eq_false (by omega)
      simp [this]
     simp(maxSteps:=400000)only[↓au,av,BEq.rfl,reduceIte,reduceCtorEq,Nat.reduceLT,reduceAdd,reduceSub,reduceMul,Nat.reduceBEq,reduceLeDiff,reduceToNat,reduceLE,hQ,hlt,zi,hgi,hkl,hr]
   have hkl:((k:Int)≤(i:Int))=False:=eq_false (by omega)
   by_cases h1:x.s.length≤100
   rotate_left 1
   · have e1:((100:Int)<(x.s.length:Int))=True:=eq_true (by omega)
     have hr:=no (by simp [jI,h1])
     simp(maxSteps:=400000)only[↓au,av,BEq.rfl,reduceIte,reduceCtorEq,Nat.reduceLT,reduceAdd,reduceSub,reduceMul,Nat.reduceBEq,reduceLeDiff,reduceToNat,reduceLE,hQ,hlt,zi,hgi,hkl,e1,hr]
   have e1:((100:Int)<(x.s.length:Int))=False:=eq_false (by omega)
   by_cases h2:x.name.length≤100
   rotate_left 1
   · have e2:((100:Int)<(x.name.length:Int))=True:=eq_true (by omega)
     have hr:=no (by simp [jI,h2])
     simp(maxSteps:=400000)only[↓au,av,BEq.rfl,reduceIte,reduceCtorEq,Nat.reduceLT,reduceAdd,reduceSub,reduceMul,Nat.reduceBEq,reduceLeDiff,reduceToNat,reduceLE,hQ,hlt,zi,hgi,hkl,e1,e2,hr]
   have e2:((100:Int)<(x.name.length:Int))=False:=eq_false (by omega)
   by_cases h3:x.c.s.length≤100
   rotate_left 1
   · have e3:((100:Int)<(x.c.s.length:Int))=True:=eq_true (by omega)
     have hr:=no (by simp [jI,h3])
     simp(maxSteps:=400000)only[↓au,av,BEq.rfl,reduceIte,reduceCtorEq,Nat.reduceLT,reduceAdd,reduceSub,reduceMul,Nat.reduceBEq,reduceLeDiff,reduceToNat,reduceLE,hQ,hlt,zi,hgi,hkl,e1,e2,e3,hr]
   have e3:((100:Int)<(x.c.s.length:Int))=False:=eq_false (by omega)
   simp(maxSteps:=400000)only[↓au,av,BEq.rfl,reduceIte,reduceCtorEq,Nat.reduceLT,reduceAdd,reduceSub,reduceMul,Nat.reduceBEq,reduceLeDiff,reduceToNat,reduceLE,hQ,hlt,zi,hgi,hkl,e1,e2,e3]
   refine ⟨⟨by omega,by omega⟩,m-1,by omega,i+1,by omega,by omega,fun j y hj hy=>?_,rfl⟩
   rcases lt_or_ge j i with g' | g'
   · exact hb j y g' hy
   · have:j=i:=by omega
     subst this
     rw [hgi] at hy;cases hy
     simp [jI,h1,h2,h3]
 · have hlt:((i:Int)<(t.length:Int))=False:=eq_false (by omega)
   have hr:(decide (t.length≤k) && t.all jI)=true:=by
    have h1:decide (t.length≤k)=true:=decide_eq_true (by omega)
    have h2:t.all jI=true:=by
     rw [List.all_eq_true];intro x hx
     obtain ⟨j,hj⟩:=List.mem_iff_getElem?.1 hx
     have:=(List.getElem?_eq_some_iff.1 hj).1
     exact hb j x (by omega) hj
    rw [h1,h2];rfl
   simp(maxSteps:=400000)only[↓au,av,BEq.rfl,reduceIte,reduceCtorEq,Nat.reduceLT,reduceAdd,reduceSub,reduceMul,Nat.reduceBEq,reduceLeDiff,reduceToNat,reduceLE,hQ,hlt,hr]
def qG:dJ:=fun args objs K=>match args with
 | [a0,.int .i64 k]=>fU aG a0 (HK.mk:HK fun t=>(0≤k)∧(k≤1000000)∧(t.length≤4611686018427387904)∧(∀ n ∈ t,n.s.length≤4611686018427387904∧n.name.length≤4611686018427387904∧n.c.s.length≤4611686018427387904)∧K (.bool (decide (t.length≤k.toNat) && t.all jI)) objs 0)
 | _=>False
theorem Km:aD Tryz.prog 25 (qG):=by
 intro args objs K h
 unfold qG at h
 split at h
 · rename_i a0 k
   obtain ⟨t,rfl,h1,h2,h3,h4,hk⟩:=h
   exact ⟨_,_,_,.pure _ rfl ((by have:=Uo t k.toNat (by omega) h3 h4;rwa [Int.toNat_of_nonneg h1] at this)),hk⟩
 · exact h.elim
end Lp
namespace Lp
open Go Go.Proofs
def cu:LC:=
 (.cond (.tmp 105)
        .skip
        (.seq (.reg [⟨some 107,.binOp .eql 3 (.tmp 14) (.const (.int .i64 5)) 3,none,false⟩,
         ⟨some 105,.assign (.tmp 107),none,false⟩])
        (.cond (.tmp 105)
         .skip
         (.reg [⟨some 108,.binOp .eql 3 (.tmp 14) (.const (.int .i64 6)) 3,none,false⟩,
          ⟨some 105,.assign (.tmp 108),none,false⟩]))))
def eB:LC:=
 (.cond (.tmp 117)
         .skip
         (.reg [⟨some 119,.binOp .eql 3 (.tmp 14) (.const (.int .i64 8)) 3,none,false⟩,
          ⟨some 117,.assign (.tmp 119),none,false⟩]))
def eD:LC:=
 (.cond (.tmp 117)
         (.seq (.reg [⟨some 121,.fieldAddr 44 (.tmp 1) 3,none,false⟩,
          ⟨some 122,.load 9 (.tmp 121),none,false⟩,
          ⟨some 123,.call ⟨.value (.func 72),⟨[(.tmp 122)]⟩,⟨[9]⟩⟩,none,false⟩,
          ⟨some 120,.move (.tmp 123),none,false⟩,
          ⟨some 124,.extract (.tmp 120) 0,none,false⟩,
          ⟨some 125,.extract (.tmp 120) 1,none,false⟩,
          ⟨some 4,.assign (.tmp 124),none,false⟩,
          ⟨some 5,.assign (.tmp 125),none,false⟩])
         (.seq (.reg [⟨some 126,.fieldAddr 44 (.tmp 1) 3,none,false⟩,
          ⟨some 127,.load 9 (.tmp 126),none,false⟩,
          ⟨some 128,.fieldAddr 44 (.tmp 3) 3,none,false⟩,
          ⟨none,.store 9 (.tmp 128) (.tmp 127),none,false⟩])
         (.seq (.reg [⟨some 129,.load 44 (.tmp 1),none,false⟩,
          ⟨some 130,.load 44 (.tmp 3),none,false⟩,
          ⟨some 131,.binOp .eql 44 (.tmp 129) (.tmp 130) 44,none,false⟩,
          ⟨some 132,.move (.tmp 131),none,false⟩,
          ⟨some 133,.fieldAddr 44 (.tmp 1) 1,some (some 132,true),false⟩,
          ⟨some 134,.load 3 (.tmp 133),some (some 132,true),false⟩,
          ⟨some 135,.binOp .eql 3 (.tmp 134) (.const (.int .i64 1)) 3,some (some 132,true),false⟩,
          ⟨some 136,.pick (.tmp 132) (.tmp 135) (.const (.bool false)),none,false⟩,
          ⟨some 137,.move (.tmp 136),none,false⟩,
          ⟨some 138,.move (.tmp 5),some (some 137,true),false⟩,
          ⟨some 139,.pick (.tmp 137) (.tmp 138) (.const (.bool false)),none,false⟩,
          ⟨some 2,.assign (.tmp 139),none,false⟩])
         .ret)))
         .skip)
def cB:LC:=
 (.cond (.tmp 105)
        (.seq (.reg [⟨some 109,.load 44 (.tmp 1),none,false⟩,
         ⟨some 110,.load 44 (.tmp 3),none,false⟩,
         ⟨some 111,.binOp .eql 44 (.tmp 109) (.tmp 110) 44,none,false⟩,
         ⟨some 112,.move (.tmp 111),none,false⟩,
         ⟨some 113,.fieldAddr 44 (.tmp 1) 1,some (some 112,true),false⟩,
         ⟨some 114,.load 3 (.tmp 113),some (some 112,true),false⟩,
         ⟨some 115,.binOp .eql 3 (.tmp 114) (.const (.int .i64 1)) 3,some (some 112,true),false⟩,
         ⟨some 116,.pick (.tmp 112) (.tmp 115) (.const (.bool false)),none,false⟩,
         ⟨some 2,.assign (.tmp 116),none,false⟩])
        .ret)
        (.seq (.seq (.weak (.reg [⟨some 118,.binOp .eql 3 (.tmp 14) (.const (.int .i64 7)) 3,none,false⟩,
         ⟨some 117,.assign (.tmp 118),none,false⟩]))
        eB)
        eD))
def h_:LC:=
 (.cond (.tmp 95)
       (.seq (.reg [⟨some 97,.load 44 (.tmp 1),none,false⟩,
        ⟨some 98,.load 44 (.tmp 3),none,false⟩,
        ⟨some 99,.binOp .eql 44 (.tmp 97) (.tmp 98) 44,none,false⟩,
        ⟨some 100,.move (.tmp 99),none,false⟩,
        ⟨some 101,.fieldAddr 44 (.tmp 1) 1,some (some 100,true),false⟩,
        ⟨some 102,.load 3 (.tmp 101),some (some 100,true),false⟩,
        ⟨some 103,.binOp .geq 3 (.tmp 102) (.const (.int .i64 0)) 3,some (some 100,true),false⟩,
        ⟨some 104,.pick (.tmp 100) (.tmp 103) (.const (.bool false)),none,false⟩,
        ⟨some 2,.assign (.tmp 104),none,false⟩])
       .ret)
       (.seq (.seq (.weak (.reg [⟨some 106,.binOp .eql 3 (.tmp 14) (.const (.int .i64 3)) 3,none,false⟩,
        ⟨some 105,.assign (.tmp 106),none,false⟩]))
       cu)
       cB))
def ic:LC:=
 (.cond (.tmp 72)
   (.seq (.reg [⟨some 74,.fieldAddr 44 (.tmp 1) 4,none,false⟩,
    ⟨some 75,.load 3 (.tmp 74),none,false⟩,
    ⟨some 76,.fieldAddr 44 (.tmp 3) 4,none,false⟩,
    ⟨none,.store 3 (.tmp 76) (.tmp 75),none,false⟩])
   (.seq (.reg [⟨some 77,.load 44 (.tmp 1),none,false⟩,
    ⟨some 78,.load 44 (.tmp 3),none,false⟩,
    ⟨some 79,.binOp .eql 44 (.tmp 77) (.tmp 78) 44,none,false⟩,
    ⟨some 80,.move (.tmp 79),none,false⟩,
    ⟨some 81,.fieldAddr 44 (.tmp 1) 1,some (some 80,true),false⟩,
    ⟨some 82,.load 3 (.tmp 81),some (some 80,true),false⟩,
    ⟨some 83,.binOp .geq 3 (.tmp 82) (.const (.int .i64 0)) 3,some (some 80,true),false⟩,
    ⟨some 84,.pick (.tmp 80) (.tmp 83) (.const (.bool false)),none,false⟩,
    ⟨some 85,.move (.tmp 84),none,false⟩,
    ⟨some 86,.fieldAddr 44 (.tmp 1) 4,some (some 85,true),false⟩,
    ⟨some 87,.load 3 (.tmp 86),some (some 85,true),false⟩,
    ⟨some 88,.binOp .eql 3 (.tmp 87) (.const (.int .i64 0)) 3,some (some 85,true),false⟩,
    ⟨some 89,.move (.tmp 88),some (some 85,true),false⟩,
    ⟨some 90,.fieldAddr 44 (.tmp 1) 4,some (some 89,false),false⟩,
    ⟨some 91,.load 3 (.tmp 90),some (some 89,false),false⟩,
    ⟨some 92,.binOp .eql 3 (.tmp 91) (.const (.int .i64 1)) 3,some (some 89,false),false⟩,
    ⟨some 93,.pick (.tmp 89) (.const (.bool true)) (.tmp 92),some (some 85,true),false⟩,
    ⟨some 94,.pick (.tmp 85) (.tmp 93) (.const (.bool false)),none,false⟩,
    ⟨some 2,.assign (.tmp 94),none,false⟩])
   .ret))
   (.seq (.weak (.reg [⟨some 96,.binOp .eql 3 (.tmp 14) (.const (.int .i64 4)) 3,none,false⟩,
    ⟨some 95,.assign (.tmp 96),none,false⟩]))
   h_))
def ig:LC:=
 (.cond (.tmp 48)
   (.seq (.reg [⟨some 50,.fieldAddr 44 (.tmp 1) 4,none,false⟩,
    ⟨some 51,.load 3 (.tmp 50),none,false⟩,
    ⟨some 52,.fieldAddr 44 (.tmp 3) 4,none,false⟩,
    ⟨none,.store 3 (.tmp 52) (.tmp 51),none,false⟩])
   (.seq (.reg [⟨some 53,.fieldAddr 44 (.tmp 1) 5,none,false⟩,
    ⟨some 54,.load 42 (.tmp 53),none,false⟩,
    ⟨some 55,.fieldAddr 44 (.tmp 3) 5,none,false⟩,
    ⟨none,.store 42 (.tmp 55) (.tmp 54),none,false⟩])
   (.seq (.reg [⟨some 56,.load 44 (.tmp 1),none,false⟩,
    ⟨some 57,.load 44 (.tmp 3),none,false⟩,
    ⟨some 58,.binOp .eql 44 (.tmp 56) (.tmp 57) 44,none,false⟩,
    ⟨some 59,.move (.tmp 58),none,false⟩,
    ⟨some 60,.fieldAddr 44 (.tmp 1) 1,some (some 59,true),false⟩,
    ⟨some 61,.load 3 (.tmp 60),some (some 59,true),false⟩,
    ⟨some 62,.binOp .eql 3 (.tmp 61) (.const (.int .i64 0)) 3,some (some 59,true),false⟩,
    ⟨some 63,.pick (.tmp 59) (.tmp 62) (.const (.bool false)),none,false⟩,
    ⟨some 64,.move (.tmp 63),none,false⟩,
    ⟨some 65,.fieldAddr 44 (.tmp 1) 4,some (some 64,true),false⟩,
    ⟨some 66,.load 3 (.tmp 65),some (some 64,true),false⟩,
    ⟨some 67,.fieldAddr 44 (.tmp 1) 5,some (some 64,true),false⟩,
    ⟨some 68,.load 42 (.tmp 67),some (some 64,true),false⟩,
    ⟨some 69,.build 87 ⟨[(0,(.tmp 66)),(1,(.tmp 68))]⟩,some (some 64,true),false⟩,
    ⟨some 70,.call ⟨.value (.func 98),⟨[(.tmp 69)]⟩,⟨[87]⟩⟩,some (some 64,true),false⟩,
    ⟨some 71,.pick (.tmp 64) (.tmp 70) (.const (.bool false)),none,false⟩,
    ⟨some 2,.assign (.tmp 71),none,false⟩])
   .ret)))
   (.seq (.weak (.reg [⟨some 73,.binOp .eql 3 (.tmp 14) (.const (.int .i64 2)) 3,none,false⟩,
    ⟨some 72,.assign (.tmp 73),none,false⟩]))
   ic))
def iq:LC:=
 (.cond (.tmp 25)
  (.seq (.reg [⟨some 27,.fieldAddr 44 (.tmp 1) 4,none,false⟩,
   ⟨some 28,.load 3 (.tmp 27),none,false⟩,
   ⟨some 29,.fieldAddr 44 (.tmp 3) 4,none,false⟩,
   ⟨none,.store 3 (.tmp 29) (.tmp 28),none,false⟩])
  (.seq (.reg [⟨some 30,.load 44 (.tmp 1),none,false⟩,
   ⟨some 31,.load 44 (.tmp 3),none,false⟩,
   ⟨some 32,.binOp .eql 44 (.tmp 30) (.tmp 31) 44,none,false⟩,
   ⟨some 33,.move (.tmp 32),none,false⟩,
   ⟨some 34,.fieldAddr 44 (.tmp 1) 1,some (some 33,true),false⟩,
   ⟨some 35,.load 3 (.tmp 34),some (some 33,true),false⟩,
   ⟨some 36,.binOp .geq 3 (.tmp 35) (.const (.int .i64 0)) 3,some (some 33,true),false⟩,
   ⟨some 37,.pick (.tmp 33) (.tmp 36) (.const (.bool false)),none,false⟩,
   ⟨some 38,.move (.tmp 37),none,false⟩,
   ⟨some 39,.fieldAddr 44 (.tmp 1) 4,some (some 38,true),false⟩,
   ⟨some 40,.load 3 (.tmp 39),some (some 38,true),false⟩,
   ⟨some 41,.binOp .geq 3 (.tmp 40) (.const (.int .i64 1)) 3,some (some 38,true),false⟩,
   ⟨some 42,.pick (.tmp 38) (.tmp 41) (.const (.bool false)),none,false⟩,
   ⟨some 43,.move (.tmp 42),none,false⟩,
   ⟨some 44,.fieldAddr 44 (.tmp 1) 4,some (some 43,true),false⟩,
   ⟨some 45,.load 3 (.tmp 44),some (some 43,true),false⟩,
   ⟨some 46,.binOp .leq 3 (.tmp 45) (.const (.int .i64 31)) 3,some (some 43,true),false⟩,
   ⟨some 47,.pick (.tmp 43) (.tmp 46) (.const (.bool false)),none,false⟩,
   ⟨some 2,.assign (.tmp 47),none,false⟩])
  .ret))
  (.seq (.weak (.reg [⟨some 49,.binOp .eql 3 (.tmp 14) (.const (.int .i64 9)) 3,none,false⟩,
   ⟨some 48,.assign (.tmp 49),none,false⟩]))
  ig))
def iy:LC:=
 (.cond (.tmp 15)
  (.seq (.reg [⟨some 17,.load 44 (.tmp 1),none,false⟩,
   ⟨some 18,.load 44 (.tmp 3),none,false⟩,
   ⟨some 19,.binOp .eql 44 (.tmp 17) (.tmp 18) 44,none,false⟩,
   ⟨some 20,.move (.tmp 19),none,false⟩,
   ⟨some 21,.fieldAddr 44 (.tmp 1) 1,some (some 20,true),false⟩,
   ⟨some 22,.load 3 (.tmp 21),some (some 20,true),false⟩,
   ⟨some 23,.binOp .eql 3 (.tmp 22) (.const (.int .i64 0)) 3,some (some 20,true),false⟩,
   ⟨some 24,.pick (.tmp 20) (.tmp 23) (.const (.bool false)),none,false⟩,
   ⟨some 2,.assign (.tmp 24),none,false⟩])
  .ret)
  (.seq (.weak (.reg [⟨some 26,.binOp .eql 3 (.tmp 14) (.const (.int .i64 1)) 3,none,false⟩,
   ⟨some 25,.assign (.tmp 26),none,false⟩]))
  iq))
def nG:LC:=
 (.seq (.reg [⟨some 2,.assign (.const (.bool false)),none,false⟩])
 .ret)
def qH:LC:=
 (.seq (.reg [⟨some 1,.box 44 (.tmp 0),none,false⟩,
  ⟨some 2,.assign (.const (.bool false)),none,false⟩])
 (.seq (.reg [⟨some 6,.fieldAddr 44 (.tmp 1) 0,none,false⟩,
  ⟨some 7,.load 3 (.tmp 6),none,false⟩,
  ⟨some 8,.fieldAddr 44 (.tmp 1) 1,none,false⟩,
  ⟨some 9,.load 3 (.tmp 8),none,false⟩,
  ⟨some 10,.fieldAddr 44 (.tmp 1) 2,none,false⟩,
  ⟨some 11,.load 9 (.tmp 10),none,false⟩,
  ⟨some 12,.build 44 ⟨[(0,(.tmp 7)),(1,(.tmp 9)),(2,(.tmp 11))]⟩,none,false⟩,
  ⟨some 3,.alloc 44,none,false⟩,
  ⟨none,.store 44 (.tmp 3) (.tmp 12),none,false⟩])
 (.seq (.seq (.reg [⟨some 13,.fieldAddr 44 (.tmp 1) 0,none,false⟩,
  ⟨some 14,.load 3 (.tmp 13),none,false⟩])
 (.block 0 (.seq (.weak (.reg [⟨some 16,.binOp .eql 3 (.tmp 14) (.const (.int .i64 0)) 3,none,false⟩,
  ⟨some 15,.assign (.tmp 16),none,false⟩]))
  iy)))
 nG)))
theorem AV:aO Tryz.prog 70 140 [.tmp 2] qH:=⟨_,_,Tryz.func70,by kernel_rfl,rfl,Tryz.ntmps70,rfl,by kernel_rfl⟩
end Lp
namespace Lp
open Go Go.Proofs
open Nat (reduceAdd reduceLeDiff reduceMul reduceSub)
open Int (reduceEq reduceLE reduceToNat)
theorem ny (a:fE):(∀ n,(bH a).putCells 4 [.int .i64 n]=bH { a with n:=n })∧(∀ x,(bH a).putCells 3 [.str x]=bH { a with s:=x })∧
  (∀ ck cm cn cs cg ce,(bH a).putCells 5 [.int .i64 ck,.int .i64 cm,.str cn,.str cs,.bool cg,.int .i64 ce]=bH { a with c:=⟨ck,cm,cn,cs,cg,ce⟩ }):=⟨fun _=>rfl,fun _=>rfl,fun _ _ _ _ _ _=>rfl⟩
theorem adm (t:fE):decide (t=⟨t.kind,t.many,t.name,[],0,aV⟩)=(t.s==[] && t.n==0 && t.c==aV):=by
 obtain ⟨k,m,nm,s,n,c⟩:=t
 rw [Bool.eq_iff_iff];simp [and_assoc]
theorem aex (t:fE):decide (t=⟨t.kind,t.many,t.name,[],t.n,aV⟩)=(t.s==[] && t.c==aV):=by
 obtain ⟨k,m,nm,s,n,c⟩:=t
 rw [Bool.eq_iff_iff];simp
theorem afg (t:fE):decide (t=⟨t.kind,t.many,t.name,[],t.n,t.c⟩)=(t.s==[]):=by
 obtain ⟨k,m,nm,s,n,c⟩:=t
 rw [Bool.eq_iff_iff];simp
theorem afh (t:fE):decide (t=⟨t.kind,t.many,t.name,t.s,0,aV⟩)=(t.n==0 && t.c==aV):=by
 obtain ⟨k,m,nm,s,n,c⟩:=t
 rw [Bool.eq_iff_iff];simp
theorem afi (pk:List UInt8→Bool) (t:fE) (k:t.kind=0):dh pk t=(decide (t=⟨t.kind,t.many,t.name,[],0,aV⟩) && decide (t.many=0)):=by
 rw [adm]
 have b:∀ i:Int,(t.many==i)=decide (t.many=i):=fun _=>rfl
 have c:∀ i:Int,(t.n==i)=decide (t.n=i):=fun _=>rfl
 simp only [dh,k,reduceEq,if_true,if_false,false_or,or_false,or_self,true_or,or_true,b,c]
 ac_rfl
theorem afj (pk:List UInt8→Bool) (t:fE) (k:t.kind=1):dh pk t=(decide (t=⟨t.kind,t.many,t.name,[],t.n,aV⟩) && (decide (0≤t.many) && decide (1≤t.n) && decide (t.n≤31))):=by
 rw [aex]
 have b:∀ i:Int,(t.many==i)=decide (t.many=i):=fun _=>rfl
 have c:∀ i:Int,(t.n==i)=decide (t.n=i):=fun _=>rfl
 simp only [dh,k,reduceEq,if_true,if_false,false_or,or_false,or_self,true_or,or_true,b,c]
 ac_rfl
theorem afk (pk:List UInt8→Bool) (t:fE) (k:t.kind=9):dh pk t=(decide (t=⟨t.kind,t.many,t.name,[],t.n,t.c⟩) && (decide (t.many=0) && kW ⟨t.n,t.c⟩)):=by
 rw [afg]
 have b:∀ i:Int,(t.many==i)=decide (t.many=i):=fun _=>rfl
 have c:∀ i:Int,(t.n==i)=decide (t.n=i):=fun _=>rfl
 simp only [dh,k,reduceEq,if_true,if_false,false_or,or_false,or_self,true_or,or_true,b,c]
 ac_rfl
theorem afl (pk:List UInt8→Bool) (t:fE) (k:t.kind=2):dh pk t=(decide (t=⟨t.kind,t.many,t.name,[],t.n,aV⟩) && (decide (0≤t.many) && (decide (t.n=0) || decide (t.n=1)))):=by
 rw [aex]
 have b:∀ i:Int,(t.many==i)=decide (t.many=i):=fun _=>rfl
 have c:∀ i:Int,(t.n==i)=decide (t.n=i):=fun _=>rfl
 simp only [dh,k,reduceEq,if_true,if_false,false_or,or_false,or_self,true_or,or_true,b,c]
 ac_rfl
theorem afm (pk:List UInt8→Bool) (t:fE) (k:t.kind=4):dh pk t=(decide (t=⟨t.kind,t.many,t.name,[],0,aV⟩) && decide (0≤t.many)):=by
 rw [adm]
 have b:∀ i:Int,(t.many==i)=decide (t.many=i):=fun _=>rfl
 have c:∀ i:Int,(t.n==i)=decide (t.n=i):=fun _=>rfl
 simp only [dh,k,reduceEq,if_true,if_false,false_or,or_false,or_self,true_or,or_true,b,c]
 ac_rfl
theorem adn (pk:List UInt8→Bool) (t:fE) (k:t.kind=3∨t.kind=5∨t.kind=6):dh pk t=(decide (t=⟨t.kind,t.many,t.name,[],0,aV⟩) && decide (t.many=1)):=by
 rw [adm]
 have b:∀ i:Int,(t.many==i)=decide (t.many=i):=fun _=>rfl
 have c:∀ i:Int,(t.n==i)=decide (t.n=i):=fun _=>rfl
 rcases k with k | k | k <;> simp only [dh,k,reduceEq,if_true,if_false,false_or,or_false,or_self,true_or,or_true,b,c] <;> ac_rfl
theorem aey (pk:List UInt8→Bool) (t:fE) (k:t.kind=7∨t.kind=8):dh pk t=(decide (t=⟨t.kind,t.many,t.name,t.s,0,aV⟩) && (decide (t.many=1) && pk t.s)):=by
 rw [afh]
 have b:∀ i:Int,(t.many==i)=decide (t.many=i):=fun _=>rfl
 have c:∀ i:Int,(t.n==i)=decide (t.n=i):=fun _=>rfl
 rcases k with k | k <;> simp only [dh,k,reduceEq,if_true,if_false,false_or,or_false,or_self,true_or,or_true,b,c] <;> ac_rfl
theorem fD (k m n ck cm ce k' m' n' ck' cm' ce':Int) (nm s cn cs M0 s' cn' cs':List UInt8) (cg cg':Bool):JD Tryz.prog 44 [.int .i64 k,.int .i64 m,.str nm,.str s,.int .i64 n,.int .i64 ck,.int .i64 cm,.str cn,.str cs,.bool cg,.int .i64 ce] [.int .i64 k',.int .i64 m',.str M0,.str s',.int .i64 n',.int .i64 ck',.int .i64 cm',.str cn',.str cs',.bool cg',.int .i64 ce']=True:=eq_true (aew ⟨k,m,nm,s,n,⟨ck,cm,cn,cs,cg,ce⟩⟩ ⟨k',m',M0,s',n',⟨ck',cm',cn',cs',cg',ce'⟩⟩)
theorem iX (k m n ck cm ce k' m' n' ck' cm' ce':Int) (nm s cn cs M0 s' cn' cs':List UInt8) (cg cg':Bool):Dp [.int .i64 k,.int .i64 m,.str nm,.str s,.int .i64 n,.int .i64 ck,.int .i64 cm,.str cn,.str cs,.bool cg,.int .i64 ce] [.int .i64 k',.int .i64 m',.str M0,.str s',.int .i64 n',.int .i64 ck',.int .i64 cm',.str cn',.str cs',.bool cg',.int .i64 ce']=some (decide ((⟨k,m,nm,s,n,⟨ck,cm,cn,cs,cg,ce⟩⟩:fE)=⟨k',m',M0,s',n',⟨ck',cm',cn',cs',cg',ce'⟩⟩)):=ae5 ⟨k,m,nm,s,n,⟨ck,cm,cn,cs,cg,ce⟩⟩ ⟨k',m',M0,s',n',⟨ck',cm',cn',cs',cg',ce'⟩⟩
theorem N7 (t:fE) (hs:t.s.length≤1000000000) (hc:su t.c):ai Tryz.prog 70 [bH t] [] (.bool (dh bC t)) []:=by
 refine AV.a_ (T:=aP Tryz.prog [(98,tQ),(72,fu)]) 0 hD (aj (af NK (af uY ah))) aU (by decide) fun Q hQ=>?_
 obtain ⟨kd,m,nm,s,n,c⟩:=t
 simp only at hs hc
 simp(maxSteps:=400000)only[↓au,av,BEq.rfl,reduceIte,reduceCtorEq,Nat.reduceLT,reduceAdd,reduceSub,reduceMul,Nat.reduceBEq,reduceLeDiff,reduceToNat,reduceLE,hQ,qH,tY,iN,iT,ny,fD,iX,bT,eF,reduceEq]
 refine aT _ (Weak.refl _ _) ?_
 by_cases k0:kd=0
 · subst k0
   have hp:dh bC ⟨0,m,nm,s,n,c⟩=(decide ((⟨0,m,nm,s,n,c⟩:fE)=⟨0,m,nm,[],0,aV⟩) && decide (m=0)):=afi bC ⟨0,m,nm,s,n,c⟩ rfl
   cases hb:decide ((⟨0,m,nm,s,n,c⟩:fE)=⟨0,m,nm,[],0,aV⟩) with
   | false=>
    rw [hb,Bool.false_and] at hp
    simp(maxSteps:=400000)only[↓au,av,BEq.rfl,reduceIte,reduceCtorEq,Nat.reduceLT,reduceAdd,reduceSub,reduceMul,Nat.reduceBEq,reduceLeDiff,reduceToNat,reduceLE,hQ,iy,hb,hp,tY,iN,iT,ny,fD,iX,bT,eF,reduceEq]
    repeat' (first | (omega) | exact hs | exact hc | intro _ | refine ⟨?_,?_⟩)
   | true=>
    rw [hb,Bool.true_and] at hp
    simp(maxSteps:=400000)only[↓au,av,BEq.rfl,reduceIte,reduceCtorEq,Nat.reduceLT,reduceAdd,reduceSub,reduceMul,Nat.reduceBEq,reduceLeDiff,reduceToNat,reduceLE,hQ,iy,hb,hp,tY,iN,iT,ny,fD,iX,bT,eF,reduceEq]
    repeat' (first | (omega) | exact hs | exact hc | ((simp [*];done)) | intro _ | refine ⟨?_,?_⟩)
 have n0:=eq_false k0
 simp(maxSteps:=400000)only[↓au,av,BEq.rfl,reduceIte,reduceCtorEq,Nat.reduceLT,reduceAdd,reduceSub,reduceMul,Nat.reduceBEq,reduceLeDiff,reduceToNat,reduceLE,hQ,iy,n0,tY,iN,iT,ny,fD,iX,bT,eF,reduceEq]
 refine aT _ (Weak.refl _ _) ?_
 by_cases k1:kd=1
 · subst k1
   have hp:dh bC ⟨1,m,nm,s,n,c⟩=(decide ((⟨1,m,nm,s,n,c⟩:fE)=⟨1,m,nm,[],n,aV⟩) && (decide (0≤m) && decide (1≤n) && decide (n≤31))):=afj bC ⟨1,m,nm,s,n,c⟩ rfl
   cases hb:decide ((⟨1,m,nm,s,n,c⟩:fE)=⟨1,m,nm,[],n,aV⟩) with
   | false=>
    rw [hb,Bool.false_and] at hp
    simp(maxSteps:=400000)only[↓au,av,BEq.rfl,reduceIte,reduceCtorEq,Nat.reduceLT,reduceAdd,reduceSub,reduceMul,Nat.reduceBEq,reduceLeDiff,reduceToNat,reduceLE,hQ,iq,hb,hp,tY,iN,iT,ny,fD,iX,bT,eF,reduceEq]
    repeat' (first | (omega) | exact hs | exact hc | intro _ | refine ⟨?_,?_⟩)
   | true=>
    rw [hb,Bool.true_and] at hp
    simp(maxSteps:=400000)only[↓au,av,BEq.rfl,reduceIte,reduceCtorEq,Nat.reduceLT,reduceAdd,reduceSub,reduceMul,Nat.reduceBEq,reduceLeDiff,reduceToNat,reduceLE,hQ,iq,hb,hp,tY,iN,iT,ny,fD,iX,bT,eF,reduceEq]
    repeat' (first | (omega) | exact hs | exact hc | ((simp [*];done)) | intro _ | refine ⟨?_,?_⟩)
 have n1:=eq_false k1
 simp(maxSteps:=400000)only[↓au,av,BEq.rfl,reduceIte,reduceCtorEq,Nat.reduceLT,reduceAdd,reduceSub,reduceMul,Nat.reduceBEq,reduceLeDiff,reduceToNat,reduceLE,hQ,iq,n1,tY,iN,iT,ny,fD,iX,bT,eF,reduceEq]
 refine aT _ (Weak.refl _ _) ?_
 by_cases k9:kd=9
 · subst k9
   have hp:dh bC ⟨9,m,nm,s,n,c⟩=(decide ((⟨9,m,nm,s,n,c⟩:fE)=⟨9,m,nm,[],n,c⟩) && (decide (m=0) && kW ⟨n,c⟩)):=afk bC ⟨9,m,nm,s,n,c⟩ rfl
   cases hb:decide ((⟨9,m,nm,s,n,c⟩:fE)=⟨9,m,nm,[],n,c⟩) with
   | false=>
    rw [hb,Bool.false_and] at hp
    simp(maxSteps:=400000)only[↓au,av,BEq.rfl,reduceIte,reduceCtorEq,Nat.reduceLT,reduceAdd,reduceSub,reduceMul,Nat.reduceBEq,reduceLeDiff,reduceToNat,reduceLE,hQ,ig,hb,hp,↓tQ,tY,iN,iT,ny,fD,iX,bT,eF,reduceEq]
    repeat' (first | (omega) | exact hs | exact hc | intro _ | refine ⟨?_,?_⟩)
   | true=>
    rw [hb,Bool.true_and] at hp
    simp(maxSteps:=400000)only[↓au,av,BEq.rfl,reduceIte,reduceCtorEq,Nat.reduceLT,reduceAdd,reduceSub,reduceMul,Nat.reduceBEq,reduceLeDiff,reduceToNat,reduceLE,hQ,ig,hb,hp,↓tQ,tY,iN,iT,ny,fD,iX,bT,eF,reduceEq]
    repeat' (first | (omega) | exact hs | exact hc | ((simp [*];done)) | intro _ | refine ⟨?_,?_⟩)
 have n9:=eq_false k9
 simp(maxSteps:=400000)only[↓au,av,BEq.rfl,reduceIte,reduceCtorEq,Nat.reduceLT,reduceAdd,reduceSub,reduceMul,Nat.reduceBEq,reduceLeDiff,reduceToNat,reduceLE,hQ,ig,n9,tY,iN,iT,ny,fD,iX,bT,eF,reduceEq]
 refine aT _ (Weak.refl _ _) ?_
 by_cases k2:kd=2
 · subst k2
   have hp:dh bC ⟨2,m,nm,s,n,c⟩=(decide ((⟨2,m,nm,s,n,c⟩:fE)=⟨2,m,nm,[],n,aV⟩) && (decide (0≤m) && (decide (n=0) || decide (n=1)))):=afl bC ⟨2,m,nm,s,n,c⟩ rfl
   cases hb:decide ((⟨2,m,nm,s,n,c⟩:fE)=⟨2,m,nm,[],n,aV⟩) with
   | false=>
    rw [hb,Bool.false_and] at hp
    simp(maxSteps:=400000)only[↓au,av,BEq.rfl,reduceIte,reduceCtorEq,Nat.reduceLT,reduceAdd,reduceSub,reduceMul,Nat.reduceBEq,reduceLeDiff,reduceToNat,reduceLE,hQ,ic,hb,hp,tY,iN,iT,ny,fD,iX,bT,eF,reduceEq]
    repeat' (first | (omega) | exact hs | exact hc | intro _ | refine ⟨?_,?_⟩)
   | true=>
    rw [hb,Bool.true_and] at hp
    simp(maxSteps:=400000)only[↓au,av,BEq.rfl,reduceIte,reduceCtorEq,Nat.reduceLT,reduceAdd,reduceSub,reduceMul,Nat.reduceBEq,reduceLeDiff,reduceToNat,reduceLE,hQ,ic,hb,hp,tY,iN,iT,ny,fD,iX,bT,eF,reduceEq]
    repeat' (first | (omega) | exact hs | exact hc | ((simp [*];done)) | intro _ | refine ⟨?_,?_⟩)
 have n2:=eq_false k2
 simp(maxSteps:=400000)only[↓au,av,BEq.rfl,reduceIte,reduceCtorEq,Nat.reduceLT,reduceAdd,reduceSub,reduceMul,Nat.reduceBEq,reduceLeDiff,reduceToNat,reduceLE,hQ,ic,n2,tY,iN,iT,ny,fD,iX,bT,eF,reduceEq]
 refine aT _ (Weak.refl _ _) ?_
 by_cases k4:kd=4
 · subst k4
   have hp:dh bC ⟨4,m,nm,s,n,c⟩=(decide ((⟨4,m,nm,s,n,c⟩:fE)=⟨4,m,nm,[],0,aV⟩) && decide (0≤m)):=afm bC ⟨4,m,nm,s,n,c⟩ rfl
   cases hb:decide ((⟨4,m,nm,s,n,c⟩:fE)=⟨4,m,nm,[],0,aV⟩) with
   | false=>
    rw [hb,Bool.false_and] at hp
    simp(maxSteps:=400000)only[↓au,av,BEq.rfl,reduceIte,reduceCtorEq,Nat.reduceLT,reduceAdd,reduceSub,reduceMul,Nat.reduceBEq,reduceLeDiff,reduceToNat,reduceLE,hQ,h_,hb,hp,tY,iN,iT,ny,fD,iX,bT,eF,reduceEq]
    repeat' (first | (omega) | exact hs | exact hc | intro _ | refine ⟨?_,?_⟩)
   | true=>
    rw [hb,Bool.true_and] at hp
    simp(maxSteps:=400000)only[↓au,av,BEq.rfl,reduceIte,reduceCtorEq,Nat.reduceLT,reduceAdd,reduceSub,reduceMul,Nat.reduceBEq,reduceLeDiff,reduceToNat,reduceLE,hQ,h_,hb,hp,tY,iN,iT,ny,fD,iX,bT,eF,reduceEq]
    repeat' (first | (omega) | exact hs | exact hc | ((simp [*];done)) | intro _ | refine ⟨?_,?_⟩)
 have n4:=eq_false k4
 simp(maxSteps:=400000)only[↓au,av,BEq.rfl,reduceIte,reduceCtorEq,Nat.reduceLT,reduceAdd,reduceSub,reduceMul,Nat.reduceBEq,reduceLeDiff,reduceToNat,reduceLE,hQ,h_,n4,tY,iN,iT,ny,fD,iX,bT,eF,reduceEq]
 refine aT _ (Weak.refl _ _) ?_
 by_cases k3:kd=3
 · subst k3
   have hp:dh bC ⟨3,m,nm,s,n,c⟩=(decide ((⟨3,m,nm,s,n,c⟩:fE)=⟨3,m,nm,[],0,aV⟩) && decide (m=1)):=adn bC ⟨3,m,nm,s,n,c⟩ (.inl rfl)
   cases hb:decide ((⟨3,m,nm,s,n,c⟩:fE)=⟨3,m,nm,[],0,aV⟩) with
   | false=>
    rw [hb,Bool.false_and] at hp
    simp(maxSteps:=400000)only[↓au,av,BEq.rfl,reduceIte,reduceCtorEq,Nat.reduceLT,reduceAdd,reduceSub,reduceMul,Nat.reduceBEq,reduceLeDiff,reduceToNat,reduceLE,hQ,cB,cu,hb,hp,tY,iN,iT,ny,fD,iX,bT,eF,reduceEq]
    repeat' (first | (omega) | exact hs | exact hc | intro _ | refine ⟨?_,?_⟩)
   | true=>
    rw [hb,Bool.true_and] at hp
    simp(maxSteps:=400000)only[↓au,av,BEq.rfl,reduceIte,reduceCtorEq,Nat.reduceLT,reduceAdd,reduceSub,reduceMul,Nat.reduceBEq,reduceLeDiff,reduceToNat,reduceLE,hQ,cB,cu,hb,hp,tY,iN,iT,ny,fD,iX,bT,eF,reduceEq]
    repeat' (first | (omega) | exact hs | exact hc | ((simp [*];done)) | intro _ | refine ⟨?_,?_⟩)
 have n3:=eq_false k3
 by_cases k5:kd=5
 · subst k5
   have hp:dh bC ⟨5,m,nm,s,n,c⟩=(decide ((⟨5,m,nm,s,n,c⟩:fE)=⟨5,m,nm,[],0,aV⟩) && decide (m=1)):=adn bC ⟨5,m,nm,s,n,c⟩ (.inr (.inl rfl))
   cases hb:decide ((⟨5,m,nm,s,n,c⟩:fE)=⟨5,m,nm,[],0,aV⟩) with
   | false=>
    rw [hb,Bool.false_and] at hp
    simp(maxSteps:=400000)only[↓au,av,BEq.rfl,reduceIte,reduceCtorEq,Nat.reduceLT,reduceAdd,reduceSub,reduceMul,Nat.reduceBEq,reduceLeDiff,reduceToNat,reduceLE,hQ,cB,cu,hb,hp,tY,iN,iT,ny,fD,iX,bT,eF,reduceEq]
    repeat' (first | (omega) | exact hs | exact hc | intro _ | refine ⟨?_,?_⟩)
   | true=>
    rw [hb,Bool.true_and] at hp
    simp(maxSteps:=400000)only[↓au,av,BEq.rfl,reduceIte,reduceCtorEq,Nat.reduceLT,reduceAdd,reduceSub,reduceMul,Nat.reduceBEq,reduceLeDiff,reduceToNat,reduceLE,hQ,cB,cu,hb,hp,tY,iN,iT,ny,fD,iX,bT,eF,reduceEq]
    repeat' (first | (omega) | exact hs | exact hc | ((simp [*];done)) | intro _ | refine ⟨?_,?_⟩)
 have n5:=eq_false k5
 by_cases k6:kd=6
 · subst k6
   have hp:dh bC ⟨6,m,nm,s,n,c⟩=(decide ((⟨6,m,nm,s,n,c⟩:fE)=⟨6,m,nm,[],0,aV⟩) && decide (m=1)):=adn bC ⟨6,m,nm,s,n,c⟩ (.inr (.inr rfl))
   cases hb:decide ((⟨6,m,nm,s,n,c⟩:fE)=⟨6,m,nm,[],0,aV⟩) with
   | false=>
    rw [hb,Bool.false_and] at hp
    simp(maxSteps:=400000)only[↓au,av,BEq.rfl,reduceIte,reduceCtorEq,Nat.reduceLT,reduceAdd,reduceSub,reduceMul,Nat.reduceBEq,reduceLeDiff,reduceToNat,reduceLE,hQ,cB,cu,hb,hp,tY,iN,iT,ny,fD,iX,bT,eF,reduceEq]
    repeat' (first | (omega) | exact hs | exact hc | intro _ | refine ⟨?_,?_⟩)
   | true=>
    rw [hb,Bool.true_and] at hp
    simp(maxSteps:=400000)only[↓au,av,BEq.rfl,reduceIte,reduceCtorEq,Nat.reduceLT,reduceAdd,reduceSub,reduceMul,Nat.reduceBEq,reduceLeDiff,reduceToNat,reduceLE,hQ,cB,cu,hb,hp,tY,iN,iT,ny,fD,iX,bT,eF,reduceEq]
    repeat' (first | (omega) | exact hs | exact hc | ((simp [*];done)) | intro _ | refine ⟨?_,?_⟩)
 have n6:=eq_false k6
 simp(maxSteps:=400000)only[↓au,av,BEq.rfl,reduceIte,reduceCtorEq,Nat.reduceLT,reduceAdd,reduceSub,reduceMul,Nat.reduceBEq,reduceLeDiff,reduceToNat,reduceLE,hQ,cB,cu,n3,n5,n6,tY,iN,iT,ny,fD,iX,bT,eF,reduceEq]
 refine aT _ (Weak.refl _ _) ?_
 by_cases k7:kd=7
 · subst k7
   have hp:dh bC ⟨7,m,nm,s,n,c⟩=(decide ((⟨7,m,nm,s,n,c⟩:fE)=⟨7,m,nm,s,0,aV⟩) && (decide (m=1) && bC s)):=aey bC ⟨7,m,nm,s,n,c⟩ (.inl rfl)
   cases hb:decide ((⟨7,m,nm,s,n,c⟩:fE)=⟨7,m,nm,s,0,aV⟩) with
   | false=>
    rw [hb,Bool.false_and] at hp
    simp(maxSteps:=400000)only[↓au,av,BEq.rfl,reduceIte,reduceCtorEq,Nat.reduceLT,reduceAdd,reduceSub,reduceMul,Nat.reduceBEq,reduceLeDiff,reduceToNat,reduceLE,hQ,eD,eB,hb,hp,↓fu,dX,tY,iN,iT,ny,fD,iX,bT,eF,reduceEq]
    repeat' (first | (omega) | exact hs | exact hc | intro _ | refine ⟨?_,?_⟩)
   | true=>
    rw [hb,Bool.true_and] at hp
    simp(maxSteps:=400000)only[↓au,av,BEq.rfl,reduceIte,reduceCtorEq,Nat.reduceLT,reduceAdd,reduceSub,reduceMul,Nat.reduceBEq,reduceLeDiff,reduceToNat,reduceLE,hQ,eD,eB,hb,hp,↓fu,dX,tY,iN,iT,ny,fD,iX,bT,eF,reduceEq]
    repeat' (first | (omega) | exact hs | exact hc | ((simp [*];done)) | intro _ | refine ⟨?_,?_⟩)
 have n7:=eq_false k7
 by_cases k8:kd=8
 · subst k8
   have hp:dh bC ⟨8,m,nm,s,n,c⟩=(decide ((⟨8,m,nm,s,n,c⟩:fE)=⟨8,m,nm,s,0,aV⟩) && (decide (m=1) && bC s)):=aey bC ⟨8,m,nm,s,n,c⟩ (.inr rfl)
   cases hb:decide ((⟨8,m,nm,s,n,c⟩:fE)=⟨8,m,nm,s,0,aV⟩) with
   | false=>
    rw [hb,Bool.false_and] at hp
    simp(maxSteps:=400000)only[↓au,av,BEq.rfl,reduceIte,reduceCtorEq,Nat.reduceLT,reduceAdd,reduceSub,reduceMul,Nat.reduceBEq,reduceLeDiff,reduceToNat,reduceLE,hQ,eD,eB,hb,hp,↓fu,dX,tY,iN,iT,ny,fD,iX,bT,eF,reduceEq]
    repeat' (first | (omega) | exact hs | exact hc | intro _ | refine ⟨?_,?_⟩)
   | true=>
    rw [hb,Bool.true_and] at hp
    simp(maxSteps:=400000)only[↓au,av,BEq.rfl,reduceIte,reduceCtorEq,Nat.reduceLT,reduceAdd,reduceSub,reduceMul,Nat.reduceBEq,reduceLeDiff,reduceToNat,reduceLE,hQ,eD,eB,hb,hp,↓fu,dX,tY,iN,iT,ny,fD,iX,bT,eF,reduceEq]
    repeat' (first | (omega) | exact hs | exact hc | ((simp [*];done)) | intro _ | refine ⟨?_,?_⟩)
 have n8:=eq_false k8
 simp(maxSteps:=400000)only[↓au,av,BEq.rfl,reduceIte,reduceCtorEq,Nat.reduceLT,reduceAdd,reduceSub,reduceMul,Nat.reduceBEq,reduceLeDiff,reduceToNat,reduceLE,hQ,eD,eB,n7,n8,tY,iN,iT,ny,fD,iX,bT,eF,reduceEq]
 have hp:dh bC ⟨kd,m,nm,s,n,c⟩=false:=by simp [dh,k0,k1,k9,k2,k4,k3,k5,k6,k7,k8]
 simp(maxSteps:=400000)only[↓au,av,BEq.rfl,reduceIte,reduceCtorEq,Nat.reduceLT,reduceAdd,reduceSub,reduceMul,Nat.reduceBEq,reduceLeDiff,reduceToNat,reduceLE,hQ,nG,hp]
def gI:dJ:=fun args objs K=>match args with
 | [a0]=>fU bH a0 (HK.mk:HK fun t=>(t.s.length≤1000000000)∧(su t.c)∧K (.bool (dh bC t)) objs 0)
 | _=>False
theorem Kn:aD Tryz.prog 70 (gI):=by
 intro args objs K h
 unfold gI at h
 split at h
 · rename_i a0
   obtain ⟨t,rfl,h1,h2,hk⟩:=h
   exact ⟨_,_,_,.pure _ rfl (N7 t h1 h2),hk⟩
 · exact h.elim
end Lp
namespace Lp
open Go Go.Proofs
open Nat (reduceAdd reduceLeDiff reduceMul reduceSub)
open Int (reduceEq reduceLE reduceToNat toNat_natCast)
structure vz (t:aY):Prop where
 len:t.length≤1000000
 txt:∀ n ∈ t,n.s.length≤1000000000∧n.name.length≤1000000000∧su n.c
theorem Uq (x:fE) (prev:Option (List UInt8)) (p:aY) (ps:List aY):mY x prev (p::ps)=(Dv x p && (x.kind !=2 || (match prev with | none=>true | some a=>Op.bytesLess a (Y.nameOf p))) && mY x (some (Y.nameOf p)) ps):=by cases prev <;> rfl
theorem N8 (t:aY) (at':Nat) (n:fE) (hs:vz t) (ho:Y.One t) (hat:t[at']?=some n) :
  ai Tryz.prog 71 [aG t,.int .i64 at'] [] (.bool (AQ t at')) []:=by
 obtain ⟨hl,htx⟩:=hs
 have abj:=(List.getElem?_eq_some_iff.1 hat).1
 obtain ⟨ps,c,hm,hmL,hps,hsk,hfl,hone,_,_⟩:=Y.vw ho hat
 have hpl:=Y.bB _ _ _ hps
 have hres:AQ t at'=mY n none ps:=by
  rw [X0]
  have hd:=List.drop_eq_getElem_cons abj
  rw [List.getElem?_eq_getElem abj] at hat
  cases hat
  simp only [AQ,hd,hps]
 rw [hres]
 refine Ay.a_ (T:=aP Tryz.prog [(46,gP),(45,fw)]) 0 hD (aj (af Ee (af mZ ah))) aU (by decide) fun Q hQ=>?_
 (conv=>arg 4;cbv);simp(maxSteps:=400000)only[↓au,av,BEq.rfl,reduceIte,reduceCtorEq,Nat.reduceLT,reduceAdd,reduceSub,reduceMul,Nat.reduceBEq,reduceLeDiff,reduceToNat,reduceLE,hQ]
 refine ⟨⟨by omega,by omega⟩,?_⟩
 refine aF (fun m S=>∃ (i:Nat) (rest:List aY) (prev:Option (List UInt8)) (last:List UInt8),m=rest.length∧rest.length≤ps.length∧Y.parts rest.length (t.drop i)=some rest∧i≤t.length∧mY n prev rest=mY n none ps∧
  ((prev=none∧rest.length=ps.length)∨(prev=some last∧rest.length<ps.length))∧
  S=⟨dz 74 [(0,aG t),(1,.int .i64 at'),(5,.int .i64 i),(6,.str last),(7,.int .i64 ((ps.length:Int)-rest.length))],[]⟩) ps.length (hz:=Nat.zero_le _) ⟨at'+1,ps,none,[],rfl,Nat.le_refl _,by rw [hpl];exact hps,by omega,rfl,.inl ⟨rfl,rfl⟩,?_⟩ ?_
 · simp only [bG,keepR,reduceAdd,kS,Nat.reduceBEq,List.map_nil]
   simp only [Int.sub_self]
   rfl
 rintro m S ⟨i,rest,prev,last,rfl,hrl,hrp,hit,hrb,acA,rfl⟩
 have hmn:n.many=(ps.length:Int):=by omega
 have z0:(0≤(at':Int))=True:=eq_true (by omega)
 have zi:(0≤(i:Int))=True:=eq_true (by omega)
 cases rest with
 | nil=>
  have hlt:((ps.length:Int)-((0:Nat):Int)<(ps.length:Int))=False:=eq_false (by omega)
  have hr:mY n none ps=true:=by rw [← hrb];rfl
  simp(maxSteps:=400000)only[↓au,av,BEq.rfl,reduceIte,reduceCtorEq,Nat.reduceLT,reduceAdd,reduceSub,reduceMul,Nat.reduceBEq,reduceLeDiff,reduceToNat,reduceLE,hQ,hat,hmn,z0,List.length_nil,hlt,hr]
 | cons p qs=>
  obtain ⟨pc,qs',h1,h2,h3⟩:=Y.dW (k:=qs.length) hrp
  simp only [List.cons.injEq] at h2
  obtain ⟨hp,rfl⟩:=h2
  have hpc:=Y.dR _ _ _ h1
  simp only [List.length_drop] at hpc
  have hil:i<t.length:=by omega
  have hgi:=List.getElem?_eq_getElem hil
  have hdi:=List.drop_eq_getElem_cons hil
  have JY:=htx _ (List.getElem_mem hil)
  generalize t[i]=pn at hgi hdi JY
  obtain ⟨q,hq⟩:∃ q,pc=q+1:=⟨pc-1,by omega⟩
  have hname:Y.nameOf p=pn.name:=by rw [hp,hdi,hq];rfl
  have hkind:Y.kindOf p=pn.kind:=by rw [hp,hdi,hq];rfl
  have hnx:qF t i=(i+pc:Nat):=xB (Y.mP _ _ _ _ h1 (by omega))
  simp only [List.length_cons] at hrl acA
  have h3':Y.parts qs.length (t.drop (i+pc))=some qs:=by rw [← List.drop_drop];exact h3
  have si:((ps.length:Int)-((qs.length+1:Nat):Int)<(ps.length:Int))=True:=eq_true (by omega)
  have hlt1:(-9223372036854775808≤(ps.length:Int)-((qs.length+1:Nat):Int)+1∧(ps.length:Int)-((qs.length+1:Nat):Int)+1≤9223372036854775807)=True:=eq_true ⟨by omega,by omega⟩
  have e:(ps.length:Int)-((qs.length+1:Nat):Int)+1=(ps.length:Int)-qs.length:=by omega
  rw [Uq,Dv,hname,hkind] at hrb
  have step:mY n (some pn.name) qs=mY n none ps→∃ m',m'<qs.length+1∧∃ (Gi:Nat) (rest:List aY) (prev:Option (List UInt8)) (last:List UInt8),m'=rest.length∧rest.length≤ps.length∧Y.parts rest.length (t.drop Gi)=some rest∧Gi≤t.length∧mY n prev rest=mY n none ps∧
      ((prev=none∧rest.length=ps.length)∨(prev=some last∧rest.length<ps.length))∧
      (⟨dz 74 [(0,aG t),(1,.int .i64 at'),(5,.int .i64 (i+pc:Nat)),(6,.str pn.name),(7,.int .i64 ((ps.length:Int)-((qs.length+1:Nat):Int)+1))],[]⟩:St)=⟨dz 74 [(0,aG t),(1,.int .i64 at'),(5,.int .i64 Gi),(6,.str last),(7,.int .i64 ((ps.length:Int)-rest.length))],[]⟩:=fun hx=>
   ⟨qs.length,by omega,i+pc,qs,some pn.name,pn.name,rfl,by omega,h3',by omega,hx,.inr ⟨rfl,by omega⟩,by rw [e]⟩
  by_cases hb:(pn.kind=9)=(n.kind=1)
  rotate_left 1
  ·
   have hr:mY n none ps=false:=by
    rw [← hrb]
    have:(pn.kind==9)≠(n.kind==1):=fun h=>hb (by rw [Bool.eq_iff_iff,beq_iff_eq,beq_iff_eq] at h;exact propext h)
    simp [this]
   by_cases k9:pn.kind=9
   · have k1:(n.kind=1)=False:=eq_false fun k1=>hb (by simp [k9,k1])
     have k9':=eq_true k9
     simp(maxSteps:=400000)only[↓au,av,BEq.rfl,reduceIte,reduceCtorEq,Nat.reduceLT,reduceAdd,reduceSub,reduceMul,Nat.reduceBEq,reduceLeDiff,reduceToNat,reduceLE,hQ,hat,hmn,z0,zi,hgi,si,k9,k1,hr,tY,iN,iT,AU,bT,eF,reduceEq]
   · have k1:n.kind=1:=Decidable.of_not_not fun k1=>hb (by simp [k9,k1])
     have k9':=eq_false k9
     simp(maxSteps:=400000)only[↓au,av,BEq.rfl,reduceIte,reduceCtorEq,Nat.reduceLT,reduceAdd,reduceSub,reduceMul,Nat.reduceBEq,reduceLeDiff,reduceToNat,reduceLE,hQ,hat,hmn,z0,zi,hgi,si,k9',k1,hr,tY,iN,iT,AU,bT,eF,reduceEq]
  have hbb:(pn.kind==9)=(n.kind==1):=by
   rw [Bool.eq_iff_iff];simpa using hb
  rw [hbb] at hrb
  by_cases k2:n.kind=2
  · have k9:(pn.kind=9)=False:=by rw [hb,k2];simp
    have hk1:¬ n.kind=1:=by omega
    simp only [k2,BEq.rfl,bne_self_eq_false,Bool.true_or,Bool.false_or,Bool.true_and] at hrb
    cases hu:utf pn.name with
    | false=>
     have hr:mY n none ps=false:=by rw [← hrb,hu];simp
     simp(maxSteps:=400000)only[↓au,av,BEq.rfl,reduceIte,reduceCtorEq,Nat.reduceLT,reduceAdd,reduceSub,reduceMul,Nat.reduceBEq,reduceLeDiff,reduceToNat,reduceLE,hQ,hat,hmn,z0,zi,hgi,si,k9,k2,hu,↓gP,hr,tY,iN,iT,AU,bT,eF,reduceEq]
     repeat' (first | (omega) | intro _ | refine ⟨?_,?_⟩)
    | true=>
     rw [hu] at hrb
     rcases acA with ⟨rfl,hq0⟩ | ⟨rfl,hq0⟩
     · have kz:((0:Int)<(ps.length:Int)-((qs.length+1:Nat):Int))=False:=eq_false (by omega)
       have hst:=step (by simpa using hrb)
       simp(maxSteps:=400000)only[↓au,av,BEq.rfl,reduceIte,reduceCtorEq,Nat.reduceLT,reduceAdd,reduceSub,reduceMul,Nat.reduceBEq,reduceLeDiff,reduceToNat,reduceLE,hQ,hat,hmn,z0,zi,hgi,si,hlt1,k9,k2,hu,↓gP,kz,↓fw,hnx,toNat_natCast,tY,iN,iT,AU,bT,eF,reduceEq]
       repeat' (first | exact hst | (omega) | intro _ | refine ⟨?_,?_⟩)
     · have kz:((0:Int)<(ps.length:Int)-((qs.length+1:Nat):Int))=True:=eq_true (by omega)
       simp only [Bool.true_and] at hrb
       cases hbl:Op.bytesLess last pn.name with
       | true=>
        have hne:(pn.name=last)=False:=eq_false fun h=>by rw [h,eT] at hbl;cases hbl
        have aal:=lu _ _ hbl
        have hst:=step (by rw [← hrb,hbl];simp)
        simp(maxSteps:=400000)only[↓au,av,BEq.rfl,reduceIte,reduceCtorEq,Nat.reduceLT,reduceAdd,reduceSub,reduceMul,Nat.reduceBEq,reduceLeDiff,reduceToNat,reduceLE,hQ,hat,hmn,z0,zi,hgi,si,hlt1,k9,k2,hu,↓gP,kz,hne,aal,↓fw,hnx,toNat_natCast,tY,iN,iT,AU,bT,eF,reduceEq]
        repeat' (first | exact hst | (omega) | intro _ | refine ⟨?_,?_⟩)
       | false=>
        have hr:mY n none ps=false:=by rw [← hrb,hbl];simp
        by_cases he:pn.name=last
        · have he':=eq_true he
          have aal:Op.bytesLess pn.name last=false:=by rw [he,eT]
          simp(maxSteps:=400000)only[↓au,av,BEq.rfl,reduceIte,reduceCtorEq,Nat.reduceLT,reduceAdd,reduceSub,reduceMul,Nat.reduceBEq,reduceLeDiff,reduceToNat,reduceLE,hQ,hat,hmn,z0,zi,hgi,si,k9,k2,hu,↓gP,kz,he',aal,hr,tY,iN,iT,AU,bT,eF,reduceEq]
          repeat' (first | (omega) | intro _ | refine ⟨?_,?_⟩)
        · have he':=eq_false he
          have aal:Op.bytesLess pn.name last=true:=by
           rcases wm pn.name last with g | g | g
           · exact g
           · exact absurd g he
           · rw [g] at hbl;cases hbl
          simp(maxSteps:=400000)only[↓au,av,BEq.rfl,reduceIte,reduceCtorEq,Nat.reduceLT,reduceAdd,reduceSub,reduceMul,Nat.reduceBEq,reduceLeDiff,reduceToNat,reduceLE,hQ,hat,hmn,z0,zi,hgi,si,k9,k2,hu,↓gP,kz,he',aal,hr,tY,iN,iT,AU,bT,eF,reduceEq]
          repeat' (first | (omega) | intro _ | refine ⟨?_,?_⟩)
  · have k2':=eq_false k2
    have k2b:(n.kind==2)=false:=by simpa using k2
    have k2n:(n.kind !=2)=true:=by simpa using k2
    simp only [BEq.rfl,k2b,k2n,Bool.true_and,Bool.false_or,Bool.true_or,Bool.and_true] at hrb
    by_cases hnm:pn.name=[]
    · have hnm':=eq_true hnm
      have hst:=step (by rw [← hrb,hnm];simp)
      by_cases k1:n.kind=1
      · have k9:(pn.kind=9)=True:=by rw [hb];exact eq_true k1
        have k1':=eq_true k1
        simp(maxSteps:=400000)only[↓au,av,BEq.rfl,reduceIte,reduceCtorEq,Nat.reduceLT,reduceAdd,reduceSub,reduceMul,Nat.reduceBEq,reduceLeDiff,reduceToNat,reduceLE,hQ,hat,hmn,z0,zi,hgi,si,hlt1,k9,k1,hnm',↓fw,hnx,toNat_natCast,tY,iN,iT,AU,bT,eF,reduceEq]
        repeat' (first | exact hst | (omega) | intro _ | refine ⟨?_,?_⟩)
      · have k1':=eq_false k1
        have k9:(pn.kind=9)=False:=by rw [hb];exact k1'
        simp(maxSteps:=400000)only[↓au,av,BEq.rfl,reduceIte,reduceCtorEq,Nat.reduceLT,reduceAdd,reduceSub,reduceMul,Nat.reduceBEq,reduceLeDiff,reduceToNat,reduceLE,hQ,hat,hmn,z0,zi,hgi,si,hlt1,k9,k1',k2',hnm',↓fw,hnx,toNat_natCast,tY,iN,iT,AU,bT,eF,reduceEq]
        repeat' (first | exact hst | (omega) | intro _ | refine ⟨?_,?_⟩)
    · have hnm':=eq_false hnm
      have hr:mY n none ps=false:=by rw [← hrb];simp [hnm]
      by_cases k1:n.kind=1
      · have k9:(pn.kind=9)=True:=by rw [hb];exact eq_true k1
        simp(maxSteps:=400000)only[↓au,av,BEq.rfl,reduceIte,reduceCtorEq,Nat.reduceLT,reduceAdd,reduceSub,reduceMul,Nat.reduceBEq,reduceLeDiff,reduceToNat,reduceLE,hQ,hat,hmn,z0,zi,hgi,si,k9,k1,hnm',hr,tY,iN,iT,AU,bT,eF,reduceEq]
      · have k1':=eq_false k1
        have k9:(pn.kind=9)=False:=by rw [hb];exact k1'
        simp(maxSteps:=400000)only[↓au,av,BEq.rfl,reduceIte,reduceCtorEq,Nat.reduceLT,reduceAdd,reduceSub,reduceMul,Nat.reduceBEq,reduceLeDiff,reduceToNat,reduceLE,hQ,hat,hmn,z0,zi,hgi,si,k9,k1',k2',hnm',hr,tY,iN,iT,AU,bT,eF,reduceEq]
def iE:dJ:=fun args objs K=>match args with
 | [a0,.int .i64 i]=>fU aG a0 (HK.mk:HK fun t=>(0≤i)∧(i.toNat<t.length)∧(vz t)∧(Y.One t)∧K (.bool (AQ t i.toNat)) objs 0)
 | _=>False
theorem N9:aD Tryz.prog 71 (iE):=by
 intro args objs K h
 unfold iE at h
 split at h
 · rename_i a0 i
   obtain ⟨t,rfl,h1,h2,h3,h4,hk⟩:=h
   exact ⟨_,_,_,.pure _ rfl ((by have:=N8 t i.toNat _ h3 h4 (List.getElem?_eq_getElem h2);rwa [Int.toNat_of_nonneg h1] at this)),hk⟩
 · exact h.elim
theorem Ur (nm:List UInt8) (o:Nat) (q:aY) (qs:List aY):q9 nm o (q::qs)=if Y.nameOf q=nm then some (o,q) else q9 nm (o+q.length) qs:=rfl
theorem Fj (t:aY) (hs:vz t) (ho:Y.One t):∀ (p:List Stp) (at':Nat),at'<t.length→p.length≤1000000→ai Tryz.prog 73 [aG t,.int .i64 at',iV p] [] (.int .i64 (jW t at' p)) []
 | [],at',hat,hp=>by
  refine rO.a_ (T:=aP Tryz.prog []) 0 hD (aj ah) aU (by decide) fun Q hQ=>?_
  have hr:jW t at' []=at':=by simp [jW,lC]
  have c00:((0:Nat):Int)=0:=rfl
  (conv=>arg 4;cbv);simp(maxSteps:=400000)only[↓au,av,BEq.rfl,reduceIte,reduceCtorEq,Nat.reduceLT,reduceAdd,reduceSub,reduceMul,Nat.reduceBEq,reduceLeDiff,reduceToNat,reduceLE,hQ,hr,c00]
 | s::p,at',hat,hp=>by
  have hok:aD Tryz.prog 73 (fun args objs K=>∃ i:Int,args=[aG t,.int .i64 i,iV p]∧0≤i∧i<t.length∧K (.int .i64 (jW t i.toNat p)) objs 0):=by
   rintro args objs K ⟨i,rfl,h1,h2,hk⟩
   have:=Fj t hs ho p i.toNat (by omega) (by simp only [List.length_cons] at hp;omega)
   rw [Int.toNat_of_nonneg h1] at this
   exact ⟨_,_,_,.pure _ rfl this,hk⟩
  refine rO.a_ (T:=aP Tryz.prog [(45,fw),(73,_)]) 0 hD (aj (af mZ (af hok ah))) aU (by decide) fun Q hQ=>?_
  have hl:=hs.len
  have hgt:=List.getElem?_eq_getElem hat
  generalize t[at']=n at hgt
  obtain ⟨ps,c,hm,hmL,hps,hsk,hfl,hone,hsub,hle⟩:=Y.vw ho hgt
  have hpl:=Y.bB _ _ _ hps
  have hpo:Y.partsOf n ps.flatten=ps:=by
   have:=Y.iO ps hone
   rw [hpl] at this
   simp [Y.partsOf,this]
  have z0:(0≤(at':Int))=True:=eq_true (by omega)
  have hg0:(s::p)[0]?=some s:=rfl
  have hdr:(s::p).drop 1=p:=rfl
  have hpn:(((s::p).length:Int)=0)=False:=eq_false (by simp only [List.length_cons];omega)
  have hwl:1≤(s::p).length:=by simp
  generalize hsp:s::p=w at *
  by_cases hk:n.kind=2∧s.part=false
  rotate_left 1
  · have hr:jW t at' w=-1:=by
     simp only [jW,hsub,← hsp,lC];rw [if_neg hk]
    by_cases k2:n.kind=2
    · have hpt:s.part=true:=by
       cases h:s.part with
       | true=>rfl
       | false=>exact absurd ⟨k2,h⟩ hk
      (conv=>arg 4;cbv);simp(maxSteps:=400000)only[↓au,av,BEq.rfl,reduceIte,reduceCtorEq,Nat.reduceLT,reduceAdd,reduceSub,reduceMul,Nat.reduceBEq,reduceLeDiff,reduceToNat,reduceLE,hQ,hpn,hgt,z0,k2,hg0,hpt,hr,reduceEq]
    · have k2':=eq_false k2
      (conv=>arg 4;cbv);simp(maxSteps:=400000)only[↓au,av,BEq.rfl,reduceIte,reduceCtorEq,Nat.reduceLT,reduceAdd,reduceSub,reduceMul,Nat.reduceBEq,reduceLeDiff,reduceToNat,reduceLE,hQ,hpn,hgt,z0,k2',hr]
  obtain ⟨k2,hpt⟩:=hk
  have hr:jW t at' w=match q9 s.name 1 ps with | some (o,q)=>(match (lC p q).map (o+·) with | some j=>((at'+j:Nat):Int) | none=>-1) | none=>-1:=by
   simp only [jW,hsub,← hsp,lC]
   rw [if_pos ⟨k2,hpt⟩,hpo]
   cases q9 s.name 1 ps with
   | none=>rfl
   | some oq=>rfl
  (conv=>arg 4;cbv);simp(maxSteps:=400000)only[↓au,av,BEq.rfl,reduceIte,reduceCtorEq,Nat.reduceLT,reduceAdd,reduceSub,reduceMul,Nat.reduceBEq,reduceLeDiff,reduceToNat,reduceLE,hQ,hpn,hgt,z0,k2,hg0,hpt,reduceEq]
  refine ⟨⟨by omega,by omega⟩,?_⟩
  refine aF (fun m S=>∃ (i:Nat) (rest:List aY),m=rest.length∧rest.length≤ps.length∧at'+1≤i∧Y.parts rest.length (t.drop i)=some rest∧i≤t.length∧q9 s.name (i-at') rest=q9 s.name 1 ps∧
   S=⟨dz 54 [(0,aG t),(1,.int .i64 at'),(2,iV w),(7,.int .i64 i),(8,.int .i64 ((ps.length:Int)-rest.length))],[]⟩) ps.length ⟨at'+1,ps,rfl,Nat.le_refl _,Nat.le_refl _,by rw [hpl];exact hps,by omega,by rw [show at'+1-at'=1 by omega],?_⟩ ?_
  · simp only [bG,keepR,reduceAdd,kS,Nat.reduceBEq,List.map_nil]
    simp
  rintro m S ⟨i,rest,rfl,hrl,hia,hrp,hit,hrb,rfl⟩
  have hmn:n.many=(ps.length:Int):=by omega
  have zi:(0≤(i:Int))=True:=eq_true (by omega)
  cases rest with
  | nil=>
   have hlt:((ps.length:Int)-((0:Nat):Int)<(ps.length:Int))=False:=eq_false (by omega)
   have hr':jW t at' w=-1:=by rw [hr,← hrb];rfl
   simp(maxSteps:=400000)only[↓au,av,BEq.rfl,reduceIte,reduceCtorEq,Nat.reduceLT,reduceAdd,reduceSub,reduceMul,Nat.reduceBEq,reduceLeDiff,reduceToNat,reduceLE,hQ,hgt,hmn,z0,List.length_nil,hlt,hr']
  | cons q qs=>
   obtain ⟨pc,qs',h1,h2,h3⟩:=Y.dW (k:=qs.length) hrp
   simp only [List.cons.injEq] at h2
   obtain ⟨hp',rfl⟩:=h2
   have hpc:=Y.dR _ _ _ h1
   simp only [List.length_drop] at hpc
   have hil:i<t.length:=by omega
   have hgi:=List.getElem?_eq_getElem hil
   have hdi:=List.drop_eq_getElem_cons hil
   generalize t[i]=pn at hgi hdi
   obtain ⟨k,hk⟩:∃ k,pc=k+1:=⟨pc-1,by omega⟩
   have hname:Y.nameOf q=pn.name:=by rw [hp',hdi,hk];rfl
   have hnx:qF t i=(i+pc:Nat):=xB (Y.mP _ _ _ _ h1 (by omega))
   have hsq:Y.qD t i=q:=by unfold Y.qD;rw [h1];exact hp'.symm
   have hql:q.length=pc:=by rw [hp',List.length_take,List.length_drop];omega
   simp only [List.length_cons] at hrl
   have h3':Y.parts qs.length (t.drop (i+pc))=some qs:=by rw [← List.drop_drop];exact h3
   have si:((ps.length:Int)-((qs.length+1:Nat):Int)<(ps.length:Int))=True:=eq_true (by omega)
   have hlt1:(-9223372036854775808≤(ps.length:Int)-((qs.length+1:Nat):Int)+1∧(ps.length:Int)-((qs.length+1:Nat):Int)+1≤9223372036854775807)=True:=eq_true ⟨by omega,by omega⟩
   have e:(ps.length:Int)-((qs.length+1:Nat):Int)+1=(ps.length:Int)-qs.length:=by omega
   rw [Ur,hname] at hrb
   by_cases hnm:pn.name=s.name
   · have hnm':=eq_true hnm
     rw [if_pos hnm] at hrb
     have hr':jW t at' w=jW t i p:=by
      rw [hr,← hrb]
      simp only [jW,hsq]
      cases lC p q with
      | none=>rfl
      | some j=>simp only [Option.map_some];omega
     simp(maxSteps:=400000)only[↓au,av,BEq.rfl,reduceIte,reduceCtorEq,Nat.reduceLT,reduceAdd,reduceSub,reduceMul,Nat.reduceBEq,reduceLeDiff,reduceToNat,reduceLE,hQ,hgt,hmn,z0,zi,hgi,hg0,si,hnm',hr',List.take_length,hdr,toNat_natCast]
     repeat' (first | (omega) | exact rfl | exact ⟨(i:Int),rfl,by omega,by omega,by rw [toNat_natCast]⟩ | intro _ | refine ⟨?_,?_⟩)
   · have hnm':=eq_false hnm
     rw [if_neg hnm] at hrb
     simp(maxSteps:=400000)only[↓au,av,BEq.rfl,reduceIte,reduceCtorEq,Nat.reduceLT,reduceAdd,reduceSub,reduceMul,Nat.reduceBEq,reduceLeDiff,reduceToNat,reduceLE,hQ,hgt,hmn,z0,zi,hgi,hg0,si,hlt1,hnm',↓fw,hnx,toNat_natCast]
     repeat' (first | (omega) | exact ⟨qs.length,by omega,i+pc,qs,rfl,by omega,by omega,h3',by omega,by rw [show i+pc-at'=i-at'+q.length by omega];exact hrb,by rw [e]⟩ | intro _ | refine ⟨?_,?_⟩)
def kM:dJ:=fun args objs K=>match args with
 | [a0,.int .i64 i,a2]=>fU aG a0 (HK.mk:HK fun t=>fU iV a2 (HK.mk:HK fun p=>(0≤i)∧(i<t.length)∧(vz t)∧(Y.One t)∧(p.length≤1000000)∧K (.int .i64 (jW t i.toNat p)) objs 0))
 | _=>False
theorem N_:aD Tryz.prog 73 (kM):=by
 intro args objs K h
 unfold kM at h
 split at h
 · rename_i a0 i a2
   obtain ⟨t,rfl,p,rfl,h1,h2,h3,h4,h5,hk⟩:=h
   exact ⟨_,_,_,.pure _ rfl ((by have:=Fj t h3 h4 p i.toNat (by omega) h5;rwa [Int.toNat_of_nonneg h1] at this)),hk⟩
 · exact h.elim
end Lp
namespace Lp
open Go Go.Proofs
open List (length_drop map_nil)
open Nat (reduceAdd reduceLeDiff reduceMul reduceSub)
open Int (reduceLE reduceToNat toNat_natCast)
theorem Us {x:fE}(h:dh bC x=true) (hk:x.kind=7∨x.kind=8):x.many=1:=by
 rcases hk with k | k <;> simp only [dh,k,Int.reduceEq,if_false,if_true,or_false,or_true,false_or,true_or,Bool.and_eq_true,beq_iff_eq] at h <;> exact h.1.1.1
theorem X5 {t:aY}{i:Nat}{x:fE}(ho:Y.One t) (hx:t[i]?=some x) (hm:(x.kind=7∨x.kind=8)→x.many=1) :
  (x.kind=7∨x.kind=8→i+1<t.length∧(lg t i=true↔0≤jW t (i+1) (dF x.s)∧∃ y,t[(jW t (i+1) (dF x.s)).toNat]?=some y∧y.kind=1))∧(¬ (x.kind=7∨x.kind=8)→lg t i=true):=by
 obtain ⟨ps,c,h1,h2,h3,h4,h5,h6,h7,h8⟩:=Y.vw ho hx
 have hl:=(List.getElem?_eq_some_iff.1 hx).1
 have hd:=List.drop_eq_getElem_cons hl
 have he:lg t i=GJ dF x ps:=by
  rw [List.getElem?_eq_getElem hl] at hx
  cases hx
  simp only [lg,hd,h3]
 rw [he]
 constructor
 · intro hk
   rw [hm hk] at h3 h4
   obtain ⟨pc,qs,g1,g2,g3⟩:=Y.dW (k:=0) h3
   have hq:qs=[]:=by simpa [Y.parts] using g3.symm
   subst hq
   have hil:i+1<t.length:=by
    have:=Y.dR _ _ _ g1
    rw [length_drop] at this;omega
   have hsub:Y.qD t (i+1)=(t.drop (i+1)).take pc:=by unfold Y.qD;rw [g1]
   refine ⟨hil,?_⟩
   rw [← aaj ho hil,hsub]
   simp only [GJ,if_pos hk,g2]
 · intro hk
   simp only [GJ,if_neg hk]
theorem Oa (t:aY) (hs:vz t):ai Tryz.prog 48 [aG t] [] (.bool (gu t)) []:=by
 have hl:=hs.len
 refine Az.a_ (T:=aP Tryz.prog [(45,fw),(70,gI),(71,iE),(72,fu),(73,kM)]) 0 hD (aj (af mZ (af Kn (af N9 (af uY (af N_ ah)))))) aU (by decide) fun Q hQ=>?_
 rcases Nat.eq_zero_or_pos t.length with hv | hv
 · have hr:gu t=false:=by
    have:t=[]:=List.length_eq_zero_iff.1 hv
    rw [this];rfl
   have hv':((t.length:Int)=0)=True:=eq_true (by omega)
   (conv=>arg 4;cbv);simp(maxSteps:=400000)only[↓au,av,BEq.rfl,reduceIte,reduceCtorEq,Nat.reduceLT,reduceAdd,reduceSub,reduceMul,Nat.reduceBEq,reduceLeDiff,reduceToNat,reduceLE,hQ,hr,hv']
 have hv':((t.length:Int)=0)=False:=eq_false (by omega)
 obtain ⟨n0,r0,FJ⟩:∃ n r,t=n::r:=by
  cases t with
  | nil=>simp at hv
  | cons n r=>exact ⟨n,r,rfl⟩
 have hg0:t[0]?=some n0:=by rw [FJ];rfl
 have hnm:Y.nameOf t=n0.name:=by rw [FJ];rfl
 have hkd:Y.kindOf t=n0.kind:=by rw [FJ];rfl
 have hne:t.isEmpty=false:=by rw [FJ];rfl
 by_cases hname:n0.name=[]
 rotate_left 1
 · have hr:gu t=false:=by simp [gu,hnm,hname]
   (conv=>arg 4;cbv);simp(maxSteps:=400000)only[↓au,av,BEq.rfl,reduceIte,reduceCtorEq,Nat.reduceLT,reduceAdd,reduceSub,reduceMul,Nat.reduceBEq,reduceLeDiff,reduceToNat,reduceLE,hQ,hr,hv',hg0,hname]
 by_cases hk9:n0.kind=9
 · have hr:gu t=false:=by simp [gu,hkd,hk9]
   (conv=>arg 4;cbv);simp(maxSteps:=400000)only[↓au,av,BEq.rfl,reduceIte,reduceCtorEq,Nat.reduceLT,reduceAdd,reduceSub,reduceMul,Nat.reduceBEq,reduceLeDiff,reduceToNat,reduceLE,hQ,hr,hv',hg0,hname,hk9]
 have aez:=eq_false hk9
 have hz:Int.toNat 0=0:=rfl
 by_cases hnx:qF t 0=(t.length:Int)
 rotate_left 1
 · have hr:gu t=false:=by
    have:Y.iA t.length t 1≠some t.length:=fun h=>hnx (by rw [xB (i:=0) (by simpa using h)];simp)
    simp [gu,this]
   have afn:=eq_false hnx
   (conv=>arg 4;cbv);simp(maxSteps:=400000)only[↓au,av,BEq.rfl,reduceIte,reduceCtorEq,Nat.reduceLT,reduceAdd,reduceSub,reduceMul,Nat.reduceBEq,reduceLeDiff,reduceToNat,reduceLE,hQ,hr,hv',hg0,hname,aez,hz,↓fw,afn]
   exact ⟨Nat.zero_le _,hl⟩
 have hn:Y.iA t.length t 1=some t.length:=by
  unfold qF at hnx
  rw [List.drop_zero] at hnx
  cases hx:Y.iA t.length t 1 with
  | none=>rw [hx] at hnx;simp only at hnx;omega
  | some c=>rw [hx] at hnx;simp only at hnx;congr 1;omega
 have ho:Y.One t:=Y.ol _ _ _ _ hn
 have hr:gu t=Y.fM (rR bC dF) t:=by
  simp [gu,hnm,hkd,hname,hk9,hn,hne]
 (conv=>arg 4;cbv);simp(maxSteps:=400000)only[↓au,av,BEq.rfl,reduceIte,reduceCtorEq,Nat.reduceLT,reduceAdd,reduceSub,reduceMul,Nat.reduceBEq,reduceLeDiff,reduceToNat,reduceLE,hQ,hv',hg0,hname,aez,hz,↓fw,hnx]
 refine ⟨Nat.zero_le _,hl,?_⟩
 refine aF (fun m S=>∃ i:Nat,i+m=t.length∧Y.fM (rR bC dF) (t.drop i)=Y.fM (rR bC dF) t∧S=⟨dz 87 [(0,aG t),(3,.int .i64 i)],[]⟩) t.length ⟨0,by omega,rfl,?_⟩ ?_
 · simp only [bG,keepR,reduceAdd,kS,Nat.reduceBEq,map_nil]
   rfl
 rintro m S ⟨i,him,hgd,rfl⟩
 rcases Nat.lt_or_ge i t.length with h | h
 · have hg:=List.getElem?_eq_getElem h
   have htx:=hs.txt _ (List.getElem_mem h)
   generalize t[i]=n at hg htx
   have hd:=Uk hg
   rw [hgd,← hr] at hd
   have zi:(0≤(i:Int))=True:=eq_true (by omega)
   have OL:(0≤(i:Int)+1)=True:=eq_true (by omega)
   have Nn:((i:Int)+1).toNat=i+1:=by omega
   have hlt:((i:Int)<(t.length:Int))=True:=eq_true (by omega)
   have next:gu t=Y.fM (rR bC dF) (t.drop (i+1))→∃ m',m'<m∧∃ Gi:Nat,Gi+m'=t.length∧Y.fM (rR bC dF) (t.drop Gi)=Y.fM (rR bC dF) t∧(⟨dz 87 [(0,aG t),(3,.int .i64 ((i:Int)+1))],[]⟩:St)=⟨dz 87 [(0,aG t),(3,.int .i64 Gi)],[]⟩:=fun e=>
    ⟨m-1,by omega,i+1,by omega,by rw [← e,hr],rfl⟩
   cases hp:dh bC n
   · have hr2:gu t=false:=by rw [hd,hp];rfl
     simp(maxSteps:=400000)only[↓au,av,BEq.rfl,reduceIte,reduceCtorEq,Nat.reduceLT,reduceAdd,reduceSub,reduceMul,Nat.reduceBEq,reduceLeDiff,reduceToNat,reduceLE,hQ,hg,↓gI,↓iE,hp,zi,hlt,hr2]
     exact ⟨htx.1,htx.2.2⟩
   cases hq:AQ t i
   · have hr2:gu t=false:=by rw [hd,hp,hq];rfl
     simp(maxSteps:=400000)only[↓au,av,BEq.rfl,reduceIte,reduceCtorEq,Nat.reduceLT,reduceAdd,reduceSub,reduceMul,Nat.reduceBEq,reduceLeDiff,reduceToNat,reduceLE,hQ,hg,↓gI,↓iE,toNat_natCast,hp,hq,zi,hlt,hr2]
     exact ⟨htx.1,htx.2.2,h,hs,ho⟩
   rw [hp,hq,Bool.true_and,Bool.true_and] at hd
   obtain ⟨l1,l2⟩:=X5 ho hg (Us hp)
   by_cases hk:n.kind=7∨n.kind=8
   rotate_left 1
   · have k7:(n.kind=7)=False:=eq_false fun h=>hk (.inl h)
     have k8:(n.kind=8)=False:=eq_false fun h=>hk (.inr h)
     rw [l2 hk,Bool.true_and] at hd
     have hst:=next hd
     simp(maxSteps:=400000)only[↓au,av,BEq.rfl,reduceIte,reduceCtorEq,Nat.reduceLT,reduceAdd,reduceSub,reduceMul,Nat.reduceBEq,reduceLeDiff,reduceToNat,reduceLE,hQ,hg,↓gI,↓iE,toNat_natCast,hp,hq,zi,hlt,k7,k8]
     repeat' (first | omega | exact htx.1 | exact htx.2.2 | exact hs | exact ho | exact hst | refine ⟨?_,?_⟩)
   obtain ⟨hil,ZK⟩:=l1 hk
   have hpl:=Ep n.s
   have hlr:=aai (p:=dF n.s) ho hil
   by_cases h7:n.kind=7
   · have k7:=eq_true h7
     generalize hL:jW t (i+1) (dF n.s)=L at *
     by_cases hn0:L<0
     · have Ob:=eq_true hn0
       have hr2:gu t=false:=by
        rw [hd]
        have:lg t i=false:=by
         cases hx:lg t i with
         | false=>rfl
         | true=>exact absurd (ZK.1 hx).1 (by omega)
        rw [this];rfl
       simp(maxSteps:=400000)only[↓au,av,BEq.rfl,reduceIte,reduceCtorEq,Nat.reduceLT,reduceAdd,reduceSub,reduceMul,Nat.reduceBEq,reduceLeDiff,reduceToNat,reduceLE,hQ,hg,↓gI,↓iE,↓fu,↓kM,dX,toNat_natCast,Nn,hp,hq,zi,hlt,k7,hL,Ob,hr2]
       repeat' (first | omega | exact htx.1 | exact htx.2.2 | exact hs | exact ho | refine ⟨?_,?_⟩)
     · have Ob:=eq_false hn0
       obtain ⟨j,rfl⟩:∃ j:Nat,L=j:=⟨L.toNat,by omega⟩
       rw [toNat_natCast] at ZK
       have hjl:j<t.length:=by omega
       have hgj:=List.getElem?_eq_getElem hjl
       have zj:(0≤(j:Int))=True:=eq_true (by omega)
       generalize t[j]=y at hgj
       by_cases hk1:y.kind=1
       · have hla:lg t i=true:=ZK.2 ⟨by omega,y,hgj,hk1⟩
         rw [hla,Bool.true_and] at hd
         have hst:=next hd
         simp(maxSteps:=400000)only[↓au,av,BEq.rfl,reduceIte,reduceCtorEq,Nat.reduceLT,reduceAdd,reduceSub,reduceMul,Nat.reduceBEq,reduceLeDiff,reduceToNat,reduceLE,hQ,hg,↓gI,↓iE,↓fu,↓kM,dX,toNat_natCast,Nn,hp,hq,zi,hlt,k7,hL,Ob,zj,hgj,hk1]
         repeat' (first | omega | exact htx.1 | exact htx.2.2 | exact hs | exact ho | exact hst | refine ⟨?_,?_⟩)
       · have Ut:=eq_false hk1
         have hr2:gu t=false:=by
          rw [hd]
          have:lg t i=false:=by
           cases hx:lg t i with
           | false=>rfl
           | true=>obtain ⟨_,z,hz1,hz2⟩:=ZK.1 hx;rw [hgj] at hz1;cases hz1;exact absurd hz2 hk1
          rw [this];rfl
         simp(maxSteps:=400000)only[↓au,av,BEq.rfl,reduceIte,reduceCtorEq,Nat.reduceLT,reduceAdd,reduceSub,reduceMul,Nat.reduceBEq,reduceLeDiff,reduceToNat,reduceLE,hQ,hg,↓gI,↓iE,↓fu,↓kM,dX,toNat_natCast,Nn,hp,hq,zi,hlt,k7,hL,Ob,zj,hgj,Ut,hr2]
         repeat' (first | omega | exact htx.1 | exact htx.2.2 | exact hs | exact ho | refine ⟨?_,?_⟩)
   · have k7:=eq_false h7
     have k8:=eq_true (hk.resolve_left h7)
     generalize hL:jW t (i+1) (dF n.s)=L at *
     by_cases hn0:L<0
     · have Ob:=eq_true hn0
       have hr2:gu t=false:=by
        rw [hd]
        have:lg t i=false:=by
         cases hx:lg t i with
         | false=>rfl
         | true=>exact absurd (ZK.1 hx).1 (by omega)
        rw [this];rfl
       simp(maxSteps:=400000)only[↓au,av,BEq.rfl,reduceIte,reduceCtorEq,Nat.reduceLT,reduceAdd,reduceSub,reduceMul,Nat.reduceBEq,reduceLeDiff,reduceToNat,reduceLE,hQ,hg,↓gI,↓iE,↓fu,↓kM,dX,toNat_natCast,Nn,hp,hq,zi,hlt,k7,k8,hL,Ob,hr2]
       repeat' (first | omega | exact htx.1 | exact htx.2.2 | exact hs | exact ho | refine ⟨?_,?_⟩)
     · have Ob:=eq_false hn0
       obtain ⟨j,rfl⟩:∃ j:Nat,L=j:=⟨L.toNat,by omega⟩
       rw [toNat_natCast] at ZK
       have hjl:j<t.length:=by omega
       have hgj:=List.getElem?_eq_getElem hjl
       have zj:(0≤(j:Int))=True:=eq_true (by omega)
       generalize t[j]=y at hgj
       by_cases hk1:y.kind=1
       · have hla:lg t i=true:=ZK.2 ⟨by omega,y,hgj,hk1⟩
         rw [hla,Bool.true_and] at hd
         have hst:=next hd
         simp(maxSteps:=400000)only[↓au,av,BEq.rfl,reduceIte,reduceCtorEq,Nat.reduceLT,reduceAdd,reduceSub,reduceMul,Nat.reduceBEq,reduceLeDiff,reduceToNat,reduceLE,hQ,hg,↓gI,↓iE,↓fu,↓kM,dX,toNat_natCast,Nn,hp,hq,zi,hlt,k7,k8,hL,Ob,zj,hgj,hk1]
         repeat' (first | omega | exact htx.1 | exact htx.2.2 | exact hs | exact ho | exact hst | refine ⟨?_,?_⟩)
       · have Ut:=eq_false hk1
         have hr2:gu t=false:=by
          rw [hd]
          have:lg t i=false:=by
           cases hx:lg t i with
           | false=>rfl
           | true=>obtain ⟨_,z,hz1,hz2⟩:=ZK.1 hx;rw [hgj] at hz1;cases hz1;exact absurd hz2 hk1
          rw [this];rfl
         simp(maxSteps:=400000)only[↓au,av,BEq.rfl,reduceIte,reduceCtorEq,Nat.reduceLT,reduceAdd,reduceSub,reduceMul,Nat.reduceBEq,reduceLeDiff,reduceToNat,reduceLE,hQ,hg,↓gI,↓iE,↓fu,↓kM,dX,toNat_natCast,Nn,hp,hq,zi,hlt,k7,k8,hL,Ob,zj,hgj,Ut,hr2]
         repeat' (first | omega | exact htx.1 | exact htx.2.2 | exact hs | exact ho | refine ⟨?_,?_⟩)
 · have hlt:((i:Int)<(t.length:Int))=False:=eq_false (by omega)
   have hr2:gu t=true:=by rw [hr,← hgd,List.drop_eq_nil_of_le h];rfl
   simp(maxSteps:=400000)only[↓au,av,BEq.rfl,reduceIte,reduceCtorEq,Nat.reduceLT,reduceAdd,reduceSub,reduceMul,Nat.reduceBEq,reduceLeDiff,reduceToNat,reduceLE,hQ,hlt,hr2]
def qI:dJ:=fun args objs K=>match args with
 | [a0]=>fU aG a0 (HK.mk:HK fun t=>(vz t)∧K (.bool (gu t)) objs 0)
 | _=>False
theorem Ko:aD Tryz.prog 48 (qI):=by
 intro args objs K h
 unfold qI at h
 split at h
 · rename_i a0
   obtain ⟨t,rfl,h1,hk⟩:=h
   exact ⟨_,_,_,.pure _ rfl (Oa t h1),hk⟩
 · exact h.elim
theorem acB:(dU ⟨0,aV⟩).cells.length=7∧(∀ a,(dU a).cells.length=7)∧(∀ a,(dU a).cells.all PV.storable=true):=⟨rfl,fun _=>rfl,fun _=>rfl⟩
theorem Oc (t:aY) (at':Nat) (n:fE) (hl:t.length≤1000000) (hat:t[at']?=some n) (hm:n.kind=1→0≤n.many∧at'+1+n.many.toNat≤t.length) (hb:-1000000000≤n.many∧n.many≤1000000000) :
  ai Tryz.prog 49 [aG t,.int .i64 at'] [] (bW (if n.kind=1 then ((t.drop (at'+1)).take n.many.toNat).map iH else [])) []:=by
 have abj:=(List.getElem?_eq_some_iff.1 hat).1
 have z0:(0≤(at':Int))=True:=eq_true (by omega)
 generalize hR:(if n.kind=1 then ((t.drop (at'+1)).take n.many.toNat).map iH else [])=R
 refine AA.a_ (T:=aP Tryz.prog []) 1 hD (aj ah) aU (by decide) fun Q hQ=>?_
 (conv=>arg 4;cbv);simp(maxSteps:=400000)only[↓au,av,BEq.rfl,reduceIte,reduceCtorEq,Nat.reduceLT,reduceAdd,reduceSub,reduceMul,Nat.reduceBEq,reduceLeDiff,reduceToNat,reduceLE,hQ,atB,adl,acB]
 refine ⟨⟨by omega,by omega⟩,?_⟩
 by_cases hk:n.kind=1
 rotate_left 1
 · rw [if_neg hk] at hR
   subst hR
   have hk':=eq_false hk
   refine aF (fun m S=>∃ _u:Unit,S=⟨dz 44 [(0,aG t),(1,.int .i64 at'),(5,.bA 0 1),(6,.int .i64 ((at':Int)+1))],[⟨87,7,[],true,1⟩]⟩) 0 ⟨(),?_⟩ ?_
   · simp only [bG,keepR,reduceAdd,kS,Nat.reduceBEq,map_nil]
   rintro m S ⟨_,rfl⟩
   have e0:∀ ver,fC 1 0 [⟨87,7,[],true,ver⟩] (.bA 0 ver)=bW []:=fun ver=>NZ [] ver 87 []
   by_cases hgt:(at':Int)+1≤(at':Int)+n.many
   · have ado:=eq_true hgt
     simp(maxSteps:=400000)only[↓au,av,BEq.rfl,reduceIte,reduceCtorEq,Nat.reduceLT,reduceAdd,reduceSub,reduceMul,Nat.reduceBEq,reduceLeDiff,reduceToNat,reduceLE,hQ,hat,z0,hk',ado,e0]
     repeat' (first | (omega) | exact rfl | intro _ | refine ⟨?_,?_⟩)
   · have ado:=eq_false hgt
     simp(maxSteps:=400000)only[↓au,av,BEq.rfl,reduceIte,reduceCtorEq,Nat.reduceLT,reduceAdd,reduceSub,reduceMul,Nat.reduceBEq,reduceLeDiff,reduceToNat,reduceLE,hQ,hat,z0,hk',ado,e0]
     repeat' (first | (omega) | exact rfl | intro _ | refine ⟨?_,?_⟩)
 rw [if_pos hk] at hR
 subst hR
 obtain ⟨hm0,hm1⟩:=hm hk
 have hk':=eq_true hk
 refine aF (fun m S=>∃ (i ver:Nat),i+m=n.many.toNat∧S=⟨dz 44 [(0,aG t),(1,.int .i64 at'),(5,.bA 0 ver),(6,.int .i64 ((at':Int)+1+i))],[⟨87,7,(((t.drop (at'+1)).take i).map iH).map dU,true,ver⟩]⟩) n.many.toNat ⟨0,1,by omega,?_⟩ ?_
 · simp only [bG,keepR,reduceAdd,kS,Nat.reduceBEq,map_nil]
   simp
 rintro m S ⟨i,ver,him,rfl⟩
 rcases Nat.lt_or_ge i n.many.toNat with h | h
 · have hlt:((at':Int)+1+(i:Int)≤(at':Int)+n.many)=True:=eq_true (by omega)
   have hil:at'+1+i<t.length:=by omega
   have ti:((at':Int)+1+(i:Int)).toNat=at'+1+i:=by omega
   have zi:(0≤(at':Int)+1+(i:Int))=True:=eq_true (by omega)
   have hgi:=List.getElem?_eq_getElem hil
   have hgd:(t.drop (at'+1))[i]?=some t[at'+1+i]:=by rw [List.getElem?_drop];exact hgi
   generalize t[at'+1+i]=x at hgi hgd
   have htk:((t.drop (at'+1)).take (i+1)).map iH=((t.drop (at'+1)).take i).map iH++[⟨x.n,x.c⟩]:=by
    rw [List.take_add_one,hgd];simp [iH]
   have tl:((t.drop (at'+1)).take i).length=i:=by rw [List.length_take,length_drop];omega
   simp(maxSteps:=400000)only[↓au,av,BEq.rfl,reduceIte,reduceCtorEq,Nat.reduceLT,reduceAdd,reduceSub,reduceMul,Nat.reduceBEq,reduceLeDiff,reduceToNat,reduceLE,hQ,hat,z0,hk',hlt,ti,zi,hgi,atB,adl,acB,tl]
   repeat' (first | (omega) | exact ⟨m-1,by omega,i+1,ver+1,by omega,by rw [htk,List.map_append,List.map_cons,map_nil,Int.natCast_add,Int.natCast_one,Int.add_assoc]⟩ | exact rfl | intro _ | refine ⟨?_,?_⟩)
 · have hi:i=n.many.toNat:=by omega
   subst hi
   have hlt:((at':Int)+1+(n.many.toNat:Int)≤(at':Int)+n.many)=False:=eq_false (by omega)
   simp(maxSteps:=400000)only[↓au,av,BEq.rfl,reduceIte,reduceCtorEq,Nat.reduceLT,reduceAdd,reduceSub,reduceMul,Nat.reduceBEq,reduceLeDiff,reduceToNat,reduceLE,hQ,hat,z0,hk',hlt,NZ]
   repeat' (first | (omega) | exact rfl | intro _ | refine ⟨?_,?_⟩)
def lN (t:aY) (i:Nat):List lQ:=match t[i]? with
 | some n=>if n.kind=1 then ((t.drop (i+1)).take n.many.toNat).map iH else []
 | none=>[]
theorem Kq (t:aY) (i:Int) (h0:0≤i) (hi:i.toNat<t.length) (hl:t.length≤1000000) (ho:Y.One t):ai Tryz.prog 49 [aG t,.int .i64 i] [] (bW (lN t i.toNat)) []:=by
 have hg:=List.getElem?_eq_getElem hi
 generalize t[i.toNat]=n at hg
 obtain ⟨ps,c,h1,h2,h3,h4,h5,h6,h7,h8⟩:=Y.vw ho hg
 have hpl:=Y.bB _ _ _ h3
 have hfl:ps.length≤ps.flatten.length:=by
  have:∀ qs:List aY,(∀ p ∈ qs,Y.One p)→qs.length≤qs.flatten.length:=by
   intro qs
   induction qs with
   | nil=>intro _;simp
   | cons q qs ih=>
    intro h
    have a:=ih fun p hp=>h p (List.mem_cons_of_mem _ hp)
    have b:=List.length_pos_iff.2 (h q (List.mem_cons_self ..)).ne
    simp only [List.length_cons,List.flatten_cons,List.length_append];omega
  exact this ps h6
 rw [h5,List.length_take,length_drop] at hfl
 have:=Oc t i.toNat n hl hg (fun _=>⟨h1,by omega⟩) ⟨by omega,by omega⟩
 rw [Int.toNat_of_nonneg h0] at this
 simp only [lN,hg]
 exact this
def jJ:dJ:=fun args objs K=>match args with
 | [a0,.int .i64 i]=>fU aG a0 (HK.mk:HK fun t=>(0≤i)∧(i.toNat<t.length)∧(t.length≤1000000)∧(Y.One t)∧K (bW (lN t i.toNat)) objs 0)
 | _=>False
theorem vR:aD Tryz.prog 49 (jJ):=by
 intro args objs K h
 unfold jJ at h
 split at h
 · rename_i a0 i
   obtain ⟨t,rfl,h1,h2,h3,h4,hk⟩:=h
   exact ⟨_,_,_,.pure _ rfl (Kq t i h1 h2 h3 h4),hk⟩
 · exact h.elim
theorem Od (t:aY):lN t 0=fH t:=by
 cases t with
 | nil=>rfl
 | cons n r=>simp [lN,fH]
theorem Rh (t:aY) (hl:t.length≤1000000) (ho:Y.One t):ai Tryz.prog 33 [aG t] [] (bW (fH t)) []:=by
 refine AB.a_ (T:=aP Tryz.prog [(49,jJ)]) 0 hD (aj (af vR ah)) aU (by decide) fun Q hQ=>?_
 have h0:0<t.length:=List.length_pos_iff.2 ho.ne
 have hz:Int.toNat 0=0:=rfl
 have e:=Od t
 (conv=>arg 4;cbv);simp(maxSteps:=400000)only[↓au,av,BEq.rfl,reduceIte,reduceCtorEq,Nat.reduceLT,reduceAdd,reduceSub,reduceMul,Nat.reduceBEq,reduceLeDiff,reduceToNat,reduceLE,hQ,↓jJ,hz,e]
 repeat' (first | omega | exact ho | refine ⟨?_,?_⟩)
def vB:dJ:=fun args objs K=>match args with
 | [a0]=>fU aG a0 (HK.mk:HK fun t=>(t.length≤1000000)∧(Y.One t)∧K (bW (fH t)) objs 0)
 | _=>False
theorem Kr:aD Tryz.prog 33 (vB):=by
 intro args objs K h
 unfold vB at h
 split at h
 · rename_i a0
   obtain ⟨t,rfl,h1,h2,hk⟩:=h
   exact ⟨_,_,_,.pure _ rfl (Rh t h1 h2),hk⟩
 · exact h.elim
end Lp
namespace Lp
open Go Go.Proofs Go.RowKit
open Nat (reduceAdd reduceLeDiff reduceMul reduceSub)
open Int (reduceLE reduceToNat)
theorem Ja (s:List UInt8):ai Tryz.prog 119 [.str s,.str [48]] [] (.str (Lib.trimLeftB s 48)) []:=by
 refine ai.o_ ⟨_,Tryz.VL.f161,by kernel_rfl,by kernel_rfl⟩ fun w vs ok hg hr=>?_
 obtain ⟨u,v,rfl,h,h'⟩:=Xz hr
 cases kE h
 cases kE h'
 refine (Any.strings_TrimLeft_one Tryz.VL ⟨⟨s⟩⟩ 48 (by decide) w).mono ?_
 rintro e w' ⟨h1,rfl⟩
 exact ⟨_,h1,fun w ok=>.str _,.refl _ _⟩
theorem FP (s:List UInt8) (c:UInt8) (hc:c.toNat<128) (hs:s.length≤4611686018427387904):ai Tryz.prog 120 [.str s,.str [c]] [] (.str (Lib.trimRightB s c)) []:=by
 refine ai.o_ ⟨_,Tryz.VN.f162,by kernel_rfl,by kernel_rfl⟩ fun w vs ok hg hr=>?_
 obtain ⟨u,v,rfl,h,h'⟩:=Xz hr
 cases kE h
 cases kE h'
 refine (Any.strings_TrimRight_one Tryz.VN ⟨⟨s⟩⟩ c hc w (by rw [Lib.size_eq];simp;omega)).mono ?_
 rintro e w' ⟨h1,rfl⟩
 exact ⟨_,h1,fun w ok=>.str _,.refl _ _⟩
def kN:dJ:=fun args objs K=>match args with
 | [.str s,a1]=>a1=(.str [48])∧K (.str (Lib.trimLeftB s 48)) objs 0
 | _=>False
theorem Oe:aD Tryz.prog 119 (kN):=by
 intro args objs K h
 unfold kN at h
 split at h
 · rename_i s a1
   obtain ⟨rfl,hk⟩:=h
   exact ⟨_,_,_,.pure _ rfl (Ja s),hk⟩
 · exact h.elim
def jo (c:UInt8):dJ:=fun args objs K=>match args with
 | [.str s,a1]=>a1=(.str [c])∧(c.toNat<128)∧(s.length≤4611686018427387904)∧K (.str (Lib.trimRightB s c)) objs 0
 | _=>False
theorem vC (c:UInt8):aD Tryz.prog 120 (jo c):=by
 intro args objs K h
 unfold jo at h
 split at h
 · rename_i s a1
   obtain ⟨rfl,h1,h2,hk⟩:=h
   exact ⟨_,_,_,.pure _ rfl (FP s c h1 h2),hk⟩
 · exact h.elim
theorem aam:Builder.Extra Tryz.prog Tryz.Fa where
 sizeBuilder:=by kernel_rfl
 liesBuilder:=by kernel_rfl
 t5:=Tryz.x_.t5
 a5:=Tryz.x_.a5
 z5:=Tryz.x_.z5
 v5:=Tryz.x_.v5
 infoByte:=by kernel_rfl
 cellsByte:=by kernel_rfl
 sizeByte:=by kernel_rfl
 neB5:=by decide
theorem Fp (c:UInt8):∀ n,Lib.repeatL [c] n=List.replicate n c
 | 0=>rfl
 | n+1=>by rw [Lib.repeatL,Fp c n,List.replicate_succ];rfl
theorem Ri (c:UInt8) (n:Int) (h:0≤n∧n≤1000000000):ai Tryz.prog 104 [.str [c],.int .i64 n] [] (.str (List.replicate n.toNat c)) []:=by
 obtain ⟨n,rfl⟩:∃ k:Nat,n=k:=⟨n.toNat,by omega⟩
 refine ai.o_ ⟨_,Tryz.x_.f105,by kernel_rfl,by kernel_rfl⟩ fun w vs ok hg hr=>?_
 obtain ⟨u,v,rfl,h,h'⟩:=Xz hr
 cases kE h
 cases Qk h'
 refine (Any.strings_Repeat Tryz.x_ aam ⟨⟨[c]⟩⟩ n w (by omega) (by rw [Lib.size_eq];simp;omega)).mono ?_
 rintro e w' ⟨h1,h2⟩
 refine ⟨_,h1,fun w ok=>?_,h2⟩
 have e1:(⟨⟨[c]⟩⟩:ByteArray).data.toList=[c]:=rfl
 rw [e1,Fp]
 exact .str _
def m_ (c:UInt8):dJ:=fun args objs K=>match args with
 | [a0,.int .i64 n]=>a0=(.str [c])∧(0≤n∧n≤1000000000)∧K (.str (List.replicate n.toNat c)) objs 0
 | _=>False
theorem AX (c:UInt8):aD Tryz.prog 104 (m_ c):=by
 intro args objs K h
 unfold m_ at h
 split at h
 · rename_i a0 n
   obtain ⟨rfl,h1,hk⟩:=h
   exact ⟨_,_,_,.pure _ rfl (Ri c n h1),hk⟩
 · exact h.elim
theorem aO.Jb {P:Program}{D:TypeId→aJ}{T:Know}{f:FuncId}{n t u:Nat}{ty:TypeId}{C:LC}{args:List PV}{r:PV}(h:aO P f n [.cell t ty,.tmp u] C) (d:Nat) (hD:∀ t,iY P t (D t)) (hT:H7 P none uQ T) (hm:P.follows .mixedOrders=true) (ht:t<n) (hu:u<n)
  (hw:∀ Q:Exit→St→Prop,(∀ l ob,Q .ret ⟨dz n l,ob⟩=fF (D ty) (lM l t) ob fun p _ _=>r=.bP [gY d 0 ob p,gY d 0 ob (lM l u)])→lq P D T C Q (bZ args n)):ai P f args [] r []:=by
 refine h.pure d hD hT hm (by simp) (hw _ fun l ob=>?_)
 simp only [nu,jh,nV.2.1 n l t ht,nV.2.1 n l u hu,List.map_cons,List.map_nil,fA]
def eu (neg:Bool) (f:List UInt8) (e:Int):PV:=.bP [aA (dM neg f e).1,.int .i64 (dM neg f e).2]
theorem nX (s:List UInt8) (c:UInt8):(Lib.trimRightB s c).length≤s.length:=by
 unfold Lib.trimRightB
 rw [List.length_reverse]
 exact Nat.le_trans (List.dropWhile_suffix _).length_le (by rw [List.length_reverse];exact Nat.le_refl _)
theorem Uu (s:List UInt8) (c:UInt8):(Lib.trimLeftB s c).length≤s.length:=(List.dropWhile_suffix _).length_le
theorem X6 (neg:Bool) (f:List UInt8) (e:Int) (hf:f.length≤1000000) (he:-1000000000≤e∧e≤1000000000):ai Tryz.prog 101 [.bool neg,.str f,.int .i64 e] [] (eu neg f e) []:=by
 refine S9.Jb (T:=aP Tryz.prog [(118,dK),(119,kN),(120,jo 48),(121,iR)]) 0 hD (aj (af vQ (af Oe (af (vC 48) (af zB ah))))) aU (by decide) (by decide) fun Q hQ=>?_
 have c48:(48:UInt8).toNat<128:=by decide
 have hf':f.length≤4611686018427387904:=by omega
 have hlL:=Uu f 48
 generalize hs:Lib.trimLeftB f 48=s at *
 have hlR:=nX s 48
 generalize ht:Lib.trimRightB s 48=t at *
 cases h1:gy f
 · have hr:eu neg f e=.bP [aA ⟨0,0,[],[],false,0⟩,.int .i64 4]:=by simp [eu,dM,h1,aV]
   (conv=>arg 4;cbv);simp(maxSteps:=400000)only[↓aW,aX,BEq.rfl,reduceIte,reduceCtorEq,Nat.reduceLT,reduceAdd,reduceSub,reduceMul,Nat.reduceBEq,reduceLeDiff,reduceToNat,reduceLE,hQ,↓dK,h1,hr,bI,bJ]
   repeat' (first | omega | exact c48 | refine ⟨?_,?_⟩)
 by_cases h2:s=[]
 · have hr:eu neg f e=.bP [aA ⟨3,0,[],[],false,0⟩,.int .i64 0]:=by simp [eu,dM,h1,hs,h2]
   have h2':(s=[])=True:=eq_true h2
   (conv=>arg 4;cbv);simp(maxSteps:=400000)only[↓aW,aX,BEq.rfl,reduceIte,reduceCtorEq,Nat.reduceLT,reduceAdd,reduceSub,reduceMul,Nat.reduceBEq,reduceLeDiff,reduceToNat,reduceLE,hQ,↓dK,↓kN,h1,hs,h2',hr,bI,bJ]
   repeat' (first | omega | exact c48 | refine ⟨?_,?_⟩)
 have h2':(s=[])=False:=eq_false h2
 rcases tf (e < -100000000) with h3 | h3
 · have hr:eu neg f e=.bP [aA ⟨0,0,[],[],false,0⟩,.int .i64 2]:=by simp [eu,dM,h1,hs,h2,of_eq_true h3,aV]
   (conv=>arg 4;cbv);simp(maxSteps:=400000)only[↓aW,aX,BEq.rfl,reduceIte,reduceCtorEq,Nat.reduceLT,reduceAdd,reduceSub,reduceMul,Nat.reduceBEq,reduceLeDiff,reduceToNat,reduceLE,hQ,↓dK,↓kN,h1,hs,h2',h3,hr,bI,bJ]
   repeat' (first | omega | exact c48 | refine ⟨?_,?_⟩)
 rcases tf (100000000<e) with h4 | h4
 · have hr:eu neg f e=.bP [aA ⟨0,0,[],[],false,0⟩,.int .i64 2]:=by simp [eu,dM,h1,hs,h2,of_eq_true h4,aV]
   (conv=>arg 4;cbv);simp(maxSteps:=400000)only[↓aW,aX,BEq.rfl,reduceIte,reduceCtorEq,Nat.reduceLT,reduceAdd,reduceSub,reduceMul,Nat.reduceBEq,reduceLeDiff,reduceToNat,reduceLE,hQ,↓dK,↓kN,h1,hs,h2',h3,h4,hr,bI,bJ]
   repeat' (first | omega | exact c48 | refine ⟨?_,?_⟩)
 have h3':=of_eq_false h3
 have h4':=of_eq_false h4
 rcases tf (100<(t.length:Int)) with h5 | h5
 · have hr:eu neg f e=.bP [aA ⟨0,0,[],[],false,0⟩,.int .i64 2]:=by
    have:100<t.length:=by have:=of_eq_true h5;omega
    simp [eu,dM,h1,hs,h2,h3',h4',ht,this,aV]
   (conv=>arg 4;cbv);simp(maxSteps:=400000)only[↓aW,aX,BEq.rfl,reduceIte,reduceCtorEq,Nat.reduceLT,reduceAdd,reduceSub,reduceMul,Nat.reduceBEq,reduceLeDiff,reduceToNat,reduceLE,hQ,↓dK,↓kN,↓jo,h1,hs,ht,h2',h3,h4,h5,hr,bI,bJ]
   repeat' (first | omega | exact c48 | refine ⟨?_,?_⟩)
 have h5':¬ 100<t.length:=by have:=of_eq_false h5;omega
 have hpb:OY t.length (e+(s.length-t.length))=CG t.length (e+(s.length-t.length)):=rfl
 cases h6:CG t.length (e+(s.length-t.length))
 · have hr:eu neg f e=.bP [aA ⟨0,0,[],[],false,0⟩,.int .i64 2]:=by
    simp [eu,dM,h1,hs,h2,h3',h4',ht,hpb,h6,aV]
   (conv=>arg 4;cbv);simp(maxSteps:=400000)only[↓aW,aX,BEq.rfl,reduceIte,reduceCtorEq,Nat.reduceLT,reduceAdd,reduceSub,reduceMul,Nat.reduceBEq,reduceLeDiff,reduceToNat,reduceLE,hQ,↓dK,↓kN,↓jo,↓iR,h1,hs,ht,h2',h3,h4,h5,h6,hr,bI,bJ]
   repeat' (first | omega | exact c48 | refine ⟨?_,?_⟩)
 · have hr:eu neg f e=.bP [aA ⟨3,0,[],t,neg,e+(s.length-t.length)⟩,.int .i64 0]:=by
    simp [eu,dM,h1,hs,h2,h3',h4',ht,hpb,h6,h5']
   (conv=>arg 4;cbv);simp(maxSteps:=400000)only[↓aW,aX,BEq.rfl,reduceIte,reduceCtorEq,Nat.reduceLT,reduceAdd,reduceSub,reduceMul,Nat.reduceBEq,reduceLeDiff,reduceToNat,reduceLE,hQ,↓dK,↓kN,↓jo,↓iR,h1,hs,ht,h2',h3,h4,h5,h6,hr,bI,bJ]
   repeat' (first | omega | exact c48 | refine ⟨?_,?_⟩)
theorem X7 (neg:Bool) (f:List UInt8) (e:Int):(dM neg f e).1.s.length≤100:=by
 unfold dM
 split
 · simp [aV]
 split
 · simp
 split
 · simp [aV]
 split
 · simp [aV]
 · rename_i h
   have:=fun h'=>h (.inl h')
   simpa using this
def vD:dJ:=fun args objs K=>match args with
 | [.bool neg,.str f,.int .i64 e]=>(f.length≤1000000)∧(-1000000000≤e∧e≤1000000000)∧K (eu neg f e) objs 0
 | _=>False
theorem Uv:aD Tryz.prog 101 (vD):=by
 intro args objs K h
 unfold vD at h
 split at h
 · rename_i neg f e
   obtain ⟨h1,h2,hk⟩:=h
   exact ⟨_,_,_,.pure _ rfl (X6 neg f e h1 h2),hk⟩
 · exact h.elim
end Lp
namespace Lp
open Go Go.Proofs Go.RowKit
theorem LH (c:UInt8) (h:c.toNat<128):(Utf8.encode (c.toNat:Int)).data.toList=[c]:=by
 have hv:Utf8.valid (c.toNat:Int)=true:=by
  simp only [Utf8.valid,Bool.or_eq_true,Bool.and_eq_true,decide_eq_true_eq]
  exact .inl ⟨by omega,by omega⟩
 simp only [Utf8.encode,hv,if_true,Int.toNat_natCast,if_pos h]
 show [UInt8.ofNat c.toNat]=[c]
 simp
theorem AY {s:List UInt8}{c:UInt8}(h:0<(Lib.trimRightB s c).length):∃ d,s[(Lib.trimRightB s c).length-1]?=some d∧d≠c:=by
 have aeA:(s.reverse.dropWhile (·==c))≠[]:=by
  intro hh;simp [Lib.trimRightB,hh] at h
 obtain ⟨d,r,hr⟩:=List.exists_cons_of_ne_nil aeA
 have hd:d≠c:=by
  have:=List.head_dropWhile_not (·==c) (l:=s.reverse) aeA
  simp only [hr,List.head_cons] at this
  simpa using this
 have hpre:Lib.trimRightB s c <+:s:=by
  unfold Lib.trimRightB
  have:=List.dropWhile_suffix (l:=s.reverse) (·==c)
  rwa [← List.reverse_prefix,List.reverse_reverse] at this
 have ht:Lib.trimRightB s c=r.reverse++[d]:=by simp [Lib.trimRightB,hr]
 rw [ht] at hpre ⊢
 obtain ⟨q,hq⟩:=hpre
 refine ⟨d,?_,hd⟩
 rw [← hq,List.getElem?_append_left (by simp)]
 simp
theorem wrap32 {c:UInt8}:IntKind.i32.wrap (c.toNat:Int)=(c.toNat:Int):=by
 have h:=c.toNat_lt
 have hm:(c.toNat:Int) % 4294967296=c.toNat:=by omega
 unfold IntKind.wrap
 simp [IntKind.bits,IntKind.signed,hm]
 omega
theorem abv (s:List UInt8) (hf:gy s=true) (hs:s.length≤1000000):ai Tryz.prog 102 [.str s] [] (.str (OZ s)) []:=by
 refine Xe.a_ (T:=aP Tryz.prog [(120,(jo 57)),(104,(m_ 48))]) 0 hD (aj (af (vC 57) (af (AX 48) ah))) aU (by decide) fun Q hQ=>?_
 have hle:=nX s 57
 have c57:(57:UInt8).toNat<128:=by decide
 by_cases h0:(Lib.trimRightB s 57).length=0
 · have h0':(((Lib.trimRightB s 57).length:Int)=0)=True:=eq_true (by omega)
   have hr:OZ s=49::List.replicate s.length 48:=by simp [OZ,h0]
   (conv=>arg 4;cbv);simp(maxSteps:=400000)only[↓aW,aX,BEq.rfl,reduceIte,reduceCtorEq,Nat.reduceLT,Nat.reduceAdd,Nat.reduceSub,Nat.reduceMul,Nat.reduceBEq,Nat.reduceLeDiff,Int.reduceToNat,Int.reduceLE,hQ,↓jo,↓m_,h0',hr]
   have e:((s.length:Int)-((Lib.trimRightB s 57).length:Int)).toNat=s.length:=by omega
   rw [e]
   exact ⟨c57,by omega,by omega,by omega,by omega,rfl⟩
 · have h0':(((Lib.trimRightB s 57).length:Int)=0)=False:=eq_false (by omega)
   obtain ⟨d,hd,hne⟩:=AY (s:=s) (c:=57) (by omega)
   have hdf:=qA hf hd
   have hr:OZ s=s.take ((Lib.trimRightB s 57).length-1)++(d+1)::List.replicate (s.length-(Lib.trimRightB s 57).length) 48:=by simp [OZ,h0,List.getD_eq_getElem?_getD,hd]
   generalize hn:(Lib.trimRightB s 57).length=n at *
   have e1:((n:Int)-1).toNat=n-1:=by omega
   have e2:((s.length:Int)-(n:Int)).toNat=s.length-n:=by omega
   have afC:d.toNat≤56:=by
    have:d.toNat≠57:=fun h=>hne (UInt8.toNat_inj.1 h)
    omega
   have e3:((d+1).toNat:Int)=(d.toNat:Int)+1:=by
    rw [UInt8.toNat_add]
    have:(1:UInt8).toNat=1:=rfl
    omega
   have e4:IntKind.i32.wrap ((d.toNat:Int)+1)=((d+1).toNat:Int):=by rw [← e3];exact wrap32
   have e5:=LH (d+1) (by omega)
   (conv=>arg 4;cbv);simp(maxSteps:=400000)only[↓aW,aX,BEq.rfl,reduceIte,reduceCtorEq,Nat.reduceLT,Nat.reduceAdd,Nat.reduceSub,Nat.reduceMul,Nat.reduceBEq,Nat.reduceLeDiff,Int.reduceToNat,Int.reduceLE,hQ,↓jo,↓m_,hn,h0',hr,e1,e2,hd,ko,nE,e4,e5,List.drop_zero,List.length_take,List.append_assoc,List.cons_append,List.nil_append]
   repeat' (first | omega | exact c57 | exact trivial | refine ⟨?_,?_⟩)
def VY:dJ:=fun args objs K=>match args with
 | [.str s]=>(gy s=true)∧(s.length≤1000000)∧K (.str (OZ s)) objs 0
 | _=>False
theorem aan:aD Tryz.prog 102 (VY):=by
 intro args objs K h
 unfold VY at h
 split at h
 · rename_i s
   obtain ⟨h1,h2,hk⟩:=h
   exact ⟨_,_,_,.pure _ rfl (abv s h1 h2),hk⟩
 · exact h.elim
theorem X8 (s:List UInt8) (hf:gy s=true) (h0:0<(Lib.trimRightB s 48).length) (hs:s.length≤1000000):ai Tryz.prog 103 [.str s] [] (.str (ou s)) []:=by
 refine PU.a_ (T:=aP Tryz.prog [(120,(jo 48)),(104,(m_ 57))]) 0 hD (aj (af (vC 48) (af (AX 57) ah))) aU (by decide) fun Q hQ=>?_
 have hle:=nX s 48
 have c48:(48:UInt8).toNat<128:=by decide
 obtain ⟨d,hd,hne⟩:=AY (s:=s) (c:=48) h0
 have hdf:=qA hf hd
 have hr:ou s=s.take ((Lib.trimRightB s 48).length-1)++(d-1)::List.replicate (s.length-(Lib.trimRightB s 48).length) 57:=by simp [ou,List.getD_eq_getElem?_getD,hd]
 generalize hn:(Lib.trimRightB s 48).length=n at *
 have e1:((n:Int)-1).toNat=n-1:=by omega
 have e2:((s.length:Int)-(n:Int)).toNat=s.length-n:=by omega
 have afD:49≤d.toNat:=by
  have:d.toNat≠48:=fun h=>hne (UInt8.toNat_inj.1 h)
  omega
 have e3:((d-1).toNat:Int)=(d.toNat:Int)-1:=by
  rw [UInt8.toNat_sub_of_le _ _ (by rw [UInt8.le_iff_toNat_le];have:(1:UInt8).toNat=1:=rfl;omega)]
  have:(1:UInt8).toNat=1:=rfl
  omega
 have e4:IntKind.i32.wrap ((d.toNat:Int)-1)=((d-1).toNat:Int):=by rw [← e3];exact wrap32
 have e5:=LH (d-1) (by omega)
 (conv=>arg 4;cbv);simp(maxSteps:=400000)only[↓aW,aX,BEq.rfl,reduceIte,reduceCtorEq,Nat.reduceLT,Nat.reduceAdd,Nat.reduceSub,Nat.reduceMul,Nat.reduceBEq,Nat.reduceLeDiff,Int.reduceToNat,Int.reduceLE,hQ,↓jo,↓m_,hn,hr,e1,e2,hd,ko,nE,e4,e5,List.drop_zero,List.length_take,List.append_assoc,List.cons_append,List.nil_append]
 repeat' (first | omega | exact c48 | exact trivial | refine ⟨?_,?_⟩)
def CV:dJ:=fun args objs K=>match args with
 | [.str s]=>(gy s=true)∧(0<(Lib.trimRightB s 48).length)∧(s.length≤1000000)∧K (.str (ou s)) objs 0
 | _=>False
theorem Uw:aD Tryz.prog 103 (CV):=by
 intro args objs K h
 unfold CV at h
 split at h
 · rename_i s
   obtain ⟨h1,h2,h3,hk⟩:=h
   exact ⟨_,_,_,.pure _ rfl (X8 s h1 h2 h3),hk⟩
 · exact h.elim
end Lp
