/-
  Part 5 of what the statement rests on: LpTA4, LpW13, LpW5, LpW6, LpW7, LpH8, LpD3, LpH9, LpH20, LpH21, LpH24, LpHN1, LpHN2, LpHN3, LpD7, LpD8, LpE1, LpD5, LpV10, LpD6, LpD9, LpD10, LpD11, LpD12, LpE2, LpE3, LpC9, LpY4, LpTN, LpEqY, LpTB1, LpC10, LpTB1p, LpTB2, LpTB3. No condition.
-/
import Derived.Test.YtfgfjbcoeakonaaGreatDoorLp4

set_option linter.all false
set_option maxRecDepth 100000
namespace Lp
open Go Go.Proofs
open List (length_cons length_nil map_map map_nil)
open Nat (lt_or_ge reduceAdd reduceLeDiff reduceMul reduceSub)
open Int (reduceLE reduceToNat toNat_natCast)
set_option maxHeartbeats 4000000
def oG:dF:=fun args objs K=>match args with
 | [.str s,.int .i64 i,.bool b]=>(s.length≤1000000000)∧(0≤i)∧(i≤s.length)∧K (.bV [encS (gF s i.toNat b).1,.int .i64 (gF s i.toNat b).2]) objs 0
 | _=>False
theorem Q_:aD Tryz.prog 149 (oG):=by
 intro args objs K h
 unfold oG at h
 split at h
 · rename_i s i b
   obtain ⟨h1,h2,h3,hk⟩:=h
   exact ⟨_,_,_,.pure _ rfl ((by have:=Vb s i.toNat b h1 (by omega);rwa [Int.toNat_of_nonneg h2] at this)),hk⟩
 · exact h.elim
theorem Ou (s:List UInt8) (a i:Nat) (ha:a≤s.length) (hi:i+1≤s.length∨s.length≤i):(nX s a i).2≤s.length:=by
 unfold nX
 split
 · exact ha
 · split
   · exact ha
   · rename_i h1 h2
     have h3:s[(dw s (i+1)).2]?=some 93:=Decidable.of_not_not fun h=>h2 (.inr h)
     exact (List.getElem?_eq_some_iff.1 h3).1
theorem XG (s:List UInt8) (i:Nat) (b:Bool) (hi:i≤s.length):(gF s i b).2≤s.length:=by
 unfold gF
 split
 · rename_i hd
   have h:=(List.getElem?_eq_some_iff.1 hd).1
   split
   · exact Oq s (i+1) (s.length-(i+1)) (i+1) (by omega)
   · split
     · rename_i hc
       have hu:=(x9 (s.drop (i+1))).1 hc.1
       rw [List.length_drop] at hu
       show i+1+(bA (s.drop (i+1))).2.1.toNat≤s.length
       omega
     · split
       · exact Ou s i (i+1) hi (by omega)
       · exact hi
 · split
   · exact hi
   · exact Ou s i i hi (by omega)
theorem CU {s:List UInt8}{f i:Nat}{out:List Stp}(h:f=0∨(gF s i out.isEmpty).2=i):Cb s f i out=(out,i):=by
 cases f with
 | zero=>rfl
 | succ f=>
  rcases h with h | h
  · omega
  · simp only [Cb];rw [if_pos h]
theorem Tq {s:List UInt8}{f i:Nat}{out:List Stp}(h:¬ (gF s i out.isEmpty).2=i):Cb s (f+1) i out=Cb s f (gF s i out.isEmpty).2 (out++[(gF s i out.isEmpty).1]):=by
 simp only [Cb];rw [if_neg h]
def Ov (l:List Stp) (ver:Nat):Obj:=⟨122,3,l.map encS,true,ver⟩
theorem A8 (v:List Stp) (ver:Nat) (t:TypeId) (rest:List Obj):eY 1 0 (⟨t,3,v.map encS,true,ver⟩::rest) (.aX 0 ver)=jN v:=by
 have:(v.map encS).map (PV.bF (fM 0 0 (⟨t,3,v.map encS,true,ver⟩::rest)))=v.map encS:=by
  rw [map_map];exact List.map_congr_left fun x _=>rfl
 simp only [eY,Nat.not_lt_zero,if_false,fM,List.getElem?_cons_zero,Nat.le_refl,decide_true,Bool.true_and,beq_self_eq_true,if_true,this]
 rfl
theorem zSl:(PV.uW (.agg ⟨[.bool false,.string ⟨⟨[]⟩⟩,.int .i64 0]⟩)).cells.length=3:=rfl
theorem zSs:(PV.uW (.agg ⟨[.bool false,.string ⟨⟨[]⟩⟩,.int .i64 0]⟩)).cells.all PV.storable=true:=rfl
theorem acd (a:Stp):PV.agg [.bool a.part,.str a.name,.int .i64 a.n]=encS a:=rfl
theorem aan (a:Stp):encS ⟨a.part,a.name,a.n⟩=encS a:=rfl
theorem XH:∀ d X v,eY d 1 X (.aX 0 v)=.aX 0 v:=fun _ _ _=>rfl
theorem ace (X:List Obj) (l:List Stp) (a:Stp) (v:Nat):fO 1 1 X ⟨122,3,l.map encS++[encS a],true,v⟩=⟨122,3,l.map encS++[encS a],true,v⟩:=by
 unfold fO
 simp only [List.map_append,map_map,List.map_cons,map_nil]
 rfl
theorem Ow (s:List UInt8) (hs:s.length≤1000000000):ah Tryz.prog 117 [.str s,.int .i64 0] [] (.bV [jN (eF s).1,.int .i64 (eF s).2]) []:=by
 refine xL.vG (T:=aO Tryz.prog [(149,oG)]) 1 hD (aj (af Q_ ai)) aT (by decide) (by decide) fun Q hQ=>?_
 (conv=>arg 4;cbv);simp(maxSteps:=400000)only[↓ax,ay,BEq.rfl,reduceIte,reduceCtorEq,Nat.reduceLT,reduceAdd,reduceSub,reduceMul,Nat.reduceBEq,reduceLeDiff,reduceToNat,reduceLE,hQ,lV,lW,lX,zSl,zSs]
 refine aF (fun m S=>∃ (i ver:Nat) (out:List Stp),m+out.length=20∧i≤s.length∧Cb s 20 0 []=Cb s m i out∧S=⟨cO 52 [(0,.str s),(1,.int .i64 i),(6,.aX 0 ver),(7,.int .i64 0)],[Ov out ver]⟩) 20 (hz:=Nat.zero_le _) ⟨0,1,[],rfl,by omega,rfl,?_⟩ ?_
 · simp only [bI,keepR,reduceAdd,kT,Nat.reduceBEq,map_nil]
   rfl
 rintro m S ⟨i,ver,out,hm,hi,hB,rfl⟩
 rcases Nat.eq_zero_or_pos m with h0 | h0
 · subst h0
   have hlt:((out.length:Int)<20)=False:=eq_false (by omega)
   have b0:decide ((out.length:Int)=0)=false:=decide_eq_false (by omega)
   have hb:eF s=(out,i):=by
    unfold eF;rw [hB,CU (.inl rfl)]
    rw [if_neg];rintro ⟨h,_⟩;simp only at h;rw [h] at hm;simp at hm
   unfold Ov
   simp(maxSteps:=400000)only[↓ax,ay,BEq.rfl,reduceIte,reduceCtorEq,Nat.reduceLT,reduceAdd,reduceSub,reduceMul,Nat.reduceBEq,reduceLeDiff,reduceToNat,reduceLE,hQ,hlt,b0,hb,A8]
 · obtain ⟨m,rfl⟩:∃ k,m=k+1:=⟨m-1,by omega⟩
   have hlt:((out.length:Int)<20)=True:=eq_true (by omega)
   have hle:=XG s i out.isEmpty hi
   have z0:Int.toNat 0=0:=rfl
   cases hE:out.isEmpty with
   | true=>
    have ho:out=[]:=List.isEmpty_iff.1 hE
    have b0:decide ((out.length:Int)=0)=true:=decide_eq_true (by rw [ho];rfl)
    have b1:((out.length:Int)=0)=True:=eq_true (by rw [ho];rfl)
    rw [hE] at hle
    by_cases hst:(gF s i true).2=i
    · have hst':(((gF s i true).2:Int)=(i:Int))=True:=eq_true (by omega)
      have hF:Cb s 20 0 []=([],i):=by rw [hB,CU (.inr (by rw [hE];exact hst)),ho]
      rcases lt_or_ge 0 s.length with hp | hp
      · have pl:((0:Int)<(s.length:Int))=True:=eq_true (by omega)
        have pg:=List.getElem?_eq_getElem hp
        generalize s[0]=d at pg
        have b46:(d.toNat:Int)=46↔d=46:=lI (k:=46) (by omega)
        by_cases hd:(d.toNat:Int)=46
        · have hb:eF s=(out,1):=by rw [ho];unfold eF;rw [hF,if_pos ⟨rfl,by rw [pg,b46.1 hd]⟩]
          unfold Ov
          simp(maxSteps:=400000)only[↓ax,ay,BEq.rfl,reduceIte,reduceCtorEq,Nat.reduceLT,reduceAdd,reduceSub,reduceMul,Nat.reduceBEq,reduceLeDiff,reduceToNat,reduceLE,hQ,hlt,b0,b1,↓oG,toNat_natCast,fQ,lV,lW,lX,zSl,zSs,hst',pl,z0,pg,hd,hb,A8]
          repeat' (first | (omega) | exact rfl | intro _ | refine ⟨?_,?_⟩)
        · have hb:eF s=(out,i):=by rw [ho];unfold eF;rw [hF,if_neg];rintro ⟨_,h⟩;rw [pg] at h;exact hd (b46.2 (Option.some.inj h))
          have hd':=eq_false hd
          unfold Ov
          simp(maxSteps:=400000)only[↓ax,ay,BEq.rfl,reduceIte,reduceCtorEq,Nat.reduceLT,reduceAdd,reduceSub,reduceMul,Nat.reduceBEq,reduceLeDiff,reduceToNat,reduceLE,hQ,hlt,b0,b1,↓oG,toNat_natCast,fQ,lV,lW,lX,zSl,zSs,hst',pl,z0,pg,hd',hb,A8]
          repeat' (first | (omega) | exact rfl | intro _ | refine ⟨?_,?_⟩)
      · have pl:((0:Int)<(s.length:Int))=False:=eq_false (by omega)
        have hb:eF s=(out,i):=by rw [ho];unfold eF;rw [hF,if_neg];rintro ⟨_,h⟩;rw [List.getElem?_eq_none_iff.2 hp] at h;cases h
        unfold Ov
        simp(maxSteps:=400000)only[↓ax,ay,BEq.rfl,reduceIte,reduceCtorEq,Nat.reduceLT,reduceAdd,reduceSub,reduceMul,Nat.reduceBEq,reduceLeDiff,reduceToNat,reduceLE,hQ,hlt,b0,b1,↓oG,toNat_natCast,fQ,lV,lW,lX,zSl,zSs,hst',pl,hb,A8]
        repeat' (first | (omega) | exact rfl | intro _ | refine ⟨?_,?_⟩)
    · have hst':(((gF s i true).2:Int)=(i:Int))=False:=eq_false (by omega)
      have hg:=Tq (s:=s) (f:=m) (i:=i) (out:=out) (by rw [hE];exact hst)
      rw [hE] at hg
      unfold Ov
      simp(maxSteps:=400000)only[↓ax,ay,BEq.rfl,reduceIte,reduceCtorEq,Nat.reduceLT,reduceAdd,reduceSub,reduceMul,Nat.reduceBEq,reduceLeDiff,reduceToNat,reduceLE,hQ,hlt,b0,↓oG,toNat_natCast,fQ,lV,lW,lX,zSl,zSs,hst',acd,aan,XH,List.take_succ_cons,List.take_zero,ace]
      repeat' (first | (omega) | exact ⟨m,by omega,(gF s i true).2,ver+1,out++[(gF s i true).1],by rw [List.length_append];simp only [length_cons,length_nil];omega,hle,hB.trans hg,by simp⟩ | intro _ | refine ⟨?_,?_⟩)
   | false=>
    have hon:out≠[]:=fun e=>by rw [e] at hE;cases hE
    have hol:0<out.length:=List.length_pos_iff.2 hon
    have b0:decide ((out.length:Int)=0)=false:=decide_eq_false (by omega)
    rw [hE] at hle
    by_cases hst:(gF s i false).2=i
    · have hst':(((gF s i false).2:Int)=(i:Int))=True:=eq_true (by omega)
      have hb:eF s=(out,i):=by
       unfold eF;rw [hB,CU (.inr (by rw [hE];exact hst)),if_neg];rintro ⟨h,_⟩;exact hon h
      unfold Ov
      simp(maxSteps:=400000)only[↓ax,ay,BEq.rfl,reduceIte,reduceCtorEq,Nat.reduceLT,reduceAdd,reduceSub,reduceMul,Nat.reduceBEq,reduceLeDiff,reduceToNat,reduceLE,hQ,hlt,b0,↓oG,toNat_natCast,fQ,lV,lW,lX,zSl,zSs,hst',hb,A8]
      repeat' (first | (omega) | exact rfl | intro _ | refine ⟨?_,?_⟩)
    · have hst':(((gF s i false).2:Int)=(i:Int))=False:=eq_false (by omega)
      have hg:=Tq (s:=s) (f:=m) (i:=i) (out:=out) (by rw [hE];exact hst)
      rw [hE] at hg
      unfold Ov
      simp(maxSteps:=400000)only[↓ax,ay,BEq.rfl,reduceIte,reduceCtorEq,Nat.reduceLT,reduceAdd,reduceSub,reduceMul,Nat.reduceBEq,reduceLeDiff,reduceToNat,reduceLE,hQ,hlt,b0,↓oG,toNat_natCast,fQ,lV,lW,lX,zSl,zSs,hst',acd,aan,XH,List.take_succ_cons,List.take_zero,ace]
      repeat' (first | (omega) | exact ⟨m,by omega,(gF s i false).2,ver+1,out++[(gF s i false).1],by rw [List.length_append];simp only [length_cons,length_nil];omega,hle,hB.trans hg,by simp⟩ | intro _ | refine ⟨?_,?_⟩)
def mY:dF:=fun args objs K=>match args with
 | [.str s,a1]=>a1=(.int .i64 0)∧(s.length≤1000000000)∧K (.bV [jN (eF s).1,.int .i64 (eF s).2]) objs 0
 | _=>False
theorem Lb:aD Tryz.prog 117 (mY):=by
 intro args objs K h
 unfold mY at h
 split at h
 · rename_i s a1
   obtain ⟨rfl,h1,hk⟩:=h
   exact ⟨_,_,_,.pure _ rfl (Ow s h1),hk⟩
 · exact h.elim
def x_ (s:List UInt8):PV:=if (iN s).2.2=0 then .bV [jN (iN s).1,.int .i64 (iN s).2.1,.int .i64 (iN s).2.2] else .bV [.sl 0 [] (some true),.int .i64 (iN s).2.1,.int .i64 (iN s).2.2]
theorem Ra (s:List UInt8) (hs:s.length≤1000000000):ah Tryz.prog 99 [.str s] [] (x_ s) []:=by
 refine AA.Xt (T:=aO Tryz.prog [(117,mY)]) 0 hD (aj (af Lb ai)) aT (by decide) (by decide) (by decide) fun Q hQ=>?_
 by_cases h46:s=[46]
 · have hr:x_ s=.bV [jN (eF s).1,.int .i64 0,.int .i64 0]:=by simp only [x_,iN,if_pos h46,if_true]
   have XI:=eq_true h46
   (conv=>arg 4;cbv);simp(maxSteps:=400000)only[↓ax,ay,BEq.rfl,reduceIte,reduceCtorEq,Nat.reduceLT,reduceAdd,reduceSub,reduceMul,Nat.reduceBEq,reduceLeDiff,reduceToNat,reduceLE,hQ,↓mY,fQ,XI,hr]
   repeat' (first | (omega) | exact rfl | intro _ | refine ⟨?_,?_⟩)
 have XI:=eq_false h46
 cases hB:eF s with
 | mk p n=>
 by_cases hp:p=[]
 · have hr:x_ s=.bV [.sl 0 [] (some true),.int .i64 0,.int .i64 1]:=by simp [x_,iN,h46,hB,hp]
   subst hp
   have b0:((([]:List Stp).length:Int)=0)=True:=eq_true rfl
   (conv=>arg 4;cbv);simp(maxSteps:=400000)only[↓ax,ay,BEq.rfl,reduceIte,reduceCtorEq,Nat.reduceLT,reduceAdd,reduceSub,reduceMul,Nat.reduceBEq,reduceLeDiff,reduceToNat,reduceLE,hQ,↓mY,fQ,XI,hB,b0,hr]
   repeat' (first | (omega) | exact rfl | intro _ | refine ⟨?_,?_⟩)
 · have hpl:0<p.length:=List.length_pos_iff.2 hp
   have b0:((p.length:Int)=0)=False:=eq_false (by omega)
   rcases lt_or_ge n s.length with hn | hn
   · have hn':((n:Int)<(s.length:Int))=True:=eq_true (by omega)
     have hr:x_ s=.bV [.sl 0 [] (some true),.int .i64 n,.int .i64 1]:=by simp [x_,iN,h46,hB,hp,hn]
     (conv=>arg 4;cbv);simp(maxSteps:=400000)only[↓ax,ay,BEq.rfl,reduceIte,reduceCtorEq,Nat.reduceLT,reduceAdd,reduceSub,reduceMul,Nat.reduceBEq,reduceLeDiff,reduceToNat,reduceLE,hQ,↓mY,fQ,XI,hB,b0,hn',hr]
     repeat' (first | (omega) | exact rfl | intro _ | refine ⟨?_,?_⟩)
   · have hn':((n:Int)<(s.length:Int))=False:=eq_false (by omega)
     have hr:x_ s=.bV [jN p,.int .i64 0,.int .i64 0]:=by simp [x_,iN,h46,hB,hp,Nat.not_lt.2 hn]
     (conv=>arg 4;cbv);simp(maxSteps:=400000)only[↓ax,ay,BEq.rfl,reduceIte,reduceCtorEq,Nat.reduceLT,reduceAdd,reduceSub,reduceMul,Nat.reduceBEq,reduceLeDiff,reduceToNat,reduceLE,hQ,↓mY,fQ,XI,hB,b0,hn',hr]
     repeat' (first | (omega) | exact rfl | intro _ | refine ⟨?_,?_⟩)
theorem aa4 {a b c a':PV}(h:jY a a'):jY (.bV [a,b,c]) (.bV [a',b,c]):=
 .bV rfl fun i p q hp hq=>by
  match i with
  | 0=>cases hp;cases hq;exact h
  | 1=>cases hp;cases hq;exact .refl _
  | 2=>cases hp;cases hq;exact .refl _
  | _+3=>simp at hp
theorem Vd {s:List UInt8}(h:¬ (iN s).2.2=0):(iN s).1=[]:=by
 unfold iN at h ⊢
 split
 · rename_i h1;rw [if_pos h1] at h;exact absurd rfl h
 · rename_i h1
   rw [if_neg h1] at h
   split
   · rfl
   · rename_i h2
     rw [if_neg h2] at h
     split
     · rfl
     · rename_i h3;rw [if_neg h3] at h;exact absurd rfl h
theorem Ve (s:List UInt8) (hs:s.length≤1000000000):ah Tryz.prog 99 [.str s] [] (.bV [jN (iN s).1,.int .i64 (iN s).2.1,.int .i64 (iN s).2.2]) []:=by
 refine (Ra s hs).res ?_
 unfold x_
 split
 · exact .refl _
 · rename_i h;rw [Vd h];exact aa4 (mW 0 3)
def A9:dF:=fun args objs K=>match args with
 | [.str s]=>(s.length≤1000000000)∧K (.bV [jN (iN s).1,.int .i64 (iN s).2.1,.int .i64 (iN s).2.2]) objs 0
 | _=>False
theorem Rb:aD Tryz.prog 99 (A9):=by
 intro args objs K h
 unfold A9 at h
 split at h
 · rename_i s
   obtain ⟨h1,hk⟩:=h
   exact ⟨_,_,_,.pure _ rfl (Ve s h1),hk⟩
 · exact h.elim
theorem Ox (s:List UInt8):∀ (f i:Nat) (out:List Stp),(Cb s f i out).1.length≤out.length+f
 | 0,_,_=>Nat.le_refl _
 | f+1,i,out=>by
  simp only [Cb]
  split
  · show out.length≤_;omega
  · have:=Ox s f (gF s i out.isEmpty).2 (out++[(gF s i out.isEmpty).1])
    rw [List.length_append] at this
    simp only [length_cons,length_nil] at this
    omega
theorem JS (s:List UInt8):(iO s).length≤20:=by
 have hb:(eF s).1.length≤20:=by
  unfold eF
  split
  · simp
  · have:=Ox s 20 0 [];simpa using this
 unfold iO iN
 split
 · exact hb
 · split
   · simp
   · split
     · simp
     · exact hb
theorem Oy (p:List Stp) (hp:p.length≤1000000):ah Tryz.prog 100 [jN p] [] (.bool (p.all fun x=>!x.part)) []:=by
 refine xM.aZ (T:=aO Tryz.prog []) 0 hD (aj ai) aT (by decide) fun Q hQ=>?_
 (conv=>arg 4;cbv);simp(maxSteps:=400000)only[↓ax,ay,BEq.rfl,reduceIte,reduceCtorEq,Nat.reduceLT,reduceAdd,reduceSub,reduceMul,Nat.reduceBEq,reduceLeDiff,reduceToNat,reduceLE,hQ]
 refine aF (fun m S=>∃ i:Nat,i+m=p.length∧(∀ (j:Nat) x,j<i→p[j]?=some x→x.part=false)∧S=⟨cO 15 [(0,jN p),(3,.int .i64 i)],[]⟩) p.length ⟨0,by omega,fun j x h=>absurd h (Nat.not_lt_zero j),?_⟩ ?_
 · simp only [bI,keepR,reduceAdd,kT,Nat.reduceBEq,map_nil]
   rfl
 rintro m S ⟨i,him,hb,rfl⟩
 have zi:(0≤(i:Int))=True:=eq_true (by omega)
 rcases lt_or_ge i p.length with h | h
 · have hlt:((i:Int)<(p.length:Int))=True:=eq_true (by omega)
   have hgi:=List.getElem?_eq_getElem h
   generalize p[i]=x at hgi
   cases hx:x.part with
   | true=>
    have hr:(p.all fun x=>!x.part)=false:=by rw [List.all_eq_false];exact ⟨x,List.mem_of_getElem? hgi,by simp [hx]⟩
    simp(maxSteps:=400000)only[↓ax,ay,BEq.rfl,reduceIte,reduceCtorEq,Nat.reduceLT,reduceAdd,reduceSub,reduceMul,Nat.reduceBEq,reduceLeDiff,reduceToNat,reduceLE,hQ,hlt,zi,hgi,hx,hr]
   | false=>
    simp(maxSteps:=400000)only[↓ax,ay,BEq.rfl,reduceIte,reduceCtorEq,Nat.reduceLT,reduceAdd,reduceSub,reduceMul,Nat.reduceBEq,reduceLeDiff,reduceToNat,reduceLE,hQ,hlt,zi,hgi,hx]
    refine ⟨⟨by omega,by omega⟩,m-1,by omega,i+1,by omega,fun j y hj hy=>?_,rfl⟩
    rcases lt_or_ge j i with g | g
    · exact hb j y g hy
    · have:j=i:=by omega
      subst this
      rw [hgi] at hy;cases hy;exact hx
 · have hlt:((i:Int)<(p.length:Int))=False:=eq_false (by omega)
   have hr:(p.all fun x=>!x.part)=true:=by
    rw [List.all_eq_true];intro x hx
    obtain ⟨j,hj⟩:=List.mem_iff_getElem?.1 hx
    have:=(List.getElem?_eq_some_iff.1 hj).1
    rw [hb j x (by omega) hj];rfl
   simp(maxSteps:=400000)only[↓ax,ay,BEq.rfl,reduceIte,reduceCtorEq,Nat.reduceLT,reduceAdd,reduceSub,reduceMul,Nat.reduceBEq,reduceLeDiff,reduceToNat,reduceLE,hQ,hlt,hr]
def rR:dF:=fun args objs K=>match args with
 | [a0]=>f_ jN a0 (HK.mk:HK fun p=>(p.length≤1000000)∧K (.bool (p.all fun x=>!x.part)) objs 0)
 | _=>False
theorem Lc:aD Tryz.prog 100 (rR):=by
 intro args objs K h
 unfold rR at h
 split at h
 · rename_i a0
   obtain ⟨p,rfl,h1,hk⟩:=h
   exact ⟨_,_,_,.pure _ rfl (Oy p h1),hk⟩
 · exact h.elim
theorem Vf (s:List UInt8) (hs:s.length≤1000000000):ah Tryz.prog 72 [.str s] [] (.bV [jN (iO s),.bool (bH s)]) []:=by
 refine AB.vG (T:=aO Tryz.prog [(99,A9),(100,rR)]) 0 hD (aj (af Rb (af Lc ai))) aT (by decide) (by decide) fun Q hQ=>?_
 have hl:=JS s
 unfold iO at hl
 by_cases he:(iN s).2.2=0
 · have he':=eq_true he
   have d1:decide ((iN s).2.2=0)=true:=decide_eq_true he
   have hr:bH s=(iN s).1.all fun x=>!x.part:=by unfold bH;rw [d1];rfl
   (conv=>arg 4;cbv);simp(maxSteps:=400000)only[↓ax,ay,BEq.rfl,reduceIte,reduceCtorEq,Nat.reduceLT,reduceAdd,reduceSub,reduceMul,Nat.reduceBEq,reduceLeDiff,reduceToNat,reduceLE,hQ,↓A9,↓rR,fQ,he',iO,hr]
   repeat' (first | (omega) | exact rfl | intro _ | refine ⟨?_,?_⟩)
 · have he':=eq_false he
   have d1:decide ((iN s).2.2=0)=false:=decide_eq_false he
   have hr:bH s=false:=by unfold bH;rw [d1];rfl
   (conv=>arg 4;cbv);simp(maxSteps:=400000)only[↓ax,ay,BEq.rfl,reduceIte,reduceCtorEq,Nat.reduceLT,reduceAdd,reduceSub,reduceMul,Nat.reduceBEq,reduceLeDiff,reduceToNat,reduceLE,hQ,↓A9,↓rR,fQ,he',iO,hr]
   repeat' (first | (omega) | exact rfl | intro _ | refine ⟨?_,?_⟩)
def fJ:dF:=fun args objs K=>match args with
 | [.str s]=>(s.length≤1000000000)∧K (.bV [jN (iO s),.bool (bH s)]) objs 0
 | _=>False
theorem A_:aD Tryz.prog 72 (fJ):=by
 intro args objs K h
 unfold fJ at h
 split at h
 · rename_i s
   obtain ⟨h1,hk⟩:=h
   exact ⟨_,_,_,.pure _ rfl (Vf s h1),hk⟩
 · exact h.elim
end Lp
set_option maxRecDepth 100000
namespace Lp
open Go Go.Proofs
open Nat (reduceAdd reduceLeDiff reduceMul reduceSub)
open Int (reduceLE reduceToNat)
set_option maxHeartbeats 4000000
def yc (n:Nd) (p:Int):Int:=
 let i:Int:=n.s.length-1-(p-n.e)
 if i<0 then 0 else match n.s[i.toNat]? with
  | some c=>(c.toNat:Int)-48
  | none=>0
def lY (a b:Nd):Nat→Int→Int
 | 0,_=>0
 | k+1,p=>if yc a p<yc b p then -1 else if yc b p<yc a p then 1 else lY a b k (p-1)
def j5 (a b:Nd):Int:=if (b.s.length+b.e:Int) > a.s.length+a.e then (b.s.length+b.e:Int) else a.s.length+a.e
def jG (a b:Nd):Int:=if b.e<a.e then b.e else a.e
def kU (a b:Nd):Int:=
 let side:Int:=if a.neg then -1 else 1
 if a.neg≠b.neg then side else side*lY a b (j5 a b-jG a b+1).toNat (j5 a b)
structure Ba (n:Nd):Prop where
 len:n.s.length≤200
 fH:fH n.s=true
 lo:-1000≤n.e
 hi:n.e≤1000
theorem pO {s:List UInt8}(h:fH s=true){i:Nat}{c:UInt8}(hc:s[i]?=some c):48≤c.toNat∧c.toNat≤57:=by
 simp only [fH,List.all_eq_true,Bool.and_eq_true,decide_eq_true_eq] at h
 have:=h c (List.mem_of_getElem? hc)
 exact ⟨UInt8.le_iff_toNat_le.1 this.1,UInt8.le_iff_toNat_le.1 this.2⟩
theorem Y7 (n:Nd) (p:Int) (hn:Ba n) (hp:-2000≤p∧p≤2000):ah Tryz.prog 115 [au n,.int .i64 p] [] (.int .i64 (yc n p)) []:=by
 obtain ⟨h1,h2,h3,h4⟩:=hn
 refine Ed.pure (T:=aO Tryz.prog []) 0 hD (aj ai) aT (by decide) ?_
 (conv=>arg 4;cbv);simp(maxSteps:=400000)only[↓aA,aB,BEq.rfl,reduceIte,reduceCtorEq,Nat.reduceLT,reduceAdd,reduceSub,reduceMul,Nat.reduceBEq,reduceLeDiff,reduceToNat,reduceLE]
 refine aQ _ (Weak.freeze 1 0 (Nat.le_refl _) _) ?_
 simp(maxSteps:=400000)only[↓aA,aB,BEq.rfl,reduceIte,reduceCtorEq,Nat.reduceLT,reduceAdd,reduceSub,reduceMul,Nat.reduceBEq,reduceLeDiff,reduceToNat,reduceLE,iY]
 refine ⟨⟨by omega,by omega⟩,⟨by omega,by omega⟩,⟨by omega,by omega⟩,fun h=>?_,fun h=>⟨fun h'=>?_,fun h'=>⟨by omega,?_⟩⟩⟩
 · simp only [yc,if_pos h]
 · have:n.s[(↑n.s.length-1-(p-n.e)).toNat]?=none:=List.getElem?_eq_none (by omega)
   simp only [yc,if_neg h,this]
 · have hi:(↑n.s.length-1-(p-n.e)).toNat<n.s.length:=by omega
   have hg:=List.getElem?_eq_getElem hi
   have hf:=pO h2 hg
   generalize hc:n.s[(↑n.s.length-1-(p-n.e)).toNat]=c at *
   simp(maxSteps:=400000)only[↓aA,aB,BEq.rfl,reduceIte,reduceCtorEq,Nat.reduceLT,reduceAdd,reduceSub,reduceMul,Nat.reduceBEq,reduceLeDiff,reduceToNat,reduceLE,hg,jJ,mD,IntKind.wrap]
   refine ⟨⟨by omega,by omega⟩,?_⟩
   simp only [yc,if_neg h,hg]
   have hm:((c.toNat:Int)-48) % 2 ^ IntKind.i64.bits=(c.toNat:Int)-48:=Int.emod_eq_of_lt (by omega) (by have:(2:Int) ^ IntKind.i64.bits=18446744073709551616:=rfl;omega)
   rw [hm,if_neg]
   have h2:(2:Int) ^ (IntKind.i64.bits-1)=9223372036854775808:=rfl
   have h3:IntKind.i64.signed=true:=rfl
   rw [h2,h3]
   simp
   omega
def Tt:dF:=fun args objs K=>match args with
 | [a0,.int .i64 p]=>f_ au a0 (HK.mk:HK fun n=>(Ba n)∧(-2000≤p∧p≤2000)∧K (.int .i64 (yc n p)) objs 0)
 | _=>False
theorem XJ:aD Tryz.prog 115 (Tt):=by
 intro args objs K h
 unfold Tt at h
 split at h
 · rename_i a0 p
   obtain ⟨n,rfl,h1,h2,hk⟩:=h
   exact ⟨_,_,_,.pure _ rfl (Y7 n p h1 h2),hk⟩
 · exact h.elim
theorem Oz (a b:Nd) (ha:Ba a) (hb:Ba b):ah Tryz.prog 92 [au a,au b] [] (.int .i64 (kU a b)) []:=by
 refine Cy.pure (T:=aO Tryz.prog [(115,Tt)]) 0 hD (aj (af XJ ai)) aT (by decide) ?_
 (conv=>arg 4;cbv);simp(maxSteps:=400000)only[↓aA,aB,BEq.rfl,reduceIte,reduceCtorEq,Nat.reduceLT,reduceAdd,reduceSub,reduceMul,Nat.reduceBEq,reduceLeDiff,reduceToNat,reduceLE]
 refine aQ _ (Weak.freeze 1 0 (Nat.le_refl _) _) ?_
 cases hx:a.neg <;> cases hy:b.neg
 all_goals simp(maxSteps:=400000)only[↓aA,aB,BEq.rfl,reduceIte,reduceCtorEq,Nat.reduceLT,reduceAdd,reduceSub,reduceMul,Nat.reduceBEq,reduceLeDiff,reduceToNat,reduceLE,Xg,Xh,hx,hy]
 case false.true=>simp [kU,hx,hy]
 case true.false=>simp [kU,hx,hy]
 all_goals
  have b1:-2000≤j5 a b∧j5 a b≤2000:=by obtain ⟨a1,a2,a3,a4⟩:=ha;obtain ⟨b1,b2,b3,b4⟩:=hb;unfold j5;split <;> omega
  have b2:-1000≤jG a b∧jG a b≤1000:=by obtain ⟨a1,a2,a3,a4⟩:=ha;obtain ⟨b1,b2,b3,b4⟩:=hb;unfold jG;split <;> omega
  have l1:=ha.len
  have l2:=hb.len
  have e1:=ha.lo
  have e2:=ha.hi
  have e3:=hb.lo
  have e4:=hb.hi
  refine ⟨⟨by omega,by omega⟩,⟨by omega,by omega⟩,?_⟩
  refine aF (fun m S=>∃ p:Int,(m:Int)=(if 0≤p-jG a b+1 then p-jG a b+1 else 0)∧p≤j5 a b∧-2000≤p∧
   (lY a b (j5 a b-jG a b+1).toNat (j5 a b)=lY a b (p-jG a b+1).toNat p)∧
   S=⟨cO 56 [(2,.addr (au a)),(3,.addr (au b)),(5,.int .i64 (if a.neg=true then -1 else 1)),(7,.int .i64 p)],[]⟩) (j5 a b-jG a b+1).toNat ⟨j5 a b,?_,Int.le_refl _,by omega,rfl,?_⟩ ?_
  · split <;> omega
  · simp only [bI,keepR,reduceAdd,kT,Nat.reduceBEq,hx,if_true,if_false,j5,Bool.false_eq_true]
  rintro m S ⟨p,hm,hp1,hp2,hd,rfl⟩
  simp(maxSteps:=400000)only[↓aA,aB,BEq.rfl,reduceIte,reduceCtorEq,Nat.reduceLT,reduceAdd,reduceSub,reduceMul,Nat.reduceBEq,reduceLeDiff,reduceToNat,reduceLE,↓Tt]
  refine ⟨fun hlow=>⟨ha,⟨by omega,by omega⟩,hb,⟨by omega,by omega⟩,fun hlt=>?_,fun hlt=>⟨fun hgt=>?_,fun hgt=>?_⟩⟩,fun hlow=>?_⟩
  · have hl:jG a b≤p:=hlow
    have e:(p-jG a b+1).toNat=(p-jG a b).toNat+1:=by omega
    rw [e] at hd
    simp only [lY,if_pos hlt] at hd
    simp only [kU,hd,hx,hy]
    simp
  · have hl:jG a b≤p:=hlow
    have e:(p-jG a b+1).toNat=(p-jG a b).toNat+1:=by omega
    rw [e] at hd
    simp only [lY,if_neg hlt,if_pos hgt] at hd
    simp only [kU,hd,hx,hy]
    simp
  · have hl:jG a b≤p:=hlow
    have e:(p-jG a b+1).toNat=(p-1-jG a b+1).toNat+1:=by omega
    rw [e] at hd
    simp only [lY,if_neg hlt,if_neg hgt] at hd
    rw [if_pos (by omega)] at hm
    refine ⟨⟨by omega,by omega⟩,m-1,by omega,p-1,?_,by omega,by omega,hd,rfl⟩
    split <;> omega
  · have hl:¬ jG a b≤p:=hlow
    have e:(p-jG a b+1).toNat=0:=by omega
    rw [e] at hd
    simp only [lY] at hd
    simp only [kU,hd,hx,hy]
    simp
def wT:dF:=fun args objs K=>match args with
 | [a0,a1]=>f_ au a0 (HK.mk:HK fun a=>f_ au a1 (HK.mk:HK fun b=>(Ba a)∧(Ba b)∧K (.int .i64 (kU a b)) objs 0))
 | _=>False
theorem Ld:aD Tryz.prog 92 (wT):=by
 intro args objs K h
 unfold wT at h
 split at h
 · rename_i a0 a1
   obtain ⟨a,rfl,b,rfl,h1,h2,hk⟩:=h
   exact ⟨_,_,_,.pure _ rfl (Oz a b h1 h2),hk⟩
 · exact h.elim
end Lp
set_option maxRecDepth 100000
namespace Lp
open Go Go.Proofs
set_option maxHeartbeats 2000000
theorem Gg (x:Int):ah Tryz.prog 166 [.int .i64 x] [] (.bool false) []:=by
 refine Cz.pure (T:=aO Tryz.prog []) 0 hD (aj ai) aT (by decide) ?_
 (conv=>arg 4;cbv);simp only [↓Ae,EL,↓Cu,↓yC,↓Cv,yD,↓mR,mh,iT,eO,Ec,Nat.reduceAdd,Nat.reduceSub,qN,bS,Ho,Hq]
 simp
def Le:dF:=fun args objs K=>∃ x:Int,args=[.int .i64 x]∧K (.bool false) objs 0
theorem Rc:aD Tryz.prog 166 Le:=by
 rintro args objs K ⟨x,rfl,hk⟩
 exact ⟨_,_,_,.pure _ rfl (Gg x),hk⟩
theorem CV (x y:Int):ah Tryz.prog 131 [.int .i64 x,.int .i64 y] [] (.int .i64 (sD x y)) []:=by
 refine yG.pure (T:=aO Tryz.prog [(166,Le)]) 0 hD (aj (af Rc ai)) aT (by decide) ?_
 (conv=>arg 4;cbv);simp only [↓Ae,EL,↓Cu,↓yC,↓Cv,yD,↓mR,mh,iT,eO,Ec,Nat.reduceAdd,Nat.reduceSub,qN,bS,ZJ,ZK,Le,Nat.reduceBEq,BEq.rfl,cond_true,cond_false,qm,Ho,Hq]
 refine ⟨x,rfl,y,rfl,(fun h=>by cases h),fun _=>⟨(fun h=>by cases h),fun _=>⟨fun h=>?_,fun h=>⟨fun h'=>?_,fun h'=>?_⟩⟩⟩⟩
 · rw [sD,if_pos (of_decide_eq_true h)]
 · rw [sD,if_neg (of_decide_eq_false h),if_pos (of_decide_eq_true h')]
 · rw [sD,if_neg (of_decide_eq_false h),if_neg (of_decide_eq_false h')]
theorem Gi (x:List UInt8):ah Tryz.prog 168 [.str x] [] (.bool false) []:=by
 refine xH.pure (T:=aO Tryz.prog []) 0 hD (aj ai) aT (by decide) ?_
 (conv=>arg 4;cbv);simp only [↓Ae,EL,↓Cu,↓yC,↓Cv,yD,↓mR,mh,iT,eO,Ec,Nat.reduceAdd,Nat.reduceSub,qN,bS,Ho,iP]
 simp
def Lf:dF:=fun args objs K=>∃ x:List UInt8,args=[.str x]∧K (.bool false) objs 0
theorem Rf:aD Tryz.prog 168 Lf:=by
 rintro args objs K ⟨x,rfl,hk⟩
 exact ⟨_,_,_,.pure _ rfl (Gi x),hk⟩
theorem rT (x y:List UInt8):ah Tryz.prog 133 [.str x,.str y] [] (.int .i64 (jg x y)) []:=by
 refine uQ.pure (T:=aO Tryz.prog [(168,Lf)]) 0 hD (aj (af Rf ai)) aT (by decide) ?_
 (conv=>arg 4;cbv);simp only [↓Ae,EL,↓Cu,↓yC,↓Cv,yD,↓mR,mh,iT,eO,Ec,Nat.reduceAdd,Nat.reduceSub,qN,bS,ZJ,ZK,Lf,Nat.reduceBEq,BEq.rfl,cond_true,cond_false,qm,Ho,iP]
 refine ⟨x,rfl,y,rfl,(fun h=>by cases h),fun _=>⟨(fun h=>by cases h),fun _=>⟨fun h=>?_,fun h=>⟨fun h'=>?_,fun h'=>?_⟩⟩⟩⟩
 · rw [jg,if_pos h]
 · rw [h,Bool.false_or] at h'
   have hne:x≠y:=by simpa using h'
   rw [jg,if_neg (by rw [h];simp),if_neg hne]
 · rw [h,Bool.false_or] at h'
   have he:x=y:=by simpa using h'
   rw [jg,if_neg (by rw [h];simp),if_pos he]
end Lp
set_option maxRecDepth 100000
namespace Lp
open Go Go.Proofs
set_option maxHeartbeats 2000000
def Lg:dF:=fun args objs K=>∃ x y:List UInt8,args=[.str x,.str y]∧K (.int .i64 (jg x y)) objs 0
theorem Rh:aD Tryz.prog 133 Lg:=by
 rintro args objs K ⟨x,y,rfl,hk⟩
 exact ⟨_,_,_,.pure _ rfl (rT x y),hk⟩
theorem y8 (a b:List (List UInt8)) (ha:a.length≤9223372036854775807) (_hb:b.length≤9223372036854775807) :
  ah Tryz.prog 134 [cK a,cK b] [] (.int .i64 (eB jg a b)) []:=by
 refine lC.pure (T:=aO Tryz.prog [(133,Lg)]) 0 hD (aj (af Rh ai)) aT (by decide) ?_
 (conv=>arg 4;cbv);simp only [↓Ae,EL,↓Cu,↓yC,↓Cv,yD,↓mR,mh,iT,eO,Ec,Nat.reduceAdd,Nat.reduceSub,qN,bS,eG,pq,cK,List.length_map,Ho,Hq]
 refine aF (fun m S=>∃ i:Nat,m=a.length-i∧i≤a.length∧i≤b.length∧eB jg (a.drop i) (b.drop i)=eB jg a b∧
  S=⟨mkT 36 [(0,cK a),(1,cK b),(9,cK a),(10,.int .i64 a.length),(11,.int .i64 i)],[]⟩) a.length ⟨0,rfl,Nat.zero_le _,Nat.zero_le _,rfl,?_⟩ ?_
 · simp only [Te,cK,qN];rfl
 rintro m S ⟨i,rfl,hi,hib,hlex,rfl⟩
 simp only [↓Ae,EL,↓Cu,↓yC,↓Cv,yD,↓mR,mh,iT,eO,Ec,Nat.reduceAdd,Nat.reduceSub,qN,Te,bS,ZJ,ZK,Lg,Nat.reduceBEq,BEq.rfl,cond_true,cond_false,eG,pq,cK,Ho,Hq,yE,List.length_map,a_,eU,↓xX,Ic,EM,ne_eq,reduceCtorEq,not_false_eq_true,true_and,PV.bool.injEq,Int.toNat_natCast,List.length_cons,List.length_nil]
 refine ⟨fun h=>?_,fun h=>?_⟩
 · have hlt:i<a.length:=by have:=of_decide_eq_true h;omega
   rw [List.drop_eq_getElem_cons hlt] at hlex
   refine ⟨by omega,a[i],List.getElem?_eq_getElem hlt,fun hge=>?_,fun hgl=>?_⟩
   · have hbe:b.length≤i:=by have:=of_decide_eq_true hge;omega
     rw [List.drop_eq_nil_of_le hbe] at hlex
     rw [← hlex];rfl
   · have hbl:i<b.length:=by have:=of_decide_eq_false hgl;omega
     rw [List.drop_eq_getElem_cons hbl] at hlex
     refine ⟨by omega,b[i],List.getElem?_eq_getElem hbl,a[i],b[i],rfl,fun hne=>?_,fun heq=>⟨by omega,a.length-(i+1),by omega,i+1,rfl,by omega,by omega,?_,rfl⟩⟩
     · have hne':jg a[i] b[i]≠0:=by simpa using hne
       rw [← hlex,eB,if_neg hne']
     · have heq':jg a[i] b[i]=0:=by simpa using heq
       rw [← hlex,eB,if_pos heq']
 · rw [if_pos trivial]
   have hge:a.length≤i:=by have:=of_decide_eq_false h;omega
   rw [List.drop_eq_nil_of_le hge] at hlex
   refine ⟨fun hl=>?_,fun hl=>?_⟩
   · have hl':i<b.length:=by have:=of_decide_eq_true hl;omega
     rw [List.drop_eq_getElem_cons hl'] at hlex
     rw [← hlex];rfl
   · have hl':b.length≤i:=by have:=of_decide_eq_false hl;omega
     rw [List.drop_eq_nil_of_le hl'] at hlex
     rw [← hlex];rfl
end Lp
set_option maxRecDepth 100000
namespace Lp
open Go Go.Proofs
set_option maxHeartbeats 2000000
def aa5 (a b:List Vl) (f:Vl→Vl→Int):dF:=fun args objs K=>∃ x y:Vl,(x ∈ a∧y ∈ b)∧args=[aC x,aC y]∧K (.int .i64 (f x y)) objs 0
theorem Y8 (a b:List Vl) (g:FuncId) (f:Vl→Vl→Int) (hg:∀ x ∈ a,∀ y ∈ b,ah Tryz.prog g [aC x,aC y] [] (.int .i64 (f x y)) []):aD Tryz.prog g (aa5 a b f):=by
 rintro args objs K ⟨x,y,⟨hx,hy⟩,rfl,hk⟩
 exact ⟨_,_,_,.pure _ rfl (hg x hx y hy),hk⟩
theorem tK (a b:List Vl) (g:FuncId) (f:Vl→Vl→Int) (ha:a.length≤9223372036854775807) (hg:∀ x ∈ a,∀ y ∈ b,ah Tryz.prog g [aC x,aC y] [] (.int .i64 (f x y)) []) :
  ah Tryz.prog 136 [dh a,dh b,.fn g [] []] [] (.int .i64 (eB f a b)) []:=by
 refine fB.pure (T:=aO Tryz.prog [(g,aa5 a b f)]) 0 hD (aj (af (Y8 a b g f hg) ai)) aT (by decide) ?_
 (conv=>arg 4;cbv);simp only [↓Ae,EL,↓Cu,↓yC,↓Cv,yD,↓mR,mh,iT,eO,Ec,Nat.reduceAdd,Nat.reduceSub,qN,bS,eG,pq,dh,List.length_map,Ho,Hq]
 refine aF (fun m S=>∃ i:Nat,m=a.length-i∧i≤a.length∧i≤b.length∧eB f (a.drop i) (b.drop i)=eB f a b∧
  S=⟨mkT 39 [(0,dh a),(1,dh b),(2,.fn g [] []),(11,dh a),(12,.int .i64 a.length),(13,.int .i64 i)],[]⟩) a.length ⟨0,rfl,Nat.zero_le _,Nat.zero_le _,rfl,?_⟩ ?_
 · simp only [Te,dh,qN];rfl
 rintro m S ⟨i,rfl,hi,hib,hlex,rfl⟩
 simp only [↓Ae,EL,↓Cu,↓yC,↓Cv,yD,↓mR,mh,iT,eO,Ec,Nat.reduceAdd,Nat.reduceSub,qN,Te,bS,ZJ,ZK,aa5,Nat.reduceBEq,BEq.rfl,cond_true,cond_false,eG,pq,dh,Ho,Hq,yE,List.length_map,a_,eU,↓xX,Ic,EM,ne_eq,reduceCtorEq,not_false_eq_true,true_and,PV.bool.injEq,Int.toNat_natCast,List.length_cons,List.length_nil]
 refine ⟨fun h=>?_,fun h=>?_⟩
 · have hlt:i<a.length:=by have:=of_decide_eq_true h;omega
   rw [List.drop_eq_getElem_cons hlt] at hlex
   refine ⟨by omega,a[i],List.getElem?_eq_getElem hlt,rfl,rfl,fun hge=>?_,fun hgl=>?_⟩
   · have hbe:b.length≤i:=by have:=of_decide_eq_true hge;omega
     rw [List.drop_eq_nil_of_le hbe] at hlex
     rw [← hlex];rfl
   · have hbl:i<b.length:=by have:=of_decide_eq_false hgl;omega
     rw [List.drop_eq_getElem_cons hbl] at hlex
     refine ⟨by omega,b[i],List.getElem?_eq_getElem hbl,rfl,rfl,a[i],b[i],⟨List.getElem_mem _,List.getElem_mem _⟩,rfl,fun hne=>?_,fun heq=>⟨by omega,a.length-(i+1),by omega,i+1,rfl,by omega,by omega,?_,rfl⟩⟩
     · have hne':f a[i] b[i]≠0:=by simpa using hne
       rw [← hlex,eB,if_neg hne']
     · have heq':f a[i] b[i]=0:=by simpa using heq
       rw [← hlex,eB,if_pos heq']
 · rw [if_pos trivial]
   have hge:a.length≤i:=by have:=of_decide_eq_false h;omega
   rw [List.drop_eq_nil_of_le hge] at hlex
   refine ⟨fun hl=>?_,fun hl=>?_⟩
   · have hl':i<b.length:=by have:=of_decide_eq_true hl;omega
     rw [List.drop_eq_getElem_cons hl'] at hlex
     rw [← hlex];rfl
   · have hl':b.length≤i:=by have:=of_decide_eq_false hl;omega
     rw [List.drop_eq_nil_of_le hl'] at hlex
     rw [← hlex];rfl
end Lp
set_option maxRecDepth 100000
namespace Lp
open Go Go.Proofs
open Nat (reduceAdd reduceLeDiff reduceMul reduceSub)
set_option maxHeartbeats 4000000
def wU:dF:=fun args objs K=>match args with
 | [.int .i64 x,.int .i64 y]=>K (.int .i64 (sD x y)) objs 0
 | _=>False
theorem Gj:aD Tryz.prog 131 (wU):=by
 intro args objs K h
 unfold wU at h
 split at h
 · rename_i x y
   have hk:=h
   exact ⟨_,_,_,.pure _ rfl (CV x y),hk⟩
 · exact h.elim
def wV:dF:=fun args objs K=>match args with
 | [.str x,.str y]=>K (.int .i64 (jg x y)) objs 0
 | _=>False
theorem Gl:aD Tryz.prog 133 (wV):=by
 intro args objs K h
 unfold wV at h
 split at h
 · rename_i x y
   have hk:=h
   exact ⟨_,_,_,.pure _ rfl (rT x y),hk⟩
 · exact h.elim
theorem Vg (a b:Nd) (ha:a.s.length≤1000000) (hb:b.s.length≤1000000) (hae:-1000≤a.e∧a.e≤1000) (hbe:-1000≤b.e∧b.e≤1000):ah Tryz.prog 167 [au a,au b] [] (.int .i64 (nW a b)) []:=by
 refine Qw.pure (T:=aO Tryz.prog [(131,wU),(133,wV)]) 0 hD (aj (af Gj (af Gl ai))) aT (by decide) ?_
 (conv=>arg 4;cbv);simp(maxSteps:=400000)only[↓aA,aB,BEq.rfl,reduceIte,reduceCtorEq,Nat.reduceLT,reduceAdd,reduceSub,reduceMul,Nat.reduceBEq,reduceLeDiff,Int.reduceToNat,Int.reduceLE]
 refine aQ _ (Weak.freeze 1 0 (Nat.le_refl _) _) ?_
 simp(maxSteps:=400000)only[↓aA,aB,BEq.rfl,reduceIte,reduceCtorEq,Nat.reduceLT,reduceAdd,reduceSub,reduceMul,Nat.reduceBEq,reduceLeDiff,Int.reduceToNat,Int.reduceLE,Xg,Xh,↓wU,↓wV]
 refine ⟨fun h=>?_,fun h=>⟨fun h'=>?_,fun h'=>⟨⟨by omega,by omega⟩,⟨by omega,by omega⟩,fun h0=>?_,fun h0=>?_⟩⟩⟩
 · rw [nW,if_pos (.inl h)]
 · rw [nW,if_pos (.inr h')]
 · rw [nW,if_neg (by simp [h,h']),if_pos h0]
 · rw [nW,if_neg (by simp [h,h']),if_neg h0]
def XK (n:Nd):Prop:=n.s.length≤1000000∧-1000≤n.e∧n.e≤1000
def ES:dF:=fun args objs K=>match args with
 | [a0,a1]=>f_ au a0 (HK.mk:HK fun a=>f_ au a1 (HK.mk:HK fun b=>(XK a)∧(XK b)∧K (.int .i64 (nW a b)) objs 0))
 | _=>False
theorem Ri:aD Tryz.prog 167 (ES):=by
 intro args objs K h
 unfold ES at h
 split at h
 · rename_i a0 a1
   obtain ⟨a,rfl,b,rfl,h1,h2,hk⟩:=h
   exact ⟨_,_,_,.pure _ rfl (Vg a b h1.1 h2.1 h1.2 h2.2),hk⟩
 · exact h.elim
theorem OA (a b:Nd) (ha:XK a) (hb:XK b):ah Tryz.prog 132 [au a,au b] [] (.int .i64 (TM a b)) []:=by
 refine UI.pure (T:=aO Tryz.prog [(167,ES)]) 0 hD (aj (af Ri ai)) aT (by decide) ?_
 (conv=>arg 4;cbv);simp(maxSteps:=400000)only[↓aA,aB,BEq.rfl,reduceIte,reduceCtorEq,Nat.reduceLT,reduceAdd,reduceSub,reduceMul,Nat.reduceBEq,reduceLeDiff,Int.reduceToNat,Int.reduceLE]
 refine aQ _ (Weak.freeze 1 0 (Nat.le_refl _) _) ?_
 simp(maxSteps:=400000)only[↓aA,aB,BEq.rfl,reduceIte,reduceCtorEq,Nat.reduceLT,reduceAdd,reduceSub,reduceMul,Nat.reduceBEq,reduceLeDiff,Int.reduceToNat,Int.reduceLE,Xg,Xh,↓ES]
 cases hx:a.neg <;> cases hy:b.neg
 all_goals simp only [ZR,TM,hx,hy,Bool.not_true,Bool.not_false,reduceIte,Bool.and_true,Bool.and_false,Bool.and_self,Bool.false_eq_true,ha,hb]
 all_goals exact ⟨trivial,trivial,trivial⟩
def wW:dF:=fun args objs K=>match args with
 | [a0,a1]=>f_ au a0 (HK.mk:HK fun a=>f_ au a1 (HK.mk:HK fun b=>(XK a)∧(XK b)∧K (.int .i64 (TM a b)) objs 0))
 | _=>False
theorem Lh:aD Tryz.prog 132 (wW):=by
 intro args objs K h
 unfold wW at h
 split at h
 · rename_i a0 a1
   obtain ⟨a,rfl,b,rfl,h1,h2,hk⟩:=h
   exact ⟨_,_,_,.pure _ rfl (OA a b h1 h2),hk⟩
 · exact h.elim
end Lp
set_option maxRecDepth 100000
namespace Lp
open Go Go.Proofs
set_option maxHeartbeats 4000000
theorem OB (v:Vl) (hl:v.length≤1099511627776) (ho:One v):ah Tryz.prog 137 [aC v] [] (dh (eD v)) []:=by
 cases v with
 | nil=>exact absurd rfl ho.ne
 | cons n r=>
  obtain ⟨hm,ps,h1,_,_⟩:=ho.parts
  have:=QF (n::r) n r ps rfl hl hm h1
  rw [eD,dh,(gu h1).1,List.map_map]
  exact this
theorem OC (v:Vl) (hl:v.length≤1099511627776) (ho:One v):ah Tryz.prog 135 [aC v] [] (cK (fC v)) []:=by
 cases v with
 | nil=>exact absurd rfl ho.ne
 | cons n r=>
  obtain ⟨hm,ps,h1,_,_⟩:=ho.parts
  have:=QG (n::r) n r ps rfl hl hm h1
  rw [Ke] at this
  rw [fC,cK,(gu h1).2]
  exact this
def Bb:dF:=fun args objs K=>match args with
 | [a0]=>f_ aC a0 (HK.mk:HK fun v=>(v.length≤1099511627776)∧(One v)∧K (dh (eD v)) objs 0)
 | _=>False
theorem OD:aD Tryz.prog 137 (Bb):=by
 intro args objs K h
 unfold Bb at h
 split at h
 · rename_i a0
   obtain ⟨v,rfl,h1,h2,hk⟩:=h
   exact ⟨_,_,_,.pure _ rfl (OB v h1 h2),hk⟩
 · exact h.elim
def Bc:dF:=fun args objs K=>match args with
 | [a0]=>f_ aC a0 (HK.mk:HK fun v=>(v.length≤1099511627776)∧(One v)∧K (cK (fC v)) objs 0)
 | _=>False
theorem OE:aD Tryz.prog 135 (Bc):=by
 intro args objs K h
 unfold Bc at h
 split at h
 · rename_i a0
   obtain ⟨v,rfl,h1,h2,hk⟩:=h
   exact ⟨_,_,_,.pure _ rfl (OC v h1 h2),hk⟩
 · exact h.elim
end Lp
set_option maxRecDepth 100000
namespace Lp
open Go Go.Proofs
set_option maxHeartbeats 4000000
def Li:dF:=fun args objs K=>match args with
 | [a0,a1]=>f_ cK a0 (HK.mk:HK fun a=>f_ cK a1 (HK.mk:HK fun b=>(a.length≤9223372036854775807)∧(b.length≤9223372036854775807)∧K (.int .i64 (eB jg a b)) objs 0))
 | _=>False
theorem Vh:aD Tryz.prog 134 (Li):=by
 intro args objs K h
 unfold Li at h
 split at h
 · rename_i a0 a1
   obtain ⟨a,rfl,b,rfl,h1,h2,hk⟩:=h
   exact ⟨_,_,_,.pure _ rfl (y8 a b h1 h2),hk⟩
 · exact h.elim
def Tv (f:Nat):dF:=fun args objs K=>match args with
 | [a0,a1,a2]=>f_ dh a0 (HK.mk:HK fun x=>f_ dh a1 (HK.mk:HK fun y=>a2=(.fn 107 [] [])∧(x.length≤9223372036854775807)∧(∀ p ∈ x,∀ q ∈ y,ah Tryz.prog 107 [aC p,aC q] [] (.int .i64 (qP f p q)) [])∧K (.int .i64 (eB (qP f) x y)) objs 0))
 | _=>False
theorem XL (f:Nat):aD Tryz.prog 136 (Tv f):=by
 intro args objs K h
 unfold Tv at h
 split at h
 · rename_i a0 a1 a2
   obtain ⟨x,rfl,y,rfl,rfl,h1,h2,hk⟩:=h
   exact ⟨_,_,_,.pure _ rfl (tK x y _ _ h1 h2),hk⟩
 · exact h.elim
structure Ok (v:Vl):Prop where
 one:One v
 len:v.length≤1099511627776
 all:∀ n ∈ v,XK n
theorem Ok.parts {v:Vl}(h:Ok v):(eD v).length≤1099511627776∧(fC v).length≤1099511627776∧∀ p ∈ eD v,Ok p∧p.length+1≤v.length:=by
 cases v with
 | nil=>exact absurd rfl h.one.ne
 | cons n r=>
  obtain ⟨hm,ps,h1,h2,h3⟩:=h.one.parts
  have hpl:=gm _ _ _ h1
  have hpn:=bQ _ _ _ h1
  have hlen:=h.len
  simp only [List.length_cons] at hlen
  refine ⟨?_,?_,?_⟩
  · rw [eD,(gu h1).1,List.length_map];omega
  · rw [fC];split
    · rw [(gu h1).2,List.length_map];omega
    · simp
  · intro p hp
    rw [eD,(gu h1).1] at hp
    obtain ⟨q,hq,rfl⟩:=List.mem_map.1 hp
    have VW:=kL hq
    rw [h2] at VW
    refine ⟨⟨(h3 q hq).jf,by rw [eZ];omega,?_⟩,by rw [eZ,List.length_cons];omega⟩
    have hin:∀ x ∈ q,XK x:=fun x hx=>h.all x (List.mem_cons_of_mem _ (by rw [← h2];exact List.mem_flatten.2 ⟨q,hq,hx⟩))
    intro x hx
    cases q with
    | nil=>cases hx
    | cons m s=>
     rcases List.mem_cons.1 hx with rfl | hx
     · exact hin m (List.mem_cons_self ..)
     · exact hin x (List.mem_cons_of_mem _ hx)
theorem yg:∀ (f:Nat) (a b:Vl),a.length≤f→Ok a→Ok b→ah Tryz.prog 107 [aC a,aC b] [] (.int .i64 (qP f a b)) []
 | 0,a,b,h,ha,_=>by have:=ha.one.ne;cases a <;> simp at h this
 | f+1,[],b,_,ha,_=>absurd rfl ha.one.ne
 | f+1,n::r,[],_,_,hb=>absurd rfl hb.one.ne
 | f+1,n::r,m::q,h,ha,hb=>by
  have hpa:=ha.parts
  have hpb:=hb.parts
  have ih:∀ p ∈ eD (n::r),∀ p' ∈ eD (m::q),ah Tryz.prog 107 [aC p,aC p'] [] (.int .i64 (qP f p p')) []:=
   fun p hp p' hp'=>yg f p p' (by have:=(hpa.2.2 p hp).2;omega) (hpa.2.2 p hp).1 (hpb.2.2 p' hp').1
  refine Nw.pure (T:=aO Tryz.prog [(131,wU),(132,wW),(133,wV),(134,Li),(135,Bc),(137,Bb),(136,(Tv f))]) 0 hD (aj (af Gj (af Lh (af Gl (af Vh (af OE (af OD (af (XL f) ai)))))))) aT (by decide) ?_
  (conv=>arg 4;cbv);simp(maxSteps:=400000)only[↓aA,aB,BEq.rfl,reduceIte,reduceCtorEq,Nat.reduceLT,Nat.reduceAdd,Nat.reduceSub,Nat.reduceMul,Nat.reduceBEq,Nat.reduceLeDiff,Int.reduceToNat,Int.reduceLE,↓wU,↓wW,↓wV,↓Li,↓Bc,↓Bb,↓Tv]
  have e1:XK n:=ha.all n (List.mem_cons_self ..)
  have e2:XK m:=hb.all m (List.mem_cons_self ..)
  have l1:r.length≤1099511627775:=by have:=ha.len;simp only [List.length_cons] at this;omega
  have l2:q.length≤1099511627775:=by have:=hb.len;simp only [List.length_cons] at this;omega
  have l3:(eD (n::r)).length≤9223372036854775807:=by have:=hpa.1;omega
  have l4:(fC (n::r)).length≤9223372036854775807:=by have:=hpa.2.1;omega
  have l5:(fC (m::q)).length≤9223372036854775807:=by have:=hpb.2.1;omega
  refine ⟨fun hk=>?_,fun hk=>?_⟩
  · have hk:n.kind=m.kind:=(oL.zero _ _ trivial trivial).1 hk
    have k0:¬ (n.kind≠m.kind):=fun h=>h hk
    refine ⟨fun h3=>⟨e1,e2,?_⟩,fun h3=>⟨fun h4=>?_,fun h4=>⟨fun h6=>⟨l1,ha.one,l2,hb.one,l4,l5,fun hl=>⟨l1,ha.one,l2,hb.one,l3,ih,?_⟩,fun hl=>?_⟩,fun h6=>⟨fun h5=>⟨l1,ha.one,l2,hb.one,l3,ih,?_⟩,fun h5=>?_⟩⟩⟩⟩
    · simp only [qP,jh,if_neg k0,if_pos h3]
    · simp only [qP,jh,if_neg k0,if_neg h3,if_pos h4]
    · have h5:¬ n.kind=5:=by omega
      have h6':m.kind=6:=by omega
      simp only [fC,if_pos h6,if_pos h6'] at hl
      simp only [qP,jh,if_neg k0,if_neg h3,if_neg h4,if_neg h5,if_pos h6,if_pos hl,eD]
    · have h5:¬ n.kind=5:=by omega
      have h6':m.kind=6:=by omega
      simp only [fC,if_pos h6,if_pos h6'] at hl ⊢
      simp only [qP,jh,if_neg k0,if_neg h3,if_neg h4,if_neg h5,if_pos h6,if_neg hl]
    · simp only [qP,jh,if_neg k0,if_neg h3,if_neg h4,if_pos h5,eD]
    · simp only [qP,jh,if_neg k0,if_neg h3,if_neg h4,if_neg h5,if_neg h6]
  · have hk':n.kind≠m.kind:=fun h=>hk ((oL.zero _ _ trivial trivial).2 h)
    simp only [qP,jh,if_pos hk']
def wX (f:Nat):dF:=fun args objs K=>match args with
 | [a0,a1]=>f_ aC a0 (HK.mk:HK fun a=>f_ aC a1 (HK.mk:HK fun b=>(a.length≤f)∧(Ok a)∧(Ok b)∧K (.int .i64 (qP f a b)) objs 0))
 | _=>False
theorem Lj (f:Nat):aD Tryz.prog 107 (wX f):=by
 intro args objs K h
 unfold wX at h
 split at h
 · rename_i a0 a1
   obtain ⟨a,rfl,b,rfl,h1,h2,h3,hk⟩:=h
   exact ⟨_,_,_,.pure _ rfl (yg f a b h1 h2 h3),hk⟩
 · exact h.elim
end Lp
set_option maxRecDepth 100000
namespace Lp
open Go Go.Proofs
open Nat (lt_or_ge reduceAdd reduceLeDiff reduceMul reduceSub)
open Int (reduceLE reduceToNat)
set_option maxHeartbeats 4000000
def DR (a b:Bool):Int:=if b then 0 else if a then -1 else 1
theorem Vi (a b:Bool):ah Tryz.prog 91 [.bool a,.bool b] [] (.int .i64 (DR a b)) []:=by
 refine Ah.aZ (T:=aO Tryz.prog []) 0 hD (aj ai) aT (by decide) fun Q hQ=>?_
 cases a <;> cases b
 all_goals (conv=>arg 4;cbv);simp(maxSteps:=400000)only[↓aA,aB,BEq.rfl,reduceIte,reduceCtorEq,Nat.reduceLT,reduceAdd,reduceSub,reduceMul,Nat.reduceBEq,reduceLeDiff,reduceToNat,reduceLE,hQ,DR]
def fV:dF:=fun args objs K=>match args with
 | [.bool a,.bool b]=>K (.int .i64 (DR a b)) objs 0
 | _=>False
theorem y9:aD Tryz.prog 91 (fV):=by
 intro args objs K h
 unfold fV at h
 split at h
 · rename_i a b
   have hk:=h
   exact ⟨_,_,_,.pure _ rfl (Vi a b),hk⟩
 · exact h.elim
theorem JU {α:Type}(f:α→α→Int) (a b:List α) (h:a=[]∨b=[]):eB f a b=DR (decide ((a.length:Int)<b.length)) (decide ((a.length:Int)=b.length)):=by
 rcases h with rfl | rfl
 · cases b with
   | nil=>rfl
   | cons y ys=>
    have h1:decide ((([]:List α).length:Int)<((y::ys).length:Int))=true:=by simp <;> omega
    have h2:decide ((([]:List α).length:Int)=((y::ys).length:Int))=false:=by simp <;> omega
    rw [h1,h2];rfl
 · cases a with
   | nil=>rfl
   | cons y ys=>
    have h1:decide (((y::ys).length:Int)<(([]:List α).length:Int))=false:=by simp <;> omega
    have h2:decide (((y::ys).length:Int)=(([]:List α).length:Int))=false:=by simp <;> omega
    rw [h1,h2];rfl
theorem Iz (a b:List (List UInt8)) (ha:a.length≤1000000) (hb:b.length≤1000000):ah Tryz.prog 94 [cK a,cK b] [] (.int .i64 (eB jg a b)) []:=by
 refine yI.aZ (T:=aO Tryz.prog [(91,fV)]) 0 hD (aj (af y9 ai)) aT (by decide) fun Q hQ=>?_
 (conv=>arg 4;cbv);simp(maxSteps:=400000)only[↓aA,aB,BEq.rfl,reduceIte,reduceCtorEq,Nat.reduceLT,reduceAdd,reduceSub,reduceMul,Nat.reduceBEq,reduceLeDiff,reduceToNat,reduceLE,hQ]
 refine aF (fun m S=>∃ i:Nat,i+m=a.length∧i≤b.length∧eB jg (a.drop i) (b.drop i)=eB jg a b∧S=⟨cO 48 [(0,cK a),(1,cK b),(5,.int .i64 i)],[]⟩) a.length ⟨0,by omega,by omega,rfl,?_⟩ ?_
 · simp only [bI,keepR,reduceAdd,kT,Nat.reduceBEq,List.map_nil]
   rfl
 rintro m S ⟨i,him,hib,hlx,rfl⟩
 have zi:(0≤(i:Int))=True:=eq_true (by omega)
 have fin:a.length≤i∨b.length≤i→eB jg a b=DR (decide ((a.length:Int)<b.length)) (decide ((a.length:Int)=b.length)):=by
  intro h
  rw [← hlx,JU]
  · simp only [List.length_drop]
    congr 1
    · exact decide_eq_decide.2 (by omega)
    · exact decide_eq_decide.2 (by omega)
  · rcases h with h | h
    · exact .inl (List.drop_eq_nil_of_le h)
    · exact .inr (List.drop_eq_nil_of_le h)
 rcases lt_or_ge i a.length with h | h
 rotate_left 1
 · have hlt:((i:Int)<(a.length:Int))=False:=eq_false (by omega)
   simp(maxSteps:=400000)only[↓aA,aB,BEq.rfl,reduceIte,reduceCtorEq,Nat.reduceLT,reduceAdd,reduceSub,reduceMul,Nat.reduceBEq,reduceLeDiff,reduceToNat,reduceLE,hQ,hlt,↓fV]
   rw [fin (.inl h)]
 have hlt:((i:Int)<(a.length:Int))=True:=eq_true (by omega)
 rcases lt_or_ge i b.length with h' | h'
 rotate_left 1
 · have hlt2:((i:Int)<(b.length:Int))=False:=eq_false (by omega)
   simp(maxSteps:=400000)only[↓aA,aB,BEq.rfl,reduceIte,reduceCtorEq,Nat.reduceLT,reduceAdd,reduceSub,reduceMul,Nat.reduceBEq,reduceLeDiff,reduceToNat,reduceLE,hQ,hlt,hlt2,↓fV]
   rw [fin (.inr h')]
 have hlt2:((i:Int)<(b.length:Int))=True:=eq_true (by omega)
 have ga:=List.getElem?_eq_getElem h
 have gb:=List.getElem?_eq_getElem h'
 have da:=List.drop_eq_getElem_cons h
 have db:=List.drop_eq_getElem_cons h'
 generalize a[i]=x at ga da
 generalize b[i]=y at gb db
 rw [da,db,eB] at hlx
 by_cases hxy:x=y
 · subst hxy
   rw [if_pos ((BR.zero _ _ trivial trivial).2 rfl)] at hlx
   simp(maxSteps:=400000)only[↓aA,aB,BEq.rfl,reduceIte,reduceCtorEq,Nat.reduceLT,reduceAdd,reduceSub,reduceMul,Nat.reduceBEq,reduceLeDiff,reduceToNat,reduceLE,hQ,hlt,hlt2,zi,ga,gb,↓fV]
   exact ⟨⟨by omega,by omega⟩,m-1,by omega,i+1,by omega,by omega,hlx,by simp⟩
 · have hne:jg x y≠0:=fun h=>hxy ((BR.zero _ _ trivial trivial).1 h)
   rw [if_neg hne] at hlx
   simp(maxSteps:=400000)only[↓aA,aB,BEq.rfl,reduceIte,reduceCtorEq,Nat.reduceLT,reduceAdd,reduceSub,reduceMul,Nat.reduceBEq,reduceLeDiff,reduceToNat,reduceLE,hQ,hlt,hlt2,zi,ga,gb,hxy,↓fV]
   rw [← hlx]
   rcases jH x y with ⟨h1,e1⟩ | ⟨h1,_⟩ | ⟨h1,e1⟩
   · rw [e1,h1];rfl
   · exact absurd h1 hxy
   · rw [e1,kE _ _ h1];rfl
def qy:dF:=fun args objs K=>match args with
 | [a0,a1]=>f_ cK a0 (HK.mk:HK fun a=>f_ cK a1 (HK.mk:HK fun b=>(a.length≤1000000)∧(b.length≤1000000)∧K (.int .i64 (eB jg a b)) objs 0))
 | _=>False
theorem Gm:aD Tryz.prog 94 (qy):=by
 intro args objs K h
 unfold qy at h
 split at h
 · rename_i a0 a1
   obtain ⟨a,rfl,b,rfl,h1,h2,hk⟩:=h
   exact ⟨_,_,_,.pure _ rfl (Iz a b h1 h2),hk⟩
 · exact h.elim
def Bd (f:Vl→Vl→Int):dF:=fun args objs K=>match args with
 | [a0,a1]=>f_ aC a0 (HK.mk:HK fun p=>f_ aC a1 (HK.mk:HK fun q=>(ah Tryz.prog 67 [aC p,aC q] [] (.int .i64 (f p q)) [])∧K (.int .i64 (f p q)) objs 0))
 | _=>False
theorem Rj (f:Vl→Vl→Int):aD Tryz.prog 67 (Bd f):=by
 intro args objs K h
 unfold Bd at h
 split at h
 · rename_i a0 a1
   obtain ⟨p,rfl,q,rfl,h1,hk⟩:=h
   exact ⟨_,_,_,.pure _ rfl (h1),hk⟩
 · exact h.elim
theorem Ll (f:Vl→Vl→Int) (a b:List Vl) (ha:a.length≤1000000) (hb:b.length≤1000000) (hf:∀ p ∈ a,∀ q ∈ b,ah Tryz.prog 67 [aC p,aC q] [] (.int .i64 (f p q)) []):ah Tryz.prog 93 [dh a,dh b] [] (.int .i64 (eB f a b)) []:=by
 refine Ai.aZ (T:=aO Tryz.prog [(67,(Bd f)),(91,fV)]) 0 hD (aj (af (Rj f) (af y9 ai))) aT (by decide) fun Q hQ=>?_
 (conv=>arg 4;cbv);simp(maxSteps:=400000)only[↓aA,aB,BEq.rfl,reduceIte,reduceCtorEq,Nat.reduceLT,reduceAdd,reduceSub,reduceMul,Nat.reduceBEq,reduceLeDiff,reduceToNat,reduceLE,hQ]
 refine aF (fun m S=>∃ i:Nat,i+m=a.length∧i≤b.length∧eB f (a.drop i) (b.drop i)=eB f a b∧S=⟨cO 42 [(0,dh a),(1,dh b),(5,.int .i64 i)],[]⟩) a.length ⟨0,by omega,by omega,rfl,?_⟩ ?_
 · simp only [bI,keepR,reduceAdd,kT,Nat.reduceBEq,List.map_nil]
   rfl
 rintro m S ⟨i,him,hib,hlx,rfl⟩
 have zi:(0≤(i:Int))=True:=eq_true (by omega)
 have fin:a.length≤i∨b.length≤i→eB f a b=DR (decide ((a.length:Int)<b.length)) (decide ((a.length:Int)=b.length)):=by
  intro h
  rw [← hlx,JU]
  · simp only [List.length_drop]
    congr 1
    · exact decide_eq_decide.2 (by omega)
    · exact decide_eq_decide.2 (by omega)
  · rcases h with h | h
    · exact .inl (List.drop_eq_nil_of_le h)
    · exact .inr (List.drop_eq_nil_of_le h)
 rcases lt_or_ge i a.length with h | h
 rotate_left 1
 · have hlt:((i:Int)<(a.length:Int))=False:=eq_false (by omega)
   simp(maxSteps:=400000)only[↓aA,aB,BEq.rfl,reduceIte,reduceCtorEq,Nat.reduceLT,reduceAdd,reduceSub,reduceMul,Nat.reduceBEq,reduceLeDiff,reduceToNat,reduceLE,hQ,hlt,↓fV]
   rw [fin (.inl h)]
 have hlt:((i:Int)<(a.length:Int))=True:=eq_true (by omega)
 rcases lt_or_ge i b.length with h' | h'
 rotate_left 1
 · have hlt2:((i:Int)<(b.length:Int))=False:=eq_false (by omega)
   simp(maxSteps:=400000)only[↓aA,aB,BEq.rfl,reduceIte,reduceCtorEq,Nat.reduceLT,reduceAdd,reduceSub,reduceMul,Nat.reduceBEq,reduceLeDiff,reduceToNat,reduceLE,hQ,hlt,hlt2,↓fV]
   rw [fin (.inr h')]
 have hlt2:((i:Int)<(b.length:Int))=True:=eq_true (by omega)
 have ga:=List.getElem?_eq_getElem h
 have gb:=List.getElem?_eq_getElem h'
 have da:=List.drop_eq_getElem_cons h
 have db:=List.drop_eq_getElem_cons h'
 have hfx:=hf _ (List.getElem_mem h) _ (List.getElem_mem h')
 generalize a[i]=x at ga da hfx
 generalize b[i]=y at gb db hfx
 rw [da,db,eB] at hlx
 by_cases hxy:f x y=0
 · rw [if_pos hxy] at hlx
   simp(maxSteps:=400000)only[↓aA,aB,BEq.rfl,reduceIte,reduceCtorEq,Nat.reduceLT,reduceAdd,reduceSub,reduceMul,Nat.reduceBEq,reduceLeDiff,reduceToNat,reduceLE,hQ,hlt,hlt2,zi,ga,gb,hxy,↓fV,↓Bd]
   exact ⟨by rw [← hxy];exact hfx,⟨by omega,by omega⟩,m-1,by omega,i+1,by omega,by omega,hlx,by simp⟩
 · rw [if_neg hxy] at hlx
   simp(maxSteps:=400000)only[↓aA,aB,BEq.rfl,reduceIte,reduceCtorEq,Nat.reduceLT,reduceAdd,reduceSub,reduceMul,Nat.reduceBEq,reduceLeDiff,reduceToNat,reduceLE,hQ,hlt,hlt2,zi,ga,gb,hxy,↓fV,↓Bd]
   exact ⟨hfx,by rw [hlx]⟩
end Lp
set_option maxRecDepth 100000
namespace Lp
open Go Go.Proofs
open Nat (reduceAdd reduceLeDiff reduceMul reduceSub)
open Int (reduceEq reduceLE reduceToNat)
set_option maxHeartbeats 4000000
structure Ok2 (v:Vl):Prop where
 one:One v
 len:v.length≤1000000
 all:∀ n ∈ v,n.kind=3→Ba n
theorem Ok2.parts {v:Vl}(h:Ok2 v):(eD v).length≤1000000∧(fC v).length≤1000000∧∀ p ∈ eD v,Ok2 p∧p.length+1≤v.length:=by
 cases v with
 | nil=>exact absurd rfl h.one.ne
 | cons n r=>
  obtain ⟨hm,ps,h1,h2,h3⟩:=h.one.parts
  have hpl:=gm _ _ _ h1
  have hpn:=bQ _ _ _ h1
  have hlen:=h.len
  simp only [List.length_cons] at hlen
  refine ⟨?_,?_,?_⟩
  · rw [eD,(gu h1).1,List.length_map];omega
  · rw [fC];split
    · rw [(gu h1).2,List.length_map];omega
    · simp
  · intro p hp
    rw [eD,(gu h1).1] at hp
    obtain ⟨q,hq,rfl⟩:=List.mem_map.1 hp
    have VW:=kL hq
    rw [h2] at VW
    refine ⟨⟨(h3 q hq).jf,by rw [eZ];omega,?_⟩,by rw [eZ,List.length_cons];omega⟩
    have hin:∀ x ∈ q,x.kind=3→Ba x:=fun x hx=>h.all x (List.mem_cons_of_mem _ (by rw [← h2];exact List.mem_flatten.2 ⟨q,hq,hx⟩))
    intro x hx
    cases q with
    | nil=>cases hx
    | cons m s=>
     rcases List.mem_cons.1 hx with rfl | hx
     · intro hk
       have:=hin m (List.mem_cons_self ..) hk
       exact ⟨this.len,this.fH,this.lo,this.hi⟩
     · exact hin x (List.mem_cons_of_mem _ hx)
def Be (f:Vl→Vl→Int):dF:=fun args objs K=>match args with
 | [a0,a1]=>f_ dh a0 (HK.mk:HK fun x=>f_ dh a1 (HK.mk:HK fun y=>(x.length≤1000000)∧(y.length≤1000000)∧(∀ p ∈ x,∀ q ∈ y,ah Tryz.prog 67 [aC p,aC q] [] (.int .i64 (f p q)) [])∧K (.int .i64 (eB f x y)) objs 0))
 | _=>False
theorem Rk (f:Vl→Vl→Int):aD Tryz.prog 93 (Be f):=by
 intro args objs K h
 unfold Be at h
 split at h
 · rename_i a0 a1
   obtain ⟨x,rfl,y,rfl,h1,h2,h3,hk⟩:=h
   exact ⟨_,_,_,.pure _ rfl (Ll f x y h1 h2 h3),hk⟩
 · exact h.elim
theorem Gn {a b a' b':Nd}(h1:∀ p,yc a p=yc a' p) (h2:∀ p,yc b p=yc b' p):∀ (k:Nat) (p:Int),lY a b k p=lY a' b' k p
 | 0,_=>rfl
 | k+1,p=>by simp only [lY,h1,h2,Gn h1 h2 k]
theorem Rl (n m:Nd) (k l:Int) (x y:List UInt8):kU { n with kind:=k,name:=x } { m with kind:=l,name:=y }=kU n m:=by
 have hd:∀ (j:Nat) (p:Int),lY { n with kind:=k,name:=x } { m with kind:=l,name:=y } j p=lY n m j p:=Gn (fun _=>rfl) (fun _=>rfl)
 simp only [kU,hd]
 rfl
theorem Bf:∀ (f:Nat) (a b:Vl),a.length≤f→Ok2 a→Ok2 b→ah Tryz.prog 67 [aC a,aC b] [] (.int .i64 (jh kU f a b)) []
 | 0,a,b,h,ha,_=>by have:=ha.one.ne;cases a <;> simp at h this
 | f+1,[],b,_,ha,_=>absurd rfl ha.one.ne
 | f+1,n::r,[],_,_,hb=>absurd rfl hb.one.ne
 | f+1,n::r,m::q,h,ha,hb=>by
  have hpa:=ha.parts
  have hpb:=hb.parts
  have ih:∀ p ∈ eD (n::r),∀ p' ∈ eD (m::q),ah Tryz.prog 67 [aC p,aC p'] [] (.int .i64 (jh kU f p p')) []:=
   fun p hp p' hp'=>Bf f p p' (by have:=(hpa.2.2 p hp).2;omega) (hpa.2.2 p hp).1 (hpb.2.2 p' hp').1
  have l1:=ha.len
  have l2:=hb.len
  have o1:=ha.one
  have o2:=hb.one
  generalize hA:n::r=A at *
  generalize hB:m::q=B at *
  have ga:A[0]?=some n:=by rw [← hA];rfl
  have gb:B[0]?=some m:=by rw [← hB];rfl
  have na:=ha.all n (by rw [← hA];exact List.mem_cons_self ..)
  have nb:=hb.all m (by rw [← hB];exact List.mem_cons_self ..)
  have pA:eD A=partsOf n r:=by rw [← hA];rfl
  have pB:eD B=partsOf m q:=by rw [← hB];rfl
  have sA:fC A=if n.kind=6 then sF n r else []:=by rw [← hA];rfl
  have sB:fC B=if m.kind=6 then sF m q else []:=by rw [← hB];rfl
  have res:jh kU (f+1) A B=jh kU (f+1) (n::r) (m::q):=by rw [hA,hB]
  refine Cw.aZ (T:=aO Tryz.prog [(91,fV),(92,wT),(38,nP),(90,nk),(94,qy),(93,(Be (jh kU f)))]) 0 hD (aj (af y9 (af Ld (af Ga (af CQ (af Gm (af (Rk (jh kU f)) ai))))))) aT (by decide) fun Q hQ=>?_
  by_cases hk:n.kind=m.kind
  rotate_left 1
  · (conv=>arg 4;cbv);simp(maxSteps:=400000)only[↓aA,aB,BEq.rfl,reduceIte,reduceCtorEq,Nat.reduceLT,reduceAdd,reduceSub,reduceMul,Nat.reduceBEq,reduceLeDiff,reduceToNat,reduceLE,hQ,ga,gb,hk,↓fV]
    have:jh kU (f+1) A B=DR (decide (n.kind<m.kind)) false:=by
     rw [res]
     simp only [jh,ne_eq,hk,not_false_eq_true,if_true,sD,DR,decide_eq_true_eq,Bool.false_eq_true,if_false]
     split
     · rfl
     · rw [if_pos (by omega)]
    rw [this]
  by_cases h3:n.kind=3
  · have h3':m.kind=3:=by omega
    have e3:jh kU (f+1) A B=kU n m:=by
     rw [res];simp [jh,hk,h3']
    (conv=>arg 4;cbv);simp(maxSteps:=400000)only[↓aA,aB,BEq.rfl,reduceIte,reduceCtorEq,Nat.reduceLT,reduceAdd,reduceSub,reduceMul,Nat.reduceBEq,reduceLeDiff,reduceToNat,reduceLE,hQ,ga,gb,h3,h3',↓fV,↓wT,reduceEq,bf,bg]
    refine ⟨by decide,?_,?_,?_⟩
    · have:=na h3;exact ⟨this.len,this.fH,this.lo,this.hi⟩
    · have:=nb h3';exact ⟨this.len,this.fH,this.lo,this.hi⟩
    · rw [e3];exact congrArg _ (Rl n m 3 3 [] []).symm
  by_cases h4:n.kind=4
  · have h4':m.kind=4:=by omega
    (conv=>arg 4;cbv);simp(maxSteps:=400000)only[↓aA,aB,BEq.rfl,reduceIte,reduceCtorEq,Nat.reduceLT,reduceAdd,reduceSub,reduceMul,Nat.reduceBEq,reduceLeDiff,reduceToNat,reduceLE,hQ,ga,gb,h4,h4',↓fV,reduceEq]
    have e4:jh kU (f+1) A B=jg n.s m.s:=by
     rw [res];simp [jh,hk,h4']
    rw [e4]
    rcases jH n.s m.s with ⟨g1,e1⟩ | ⟨g1,e1⟩ | ⟨g1,e1⟩
    · have:n.s≠m.s:=fun hh=>by rw [hh,dI] at g1;cases g1
      rw [e1,g1,decide_eq_false this];rfl
    · rw [e1,decide_eq_true g1];rfl
    · have:n.s≠m.s:=fun hh=>by rw [hh,dI] at g1;cases g1
      rw [e1,decide_eq_false this,kE _ _ g1];rfl
  by_cases h5:n.kind=5
  · have h5':m.kind=5:=by omega
    (conv=>arg 4;cbv);simp(maxSteps:=400000)only[↓aA,aB,BEq.rfl,reduceIte,reduceCtorEq,Nat.reduceLT,reduceAdd,reduceSub,reduceMul,Nat.reduceBEq,reduceLeDiff,reduceToNat,reduceLE,hQ,ga,gb,h5,h5',↓fV,reduceEq,↓nP,↓Be]
    have e5:jh kU (f+1) A B=eB (jh kU f) (eD A) (eD B):=by
     rw [res,pA,pB];simp [jh,hk,h5']
    exact ⟨o1,l1,o2,l2,hpa.1,hpb.1,ih,by rw [e5]⟩
  by_cases h6:n.kind=6
  · have h6':m.kind=6:=by omega
    (conv=>arg 4;cbv);simp(maxSteps:=400000)only[↓aA,aB,BEq.rfl,reduceIte,reduceCtorEq,Nat.reduceLT,reduceAdd,reduceSub,reduceMul,Nat.reduceBEq,reduceLeDiff,reduceToNat,reduceLE,hQ,ga,gb,h6,h6',↓fV,reduceEq,↓nP,↓Be,↓nk,↓qy]
    have e6:jh kU (f+1) A B=if eB jg (fC A) (fC B)=0 then eB (jh kU f) (eD A) (eD B) else eB jg (fC A) (fC B):=by
     rw [res,pA,pB,sA,sB,if_pos h6,if_pos h6'];simp [jh,hk,h6']
    refine ⟨o1,l1,o2,l2,hpa.2.1,hpb.2.1,fun hz=>⟨o1,l1,o2,l2,hpa.1,hpb.1,ih,?_⟩,fun hz=>?_⟩
    · rw [e6,if_pos hz]
    · rw [e6,if_neg hz]
  · have e0:jh kU (f+1) A B=0:=by
     rw [res];simp only [jh,hk,ne_eq,not_true_eq_false,if_false,hk ▸ h3,hk ▸ h4,hk ▸ h5,hk ▸ h6]
    (conv=>arg 4;cbv);simp(maxSteps:=400000)only[↓aA,aB,BEq.rfl,reduceIte,reduceCtorEq,Nat.reduceLT,reduceAdd,reduceSub,reduceMul,Nat.reduceBEq,reduceLeDiff,reduceToNat,reduceLE,hQ,ga,gb,hk ▸ h3,hk ▸ h4,hk ▸ h5,hk ▸ h6,hk,↓fV,e0]
def ET (f:Nat):dF:=fun args objs K=>match args with
 | [a0,a1]=>f_ aC a0 (HK.mk:HK fun a=>f_ aC a1 (HK.mk:HK fun b=>(a.length≤f)∧(Ok2 a)∧(Ok2 b)∧K (.int .i64 (jh kU f a b)) objs 0))
 | _=>False
theorem Rm (f:Nat):aD Tryz.prog 67 (ET f):=by
 intro args objs K h
 unfold ET at h
 split at h
 · rename_i a0 a1
   obtain ⟨a,rfl,b,rfl,h1,h2,h3,hk⟩:=h
   exact ⟨_,_,_,.pure _ rfl (Bf f a b h1 h2 h3),hk⟩
 · exact h.elim
end Lp
set_option maxRecDepth 100000
namespace Lp
open Go
theorem Lm {v:Vl}(h:dH v=true):∀ n ∈ v,bD n=true:=by
 have hg:=(wz h).good
 intro n hn
 obtain ⟨i,hi,rfl⟩:=List.getElem_of_mem hn
 exact (hg i v[i] (v.drop (i+1)) (List.drop_eq_getElem_cons hi)).1
theorem pQ {n:Nd}(h:bD n=true) (hk:n.kind=3):qO n=true:=by
 rw [bD,if_neg (by omega),if_pos hk] at h
 exact h
theorem Tw {n:Nd}(h:qO n=true):Ba n:=by
 have:=(nO n).1 h
 exact ⟨by omega,this.2.1,by omega,by omega⟩
theorem Vj {n:Nd}(h:bD n=true) (hs:n.s.length≤1000000):XK n:=by
 refine ⟨hs,?_⟩
 by_cases h3:n.kind=3
 · have:=Tw (pQ h h3)
   exact ⟨this.lo,this.hi⟩
 · have he:n.e=0:=by
    unfold bD at h
    split at h
    · simp only [Bool.and_eq_true,beq_iff_eq] at h;exact h.2
    · split at h
      · simp only [Bool.and_eq_true,beq_iff_eq] at h;exact h.2
      · split at h
        · simp only [Bool.and_eq_true,beq_iff_eq] at h;exact h.2
        · cases h
   omega
structure acf (v:Vl) (k:Nat):Prop where
 len:v.length≤k
 rt:Rt v
 ok:Ok v
 ok2:Ok2 v
end Lp
set_option maxRecDepth 100000
namespace Lp
open Go
open List (drop_eq_nil_of_le)
def rU:List UInt8→List UInt8→Int
 | [],[]=>0
 | [],y::ys=>if 48<y.toNat then -1 else rU [] ys
 | x::xs,[]=>if 48<x.toNat then 1 else rU xs []
 | x::xs,y::ys=>if x.toNat<y.toNat then -1 else if y.toNat<x.toNat then 1 else rU xs ys
theorem OG {s:List UInt8}(h:fH s=true):∀ c ∈ s,48≤c.toNat∧c.toNat≤57:=by
 intro c hc
 obtain ⟨i,hi,rfl⟩:=List.getElem_of_mem hc
 exact pO h (List.getElem?_eq_getElem hi)
theorem Lr (n:Nd) (i:Nat):yc n ((n.s.length:Int)+n.e-1-i)=match n.s[i]? with | some c=>(c.toNat:Int)-48 | none=>0:=by
 have e:(n.s.length:Int)-1-((n.s.length:Int)+n.e-1-i-n.e)=i:=by omega
 simp only [yc,e]
 rw [if_neg (by omega),Int.toNat_natCast]
 try rfl
theorem OH (a b:Nd) (ha:fH a.s=true) (hb:fH b.s=true) (ht:(a.s.length:Int)+a.e=b.s.length+b.e):∀ (k i:Nat),a.s.length≤i+k→b.s.length≤i+k→lY a b k ((a.s.length:Int)+a.e-1-i)=rU (a.s.drop i) (b.s.drop i)
 | 0,i,h1,h2=>by
  rw [drop_eq_nil_of_le (by omega),drop_eq_nil_of_le (by omega)]
  simp only [lY,rU]
 | k+1,i,h1,h2=>by
  have ih:=OH a b ha hb ht k (i+1) (by omega) (by omega)
  have e:(a.s.length:Int)+a.e-1-((i+1:Nat):Int)=(a.s.length:Int)+a.e-1-i-1:=by omega
  rw [e] at ih
  have fa:=Lr a i
  have fb:=Lr b i
  rw [← ht] at fb
  simp only [lY,ih]
  rcases Nat.lt_or_ge i a.s.length with la | la <;> rcases Nat.lt_or_ge i b.s.length with lb | lb
  · rw [List.getElem?_eq_getElem la] at fa
    rw [List.getElem?_eq_getElem lb] at fb
    simp only at fa fb
    rw [List.drop_eq_getElem_cons la,List.drop_eq_getElem_cons lb,rU,fa,fb]
    by_cases c1:a.s[i].toNat<b.s[i].toNat
    · rw [if_pos (by omega),if_pos c1]
    · rw [if_neg (by omega),if_neg c1]
      by_cases c2:b.s[i].toNat<a.s[i].toNat
      · rw [if_pos (by omega),if_pos c2]
      · rw [if_neg (by omega),if_neg c2]
  · rw [List.getElem?_eq_getElem la] at fa
    rw [List.getElem?_eq_none lb] at fb
    simp only at fa fb
    have:=pO ha (List.getElem?_eq_getElem la)
    rw [List.drop_eq_getElem_cons la,drop_eq_nil_of_le lb,drop_eq_nil_of_le (by omega:b.s.length≤i+1),rU,fa,fb]
    by_cases c1:48<a.s[i].toNat
    · rw [if_neg (by omega),if_pos (by omega),if_pos c1]
    · rw [if_neg (by omega),if_neg (by omega),if_neg c1]
  · rw [List.getElem?_eq_none la] at fa
    rw [List.getElem?_eq_getElem lb] at fb
    simp only at fa fb
    have:=pO hb (List.getElem?_eq_getElem lb)
    rw [List.drop_eq_getElem_cons lb,drop_eq_nil_of_le la,drop_eq_nil_of_le (by omega:a.s.length≤i+1),rU,fa,fb]
    by_cases c1:48<b.s[i].toNat
    · rw [if_pos (by omega),if_pos c1]
    · rw [if_neg (by omega),if_neg (by omega),if_neg c1]
  · rw [List.getElem?_eq_none la] at fa
    rw [List.getElem?_eq_none lb] at fb
    simp only at fa fb
    rw [drop_eq_nil_of_le la,drop_eq_nil_of_le lb,drop_eq_nil_of_le (by omega:a.s.length≤i+1),drop_eq_nil_of_le (by omega:b.s.length≤i+1),fa,fb]
    simp
theorem Gp:∀ ys:List UInt8,(∀ c ∈ ys,48≤c.toNat)→ys≠[]→ys.getLast?≠some 48→rU [] ys=-1
 | [],_,h,_=>absurd rfl h
 | [y],hf,_,hl=>by
  have h1:=hf y (List.mem_cons_self ..)
  have h2:y.toNat≠48:=fun h=>hl (by rw [List.getLast?_singleton];congr 1;exact UInt8.toNat_inj.1 (by simpa using h))
  rw [rU,if_pos (by omega)]
 | y::z::ys,hf,_,hl=>by
  rw [rU]
  split
  · rfl
  · exact Gp (z::ys) (fun c hc=>hf c (List.mem_cons_of_mem _ hc)) (by simp) (by rwa [List.getLast?_cons_cons] at hl)
theorem wY:∀ xs ys:List UInt8,rU ys xs=-rU xs ys
 | [],[]=>by simp [rU]
 | [],y::ys=>by
  simp only [rU];split
  · rfl
  · exact wY [] ys
 | x::xs,[]=>by
  simp only [rU];split
  · rfl
  · exact wY xs []
 | x::xs,y::ys=>by
  simp only [rU]
  have:=wY xs ys
  repeat' split
  all_goals omega
theorem OI:∀ xs ys:List UInt8,(∀ c ∈ xs,48≤c.toNat)→(∀ c ∈ ys,48≤c.toNat)→xs.getLast?≠some 48→ys.getLast?≠some 48→rU xs ys=jg xs ys
 | [],[],_,_,_,_=>by simp [rU,jg,Op.bytesLess]
 | [],y::ys,_,hb,_,lb=>by rw [Gp (y::ys) hb (by simp) lb];rfl
 | x::xs,[],ha,_,la,_=>by rw [wY,Gp (x::xs) ha (by simp) la];rfl
 | x::xs,y::ys,ha,hb,la,lb=>by
  have hla:xs.getLast?≠some 48:=by
   cases xs with
   | nil=>simp
   | cons z zs=>rwa [List.getLast?_cons_cons] at la
  have hlb:ys.getLast?≠some 48:=by
   cases ys with
   | nil=>simp
   | cons z zs=>rwa [List.getLast?_cons_cons] at lb
  have ih:=OI xs ys (fun c hc=>ha c (List.mem_cons_of_mem _ hc)) (fun c hc=>hb c (List.mem_cons_of_mem _ hc)) hla hlb
  rw [rU]
  by_cases h1:x.toNat<y.toNat
  · have:x<y:=UInt8.lt_iff_toNat_lt.2 h1
    rw [if_pos h1]
    simp [jg,Op.bytesLess,this]
  · rw [if_neg h1]
    have hn:¬ x<y:=fun h=>h1 (UInt8.lt_iff_toNat_lt.1 h)
    by_cases h2:y.toNat<x.toNat
    · have hxy:x≠y:=fun h=>by rw [h] at h2;omega
      rw [if_pos h2]
      simp [jg,Op.bytesLess,hn,hxy]
    · have hxy:x=y:=UInt8.toNat_inj.1 (by omega)
      subst hxy
      rw [if_neg h2,ih]
      simp [jg,Op.bytesLess]
theorem gW (n:Nd) (p:Int) (h:(n.s.length:Int)+n.e≤p):yc n p=0:=by
 simp only [yc]
 rw [if_pos (by omega)]
theorem wZ (n:Nd) (hf:fH n.s=true) (hs:n.s≠[]) (hh:n.s.head?≠some 48):0<yc n ((n.s.length:Int)+n.e-1):=by
 have h:=Lr n 0
 cases hns:n.s with
 | nil=>exact absurd hns hs
 | cons c t=>
  have h0:n.s[0]?=some c:=by rw [hns];rfl
  rw [h0] at h
  simp only [Int.natCast_zero,Int.sub_zero] at h
  have hc:=pO hf h0
  have hne:c.toNat≠48:=fun he=>hh (by rw [hns,List.head?_cons];congr 1;exact UInt8.toNat_inj.1 (by simpa using he))
  rw [← hns,h]
  omega
theorem Tx (a b:Nd) (k:Nat) (p:Int) (hk:2≤k) (h0:yc a p=yc b p) (h1:yc a (p-1)<yc b (p-1)):lY a b k p=-1:=by
 obtain ⟨k,rfl⟩:∃ q,k=q+2:=⟨k-2,by omega⟩
 rw [lY,if_neg (by omega),if_neg (by omega),lY,if_pos h1]
theorem Ty (a b:Nd) (k:Nat) (p:Int) (hk:2≤k) (h0:yc a p=yc b p) (h1:yc b (p-1)<yc a (p-1)):lY a b k p=1:=by
 obtain ⟨k,rfl⟩:∃ q,k=q+2:=⟨k-2,by omega⟩
 rw [lY,if_neg (by omega),if_neg (by omega),lY,if_neg (by omega),if_pos h1]
theorem JV (a b:Nd) (h:∀ p,yc a p=yc b p):∀ (k:Nat) (p:Int),lY a b k p=0
 | 0,_=>rfl
 | k+1,p=>by
  have:=h p
  rw [lY,if_neg (by omega),if_neg (by omega)]
  exact JV a b h k (p-1)
end Lp
set_option maxRecDepth 100000
namespace Lp
open Go
theorem CW (a b:Nd) (t:Int) (h:∀ q,t≤q→yc a q=yc b q) (k:Nat):∀ d:Nat,lY a b (k+d) (t+d)=lY a b k t
 | 0=>by simp
 | d+1=>by
  have:=h (t+((d+1:Nat):Int)) (by omega)
  rw [show k+(d+1)=(k+d)+1 by omega,lY,if_neg (by omega),if_neg (by omega),show t+((d+1:Nat):Int)-1=t+d by omega]
  exact CW a b t h k d
theorem Vk (a b:Nd) (ha:qO a=true) (hb:qO b=true):lY a b (j5 a b-jG a b+1).toNat (j5 a b)=nW a b:=by
 have A:=(nO a).1 ha
 have B:=(nO b).1 hb
 have hl:∀ x:Nd,x.s≠[]→0<x.s.length:=fun x h=>List.length_pos_iff.2 h
 have zero:∀ n:Nd,n.s=[]→∀ p,yc n p=0:=by
  intro n hn p
  simp only [yc,hn]
  split
  · rfl
  · simp
 by_cases sa:a.s=[]
 · have ea:a.e=0:=by have:=A.2.2.2.2.2.2;rw [if_pos sa] at this;exact this.2
   by_cases sb:b.s=[]
   · rw [JV a b (fun p=>by rw [zero a sa,zero b sb]),nW,if_pos (.inl sa),sa,sb];rfl
   · have hb2:=B.2.2.2.2.2.2
     rw [if_neg sb] at hb2
     have hlb:=hl b sb
     have first:=wZ b B.2.1 sb hb2.1
     rw [nW,if_pos (.inl sa),sa,sD,if_pos (by simp;omega)]
     have low:jG a b≤b.e:=by unfold jG;split <;> omega
     have htop:(b.s.length:Int)+b.e≤j5 a b:=by unfold j5;split <;> omega
     have hsk:=CW a b ((b.s.length:Int)+b.e) (fun q hq=>by rw [zero a sa,gW b q hq]) ((b.s.length:Int)+b.e-jG a b+1).toNat (j5 a b-(b.s.length+b.e)).toNat
     rw [show ((b.s.length:Int)+b.e-jG a b+1).toNat+(j5 a b-(b.s.length+b.e)).toNat=(j5 a b-jG a b+1).toNat by omega,show ((b.s.length:Int)+b.e)+((j5 a b-(b.s.length+b.e)).toNat:Int)=j5 a b by omega] at hsk
     rw [hsk]
     refine Tx a b _ _ (by omega) ?_ ?_
     · rw [zero a sa,gW b _ (Int.le_refl _)]
     · rw [zero a sa];exact first
 by_cases sb:b.s=[]
 · have eb:b.e=0:=by have:=B.2.2.2.2.2.2;rw [if_pos sb] at this;exact this.2
   have ha2:=A.2.2.2.2.2.2
   rw [if_neg sa] at ha2
   have hla:=hl a sa
   have first:=wZ a A.2.1 sa ha2.1
   rw [nW,if_pos (.inr sb),sb,sD,if_neg (by simp),if_pos (by simp;omega)]
   have low:jG a b≤a.e:=by unfold jG;split <;> omega
   have htop:(a.s.length:Int)+a.e≤j5 a b:=by unfold j5;split <;> omega
   have hsk:=CW a b ((a.s.length:Int)+a.e) (fun q hq=>by rw [zero b sb,gW a q hq]) ((a.s.length:Int)+a.e-jG a b+1).toNat (j5 a b-(a.s.length+a.e)).toNat
   rw [show ((a.s.length:Int)+a.e-jG a b+1).toNat+(j5 a b-(a.s.length+a.e)).toNat=(j5 a b-jG a b+1).toNat by omega,show ((a.s.length:Int)+a.e)+((j5 a b-(a.s.length+a.e)).toNat:Int)=j5 a b by omega] at hsk
   rw [hsk]
   refine Ty a b _ _ (by omega) ?_ ?_
   · rw [zero b sb,gW a _ (Int.le_refl _)]
   · rw [zero b sb];exact first
 · have ha2:=A.2.2.2.2.2.2
   have hb2:=B.2.2.2.2.2.2
   rw [if_neg sa] at ha2
   rw [if_neg sb] at hb2
   have hla:=hl a sa
   have hlb:=hl b sb
   have fa:=wZ a A.2.1 sa ha2.1
   have fb:=wZ b B.2.1 sb hb2.1
   rw [nW,if_neg (by simp [sa,sb])]
   have low:jG a b≤a.e∧jG a b≤b.e:=by unfold jG;split <;> omega
   by_cases ht:(a.s.length:Int)+a.e=b.s.length+b.e
   · rw [if_pos ((oL.zero _ _ trivial trivial).2 ht)]
     have htop:j5 a b=a.s.length+a.e:=by unfold j5;split <;> omega
     rw [htop]
     obtain ⟨k,hk⟩:∃ k,((a.s.length:Int)+a.e-jG a b+1).toNat=k+1:=⟨((a.s.length:Int)+a.e-jG a b).toNat,by omega⟩
     rw [hk,lY,gW a _ (Int.le_refl _),gW b _ (by omega),if_neg (by omega),if_neg (by omega)]
     have:=OH a b A.2.1 B.2.1 ht k 0 (by omega) (by omega)
     simp only [Int.natCast_zero,Int.sub_zero,List.drop_zero] at this
     rw [this]
     exact OI _ _ (fun c hc=>(OG A.2.1 c hc).1) (fun c hc=>(OG B.2.1 c hc).1) ha2.2 hb2.2
   · rw [if_neg (fun h=>ht ((oL.zero _ _ trivial trivial).1 h))]
     rcases Int.lt_or_gt_of_ne ht with hlt | hgt
     · have htop:j5 a b=b.s.length+b.e:=by unfold j5;split <;> omega
       rw [htop,sD,if_pos hlt]
       refine Tx a b _ _ (by omega) ?_ ?_
       · rw [gW a _ (by omega),gW b _ (Int.le_refl _)]
       · rw [gW a _ (by omega)];exact fb
     · have htop:j5 a b=a.s.length+a.e:=by unfold j5;split <;> omega
       rw [htop,sD,if_neg (by omega),if_pos hgt]
       refine Ty a b _ _ (by omega) ?_ ?_
       · rw [gW b _ (by omega),gW a _ (Int.le_refl _)]
       · rw [gW b _ (by omega)];exact fa
theorem Y9 (a b:Nd) (ha:qO a=true) (hb:qO b=true):kU a b=TM a b:=by
 have h:=Vk a b ha hb
 have h2:=PZ a b
 simp only [kU,h]
 cases hx:a.neg <;> cases hy:b.neg <;> simp [TM,hx,hy,h2]
end Lp
set_option maxRecDepth 100000
namespace Lp
open Go
theorem OJ:∀ (f:Nat) (a b:Vl),Rt a→Rt b→jh kU f a b=qP f a b
 | 0,a,b,_,_=>by simp [jh]
 | f+1,[],b,ha,_=>absurd rfl ha.one.ne
 | f+1,n::r,[],_,hb=>absurd rfl hb.one.ne
 | f+1,n::r,m::q,ha,hb=>by
  have hp:=Db ha
  have hq:=Db hb
  have pn:=ha.parts.1
  have pm:=hb.parts.1
  have e:eB (jh kU f) (partsOf n r) (partsOf m q)=eB (qP f) (partsOf n r) (partsOf m q):=
   Da _ _ fun x hx y hy=>OJ f x y (hp x hx).2 (hq y hy).2
  by_cases hk:n.kind=m.kind
  · by_cases h3:n.kind=3
    · have:=Y9 n m (pQ pn h3) (pQ pm (hk ▸ h3))
      simp only [qP,jh,this,e]
    · simp only [qP,jh,if_neg h3,e]
  · simp only [qP,jh,ne_eq,hk,not_false_eq_true,if_true]
end Lp
set_option maxRecDepth 100000
namespace Lp
open Go Go.Proofs
open Nat (reduceAdd reduceLeDiff reduceMul reduceSub)
open Int (reduceEq reduceLE reduceToNat)
set_option maxHeartbeats 4000000
def Bg (m e:Int):Bool:=decide (-1000≤e) && decide (e≤1000) && decide (m+e≤1000)
theorem Ls (m e:Int) (hm:0≤m∧m≤1000000):ah Tryz.prog 121 [.int .i64 m,.int .i64 e] [] (.bool (Bg m e)) []:=by
 refine Ig.aZ (T:=aO Tryz.prog []) 0 hD (aj ai) aT (by decide) fun Q hQ=>?_
 rcases tf (-1000≤e) with h1 | h1
 rotate_left 1
 · have hr:Bg m e=false:=by have:¬ (-1000≤e):=fun h=>by rw [h1] at h;exact h
                            simp [Bg,this]
   (conv=>arg 4;cbv);simp(maxSteps:=400000)only[↓aA,aB,BEq.rfl,reduceIte,reduceCtorEq,Nat.reduceLT,reduceAdd,reduceSub,reduceMul,Nat.reduceBEq,reduceLeDiff,reduceToNat,reduceLE,hQ,h1,hr]
 rcases tf (e≤1000) with h2 | h2
 rotate_left 1
 · have hr:Bg m e=false:=by have:¬ (e≤1000):=fun h=>by rw [h2] at h;exact h
                            simp [Bg,this]
   (conv=>arg 4;cbv);simp(maxSteps:=400000)only[↓aA,aB,BEq.rfl,reduceIte,reduceCtorEq,Nat.reduceLT,reduceAdd,reduceSub,reduceMul,Nat.reduceBEq,reduceLeDiff,reduceToNat,reduceLE,hQ,h1,h2,hr]
 have h1':=of_eq_true h1
 have h2':=of_eq_true h2
 have hr:Bg m e=decide (m+e≤1000):=by simp [Bg,h1',h2']
 (conv=>arg 4;cbv);simp(maxSteps:=400000)only[↓aA,aB,BEq.rfl,reduceIte,reduceCtorEq,Nat.reduceLT,reduceAdd,reduceSub,reduceMul,Nat.reduceBEq,reduceLeDiff,reduceToNat,reduceLE,hQ,h1,h2,hr]
 exact ⟨by omega,by omega⟩
def iD:dF:=fun args objs K=>match args with
 | [.int .i64 m,.int .i64 e]=>(0≤m∧m≤1000000)∧K (.bool (Bg m e)) objs 0
 | _=>False
theorem yh:aD Tryz.prog 121 (iD):=by
 intro args objs K h
 unfold iD at h
 split at h
 · rename_i m e
   obtain ⟨h1,hk⟩:=h
   exact ⟨_,_,_,.pure _ rfl (Ls m e h1),hk⟩
 · exact h.elim
theorem Gq (s:List UInt8) (hs:s.length≤4611686018427387904):ah Tryz.prog 118 [.str s] [] (.bool (fH s)) []:=by
 refine Ee.aZ (T:=aO Tryz.prog [(150,tF)]) 0 hD (aj (af Ir ai)) aT (by decide) fun Q hQ=>?_
 have hf:=QU s
 (conv=>arg 4;cbv);simp(maxSteps:=400000)only[↓aA,aB,BEq.rfl,reduceIte,reduceCtorEq,Nat.reduceLT,reduceAdd,reduceSub,reduceMul,Nat.reduceBEq,reduceLeDiff,reduceToNat,reduceLE,hQ,↓tF]
 refine ⟨hs,?_⟩
 rw [Bool.eq_iff_iff,← hf,decide_eq_true_iff]
 constructor
 · intro h;rw [h]
 · intro h
   generalize Lib.trimF lF ⟨⟨s⟩⟩=t at h
   obtain ⟨⟨t⟩⟩:=t
   have h':t=[]:=h
   rw [h']
def dx:dF:=fun args objs K=>match args with
 | [.str s]=>(s.length≤4611686018427387904)∧K (.bool (fH s)) objs 0
 | _=>False
theorem uK:aD Tryz.prog 118 (dx):=by
 intro args objs K h
 unfold dx at h
 split at h
 · rename_i s
   obtain ⟨h1,hk⟩:=h
   exact ⟨_,_,_,.pure _ rfl (Gq s h1),hk⟩
 · exact h.elim
theorem Vm (n:Nd) (hk:n.kind=3) (hn:n.name=[]) (hs:n.s.length≤4611686018427387904):ah Tryz.prog 164 [au n] [] (.bool (qO n)) []:=by
 refine NA.aZ (T:=aO Tryz.prog [(121,iD),(118,dx),(187,AQ)]) 0 hD (aj (af yh (af uK (af N9 ai)))) aT (by decide) fun Q hQ=>?_
 (conv=>arg 4;cbv);simp(maxSteps:=400000)only[↓aA,aB,BEq.rfl,reduceIte,reduceCtorEq,Nat.reduceLT,reduceAdd,reduceSub,reduceMul,Nat.reduceBEq,reduceLeDiff,reduceToNat,reduceLE,hQ]
 refine aQ _ (Weak.freeze 1 0 (Nat.le_refl _) _) ?_
 have key:=nO n
 have hpw:∀ b,Bg n.s.length n.e=b→(b=true↔-1000≤n.e∧n.e≤1000∧n.s.length+n.e≤1000):=fun b hb=>by
  rw [← hb];simp [Bg,and_assoc]
 cases hp:Bg n.s.length n.e
 · have hr:qO n=false:=iU fun h=>by
    have g:=(hpw _ hp).2 ⟨(key.1 h).2.2.2.1,(key.1 h).2.2.2.2.1,(key.1 h).2.2.2.2.2.1⟩
    cases g
   simp(maxSteps:=400000)only[↓aA,aB,BEq.rfl,reduceIte,reduceCtorEq,Nat.reduceLT,reduceAdd,reduceSub,reduceMul,Nat.reduceBEq,reduceLeDiff,reduceToNat,reduceLE,hQ,iY,↓iD,hk,hn,reduceEq,hp,hr]
   refine fun h0 h1=>⟨by omega,by omega⟩
 have XM:=(hpw _ hp).1 rfl
 cases hf:fH n.s
 · have hr:qO n=false:=iU fun h=>by have:=(key.1 h).2.1;rw [hf] at this;cases this
   simp(maxSteps:=400000)only[↓aA,aB,BEq.rfl,reduceIte,reduceCtorEq,Nat.reduceLT,reduceAdd,reduceSub,reduceMul,Nat.reduceBEq,reduceLeDiff,reduceToNat,reduceLE,hQ,iY,↓iD,↓dx,hk,hn,reduceEq,hp,hf,hr]
   refine fun h0 h1=>⟨⟨by omega,by omega⟩,hs⟩
 by_cases hz:n.s=[]
 · rw [if_pos hz] at key
   have hf0:fH []=true:=rfl
   rw [hz] at hp key
   have hp0:Bg ((0:Nat):Int) n.e=true:=hp
   simp(maxSteps:=400000)only[↓aA,aB,BEq.rfl,reduceIte,reduceCtorEq,Nat.reduceLT,reduceAdd,reduceSub,reduceMul,Nat.reduceBEq,reduceLeDiff,reduceToNat,reduceLE,hQ,iY,↓iD,↓dx,hk,hn,reduceEq,hp0,hf0,hz]
   refine ⟨fun h0=>⟨fun h=>absurd h (by omega),fun _=>⟨⟨by omega,by omega⟩,fun hng=>?_,fun hng=>?_⟩⟩,fun h0=>iU fun hb=>h0 (key.1 hb).1⟩
   · exact iU fun hb=>by have:=(key.1 hb).2.2.2.2.2.2.1;rw [hng] at this;cases this
   · rw [Bool.eq_iff_iff,decide_eq_true_iff,key]
     refine ⟨fun h=>h.2.2.2.2.2.2.2,fun h=>⟨h0,rfl,by simp,XM.1,XM.2.1,by simp;omega,by simpa using hng,h⟩⟩
 · rw [if_neg hz] at key
   have htr:=QV n.s 48
   have hz':(n.s=[])=False:=eq_false hz
   simp(maxSteps:=400000)only[↓aA,aB,BEq.rfl,reduceIte,reduceCtorEq,Nat.reduceLT,reduceAdd,reduceSub,reduceMul,Nat.reduceBEq,reduceLeDiff,reduceToNat,reduceLE,hQ,iY,↓iD,↓dx,↓AQ,hk,hn,reduceEq,hp,hf,hz']
   refine ⟨fun h0=>⟨fun h=>iU fun hb=>?_,fun h1=>⟨⟨by omega,by omega⟩,hs,hs,?_⟩⟩,fun h0=>iU fun hb=>h0 (key.1 hb).1⟩
   · have:=key.1 hb;omega
   · rw [Bool.eq_iff_iff,decide_eq_true_iff,key,htr]
     exact ⟨fun h=>h.2.2.2.2.2.2,fun h=>⟨h0,hf,by omega,XM.1,XM.2.1,XM.2.2,h⟩⟩
def lZ:dF:=fun args objs K=>match args with
 | [a0]=>f_ au a0 (HK.mk:HK fun n=>(n.kind=3)∧(n.name=[])∧(n.s.length≤4611686018427387904)∧K (.bool (qO n)) objs 0)
 | _=>False
theorem Rn:aD Tryz.prog 164 (lZ):=by
 intro args objs K h
 unfold lZ at h
 split at h
 · rename_i a0
   obtain ⟨n,rfl,h1,h2,h3,hk⟩:=h
   exact ⟨_,_,_,.pure _ rfl (Vm n h1 h2 h3),hk⟩
 · exact h.elim
theorem Lu (n:Nd) (hl:n.s.length≤4611686018427387904):ah Tryz.prog 128 [au n] [] (.bool (bD n)) []:=by
 refine Ie.aZ (T:=aO Tryz.prog [(56,cB),(164,lZ)]) 0 hD (aj (af oC (af Rn ai))) aT (by decide) fun Q hQ=>?_
 (conv=>arg 4;cbv);simp(maxSteps:=400000)only[↓aA,aB,BEq.rfl,reduceIte,reduceCtorEq,Nat.reduceLT,reduceAdd,reduceSub,reduceMul,Nat.reduceBEq,reduceLeDiff,reduceToNat,reduceLE,hQ,nmP,ab9]
 refine aQ _ (Weak.freeze 1 0 (Nat.le_refl _) _) ?_
 have hn0:∀ h,eY 1 0 [⟨42,6,[au { kind:=n.kind,many:=n.many,name:=[],s:=n.s,neg:=n.neg,e:=n.e }],true,1⟩] (.bL 0 1 0 0)=h→.addr (au ⟨n.kind,n.many,[],n.s,n.neg,n.e⟩)=h:=fun _ h=>h
 have h8:n.kind=0∨n.kind=1∨n.kind=2∨n.kind=3∨n.kind=4∨n.kind=5∨n.kind=6∨(n.kind≠0∧n.kind≠1∧n.kind≠2∧n.kind≠3∧n.kind≠4∧n.kind≠5∧n.kind≠6):=by omega
 rcases h8 with hk | hk | hk | hk | hk | hk | hk | ⟨k0,k1,k2,k3,k4,k5,k6⟩
 · simp(maxSteps:=400000)only[↓aA,aB,BEq.rfl,reduceIte,reduceCtorEq,Nat.reduceLT,reduceAdd,reduceSub,reduceMul,Nat.reduceBEq,reduceLeDiff,reduceToNat,reduceLE,hQ,iY,↓cB,↓lZ,hk,reduceEq]
   rw [Bool.eq_iff_iff]
   simp [bD,hk,and_assoc]
 · simp(maxSteps:=400000)only[↓aA,aB,BEq.rfl,reduceIte,reduceCtorEq,Nat.reduceLT,reduceAdd,reduceSub,reduceMul,Nat.reduceBEq,reduceLeDiff,reduceToNat,reduceLE,hQ,iY,↓cB,↓lZ,hk,reduceEq]
   rw [Bool.eq_iff_iff]
   simp [bD,hk,and_assoc]
 · simp(maxSteps:=400000)only[↓aA,aB,BEq.rfl,reduceIte,reduceCtorEq,Nat.reduceLT,reduceAdd,reduceSub,reduceMul,Nat.reduceBEq,reduceLeDiff,reduceToNat,reduceLE,hQ,iY,↓cB,↓lZ,hk,reduceEq]
   rw [Bool.eq_iff_iff]
   simp [bD,hk,and_assoc]
 · simp(maxSteps:=400000)only[↓aA,aB,BEq.rfl,reduceIte,reduceCtorEq,Nat.reduceLT,reduceAdd,reduceSub,reduceMul,Nat.reduceBEq,reduceLeDiff,reduceToNat,reduceLE,hQ,iY,↓cB,↓lZ,hk,reduceEq]
   refine ⟨hl,?_⟩
   simp [bD,hk,qO]
 · simp(maxSteps:=400000)only[↓aA,aB,BEq.rfl,reduceIte,reduceCtorEq,Nat.reduceLT,reduceAdd,reduceSub,reduceMul,Nat.reduceBEq,reduceLeDiff,reduceToNat,reduceLE,hQ,iY,↓cB,↓lZ,hk,reduceEq]
   refine ⟨hl,?_⟩
   cases hu:utf n.s
   · simp [yR,bD,hk,hu]
   · simp only [ZR]
     rw [Bool.eq_iff_iff]
     simp [bD,hk,hu,and_assoc]
 · simp(maxSteps:=400000)only[↓aA,aB,BEq.rfl,reduceIte,reduceCtorEq,Nat.reduceLT,reduceAdd,reduceSub,reduceMul,Nat.reduceBEq,reduceLeDiff,reduceToNat,reduceLE,hQ,iY,↓cB,↓lZ,hk,reduceEq]
   refine ⟨fun hm=>?_,fun hm=>?_⟩
   · rw [Bool.eq_iff_iff]
     simp [bD,hk,hm,and_assoc]
   · simp [bD,hk,hm]
 · simp(maxSteps:=400000)only[↓aA,aB,BEq.rfl,reduceIte,reduceCtorEq,Nat.reduceLT,reduceAdd,reduceSub,reduceMul,Nat.reduceBEq,reduceLeDiff,reduceToNat,reduceLE,hQ,iY,↓cB,↓lZ,hk,reduceEq]
   refine ⟨fun hm=>?_,fun hm=>?_⟩
   · rw [Bool.eq_iff_iff]
     simp [bD,hk,hm,and_assoc]
   · simp [bD,hk,hm]
 · simp(maxSteps:=400000)only[↓aA,aB,BEq.rfl,reduceIte,reduceCtorEq,Nat.reduceLT,reduceAdd,reduceSub,reduceMul,Nat.reduceBEq,reduceLeDiff,reduceToNat,reduceLE,hQ,iY,↓cB,↓lZ,k0,k1,k2,k3,k4,k5,k6]
   simp [bD,k0,k1,k2,k3,k4,k5,k6]
def fT:dF:=fun args objs K=>match args with
 | [a0]=>f_ au a0 (HK.mk:HK fun n=>(n.s.length≤4611686018427387904)∧K (.bool (bD n)) objs 0)
 | _=>False
theorem IA:aD Tryz.prog 128 (fT):=by
 intro args objs K h
 unfold fT at h
 split at h
 · rename_i a0
   obtain ⟨n,rfl,h1,hk⟩:=h
   exact ⟨_,_,_,.pure _ rfl (Lu n h1),hk⟩
 · exact h.elim
end Lp
set_option maxRecDepth 100000
namespace Lp
open Go Go.Proofs
open List (length_reverse map_cons map_map map_nil take_zero)
open Nat (lt_or_ge reduceAdd reduceLeDiff reduceMul reduceSub)
open Int (reduceLE reduceToNat)
set_option maxHeartbeats 4000000
def iy (o:zK):PV:=.agg [.int .i64 o.kind,.int .i64 o.left,.bool o.first,.str o.last]
def Bh (l:List zK):PV:=.sl 4 (l.map iy) none
theorem Gr:∀ a b,iy a=iy b→a=b:=by
 intro a b h
 cases a;cases b
 simp only [iy,PV.agg.injEq,List.cons.injEq,PV.int.injEq,PV.str.injEq,PV.bool.injEq,true_and,and_true] at h
 obtain ⟨rfl,rfl,rfl,rfl⟩:=h
 rfl
theorem CX :
  (∀ o,(iy o).cells=[.int .i64 o.kind,.int .i64 o.left,.bool o.first,.str o.last])∧(∀ o,(iy o).isAgg=true)∧(∀ o,(iy o).pure=true)∧(∀ d m O o,eY d m O (iy o)=iy o)∧(∀ d m O o,gH d m O (iy o)=iy o)∧type_of% (aM Gr):=
 ⟨fun _=>rfl,fun _=>rfl,fun _=>rfl,fun _ _ _ _=>rfl,fun _ _ _ _=>rfl,aM Gr⟩
theorem hO:∀ l,Bh l=.sl 4 (l.map iy) none:=fun _=>rfl
theorem JW:∀ a b,Bh a=Bh b→a=b:=ni hO Gr
theorem inO:uI iy:=by intro d n o x;cases d <;> rfl
theorem XO:type_of% CX∧type_of% (rC hO)∧type_of% (jk hO)∧type_of% (rD hO)∧type_of% (aM JW)∧type_of% (iC hO inO):=
 ⟨CX,rC hO,jk hO,rD hO,aM JW,iC hO inO⟩
def vW (o:zK):Bool:=decide (0<o.left)
theorem Ro (o:zK):ah Tryz.prog 130 [iy o] [] (.bool (vW o)) []:=by
 unfold vW
 refine Ih.aZ (T:=aO Tryz.prog []) 0 hD (aj ai) aT (by decide) fun Q hQ=>?_
 (conv=>arg 4;cbv);simp(maxSteps:=400000)only[↓aA,aB,BEq.rfl,reduceIte,reduceCtorEq,Nat.reduceLT,reduceAdd,reduceSub,reduceMul,Nat.reduceBEq,reduceLeDiff,reduceToNat,reduceLE,hQ,iy]
def vX:dF:=fun args objs K=>match args with
 | [a0]=>f_ iy a0 (HK.mk:HK fun o=>K (.bool (vW o)) objs 0)
 | _=>False
theorem OL:aD Tryz.prog 130 (vX):=by
 intro args objs K h
 unfold vX at h
 split at h
 · rename_i a0
   obtain ⟨o,rfl,hk⟩:=h
   exact ⟨_,_,_,.pure _ rfl (Ro o),hk⟩
 · exact h.elim
def idxOf {α:Type}(p:α→Bool) (l:List α):Int:=match l.findIdx? p with
 | some i=>i
 | none=>-1
theorem idxOf_hit {α:Type}{p:α→Bool}{l:List α}{i:Nat}{x:α}(h:l[i]?=some x) (hx:p x=true) (hb:∀ (j:Nat) y,j<i→l[j]?=some y→p y=false):idxOf p l=i:=by
 have:l.findIdx? p=some i:=by
  rw [List.findIdx?_eq_some_iff_getElem]
  obtain ⟨hi,he⟩:=List.getElem?_eq_some_iff.1 h
  refine ⟨hi,by rw [he];exact hx,fun j hj=>?_⟩
  have:=hb j _ hj (List.getElem?_eq_getElem (by omega))
  simp [this]
 simp [idxOf,this]
theorem Gs {α:Type}{p:α→Bool}{l:List α}(hb:∀ (j:Nat) y,l[j]?=some y→p y=false):idxOf p l=-1:=by
 have:l.findIdx? p=none:=by
  rw [List.findIdx?_eq_none_iff]
  intro x hx
  obtain ⟨i,hi⟩:=List.mem_iff_getElem?.1 hx
  exact hb i x hi
 simp [idxOf,this]
theorem JX {α:Type}(p:α→Bool) (l:List α):decide (0≤idxOf p l)=l.any p:=by
 rw [Bool.eq_iff_iff,decide_eq_true_iff]
 cases h:l.findIdx? p with
 | none=>
  rw [List.findIdx?_eq_none_iff] at h
  have:l.any p=false:=by rw [List.any_eq_false];intro x hx;simp [h x hx]
  simp [idxOf,List.findIdx?_eq_none_iff.2 h,this]
 | some i=>
  have h':=h
  rw [List.findIdx?_eq_some_iff_getElem] at h'
  obtain ⟨hi,hp,_⟩:=h'
  have:l.any p=true:=List.any_eq_true.2 ⟨_,List.getElem_mem hi,hp⟩
  simp [idxOf,h,this]
theorem Lv (l:List zK) (hl:l.length≤4611686018427387904):ah Tryz.prog 165 [Bh l,.fn 130 [] []] [] (.int .i64 (idxOf vW l)) []:=by
 refine jE.aZ (T:=aO Tryz.prog [(130,vX)]) 0 hD (aj (af OL ai)) aT (by decide) fun Q hQ=>?_
 (conv=>arg 4;cbv);simp(maxSteps:=400000)only[↓aA,aB,BEq.rfl,reduceIte,reduceCtorEq,Nat.reduceLT,reduceAdd,reduceSub,reduceMul,Nat.reduceBEq,reduceLeDiff,reduceToNat,reduceLE,hQ,XO]
 refine aF (fun m S=>∃ i:Nat,i+m=l.length∧(∀ (j:Nat) y,j<i→l[j]?=some y→vW y=false)∧S=⟨cO 19 [(0,Bh l),(1,.fn 130 [] []),(7,.int .i64 l.length),(8,.int .i64 i)],[]⟩) l.length ⟨0,by omega,fun j y h=>absurd h (Nat.not_lt_zero j),?_⟩ ?_
 · simp only [bI,keepR,reduceAdd,kT,Nat.reduceBEq,map_nil]
   rfl
 rintro m S ⟨i,him,hb,rfl⟩
 rcases lt_or_ge i l.length with h | h
 rotate_left 1
 · have hlt:((i:Int)<(l.length:Int))=False:=eq_false (by omega)
   have hr:=Gs (l:=l) fun j y hj=>hb j y (by have:=(List.getElem?_eq_some_iff.1 hj).1;omega) hj
   simp(maxSteps:=400000)only[↓aA,aB,BEq.rfl,reduceIte,reduceCtorEq,Nat.reduceLT,reduceAdd,reduceSub,reduceMul,Nat.reduceBEq,reduceLeDiff,reduceToNat,reduceLE,hQ,hlt,hr]
 have hlt:((i:Int)<(l.length:Int))=True:=eq_true (by omega)
 have zi:(0≤(i:Int))=True:=eq_true (by omega)
 have hgi:=List.getElem?_eq_getElem h
 generalize l[i]=o at hgi
 cases hp:vW o
 rotate_left 1
 · have hr:idxOf vW l=i:=idxOf_hit hgi hp hb
   simp(maxSteps:=400000)only[↓aA,aB,BEq.rfl,reduceIte,reduceCtorEq,Nat.reduceLT,reduceAdd,reduceSub,reduceMul,Nat.reduceBEq,reduceLeDiff,reduceToNat,reduceLE,hQ,hlt,zi,XO,hgi,↓vX,hp,hr]
 · simp(maxSteps:=400000)only[↓aA,aB,BEq.rfl,reduceIte,reduceCtorEq,Nat.reduceLT,reduceAdd,reduceSub,reduceMul,Nat.reduceBEq,reduceLeDiff,reduceToNat,reduceLE,hQ,hlt,zi,XO,hgi,↓vX,hp]
   refine ⟨⟨by omega,by omega⟩,m-1,by omega,i+1,by omega,fun j y hj hy=>?_,rfl⟩
   rcases lt_or_ge j i with g | g
   · exact hb j y g hy
   · have:j=i:=by omega
     subst this
     rw [hgi] at hy;cases hy
     exact hp
def tL:dF:=fun args objs K=>match args with
 | [a0,a1]=>f_ Bh a0 (HK.mk:HK fun l=>a1=(.fn 130 [] [])∧(l.length≤4611686018427387904)∧K (.int .i64 (idxOf vW l)) objs 0)
 | _=>False
theorem IB:aD Tryz.prog 165 (tL):=by
 intro args objs K h
 unfold tL at h
 split at h
 · rename_i a0 a1
   obtain ⟨l,rfl,rfl,h1,hk⟩:=h
   exact ⟨_,_,_,.pure _ rfl (Lv l h1),hk⟩
 · exact h.elim
theorem Lx (l:List zK) (hl:l.length≤4611686018427387904):ah Tryz.prog 129 [Bh l,.fn 130 [] []] [] (.bool (l.any vW)) []:=by
 refine jc.aZ (T:=aO Tryz.prog [(165,tL)]) 0 hD (aj (af IB ai)) aT (by decide) fun Q hQ=>?_
 (conv=>arg 4;cbv);simp(maxSteps:=400000)only[↓aA,aB,BEq.rfl,reduceIte,reduceCtorEq,Nat.reduceLT,reduceAdd,reduceSub,reduceMul,Nat.reduceBEq,reduceLeDiff,reduceToNat,reduceLE,hQ,XO,↓tL,JX]
 exact hl
def tN:dF:=fun args objs K=>match args with
 | [a0,a1]=>f_ Bh a0 (HK.mk:HK fun l=>a1=(.fn 130 [] [])∧(l.length≤4611686018427387904)∧K (.bool (l.any vW)) objs 0)
 | _=>False
theorem IC:aD Tryz.prog 129 (tN):=by
 intro args objs K h
 unfold tN at h
 split at h
 · rename_i a0 a1
   obtain ⟨l,rfl,rfl,h1,hk⟩:=h
   exact ⟨_,_,_,.pure _ rfl (Lx l h1),hk⟩
 · exact h.elim
theorem nQ (objs:List Obj) (K:KT) :
  (∀ k m,bE D 153 [(0,.int .i64 k),(1,.int .i64 m)] objs K=K (iy ⟨k,m,false,[]⟩) objs 0)∧
  (∀ k m b,bE D 153 [(0,.int .i64 k),(1,.int .i64 m),(2,.bool b)] objs K=K (iy ⟨k,m,b,[]⟩) objs 0):=by
 have z:aK (D 153)=iy ⟨0,0,false,[]⟩:=by kernel_rfl
 have a:(D 153).agg=true:=by kernel_rfl
 simp only [bS] at z a
 refine ⟨fun k m=>?_,fun k m b=>?_⟩
 all_goals
  simp [bE,mJ,a,z,bS,nK,iy,PV.isAgg,sM,PV.cells,PV.storable,PV.mr,PV.pure]
theorem zOl:(PV.uW (Value.agg { toList:=[Value.int IntKind.i64 0,Value.int IntKind.i64 0,Value.bool false,Value.string { data:={ toList:=[] } }] })).cells.length=4:=rfl
theorem zOs:(PV.uW (Value.agg { toList:=[Value.int IntKind.i64 0,Value.int IntKind.i64 0,Value.bool false,Value.string { data:={ toList:=[] } }] })).cells.all PV.storable=true:=rfl
def OM (s:List zK) (ver:Nat):Obj:=⟨153,4,s.reverse.map iy,true,ver⟩
theorem y_:(∀ (o:zK) (m:Int),(iy o).putCells 1 [.int .i64 m]=iy { o with left:=m })∧(∀ (o:zK) (b:Bool),(iy o).putCells 2 [.bool b]=iy { o with first:=b })∧(∀ (o:zK) (t:List UInt8),(iy o).putCells 3 [.str t]=iy { o with last:=t }):=⟨fun _ _=>rfl,fun _ _=>rfl,fun _ _=>rfl⟩
theorem Gt (d n:Nat) (O:List Obj) (t:TypeId) (sz:Nat) (l:List zK) (ver:Nat):fO d n O ⟨t,sz,l.map iy,true,ver⟩=⟨t,sz,l.map iy,true,ver⟩:=by
 have:(l.map iy).map (PV.bF (eY d n O))=l.map iy:=by
  rw [map_map]
  exact List.map_congr_left fun x _=>rfl
 simp only [fO,this]
theorem IE (v:Vl) (hs:Small v):ah Tryz.prog 105 [aC v] [] (.bool (dH v)) []:=by
 have hl:=hs.len
 refine NC.aZ (T:=aO Tryz.prog [(128,fT),(56,cB),(129,tN)]) 1 hD (aj (af IA (af oC (af IC ai)))) aT (by decide) fun Q hQ=>?_
 (conv=>arg 4;cbv);simp(maxSteps:=400000)only[↓aA,aB,BEq.rfl,reduceIte,reduceCtorEq,Nat.reduceLT,reduceAdd,reduceSub,reduceMul,Nat.reduceBEq,reduceLeDiff,reduceToNat,reduceLE,hQ,rP,rQ,nQ,zOl,zOs,CX]
 refine aF (fun m S=>∃ (s:List zK) (i ver:Nat),i+m=v.length∧E_ v.length s (v.drop i)=dH v∧s.length≤i+1∧(∀ o ∈ s,0≤o.left∧o.left≤1000000)∧S=⟨cO 123 [(0,aC v),(3,.aX 0 ver),(10,aC v),(11,.int .i64 v.length),(12,.int .i64 i)],[OM s ver]⟩) v.length
  ⟨[⟨5,1,false,[]⟩],0,1,by omega,P8 v,by simp,by simp,?_⟩ ?_ (hz:=Nat.zero_le _)
 · simp only [bI,keepR,reduceAdd,kT,Nat.reduceBEq,map_nil]
   rfl
 rintro m S ⟨s,i,ver,him,hrun,hsl,hle,rfl⟩
 rcases lt_or_ge i v.length with h | h
 rotate_left 1
 · have hlt:((i:Int)<(v.length:Int))=False:=eq_false (by omega)
   have hr:dH v=Bool.not (s.any vW):=by
    rw [← hrun,List.drop_eq_nil_of_le h,E_];rfl
   have hf:eY 1 0 [⟨153,4,s.reverse.map iy,true,ver⟩] (.aX 0 ver)=Bh s.reverse:=by
    simp only [eY,Nat.not_lt_zero,if_false,fM,List.getElem?_cons_zero,Nat.le_refl,decide_true,Bool.true_and,beq_self_eq_true,if_true]
    rw [map_map]
    rfl
   unfold OM
   simp(maxSteps:=400000)only[↓aA,aB,BEq.rfl,reduceIte,reduceCtorEq,Nat.reduceLT,reduceAdd,reduceSub,reduceMul,Nat.reduceBEq,reduceLeDiff,reduceToNat,reduceLE,hQ,hlt]
   refine aQ _ (Weak.freeze 1 0 (Nat.zero_le _) _) ?_
   rcases Nat.eq_zero_or_pos v.length with h0 | h0
   · have h0':((0:Int)<(v.length:Int))=False:=eq_false (by omega)
     have hrf:dH v=false:=by
      have:v=[]:=List.length_eq_zero_iff.1 h0
      rw [this];rfl
     simp(maxSteps:=400000)only[↓aA,aB,BEq.rfl,reduceIte,reduceCtorEq,Nat.reduceLT,reduceAdd,reduceSub,reduceMul,Nat.reduceBEq,reduceLeDiff,reduceToNat,reduceLE,hQ,h0',hrf]
   · have h0':((0:Int)<(v.length:Int))=True:=eq_true (by omega)
     simp(maxSteps:=400000)only[↓aA,aB,BEq.rfl,reduceIte,reduceCtorEq,Nat.reduceLT,reduceAdd,reduceSub,reduceMul,Nat.reduceBEq,reduceLeDiff,reduceToNat,reduceLE,hQ,h0',hf,XO,↓tN]
     exact ⟨by rw [length_reverse];omega,by rw [hr,List.any_reverse]⟩
 have hlt:((i:Int)<(v.length:Int))=True:=eq_true (by omega)
 have zi:(0≤(i:Int))=True:=eq_true (by omega)
 have hgi:=List.getElem?_eq_getElem h
 have hdi:=List.drop_eq_getElem_cons h
 have htx:=hs.txt _ (List.getElem_mem h)
 generalize v[i]=n at hgi hdi htx
 simp(maxSteps:=400000)only[↓aA,aB,BEq.rfl,reduceIte,reduceCtorEq,Nat.reduceLT,reduceAdd,reduceSub,reduceMul,Nat.reduceBEq,reduceLeDiff,reduceToNat,reduceLE,hQ,hlt,zi,hgi,rP,rQ,bf,bg]
 rw [hdi] at hrun
 have hll:(n.many≤(v.length:Int))=(n.many≤(v.length:Int)):=rfl
 refine aF (fun m' S=>∃ (s':List zK) (IG:Nat),s'.length=m'∧s'.dropWhile (fun o=>o.left==0)=s.dropWhile (fun o=>o.left==0)∧s'.length≤i+1∧(∀ o ∈ s',0≤o.left∧o.left≤1000000)∧
  S=⟨cO 123 [(0,aC v),(3,.aX 0 IG),(5,.bL 1 1 0 0),(10,aC v),(11,.int .i64 v.length),(12,.int .i64 i)],[OM s' IG,⟨42,6,[au n],true,1⟩]⟩) s.length ⟨s,ver,rfl,rfl,hsl,hle,?_⟩ ?_
 · simp only [bI,keepR,reduceAdd,kT,Nat.reduceBEq,map_nil]
 rintro m' S ⟨s',IG,hm',hdw,acW,hle',rfl⟩
 cases s' with
 | nil=>
  have h00:((0:Int)<((0:Nat):Int))=False:=eq_false (by omega)
  have h01:(((0:Nat):Int)=0)=True:=eq_true rfl
  have hr:dH v=false:=by rw [← hrun,E_,← hdw];rfl
  unfold OM
  simp(maxSteps:=400000)only[↓aA,aB,BEq.rfl,reduceIte,reduceCtorEq,Nat.reduceLT,reduceAdd,reduceSub,reduceMul,Nat.reduceBEq,reduceLeDiff,reduceToNat,reduceLE,hQ,h00,h01,hr,List.reverse_nil]
 | cons o t=>
 have hst:∀ w,OM (o::t) w=⟨153,4,t.reverse.map iy++[iy o],true,w⟩:=fun w=>by simp [OM]
 have hget:∀ x:PV,(t.reverse.map iy++[x])[t.length]?=some x:=fun x=>by rw [List.getElem?_append_right (by simp)];simp
 have hset:∀ x y:PV,(t.reverse.map iy++[x]).set t.length y=t.reverse.map iy++[y]:=fun x y=>by rw [List.set_append_right _ _ (by simp)];simp
 have hpos:((0:Int)<((t.length+1:Nat):Int))=True:=eq_true (by omega)
 have hne0:(((t.length+1:Nat):Int)=0)=False:=eq_false (by omega)
 have t1:(((t.length+1:Nat):Int)-1).toNat=t.length:=by omega
 have z1:(0≤((t.length+1:Nat):Int)-1)=True:=eq_true (by omega)
 have Yh:(((t.length+1:Nat):Int)-1<((t.length+1:Nat):Int))=True:=eq_true (by omega)
 have Yi:(((t.length+1:Nat):Int)-1≤((t.length+1:Nat):Int))=True:=eq_true (by omega)
 simp only [List.length_cons] at acW hm'
 have i1:(-9223372036854775808≤((t.length+1:Nat):Int)-1∧((t.length+1:Nat):Int)-1≤9223372036854775807)=True:=eq_true ⟨by omega,by omega⟩
 have hlo:=hle' o (by simp)
 by_cases h0:o.left=0
 · have h0':(o.left=0)=True:=eq_true h0
   rw [hst]
   simp(maxSteps:=400000)only[↓aA,aB,BEq.rfl,reduceIte,reduceCtorEq,Nat.reduceLT,reduceAdd,reduceSub,reduceMul,Nat.reduceBEq,reduceLeDiff,reduceToNat,reduceLE,hQ,hpos,t1,z1,Yh,Yi,i1,hget,hset,h0',CX,length_reverse]
   refine ⟨m'-1,by omega,t,IG+1,by omega,?_,by omega,fun x hx=>hle' x (List.mem_cons_of_mem _ hx),?_⟩
   · rw [← hdw];exact (List.dropWhile_cons_of_pos (by simpa using h0)).symm
   · rw [List.take_left' (by simp)];rfl
 have h0':(o.left=0)=False:=eq_false h0
 have acX:s.dropWhile (fun o=>o.left==0)=o::t:=by rw [← hdw];exact List.dropWhile_cons_of_neg (by simpa using h0)
 have hstep:dH v=(bD n && decide (n.many≤v.length) && fw o n.name && E_ v.length (⟨n.kind,n.many,true,[]⟩::⟨o.kind,o.left-1,false,n.name⟩::t) (v.drop (i+1))):=by
  rw [← hrun,E_,acX]
 rw [hst]
 cases hpl:bD n
 · have hr:dH v=false:=by rw [hstep,hpl];rfl
   simp(maxSteps:=400000)only[↓aA,aB,BEq.rfl,reduceIte,reduceCtorEq,Nat.reduceLT,reduceAdd,reduceSub,reduceMul,Nat.reduceBEq,reduceLeDiff,reduceToNat,reduceLE,hQ,hpos,hne0,t1,z1,Yh,Yi,i1,hget,hset,h0',CX,length_reverse,↓fT,hpl,hr]
   exact htx.1
 by_cases hmL:n.many≤v.length
 rotate_left 1
 · have LA:((v.length:Int)<n.many)=True:=eq_true (by omega)
   have hr:dH v=false:=by rw [hstep,decide_eq_false hmL];simp
   simp(maxSteps:=400000)only[↓aA,aB,BEq.rfl,reduceIte,reduceCtorEq,Nat.reduceLT,reduceAdd,reduceSub,reduceMul,Nat.reduceBEq,reduceLeDiff,reduceToNat,reduceLE,hQ,hpos,hne0,t1,z1,Yh,Yi,i1,hget,hset,h0',CX,length_reverse,↓fT,hpl,LA,hr]
   exact htx.1
 have LA:((v.length:Int)<n.many)=False:=eq_false (by omega)
 have hm0:0≤n.many:=by
  by_cases hk:n.kind=5∨n.kind=6
  · exact (BS hpl hk).1
  · rw [sG hpl hk];exact Int.le_refl 0
 have hA:∀ x y:zK,t.reverse.map iy++[iy x]++[iy y]=(t.reverse++[x,y]).map iy:=fun x y=>by simp
 have fin:∀ hn:fw o n.name=true,∃ acg,acg<m∧∃ (s:List zK) (EN ver:Nat),EN+acg=v.length∧E_ v.length s (v.drop EN)=dH v∧s.length≤EN+1∧(∀ o ∈ s,0≤o.left∧o.left≤1000000)∧
     (⟨cO 123 [(0,aC v),(3,.aX 0 (IG+1)),(10,aC v),(11,.int .i64 v.length),(12,.int .i64 ((i:Int)+1))],[⟨153,4,t.reverse.map iy++[iy ⟨o.kind,o.left-1,false,n.name⟩]++[iy ⟨n.kind,n.many,true,[]⟩],true,IG+1⟩]⟩:St)=
     ⟨cO 123 [(0,aC v),(3,.aX 0 ver),(10,aC v),(11,.int .i64 v.length),(12,.int .i64 EN)],[OM s ver]⟩:=fun hn=>by
  refine ⟨m-1,by omega,⟨n.kind,n.many,true,[]⟩::⟨o.kind,o.left-1,false,n.name⟩::t,i+1,IG+1,by omega,?_,by simp only [List.length_cons];omega,fun x hx=>?_,?_⟩
  · rw [hstep,hpl,hn,decide_eq_true hmL];simp
  · rcases List.mem_cons.1 hx with rfl | hx
    · exact ⟨hm0,by simp only;omega⟩
    · rcases List.mem_cons.1 hx with rfl | hx
      · simp only;omega
      · exact hle' x (List.mem_cons_of_mem _ hx)
  · simp [OM]
 by_cases k6:o.kind=6
 rotate_left 1
 · have k6':(o.kind=6)=False:=eq_false k6
   by_cases hnm:n.name=[]
   rotate_left 1
   · have hnm':(n.name=[])=False:=eq_false hnm
     have hr:dH v=false:=by
      have:fw o n.name=false:=by simp [fw,k6,hnm]
      rw [hstep,this];simp
     simp(maxSteps:=400000)only[↓aA,aB,BEq.rfl,reduceIte,reduceCtorEq,Nat.reduceLT,reduceAdd,reduceSub,reduceMul,Nat.reduceBEq,reduceLeDiff,reduceToNat,reduceLE,hQ,hpos,hne0,t1,z1,Yh,Yi,i1,hget,hset,h0',CX,length_reverse,↓fT,hpl,LA,k6',dJ,y_,nQ,zOl,zOs,hnm',hr]
     exact htx.1
   · have hnm':(n.name=[])=True:=eq_true hnm
     simp(maxSteps:=400000)only[↓aA,aB,BEq.rfl,reduceIte,reduceCtorEq,Nat.reduceLT,reduceAdd,reduceSub,reduceMul,Nat.reduceBEq,reduceLeDiff,reduceToNat,reduceLE,hQ,hpos,hne0,t1,z1,Yh,Yi,i1,hget,hset,h0',CX,length_reverse,↓fT,hpl,LA,k6',dJ,y_,nQ,zOl,zOs,hnm']
     have hn:fw o n.name=true:=by simp [fw,k6,hnm]
     obtain ⟨m1,e0,s1,j1,w1,e1,e2,e3,e4,e5⟩:=fin hn
     refine ⟨htx.1,⟨by omega,by omega⟩,rfl,by omega,by omega,⟨by omega,by omega⟩,m1,e0,s1,j1,w1,e1,e2,e3,e4,?_⟩
     rw [← e5]
     simp only [hA,List.take_succ_cons,take_zero,map_cons (f:=fO _ _ _),map_nil,Gt]
     rfl
 have k6':(o.kind=6)=True:=eq_true k6
 cases hu:utf n.name
 · have hr:dH v=false:=by
    have:fw o n.name=false:=by simp [fw,k6,hu]
    rw [hstep,this];simp
   simp(maxSteps:=400000)only[↓aA,aB,BEq.rfl,reduceIte,reduceCtorEq,Nat.reduceLT,reduceAdd,reduceSub,reduceMul,Nat.reduceBEq,reduceLeDiff,reduceToNat,reduceLE,hQ,hpos,hne0,t1,z1,Yh,Yi,i1,hget,hset,h0',CX,length_reverse,↓fT,hpl,LA,k6',dJ,y_,nQ,zOl,zOs,↓cB,hu,hr]
   exact ⟨htx.1,htx.2⟩
 cases xN:o.first
 rotate_left 1
 · have hn:fw o n.name=true:=by simp [fw,k6,hu,xN]
   simp(maxSteps:=400000)only[↓aA,aB,BEq.rfl,reduceIte,reduceCtorEq,Nat.reduceLT,reduceAdd,reduceSub,reduceMul,Nat.reduceBEq,reduceLeDiff,reduceToNat,reduceLE,hQ,hpos,hne0,t1,z1,Yh,Yi,i1,hget,hset,h0',CX,length_reverse,↓fT,hpl,LA,k6',dJ,y_,nQ,zOl,zOs,↓cB,hu,xN]
   obtain ⟨m1,e0,s1,j1,w1,e1,e2,e3,e4,e5⟩:=fin hn
   refine ⟨htx.1,htx.2,⟨by omega,by omega⟩,rfl,by omega,by omega,⟨by omega,by omega⟩,m1,e0,s1,j1,w1,e1,e2,e3,e4,?_⟩
   rw [← e5]
   simp only [hA,List.take_succ_cons,take_zero,map_cons (f:=fO _ _ _),map_nil,Gt]
   rfl
 cases hbl:Op.bytesLess n.name o.last
 rotate_left 1
 · have hr:dH v=false:=by
    have:fw o n.name=false:=by simp [fw,k6,hu,xN,kE _ _ hbl]
    rw [hstep,this];simp
   simp(maxSteps:=400000)only[↓aA,aB,BEq.rfl,reduceIte,reduceCtorEq,Nat.reduceLT,reduceAdd,reduceSub,reduceMul,Nat.reduceBEq,reduceLeDiff,reduceToNat,reduceLE,hQ,hpos,hne0,t1,z1,Yh,Yi,i1,hget,hset,h0',CX,length_reverse,↓fT,hpl,LA,k6',dJ,y_,nQ,zOl,zOs,↓cB,hu,xN,hbl,hr]
   exact ⟨htx.1,htx.2⟩
 by_cases heq:n.name=o.last
 · have heq':(n.name=o.last)=True:=eq_true heq
   have hr:dH v=false:=by
    have:fw o n.name=false:=by simp [fw,k6,hu,xN,heq,dI]
    rw [hstep,this];simp
   simp(maxSteps:=400000)only[↓aA,aB,BEq.rfl,reduceIte,reduceCtorEq,Nat.reduceLT,reduceAdd,reduceSub,reduceMul,Nat.reduceBEq,reduceLeDiff,reduceToNat,reduceLE,hQ,hpos,hne0,t1,z1,Yh,Yi,i1,hget,hset,h0',CX,length_reverse,↓fT,hpl,LA,k6',dJ,y_,nQ,zOl,zOs,↓cB,hu,xN,hbl,heq',hr]
   exact ⟨htx.1,htx.2⟩
 · have heq':(n.name=o.last)=False:=eq_false heq
   have hn:fw o n.name=true:=by
    have:Op.bytesLess o.last n.name=true:=by
     rcases uU o.last n.name with g | g | g
     · exact g
     · exact absurd g.symm heq
     · rw [g] at hbl;cases hbl
    simp [fw,k6,hu,this]
   simp(maxSteps:=400000)only[↓aA,aB,BEq.rfl,reduceIte,reduceCtorEq,Nat.reduceLT,reduceAdd,reduceSub,reduceMul,Nat.reduceBEq,reduceLeDiff,reduceToNat,reduceLE,hQ,hpos,hne0,t1,z1,Yh,Yi,i1,hget,hset,h0',CX,length_reverse,↓fT,hpl,LA,k6',dJ,y_,nQ,zOl,zOs,↓cB,hu,xN,hbl,heq']
   obtain ⟨m1,e0,s1,j1,w1,e1,e2,e3,e4,e5⟩:=fin hn
   refine ⟨htx.1,htx.2,⟨by omega,by omega⟩,rfl,by omega,by omega,⟨by omega,by omega⟩,m1,e0,s1,j1,w1,e1,e2,e3,e4,?_⟩
   rw [← e5]
   simp only [hA,List.take_succ_cons,take_zero,map_cons (f:=fO _ _ _),map_nil,Gt]
   rfl
def nR:dF:=fun args objs K=>match args with
 | [a0]=>f_ aC a0 (HK.mk:HK fun v=>(Small v)∧K (.bool (dH v)) objs 0)
 | _=>False
theorem Gu:aD Tryz.prog 105 (nR):=by
 intro args objs K h
 unfold nR at h
 split at h
 · rename_i a0
   obtain ⟨v,rfl,h1,hk⟩:=h
   exact ⟨_,_,_,.pure _ rfl (IE v h1),hk⟩
 · exact h.elim
end Lp
set_option maxRecDepth 100000
namespace Lp
open Go Go.Proofs
open Nat (reduceAdd reduceLeDiff reduceMul reduceSub zero_le)
open Int (reduceEq reduceLE reduceToNat)
set_option maxHeartbeats 4000000
def rV (n:Nd):Prop:=n.s.length≤4611686018427387904∧n.name.length≤4611686018427387904
theorem rV.small {n:Nd}(h:rV n):Small [n]:=⟨by simp,fun m hm=>by rw [List.mem_singleton] at hm;subst hm;exact h⟩
theorem OO (n:Nd) (h:rV n):ah Tryz.prog 76 [au n] [] (.bool (qh n)) []:=by
 unfold qh
 refine FZ.aZ (T:=aO Tryz.prog [(105,nR)]) 0 hD (aj (af Gu ai)) aT (by decide) fun Q hQ=>?_
 (conv=>arg 4;cbv);simp(maxSteps:=400000)only[↓aR,aS,BEq.rfl,reduceIte,reduceCtorEq,Nat.reduceLT,reduceAdd,reduceSub,reduceMul,Nat.reduceBEq,reduceLeDiff,reduceToNat,reduceLE,hQ]
 refine aQ _ (Weak.freeze 1 0 (zero_le _) _) ?_
 rcases tf (n.kind<5) with hk | hk
 · simp(maxSteps:=400000)only[↓aR,aS,BEq.rfl,reduceIte,reduceCtorEq,Nat.reduceLT,reduceAdd,reduceSub,reduceMul,Nat.reduceBEq,reduceLeDiff,reduceToNat,reduceLE,hQ,iY,hk,↓nR,bf,bg,Bool.false_and]
   exact h.small
 · simp(maxSteps:=400000)only[↓aR,aS,BEq.rfl,reduceIte,reduceCtorEq,Nat.reduceLT,reduceAdd,reduceSub,reduceMul,Nat.reduceBEq,reduceLeDiff,reduceToNat,reduceLE,hQ,iY,hk,↓nR,bf,bg,Bool.false_and]
def o6:dF:=fun args objs K=>match args with
 | [a0]=>f_ au a0 (HK.mk:HK fun n=>(rV n)∧K (.bool (qh n)) objs 0)
 | _=>False
theorem LB:aD Tryz.prog 76 (o6):=by
 intro args objs K h
 unfold o6 at h
 split at h
 · rename_i a0
   obtain ⟨n,rfl,h1,hk⟩:=h
   exact ⟨_,_,_,.pure _ rfl (OO n h1),hk⟩
 · exact h.elim
theorem OP (n:Nd) (h:rV n):ah Tryz.prog 62 [au n] [] (.bool (qh n)) []:=by
 unfold qh
 refine yO.aZ (T:=aO Tryz.prog [(16,vU)]) 0 hD (aj (af NR ai)) aT (by decide) fun Q hQ=>?_
 (conv=>arg 4;cbv);simp(maxSteps:=400000)only[↓aR,aS,BEq.rfl,reduceIte,reduceCtorEq,Nat.reduceLT,reduceAdd,reduceSub,reduceMul,Nat.reduceBEq,reduceLeDiff,reduceToNat,reduceLE,hQ]
 refine aQ _ (Weak.freeze 1 0 (zero_le _) _) ?_
 rcases tf (n.kind<5) with hk | hk
 · simp(maxSteps:=400000)only[↓aR,aS,BEq.rfl,reduceIte,reduceCtorEq,Nat.reduceLT,reduceAdd,reduceSub,reduceMul,Nat.reduceBEq,reduceLeDiff,reduceToNat,reduceLE,hQ,iY,hk,↓vU,bf,bg,Bool.false_and]
   exact h.small
 · simp(maxSteps:=400000)only[↓aR,aS,BEq.rfl,reduceIte,reduceCtorEq,Nat.reduceLT,reduceAdd,reduceSub,reduceMul,Nat.reduceBEq,reduceLeDiff,reduceToNat,reduceLE,hQ,iY,hk,↓vU,bf,bg,Bool.false_and]
def lm:dF:=fun args objs K=>match args with
 | [a0]=>f_ au a0 (HK.mk:HK fun n=>(rV n)∧K (.bool (qh n)) objs 0)
 | _=>False
theorem Bj:aD Tryz.prog 62 (lm):=by
 intro args objs K h
 unfold lm at h
 split at h
 · rename_i a0
   obtain ⟨n,rfl,h1,hk⟩:=h
   exact ⟨_,_,_,.pure _ rfl (OP n h1),hk⟩
 · exact h.elim
theorem OQ (a:lG) (h:rV a.c):ah Tryz.prog 98 [dK a] [] (.bool (nT a)) []:=by
 unfold nT
 refine yP.aZ (T:=aO Tryz.prog [(62,lm)]) 0 hD (aj (af Bj ai)) aT (by decide) fun Q hQ=>?_
 (conv=>arg 4;cbv);simp(maxSteps:=400000)only[↓aR,aS,BEq.rfl,reduceIte,reduceCtorEq,Nat.reduceLT,reduceAdd,reduceSub,reduceMul,Nat.reduceBEq,reduceLeDiff,reduceToNat,reduceLE,hQ]
 refine aQ _ (Weak.freeze 1 0 (zero_le _) _) ?_
 rcases tf (0≤a.n) with h1 | h1
 rotate_left 1
 · simp(maxSteps:=400000)only[↓aR,aS,BEq.rfl,reduceIte,reduceCtorEq,Nat.reduceLT,reduceAdd,reduceSub,reduceMul,Nat.reduceBEq,reduceLeDiff,reduceToNat,reduceLE,hQ,Tg,h1,Bool.false_and]
 rcases tf (a.n≤5) with h2 | h2
 rotate_left 1
 · simp(maxSteps:=400000)only[↓aR,aS,BEq.rfl,reduceIte,reduceCtorEq,Nat.reduceLT,reduceAdd,reduceSub,reduceMul,Nat.reduceBEq,reduceLeDiff,reduceToNat,reduceLE,hQ,Tg,h1,h2,Bool.false_and,Bool.and_false]
 simp(maxSteps:=400000)only[↓aR,aS,BEq.rfl,reduceIte,reduceCtorEq,Nat.reduceLT,reduceAdd,reduceSub,reduceMul,Nat.reduceBEq,reduceLeDiff,reduceToNat,reduceLE,hQ,Tg,h1,h2,↓lm]
 exact h
def rW:dF:=fun args objs K=>match args with
 | [a0]=>f_ dK a0 (HK.mk:HK fun a=>(rV a.c)∧K (.bool (nT a)) objs 0)
 | _=>False
theorem LD:aD Tryz.prog 98 (rW):=by
 intro args objs K h
 unfold rW at h
 split at h
 · rename_i a0
   obtain ⟨a,rfl,h1,hk⟩:=h
   exact ⟨_,_,_,.pure _ rfl (OQ a h1),hk⟩
 · exact h.elim
theorem Gv (how c:Int):(how=0∧nC how c=decide (c=0))∨(how=1∧nC how c=!decide (c=0))∨(how=2∧nC how c=decide (c<0))∨(how=3∧nC how c=decide (c≤0))∨(how=4∧nC how c=decide (0<c))∨
  ((how=0)=False∧(how=1)=False∧(how=2)=False∧(how=3)=False∧(how=4)=False∧nC how c=decide (0≤c)):=by
 by_cases h0:how=0
 · exact .inl ⟨h0,by simp [nC,h0]⟩
 by_cases h1:how=1
 · exact .inr (.inl ⟨h1,by simp [nC,h1]⟩)
 by_cases h2:how=2
 · exact .inr (.inr (.inl ⟨h2,by simp [nC,h2]⟩))
 by_cases h3:how=3
 · exact .inr (.inr (.inr (.inl ⟨h3,by simp [nC,h3]⟩)))
 by_cases h4:how=4
 · exact .inr (.inr (.inr (.inr (.inl ⟨h4,by simp [nC,h4]⟩))))
 · exact .inr (.inr (.inr (.inr (.inr ⟨eq_false h0,eq_false h1,eq_false h2,eq_false h3,eq_false h4,by simp [nC,h0,h1,h2,h3,h4]⟩))))
theorem Vn (how c:Int):ah Tryz.prog 89 [.int .i64 how,.int .i64 c] [] (.bool (nC how c)) []:=by
 refine Ap.aZ (T:=aO Tryz.prog []) 0 hD (aj ai) aT (by decide) fun Q hQ=>?_
 rcases Gv how c with ⟨h,hr⟩ | ⟨h,hr⟩ | ⟨h,hr⟩ | ⟨h,hr⟩ | ⟨h,hr⟩ | ⟨k0,k1,k2,k3,k4,hr⟩
 · rw [h] at hr
   (conv=>arg 4;cbv);simp(maxSteps:=400000)only[↓aR,aS,BEq.rfl,reduceIte,reduceCtorEq,Nat.reduceLT,reduceAdd,reduceSub,reduceMul,Nat.reduceBEq,reduceLeDiff,reduceToNat,reduceLE,hQ,hr,h]
 · rw [h] at hr
   (conv=>arg 4;cbv);simp(maxSteps:=400000)only[↓aR,aS,BEq.rfl,reduceIte,reduceCtorEq,Nat.reduceLT,reduceAdd,reduceSub,reduceMul,Nat.reduceBEq,reduceLeDiff,reduceToNat,reduceLE,hQ,hr,h,reduceEq]
 · rw [h] at hr
   (conv=>arg 4;cbv);simp(maxSteps:=400000)only[↓aR,aS,BEq.rfl,reduceIte,reduceCtorEq,Nat.reduceLT,reduceAdd,reduceSub,reduceMul,Nat.reduceBEq,reduceLeDiff,reduceToNat,reduceLE,hQ,hr,h,reduceEq]
 · rw [h] at hr
   (conv=>arg 4;cbv);simp(maxSteps:=400000)only[↓aR,aS,BEq.rfl,reduceIte,reduceCtorEq,Nat.reduceLT,reduceAdd,reduceSub,reduceMul,Nat.reduceBEq,reduceLeDiff,reduceToNat,reduceLE,hQ,hr,h,reduceEq]
 · rw [h] at hr
   (conv=>arg 4;cbv);simp(maxSteps:=400000)only[↓aR,aS,BEq.rfl,reduceIte,reduceCtorEq,Nat.reduceLT,reduceAdd,reduceSub,reduceMul,Nat.reduceBEq,reduceLeDiff,reduceToNat,reduceLE,hQ,hr,h,reduceEq]
 · (conv=>arg 4;cbv);simp(maxSteps:=400000)only[↓aR,aS,BEq.rfl,reduceIte,reduceCtorEq,Nat.reduceLT,reduceAdd,reduceSub,reduceMul,Nat.reduceBEq,reduceLeDiff,reduceToNat,reduceLE,hQ,k0,k1,k2,k3,k4,hr]
def EU:dF:=fun args objs K=>match args with
 | [.int .i64 how,.int .i64 c]=>K (.bool (nC how c)) objs 0
 | _=>False
theorem Rp:aD Tryz.prog 89 (EU):=by
 intro args objs K h
 unfold EU at h
 split at h
 · rename_i how c
   have hk:=h
   exact ⟨_,_,_,.pure _ rfl (Vn how c),hk⟩
 · exact h.elim
structure fu (n:Nd):Prop where
 sc:qh n=true
 len:n.s.length≤1000000
theorem fu.few {n:Nd}(h:fu n):acf [n] 1:=by
 have hr:dH [n]=true:=by
  have:=h.sc
  simp only [qh,Bool.and_eq_true] at this
  exact this.2
 have hrt:=wz hr
 have hpl:=Lm hr
 refine ⟨by simp,hrt,⟨hrt.one,by simp,fun m hm=>?_⟩,⟨hrt.one,by simp,fun m hm hk3=>Tw (pQ (hpl m hm) hk3)⟩⟩
 have hp:=hpl m hm
 rw [List.mem_singleton] at hm
 subst hm
 exact Vj hp h.len
theorem OT (a:lG) (n:Nd) (ha:fu a.c) (hn:fu n):ah Tryz.prog 79 [dK a,au n] [] (.bool (j3 a n)) []:=by
 obtain ⟨f,hf⟩:∃ f:Nat,f=1:=⟨1,rfl⟩
 have hh:j3 a n=nC a.n (qP f [n] [a.c]):=by rw [hf];rfl
 rw [hh]
 have hl:[n].length≤f:=by rw [hf];exact Nat.le_refl _
 have o1:=hn.few.ok
 have o2:=ha.few.ok
 refine KO.aZ (T:=aO Tryz.prog [(107,(wX f))]) 0 hD (aj (af (Lj f) ai)) aT (by decide) fun Q hQ=>?_
 generalize hc:qP f [n] [a.c]=c
 (conv=>arg 4;cbv);simp(maxSteps:=400000)only[↓aR,aS,BEq.rfl,reduceIte,reduceCtorEq,Nat.reduceLT,reduceAdd,reduceSub,reduceMul,Nat.reduceBEq,reduceLeDiff,reduceToNat,reduceLE,hQ]
 refine aQ _ (Weak.freeze 1 0 (zero_le _) _) ?_
 simp(maxSteps:=400000)only[↓aR,aS,BEq.rfl,reduceIte,reduceCtorEq,Nat.reduceLT,reduceAdd,reduceSub,reduceMul,Nat.reduceBEq,reduceLeDiff,reduceToNat,reduceLE,hQ,Xd,Xe,↓wX,hc,bf,bg]
 refine ⟨hl,o1,o2,?_⟩
 rcases Gv a.n c with ⟨h,hr⟩ | ⟨h,hr⟩ | ⟨h,hr⟩ | ⟨h,hr⟩ | ⟨h,hr⟩ | ⟨k0,k1,k2,k3,k4,hr⟩
 · rw [h] at hr
   simp(maxSteps:=400000)only[↓aR,aS,BEq.rfl,reduceIte,reduceCtorEq,Nat.reduceLT,reduceAdd,reduceSub,reduceMul,Nat.reduceBEq,reduceLeDiff,reduceToNat,reduceLE,hQ,hr,h]
 · rw [h] at hr
   simp(maxSteps:=400000)only[↓aR,aS,BEq.rfl,reduceIte,reduceCtorEq,Nat.reduceLT,reduceAdd,reduceSub,reduceMul,Nat.reduceBEq,reduceLeDiff,reduceToNat,reduceLE,hQ,hr,h,reduceEq]
 · rw [h] at hr
   simp(maxSteps:=400000)only[↓aR,aS,BEq.rfl,reduceIte,reduceCtorEq,Nat.reduceLT,reduceAdd,reduceSub,reduceMul,Nat.reduceBEq,reduceLeDiff,reduceToNat,reduceLE,hQ,hr,h,reduceEq]
 · rw [h] at hr
   simp(maxSteps:=400000)only[↓aR,aS,BEq.rfl,reduceIte,reduceCtorEq,Nat.reduceLT,reduceAdd,reduceSub,reduceMul,Nat.reduceBEq,reduceLeDiff,reduceToNat,reduceLE,hQ,hr,h,reduceEq]
 · rw [h] at hr
   simp(maxSteps:=400000)only[↓aR,aS,BEq.rfl,reduceIte,reduceCtorEq,Nat.reduceLT,reduceAdd,reduceSub,reduceMul,Nat.reduceBEq,reduceLeDiff,reduceToNat,reduceLE,hQ,hr,h,reduceEq]
 · simp(maxSteps:=400000)only[↓aR,aS,BEq.rfl,reduceIte,reduceCtorEq,Nat.reduceLT,reduceAdd,reduceSub,reduceMul,Nat.reduceBEq,reduceLeDiff,reduceToNat,reduceLE,hQ,k0,k1,k2,k3,k4,hr]
def w9:dF:=fun args objs K=>match args with
 | [a0,a1]=>f_ dK a0 (HK.mk:HK fun a=>f_ au a1 (HK.mk:HK fun n=>(fu a.c)∧(fu n)∧K (.bool (j3 a n)) objs 0))
 | _=>False
theorem LF:aD Tryz.prog 79 (w9):=by
 intro args objs K h
 unfold w9 at h
 split at h
 · rename_i a0 a1
   obtain ⟨a,rfl,n,rfl,h1,h2,hk⟩:=h
   exact ⟨_,_,_,.pure _ rfl (OT a n h1 h2),hk⟩
 · exact h.elim
theorem OU (a:lG) (n:Nd) (ha:fu a.c) (hn:fu n):ah Tryz.prog 64 [dK a,au n] [] (.bool (j3 a n)) []:=by
 obtain ⟨f,hf⟩:∃ f:Nat,f=1:=⟨1,rfl⟩
 have hh:j3 a n=nC a.n (jh kU f [n] [a.c]):=by rw [hf,OJ 1 _ _ hn.few.rt ha.few.rt];rfl
 rw [hh]
 have hl:[n].length≤f:=by rw [hf];exact Nat.le_refl _
 have o1:=hn.few.ok2
 have o2:=ha.few.ok2
 refine yQ.aZ (T:=aO Tryz.prog [(67,(ET f)),(89,EU)]) 0 hD (aj (af (Rm f) (af Rp ai))) aT (by decide) fun Q hQ=>?_
 (conv=>arg 4;cbv);simp(maxSteps:=400000)only[↓aR,aS,BEq.rfl,reduceIte,reduceCtorEq,Nat.reduceLT,reduceAdd,reduceSub,reduceMul,Nat.reduceBEq,reduceLeDiff,reduceToNat,reduceLE,hQ]
 refine aQ _ (Weak.freeze 1 0 (zero_le _) _) ?_
 simp(maxSteps:=400000)only[↓aR,aS,BEq.rfl,reduceIte,reduceCtorEq,Nat.reduceLT,reduceAdd,reduceSub,reduceMul,Nat.reduceBEq,reduceLeDiff,reduceToNat,reduceLE,hQ,Xd,Xe,↓ET,↓EU,bf,bg]
 exact ⟨hl,o1,o2⟩
def rX:dF:=fun args objs K=>match args with
 | [a0,a1]=>f_ dK a0 (HK.mk:HK fun a=>f_ au a1 (HK.mk:HK fun n=>(fu a.c)∧(fu n)∧K (.bool (j3 a n)) objs 0))
 | _=>False
theorem LG:aD Tryz.prog 64 (rX):=by
 intro args objs K h
 unfold rX at h
 split at h
 · rename_i a0 a1
   obtain ⟨a,rfl,n,rfl,h1,h2,hk⟩:=h
   exact ⟨_,_,_,.pure _ rfl (OU a n h1 h2),hk⟩
 · exact h.elim
end Lp
set_option maxRecDepth 100000
namespace Lp
open Go Go.Proofs
set_option maxHeartbeats 4000000
theorem Rq (names:List (List UInt8)) (l:List Vl) (hn:names.length=l.length) (hl:l.length≤1000000) (hb:l.flatten.length≤1000000) (hne:∀ v ∈ l,v≠[]):ah Tryz.prog 47 [cK names,dh l] [] (.aX 0 0) [Ei (DZ names l) 0]:=by
 refine yM.JK (T:=aO Tryz.prog []) 1 hD (aj ai) aT fun Q hQ=>?_
 (conv=>arg 4;cbv);simp(maxSteps:=400000)only[↓aA,aB,BEq.rfl,reduceIte,reduceCtorEq,Nat.reduceLT,Nat.reduceAdd,Nat.reduceSub,Nat.reduceMul,Nat.reduceBEq,Nat.reduceLeDiff,Int.reduceToNat,Int.reduceLE,hQ,rP,rQ]
 refine aF (fun m S=>∃ i ver:Nat,i+m=l.length∧S=⟨cO 41 [(0,cK names),(1,dh l),(5,.aX 0 ver),(6,.int .i64 i)],[⟨42,6,((⟨6,l.length,[],[],false,0⟩:Nd)::(List.zipWith qb (names.take i) (l.take i)).flatten).map au,true,ver⟩]⟩) l.length ⟨0,1,by omega,?_⟩ ?_ (hz:=Nat.zero_le _)
 · simp only [bI,keepR,Nat.reduceAdd,kT,Nat.reduceBEq,List.map_nil]
   rfl
 rintro m S ⟨i,ver,him,rfl⟩
 rcases Nat.lt_or_ge i l.length with h | h
 rotate_left 1
 · have hlt:((i:Int)<(l.length:Int))=False:=eq_false (by omega)
   simp(maxSteps:=400000)only[↓aA,aB,BEq.rfl,reduceIte,reduceCtorEq,Nat.reduceLT,Nat.reduceAdd,Nat.reduceSub,Nat.reduceMul,Nat.reduceBEq,Nat.reduceLeDiff,Int.reduceToNat,Int.reduceLE,hQ,hlt]
   rw [List.take_of_length_le h,List.take_of_length_le (by omega)]
   exact QB (k:=0) (ver:=ver) rfl rfl rfl rfl (congrArg (fun o:Obj=>{ o with ver:=0 }) (gI 1 1 _ 42 6 (DZ names l) ver)) (mX _ 0)
 have hlt:((i:Int)<(l.length:Int))=True:=eq_true (by omega)
 have hgi:=List.getElem?_eq_getElem h
 have hgn:names[i]?=some (names[i]'(by omega)):=List.getElem?_eq_getElem (by omega)
 have hv:=hne _ (List.getElem_mem h)
 generalize l[i]=v at hgi hv
 generalize names[i]'(by omega)=nm at hgn
 have hz:=ab_ hgn hgi
 have hf:=rO l hgi
 have hf2:=AV (names.take i) (l.take i)
 generalize hA:(List.zipWith qb (names.take i) (l.take i)).flatten=A at *
 obtain ⟨n,r,rfl⟩:∃ n r,v=n::r:=by
  cases v with
  | nil=>exact absurd rfl hv
  | cons n r=>exact ⟨n,r,rfl⟩
 have hf3:A.length+(r.length+1)≤1000000:=by rw [List.length_cons] at hf;omega
 have zi:(0≤(i:Int))=True:=eq_true (by omega)
 have hgA:(List.map au A++au n::List.map au r)[A.length]?=some (au n):=by simp
 simp(maxSteps:=400000)only[↓aA,aB,BEq.rfl,reduceIte,reduceCtorEq,Nat.reduceLT,Nat.reduceAdd,Nat.reduceSub,Nat.reduceMul,Nat.reduceBEq,Nat.reduceLeDiff,Int.reduceToNat,Int.reduceLE,hQ,hlt,zi,hgi,hgn,rP,rQ,hgA,bf,bg,nmP]
 have hset:∀ hd:Nd,au hd::(List.map au A++au n::List.map au r).set A.length (au { kind:=n.kind,many:=n.many,name:=nm,s:=n.s,neg:=n.neg,e:=n.e })=(hd::(A++qb nm (n::r))).map au:=fun hd=>by
  rw [List.map_cons,← Ob];rfl
 refine ⟨Xk n r ▸ trivial,by omega,by omega,by omega,by omega,by omega,by omega,⟨by omega,by omega⟩,m-1,by omega,i+1,ver+1,by omega,?_⟩
 rw [hset,hz,List.flatten_append,hA]
 simp only [List.take_succ_cons,List.take_zero,List.map_cons (f:=fO _ _ _),List.map_nil,gI,List.flatten_cons,List.flatten_nil,List.append_nil]
 rfl
end Lp
namespace Lp
open Go
structure OV (names:List (List UInt8)) (l:List Vl) (q:wB) (done:List Bool) (m:Nat):Prop where
 par:names.length=l.length
 len:done.length=names.length
 cnt:q.length+m=names.length
 left:done.count false=m
 mem:∀ x:List UInt8×Vl,x ∈ q↔∃ i:Nat,done[i]?=some true∧names[i]?=some x.1∧l[i]?=some x.2
 rise:qa (q.map (·.1))
 utf:∀ x ∈ q,utf x.1=true
 low:∀ (i:Nat) nm,done[i]?=some false→names[i]?=some nm→∀ x ∈ q,Op.bytesLess nm x.1=false
 one:∀ (i j:Nat) nm,done[i]?=some true→done[j]?=some true→names[i]?=some nm→names[j]?=some nm→i=j
theorem OV.init (names:List (List UInt8)) (l:List Vl) (hp:names.length=l.length):OV names l [] (List.replicate names.length false) names.length:=by
 have hno:∀ i:Nat,(List.replicate names.length false)[i]?≠some true:=fun i h=>by
  rw [List.getElem?_replicate] at h
  split at h <;> cases h
 refine ⟨hp,by simp,by simp,by simp,fun x=>⟨fun h=>(List.not_mem_nil h).elim,fun ⟨i,h,_⟩=>absurd h (hno i)⟩,List.Pairwise.nil,fun x h=>(List.not_mem_nil h).elim,fun _ _ _ _ x h=>(List.not_mem_nil h).elim,fun i j nm h=>absurd h (hno i)⟩
theorem OV.above {names:List (List UInt8)}{l:List Vl}{q:wB}{done:List Bool}{m:Nat}(h:OV names l q done m){b:Nat}{nm:List UInt8}(hb:done[b]?=some false) (hn:names[b]?=some nm)
  (hl:∀ x,q.getLast?=some x→x.1≠nm):∀ x ∈ q,Op.bytesLess x.1 nm=true:=by
 have hlow:=h.low b nm hb hn
 rcases List.eq_nil_or_concat q with rfl | ⟨q',z,rfl⟩
 · intro x hx;cases hx
 rw [List.concat_eq_append] at *
 have hz:z ∈ q'++[z]:=by simp
 have hzl:Op.bytesLess z.1 nm=true:=by
  rcases uU z.1 nm with g | g | g
  · exact g
  · exact absurd g (hl z (by simp))
  · rw [hlow z hz] at g;cases g
 intro x hx
 have hr:=h.rise
 rw [List.map_append] at hr
 rcases List.mem_append.1 hx with hx | hx
 · exact kD _ _ _ ((List.pairwise_append.1 hr).2.2 x.1 (List.mem_map.2 ⟨x,hx,rfl⟩) z.1 (by simp)) hzl
 · simp only [List.mem_singleton] at hx
   subst hx;exact hzl
theorem OV.step {names:List (List UInt8)}{l:List Vl}{q:wB}{done:List Bool}{m:Nat}(h:OV names l q done (m+1)){b:Nat}{nm:List UInt8}{v:Vl}(hb:done[b]?=some false) (hn:names[b]?=some nm) (hv:l[b]?=some v)
  (hmin:∀ (i:Nat) vO,done[i]?=some false→names[i]?=some vO→Op.bytesLess vO nm=false) (hu:Lp.utf nm=true) (hl:∀ x,q.getLast?=some x→x.1≠nm) :
  OV names l (q++[(nm,v)]) (done.set b true) m:=by
 have hbl:=(List.getElem?_eq_some_iff.1 hb).1
 have hab:=h.above hb hn hl
 have hset:∀ i c,(done.set b true)[i]?=some c→(i=b∧c=true)∨(i≠b∧done[i]?=some c):=fun i c hc=>by
  rw [List.getElem?_set] at hc
  split at hc
  · rename_i e
    subst e
    exact .inl ⟨rfl,by simpa [hbl] using hc.symm⟩
  · rename_i e
    exact .inr ⟨fun e'=>e e'.symm,hc⟩
 have hset':∀ i c,i≠b→done[i]?=some c→(done.set b true)[i]?=some c:=fun i c hi hc=>by
  rw [List.getElem?_set_ne (fun e=>hi e.symm)];exact hc
 have hsb:(done.set b true)[b]?=some true:=by rw [List.getElem?_set_self hbl]
 refine ⟨h.par,by simp [h.len],by have:=h.cnt;simp;omega,?_,fun x=>?_,?_,?_,?_,?_⟩
 · have h1:=h.left
   have e:done=done.take b++false::done.drop (b+1):=by
    have:=List.getElem?_eq_some_iff.1 hb
    obtain ⟨_,e⟩:=this
    conv=>lhs;rw [← List.take_append_drop b done,List.drop_eq_getElem_cons hbl,e]
   have e2:done.set b true=done.take b++true::done.drop (b+1):=by
    rw [List.set_eq_take_append_cons_drop,if_pos hbl]
   rw [e2,List.count_append,List.count_cons]
   rw [e,List.count_append,List.count_cons] at h1
   simp at h1 ⊢
   omega
 · rw [List.mem_append,h.mem]
   constructor
   · rintro (⟨i,h1,h2,h3⟩ | hx)
     · have:i≠b:=fun e=>by subst e;rw [hb] at h1;cases h1
       exact ⟨i,hset' i _ this h1,h2,h3⟩
     · simp only [List.mem_singleton] at hx
       subst hx
       exact ⟨b,hsb,hn,hv⟩
   · rintro ⟨i,h1,h2,h3⟩
     rcases hset i _ h1 with ⟨rfl,_⟩ | ⟨hi,hd⟩
     · right
       rw [hn] at h2;rw [hv] at h3
       simp only [Option.some.injEq] at h2 h3
       simp [h2,h3]
     · exact .inl ⟨i,hd,h2,h3⟩
 · rw [List.map_append]
   refine List.pairwise_append.2 ⟨h.rise,by simp,fun x hx y hy=>?_⟩
   simp only [List.map_cons,List.map_nil,List.mem_singleton] at hy
   subst hy
   obtain ⟨z,hz,rfl⟩:=List.mem_map.1 hx
   exact hab z hz
 · intro x hx
   rcases List.mem_append.1 hx with hx | hx
   · exact h.utf x hx
   · simp only [List.mem_singleton] at hx
     subst hx;exact hu
 · intro i vO h1 h2 x hx
   rcases hset i _ h1 with ⟨_,hc⟩ | ⟨hi,hd⟩
   · cases hc
   · rcases List.mem_append.1 hx with hx | hx
     · exact h.low i vO hd h2 x hx
     · simp only [List.mem_singleton] at hx
       subst hx
       exact hmin i vO hd h2
 · intro i j vO h1 h2 h3 h4
   have key:∀ k,k≠b→done[k]?=some true→names[k]?=some vO→vO≠nm:=fun k hk hd hnk e=>by
    subst e
    have hkl:k<l.length:=by rw [← h.par];exact (List.getElem?_eq_some_iff.1 hnk).1
    have:=hab (vO,l[k]) ((h.mem _).2 ⟨k,hd,hnk,List.getElem?_eq_getElem hkl⟩)
    rw [dI] at this;cases this
   rcases hset i _ h1 with ⟨rfl,_⟩ | ⟨hi,hd⟩
   · rcases hset j _ h2 with ⟨rfl,_⟩ | ⟨hj,hd'⟩
     · rfl
     · rw [hn] at h3
       simp only [Option.some.injEq] at h3
       exact absurd h3.symm (key j hj hd' h4)
   · rcases hset j _ h2 with ⟨rfl,_⟩ | ⟨hj,hd'⟩
     · rw [hn] at h4
       simp only [Option.some.injEq] at h4
       exact absurd h4.symm (key i hi hd h3)
     · exact h.one i j vO hd hd' h3 h4
theorem OV.all {names:List (List UInt8)}{l:List Vl}{q:wB}{done:List Bool}(h:OV names l q done 0){i:Nat}(hi:i<names.length):done[i]?=some true:=by
 have h1:=List.getElem?_eq_getElem (by rw [h.len];exact hi:i<done.length)
 rw [h1]
 cases hd:done[i]'(by rw [h.len];exact hi) with
 | true=>rfl
 | false=>
  have:=h.left
  rw [List.count_eq_zero] at this
  exact absurd (by rw [← hd];exact List.getElem_mem _) this
theorem OV.end {names:List (List UInt8)}{l:List Vl}{q:wB}{done:List Bool}(h:OV names l q done 0):dV names l.length=true∧q=D5 (names.zip l):=by
 have hq:∀ (i:Nat) (hi:i<names.length),(names[i],l[i]'(by rw [← h.par];exact hi)) ∈ q:=fun i hi=>
  (h.mem _).2 ⟨i,h.all hi,List.getElem?_eq_getElem hi,List.getElem?_eq_getElem _⟩
 have hok:dV names l.length=true:=by
  rw [g_]
  refine ⟨h.par,?_,fun x hx=>?_⟩
  · refine List.pairwise_iff_getElem.2 fun i j hi hj hij e=>?_
    have:=h.one i j names[i] (h.all hi) (h.all hj) (List.getElem?_eq_getElem hi) (by rw [e];exact List.getElem?_eq_getElem hj)
    omega
  · obtain ⟨i,hi,rfl⟩:=List.mem_iff_getElem.1 hx
    exact h.utf _ (hq i hi)
 refine ⟨hok,Df hok h.rise fun x=>?_⟩
 constructor
 · intro hx
   obtain ⟨i,_,h2,h3⟩:=(h.mem x).1 hx
   refine List.mem_iff_getElem?.2 ⟨i,?_⟩
   rw [List.getElem?_zip_eq_some]
   exact ⟨h2,h3⟩
 · intro hx
   obtain ⟨i,hi⟩:=List.mem_iff_getElem?.1 hx
   rw [List.getElem?_zip_eq_some] at hi
   exact (h.mem x).2 ⟨i,h.all (List.getElem?_eq_some_iff.1 hi.1).1,hi.1,hi.2⟩
theorem Y_ {names:List (List UInt8)}{k:Nat}{b:Nat}{nm:List UInt8}(hn:names[b]?=some nm) (hu:Lp.utf nm=false):dV names k=false:=by
 cases hh:dV names k with
 | false=>rfl
 | true=>
  have:=(g_.1 hh).2.2 nm (List.mem_of_getElem? hn)
  rw [hu] at this;cases this
theorem OV.twice {names:List (List UInt8)}{l:List Vl}{q:wB}{done:List Bool}{m:Nat}(h:OV names l q done m){b:Nat}{nm:List UInt8}(hb:done[b]?=some false) (hn:names[b]?=some nm){x:List UInt8×Vl}(hx:x ∈ q) (he:x.1=nm) (k:Nat):dV names k=false:=by
 cases hh:dV names k with
 | false=>rfl
 | true=>
  obtain ⟨i,h1,h2,_⟩:=(h.mem x).1 hx
  have hnd:=(g_.1 hh).2.1
  have hib:i≠b:=fun e=>by subst e;rw [hb] at h1;cases h1
  rw [he] at h2
  obtain ⟨hi,e1⟩:=List.getElem?_eq_some_iff.1 h2
  obtain ⟨hj,e2⟩:=List.getElem?_eq_some_iff.1 hn
  have hpw:=List.pairwise_iff_getElem.1 hnd
  rcases Nat.lt_trichotomy i b with g | g | g
  · exact absurd (e1.trans e2.symm) (hpw i b hi hj g)
  · exact absurd g hib
  · exact absurd (e2.trans e1.symm) (hpw b i hj hi g)
theorem OV.some {names:List (List UInt8)}{l:List Vl}{q:wB}{done:List Bool}{m:Nat}(h:OV names l q done (m+1)):∃ i:Nat,done[i]?=Option.some false:=by
 have:0<done.count false:=by rw [h.left];omega
 exact List.mem_iff_getElem?.1 (List.count_pos_iff.1 this)
end Lp
set_option maxRecDepth 100000
namespace Lp
open Go Go.Proofs
open Nat (lt_or_ge reduceAdd reduceLeDiff reduceMul reduceSub)
open Int (reduceLE reduceToNat)
set_option maxHeartbeats 4000000
theorem pR {α:Type}{f:PV→PV}(enc:α→PV) (h:∀ x,(enc x).bF f=enc x) (l:List α):(l.map enc).map (PV.bF f)=l.map enc:=by
 rw [List.map_map]
 exact List.map_congr_left fun x _=>h x
def Ej (names:List (List UInt8)) (l:List Vl):PV:=if dV names l.length then .bV [aC (gy names l),.int .i64 0] else .bV [.sl 0 [] (some true),.int .i64 4]
def OW (q:wB) (done:List Bool) (v1 v2:Nat):List Obj:=[⟨9,1,(q.map (·.1)).map .str,true,v1⟩,⟨28,1,(q.map (·.2)).map aC,true,v2⟩,⟨4,1,done.map .bool,true,1⟩]
def o7:dF:=fun args objs K=>match args with
 | [a,b]=>AX .str 1 a objs (HK.mk:HK fun names=>AX aC 1 b objs (HK.mk:HK fun l=>names.length=l.length∧l.length≤1000000∧l.flatten.length≤1000000∧(∀ v ∈ l,v≠[])∧K (.aX objs.length 0) (objs++[Ei (DZ names l) 0]) 2))
 | _=>False
theorem Bl:aD Tryz.prog 47 o7:=by
 intro args objs K h
 unfold o7 at h
 split at h
 · obtain ⟨names,a',l1,t1,h⟩:=tH strCells h
   obtain ⟨l,b',l2,t2,h1,h2,h3,h4,h5⟩:=tH Oc h
   exact ⟨_,_,_,.M_ 0 _ [a',b'] ⟨l1,l2,trivial⟩ (y7 _ _) ((Rq names l h1 h2 h3 h4).arg rfl (JR t1 t2)),h5⟩
 · exact h.elim
theorem vY (names:List (List UInt8)) (l:List Vl) (hn:names.length≤1000000) (_hl:l.length≤1000000) (hb:l.flatten.length≤1000000) (hne:∀ v ∈ l,v≠[]) (htx:∀ s ∈ names,s.length≤4611686018427387904)
  (Q:Exit→St→Prop) (R:List (Nat×PV)→List Obj→Prop) (hQ:∀ t ob,Q .ret ⟨cO 97 t,ob⟩=R t ob)
  (hbad:dV names l.length=false→∀ t ob,jX t 4=.sl 0 [] (some true)→jX t 5=.int .i64 4→R t ob)
  (hgood:dV names l.length=true→∀ t x y z,jX t 4=.aX 3 0→jX t 5=.int .i64 0→R t [x,y,z,Ei (gy names l) 0]) :
  kr Tryz.prog D (aO Tryz.prog [(46,dZ),(47,o7)]) nZ Q (bT [cK names,dh l] 97):=by
 by_cases hp:names.length=l.length
 rotate_left 1
 · have hl':((names.length:Int)=(l.length:Int))=False:=eq_false (by omega)
   have hr:dV names l.length=false:=by simp [dV,hp]
   (conv=>arg 4;cbv);simp(maxSteps:=400000)only[↓aA,aB,BEq.rfl,reduceIte,reduceCtorEq,Nat.reduceLT,reduceAdd,reduceSub,reduceMul,Nat.reduceBEq,reduceLeDiff,reduceToNat,reduceLE,hQ,hl']
   exact hbad hr _ _ rfl rfl
 have hl':((names.length:Int)=(l.length:Int))=True:=eq_true (by omega)
 (conv=>arg 4;cbv);simp(maxSteps:=400000)only[↓aA,aB,BEq.rfl,reduceIte,reduceCtorEq,Nat.reduceLT,reduceAdd,reduceSub,reduceMul,Nat.reduceBEq,reduceLeDiff,reduceToNat,reduceLE,hQ,hl']
 refine ⟨by omega,by omega,by omega,by omega,?_⟩
 refine aF (fun m S=>∃ (q:wB) (done:List Bool) (v1 v2:Nat),OV names l q done m∧S=⟨cO 97 [(0,cK names),(1,dh l),(6,.aX 0 v1),(7,.aX 1 v2),(8,.aX 2 1)],OW q done v1 v2⟩) names.length ⟨[],List.replicate names.length false,1,1,OV.init names l hp,?_⟩ ?_
 · simp only [bI,keepR,reduceAdd,kT,Nat.reduceBEq,List.map_nil]
   simp only [OW,List.map_nil,List.map_replicate]
 rintro m S ⟨q,done,v1,v2,hS,rfl⟩
 have hcnt:=hS.cnt
 have hdl:=hS.len
 cases m with
 | zero=>
  have hlt:((q.length:Int)<(names.length:Int))=False:=eq_false (by omega)
  obtain ⟨hok,hq⟩:=hS.end
  unfold OW
  simp(maxSteps:=400000)only[↓aA,aB,BEq.rfl,reduceIte,reduceCtorEq,Nat.reduceLT,reduceAdd,reduceSub,reduceMul,Nat.reduceBEq,reduceLeDiff,reduceToNat,reduceLE,hQ,hlt]
  refine aQ _ (Weak.refl _ _) ?_
  simp(maxSteps:=400000)only[↓aA,aB,BEq.rfl,reduceIte,reduceCtorEq,Nat.reduceLT,reduceAdd,reduceSub,reduceMul,Nat.reduceBEq,reduceLeDiff,reduceToNat,reduceLE,hQ,↓o7,aa2,Xr]
  have hq2:(q.map (·.2)).flatten.length≤1000000:=by rw [hq,BX hp];exact hb
  have e:DZ (q.map (·.1)) (q.map (·.2))=gy names l:=by rw [MK,hq];simp [gy,hok]
  rw [e]
  refine ⟨by omega,hq2,fun v hv=>hne v ?_,hgood hok _ _ _ _ rfl rfl⟩
  obtain ⟨x,hx,rfl⟩:=List.mem_map.1 hv
  obtain ⟨i,_,_,h3⟩:=(hS.mem x).1 hx
  exact List.mem_of_getElem? h3
 | succ m=>
 have hlt:((q.length:Int)<(names.length:Int))=True:=eq_true (by omega)
 unfold OW
 simp(maxSteps:=400000)only[↓aA,aB,BEq.rfl,reduceIte,reduceCtorEq,Nat.reduceLT,reduceAdd,reduceSub,reduceMul,Nat.reduceBEq,reduceLeDiff,reduceToNat,reduceLE,hQ,hlt]
 refine aF (fun m' S=>∃ (j:Nat) (best:Int),j+m'=names.length∧((best=-1∧∀ i,i<j→done[i]?=some true)∨∃ (b:Nat) (nm:List UInt8),best=b∧done[b]?=some false∧names[b]?=some nm∧b<j∧∀ (i:Nat) (vO:List UInt8),i<j→done[i]?=some false→names[i]?=some vO→Op.bytesLess vO nm=false)∧
  S=⟨cO 97 [(0,cK names),(1,dh l),(6,.aX 0 v1),(7,.aX 1 v2),(8,.aX 2 1),(9,.int .i64 best),(10,.int .i64 j)],OW q done v1 v2⟩) names.length ⟨0,-1,by omega,.inl ⟨rfl,fun i h=>absurd h (Nat.not_lt_zero i)⟩,?_⟩ ?_
 · simp only [bI,keepR,reduceAdd,kT,Nat.reduceBEq,List.map_nil]
   rfl
 rintro m' S ⟨j,best,hjm,XP,rfl⟩
 unfold OW
 rcases lt_or_ge j names.length with h | h
 · have hlt:((j:Int)<(names.length:Int))=True:=eq_true (by omega)
   have zj:(0≤(j:Int))=True:=eq_true (by omega)
   have hgj:=List.getElem?_eq_getElem h
   have hdj:done[j]?=some (done[j]'(by omega)):=List.getElem?_eq_getElem (by omega)
   generalize names[j]=nj at hgj
   generalize done[j]'(by omega)=dj at hdj
   cases dj with
   | true=>
    simp(maxSteps:=400000)only[↓aA,aB,BEq.rfl,reduceIte,reduceCtorEq,Nat.reduceLT,reduceAdd,reduceSub,reduceMul,Nat.reduceBEq,reduceLeDiff,reduceToNat,reduceLE,hQ,hlt,zj,hgj,hdj]
    refine ⟨by omega,⟨by omega,by omega⟩,m'-1,by omega,j+1,best,by omega,?_,?_⟩
    · rcases XP with ⟨rfl,hh⟩ | ⟨b,nm,rfl,h1,h2,h3,h4⟩
      · refine .inl ⟨rfl,fun i hi=>?_⟩
        rcases lt_or_ge i j with g | g
        · exact hh i g
        · have:i=j:=by omega
          subst this;exact hdj
      · refine .inr ⟨b,nm,rfl,h1,h2,by omega,fun i vO hi hd hnn=>?_⟩
        rcases lt_or_ge i j with g | g
        · exact h4 i vO g hd hnn
        · have:i=j:=by omega
          subst this;rw [hdj] at hd;cases hd
    · rfl
   | false=>
    rcases XP with ⟨rfl,hh⟩ | ⟨b,nm,rfl,h1,h2,h3,h4⟩
    · have hm1:((-1:Int)<0)=True:=eq_true (by omega)
      simp(maxSteps:=400000)only[↓aA,aB,BEq.rfl,reduceIte,reduceCtorEq,Nat.reduceLT,reduceAdd,reduceSub,reduceMul,Nat.reduceBEq,reduceLeDiff,reduceToNat,reduceLE,hQ,hlt,zj,hgj,hdj,hm1]
      refine ⟨by omega,⟨by omega,by omega⟩,m'-1,by omega,j+1,j,by omega,.inr ⟨j,nj,rfl,hdj,hgj,by omega,fun i vO hi hd hnn=>?_⟩,?_⟩
      · rcases lt_or_ge i j with g | g
        · have:=hh i g;rw [this] at hd;cases hd
        · have:i=j:=by omega
          subst this;rw [hgj] at hnn;cases hnn;exact dI _
      · rfl
    · have hm1:((b:Int)<0)=False:=eq_false (by omega)
      have zb:(0≤(b:Int))=True:=eq_true (by omega)
      cases hc:Op.bytesLess nj nm
      · simp(maxSteps:=400000)only[↓aA,aB,BEq.rfl,reduceIte,reduceCtorEq,Nat.reduceLT,reduceAdd,reduceSub,reduceMul,Nat.reduceBEq,reduceLeDiff,reduceToNat,reduceLE,hQ,hlt,zj,hgj,hdj,hm1,zb,h2,hc]
        refine ⟨by omega,⟨by omega,by omega⟩,m'-1,by omega,j+1,b,by omega,.inr ⟨b,nm,rfl,h1,h2,by omega,fun i vO hi hd hnn=>?_⟩,?_⟩
        · rcases lt_or_ge i j with g | g
          · exact h4 i vO g hd hnn
          · have:i=j:=by omega
            subst this;rw [hgj] at hnn;cases hnn;exact hc
        · rfl
      · simp(maxSteps:=400000)only[↓aA,aB,BEq.rfl,reduceIte,reduceCtorEq,Nat.reduceLT,reduceAdd,reduceSub,reduceMul,Nat.reduceBEq,reduceLeDiff,reduceToNat,reduceLE,hQ,hlt,zj,hgj,hdj,hm1,zb,h2,hc]
        refine ⟨by omega,⟨by omega,by omega⟩,m'-1,by omega,j+1,j,by omega,.inr ⟨j,nj,rfl,hdj,hgj,by omega,fun i vO hi hd hnn=>?_⟩,?_⟩
        · rcases lt_or_ge i j with g | g
          · have:=h4 i vO g hd hnn
            cases hx:Op.bytesLess vO nj with
            | false=>rfl
            | true=>rw [kD _ _ _ hx hc] at this;cases this
          · have:i=j:=by omega
            subst this;rw [hgj] at hnn;cases hnn;exact dI _
        · rfl
 have Za:((j:Int)<(names.length:Int))=False:=eq_false (by omega)
 obtain ⟨b,nm,rfl,hbd,hbn,hbj,hmin⟩:∃ (b:Nat) (nm:List UInt8),best=b∧done[b]?=some false∧names[b]?=some nm∧b<j∧∀ (i:Nat) (vO:List UInt8),done[i]?=some false→names[i]?=some vO→Op.bytesLess vO nm=false:=by
  rcases XP with ⟨rfl,hh⟩ | ⟨b,nm,rfl,h1,h2,h3,h4⟩
  · obtain ⟨i,hi⟩:=hS.some
    have:=hh i (by have:=(List.getElem?_eq_some_iff.1 hi).1;omega)
    rw [this] at hi;cases hi
  · exact ⟨b,nm,rfl,h1,h2,h3,fun i vO hd hnn=>h4 i vO (by have:=(List.getElem?_eq_some_iff.1 hnn).1;omega) hd hnn⟩
 have zb:(0≤(b:Int))=True:=eq_true (by omega)
 have hnl:nm.length≤4611686018427387904:=htx nm (List.mem_of_getElem? hbn)
 cases hu:utf nm
 · skip
   simp(maxSteps:=400000)only[↓aA,aB,BEq.rfl,reduceIte,reduceCtorEq,Nat.reduceLT,reduceAdd,reduceSub,reduceMul,Nat.reduceBEq,reduceLeDiff,reduceToNat,reduceLE,hQ,Za,zb,hbn,↓dZ,hu]
   exact ⟨hnl,hbad (Y_ hbn hu) _ _ rfl rfl⟩
 have hgv:l[b]?=some (l[b]'(by have:=(List.getElem?_eq_some_iff.1 hbn).1;omega)):=List.getElem?_eq_getElem _
 generalize l[b]'(by have:=(List.getElem?_eq_some_iff.1 hbn).1;omega)=v at hgv
 have VW:(List.map (fun x:List UInt8×Vl=>PV.str x.1) q).length=q.length:=List.length_map ..
 rcases List.eq_nil_or_concat q with rfl | ⟨q',z,hqz⟩
 · have hs:=hS.step hbd hbn hgv hmin hu (fun x hx=>by simp at hx)
   have h00:((0:Int)<((0:Nat):Int))=False:=eq_false (by omega)
   simp(maxSteps:=400000)only[↓aA,aB,BEq.rfl,reduceIte,reduceCtorEq,Nat.reduceLT,reduceAdd,reduceSub,reduceMul,Nat.reduceBEq,reduceLeDiff,reduceToNat,reduceLE,hQ,Za,zb,hbn,↓dZ,hu,hgv,h00,hbd]
   refine ⟨hnl,by omega,m,by omega,[(nm,v)],done.set b true,v1+1,v2+1,hs,?_⟩
   simp [OW,PV.putCells,PV.cells]
 · have hgz:q[q.length-1]?=some z:=by rw [hqz];simp
   have hzq:z ∈ q:=List.mem_of_getElem? hgz
   have hq1:0<q.length:=List.length_pos_of_mem hzq
   have h0q:((0:Int)<(q.length:Int))=True:=eq_true (by omega)
   have t1:((q.length:Int)-1).toNat=q.length-1:=by omega
   have z1:(0≤(q.length:Int)-1)=True:=eq_true (by omega)
   by_cases he:z.1=nm
   · have he':(z.1=nm)=True:=eq_true he
     simp(maxSteps:=400000)only[↓aA,aB,BEq.rfl,reduceIte,reduceCtorEq,Nat.reduceLT,reduceAdd,reduceSub,reduceMul,Nat.reduceBEq,reduceLeDiff,reduceToNat,reduceLE,hQ,Za,zb,hbn,↓dZ,hu,h0q,t1,z1,hgz,he']
     exact ⟨hnl,⟨by omega,by omega⟩,by omega,hbad (hS.twice hbd hbn hzq he _) _ _ rfl rfl⟩
   · have he':(z.1=nm)=False:=eq_false he
     have hs:=hS.step hbd hbn hgv hmin hu (fun x hx=>by rw [hqz] at hx;simp at hx;rw [← hx];exact he)
     simp(maxSteps:=400000)only[↓aA,aB,BEq.rfl,reduceIte,reduceCtorEq,Nat.reduceLT,reduceAdd,reduceSub,reduceMul,Nat.reduceBEq,reduceLeDiff,reduceToNat,reduceLE,hQ,Za,zb,hbn,↓dZ,hu,h0q,t1,z1,hgz,he',hgv,hbd]
     refine ⟨hnl,⟨by omega,by omega⟩,by omega,by omega,by omega,by omega,by omega,by omega,m,by omega,q++[(nm,v)],done.set b true,v1+1,v2+1,hs,?_⟩
     simp [OW,PV.putCells,PV.cells,List.map_set]
theorem XQ {d n k a b:Nat}{q:PV}{o':Obj}{l:List (Nat×PV)}{ob:List Obj}{o:Obj}(ha:a<n) (hb:b<n) (h1:ob[k]?=some o) (h2:o.live=true) (h3:jX l a=.aX k o.ver) (h4:jX l b=q) (h5:nN d k ⟨cO n l,ob⟩ o=o') (h6:eP [o']) (h7:q.atom=true):aaZ D d [.tmp a,.tmp b] [q] o' ⟨cO n l,ob⟩:=
 acQ h1 h2 (by simp only [iT,mV.2.1 n l a ha,mV.2.1 n l b hb,h3,h4]) h5 h6 (by simp [h7])
theorem II (names:List (List UInt8)) (l:List Vl) (hbad:dV names l.length=false) (hn:names.length≤1000000) (hl:l.length≤1000000) (hb:l.flatten.length≤1000000) (hne:∀ v ∈ l,v≠[]) (htx:∀ s ∈ names,s.length≤4611686018427387904):ah Tryz.prog 23 [cK names,dh l] [] (.bV [.sl 0 [] (some true),.int .i64 4]) []:=by
 refine n_.vG (T:=aO Tryz.prog [(46,dZ),(47,o7)]) 1 hD (aj (af rG (af Bl ai))) aT (by decide) (by decide) fun Q hQ=>?_
 have h:=vY names l hn hl hb hne htx Q _ hQ (fun _ t ob h1 h2=>by rw [h1,h2];rfl) (fun h=>by rw [hbad] at h;cases h)
 exact h
theorem Gw (names:List (List UInt8)) (l:List Vl) (hok:dV names l.length=true) (hn:names.length≤1000000) (hl:l.length≤1000000) (hb:l.flatten.length≤1000000) (hne:∀ v ∈ l,v≠[]) (htx:∀ s ∈ names,s.length≤4611686018427387904):ah Tryz.prog 23 [cK names,dh l] [] (.bV [.aX 0 0,.int .i64 0]) [Ei (gy names l) 0]:=by
 refine n_.Xb (qs:=[.int .i64 0]) (T:=aO Tryz.prog [(46,dZ),(47,o7)]) 1 hD (aj (af rG (af Bl ai))) aT (by decide) fun Q hQ=>?_
 have h:=vY names l hn hl hb hne htx Q _ hQ (fun h=>by rw [hok] at h;cases h) (fun _ t x y z h1 h2=>XQ (k:=3) (by decide) (by decide) rfl rfl h1 h2 (by simp only [nN,Ei,gI]) (mX _ 0) rfl)
 exact h
theorem Gx (names:List (List UInt8)) (l:List Vl) (hn:names.length≤1000000) (hl:l.length≤1000000) (hb:l.flatten.length≤1000000) (hne:∀ v ∈ l,v≠[]) (htx:∀ s ∈ names,s.length≤4611686018427387904):ah Tryz.prog 23 [cK names,dh l] [] (Ej names l) []:=by
 cases hok:dV names l.length with
 | false=>rw [show Ej names l=_ from by simp only [Ej,hok];rfl];exact II names l hok hn hl hb hne htx
 | true=>
  have h:=(Gw names l hok hn hl hb hne htx).Xc rfl rfl rfl (mX _ 0)
  rw [show Ej names l=.bV [aC (gy names l),.int .i64 0] from by simp only [Ej,hok];rfl]
  exact h
theorem Gy (names:List (List UInt8)) (l:List Vl):jY (Ej names l) (.bV [aC (gy names l),.int .i64 (BZ names l)]):=by
 unfold Ej gy BZ
 split
 · exact .refl _
 · exact aaX (.inr rfl) (mW 0 6) (.refl _)
theorem El (names:List (List UInt8)) (l:List Vl) (hn:names.length≤1000000) (hl:l.length≤1000000) (hb:l.flatten.length≤1000000) (hne:∀ v ∈ l,v≠[]) (htx:∀ s ∈ names,s.length≤4611686018427387904) :
  ah Tryz.prog 23 [cK names,dh l] [] (.bV [aC (gy names l),.int .i64 (BZ names l)]) []:=
 (Gx names l hn hl hb hne htx).res (Gy names l)
def oH:dF:=fun args objs K=>match args with
 | [a0,a1]=>f_ cK a0 (HK.mk:HK fun names=>f_ dh a1 (HK.mk:HK fun l=>(names.length≤1000000)∧(l.length≤1000000)∧(l.flatten.length≤1000000)∧(∀ v ∈ l,v≠[])∧(∀ s ∈ names,s.length≤4611686018427387904)∧K (.bV [aC (gy names l),.int .i64 (BZ names l)]) objs 0))
 | _=>False
theorem Em:aD Tryz.prog 23 (oH):=by
 intro args objs K h
 unfold oH at h
 split at h
 · rename_i a0 a1
   obtain ⟨names,rfl,l,rfl,h1,h2,h3,h4,h5,hk⟩:=h
   exact ⟨_,_,_,.pure _ rfl (El names l h1 h2 h3 h4 h5),hk⟩
 · exact h.elim
end Lp
set_option maxRecDepth 100000
namespace Lp
open Go Go.Proofs
set_option maxHeartbeats 4000000
theorem aN.aa6 {P:Program}{D:TypeId→aG}{T:Know}{f:FuncId}{n t u:Nat}{ty uy:TypeId}{C:LC}{args:List PV}{r:PV}(h:aN P f n [.cell t ty,.cell u uy] C) (d:Nat) (hD:∀ t,iH P t (D t)) (hT:FV P none sU T) (hm:P.follows .mixedOrders=true) (ht:t<n) (hu:u<n)
  (hw:∀ Q:Exit→St→Prop,(∀ l ob,Q .ret ⟨cO n l,ob⟩=eU (D ty) (jX l t) ob fun p _ _=>eU (D uy) (jX l u) ob fun q _ _=>r=.bV [gH d 0 ob p,gH d 0 ob q])→kr P D T C Q (bT args n)):ah P f args [] r []:=by
 refine h.pure d hD hT hm (by simp) (hw _ fun l ob=>?_)
 simp only [mh,iT,mV.2.1 n l t ht,mV.2.1 n l u hu,List.map_cons,List.map_nil,eO]
theorem eP.lt {O:List Obj}(h:eP O):jq O:=fun o ho x hx c hc=>by
 have:=h o ho x hx c hc
 cases c <;> first | rfl | (simp [PV.ref] at this)
end Lp
set_option maxRecDepth 100000
namespace Lp
open Go Go.Proofs Go.RowKit Go.Sort
set_option maxHeartbeats 4000000
def jC (ss:List (List UInt8)):List (List UInt8):=ss.mergeSort fun x y=>decide (x≤y)
theorem oI (ss:List (List UInt8)):(jC ss).length=ss.length:=List.length_mergeSort _
theorem acY {R:PV→Value→Prop}{p:PV}{vs:List Value}(h:b_ R [p] vs):∃ u,vs=[u]∧R p u:=by
 obtain ⟨hl,h⟩:=h
 match vs,hl with
 | [u],_=>exact ⟨u,rfl,h 0 _ _ rfl rfl⟩
theorem OX {w:World}{g:Nat}{cur:Array Value}{t:TypeId}(hg:w.heap[g]?=some (.cells cur t (0,0))) (o:Nat):w.frozen? ⟨g,o,none⟩=false:=by
 simp [World.frozen?,hg]
theorem Zb {α:Type}{l:List α}{k:Nat}{x:α}(h:l[k]?=some x):l.set k x=l:=by
 refine List.ext_getElem? fun i=>?_
 rw [List.getElem?_set]
 split
 · rename_i e
   subst e
   rw [if_pos (List.getElem?_eq_some_iff.1 h).1,h]
 · rfl
theorem XR {objs:List Obj}{k ver:Nat}(ss:List (List UInt8)) (h1:objs[k]?=some ⟨9,1,ss.map .str,true,ver⟩) (hl:ss.length≤1000000) :
  SG Tryz.prog 85 [.aX k ver] objs (.bV []) (objs.set k ⟨9,1,(jC ss).map .str,true,ver⟩):=by
 refine ⟨⟨_,Tryz.AP.f190,by kernel_rfl,by kernel_rfl⟩,by simp,fun base ak w0 tmps blk a w vs R hargs=>?_⟩
 obtain ⟨u,rfl,r⟩:=acY hargs
 have hh:=r.aX h1 rfl rfl
 have HZ:=R.objs.ob k _ h1 rfl
 unfold zQ at hh
 unfold bY at HZ
 cases hb:blk k with
 | none=>
  rw [hb] at hh
  obtain ⟨rfl,hx⟩:=hh
  have hx':ss.map PV.str=[]:=hx
  have hs:ss=[]:=List.map_eq_nil_iff.1 hx'
  subst hs
  refine (Any.slices_Sort_string_none Tryz.AP none 0 w).mono ?_
  rintro e w' ⟨h2,rfl⟩
  have hs0:jC []=[]:=List.mergeSort_nil
  have hset:objs.set k ⟨9,1,(jC []).map .str,true,ver⟩=objs:=by rw [hs0];exact Zb h1
  rw [hset]
  exact ⟨_,blk,h2,R,⟨[],rfl,rfl,fun i p v h=>by simp at h⟩⟩
 | some g=>
  rw [hb] at hh HZ
  obtain ⟨cap,c,hv,hc,h3,h4,h5⟩:=hh
  obtain ⟨c',hc',_,hcell⟩:=HZ
  obtain ⟨_,ec,_,_⟩:=P_ (hc'.symm.trans hc |> Option.some.inj)
  rw [ec] at hcell
  clear hc' ec
  have hv2:u=.slice (some ⟨g,0,none⟩) ss.length cap:=by rw [hv];simp
  clear hv
  subst hv2
  simp only [Nat.mul_one] at h5
  have hg:=(Array.getElem?_eq_some_iff.1 hc).1
  have hsl:(ss.map PV.str).length=ss.length:=List.length_map ..
  have hcl:∀ (j:Nat) (x:List UInt8),ss[j]?=some x→c[j]?=some (encStr x):=fun j x hx=>by
   obtain ⟨_,h⟩:=hcell j (.str x) (by simp only [List.getElem?_map,hx];rfl)
   obtain ⟨v,h6,h7⟩:=h 0 (.str x) rfl
   cases h7
   simpa using h6
  have hH:Holds encStr w g 0 ss.toArray:=fun j hj=>by
   have hj':j<ss.length:=by simpa using hj
   refine ⟨?_,OX hc _⟩
   have e:=hcl j ss[j] (List.getElem?_eq_getElem hj')
   have e2:ss.toArray[j]! =ss[j]:=by rw [getElem!_pos _ j (by simpa using hj')];simp
   rw [e2,Nat.zero_add]
   simp only [World.cell?,hc]
   exact e
  refine (Any.slices_Sort_string Tryz.AP g 0 cap ss w hH hg (by omega)).mono ?_
  rintro e W ⟨h6,n,os,hW⟩
  have hW:W=grow (putRow encStr (ahead w n) g 0 (jC ss).toArray) os:=hW
  have h3':ss.length≤cap:=by simpa using h3
  have hsz:(jC ss).length≤c.size:=by rw [oI];omega
  have hheap:W.heap[g]?=some (.cells (putCells encStr 0 (jC ss).toArray c) 9 (0,0)):=by
   rw [hW]
   simp only [grow,putRow,mapBlock,heap_ahead]
   rw [Array.getElem?_append_left (by simpa using hg),Array.getElem?_modify,if_pos rfl,hc]
   rfl
  have hoth:∀ b z,g≠b→w.heap[b]?=some z→W.heap[b]?=some z:=fun b z hb hz=>by
   rw [hW]
   have hbl:=(Array.getElem?_eq_some_iff.1 hz).1
   simp only [grow,putRow,mapBlock,heap_ahead]
   rw [Array.getElem?_append_left (by simpa using hbl),Array.getElem?_modify,if_neg hb,hz]
  have hput:∀ (j:Nat) (x:List UInt8),(jC ss)[j]?=some x→(putCells encStr 0 (jC ss).toArray c)[j]?=some (encStr x):=fun j x hx=>by
   have hj:=(List.getElem?_eq_some_iff.1 hx).1
   unfold putCells
   rw [Array.getElem?_mapIdx,Array.getElem?_eq_getElem (by omega:j<c.size)]
   simp only [Option.map_some,Nat.zero_le,true_and,Nat.zero_add,List.size_toArray,hj,if_true,Nat.sub_zero]
   rw [getElem!_pos _ j (by simpa using hj)]
   obtain ⟨_,rfl⟩:=List.getElem?_eq_some_iff.1 hx
   simp
  have hWs:w.heap.size≤W.heap.size:=by rw [hW];simp [grow]
  have hWo:W.os=w.os∧W.output=w.output:=by rw [hW];exact ⟨rfl,rfl⟩
  refine ⟨_,aI blk k (blk k),h6,?_,⟨[],rfl,rfl,fun i p v h=>by simp at h⟩⟩
  refine R.setObj (o':=⟨9,1,(jC ss).map .str,true,ver⟩) hWo h1 rfl rfl hWs ?_ (fun g' hg'=>.inl hg') (Nat.le_refl _) ?_ ?_
  · intro b z hbz hz
    exact hoth b z (fun e=>hbz (by rw [hb,e])) hz
  · intro _
    refine ⟨rfl,rfl,rfl,fun _=>by simp [oI],fun g' c' hg' hc'=>?_⟩
    rw [hb] at hg';cases hg'
    rw [hc] at hc';cases hc'
    exact ⟨_,hheap,by unfold putCells;simp⟩
  · intro hmono
    unfold bY
    have hbk:aI blk k (blk k) k=some g:=by unfold aI;rw [if_pos rfl,hb]
    rw [hbk]
    have hMT:9≠MT:=by decide
    refine ⟨_,(by rw [jS hMT];exact hheap),qi hMT (by simp [putCells,oI];omega),fun i' x' hx'=>?_⟩
    rw [List.getElem?_map] at hx'
    cases hi:(jC ss)[i']? with
    | none=>rw [hi] at hx';simp at hx'
    | some x=>
     rw [hi] at hx'
     simp only [Option.map_some,Option.some.injEq] at hx'
     subst hx'
     refine ⟨rfl,fun j p hp=>?_⟩
     match j,hp with
     | 0,hp=>
      cases hp
      exact ⟨_,by simpa using hput i' x hi,.aJ (.str x)⟩
     | _+1,hp=>simp [PV.cells] at hp
end Lp
set_option maxRecDepth 100000
namespace Lp
open Go Go.Proofs Go.RowKit
open List (mem_singleton)
open Nat (reduceAdd reduceLeDiff reduceMul reduceSub)
open Int (reduceLE reduceToNat)
set_option maxHeartbeats 4000000
theorem aao:∀ x y:List UInt8,x<y↔Op.bytesLess x y=true
 | [],[]=>by simp [Op.bytesLess]
 | [],b::y=>by simp [Op.bytesLess]
 | a::x,[]=>by simp [Op.bytesLess]
 | a::x,b::y=>by
  have ih:=aao x y
  rw [List.cons_lt_cons_iff,ih]
  simp only [Op.bytesLess]
  by_cases h1:a<b
  · simp [h1]
  · by_cases h2:a=b
    · subst h2;simp [h1]
    · simp [h1,h2]
theorem Tz (x y:List UInt8):decide (x≤y)=!Op.bytesLess y x:=by
 have:x≤y↔¬ y<x:=Iff.rfl
 rw [Bool.eq_iff_iff,decide_eq_true_iff,this,aao]
 simp
theorem tO (ss:List (List UInt8)):(jC ss).Perm ss:=List.mergeSort_perm ..
theorem Rs {ss:List (List UInt8)}(h:ss.Nodup):qa (jC ss):=by
 have h1:(jC ss).Pairwise fun x y=>decide (x≤y)=true:=List.pairwise_mergeSort
  (fun a b c h1 h2=>by
   rw [Tz,Bool.not_eq_true'] at *
   cases h:Op.bytesLess c a with
   | false=>rfl
   | true=>
    rcases uU a b with g | g | g
    · rw [kD _ _ _ h g] at h2;cases h2
    · subst g;rw [h] at h2;cases h2
    · rw [g] at h1;cases h1)
  (fun a b=>by
   rw [Tz,Tz]
   cases h:Op.bytesLess b a with
   | false=>rfl
   | true=>rw [kE _ _ h];rfl) ss
 have h2:(jC ss).Nodup:=(tO ss).nodup_iff.2 h
 refine List.Pairwise.imp ?_ (h1.and h2)
 rintro a b ⟨h3,h4⟩
 rw [Tz] at h3
 rcases uU a b with g | g | g
 · exact g
 · exact absurd g h4
 · rw [g] at h3;cases h3
theorem OY (l:List (List UInt8)):ah Tryz.prog 58 [cK l] [] (.fn 86 [] [.addr (cK l)]) []:=by
 refine lS.aZ (T:=aO Tryz.prog []) 1 hD (aj ai) aT (by decide) fun Q hQ=>?_
 (conv=>arg 4;cbv);simp(maxSteps:=400000)only[↓aA,aB,BEq.rfl,reduceIte,reduceCtorEq,Nat.reduceLT,reduceAdd,reduceSub,reduceMul,Nat.reduceBEq,reduceLeDiff,reduceToNat,reduceLE,hQ]
 rfl
def Gz (l:List (List UInt8)):PV:=.fn 86 [] [.addr (cK l)]
theorem GA:∀ a b,Gz a=Gz b→a=b:=by
 intro a b h
 simp only [Gz,PV.fn.injEq,List.cons.injEq,PV.addr.injEq,and_true,true_and] at h
 exact vJ _ _ h
theorem seqB:type_of% (aM GA):=aM GA
def w_:dF:=fun args objs K=>match args with
 | [a0]=>f_ cK a0 (HK.mk:HK fun l=>K (Gz l) objs 0)
 | _=>False
theorem LH:aD Tryz.prog 58 (w_):=by
 intro args objs K h
 unfold w_ at h
 split at h
 · rename_i a0
   obtain ⟨l,rfl,hk⟩:=h
   exact ⟨_,_,_,.pure _ rfl (OY l),hk⟩
 · exact h.elim
theorem yj (l:List (List UInt8)) (hl:l.length≤1000000):Gives Tryz.prog 86 [.addr (cK l)] (l.map fun s=>[.str s]):=by
 refine kS.gives (fnT:=sV []) hD ai aT ?_
 intro I J objs y hI Hl VQ
 (conv=>arg 4;cbv);simp(maxSteps:=400000)only[↓aA,aB,BEq.rfl,reduceIte,reduceCtorEq,Nat.reduceLT,reduceAdd,reduceSub,reduceMul,Nat.reduceBEq,reduceLeDiff,reduceToNat,reduceLE]
 refine aF (fun m S=>∃ (i:Nat) (O:List Obj),i+m=l.length∧I i O∧S=⟨cO 16 [(0,.D8 y),(5,cK l),(6,.int .i64 l.length),(7,.int .i64 i)],O⟩) l.length ⟨0,objs,by omega,hI,?_⟩ ?_
 · simp only [bI,keepR,reduceAdd,kT,Nat.reduceBEq,List.map_nil]
   rfl
 rintro m S ⟨i,O,him,hIi,rfl⟩
 rcases Nat.lt_or_ge i l.length with h | h
 · have hlt:((i:Int)<(l.length:Int))=True:=eq_true (by omega)
   have zi:(0≤(i:Int))=True:=eq_true (by omega)
   have hgi:=List.getElem?_eq_getElem h
   generalize l[i]=s at hgi
   simp(maxSteps:=400000)only[↓aA,aB,BEq.rfl,reduceIte,reduceCtorEq,Nat.reduceLT,reduceAdd,reduceSub,reduceMul,Nat.reduceBEq,reduceLeDiff,reduceToNat,reduceLE,hlt,zi,hgi,VP]
   refine ⟨rfl,i,hIi,by rw [hgi];rfl,fun O' hI'=>⟨⟨by omega,by omega⟩,m-1,by omega,i+1,O',by omega,hI',rfl⟩,fun O' hJ'=>⟨.inr rfl,.inr ⟨i,h,hJ'⟩⟩⟩
 · have hlt:((i:Int)<(l.length:Int))=False:=eq_false (by omega)
   simp(maxSteps:=400000)only[↓aA,aB,BEq.rfl,reduceIte,reduceCtorEq,Nat.reduceLT,reduceAdd,reduceSub,reduceMul,Nat.reduceBEq,reduceLeDiff,reduceToNat,reduceLE,hlt]
   have hi:i=l.length:=by omega
   subst hi
   exact ⟨.inl rfl,.inl hIi⟩
theorem DT (l:List (List UInt8)):∀ y ∈ l.map (fun s=>[PV.str s]),y.length=1:=by
 intro y hy
 obtain ⟨p,_,rfl⟩:=List.mem_map.1 hy
 rfl
theorem OZ {l:List (List UInt8)}{i:Nat}{args:List PV}(h:(l.map fun s=>[PV.str s])[i]?=some args):∃ s,l[i]?=some s∧args=[.str s]:=by
 rw [List.getElem?_map] at h
 cases hx:l[i]? with
 | none=>rw [hx] at h;simp at h
 | some p=>rw [hx] at h;exact ⟨p,rfl,by simpa using h.symm⟩
def acZ (l:List (List UInt8)) (i:Nat):List Obj→Prop:=fun O=>
 (i=0∧O=[⟨49,1,[.sl 0 [] (some true)],true,1⟩])∨(0<i∧∃ ver,O=[⟨49,1,[.aX 1 ver],true,1⟩,⟨9,1,(l.take i).map .str,true,ver⟩])
theorem EW (l:List (List UInt8)){ver:Nat}:eP [⟨9,1,l.map .str,true,ver⟩]:=by
 intro o ho x hx c hc
 simp only [mem_singleton] at ho;subst ho
 obtain ⟨p,_,rfl⟩:=List.mem_map.1 hx
 simp only [PV.cells,mem_singleton] at hc;subst hc;rfl
theorem GD (l:List (List UInt8)) (h0:l≠[]) (hl:l.length≤1000000):ah Tryz.prog 108 [.sl 0 [] (some true),.fn 86 [] [.addr (cK l)]] [] (.aX 0 0) [⟨9,1,l.map .str,true,0⟩]:=by
 refine fZ.JK (T:=aO Tryz.prog []) 0 hD (aj ai) aT fun Q hQ=>?_
 (conv=>arg 4;cbv);simp(maxSteps:=400000)only[↓aA,aB,BEq.rfl,reduceIte,reduceCtorEq,Nat.reduceLT,reduceAdd,reduceSub,reduceMul,Nat.reduceBEq,reduceLeDiff,reduceToNat,reduceLE,hQ]
 refine FX 86 [.addr (cK l)] (l.map fun s=>[.str s]) (fun i O=>acZ l i O∧i≤l.length) rfl rfl rfl trivial (yj l hl) (DT l) ⟨.inl ⟨rfl,rfl⟩,Nat.zero_le _⟩ ?_ ?_ ?_
 · rintro i O ⟨⟨_,rfl⟩ | ⟨_,ver,rfl⟩,_⟩
   · refine ⟨Nat.le_refl _,?_⟩
     intro o ho x hx c hc
     simp only [mem_singleton] at ho;subst ho
     simp only [mem_singleton] at hx;subst hx
     simp only [PV.cells,mem_singleton] at hc;subst hc;rfl
   · refine ⟨by simp,?_⟩
     intro o ho x hx c hc
     simp only [List.mem_cons,List.not_mem_nil,or_false] at ho
     rcases ho with rfl | rfl
     · simp only [mem_singleton] at hx;subst hx
       simp only [PV.cells,mem_singleton] at hc;subst hc;rfl
     · obtain ⟨p,_,rfl⟩:=List.mem_map.1 hx
       simp only [PV.cells,mem_singleton] at hc;subst hc;rfl
 · rintro i args O ⟨hO,hi⟩ ha
   obtain ⟨s,hs,rfl⟩:=OZ ha
   have hil:=(List.getElem?_eq_some_iff.1 hs).1
   have htk:l.take (i+1)=l.take i++[s]:=by rw [List.take_add_one,hs];rfl
   rcases hO with ⟨rfl,rfl⟩ | ⟨h1,ver,rfl⟩
   · simp(maxSteps:=400000)only[↓aA,aB,BEq.rfl,reduceIte,reduceCtorEq,Nat.reduceLT,reduceAdd,reduceSub,reduceMul,Nat.reduceBEq,reduceLeDiff,reduceToNat,reduceLE,hQ,qf,knI]
     exact ⟨.inr ⟨by omega,1,by rw [htk];rfl⟩,by omega⟩
   · simp(maxSteps:=400000)only[↓aA,aB,BEq.rfl,reduceIte,reduceCtorEq,Nat.reduceLT,reduceAdd,reduceSub,reduceMul,Nat.reduceBEq,reduceLeDiff,reduceToNat,reduceLE,hQ,qf,knI]
     have:=List.length_take_le i l
     exact ⟨by omega,by omega,.inr ⟨by omega,ver+1,by rw [htk,List.map_append];rfl⟩,by omega⟩
 · rintro O ⟨hO,_⟩
   rw [List.length_map] at hO
   rcases hO with ⟨h1,rfl⟩ | ⟨h1,ver,rfl⟩
   · exact absurd (List.length_eq_zero_iff.1 h1) h0
   · simp(maxSteps:=400000)only[↓aA,aB,BEq.rfl,reduceIte,reduceCtorEq,Nat.reduceLT,reduceAdd,reduceSub,reduceMul,Nat.reduceBEq,reduceLeDiff,reduceToNat,reduceLE,hQ]
     refine QB (k:=1) (ver:=ver) rfl rfl rfl rfl ?_ (EW l)
     simp only [fO,List.take_length]
     rw [pR PV.str fun _=>rfl]
theorem IJ:ah Tryz.prog 108 [.sl 0 [] (some true),.fn 86 [] [.addr (cK [])]] [] (.sl 0 [] (some true)) []:=by
 refine fZ.aZ (T:=aO Tryz.prog []) 0 hD (aj ai) aT (by decide) fun Q hQ=>?_
 (conv=>arg 4;cbv);simp(maxSteps:=400000)only[↓aA,aB,BEq.rfl,reduceIte,reduceCtorEq,Nat.reduceLT,reduceAdd,reduceSub,reduceMul,Nat.reduceBEq,reduceLeDiff,reduceToNat,reduceLE,hQ]
 refine FX 86 [.addr (cK [])] ([].map fun s=>[PV.str s]) (fun i O=>i≤0∧O=[⟨49,1,[.sl 0 [] (some true)],true,1⟩]) rfl rfl rfl trivial (yj [] (by simp)) (DT []) ⟨Nat.le_refl _,rfl⟩ ?_ ?_ ?_
 · rintro i O ⟨_,rfl⟩
   refine ⟨Nat.le_refl _,?_⟩
   intro o ho x hx c hc
   simp only [mem_singleton] at ho;subst ho
   simp only [mem_singleton] at hx;subst hx
   simp only [PV.cells,mem_singleton] at hc;subst hc;rfl
 · rintro i args O _ ha
   simp at ha
 · rintro O ⟨_,rfl⟩
   simp(maxSteps:=400000)only[↓aA,aB,BEq.rfl,reduceIte,reduceCtorEq,Nat.reduceLT,reduceAdd,reduceSub,reduceMul,Nat.reduceBEq,reduceLeDiff,reduceToNat,reduceLE,hQ]
def za:dF:=fun args objs K=>∃ l:List (List UInt8),args=[.sl 0 [] (some true),.fn 86 [] [.addr (cK l)]]∧l≠[]∧l.length≤1000000∧K (.aX objs.length 0) (objs++[⟨9,1,l.map .str,true,0⟩]) 2
theorem IK:aD Tryz.prog 108 za:=by
 rintro args objs K ⟨l,rfl,h0,h1,hk⟩
 exact ⟨_,_,_,lM.made (objs:=objs) _ _ rfl (EW l) (GD l h0 h1),by simpa [PV.shift,PV.pz] using hk⟩
def tQ:dF:=fun args objs K=>match args with
 | [a0,a1]=>a0=(.sl 0 [] (some true))∧a1=(.fn 86 [] [.addr (cK [])])∧K (.sl 0 [] (some true)) objs 0
 | _=>False
theorem IL:aD Tryz.prog 108 (tQ):=by
 intro args objs K h
 unfold tQ at h
 split at h
 · rename_i a0 a1
   obtain ⟨rfl,rfl,hk⟩:=h
   exact ⟨_,_,_,.pure _ rfl (IJ),hk⟩
 · exact h.elim
theorem LJ (l:List (List UInt8)) (h0:l≠[]) (hl:l.length≤1000000):ah Tryz.prog 84 [.fn 86 [] [.addr (cK l)]] [] (.aX 0 0) [⟨9,1,l.map .str,true,0⟩]:=by
 refine kI.JK (T:=aO Tryz.prog [(108,za)]) 0 hD (aj (af IK ai)) aT fun Q hQ=>?_
 (conv=>arg 4;cbv);simp(maxSteps:=400000)only[↓aA,aB,BEq.rfl,reduceIte,reduceCtorEq,Nat.reduceLT,reduceAdd,reduceSub,reduceMul,Nat.reduceBEq,reduceLeDiff,reduceToNat,reduceLE,hQ,↓za]
 refine ⟨l,rfl,h0,hl,QB (k:=0) (ver:=0) rfl rfl rfl rfl ?_ (EW l)⟩
 simp only [fO]
 rw [pR PV.str fun _=>rfl]
def vZ:dF:=fun args objs K=>∃ l:List (List UInt8),args=[.fn 86 [] [.addr (cK l)]]∧l≠[]∧l.length≤1000000∧K (.aX objs.length 0) (objs++[⟨9,1,l.map .str,true,0⟩]) 2
theorem GH:aD Tryz.prog 84 vZ:=by
 rintro args objs K ⟨l,rfl,h0,h1,hk⟩
 exact ⟨_,_,_,lM.made (objs:=objs) _ _ rfl (EW l) (LJ l h0 h1),by simpa [PV.shift,PV.pz] using hk⟩
def GI:dF:=fun args objs K=>∃ (k ver:Nat) (ss:List (List UInt8)),args=[.aX k ver]∧objs[k]?=some ⟨9,1,ss.map .str,true,ver⟩∧ss.length≤1000000∧K (.bV []) (objs.set k ⟨9,1,(jC ss).map .str,true,ver⟩) 2
theorem O0:aD Tryz.prog 85 GI:=by
 rintro args objs K ⟨k,ver,ss,rfl,h1,h2,hk⟩
 exact ⟨_,_,_,.used _ _ (XR ss h1 h2),hk⟩
theorem O1:ah Tryz.prog 84 [.fn 86 [] [.addr (cK [])]] [] (.sl 0 [] (some true)) []:=by
 refine kI.aZ (T:=aO Tryz.prog [(108,tQ)]) 0 hD (aj (af IL ai)) aT (by decide) fun Q hQ=>?_
 (conv=>arg 4;cbv);simp(maxSteps:=400000)only[↓aA,aB,BEq.rfl,reduceIte,reduceCtorEq,Nat.reduceLT,reduceAdd,reduceSub,reduceMul,Nat.reduceBEq,reduceLeDiff,reduceToNat,reduceLE,hQ,↓tQ]
def qz:dF:=fun args objs K=>match args with
 | [a0]=>a0=(.fn 86 [] [.addr (cK [])])∧K (.sl 0 [] (some true)) objs 0
 | _=>False
theorem GJ:aD Tryz.prog 84 (qz):=by
 intro args objs K h
 unfold qz at h
 split at h
 · rename_i a0
   obtain ⟨rfl,hk⟩:=h
   exact ⟨_,_,_,.pure _ rfl (O1),hk⟩
 · exact h.elim
theorem LK:ah Tryz.prog 85 [.sl 0 [] (some true)] [] (.bV []) []:=by
 refine ah.oz ⟨_,Tryz.AP.f190,by kernel_rfl,by kernel_rfl⟩ fun w vs ok hg hr=>?_
 obtain ⟨u,rfl,h⟩:=Y2 hr
 have hu:u=.slice none 0 0:=by
  cases h with
  | slnil=>rfl
  | Hw _ _ hq=>exact absurd rfl hq
  | sl _ _ _ hq=>exact absurd rfl hq
 subst hu
 refine (Any.slices_Sort_string_none Tryz.AP none 0 w).mono ?_
 rintro e w' ⟨h1,rfl⟩
 exact ⟨_,h1,fun w ok=>.bV _ _ rfl (fun i p v h=>by simp at h),.refl _ _⟩
def Bn:dF:=fun args objs K=>match args with
 | [a0]=>a0=(.sl 0 [] (some true))∧K (.bV []) objs 0
 | _=>False
theorem O3:aD Tryz.prog 85 (Bn):=by
 intro args objs K h
 unfold Bn at h
 split at h
 · rename_i a0
   obtain ⟨rfl,hk⟩:=h
   exact ⟨_,_,_,.pure _ rfl (LK),hk⟩
 · exact h.elim
theorem O4 (l:List (List UInt8)) (hl:l.length≤1000000):ah Tryz.prog 57 [.fn 86 [] [.addr (cK l)]] [] (cK (jC l)) []:=by
 by_cases h0:l=[]
 · subst h0
   refine ah.res (r:=.sl 0 [] (some true)) ?_ (by have:jC []=[]:=List.mergeSort_nil;rw [this];exact mW 0 1)
   refine lg.aZ (T:=aO Tryz.prog [(84,qz),(85,Bn)]) 0 hD (aj (af GJ (af O3 ai))) aT (by decide) fun Q hQ=>?_
   (conv=>arg 4;cbv);simp(maxSteps:=400000)only[↓aA,aB,BEq.rfl,reduceIte,reduceCtorEq,Nat.reduceLT,reduceAdd,reduceSub,reduceMul,Nat.reduceBEq,reduceLeDiff,reduceToNat,reduceLE,hQ,↓qz,↓Bn]
 refine lg.aZ (T:=aO Tryz.prog [(84,vZ),(85,GI)]) 1 hD (aj (af GH (af O0 ai))) aT (by decide) fun Q hQ=>?_
 (conv=>arg 4;cbv);simp(maxSteps:=400000)only[↓aA,aB,BEq.rfl,reduceIte,reduceCtorEq,Nat.reduceLT,reduceAdd,reduceSub,reduceMul,Nat.reduceBEq,reduceLeDiff,reduceToNat,reduceLE,hQ,↓vZ]
 refine ⟨l,rfl,h0,hl,?_⟩
 simp(maxSteps:=400000)only[↓aA,aB,BEq.rfl,reduceIte,reduceCtorEq,Nat.reduceLT,reduceAdd,reduceSub,reduceMul,Nat.reduceBEq,reduceLeDiff,reduceToNat,reduceLE,hQ,↓GI]
 refine ⟨0,0,l,rfl,rfl,hl,?_⟩
 simp only [List.set_cons_zero,eY,Nat.not_lt_zero,if_false,fM,List.getElem?_cons_zero,Nat.le_refl,decide_true,Bool.true_and,beq_self_eq_true,if_true]
 rw [pR PV.str fun _=>rfl]
 rfl
def xg:dF:=fun args objs K=>match args with
 | [a0]=>f_ Gz a0 (HK.mk:HK fun l=>(l.length≤1000000)∧K (cK (jC l)) objs 0)
 | _=>False
theorem LM:aD Tryz.prog 57 (xg):=by
 intro args objs K h
 unfold xg at h
 split at h
 · rename_i a0
   obtain ⟨l,rfl,h1,hk⟩:=h
   exact ⟨_,_,_,.pure _ rfl (O4 l h1),hk⟩
 · exact h.elim
end Lp
set_option maxRecDepth 100000
namespace Lp
open Go Go.Proofs
open List (getElem_mem map_append map_cons map_fst_zip map_id map_map map_nil take_add_one)
open Nat (lt_or_ge reduceAdd reduceLeDiff reduceMul reduceSub zero_le)
open Int (reduceLE reduceToNat)
set_option maxHeartbeats 4000000
def Vo (x:List UInt8×Vl):PV:=.agg [.str x.1,aC x.2]
def GK (q:wB):Obj:=⟨MT,2,q.map Vo,true,1⟩
theorem O5 (P:Program) (D:TypeId→aG) (T:Know) (w pt:Bool) (ev:Operand→PV) (objs:List Obj) (K:KT) :
  (∀ t x ix ok,lu P D T w pt ev objs (.lookup t x ix ok) K=jA D t (ev x) (ev ix) ok objs K)∧
  (∀ t x y z,lu P D T w pt ev objs (.mapUpdate t x y z) K=gG D t (ev x) (ev y) (ev z) objs K)∧
  (∀ t,lu P D T w pt ev objs (.makeMap t none) K=kF D t objs K):=⟨fun _ _ _ _=>rfl,fun _ _ _ _=>rfl,fun _=>rfl⟩
theorem CY (ti:aG):(∀ i v,found ti (some (i,v)) true=.bV [v,.bool true])∧(∀ i v,found ti (some (i,v)) false=v)∧(found ti none true=.bV [aK ti,.bool false])∧(found ti none false=aK ti):=⟨fun _ _=>rfl,fun _ _=>rfl,rfl,rfl⟩
theorem ze {nm:List UInt8}:∀ (q:wB) (i:Nat),nm ∉ q.map (·.1)→qZ .str (.str nm) (q.map Vo) i=some none
 | [],_,_=>rfl
 | x::q,i,h=>by
  simp only [map_cons,List.mem_cons,not_or] at h
  have:PY .str (.str nm) (.str x.1)=some false:=by simp [PY,h.1]
  simp only [map_cons,Vo,qZ,this]
  exact ze q (i+1) h.2
theorem zh {nm:List UInt8}{v:Vl}:∀ (q:wB) (i:Nat),qU q nm=some v→∃ j,qZ .str (.str nm) (q.map Vo) i=some (some (j,aC v))
 | [],_,h=>by simp [qU] at h
 | x::q,i,h=>by
  by_cases e:x.1=nm
  · have hk:PY .str (.str nm) (.str x.1)=some true:=by simp [PY,e]
    have hv:x.2=v:=by simpa [qU,e] using h
    refine ⟨i,?_⟩
    simp only [map_cons,Vo,qZ,hk,hv]
  · have hk:PY .str (.str nm) (.str x.1)=some false:=by simp [PY];exact fun h=>e h.symm
    have h':qU q nm=some v:=by simpa [qU,e] using h
    obtain ⟨j,hj⟩:=zh q (i+1) h'
    refine ⟨j,?_⟩
    simp only [map_cons,Vo,qZ,hk]
    exact hj
theorem Ru {names:List (List UInt8)}{l:List Vl}(h:dV names l.length=true):((jC names).map fun nm=>(nm,(qU (names.zip l) nm).getD []))=D5 (names.zip l)∧∀ nm ∈ names,∃ v,qU (names.zip l) nm=some v∧v ∈ l:=by
 obtain ⟨h1,h2,h3⟩:=g_.1 h
 have xN:(names.zip l).map (·.1)=names:=map_fst_zip (by omega)
 have hget:∀ nm ∈ names,∃ v,qU (names.zip l) nm=some v∧v ∈ l:=fun nm hm=>by
  cases hg:qU (names.zip l) nm with
  | none=>rw [BU,xN] at hg;exact absurd hm hg
  | some v=>exact ⟨v,rfl,(List.of_mem_zip (BV hg)).2⟩
 refine ⟨Df h ?_ fun x=>?_,hget⟩
 · rw [map_map]
   have:(Prod.fst ∘ fun nm=>(nm,(qU (names.zip l) nm).getD []))=id:=rfl
   show qa (List.map (Prod.fst ∘ fun nm=>(nm,(qU (names.zip l) nm).getD [])) (jC names))
   rw [this,map_id]
   exact Rs h2
 · constructor
   · intro hx
     obtain ⟨nm,hn,rfl⟩:=List.mem_map.1 hx
     obtain ⟨v,hv,_⟩:=hget nm ((tO names).mem_iff.1 hn)
     rw [hv]
     exact BV hv
   · intro hx
     have hg:=VT (by rw [xN];exact h2) hx
     refine List.mem_map.2 ⟨x.1,(tO names).mem_iff.2 (by rw [← xN];exact List.mem_map.2 ⟨x,hx,rfl⟩),?_⟩
     rw [hg];rfl
theorem IQ (names:List (List UInt8)) (l:List Vl) (hbad:dV names l.length=false) (hn:names.length≤1000000) (htx:∀ s ∈ names,s.length≤4611686018427387904):ah Tryz.prog 31 [cK names,dh l] [] (.bV [.sl 0 [] (some true),.int .i64 4]) []:=by
 by_cases hp:names.length=l.length
 rotate_left 1
 · skip
   refine sZ.vG (T:=aO Tryz.prog []) 1 hD (aj ai) aT (by decide) (by decide) fun Q hQ=>?_
   have hl':((names.length:Int)=(l.length:Int))=False:=eq_false (by omega)
   (conv=>arg 4;cbv);simp(maxSteps:=400000)only[↓aA,aB,BEq.rfl,reduceIte,reduceCtorEq,Nat.reduceLT,reduceAdd,reduceSub,reduceMul,Nat.reduceBEq,reduceLeDiff,reduceToNat,reduceLE,hQ,hl']
 have hl':((names.length:Int)=(l.length:Int))=True:=eq_true (by omega)
 refine sZ.vG (T:=aO Tryz.prog [(56,cB)]) 1 hD (aj (af oC ai)) aT (by decide) (by decide) fun Q hQ=>?_
 (conv=>arg 4;cbv);simp(maxSteps:=400000)only[↓aA,aB,BEq.rfl,reduceIte,reduceCtorEq,Nat.reduceLT,reduceAdd,reduceSub,reduceMul,Nat.reduceBEq,reduceLeDiff,reduceToNat,reduceLE,hQ,hl',↓O5,kF]
 refine aF (fun m S=>∃ i:Nat,i+m=names.length∧(names.take i).Nodup∧(∀ x ∈ names.take i,utf x=true)∧S=⟨cO 66 [(0,cK names),(1,dh l),(6,.su 0 1),(21,cK names),(22,.int .i64 names.length),(23,.int .i64 i)],[GK ((names.zip l).take i)]⟩) names.length ⟨0,by omega,by simp,by simp,?_⟩ ?_
 · simp only [bI,keepR,reduceAdd,kT,Nat.reduceBEq,map_nil]
   rfl
 rintro m S ⟨i,him,hnd,hut,rfl⟩
 rcases lt_or_ge i names.length with h | h
 · have hlt:((i:Int)<(names.length:Int))=True:=eq_true (by omega)
   have zi:(0≤(i:Int))=True:=eq_true (by omega)
   have hgi:=List.getElem?_eq_getElem h
   have hgl:l[i]?=some (l[i]'(by omega)):=List.getElem?_eq_getElem _
   have hx:=htx _ (getElem_mem h)
   generalize names[i]=nm at hgi hx
   generalize l[i]'(by omega)=v at hgl
   have hgz:(names.zip l)[i]?=some (nm,v):=by rw [List.getElem?_zip_eq_some];exact ⟨hgi,hgl⟩
   have htk:names.take (i+1)=names.take i++[nm]:=by rw [take_add_one,hgi];rfl
   have htz:(names.zip l).take (i+1)=(names.zip l).take i++[(nm,v)]:=by rw [take_add_one,hgz];rfl
   have xN:((names.zip l).take i).map (·.1)=names.take i:=by rw [List.map_take,map_fst_zip (by omega)]
   by_cases hin:nm ∈ names.take i
   · skip
     obtain ⟨v',hv'⟩:∃ v',qU ((names.zip l).take i) nm=some v':=by
      cases hg:qU ((names.zip l).take i) nm with
      | none=>rw [BU,xN] at hg;exact absurd hin hg
      | some v'=>exact ⟨v',rfl⟩
     obtain ⟨j,hj⟩:=zh _ 0 hv'
     unfold GK
     simp(maxSteps:=400000)only[↓aA,aB,BEq.rfl,reduceIte,reduceCtorEq,Nat.reduceLT,reduceAdd,reduceSub,reduceMul,Nat.reduceBEq,reduceLeDiff,reduceToNat,reduceLE,hQ,hlt,zi,hgi,↓O5,jA,hj,CY,bN,true_or]
   · have hmf:=ze ((names.zip l).take i) 0 (by rw [xN];exact hin)
     cases hu:utf nm
     · unfold GK
       simp(maxSteps:=400000)only[↓aA,aB,BEq.rfl,reduceIte,reduceCtorEq,Nat.reduceLT,reduceAdd,reduceSub,reduceMul,Nat.reduceBEq,reduceLeDiff,reduceToNat,reduceLE,hQ,hlt,zi,hgi,↓cB,hu,↓O5,jA,hmf,CY,bN,true_or]
       exact hx
     · unfold GK
       simp(maxSteps:=400000)only[↓aA,aB,BEq.rfl,reduceIte,reduceCtorEq,Nat.reduceLT,reduceAdd,reduceSub,reduceMul,Nat.reduceBEq,reduceLeDiff,reduceToNat,reduceLE,hQ,hlt,zi,hgi,hgl,↓cB,hu,↓O5,jA,gG,hmf,CY,bN,true_or,D_]
       refine ⟨hx,⟨by omega,by omega⟩,m-1,by omega,i+1,by omega,?_,fun x hx=>?_,?_⟩
       · rw [htk,List.nodup_append]
         refine ⟨hnd,by simp,fun a ha b hb=>?_⟩
         simp only [List.mem_singleton] at hb
         subst hb
         rintro rfl;exact hin ha
       · rw [htk] at hx
         rcases List.mem_append.1 hx with hx | hx
         · exact hut x hx
         · simp only [List.mem_singleton] at hx
           subst hx;exact hu
       · rw [htz,map_append];rfl
 rw [List.take_of_length_le h] at hnd hut
 rw [g_.2 ⟨hp,hnd,hut⟩] at hbad
 cases hbad
theorem GL (names:List (List UInt8)) (l:List Vl) (hok:dV names l.length=true) (hn:names.length≤1000000) (hb:l.flatten.length≤1000000) (hne:∀ v ∈ l,v≠[]) (htx:∀ s ∈ names,s.length≤4611686018427387904):ah Tryz.prog 31 [cK names,dh l] [] (.bV [.aX 0 0,.int .i64 0]) [Ei (gy names l) 0]:=by
 obtain ⟨hp,hnd,hut⟩:=g_.1 hok
 have hl':((names.length:Int)=(l.length:Int))=True:=eq_true (by omega)
 obtain ⟨hsrt,hget⟩:=Ru hok
 have hsl:(jC names).length=names.length:=oI names
 have hsm:∀ nm ∈ jC names,nm ∈ names:=fun nm h=>(tO names).mem_iff.1 h
 refine sZ.Xb (qs:=[.int .i64 0]) (T:=aO Tryz.prog [(56,cB),(58,w_),(57,xg),(59,vV)]) 1 hD (aj (af oC (af LH (af LM (af Od ai))))) aT (by decide) fun Q hQ=>?_
 (conv=>arg 4;cbv);simp(maxSteps:=400000)only[↓aA,aB,BEq.rfl,reduceIte,reduceCtorEq,Nat.reduceLT,reduceAdd,reduceSub,reduceMul,Nat.reduceBEq,reduceLeDiff,reduceToNat,reduceLE,hQ,hl',↓O5,kF]
 refine aF (fun m S=>∃ i:Nat,i+m=names.length∧S=⟨cO 66 [(0,cK names),(1,dh l),(6,.su 0 1),(21,cK names),(22,.int .i64 names.length),(23,.int .i64 i)],[GK ((names.zip l).take i)]⟩) names.length ⟨0,by omega,?_⟩ ?_
 · simp only [bI,keepR,reduceAdd,kT,Nat.reduceBEq,map_nil]
   rfl
 rintro m S ⟨i,him,rfl⟩
 rcases lt_or_ge i names.length with h | h
 · have hlt:((i:Int)<(names.length:Int))=True:=eq_true (by omega)
   have zi:(0≤(i:Int))=True:=eq_true (by omega)
   have hgi:=List.getElem?_eq_getElem h
   have hgl:l[i]?=some (l[i]'(by omega)):=List.getElem?_eq_getElem _
   have hx:=htx _ (getElem_mem h)
   have hu:=hut _ (getElem_mem h)
   generalize names[i]=nm at hgi hx hu
   generalize l[i]'(by omega)=v at hgl
   have hgz:(names.zip l)[i]?=some (nm,v):=by rw [List.getElem?_zip_eq_some];exact ⟨hgi,hgl⟩
   have htz:(names.zip l).take (i+1)=(names.zip l).take i++[(nm,v)]:=by rw [take_add_one,hgz];rfl
   have xN:((names.zip l).take i).map (·.1)=names.take i:=by rw [List.map_take,map_fst_zip (by omega)]
   have hin:nm ∉ names.take i:=fun hin=>by
    have htk:names.take (i+1)=names.take i++[nm]:=by rw [take_add_one,hgi];rfl
    have h2:(names.take (i+1)).Nodup:=List.Pairwise.sublist (List.take_sublist _ _) hnd
    rw [htk,List.nodup_append] at h2
    exact absurd rfl (h2.2.2 nm hin nm (by simp))
   have hmf:=ze ((names.zip l).take i) 0 (by rw [xN];exact hin)
   unfold GK
   simp(maxSteps:=400000)only[↓aA,aB,BEq.rfl,reduceIte,reduceCtorEq,Nat.reduceLT,reduceAdd,reduceSub,reduceMul,Nat.reduceBEq,reduceLeDiff,reduceToNat,reduceLE,hQ,hlt,zi,hgi,hgl,↓cB,hu,↓O5,jA,gG,hmf,CY,bN,true_or,D_]
   exact ⟨hx,⟨by omega,by omega⟩,m-1,by omega,i+1,by omega,by rw [htz,map_append];rfl⟩
 have hlt:((i:Int)<(names.length:Int))=False:=eq_false (by omega)
 have htz:(names.zip l).take i=names.zip l:=List.take_of_length_le (by simp;omega)
 rw [htz]
 unfold GK
 simp(maxSteps:=400000)only[↓aA,aB,BEq.rfl,reduceIte,reduceCtorEq,Nat.reduceLT,reduceAdd,reduceSub,reduceMul,Nat.reduceBEq,reduceLeDiff,reduceToNat,reduceLE,hQ,hlt,↓w_,↓xg,seqB]
 refine ⟨by omega,?_⟩
 generalize jC names=ss at *
 obtain ⟨P,hP⟩:∃ P:List UInt8→Vl,P=fun nm=>(qU (names.zip l) nm).getD []:=⟨_,rfl⟩
 refine aF (fun m S=>∃ j:Nat,j+m=names.length∧((j=0∧S=⟨cO 66 [(6,.su 0 1),(11,cK ss),(12,.sl 0 [] (some true)),(50,cK ss),(51,.int .i64 ss.length),(52,.int .i64 j)],[GK (names.zip l)]⟩)∨
  (0<j∧∃ ver,S=⟨cO 66 [(6,.su 0 1),(11,cK ss),(12,.aX 1 ver),(50,cK ss),(51,.int .i64 ss.length),(52,.int .i64 j)],[GK (names.zip l),⟨28,1,((ss.take j).map P).map aC,true,ver⟩]⟩))) names.length ⟨0,by omega,.inl ⟨rfl,?_⟩⟩ ?_
 · simp only [bI,keepR,reduceAdd,kT,Nat.reduceBEq,map_nil]
   rfl
 rintro m' S ⟨j,hjm,hS⟩
 rcases lt_or_ge j ss.length with h' | h'
 · have hlt:((j:Int)<(ss.length:Int))=True:=eq_true (by omega)
   have zj:(0≤(j:Int))=True:=eq_true (by omega)
   have hgj:=List.getElem?_eq_getElem h'
   have hm:=hsm _ (getElem_mem h')
   generalize ss[j]=nm at hgj hm
   have htk:ss.take (j+1)=ss.take j++[nm]:=by rw [take_add_one,hgj];rfl
   obtain ⟨v,hv,hvl⟩:=hget nm hm
   obtain ⟨j2,hj2⟩:=zh _ 0 hv
   have hPv:P nm=v:=by rw [hP];simp [hv]
   rcases hS with ⟨rfl,rfl⟩ | ⟨h0,ver,rfl⟩
   · unfold GK
     simp(maxSteps:=400000)only[↓aA,aB,BEq.rfl,reduceIte,reduceCtorEq,Nat.reduceLT,reduceAdd,reduceSub,reduceMul,Nat.reduceBEq,reduceLeDiff,reduceToNat,reduceLE,hQ,hlt,zj,hgj,↓O5,jA,hj2,CY,true_or]
     refine ⟨⟨by omega,by omega⟩,m'-1,by omega,1,by omega,.inr ⟨by omega,1,?_⟩⟩
     rw [show ss.take 1=[nm] from htk,map_cons,hPv]
     rfl
   · unfold GK
     simp(maxSteps:=400000)only[↓aA,aB,BEq.rfl,reduceIte,reduceCtorEq,Nat.reduceLT,reduceAdd,reduceSub,reduceMul,Nat.reduceBEq,reduceLeDiff,reduceToNat,reduceLE,hQ,hlt,zj,hgj,↓O5,jA,hj2,CY,true_or]
     have:=List.length_take_le j ss
     refine ⟨by omega,by omega,⟨by omega,by omega⟩,m'-1,by omega,j+1,by omega,.inr ⟨by omega,ver+1,?_⟩⟩
     rw [htk,map_append (f:=P),map_append,map_cons,hPv]
     rfl
 have hlt:((j:Int)<(ss.length:Int))=False:=eq_false (by omega)
 have hq:(ss.map fun nm=>(nm,P nm))=D5 (names.zip l):=by rw [hP];exact hsrt
 have e:DZ ss (ss.map P)=gy names l:=by
  have e:DZ ss (ss.map P)=mkO (ss.map fun nm=>(nm,P nm)):=by
   rw [← MK,map_map,map_map]
   congr 1
   exact (map_id ss).symm
  rw [e,hq]
  simp [gy,hok]
 have hsn:ss.map P=(D5 (names.zip l)).map (·.2):=by
  rw [← hq,map_map];rfl
 have hfl:(ss.map P).flatten.length≤1000000:=by rw [hsn,BX hp];exact hb
 have hnp:∀ v ∈ ss.map P,v≠[]:=fun v hv=>by
  obtain ⟨nm,hn,rfl⟩:=List.mem_map.1 hv
  obtain ⟨v,hv,hvl⟩:=hget nm (hsm nm hn)
  have hPv:P nm=v:=by rw [hP];simp [hv]
  rw [hPv]
  exact hne v hvl
 have hlp:(ss.map P).length≤1000000:=by rw [List.length_map];omega
 rcases hS with ⟨hj0,rfl⟩ | ⟨h0,ver,rfl⟩
 · have hs0:ss.length=0:=by omega
   have hl0:DZ ss []=gy names l:=by
    rw [← e]
    have:ss=[]:=List.length_eq_zero_iff.1 hs0
    rw [this];rfl
   simp(maxSteps:=400000)only[↓aA,aB,BEq.rfl,reduceIte,reduceCtorEq,Nat.reduceLT,reduceAdd,reduceSub,reduceMul,Nat.reduceBEq,reduceLeDiff,reduceToNat,reduceLE,hQ,hlt]
   refine aQ _ (Weak.freeze 1 0 (zero_le _) _) ?_
   simp(maxSteps:=400000)only[↓aA,aB,BEq.rfl,reduceIte,reduceCtorEq,Nat.reduceLT,reduceAdd,reduceSub,reduceMul,Nat.reduceBEq,reduceLeDiff,reduceToNat,reduceLE,hQ,↓vV,aa2,Xr]
   exact ⟨hs0,by simp,by simp,XQ (k:=0) (by decide) (by decide) rfl rfl rfl rfl (by rw [← hl0];simp only [nN,Ei,gI]) (mX _ 0) rfl⟩
 simp(maxSteps:=400000)only[↓aA,aB,BEq.rfl,reduceIte,reduceCtorEq,Nat.reduceLT,reduceAdd,reduceSub,reduceMul,Nat.reduceBEq,reduceLeDiff,reduceToNat,reduceLE,hQ,hlt]
 refine aQ _ (Weak.freeze 1 0 (zero_le _) _) ?_
 have f2:∀ x:Obj,eY 1 0 [x,⟨28,1,List.map aC ((ss.take j).map P),true,ver⟩] (.aX 1 ver)=dh (ss.map P):=fun x=>by
  simp only [eY,Nat.not_lt_zero,if_false,fM,List.getElem?_cons_succ,List.getElem?_cons_zero,zero_le,decide_true,Bool.true_and,beq_self_eq_true,if_true]
  rw [pR aC fun _=>rfl,List.take_of_length_le h'];rfl
 simp(maxSteps:=400000)only[↓aA,aB,BEq.rfl,reduceIte,reduceCtorEq,Nat.reduceLT,reduceAdd,reduceSub,reduceMul,Nat.reduceBEq,reduceLeDiff,reduceToNat,reduceLE,hQ,↓vV,aa2,Xr,f2]
 exact ⟨by rw [List.length_map] at hlp;exact hlp,hfl,hnp,XQ (k:=0) (by decide) (by decide) rfl rfl rfl rfl (by rw [← e];simp only [nN,Ei,gI]) (mX _ 0) rfl⟩
theorem GN (names:List (List UInt8)) (l:List Vl) (hn:names.length≤1000000) (hb:l.flatten.length≤1000000) (hne:∀ v ∈ l,v≠[]) (htx:∀ s ∈ names,s.length≤4611686018427387904):ah Tryz.prog 31 [cK names,dh l] [] (Ej names l) []:=by
 cases hok:dV names l.length with
 | false=>rw [show Ej names l=_ from by simp only [Ej,hok];rfl];exact IQ names l hok hn htx
 | true=>
  have h:=(GL names l hok hn hb hne htx).Xc rfl rfl rfl (mX _ 0)
  rw [show Ej names l=.bV [aC (gy names l),.int .i64 0] from by simp only [Ej,hok];rfl]
  exact h
theorem En (names:List (List UInt8)) (l:List Vl) (hn:names.length≤1000000) (hb:l.flatten.length≤1000000) (hne:∀ v ∈ l,v≠[]) (htx:∀ s ∈ names,s.length≤4611686018427387904) :
  ah Tryz.prog 31 [cK names,dh l] [] (.bV [aC (gy names l),.int .i64 (BZ names l)]) []:=
 (GN names l hn hb hne htx).res (Gy names l)
def oJ:dF:=fun args objs K=>match args with
 | [a0,a1]=>f_ cK a0 (HK.mk:HK fun names=>f_ dh a1 (HK.mk:HK fun l=>(names.length≤1000000)∧(l.flatten.length≤1000000)∧(∀ v ∈ l,v≠[])∧(∀ s ∈ names,s.length≤4611686018427387904)∧K (.bV [aC (gy names l),.int .i64 (BZ names l)]) objs 0))
 | _=>False
theorem Eo:aD Tryz.prog 31 (oJ):=by
 intro args objs K h
 unfold oJ at h
 split at h
 · rename_i a0 a1
   obtain ⟨names,rfl,l,rfl,h1,h2,h3,h4,hk⟩:=h
   exact ⟨_,_,_,.pure _ rfl (En names l h1 h2 h3 h4),hk⟩
 · exact h.elim
end Lp
set_option maxRecDepth 100000
namespace Lp
open Go Go.Proofs
open Nat (lt_or_ge reduceAdd reduceLeDiff reduceMul reduceSub)
open Int (reduceLE reduceToNat)
set_option maxHeartbeats 4000000
theorem Vp (mask kind:Int) (hm:0≤mask∧mask≤1000000) (hk:0≤kind∧kind≤1000000):ah Tryz.prog 63 [.int .i64 mask,.int .i64 kind] [] (.bool (Dg mask kind)) []:=by
 refine Aq.aZ (T:=aO Tryz.prog []) 0 hD (aj ai) aT (by decide) fun Q hQ=>?_
 (conv=>arg 4;cbv);simp(maxSteps:=400000)only[↓aR,aS,BEq.rfl,reduceIte,reduceCtorEq,Nat.reduceLT,reduceAdd,reduceSub,reduceMul,Nat.reduceBEq,reduceLeDiff,reduceToNat,reduceLE,hQ]
 refine aF (fun m S=>∃ (i x:Nat),i+m=kind.toNat∧x=mask.toNat / 2 ^ i∧S=⟨cO 16 [(0,.int .i64 x),(1,.int .i64 kind),(5,.int .i64 i)],[]⟩) kind.toNat ⟨0,mask.toNat,by omega,by simp,?_⟩ ?_
 · simp only [bI,keepR,reduceAdd,kT,Nat.reduceBEq,List.map_nil]
   rw [Int.toNat_of_nonneg hm.1];rfl
 rintro m S ⟨i,x,him,hx,rfl⟩
 have hxm:x≤mask.toNat:=by rw [hx];exact Nat.div_le_self ..
 rcases lt_or_ge i kind.toNat with h | h
 rotate_left 1
 · have hlt:((i:Int)<kind)=False:=eq_false (by omega)
   have hi:i=kind.toNat:=by omega
   have hr:Dg mask kind=decide ((x:Int).tmod 2=1):=by
    have e:(x:Int).tmod 2=((x % 2:Nat):Int):=rfl
    rw [e,Dg,← hi,← hx,Bool.eq_iff_iff,beq_iff_eq,decide_eq_true_iff]
    omega
   simp(maxSteps:=400000)only[↓aR,aS,BEq.rfl,reduceIte,reduceCtorEq,Nat.reduceLT,reduceAdd,reduceSub,reduceMul,Nat.reduceBEq,reduceLeDiff,reduceToNat,reduceLE,hQ,hlt,hr]
   decide
 · have hlt:((i:Int)<kind)=True:=eq_true (by omega)
   simp(maxSteps:=400000)only[↓aR,aS,BEq.rfl,reduceIte,reduceCtorEq,Nat.reduceLT,reduceAdd,reduceSub,reduceMul,Nat.reduceBEq,reduceLeDiff,reduceToNat,reduceLE,hQ,hlt]
   have e:(x:Int).tdiv 2=((x / 2:Nat):Int):=rfl
   refine ⟨by decide,⟨by omega,by omega⟩,⟨by omega,by omega⟩,m-1,by omega,i+1,x / 2,by omega,?_,by simp [e]⟩
   rw [hx,Nat.div_div_eq_div_mul,Nat.pow_succ]
def Bo:dF:=fun args objs K=>match args with
 | [.int .i64 mask,.int .i64 kind]=>(0≤mask∧mask≤1000000)∧(0≤kind∧kind≤1000000)∧K (.bool (Dg mask kind)) objs 0
 | _=>False
theorem Rv:aD Tryz.prog 63 (Bo):=by
 intro args objs K h
 unfold Bo at h
 split at h
 · rename_i mask kind
   obtain ⟨h1,h2,hk⟩:=h
   exact ⟨_,_,_,.pure _ rfl (Vp mask kind h1 h2),hk⟩
 · exact h.elim
theorem Vq (a:lG) (n:Nd) (ha:fu a.c) (hn:fu n):ah Tryz.prog 78 [dK a,.addr (au n)] [] (.bool (Bool.not (j3 a n))) []:=by
 refine Ef.aZ (T:=aO Tryz.prog [(79,w9)]) 0 hD (aj (af LF ai)) aT (by decide) fun Q hQ=>?_
 (conv=>arg 4;cbv);simp(maxSteps:=400000)only[↓aR,aS,BEq.rfl,reduceIte,reduceCtorEq,Nat.reduceLT,reduceAdd,reduceSub,reduceMul,Nat.reduceBEq,reduceLeDiff,reduceToNat,reduceLE,hQ]
 refine aQ _ (Weak.freeze 1 0 (Nat.zero_le _) _) ?_
 simp(maxSteps:=400000)only[↓aR,aS,BEq.rfl,reduceIte,reduceCtorEq,Nat.reduceLT,reduceAdd,reduceSub,reduceMul,Nat.reduceBEq,reduceLeDiff,reduceToNat,reduceLE,hQ,Tg,↓w9]
 exact ⟨ha,hn⟩
def Bp (n:Nd):dF:=fun args objs K=>match args with
 | [a0,a1]=>f_ dK a0 (HK.mk:HK fun a=>a1=(.addr (au n))∧(fu a.c)∧(fu n)∧K (.bool (Bool.not (j3 a n))) objs 0)
 | _=>False
theorem Rw (n:Nd):aD Tryz.prog 78 (Bp n):=by
 intro args objs K h
 unfold Bp at h
 split at h
 · rename_i a0 a1
   obtain ⟨a,rfl,rfl,h1,h2,hk⟩:=h
   exact ⟨_,_,_,.pure _ rfl (Vq a n h1 h2),hk⟩
 · exact h.elim
def kK (n:Nd) (a:lG):Bool:=Bool.not (j3 a n)
theorem LP (l:List lG) (n:Nd) (hl:l.length≤4611686018427387904) (ha:∀ a ∈ l,fu a.c) (hn:fu n):ah Tryz.prog 106 [bP l,.fn 78 [] [.addr (au n)]] [] (.int .i64 (idxOf (kK n) l)) []:=by
 refine jF.aZ (T:=aO Tryz.prog [(78,(Bp n))]) 0 hD (aj (af (Rw n) ai)) aT (by decide) fun Q hQ=>?_
 (conv=>arg 4;cbv);simp(maxSteps:=400000)only[↓aR,aS,BEq.rfl,reduceIte,reduceCtorEq,Nat.reduceLT,reduceAdd,reduceSub,reduceMul,Nat.reduceBEq,reduceLeDiff,reduceToNat,reduceLE,hQ]
 refine aF (fun m S=>∃ i:Nat,i+m=l.length∧(∀ (j:Nat) y,j<i→l[j]?=some y→kK n y=false)∧S=⟨cO 19 [(0,bP l),(1,.fn 78 [] [.addr (au n)]),(7,.int .i64 l.length),(8,.int .i64 i)],[]⟩) l.length ⟨0,by omega,fun j y h=>absurd h (Nat.not_lt_zero j),?_⟩ ?_
 · simp only [bI,keepR,reduceAdd,kT,Nat.reduceBEq,List.map_nil]
   rfl
 rintro m S ⟨i,him,hb,rfl⟩
 rcases lt_or_ge i l.length with h | h
 rotate_left 1
 · have hlt:((i:Int)<(l.length:Int))=False:=eq_false (by omega)
   have hr:=Gs (l:=l) fun j y hj=>hb j y (by have:=(List.getElem?_eq_some_iff.1 hj).1;omega) hj
   simp(maxSteps:=400000)only[↓aR,aS,BEq.rfl,reduceIte,reduceCtorEq,Nat.reduceLT,reduceAdd,reduceSub,reduceMul,Nat.reduceBEq,reduceLeDiff,reduceToNat,reduceLE,hQ,hlt,hr]
 have hlt:((i:Int)<(l.length:Int))=True:=eq_true (by omega)
 have zi:(0≤(i:Int))=True:=eq_true (by omega)
 have hgi:=List.getElem?_eq_getElem h
 have hao:=ha _ (List.getElem_mem h)
 generalize l[i]=o at hgi hao
 cases hp:j3 o n
 · have hr:idxOf (kK n) l=i:=idxOf_hit hgi (by simp [kK,hp]) hb
   simp(maxSteps:=400000)only[↓aR,aS,BEq.rfl,reduceIte,reduceCtorEq,Nat.reduceLT,reduceAdd,reduceSub,reduceMul,Nat.reduceBEq,reduceLeDiff,reduceToNat,reduceLE,hQ,hlt,zi,hgi,↓Bp,hp,hr]
   exact ⟨hao,hn⟩
 · simp(maxSteps:=400000)only[↓aR,aS,BEq.rfl,reduceIte,reduceCtorEq,Nat.reduceLT,reduceAdd,reduceSub,reduceMul,Nat.reduceBEq,reduceLeDiff,reduceToNat,reduceLE,hQ,hlt,zi,hgi,↓Bp,hp]
   refine ⟨hao,hn,⟨by omega,by omega⟩,m-1,by omega,i+1,by omega,fun j y hj hy=>?_,rfl⟩
   rcases lt_or_ge j i with g | g
   · exact hb j y g hy
   · have:j=i:=by omega
     subst this
     rw [hgi] at hy;cases hy
     simp [kK,hp]
def tT (n:Nd):dF:=fun args objs K=>match args with
 | [a0,a1]=>f_ bP a0 (HK.mk:HK fun l=>a1=(.fn 78 [] [.addr (au n)])∧(l.length≤4611686018427387904)∧(∀ a ∈ l,fu a.c)∧(fu n)∧K (.int .i64 (idxOf (kK n) l)) objs 0)
 | _=>False
theorem IU (n:Nd):aD Tryz.prog 106 (tT n):=by
 intro args objs K h
 unfold tT at h
 split at h
 · rename_i a0 a1
   obtain ⟨l,rfl,rfl,h1,h2,h3,hk⟩:=h
   exact ⟨_,_,_,.pure _ rfl (LP l n h1 h2 h3),hk⟩
 · exact h.elim
theorem LQ (l:List lG) (n:Nd) (hl:l.length≤4611686018427387904) (ha:∀ a ∈ l,fu a.c) (hn:fu n):ah Tryz.prog 77 [bP l,.fn 78 [] [.addr (au n)]] [] (.bool (l.any (kK n))) []:=by
 refine jd.aZ (T:=aO Tryz.prog [(106,(tT n))]) 0 hD (aj (af (IU n) ai)) aT (by decide) fun Q hQ=>?_
 (conv=>arg 4;cbv);simp(maxSteps:=400000)only[↓aR,aS,BEq.rfl,reduceIte,reduceCtorEq,Nat.reduceLT,reduceAdd,reduceSub,reduceMul,Nat.reduceBEq,reduceLeDiff,reduceToNat,reduceLE,hQ,↓tT,JX]
 exact ⟨hl,ha,hn⟩
def tV (n:Nd):dF:=fun args objs K=>match args with
 | [a0,a1]=>f_ bP a0 (HK.mk:HK fun l=>a1=(.fn 78 [] [.addr (au n)])∧(l.length≤4611686018427387904)∧(∀ a ∈ l,fu a.c)∧(fu n)∧K (.bool (l.any (kK n))) objs 0)
 | _=>False
theorem IV (n:Nd):aD Tryz.prog 77 (tV n):=by
 intro args objs K h
 unfold tV at h
 split at h
 · rename_i a0 a1
   obtain ⟨l,rfl,rfl,h1,h2,h3,hk⟩:=h
   exact ⟨_,_,_,.pure _ rfl (LQ l n h1 h2 h3),hk⟩
 · exact h.elim
theorem XT {mask kind:Int}(hm:0≤mask∧mask≤31) (hk:0≤kind∧kind<5):Ff .and .i64 (mask.fdiv (2 ^ min kind.toNat IntKind.i64.bits)) 1=if Dg mask kind then 1 else 0:=by
 have key:∀ (m:Fin 32) (k:Fin 5),Ff .and .i64 ((m.val:Int).fdiv (2 ^ min k.val IntKind.i64.bits)) 1=if (m.val / 2 ^ k.val) % 2==1 then 1 else 0:=by decide +kernel
 have:=key ⟨mask.toNat,by omega⟩ ⟨kind.toNat,by omega⟩
 simp only [Int.toNat_of_nonneg hm.1] at this
 exact this
theorem LU (mask:Int) (l:List lG) (n:Nd) (hm:0≤mask∧mask≤31) (hl:l.length≤1000000) (ha:∀ a ∈ l,fu a.c) (hn:rV n) (hs:n.s.length≤1000000):ah Tryz.prog 51 [.int .i64 mask,bP l,au n] [] (.bool (dn mask l n)) []:=by
 refine Ii.aZ (T:=aO Tryz.prog [(76,o6),(77,(tV n))]) 0 hD (aj (af LB (af (IV n) ai))) aT (by decide) fun Q hQ=>?_
 (conv=>arg 4;cbv);simp(maxSteps:=400000)only[↓aR,aS,BEq.rfl,reduceIte,reduceCtorEq,Nat.reduceLT,reduceAdd,reduceSub,reduceMul,Nat.reduceBEq,reduceLeDiff,reduceToNat,reduceLE,hQ]
 refine aQ _ (Weak.freeze 1 0 (Nat.zero_le _) _) ?_
 cases hp:qh n
 · have hr:dn mask l n=false:=by simp [dn,hp]
   simp(maxSteps:=400000)only[↓aR,aS,BEq.rfl,reduceIte,reduceCtorEq,Nat.reduceLT,reduceAdd,reduceSub,reduceMul,Nat.reduceBEq,reduceLeDiff,reduceToNat,reduceLE,hQ,iY,↓o6,hp,hr]
   exact hn
 have hk:=(nD hp).2.2
 have hbit:=XT hm ⟨hk.1,hk.2.1⟩
 have hk0:(0≤n.kind)=True:=eq_true hk.1
 cases hb:Dg mask n.kind
 · have hr:dn mask l n=false:=by simp [dn,hb]
   rw [hb,if_neg (by decide)] at hbit
   simp(maxSteps:=400000)only[↓aR,aS,BEq.rfl,reduceIte,reduceCtorEq,Nat.reduceLT,reduceAdd,reduceSub,reduceMul,Nat.reduceBEq,reduceLeDiff,reduceToNat,reduceLE,hQ,iY,↓o6,hp,hr,qF,hbit,hk0]
   exact hn
 · have hr:dn mask l n=!(l.any (kK n)):=by simp [dn,hp,hb,List.all_eq_not_any_not,kK];rfl
   rw [hb,if_pos rfl] at hbit
   simp(maxSteps:=400000)only[↓aR,aS,BEq.rfl,reduceIte,reduceCtorEq,Nat.reduceLT,reduceAdd,reduceSub,reduceMul,Nat.reduceBEq,reduceLeDiff,reduceToNat,reduceLE,hQ,iY,↓o6,hp,hr,qF,hbit,hk0,↓tV,Int.reduceEq]
   exact ⟨hn,by omega,ha,hp,hs⟩
end Lp
set_option maxRecDepth 100000
namespace Lp
open Go Go.Proofs
open Nat (reduceAdd reduceLeDiff reduceMul reduceSub)
open Int (reduceLE reduceToNat)
set_option maxHeartbeats 4000000
theorem LV (mask:Int) (l:List lG) (n:Nd) (hm:0≤mask∧mask≤1000000) (hl:l.length≤1000000) (ha:∀ a ∈ l,fu a.c) (hn:rV n) (hs:n.s.length≤1000000):ah Tryz.prog 37 [.int .i64 mask,bP l,au n] [] (.bool (dn mask l n)) []:=by
 refine xJ.aZ (T:=aO Tryz.prog [(62,lm),(63,Bo),(64,rX)]) 0 hD (aj (af Bj (af Rv (af LG ai)))) aT (by decide) fun Q hQ=>?_
 (conv=>arg 4;cbv);simp(maxSteps:=400000)only[↓aR,aS,BEq.rfl,reduceIte,reduceCtorEq,Nat.reduceLT,reduceAdd,reduceSub,reduceMul,Nat.reduceBEq,reduceLeDiff,reduceToNat,reduceLE,hQ]
 refine aQ _ (Weak.freeze 1 0 (Nat.zero_le _) _) ?_
 cases hp:qh n
 · have hr:dn mask l n=false:=by simp [dn,hp]
   simp(maxSteps:=400000)only[↓aR,aS,BEq.rfl,reduceIte,reduceCtorEq,Nat.reduceLT,reduceAdd,reduceSub,reduceMul,Nat.reduceBEq,reduceLeDiff,reduceToNat,reduceLE,hQ,iY,↓lm,hp,hr]
   exact hn
 have hk:=(nD hp).2.2
 have hk':0≤n.kind∧n.kind≤1000000:=⟨hk.1,by omega⟩
 cases hb:Dg mask n.kind
 · have hr:dn mask l n=false:=by simp [dn,hb]
   simp(maxSteps:=400000)only[↓aR,aS,BEq.rfl,reduceIte,reduceCtorEq,Nat.reduceLT,reduceAdd,reduceSub,reduceMul,Nat.reduceBEq,reduceLeDiff,reduceToNat,reduceLE,hQ,iY,↓lm,↓Bo,hp,hr,hb]
   exact ⟨hn,hm,hk'⟩
 have hr:dn mask l n=l.all fun a=>j3 a n:=by simp [dn,hp,hb]
 simp(maxSteps:=400000)only[↓aR,aS,BEq.rfl,reduceIte,reduceCtorEq,Nat.reduceLT,reduceAdd,reduceSub,reduceMul,Nat.reduceBEq,reduceLeDiff,reduceToNat,reduceLE,hQ,iY,↓lm,↓Bo,hp,hr,hb]
 refine ⟨hn,hm,hk',?_⟩
 refine aF (fun m S=>∃ i:Nat,i+m=l.length∧(∀ (j:Nat) y,j<i→l[j]?=some y→j3 y n=true)∧S=⟨cO 31 [(1,bP l),(5,.addr (au n)),(7,.int .i64 i)],[]⟩) l.length ⟨0,by omega,fun j y h=>absurd h (Nat.not_lt_zero j),?_⟩ ?_
 · simp only [bI,keepR,reduceAdd,kT,Nat.reduceBEq,List.map_nil]
   rfl
 rintro m S ⟨i,him,hbf,rfl⟩
 rcases Nat.lt_or_ge i l.length with h | h
 rotate_left 1
 · have hlt:((i:Int)<(l.length:Int))=False:=eq_false (by omega)
   have hall:(l.all fun a=>j3 a n)=true:=List.all_eq_true.2 fun x hx=>by
    obtain ⟨j,hj⟩:=List.mem_iff_getElem?.1 hx
    exact hbf j x (by have:=(List.getElem?_eq_some_iff.1 hj).1;omega) hj
   simp(maxSteps:=400000)only[↓aR,aS,BEq.rfl,reduceIte,reduceCtorEq,Nat.reduceLT,reduceAdd,reduceSub,reduceMul,Nat.reduceBEq,reduceLeDiff,reduceToNat,reduceLE,hQ,hlt,hr,hall]
 have hlt:((i:Int)<(l.length:Int))=True:=eq_true (by omega)
 have zi:(0≤(i:Int))=True:=eq_true (by omega)
 have hgi:=List.getElem?_eq_getElem h
 have hao:=ha _ (List.getElem_mem h)
 have hmem:=List.getElem_mem h
 generalize l[i]=o at hgi hao hmem
 cases hh:j3 o n
 · have hall:(l.all fun a=>j3 a n)=false:=List.all_eq_false.2 ⟨o,hmem,by simp [hh]⟩
   simp(maxSteps:=400000)only[↓aR,aS,BEq.rfl,reduceIte,reduceCtorEq,Nat.reduceLT,reduceAdd,reduceSub,reduceMul,Nat.reduceBEq,reduceLeDiff,reduceToNat,reduceLE,hQ,hlt,zi,hgi,↓rX,hh,hr,hall]
   exact ⟨hao,hp,hs⟩
 · simp(maxSteps:=400000)only[↓aR,aS,BEq.rfl,reduceIte,reduceCtorEq,Nat.reduceLT,reduceAdd,reduceSub,reduceMul,Nat.reduceBEq,reduceLeDiff,reduceToNat,reduceLE,hQ,hlt,zi,hgi,↓rX,hh]
   refine ⟨hao,⟨hp,hs⟩,⟨by omega,by omega⟩,m-1,by omega,i+1,by omega,fun j y hj hy=>?_,rfl⟩
   rcases Nat.lt_or_ge j i with g | g
   · exact hbf j y g hy
   · have:j=i:=by omega
     subst this
     rw [hgi] at hy;cases hy
     exact hh
end Lp
set_option maxRecDepth 100000
namespace Lp
open Go Go.Proofs
theorem Bq:aN Tryz.prog 45 41 [.tmp 4] (gen [] [(35,none)] [] Tryz.f45):=aY Tryz.func45 rfl (by kernel_rfl)
theorem zm:aN Tryz.prog 25 43 [.tmp 4] (gen [] [(35,none)] [] Tryz.f25):=aY Tryz.func25 rfl (by kernel_rfl)
theorem zq:aN Tryz.prog 71 74 [.tmp 4] (gen [] [(227,some (1,0))] [] Tryz.f71):=aY Tryz.func71 rfl (by kernel_rfl)
theorem qA:aN Tryz.prog 73 54 [.tmp 6] (gen [] [(391,none)] [] Tryz.f73):=aY Tryz.func73 rfl (by kernel_rfl)
theorem zu:aN Tryz.prog 48 87 [.tmp 2] (gen [] [(9,none)] [] Tryz.f48):=aY Tryz.func48 rfl (by kernel_rfl)
theorem zw:aN Tryz.prog 49 44 [.tmp 4] (gen [7] [(99,none)] [] Tryz.f49):=aY Tryz.func49 rfl (by kernel_rfl)
theorem zx:aN Tryz.prog 33 5 [.tmp 2] (gen [] [] [] Tryz.f33):=aY Tryz.func33 rfl (by kernel_rfl)
theorem Br:aN Tryz.prog 26 35 [.tmp 2] (gen [] [(9,some (1,0))] [] Tryz.f26):=aY Tryz.func26 rfl (by kernel_rfl)
theorem CZ:aN Tryz.prog 8 12 [.tmp 4] (gen [] [] [] Tryz.f8):=aY Tryz.func8 rfl (by kernel_rfl)
theorem Bt:aN Tryz.prog 114 64 [.cell 6 42,.tmp 7] (gen [] [(71,none),(71,none)] [] Tryz.f114):=aY Tryz.func114 rfl (by kernel_rfl)
theorem xO:aN Tryz.prog 111 19 [.tmp 4] (gen [] [(100,none)] [] Tryz.f111):=aY Tryz.func111 rfl (by kernel_rfl)
theorem xP:aN Tryz.prog 87 60 [.cell 4 42,.tmp 5] (gen [] [] [] Tryz.f87):=aY Tryz.func87 rfl (by kernel_rfl)
theorem rY:aN Tryz.prog 60 98 [.tmp 2] (gen [14] [(25,some (1,1)),(521,none)] [] Tryz.f60):=aY Tryz.func60 rfl (by kernel_rfl)
theorem zy:aN Tryz.prog 32 28 [.cell 4 42,.tmp 5] (gen [] [(211,none)] [] Tryz.f32):=aY Tryz.func32 rfl (by kernel_rfl)
theorem zA:aN Tryz.prog 20 47 [.tmp 2] (gen [9,28] [(57,none)] [11] Tryz.f20):=aY Tryz.func20 rfl (by kernel_rfl)
theorem zB:aN Tryz.prog 24 34 [.tmp 2] (gen [6] [(57,none)] [] Tryz.f24):=aY Tryz.func24 rfl (by kernel_rfl)
theorem O6:aN Tryz.prog 82 19 [.tmp 4] (gen [] [(35,none)] [] Tryz.f82):=aY Tryz.func82 rfl (by kernel_rfl)
theorem O7:aN Tryz.prog 81 28 [] (gen [] [(779,none)] [] Tryz.f81):=aY Tryz.func81 rfl (by kernel_rfl)
theorem Vr:aN Tryz.prog 54 4 [.tmp 2] (gen [] [] [] Tryz.f54):=aY Tryz.func54 rfl (by kernel_rfl)
theorem iF:aN Tryz.prog 55 8 [.tmp 2] (gen [5] [] [] Tryz.f55):=aY Tryz.func55 rfl (by kernel_rfl)
theorem Rx:aN Tryz.prog 30 24 [.tmp 2] (gen [] [(0,none)] [7] Tryz.f30):=aY Tryz.func30 rfl (by kernel_rfl)
theorem LW:aN Tryz.prog 52 35 [.tmp 4] (gen [] [(3670048,some (1,1))] [] Tryz.f52):=aY Tryz.func52 rfl (by kernel_rfl)
theorem GQ:aN Tryz.prog 28 10 [.tmp 2] (gen [] [] [] Tryz.f28):=aY Tryz.func28 rfl (by kernel_rfl)
theorem XU:aN Tryz.prog 11 81 [.tmp 2] (gen [] [(61572651155681,none)] [21] Tryz.f11):=aY Tryz.func11 rfl (by kernel_rfl)
theorem Ep:aN Tryz.prog 12 68 [.tmp 2] (gen [10] [(57,none)] [7] Tryz.f12):=aY Tryz.func12 rfl (by kernel_rfl)
theorem Ry:aN Tryz.prog 14 20 [.tmp 4] (gen [] [(6240,none)] [] Tryz.f14):=aY Tryz.func14 rfl (by kernel_rfl)
theorem Bu:aN Tryz.prog 15 23 [.tmp 4] (gen [7] [(99,none)] [] Tryz.f15):=aY Tryz.func15 rfl (by kernel_rfl)
theorem zC:aN Tryz.prog 9 44 [.tmp 0] (gen [] [] [] Tryz.f9):=aY Tryz.func9 rfl (by kernel_rfl)
theorem uR:aN Tryz.prog 3 30 [.tmp 4] (gen [] [] [] Tryz.f3):=aY Tryz.func3 rfl (by kernel_rfl)
end Lp
namespace Lp
open Go
open List (cons_append drop_eq_getElem_cons flatten_cons length_drop length_take nil_append)
namespace Y
theorem pM (L:Nat) (v:bq):gT L v 0=some 0:=by cases v <;> rfl
theorem KV (L:Nat):∀ (v:bq) (k c i:Nat),gT L v k=some c→i<c→∃ k' c',gT L (v.drop i) (k'+1)=some c'
 | v,0,c,i,h,hi=>by rw [pM] at h;cases h;omega
 | [],k+1,c,i,h,hi=>by simp [gT] at h
 | n::v,k+1,c,0,h,hi=>⟨k,c,by simpa using h⟩
 | n::v,k+1,c,i+1,h,hi=>by
  rw [gT] at h
  split at h
  · cases h
  · cases hs:gT L v (k+n.many.toNat) with
    | none=>rw [hs] at h;simp at h
    | some c'=>
     rw [hs] at h
     simp only [Option.map_some,Option.some.injEq] at h
     simpa using KV L v _ c' i hs (by omega)
theorem rM (L:Nat):∀ (v:bq) (j k c:Nat),gT L v (j+k)=some c→∃ c1 c2,gT L v j=some c1∧gT L (v.drop c1) k=some c2∧c=c1+c2
 | v,0,k,c,h=>⟨0,c,pM L v,by simpa using h,by simp⟩
 | [],j+1,k,c,h=>by
  rw [show j+1+k=(j+k)+1 by omega] at h
  simp [gT] at h
 | n::v,j+1,k,c,h=>by
  rw [show j+1+k=(j+k)+1 by omega,gT] at h
  split at h
  · cases h
  · rename_i hn
    cases hs:gT L v (j+k+n.many.toNat) with
    | none=>rw [hs] at h;simp at h
    | some c'=>
     rw [hs] at h
     simp only [Option.map_some,Option.some.injEq] at h
     rw [show j+k+n.many.toNat=(j+n.many.toNat)+k by omega] at hs
     obtain ⟨c1,c2,h1,h2,rfl⟩:=rM L v _ k c' hs
     refine ⟨c1+1,c2,?_,by simpa using h2,by omega⟩
     rw [gT,if_neg hn,h1];rfl
theorem lT (L:Nat):∀ (v:bq) (k c:Nat),skip v k=some c→c≤L→gT L v k=some c
 | v,0,c,h,_=>by cases v <;> simpa [gT,skip] using h
 | [],k+1,c,h,_=>by simp [skip] at h
 | n::v,k+1,c,h,hc=>by
  obtain ⟨hm,c',rfl,h'⟩:=cu h
  have:=dG _ _ _ h'
  rw [gT,if_neg (by omega),lT L v _ c' h' (by omega)];rfl
def pU (t:bq) (i:Nat):bq:=match skip (t.drop i) 1 with | some c=>(t.drop i).take c | none=>[]
theorem tX {t:bq}{i:Nat}{x:fK}(ho:One t) (hx:t[i]?=some x):∃ ps c,0≤x.many∧x.many≤t.length∧parts x.many.toNat (t.drop (i+1))=some ps∧skip (t.drop (i+1)) x.many.toNat=some c∧ps.flatten=(t.drop (i+1)).take c∧(∀ p ∈ ps,One p)∧
  pU t i=x::ps.flatten∧i+1+c≤t.length:=by
 obtain ⟨hi,rfl⟩:=List.getElem?_eq_some_iff.1 hx
 obtain ⟨c,hc⟩:=ho.at hi
 have hc0:=hc
 rw [drop_eq_getElem_cons hi] at hc
 obtain ⟨hm,c',rfl,h'⟩:=cu (k:=0) hc
 rw [Nat.zero_add] at h'
 obtain ⟨ps,h1,h2,h3⟩:=eu _ _ _ h'
 have hl:=dG _ _ _ h'
 rw [length_drop] at hl
 refine ⟨ps,c',hm,by omega,h1,h',h2,h3,?_,by omega⟩
 unfold pU
 rw [hc0]
 simp only
 rw [drop_eq_getElem_cons hi,List.take_succ_cons,h2]
end Y
def l6 (x:fK):Option (List UInt8)→List bq→Bool
 | _,[]=>true
 | prev,p::ps=>D6 x p && (x.kind !=2 || (match prev with | none=>true | some a=>Op.bytesLess a (Y.nameOf p))) && l6 x (some (Y.nameOf p)) ps
theorem O8 (x:fK):∀ (ps:List bq) (prev:Option (List UInt8)),l6 x prev ps=(ps.all (D6 x) && (x.kind !=2 || zM ((match prev with | none=>[] | some a=>[a])++ps.map Y.nameOf)))
 | [],prev=>by cases prev <;> simp [l6,zM]
 | p::ps,prev=>by
  have ih:=O8 x ps (some (Y.nameOf p))
  simp only [l6,ih,List.all_cons,List.map_cons]
  cases prev with
  | none=>
   simp only [nil_append,cons_append]
   cases D6 x p <;> cases ps.all (D6 x) <;> cases (x.kind !=2) <;> simp
  | some a=>
   simp only [nil_append,cons_append]
   rw [zM]
   cases D6 x p <;> cases ps.all (D6 x) <;> cases (x.kind !=2) <;> simp
theorem Vs (x:fK) (ps:List bq):l6 x none ps=Dh x ps:=by
 rw [O8];rfl
def zD (t:bq) (i:Nat):Bool:=match t.drop i with
 | n::r=>(match Y.parts n.many.toNat r with | some ps=>Dh n ps | none=>false)
 | []=>true
def j6 (t:bq) (i:Nat):Bool:=match t.drop i with
 | n::r=>(match Y.parts n.many.toNat r with | some ps=>Jm iO n ps | none=>false)
 | []=>true
theorem Rz {t:bq}{i:Nat}{n:fK}(hi:t[i]?=some n):Y.fq (qD bH iO) (t.drop i)=(dz bH n && zD t i && j6 t i && Y.fq (qD bH iO) (t.drop (i+1))):=by
 have hl:=(List.getElem?_eq_some_iff.1 hi).1
 have hd:=drop_eq_getElem_cons hl
 rw [List.getElem?_eq_getElem hl] at hi
 cases hi
 simp only [zD,j6,hd,Y.fq]
 cases Y.parts (t[i]).many.toNat (t.drop (i+1)) with
 | none=>simp
 | some ps=>simp [qD]
def jD (t:bq) (i:Nat) (p:List Stp):Int:=match qV p (Y.pU t i) with
 | some j=>(i+j:Nat)
 | none=>-1
theorem GR:∀ (p:List Stp) (t:bq) (j:Nat),Y.One t→qV p t=some j→j<t.length
 | [],t,j,ho,h=>by
  simp only [qV,Option.some.injEq] at h
  subst h
  exact List.length_pos_iff.2 ho.ne
 | s::p,[],j,ho,_=>absurd rfl ho.ne
 | s::p,x::r,j,ho,h=>by
  obtain ⟨hm,ps,h1,h2,h3⟩:=ho.parts
  have hp:Y.partsOf x r=ps:=by simp [Y.partsOf,h1]
  simp only [qV,hp] at h
  split at h
  · cases hf:uG s.name 1 ps with
    | none=>rw [hf] at h;cases h
    | some oq=>
     obtain ⟨o,q⟩:=oq
     rw [hf] at h
     simp only [Option.map_eq_some_iff] at h
     obtain ⟨k,hk,rfl⟩:=h
     have gen:∀ (qs:List bq) (o0:Nat),uG s.name o0 qs=some (o,q)→q ∈ qs∧o+q.length≤o0+qs.flatten.length:=by
      intro qs
      induction qs with
      | nil=>intro o0 h;simp [uG] at h
      | cons a t ih=>
       intro o0 h
       simp only [uG] at h
       split at h
       · simp only [Option.some.injEq,Prod.mk.injEq] at h
         obtain ⟨rfl,rfl⟩:=h
         exact ⟨List.mem_cons_self ..,by simp only [flatten_cons,List.length_append];omega⟩
       · obtain ⟨g1,g2⟩:=ih _ h
         exact ⟨List.mem_cons_of_mem _ g1,by simp only [flatten_cons,List.length_append];omega⟩
     obtain ⟨g1,g2⟩:=gen ps 1 hf
     have:=GR p q k (h3 q g1) hk
     rw [h2] at g2
     simp only [List.length_cons]
     omega
  · cases h
theorem XV {t:bq}{i:Nat}{p:List Stp}(ho:Y.One t) (hi:i<t.length):jD t i p<t.length∧(0≤jD t i p∨jD t i p=-1):=by
 unfold jD
 cases h:qV p (Y.pU t i) with
 | none=>
  show (-1:Int)<t.length∧(0≤(-1:Int)∨(-1:Int)=-1)
  exact ⟨by omega,.inr rfl⟩
 | some j=>
  obtain ⟨ps,c,_,_,_,_,h5,h6,h7,h8⟩:=Y.tX ho (List.getElem?_eq_getElem hi)
  have hs:(Y.pU t i).length=1+c:=by
   rw [h7,List.length_cons,h5,length_take,length_drop];omega
  have hone:Y.One (Y.pU t i):=by
   rw [h7]
   exact Y.One.made (by
    have:=Y.bQ _ _ _ ‹Y.parts _ _=some ps›
    omega) h6
  have:=GR p _ j hone h
  simp only
  omega
theorem Zc {t:bq}{i j:Nat}(ho:Y.One t) (hi:i<t.length) (hj:j<(Y.pU t i).length):(Y.pU t i)[j]?=t[i+j]?:=by
 obtain ⟨ps,c,_,_,_,_,h5,h6,h7,h8⟩:=Y.tX ho (List.getElem?_eq_getElem hi)
 have e:Y.pU t i=(t.drop i).take (c+1):=by rw [h7,h5,drop_eq_getElem_cons hi,List.take_succ_cons]
 rw [e] at hj ⊢
 rw [length_take,length_drop] at hj
 rw [List.getElem?_take,if_pos (by omega),List.getElem?_drop]
theorem sub_one {t:bq}{i:Nat}(ho:Y.One t) (hi:i<t.length):Y.One (Y.pU t i):=by
 obtain ⟨ps,c,_,_,h3,_,h5,h6,h7,h8⟩:=Y.tX ho (List.getElem?_eq_getElem hi)
 rw [h7]
 exact Y.One.made (by have:=Y.bQ _ _ _ h3;omega) h6
theorem XW {t:bq}{i:Nat}{p:List Stp}(ho:Y.One t) (hi:i<t.length):(VY p (Y.pU t i)).isSome=true↔0≤jD t i p∧∃ x,t[(jD t i p).toNat]?=some x∧x.kind=1:=by
 unfold VY jD
 cases h:qV p (Y.pU t i) with
 | none=>simp
 | some j=>
  have hj:=GR p _ j (sub_one ho hi) h
  have hr:=Zc ho hi hj
  simp only [Int.toNat_natCast]
  rw [hr]
  constructor
  · intro hs
    split at hs
    · rename_i hk
      cases hx:t[i+j]? with
      | none=>rw [hx] at hk;simp at hk
      | some x=>rw [hx] at hk;exact ⟨by omega,x,rfl,by simpa using hk⟩
    · cases hs
  · rintro ⟨_,x,hx,hk⟩
    rw [hx,Option.map_some,hk]
    rfl
def fG (t:bq):Bool:=!t.isEmpty && Y.nameOf t==[] && Y.kindOf t !=9 && (Y.gT t.length t 1==some t.length) && Y.fq (qD bH iO) t
def qB (t:bq):Bool:=fG t && Y.fq Ht t
theorem JY {t:bq}(h:fG t=true):PX bH iO t:=by
 simp only [fG,Bool.and_eq_true,beq_iff_eq,bne_iff_ne] at h
 obtain ⟨⟨⟨⟨_,h1⟩,h2⟩,h3⟩,h4⟩:=h
 exact ⟨Y.ny _ _ _ _ h3,h1,h2,(Y.kW t).1 h4⟩
theorem Vt {pk:List UInt8→Bool}{BN:List UInt8→List Stp}{n:fK}{ps:List bq}(hk:n.kind=1) (XY:Dh n ps=true) (ho:∀ p ∈ ps,Y.One p) (hg:∀ p ∈ ps,Y.Good (qD pk BN) p) :
  ps.flatten.length=ps.length∧∀ x ∈ ps.flatten,nT (jy x)=true∧x.kind=9∧x.s=[]∧x.many=0:=by
 have hone:∀ p ∈ ps,∃ x,p=[x]∧x.kind=9∧x.s=[]∧x.many=0∧nT (jy x)=true:=fun p hp=>by
  refine TS (ho p hp) (hg p hp) ?_
  simp only [Dh,Bool.and_eq_true,List.all_eq_true] at XY
  have:=XY.1 p hp
  simp only [D6,Bool.and_eq_true,hk] at this
  have h9:=this.1.1
  simpa using h9
 clear XY ho hg
 induction ps with
 | nil=>exact ⟨rfl,fun x hx=>by cases hx⟩
 | cons q qs ih=>
  obtain ⟨i1,i2⟩:=ih fun p hp=>hone p (List.mem_cons_of_mem _ hp)
  obtain ⟨x,rfl,x1,x2,x3,x4⟩:=hone q (List.mem_cons_self ..)
  refine ⟨by simp [i1],fun y hy=>?_⟩
  simp only [flatten_cons,cons_append,nil_append,List.mem_cons] at hy
  rcases hy with rfl | hy
  · exact ⟨x4,x1,x2,x3⟩
  · exact i2 y hy
theorem TA {t:bq}{i:Nat}{n:fK}(hr:PX bH iO t) (hn:t[i]?=some n) (hk:n.kind=1) :
  ∃ ps,Y.parts n.many.toNat (t.drop (i+1))=some ps∧ps.flatten=(t.drop (i+1)).take n.many.toNat∧0≤n.many∧i+1+n.many.toNat≤t.length∧1≤n.n∧n.n≤31∧∀ x ∈ ps.flatten,nT (jy x)=true:=by
 obtain ⟨hi,rfl⟩:=List.getElem?_eq_some_iff.1 hn
 obtain ⟨ps,c,h1,h2,h3,h4,h5,h6,h7,h8⟩:=Y.tX hr.one (List.getElem?_eq_getElem hi)
 obtain ⟨qs,q1,q2⟩:=hr.good i t[i] (t.drop (i+1)) (drop_eq_getElem_cons hi)
 rw [h3] at q1;cases q1
 simp only [qD,Bool.and_eq_true] at q2
 have hgs:Y.Good (qD bH iO) ps.flatten:=by
  have hg0:=hr.good
  rw [← List.take_append_drop (i+1) t] at hg0
  have hg1:=hg0.suf
  rw [← List.take_append_drop c (t.drop (i+1)),← h5] at hg1
  have hone:Y.skip ps.flatten ps.length=some ps.flatten.length:=Y.jP ps h6
  intro j m s hd
  obtain ⟨qs,e1,e2⟩:=hg1 j m (s++(t.drop (i+1)).drop c) (Y.uT hd)
  have hj:j<ps.flatten.length:=by
   rcases Nat.lt_or_ge j ps.flatten.length with h | h
   · exact h
   · rw [List.drop_eq_nil_of_le h] at hd;cases hd
  obtain ⟨k',c',hk'⟩:=Y.oK ps.flatten ps.length _ j hone hj
  rw [hd] at hk'
  obtain ⟨_,c2,rfl,hk2⟩:=Y.cu hk'
  obtain ⟨ca,cb,hka,_,_⟩:=Y.nA _ m.many.toNat k' c2 (by rw [Nat.add_comm];exact hk2)
  obtain ⟨rs,r1,_,_⟩:=Y.eu _ _ _ hka
  have:=Y.gZ _ _ ((t.drop (i+1)).drop c) _ r1
  rw [e1] at this;cases this
  exact ⟨qs,r1,e2⟩
 obtain ⟨a1,a2⟩:=Vt hk q2.1.2 h6 (Y.Good.kN ps h6 hgs)
 have hpl:=Y.bQ _ _ _ h3
 have hcl:ps.flatten.length=c:=by rw [h5,length_take,length_drop];omega
 have hc:c=(t[i]).many.toNat:=by omega
 have hp:=q2.1.1
 simp only [dz,hk,Int.reduceEq,if_false,if_true,Bool.and_eq_true,decide_eq_true_eq] at hp
 exact ⟨ps,h3,by rw [h5,hc],h1,by omega,hp.1.1.1.2,hp.1.1.2,fun x hx=>(a2 x hx).1⟩
def xh (t:bq) (i:Nat):Bool:=match t.drop i with
 | n::r=>(match Y.parts n.many.toNat r with | some ps=>Ht n ps | none=>false)
 | []=>true
theorem RA {t:bq}{i:Nat}{n:fK}(hi:t[i]?=some n):Y.fq Ht (t.drop i)=(xh t i && Y.fq Ht (t.drop (i+1))):=by
 have hl:=(List.getElem?_eq_some_iff.1 hi).1
 have hd:=drop_eq_getElem_cons hl
 rw [List.getElem?_eq_getElem hl] at hi
 cases hi
 simp only [xh,hd,Y.fq]
 rfl
end Lp
set_option maxRecDepth 100000
namespace Lp
open Go Go.Proofs
set_option maxHeartbeats 4000000
def pV (v:bq) (i:Nat):Int:=match Y.gT v.length (v.drop i) 1 with
 | some c=>(i+c:Nat)
 | none=>-1
theorem zF {v:bq}{i:Nat}(h:(Y.gT v.length (v.drop i) 1).map (fun c=>i+c)=none):pV v i=-1:=by
 unfold pV
 cases hx:Y.gT v.length (v.drop i) 1 with
 | none=>rfl
 | some c=>rw [hx] at h;simp at h
theorem GU {v:bq}{i j:Nat}(h:(Y.gT v.length (v.drop i) 1).map (fun c=>i+c)=some j):pV v i=j:=by
 unfold pV
 cases hx:Y.gT v.length (v.drop i) 1 with
 | none=>rw [hx] at h;simp at h
 | some c=>rw [hx] at h;simp only [Option.map_some,Option.some.injEq] at h;rw [← h]
theorem JZ (L:Nat) (v:bq):Y.gT L v 0=some 0:=by cases v <;> rfl
theorem RB (v:bq) (i:Nat) (hi:i≤v.length) (hl:v.length≤1000000):ah Tryz.prog 45 [aH v,.int .i64 i] [] (.int .i64 (pV v i)) []:=by
 refine Bq.aZ (T:=aO Tryz.prog []) 0 hD (aj ai) aT (by decide) fun Q hQ=>?_
 (conv=>arg 4;cbv);simp(maxSteps:=400000)only[↓ax,ay,BEq.rfl,reduceIte,reduceCtorEq,Nat.reduceLT,Nat.reduceAdd,Nat.reduceSub,Nat.reduceMul,Nat.reduceBEq,Nat.reduceLeDiff,Int.reduceToNat,Int.reduceLE,hQ]
 refine aF (fun m S=>∃ j k:Nat,j+m=v.length∧k≤1+j*1000000∧(Y.gT v.length (v.drop i) 1).map (fun c=>i+c)=(Y.gT v.length (v.drop j) k).map (fun c=>j+c)∧
  S=⟨cO 41 [(0,aH v),(1,.int .i64 j),(5,.int .i64 k)],[]⟩) (v.length-i) ⟨i,1,by omega,by omega,rfl,?_⟩ ?_
 · simp only [bI,keepR,Nat.reduceAdd,kT,Nat.reduceBEq,List.map_nil]
   rfl
 rintro m S ⟨j,k,hjm,hk,hn,rfl⟩
 rcases Nat.lt_or_ge j v.length with h | h
 · have hg:=List.getElem?_eq_getElem h
   have hd:=List.drop_eq_getElem_cons h
   generalize v[j]=n at hg hd
   simp(maxSteps:=400000)only[↓ax,ay,BEq.rfl,reduceIte,reduceCtorEq,Nat.reduceLT,Nat.reduceAdd,Nat.reduceSub,Nat.reduceMul,Nat.reduceBEq,Nat.reduceLeDiff,Int.reduceToNat,Int.reduceLE,hQ,hg]
   refine ⟨fun hk0=>⟨fun h'=>absurd h' (by omega),fun _=>⟨by omega,fun hm=>?_,fun hm=>⟨by omega,fun hm2=>?_,fun hm2=>?_⟩⟩⟩,fun hk0=>?_⟩
   · obtain ⟨k,rfl⟩:∃ q,k=q+1:=⟨k-1,by omega⟩
     rw [hd,Y.gT,if_pos (.inl hm)] at hn
     rw [zF hn]
   · obtain ⟨k,rfl⟩:∃ q,k=q+1:=⟨k-1,by omega⟩
     rw [hd,Y.gT,if_pos (.inr hm2)] at hn
     rw [zF hn]
   · obtain ⟨k,rfl⟩:∃ q,k=q+1:=⟨k-1,by omega⟩
     rw [hd,Y.gT,if_neg (by omega)] at hn
     have hk2:(((k+1:Nat):Int)-1+n.many)=((k+n.many.toNat:Nat):Int):=by omega
     refine ⟨⟨by omega,by omega⟩,by omega,⟨by omega,by omega⟩,⟨by omega,by omega⟩,m-1,by omega,j+1,k+n.many.toNat,by omega,by omega,?_,?_⟩
     · rw [hn]
       cases Y.gT v.length (v.drop (j+1)) (k+n.many.toNat) with
       | none=>rfl
       | some c=>simp;omega
     · rw [hk2];rfl
   · have hk1:k=0:=by omega
     subst hk1
     rw [JZ] at hn
     rw [GU (j:=j) (by simpa using hn)]
 · simp(maxSteps:=400000)only[↓ax,ay,BEq.rfl,reduceIte,reduceCtorEq,Nat.reduceLT,Nat.reduceAdd,Nat.reduceSub,Nat.reduceMul,Nat.reduceBEq,Nat.reduceLeDiff,Int.reduceToNat,Int.reduceLE,hQ]
   refine ⟨fun hk0=>⟨fun _=>?_,fun h'=>absurd (by omega) h'⟩,fun hk0=>?_⟩
   · obtain ⟨k,rfl⟩:∃ q,k=q+1:=⟨k-1,by omega⟩
     rw [List.drop_eq_nil_of_le h] at hn
     simp only [Y.gT,Option.map_none] at hn
     rw [zF hn]
   · have hk1:k=0:=by omega
     subst hk1
     rw [JZ] at hn
     rw [GU (j:=j) (by simpa using hn)]
theorem O9 (v:bq) (i:Int) (h0:0≤i) (hi:i.toNat≤v.length) (hl:v.length≤1000000):ah Tryz.prog 45 [aH v,.int .i64 i] [] (.int .i64 (pV v i.toNat)) []:=by
 have e:i=(i.toNat:Int):=by omega
 rw [e]
 exact RB v i.toNat hi hl
def eH:dF:=fun args objs K=>match args with
 | [a0,.int .i64 i]=>f_ aH a0 (HK.mk:HK fun v=>(0≤i)∧(i.toNat≤v.length)∧(v.length≤1000000)∧K (.int .i64 (pV v i.toNat)) objs 0)
 | _=>False
theorem l7:aD Tryz.prog 45 (eH):=by
 intro args objs K h
 unfold eH at h
 split at h
 · rename_i a0 i
   obtain ⟨v,rfl,h1,h2,h3,hk⟩:=h
   exact ⟨_,_,_,.pure _ rfl (O9 v i h1 h2 h3),hk⟩
 · exact h.elim
theorem v_ {t:bq}{i c:Nat}(h:Y.gT t.length (t.drop i) 1=some c):pV t i=(i+c:Nat):=by
 simp only [pV,h]
theorem sw (objs:List Obj) (K:KT) :
  (∀ k m nm,bE D 44 [(0,.int .i64 k),(1,.int .i64 m),(2,.str nm)] objs K=K (bB ⟨k,m,nm,[],0,aW⟩) objs 0)∧
  (∀ k n m,bE D 44 [(0,.int .i64 k),(4,.int .i64 n),(1,.int .i64 m)] objs K=K (bB ⟨k,m,[],[],n,aW⟩) objs 0)∧
  (∀ k n c,bE D 44 [(0,.int .i64 k),(4,.int .i64 n),(5,au c)] objs K=K (bB ⟨k,0,[],[],n,c⟩) objs 0)∧
  (∀ k n,bE D 44 [(0,.int .i64 k),(4,.int .i64 n)] objs K=K (bB ⟨k,0,[],[],n,aW⟩) objs 0)∧
  (∀ k,bE D 44 [(0,.int .i64 k)] objs K=K (bB ⟨k,0,[],[],0,aW⟩) objs 0)∧
  (bE D 44 [] objs K=K (bB ⟨0,0,[],[],0,aW⟩) objs 0):=by
 have z:aK (D 44)=bB ⟨0,0,[],[],0,aW⟩:=by kernel_rfl
 have a:(D 44).agg=true:=by kernel_rfl
 simp only [bS] at z a
 refine ⟨fun k m nm=>?_,fun k n m=>?_,fun k n c=>?_,fun k n=>?_,fun k=>?_,?_⟩
 all_goals
  simp [bE,mJ,a,z,bS,nK,bB,au,aW,PV.isAgg,sM,PV.cells,PV.storable,PV.mr,PV.pure]
theorem iE:PV.uW (.agg ⟨[.int .i64 0,.int .i64 0,.string ⟨⟨[]⟩⟩,.string ⟨⟨[]⟩⟩,.int .i64 0,.int .i64 0,.int .i64 0,.string ⟨⟨[]⟩⟩,.string ⟨⟨[]⟩⟩,.bool false,.int .i64 0]⟩)=bB ⟨0,0,[],[],0,aW⟩:=rfl
theorem atB (objs:List Obj) (K:KT):(∀ n c,bE D 87 [(0,.int .i64 n),(1,au c)] objs K=K (dK ⟨n,c⟩) objs 0):=by
 have z:aK (D 87)=dK ⟨0,aW⟩:=by kernel_rfl
 have a:(D 87).agg=true:=by kernel_rfl
 simp only [bS] at z a
 intro n c
 simp [bE,mJ,a,z,bS,nK,dK,au,aW,PV.isAgg,sM,PV.cells,PV.storable,PV.mr,PV.pure]
theorem iI (a:fK) (k m:Int) (nm s:List UInt8) (n ck cm:Int) (cn cs:List UInt8) (cg:Bool) (ce:Int):(bB a).putCells 0 [.int .i64 k,.int .i64 m,.str nm,.str s,.int .i64 n,.int .i64 ck,.int .i64 cm,.str cn,.str cs,.bool cg,.int .i64 ce]=bB ⟨k,m,nm,s,n,⟨ck,cm,cn,cs,cg,ce⟩⟩:=rfl
theorem Bv:(∀ x:fK,PV.agg [.int .i64 x.kind,.int .i64 x.many,.str x.name,.str x.s,.int .i64 x.n,.int .i64 x.c.kind,.int .i64 x.c.many,.str x.c.name,.str x.c.s,.bool x.c.neg,.int .i64 x.c.e]=bB x)∧
  (∀ (x:fK) nm,PV.agg [.int .i64 x.kind,.int .i64 x.many,.str nm,.str x.s,.int .i64 x.n,.int .i64 x.c.kind,.int .i64 x.c.many,.str x.c.name,.str x.c.s,.bool x.c.neg,.int .i64 x.c.e]=bB { x with name:=nm }):=⟨fun _=>rfl,fun _ _=>rfl⟩
theorem bC (n:Nd):Nd.mk n.kind n.many n.name n.s n.neg n.e=n:=rfl
theorem dY (x:fK):fK.mk x.kind x.many x.name x.s x.n x.c=x:=rfl
theorem aa7:PV.uW (.agg ⟨[.int .i64 0,.int .i64 0,.int .i64 0,.string ⟨⟨[]⟩⟩,.string ⟨⟨[]⟩⟩,.bool false,.int .i64 0]⟩)=dK ⟨0,aW⟩:=rfl
theorem LX (v:List lG) (ver:Nat) (t:TypeId) (rest:List Obj):eY 1 0 (⟨t,7,v.map dK,true,ver⟩::rest) (.aX 0 ver)=bP v:=by
 have:(v.map dK).map (PV.bF (fM 0 0 (⟨t,7,v.map dK,true,ver⟩::rest)))=v.map dK:=by
  rw [List.map_map];exact List.map_congr_left fun x _=>rfl
 simp only [eY,Nat.not_lt_zero,if_false,fM,List.getElem?_cons_zero,Nat.le_refl,decide_true,Bool.true_and,beq_self_eq_true,if_true,this]
 rfl
theorem RD:∀ d X v,eY d 1 X (.aX 0 v)=.aX 0 v:=fun _ _ _=>rfl
end Lp
set_option maxRecDepth 100000
namespace Lp
open Go Go.Proofs
section
variable {P:Program}
theorem O_ {w:World}{d:Nat}{ok:Nat→Prop}{xs ys:Array Value}{gs:List Field}{r2:Bool}(hg:(Op.eqFields (d+1) xs ys gs).run P w=.ok r2 w):∀ (fs:List Field) (k:Nat) (aa bs:List PV) (r:Bool),vH P k fs aa bs=true→BO aa bs=some r→
  (∀ i p,aa[i]?=some p→∃ v,xs[k+i]?=some v∧dA w ok p v)→(∀ i p,bs[i]?=some p→∃ v,ys[k+i]?=some v∧dA w ok p v)→
  (Op.eqFields (d+1) xs ys (fs++gs)).run P w=.ok (r && r2) w
 | [],k,aa,bs,r,hf,he,_,_=>by
  cases aa <;> cases bs <;> simp [vH] at hf
  simp only [BO,Option.some.injEq] at he
  subst he
  simpa using hg
 | f::fs,k,aa,bs,r,hf,he,ha,hb=>by
  cases aa with
  | nil=>cases bs <;> simp [vH] at hf
  | cons p aa=>
   cases bs with
   | nil=>simp [vH] at hf
   | cons q bs=>
    simp only [vH,Bool.and_eq_true,beq_iff_eq,bne_iff_ne] at hf
    obtain ⟨⟨⟨hn,ho⟩,ht⟩,hr⟩:=hf
    obtain ⟨v,hv,rv⟩:=ha 0 p rfl
    obtain ⟨u,hu,ru⟩:=hb 0 q rfl
    obtain ⟨b,hb1,hb2,e,he1,he2⟩:=WZ (d:=d) ht rv ru
    simp only [BO,hb1] at he
    cases hq:BO aa bs with
    | none=>rw [hq] at he;simp at he
    | some r'=>
     rw [hq] at he
     simp only [Option.some.injEq] at he
     subst he
     have ih:=O_ (w:=w) (d:=d) (ok:=ok) (xs:=xs) (ys:=ys) hg fs (k+1) aa bs r' hr hq (fun i p h=>by have:=ha (i+1) p (by simpa using h);rwa [show k+(i+1)=k+1+i by omega] at this) (fun i p h=>by have:=hb (i+1) p (by simpa using h);rwa [show k+(i+1)=k+1+i by omega] at this)
     have p1:=Ar (w:=w) (xs:=xs) (o:=f.offset) he1 he2 (by rw [ho];simpa using hv)
     have p2:=Ar (w:=w) (xs:=ys) (o:=f.offset) he1 he2 (by rw [ho];simpa using hu)
     simp only [List.cons_append,Op.eqFields,ne_eq,hn,not_false_eq_true,if_true,Sem.run_bind,p1,Result.andThen_ok,p2,hb2]
     cases b
     · simp
     · simpa using ih
theorem TB:∀ {a1 b1 a2 b2:List PV}{r:Bool},a1.length=b1.length→BO (a1++a2) (b1++b2)=some r→∃ r1 r2,BO a1 b1=some r1∧BO a2 b2=some r2∧r=(r1 && r2)
 | [],[],a2,b2,r,_,h=>⟨true,r,rfl,h,by simp⟩
 | [],_::_,_,_,_,hl,_=>by simp at hl
 | _::_,[],_,_,_,hl,_=>by simp at hl
 | p::a1,q::b1,a2,b2,r,hl,h=>by
  simp only [List.cons_append,BO] at h
  cases hs:Zv p q with
  | none=>rw [hs] at h;simp at h
  | some x=>
   cases ht:BO (a1++a2) (b1++b2) with
   | none=>rw [hs,ht] at h;simp at h
   | some y=>
    rw [hs,ht] at h
    simp only [Option.some.injEq] at h
    obtain ⟨r1,r2,h1,h2,rfl⟩:=TB (by simpa using hl) ht
    refine ⟨x && r1,r2,by simp [BO,hs,h1],h2,?_⟩
    rw [← h,Bool.and_assoc]
theorem Vu {t:TypeId}{fs:List Field}{g:Field}{a1 a2 b1 b2:List PV}(hgd:P.eqGuardType P.depth t=false) (ht:P.underlying t=some (.struct (P.fieldsOf t))) (hp:P.stoodInHeld t=false)
  (hfs:(P.fieldsOf t).toList=fs++[g]) (hf:vH P 0 fs a1 b1=true) (hn:g.name≠ "_") (ho:g.offset=a1.length) (hl1:a1.length=b1.length) (hl2:a2.length=b2.length)
  (hu:P.underlying g.type=some (.struct (P.fieldsOf g.type))) (hp2:P.stoodInHeld g.type=false) (hs:∀ w,(Go.sizeOf g.type).run P w=.ok a2.length w) (hf2:vH P 0 (P.fieldsOf g.type).toList a2 b2=true) :
  Hy P t (a1++a2) (b1++b2):=by
 refine ⟨hgd,fun w ok vs us r hr h1 h2=>?_⟩
 obtain ⟨r1,r2,e1,e2,rfl⟩:=TB hl1 hr
 have e:Op.equal t (.agg ⟨vs⟩) (.agg ⟨us⟩)=Op.equalIn (9999+1) t (.agg ⟨vs⟩) (.agg ⟨us⟩):=rfl
 rw [e,run_equalIn_struct w 9999 t _ _ ht hp,hfs]
 have get:∀ {xs:List Value}{c1 c2:List PV},b_ (dA w ok) (c1++c2) xs→(∀ i p,c1[i]?=some p→∃ v,(⟨xs⟩:Array Value)[0+i]?=some v∧dA w ok p v)∧(∀ i p,c2[i]?=some p→∃ v,(⟨xs⟩:Array Value)[c1.length+i]?=some v∧dA w ok p v):=by
  intro xs c1 c2 h
  have hlen:=h.1
  rw [List.length_append] at hlen
  constructor
  · intro i p hi
    have hlt:=(List.getElem?_eq_some_iff.1 hi).1
    have hv:xs[i]?=some (xs[i]'(by omega)):=List.getElem?_eq_getElem _
    exact ⟨_,by simpa using hv,h.2 i p _ (by rw [List.getElem?_append_left hlt];exact hi) hv⟩
  · intro i p hi
    have hlt:=(List.getElem?_eq_some_iff.1 hi).1
    have hv:xs[c1.length+i]?=some (xs[c1.length+i]'(by omega)):=List.getElem?_eq_getElem _
    exact ⟨_,by simpa using hv,h.2 _ p _ (by rw [List.getElem?_append_right (by omega)];simpa using hi) hv⟩
 obtain ⟨g1,g2⟩:=get h1
 obtain ⟨k1,k2⟩:=get h2
 refine O_ (d:=9998) (ok:=ok) ?_ fs 0 a1 b1 r1 hf e1 g1 k1
 have pt:∀ xs:Array Value,(part g.type xs g.offset).run P w=.ok (.agg (xs.extract g.offset (g.offset+a2.length))) w:=fun xs=>by
  simp [part,isAgg,run_underlying hu,hs]
 have ext:∀ {xs:Array Value}{c:List PV},c.length=a2.length→(∀ i p,c[i]?=some p→∃ v,xs[g.offset+i]?=some v∧dA w ok p v)→∀ i p,c[i]?=some p→∃ v,(xs.extract g.offset (g.offset+a2.length))[0+i]?=some v∧dA w ok p v:=by
  intro xs c hc h i p hi
  have hlt:=(List.getElem?_eq_some_iff.1 hi).1
  obtain ⟨v,q1,q2⟩:=h i p hi
  refine ⟨v,?_,q2⟩
  have hx:=(Array.getElem?_eq_some_iff.1 q1).1
  rw [Nat.zero_add,Array.getElem?_extract,if_pos (by omega)]
  exact q1
 have hin:=KR (d:=9997) (w:=w) (ok:=ok) (xs:=Array.extract ⟨vs⟩ g.offset (g.offset+a2.length)) (ys:=Array.extract ⟨us⟩ g.offset (g.offset+a2.length)) _ 0 a2 b2 r2 hf2 e2
  (ext rfl (by rw [ho];exact g2)) (ext hl2.symm (by rw [ho,hl1];exact k2))
 have hst:=run_equalIn_struct w 9998 g.type (Array.extract ⟨vs⟩ g.offset (g.offset+a2.length)) (Array.extract ⟨us⟩ g.offset (g.offset+a2.length)) hu hp2
 have hst':(Op.equalIn (9998+1) g.type (.agg (Array.extract ⟨vs⟩ g.offset (g.offset+a2.length))) (.agg (Array.extract ⟨us⟩ g.offset (g.offset+a2.length)))).run P w=.ok r2 w:=hst.trans hin
 simp only [Op.eqFields,ne_eq,hn,not_false_eq_true,if_true,Sem.run_bind,pt,Result.andThen_ok,hst']
 cases r2 <;> simp
end
theorem ach (a b:fK):Hy Tryz.prog 44 (bB a).cells (bB b).cells:=by
 have h:(Tryz.prog.fieldsOf 44).toList.map (fun f=>(f.name != "_",f.offset,f.type))=[(true,0,3),(true,1,3),(true,2,9),(true,3,9),(true,4,3),(true,5,42)]:=by kernel_rfl
 generalize hfs:(Tryz.prog.fieldsOf 44).toList=fs at h
 obtain _ | ⟨f0,_ | ⟨f1,_ | ⟨f2,_ | ⟨f3,_ | ⟨f4,_ | ⟨f5,_ | ⟨f6,fr⟩⟩⟩⟩⟩⟩⟩:=fs
 all_goals simp only [List.map_cons,List.map_nil,List.cons.injEq,Prod.mk.injEq,and_true,reduceCtorEq,and_false] at h
 obtain ⟨⟨a0,b0,c0⟩,⟨a1,b1,c1⟩,⟨a2,b2,c2⟩,⟨a3,b3,c3⟩,⟨a4,b4,c4⟩,⟨a5,b5,c5⟩⟩:=h
 have u3:Tryz.prog.underlying 3=some (.int .i64):=by kernel_rfl
 have u9:Tryz.prog.underlying 9=some .string:=by kernel_rfl
 have hN:=W9 a.c b.c
 have key:=Vu (P:=Tryz.prog) (t:=44) (fs:=[f0,f1,f2,f3,f4]) (g:=f5) (a1:=[.int .i64 a.kind,.int .i64 a.many,.str a.name,.str a.s,.int .i64 a.n]) (b1:=[.int .i64 b.kind,.int .i64 b.many,.str b.name,.str b.s,.int .i64 b.n]) (a2:=(au a.c).cells) (b2:=(au b.c).cells)
  (by kernel_rfl) (by kernel_rfl) (by kernel_rfl) (by rw [hfs];rfl)
  (by simp only [vH,UK,a0,b0,c0,a1,b1,c1,a2,b2,c2,a3,b3,c3,a4,b4,c4,u3,u9,Bool.and_true,BEq.rfl,decide_true,Nat.zero_add,Nat.reduceAdd])
  (by simpa using a5) (by rw [b5];rfl) rfl rfl (by rw [c5];kernel_rfl) (by rw [c5];kernel_rfl) (fun w=>by rw [c5];have h:=(hD 42).dD (by simp [bS]) w;simp only [bS] at h;exact h) (by
   rw [c5]
   have h:(Tryz.prog.fieldsOf 42).toList.map (fun f=>(f.name != "_",f.offset,Tryz.prog.underlying f.type))=[(true,0,some (.int .i64)),(true,1,some (.int .i64)),(true,2,some .string),(true,3,some .string),(true,4,some .bool),(true,5,some (.int .i64))]:=by kernel_rfl
   generalize (Tryz.prog.fieldsOf 42).toList=fs at h
   obtain _ | ⟨f0,_ | ⟨f1,_ | ⟨f2,_ | ⟨f3,_ | ⟨f4,_ | ⟨f5,_ | ⟨f6,fr⟩⟩⟩⟩⟩⟩⟩:=fs
   all_goals simp only [List.map_cons,List.map_nil,List.cons.injEq,Prod.mk.injEq,and_true,reduceCtorEq,and_false] at h
   obtain ⟨⟨a0,b0,c0⟩,⟨a1,b1,c1⟩,⟨a2,b2,c2⟩,⟨a3,b3,c3⟩,⟨a4,b4,c4⟩,⟨a5,b5,c5⟩⟩:=h
   simp only [vH,UK,au,PV.cells,a0,b0,c0,a1,b1,c1,a2,b2,c2,a3,b3,c3,a4,b4,c4,a5,b5,c5,Bool.and_true,BEq.rfl,decide_true,Nat.zero_add,Nat.reduceAdd])
 exact key
end Lp
set_option maxRecDepth 100000
namespace Lp
open Go Go.Proofs
open Nat (lt_or_ge reduceAdd reduceLeDiff reduceMul reduceSub)
open Int (reduceLE reduceToNat)
set_option maxHeartbeats 4000000
def jr (n:fK):Bool:=decide (n.s.length≤100) && decide (n.name.length≤100) && decide (n.c.s.length≤100)
theorem RF (t:bq) (k:Nat) (hk:k≤1000000) (hl:t.length≤4611686018427387904) (htx:∀ n ∈ t,n.s.length≤4611686018427387904∧n.name.length≤4611686018427387904∧n.c.s.length≤4611686018427387904) :
  ah Tryz.prog 25 [aH t,.int .i64 k] [] (.bool (decide (t.length≤k) && t.all jr)) []:=by
 refine zm.aZ (T:=aO Tryz.prog []) 0 hD (aj ai) aT (by decide) fun Q hQ=>?_
 (conv=>arg 4;cbv);simp(maxSteps:=400000)only[↓ax,ay,BEq.rfl,reduceIte,reduceCtorEq,Nat.reduceLT,reduceAdd,reduceSub,reduceMul,Nat.reduceBEq,reduceLeDiff,reduceToNat,reduceLE,hQ]
 refine aF (fun m S=>∃ i:Nat,i+m=t.length∧i≤k∧(∀ (j:Nat) x,j<i→t[j]?=some x→jr x=true)∧S=⟨cO 43 [(0,aH t),(1,.int .i64 k),(5,.int .i64 i)],[]⟩) t.length ⟨0,by omega,by omega,fun j x h=>absurd h (Nat.not_lt_zero j),?_⟩ ?_
 · simp only [bI,keepR,reduceAdd,kT,Nat.reduceBEq,List.map_nil]
   rfl
 rintro m S ⟨i,him,hik,hb,rfl⟩
 have zi:(0≤(i:Int))=True:=eq_true (by omega)
 rcases lt_or_ge i t.length with h | h
 · have hlt:((i:Int)<(t.length:Int))=True:=eq_true (by omega)
   have hgi:=List.getElem?_eq_getElem h
   have ac0:=htx _ (List.getElem_mem h)
   generalize t[i]=x at hgi ac0
   have no:jr x=false→(decide (t.length≤k) && t.all jr)=false:=fun hx=>by
    have:t.all jr=false:=by rw [List.all_eq_false];exact ⟨x,List.mem_of_getElem? hgi,by simp [hx]⟩
    simp [this]
   rcases lt_or_ge i k with g | g
   rotate_left 1
   · have hkl:((k:Int)≤(i:Int))=True:=eq_true (by omega)
     have hr:(decide (t.length≤k) && t.all jr)=false:=by
      have:decide (t.length≤k)=false:=decide_eq_false (by omega)
      simp [this]
     simp(maxSteps:=400000)only[↓ax,ay,BEq.rfl,reduceIte,reduceCtorEq,Nat.reduceLT,reduceAdd,reduceSub,reduceMul,Nat.reduceBEq,reduceLeDiff,reduceToNat,reduceLE,hQ,hlt,zi,hgi,hkl,hr]
   have hkl:((k:Int)≤(i:Int))=False:=eq_false (by omega)
   by_cases h1:x.s.length≤100
   rotate_left 1
   · have e1:((100:Int)<(x.s.length:Int))=True:=eq_true (by omega)
     have hr:=no (by simp [jr,h1])
     simp(maxSteps:=400000)only[↓ax,ay,BEq.rfl,reduceIte,reduceCtorEq,Nat.reduceLT,reduceAdd,reduceSub,reduceMul,Nat.reduceBEq,reduceLeDiff,reduceToNat,reduceLE,hQ,hlt,zi,hgi,hkl,e1,hr]
   have e1:((100:Int)<(x.s.length:Int))=False:=eq_false (by omega)
   by_cases h2:x.name.length≤100
   rotate_left 1
   · have e2:((100:Int)<(x.name.length:Int))=True:=eq_true (by omega)
     have hr:=no (by simp [jr,h2])
     simp(maxSteps:=400000)only[↓ax,ay,BEq.rfl,reduceIte,reduceCtorEq,Nat.reduceLT,reduceAdd,reduceSub,reduceMul,Nat.reduceBEq,reduceLeDiff,reduceToNat,reduceLE,hQ,hlt,zi,hgi,hkl,e1,e2,hr]
   have e2:((100:Int)<(x.name.length:Int))=False:=eq_false (by omega)
   by_cases h3:x.c.s.length≤100
   rotate_left 1
   · have e3:((100:Int)<(x.c.s.length:Int))=True:=eq_true (by omega)
     have hr:=no (by simp [jr,h3])
     simp(maxSteps:=400000)only[↓ax,ay,BEq.rfl,reduceIte,reduceCtorEq,Nat.reduceLT,reduceAdd,reduceSub,reduceMul,Nat.reduceBEq,reduceLeDiff,reduceToNat,reduceLE,hQ,hlt,zi,hgi,hkl,e1,e2,e3,hr]
   have e3:((100:Int)<(x.c.s.length:Int))=False:=eq_false (by omega)
   simp(maxSteps:=400000)only[↓ax,ay,BEq.rfl,reduceIte,reduceCtorEq,Nat.reduceLT,reduceAdd,reduceSub,reduceMul,Nat.reduceBEq,reduceLeDiff,reduceToNat,reduceLE,hQ,hlt,zi,hgi,hkl,e1,e2,e3]
   refine ⟨⟨by omega,by omega⟩,m-1,by omega,i+1,by omega,by omega,fun j y hj hy=>?_,rfl⟩
   rcases lt_or_ge j i with g' | g'
   · exact hb j y g' hy
   · have:j=i:=by omega
     subst this
     rw [hgi] at hy;cases hy
     simp [jr,h1,h2,h3]
 · have hlt:((i:Int)<(t.length:Int))=False:=eq_false (by omega)
   have hr:(decide (t.length≤k) && t.all jr)=true:=by
    have h1:decide (t.length≤k)=true:=decide_eq_true (by omega)
    have h2:t.all jr=true:=by
     rw [List.all_eq_true];intro x hx
     obtain ⟨j,hj⟩:=List.mem_iff_getElem?.1 hx
     have:=(List.getElem?_eq_some_iff.1 hj).1
     exact hb j x (by omega) hj
    rw [h1,h2];rfl
   simp(maxSteps:=400000)only[↓ax,ay,BEq.rfl,reduceIte,reduceCtorEq,Nat.reduceLT,reduceAdd,reduceSub,reduceMul,Nat.reduceBEq,reduceLeDiff,reduceToNat,reduceLE,hQ,hlt,hr]
def pW:dF:=fun args objs K=>match args with
 | [a0,.int .i64 k]=>f_ aH a0 (HK.mk:HK fun t=>(0≤k)∧(k≤1000000)∧(t.length≤4611686018427387904)∧(∀ n ∈ t,n.s.length≤4611686018427387904∧n.name.length≤4611686018427387904∧n.c.s.length≤4611686018427387904)∧K (.bool (decide (t.length≤k.toNat) && t.all jr)) objs 0)
 | _=>False
theorem IW:aD Tryz.prog 25 (pW):=by
 intro args objs K h
 unfold pW at h
 split at h
 · rename_i a0 k
   obtain ⟨t,rfl,h1,h2,h3,h4,hk⟩:=h
   exact ⟨_,_,_,.pure _ rfl ((by have:=RF t k.toNat (by omega) h3 h4;rwa [Int.toNat_of_nonneg h1] at this)),hk⟩
 · exact h.elim
end Lp
set_option maxRecDepth 100000
namespace Lp
open Go Go.Proofs
def bW:LC:=
 (.cond (.tmp 105)
        .skip
        (.seq (.reg [⟨some 107,.binOp .eql 3 (.tmp 14) (.const (.int .i64 5)) 3,none,false⟩,
         ⟨some 105,.assign (.tmp 107),none,false⟩])
        (.cond (.tmp 105)
         .skip
         (.reg [⟨some 108,.binOp .eql 3 (.tmp 14) (.const (.int .i64 6)) 3,none,false⟩,
          ⟨some 105,.assign (.tmp 108),none,false⟩]))))
def dS:LC:=
 (.cond (.tmp 117)
         .skip
         (.reg [⟨some 119,.binOp .eql 3 (.tmp 14) (.const (.int .i64 8)) 3,none,false⟩,
          ⟨some 117,.assign (.tmp 119),none,false⟩]))
def dU:LC:=
 (.cond (.tmp 117)
         (.seq (.reg [⟨some 121,.fieldAddr 44 (.tmp 1) 3,none,false⟩,
          ⟨some 122,.load 9 (.tmp 121),none,false⟩,
          ⟨some 123,.call ⟨.value (.func 72),⟨[(.tmp 122)]⟩,⟨[9]⟩⟩,none,false⟩,
          ⟨some 120,.move (.tmp 123),none,false⟩,
          ⟨some 124,.extract (.tmp 120) 0,none,false⟩,
          ⟨some 125,.extract (.tmp 120) 1,none,false⟩,
          ⟨some 4,.assign (.tmp 124),none,false⟩,
          ⟨some 5,.assign (.tmp 125),none,false⟩])
         (.seq (.reg [⟨some 126,.fieldAddr 44 (.tmp 1) 3,none,false⟩,
          ⟨some 127,.load 9 (.tmp 126),none,false⟩,
          ⟨some 128,.fieldAddr 44 (.tmp 3) 3,none,false⟩,
          ⟨none,.store 9 (.tmp 128) (.tmp 127),none,false⟩])
         (.seq (.reg [⟨some 129,.load 44 (.tmp 1),none,false⟩,
          ⟨some 130,.load 44 (.tmp 3),none,false⟩,
          ⟨some 131,.binOp .eql 44 (.tmp 129) (.tmp 130) 44,none,false⟩,
          ⟨some 132,.move (.tmp 131),none,false⟩,
          ⟨some 133,.fieldAddr 44 (.tmp 1) 1,some (some 132,true),false⟩,
          ⟨some 134,.load 3 (.tmp 133),some (some 132,true),false⟩,
          ⟨some 135,.binOp .eql 3 (.tmp 134) (.const (.int .i64 1)) 3,some (some 132,true),false⟩,
          ⟨some 136,.pick (.tmp 132) (.tmp 135) (.const (.bool false)),none,false⟩,
          ⟨some 137,.move (.tmp 136),none,false⟩,
          ⟨some 138,.move (.tmp 5),some (some 137,true),false⟩,
          ⟨some 139,.pick (.tmp 137) (.tmp 138) (.const (.bool false)),none,false⟩,
          ⟨some 2,.assign (.tmp 139),none,false⟩])
         .ret)))
         .skip)
def bX:LC:=
 (.cond (.tmp 105)
        (.seq (.reg [⟨some 109,.load 44 (.tmp 1),none,false⟩,
         ⟨some 110,.load 44 (.tmp 3),none,false⟩,
         ⟨some 111,.binOp .eql 44 (.tmp 109) (.tmp 110) 44,none,false⟩,
         ⟨some 112,.move (.tmp 111),none,false⟩,
         ⟨some 113,.fieldAddr 44 (.tmp 1) 1,some (some 112,true),false⟩,
         ⟨some 114,.load 3 (.tmp 113),some (some 112,true),false⟩,
         ⟨some 115,.binOp .eql 3 (.tmp 114) (.const (.int .i64 1)) 3,some (some 112,true),false⟩,
         ⟨some 116,.pick (.tmp 112) (.tmp 115) (.const (.bool false)),none,false⟩,
         ⟨some 2,.assign (.tmp 116),none,false⟩])
        .ret)
        (.seq (.seq (.weak (.reg [⟨some 118,.binOp .eql 3 (.tmp 14) (.const (.int .i64 7)) 3,none,false⟩,
         ⟨some 117,.assign (.tmp 118),none,false⟩]))
        dS)
        dU))
def gK:LC:=
 (.cond (.tmp 95)
       (.seq (.reg [⟨some 97,.load 44 (.tmp 1),none,false⟩,
        ⟨some 98,.load 44 (.tmp 3),none,false⟩,
        ⟨some 99,.binOp .eql 44 (.tmp 97) (.tmp 98) 44,none,false⟩,
        ⟨some 100,.move (.tmp 99),none,false⟩,
        ⟨some 101,.fieldAddr 44 (.tmp 1) 1,some (some 100,true),false⟩,
        ⟨some 102,.load 3 (.tmp 101),some (some 100,true),false⟩,
        ⟨some 103,.binOp .geq 3 (.tmp 102) (.const (.int .i64 0)) 3,some (some 100,true),false⟩,
        ⟨some 104,.pick (.tmp 100) (.tmp 103) (.const (.bool false)),none,false⟩,
        ⟨some 2,.assign (.tmp 104),none,false⟩])
       .ret)
       (.seq (.seq (.weak (.reg [⟨some 106,.binOp .eql 3 (.tmp 14) (.const (.int .i64 3)) 3,none,false⟩,
        ⟨some 105,.assign (.tmp 106),none,false⟩]))
       bW)
       bX))
def gL:LC:=
 (.cond (.tmp 72)
   (.seq (.reg [⟨some 74,.fieldAddr 44 (.tmp 1) 4,none,false⟩,
    ⟨some 75,.load 3 (.tmp 74),none,false⟩,
    ⟨some 76,.fieldAddr 44 (.tmp 3) 4,none,false⟩,
    ⟨none,.store 3 (.tmp 76) (.tmp 75),none,false⟩])
   (.seq (.reg [⟨some 77,.load 44 (.tmp 1),none,false⟩,
    ⟨some 78,.load 44 (.tmp 3),none,false⟩,
    ⟨some 79,.binOp .eql 44 (.tmp 77) (.tmp 78) 44,none,false⟩,
    ⟨some 80,.move (.tmp 79),none,false⟩,
    ⟨some 81,.fieldAddr 44 (.tmp 1) 1,some (some 80,true),false⟩,
    ⟨some 82,.load 3 (.tmp 81),some (some 80,true),false⟩,
    ⟨some 83,.binOp .geq 3 (.tmp 82) (.const (.int .i64 0)) 3,some (some 80,true),false⟩,
    ⟨some 84,.pick (.tmp 80) (.tmp 83) (.const (.bool false)),none,false⟩,
    ⟨some 85,.move (.tmp 84),none,false⟩,
    ⟨some 86,.fieldAddr 44 (.tmp 1) 4,some (some 85,true),false⟩,
    ⟨some 87,.load 3 (.tmp 86),some (some 85,true),false⟩,
    ⟨some 88,.binOp .eql 3 (.tmp 87) (.const (.int .i64 0)) 3,some (some 85,true),false⟩,
    ⟨some 89,.move (.tmp 88),some (some 85,true),false⟩,
    ⟨some 90,.fieldAddr 44 (.tmp 1) 4,some (some 89,false),false⟩,
    ⟨some 91,.load 3 (.tmp 90),some (some 89,false),false⟩,
    ⟨some 92,.binOp .eql 3 (.tmp 91) (.const (.int .i64 1)) 3,some (some 89,false),false⟩,
    ⟨some 93,.pick (.tmp 89) (.const (.bool true)) (.tmp 92),some (some 85,true),false⟩,
    ⟨some 94,.pick (.tmp 85) (.tmp 93) (.const (.bool false)),none,false⟩,
    ⟨some 2,.assign (.tmp 94),none,false⟩])
   .ret))
   (.seq (.weak (.reg [⟨some 96,.binOp .eql 3 (.tmp 14) (.const (.int .i64 4)) 3,none,false⟩,
    ⟨some 95,.assign (.tmp 96),none,false⟩]))
   gK))
def gM:LC:=
 (.cond (.tmp 48)
   (.seq (.reg [⟨some 50,.fieldAddr 44 (.tmp 1) 4,none,false⟩,
    ⟨some 51,.load 3 (.tmp 50),none,false⟩,
    ⟨some 52,.fieldAddr 44 (.tmp 3) 4,none,false⟩,
    ⟨none,.store 3 (.tmp 52) (.tmp 51),none,false⟩])
   (.seq (.reg [⟨some 53,.fieldAddr 44 (.tmp 1) 5,none,false⟩,
    ⟨some 54,.load 42 (.tmp 53),none,false⟩,
    ⟨some 55,.fieldAddr 44 (.tmp 3) 5,none,false⟩,
    ⟨none,.store 42 (.tmp 55) (.tmp 54),none,false⟩])
   (.seq (.reg [⟨some 56,.load 44 (.tmp 1),none,false⟩,
    ⟨some 57,.load 44 (.tmp 3),none,false⟩,
    ⟨some 58,.binOp .eql 44 (.tmp 56) (.tmp 57) 44,none,false⟩,
    ⟨some 59,.move (.tmp 58),none,false⟩,
    ⟨some 60,.fieldAddr 44 (.tmp 1) 1,some (some 59,true),false⟩,
    ⟨some 61,.load 3 (.tmp 60),some (some 59,true),false⟩,
    ⟨some 62,.binOp .eql 3 (.tmp 61) (.const (.int .i64 0)) 3,some (some 59,true),false⟩,
    ⟨some 63,.pick (.tmp 59) (.tmp 62) (.const (.bool false)),none,false⟩,
    ⟨some 64,.move (.tmp 63),none,false⟩,
    ⟨some 65,.fieldAddr 44 (.tmp 1) 4,some (some 64,true),false⟩,
    ⟨some 66,.load 3 (.tmp 65),some (some 64,true),false⟩,
    ⟨some 67,.fieldAddr 44 (.tmp 1) 5,some (some 64,true),false⟩,
    ⟨some 68,.load 42 (.tmp 67),some (some 64,true),false⟩,
    ⟨some 69,.build 87 ⟨[(0,(.tmp 66)),(1,(.tmp 68))]⟩,some (some 64,true),false⟩,
    ⟨some 70,.call ⟨.value (.func 98),⟨[(.tmp 69)]⟩,⟨[87]⟩⟩,some (some 64,true),false⟩,
    ⟨some 71,.pick (.tmp 64) (.tmp 70) (.const (.bool false)),none,false⟩,
    ⟨some 2,.assign (.tmp 71),none,false⟩])
   .ret)))
   (.seq (.weak (.reg [⟨some 73,.binOp .eql 3 (.tmp 14) (.const (.int .i64 2)) 3,none,false⟩,
    ⟨some 72,.assign (.tmp 73),none,false⟩]))
   gL))
def gP:LC:=
 (.cond (.tmp 25)
  (.seq (.reg [⟨some 27,.fieldAddr 44 (.tmp 1) 4,none,false⟩,
   ⟨some 28,.load 3 (.tmp 27),none,false⟩,
   ⟨some 29,.fieldAddr 44 (.tmp 3) 4,none,false⟩,
   ⟨none,.store 3 (.tmp 29) (.tmp 28),none,false⟩])
  (.seq (.reg [⟨some 30,.load 44 (.tmp 1),none,false⟩,
   ⟨some 31,.load 44 (.tmp 3),none,false⟩,
   ⟨some 32,.binOp .eql 44 (.tmp 30) (.tmp 31) 44,none,false⟩,
   ⟨some 33,.move (.tmp 32),none,false⟩,
   ⟨some 34,.fieldAddr 44 (.tmp 1) 1,some (some 33,true),false⟩,
   ⟨some 35,.load 3 (.tmp 34),some (some 33,true),false⟩,
   ⟨some 36,.binOp .geq 3 (.tmp 35) (.const (.int .i64 0)) 3,some (some 33,true),false⟩,
   ⟨some 37,.pick (.tmp 33) (.tmp 36) (.const (.bool false)),none,false⟩,
   ⟨some 38,.move (.tmp 37),none,false⟩,
   ⟨some 39,.fieldAddr 44 (.tmp 1) 4,some (some 38,true),false⟩,
   ⟨some 40,.load 3 (.tmp 39),some (some 38,true),false⟩,
   ⟨some 41,.binOp .geq 3 (.tmp 40) (.const (.int .i64 1)) 3,some (some 38,true),false⟩,
   ⟨some 42,.pick (.tmp 38) (.tmp 41) (.const (.bool false)),none,false⟩,
   ⟨some 43,.move (.tmp 42),none,false⟩,
   ⟨some 44,.fieldAddr 44 (.tmp 1) 4,some (some 43,true),false⟩,
   ⟨some 45,.load 3 (.tmp 44),some (some 43,true),false⟩,
   ⟨some 46,.binOp .leq 3 (.tmp 45) (.const (.int .i64 31)) 3,some (some 43,true),false⟩,
   ⟨some 47,.pick (.tmp 43) (.tmp 46) (.const (.bool false)),none,false⟩,
   ⟨some 2,.assign (.tmp 47),none,false⟩])
  .ret))
  (.seq (.weak (.reg [⟨some 49,.binOp .eql 3 (.tmp 14) (.const (.int .i64 9)) 3,none,false⟩,
   ⟨some 48,.assign (.tmp 49),none,false⟩]))
  gM))
def gQ:LC:=
 (.cond (.tmp 15)
  (.seq (.reg [⟨some 17,.load 44 (.tmp 1),none,false⟩,
   ⟨some 18,.load 44 (.tmp 3),none,false⟩,
   ⟨some 19,.binOp .eql 44 (.tmp 17) (.tmp 18) 44,none,false⟩,
   ⟨some 20,.move (.tmp 19),none,false⟩,
   ⟨some 21,.fieldAddr 44 (.tmp 1) 1,some (some 20,true),false⟩,
   ⟨some 22,.load 3 (.tmp 21),some (some 20,true),false⟩,
   ⟨some 23,.binOp .eql 3 (.tmp 22) (.const (.int .i64 0)) 3,some (some 20,true),false⟩,
   ⟨some 24,.pick (.tmp 20) (.tmp 23) (.const (.bool false)),none,false⟩,
   ⟨some 2,.assign (.tmp 24),none,false⟩])
  .ret)
  (.seq (.weak (.reg [⟨some 26,.binOp .eql 3 (.tmp 14) (.const (.int .i64 1)) 3,none,false⟩,
   ⟨some 25,.assign (.tmp 26),none,false⟩]))
  gP))
def mE:LC:=
 (.seq (.reg [⟨some 2,.assign (.const (.bool false)),none,false⟩])
 .ret)
def pX:LC:=
 (.seq (.reg [⟨some 1,.box 44 (.tmp 0),none,false⟩,
  ⟨some 2,.assign (.const (.bool false)),none,false⟩])
 (.seq (.reg [⟨some 6,.fieldAddr 44 (.tmp 1) 0,none,false⟩,
  ⟨some 7,.load 3 (.tmp 6),none,false⟩,
  ⟨some 8,.fieldAddr 44 (.tmp 1) 1,none,false⟩,
  ⟨some 9,.load 3 (.tmp 8),none,false⟩,
  ⟨some 10,.fieldAddr 44 (.tmp 1) 2,none,false⟩,
  ⟨some 11,.load 9 (.tmp 10),none,false⟩,
  ⟨some 12,.build 44 ⟨[(0,(.tmp 7)),(1,(.tmp 9)),(2,(.tmp 11))]⟩,none,false⟩,
  ⟨some 3,.alloc 44,none,false⟩,
  ⟨none,.store 44 (.tmp 3) (.tmp 12),none,false⟩])
 (.seq (.seq (.reg [⟨some 13,.fieldAddr 44 (.tmp 1) 0,none,false⟩,
  ⟨some 14,.load 3 (.tmp 13),none,false⟩])
 (.block 0 (.seq (.weak (.reg [⟨some 16,.binOp .eql 3 (.tmp 14) (.const (.int .i64 0)) 3,none,false⟩,
  ⟨some 15,.assign (.tmp 16),none,false⟩]))
  gQ)))
 mE)))
theorem zG:aN Tryz.prog 70 140 [.tmp 2] pX:=⟨_,_,Tryz.func70,by kernel_rfl,rfl,Tryz.ntmps70,rfl,by kernel_rfl⟩
end Lp
set_option maxRecDepth 100000
namespace Lp
open Go Go.Proofs
open Nat (reduceAdd reduceLeDiff reduceMul reduceSub)
open Int (reduceEq reduceLE reduceToNat)
set_option maxHeartbeats 4000000
theorem mo (a:fK):(∀ n,(bB a).putCells 4 [.int .i64 n]=bB { a with n:=n })∧(∀ x,(bB a).putCells 3 [.str x]=bB { a with s:=x })∧
  (∀ ck cm cn cs cg ce,(bB a).putCells 5 [.int .i64 ck,.int .i64 cm,.str cn,.str cs,.bool cg,.int .i64 ce]=bB { a with c:=⟨ck,cm,cn,cs,cg,ce⟩ }):=⟨fun _=>rfl,fun _=>rfl,fun _ _ _ _ _ _=>rfl⟩
theorem aa8 (t:fK):decide (t=⟨t.kind,t.many,t.name,[],0,aW⟩)=(t.s==[] && t.n==0 && t.c==aW):=by
 obtain ⟨k,m,nm,s,n,c⟩:=t
 rw [Bool.eq_iff_iff];simp [and_assoc]
theorem aci (t:fK):decide (t=⟨t.kind,t.many,t.name,[],t.n,aW⟩)=(t.s==[] && t.c==aW):=by
 obtain ⟨k,m,nm,s,n,c⟩:=t
 rw [Bool.eq_iff_iff];simp
theorem ac1 (t:fK):decide (t=⟨t.kind,t.many,t.name,[],t.n,t.c⟩)=(t.s==[]):=by
 obtain ⟨k,m,nm,s,n,c⟩:=t
 rw [Bool.eq_iff_iff];simp
theorem ac2 (t:fK):decide (t=⟨t.kind,t.many,t.name,t.s,0,aW⟩)=(t.n==0 && t.c==aW):=by
 obtain ⟨k,m,nm,s,n,c⟩:=t
 rw [Bool.eq_iff_iff];simp
theorem ac3 (pk:List UInt8→Bool) (t:fK) (k:t.kind=0):dz pk t=(decide (t=⟨t.kind,t.many,t.name,[],0,aW⟩) && decide (t.many=0)):=by
 rw [aa8]
 have b:∀ i:Int,(t.many==i)=decide (t.many=i):=fun _=>rfl
 have c:∀ i:Int,(t.n==i)=decide (t.n=i):=fun _=>rfl
 simp only [dz,k,reduceEq,if_true,if_false,false_or,or_false,or_self,true_or,or_true,b,c]
 ac_rfl
theorem ac4 (pk:List UInt8→Bool) (t:fK) (k:t.kind=1):dz pk t=(decide (t=⟨t.kind,t.many,t.name,[],t.n,aW⟩) && (decide (0≤t.many) && decide (1≤t.n) && decide (t.n≤31))):=by
 rw [aci]
 have b:∀ i:Int,(t.many==i)=decide (t.many=i):=fun _=>rfl
 have c:∀ i:Int,(t.n==i)=decide (t.n=i):=fun _=>rfl
 simp only [dz,k,reduceEq,if_true,if_false,false_or,or_false,or_self,true_or,or_true,b,c]
 ac_rfl
theorem ac5 (pk:List UInt8→Bool) (t:fK) (k:t.kind=9):dz pk t=(decide (t=⟨t.kind,t.many,t.name,[],t.n,t.c⟩) && (decide (t.many=0) && nT ⟨t.n,t.c⟩)):=by
 rw [ac1]
 have b:∀ i:Int,(t.many==i)=decide (t.many=i):=fun _=>rfl
 have c:∀ i:Int,(t.n==i)=decide (t.n=i):=fun _=>rfl
 simp only [dz,k,reduceEq,if_true,if_false,false_or,or_false,or_self,true_or,or_true,b,c]
 ac_rfl
theorem ac6 (pk:List UInt8→Bool) (t:fK) (k:t.kind=2):dz pk t=(decide (t=⟨t.kind,t.many,t.name,[],t.n,aW⟩) && (decide (0≤t.many) && (decide (t.n=0) || decide (t.n=1)))):=by
 rw [aci]
 have b:∀ i:Int,(t.many==i)=decide (t.many=i):=fun _=>rfl
 have c:∀ i:Int,(t.n==i)=decide (t.n=i):=fun _=>rfl
 simp only [dz,k,reduceEq,if_true,if_false,false_or,or_false,or_self,true_or,or_true,b,c]
 ac_rfl
theorem ac7 (pk:List UInt8→Bool) (t:fK) (k:t.kind=4):dz pk t=(decide (t=⟨t.kind,t.many,t.name,[],0,aW⟩) && decide (0≤t.many)):=by
 rw [aa8]
 have b:∀ i:Int,(t.many==i)=decide (t.many=i):=fun _=>rfl
 have c:∀ i:Int,(t.n==i)=decide (t.n=i):=fun _=>rfl
 simp only [dz,k,reduceEq,if_true,if_false,false_or,or_false,or_self,true_or,or_true,b,c]
 ac_rfl
theorem aa9 (pk:List UInt8→Bool) (t:fK) (k:t.kind=3∨t.kind=5∨t.kind=6):dz pk t=(decide (t=⟨t.kind,t.many,t.name,[],0,aW⟩) && decide (t.many=1)):=by
 rw [aa8]
 have b:∀ i:Int,(t.many==i)=decide (t.many=i):=fun _=>rfl
 have c:∀ i:Int,(t.n==i)=decide (t.n=i):=fun _=>rfl
 rcases k with k | k | k <;> simp only [dz,k,reduceEq,if_true,if_false,false_or,or_false,or_self,true_or,or_true,b,c] <;> ac_rfl
theorem acj (pk:List UInt8→Bool) (t:fK) (k:t.kind=7∨t.kind=8):dz pk t=(decide (t=⟨t.kind,t.many,t.name,t.s,0,aW⟩) && (decide (t.many=1) && pk t.s)):=by
 rw [ac2]
 have b:∀ i:Int,(t.many==i)=decide (t.many=i):=fun _=>rfl
 have c:∀ i:Int,(t.n==i)=decide (t.n=i):=fun _=>rfl
 rcases k with k | k <;> simp only [dz,k,reduceEq,if_true,if_false,false_or,or_false,or_self,true_or,or_true,b,c] <;> ac_rfl
theorem eT (k m n ck cm ce k' m' n' ck' cm' ce':Int) (nm s cn cs vO s' cn' cs':List UInt8) (cg cg':Bool):Hy Tryz.prog 44 [.int .i64 k,.int .i64 m,.str nm,.str s,.int .i64 n,.int .i64 ck,.int .i64 cm,.str cn,.str cs,.bool cg,.int .i64 ce] [.int .i64 k',.int .i64 m',.str vO,.str s',.int .i64 n',.int .i64 ck',.int .i64 cm',.str cn',.str cs',.bool cg',.int .i64 ce']=True:=eq_true (ach ⟨k,m,nm,s,n,⟨ck,cm,cn,cs,cg,ce⟩⟩ ⟨k',m',vO,s',n',⟨ck',cm',cn',cs',cg',ce'⟩⟩)
theorem iG (k m n ck cm ce k' m' n' ck' cm' ce':Int) (nm s cn cs vO s' cn' cs':List UInt8) (cg cg':Bool):BO [.int .i64 k,.int .i64 m,.str nm,.str s,.int .i64 n,.int .i64 ck,.int .i64 cm,.str cn,.str cs,.bool cg,.int .i64 ce] [.int .i64 k',.int .i64 m',.str vO,.str s',.int .i64 n',.int .i64 ck',.int .i64 cm',.str cn',.str cs',.bool cg',.int .i64 ce']=some (decide ((⟨k,m,nm,s,n,⟨ck,cm,cn,cs,cg,ce⟩⟩:fK)=⟨k',m',vO,s',n',⟨ck',cm',cn',cs',cg',ce'⟩⟩)):=acR ⟨k,m,nm,s,n,⟨ck,cm,cn,cs,cg,ce⟩⟩ ⟨k',m',vO,s',n',⟨ck',cm',cn',cs',cg',ce'⟩⟩
theorem LY (t:fK) (hs:t.s.length≤1000000000) (hc:rV t.c):ah Tryz.prog 70 [bB t] [] (.bool (dz bH t)) []:=by
 refine zG.aZ (T:=aO Tryz.prog [(98,rW),(72,fJ)]) 0 hD (aj (af LD (af A_ ai))) aT (by decide) fun Q hQ=>?_
 obtain ⟨kd,m,nm,s,n,c⟩:=t
 simp only at hs hc
 simp(maxSteps:=400000)only[↓ax,ay,BEq.rfl,reduceIte,reduceCtorEq,Nat.reduceLT,reduceAdd,reduceSub,reduceMul,Nat.reduceBEq,reduceLeDiff,reduceToNat,reduceLE,hQ,pX,sw,iE,iI,mo,eT,iG,bC,dY,reduceEq]
 refine aQ _ (Weak.refl _ _) ?_
 by_cases k0:kd=0
 · subst k0
   have hp:dz bH ⟨0,m,nm,s,n,c⟩=(decide ((⟨0,m,nm,s,n,c⟩:fK)=⟨0,m,nm,[],0,aW⟩) && decide (m=0)):=ac3 bH ⟨0,m,nm,s,n,c⟩ rfl
   cases hb:decide ((⟨0,m,nm,s,n,c⟩:fK)=⟨0,m,nm,[],0,aW⟩) with
   | false=>
    rw [hb,Bool.false_and] at hp
    simp(maxSteps:=400000)only[↓ax,ay,BEq.rfl,reduceIte,reduceCtorEq,Nat.reduceLT,reduceAdd,reduceSub,reduceMul,Nat.reduceBEq,reduceLeDiff,reduceToNat,reduceLE,hQ,gQ,hb,hp,sw,iE,iI,mo,eT,iG,bC,dY,reduceEq]
    repeat' (first | (omega) | exact hs | exact hc | intro _ | refine ⟨?_,?_⟩)
   | true=>
    rw [hb,Bool.true_and] at hp
    simp(maxSteps:=400000)only[↓ax,ay,BEq.rfl,reduceIte,reduceCtorEq,Nat.reduceLT,reduceAdd,reduceSub,reduceMul,Nat.reduceBEq,reduceLeDiff,reduceToNat,reduceLE,hQ,gQ,hb,hp,sw,iE,iI,mo,eT,iG,bC,dY,reduceEq]
    repeat' (first | (omega) | exact hs | exact hc | ((simp [*];done)) | intro _ | refine ⟨?_,?_⟩)
 have n0:=eq_false k0
 simp(maxSteps:=400000)only[↓ax,ay,BEq.rfl,reduceIte,reduceCtorEq,Nat.reduceLT,reduceAdd,reduceSub,reduceMul,Nat.reduceBEq,reduceLeDiff,reduceToNat,reduceLE,hQ,gQ,n0,sw,iE,iI,mo,eT,iG,bC,dY,reduceEq]
 refine aQ _ (Weak.refl _ _) ?_
 by_cases k1:kd=1
 · subst k1
   have hp:dz bH ⟨1,m,nm,s,n,c⟩=(decide ((⟨1,m,nm,s,n,c⟩:fK)=⟨1,m,nm,[],n,aW⟩) && (decide (0≤m) && decide (1≤n) && decide (n≤31))):=ac4 bH ⟨1,m,nm,s,n,c⟩ rfl
   cases hb:decide ((⟨1,m,nm,s,n,c⟩:fK)=⟨1,m,nm,[],n,aW⟩) with
   | false=>
    rw [hb,Bool.false_and] at hp
    simp(maxSteps:=400000)only[↓ax,ay,BEq.rfl,reduceIte,reduceCtorEq,Nat.reduceLT,reduceAdd,reduceSub,reduceMul,Nat.reduceBEq,reduceLeDiff,reduceToNat,reduceLE,hQ,gP,hb,hp,sw,iE,iI,mo,eT,iG,bC,dY,reduceEq]
    repeat' (first | (omega) | exact hs | exact hc | intro _ | refine ⟨?_,?_⟩)
   | true=>
    rw [hb,Bool.true_and] at hp
    simp(maxSteps:=400000)only[↓ax,ay,BEq.rfl,reduceIte,reduceCtorEq,Nat.reduceLT,reduceAdd,reduceSub,reduceMul,Nat.reduceBEq,reduceLeDiff,reduceToNat,reduceLE,hQ,gP,hb,hp,sw,iE,iI,mo,eT,iG,bC,dY,reduceEq]
    repeat' (first | (omega) | exact hs | exact hc | ((simp [*];done)) | intro _ | refine ⟨?_,?_⟩)
 have n1:=eq_false k1
 simp(maxSteps:=400000)only[↓ax,ay,BEq.rfl,reduceIte,reduceCtorEq,Nat.reduceLT,reduceAdd,reduceSub,reduceMul,Nat.reduceBEq,reduceLeDiff,reduceToNat,reduceLE,hQ,gP,n1,sw,iE,iI,mo,eT,iG,bC,dY,reduceEq]
 refine aQ _ (Weak.refl _ _) ?_
 by_cases k9:kd=9
 · subst k9
   have hp:dz bH ⟨9,m,nm,s,n,c⟩=(decide ((⟨9,m,nm,s,n,c⟩:fK)=⟨9,m,nm,[],n,c⟩) && (decide (m=0) && nT ⟨n,c⟩)):=ac5 bH ⟨9,m,nm,s,n,c⟩ rfl
   cases hb:decide ((⟨9,m,nm,s,n,c⟩:fK)=⟨9,m,nm,[],n,c⟩) with
   | false=>
    rw [hb,Bool.false_and] at hp
    simp(maxSteps:=400000)only[↓ax,ay,BEq.rfl,reduceIte,reduceCtorEq,Nat.reduceLT,reduceAdd,reduceSub,reduceMul,Nat.reduceBEq,reduceLeDiff,reduceToNat,reduceLE,hQ,gM,hb,hp,↓rW,sw,iE,iI,mo,eT,iG,bC,dY,reduceEq]
    repeat' (first | (omega) | exact hs | exact hc | intro _ | refine ⟨?_,?_⟩)
   | true=>
    rw [hb,Bool.true_and] at hp
    simp(maxSteps:=400000)only[↓ax,ay,BEq.rfl,reduceIte,reduceCtorEq,Nat.reduceLT,reduceAdd,reduceSub,reduceMul,Nat.reduceBEq,reduceLeDiff,reduceToNat,reduceLE,hQ,gM,hb,hp,↓rW,sw,iE,iI,mo,eT,iG,bC,dY,reduceEq]
    repeat' (first | (omega) | exact hs | exact hc | ((simp [*];done)) | intro _ | refine ⟨?_,?_⟩)
 have n9:=eq_false k9
 simp(maxSteps:=400000)only[↓ax,ay,BEq.rfl,reduceIte,reduceCtorEq,Nat.reduceLT,reduceAdd,reduceSub,reduceMul,Nat.reduceBEq,reduceLeDiff,reduceToNat,reduceLE,hQ,gM,n9,sw,iE,iI,mo,eT,iG,bC,dY,reduceEq]
 refine aQ _ (Weak.refl _ _) ?_
 by_cases k2:kd=2
 · subst k2
   have hp:dz bH ⟨2,m,nm,s,n,c⟩=(decide ((⟨2,m,nm,s,n,c⟩:fK)=⟨2,m,nm,[],n,aW⟩) && (decide (0≤m) && (decide (n=0) || decide (n=1)))):=ac6 bH ⟨2,m,nm,s,n,c⟩ rfl
   cases hb:decide ((⟨2,m,nm,s,n,c⟩:fK)=⟨2,m,nm,[],n,aW⟩) with
   | false=>
    rw [hb,Bool.false_and] at hp
    simp(maxSteps:=400000)only[↓ax,ay,BEq.rfl,reduceIte,reduceCtorEq,Nat.reduceLT,reduceAdd,reduceSub,reduceMul,Nat.reduceBEq,reduceLeDiff,reduceToNat,reduceLE,hQ,gL,hb,hp,sw,iE,iI,mo,eT,iG,bC,dY,reduceEq]
    repeat' (first | (omega) | exact hs | exact hc | intro _ | refine ⟨?_,?_⟩)
   | true=>
    rw [hb,Bool.true_and] at hp
    simp(maxSteps:=400000)only[↓ax,ay,BEq.rfl,reduceIte,reduceCtorEq,Nat.reduceLT,reduceAdd,reduceSub,reduceMul,Nat.reduceBEq,reduceLeDiff,reduceToNat,reduceLE,hQ,gL,hb,hp,sw,iE,iI,mo,eT,iG,bC,dY,reduceEq]
    repeat' (first | (omega) | exact hs | exact hc | ((simp [*];done)) | intro _ | refine ⟨?_,?_⟩)
 have n2:=eq_false k2
 simp(maxSteps:=400000)only[↓ax,ay,BEq.rfl,reduceIte,reduceCtorEq,Nat.reduceLT,reduceAdd,reduceSub,reduceMul,Nat.reduceBEq,reduceLeDiff,reduceToNat,reduceLE,hQ,gL,n2,sw,iE,iI,mo,eT,iG,bC,dY,reduceEq]
 refine aQ _ (Weak.refl _ _) ?_
 by_cases k4:kd=4
 · subst k4
   have hp:dz bH ⟨4,m,nm,s,n,c⟩=(decide ((⟨4,m,nm,s,n,c⟩:fK)=⟨4,m,nm,[],0,aW⟩) && decide (0≤m)):=ac7 bH ⟨4,m,nm,s,n,c⟩ rfl
   cases hb:decide ((⟨4,m,nm,s,n,c⟩:fK)=⟨4,m,nm,[],0,aW⟩) with
   | false=>
    rw [hb,Bool.false_and] at hp
    simp(maxSteps:=400000)only[↓ax,ay,BEq.rfl,reduceIte,reduceCtorEq,Nat.reduceLT,reduceAdd,reduceSub,reduceMul,Nat.reduceBEq,reduceLeDiff,reduceToNat,reduceLE,hQ,gK,hb,hp,sw,iE,iI,mo,eT,iG,bC,dY,reduceEq]
    repeat' (first | (omega) | exact hs | exact hc | intro _ | refine ⟨?_,?_⟩)
   | true=>
    rw [hb,Bool.true_and] at hp
    simp(maxSteps:=400000)only[↓ax,ay,BEq.rfl,reduceIte,reduceCtorEq,Nat.reduceLT,reduceAdd,reduceSub,reduceMul,Nat.reduceBEq,reduceLeDiff,reduceToNat,reduceLE,hQ,gK,hb,hp,sw,iE,iI,mo,eT,iG,bC,dY,reduceEq]
    repeat' (first | (omega) | exact hs | exact hc | ((simp [*];done)) | intro _ | refine ⟨?_,?_⟩)
 have n4:=eq_false k4
 simp(maxSteps:=400000)only[↓ax,ay,BEq.rfl,reduceIte,reduceCtorEq,Nat.reduceLT,reduceAdd,reduceSub,reduceMul,Nat.reduceBEq,reduceLeDiff,reduceToNat,reduceLE,hQ,gK,n4,sw,iE,iI,mo,eT,iG,bC,dY,reduceEq]
 refine aQ _ (Weak.refl _ _) ?_
 by_cases k3:kd=3
 · subst k3
   have hp:dz bH ⟨3,m,nm,s,n,c⟩=(decide ((⟨3,m,nm,s,n,c⟩:fK)=⟨3,m,nm,[],0,aW⟩) && decide (m=1)):=aa9 bH ⟨3,m,nm,s,n,c⟩ (.inl rfl)
   cases hb:decide ((⟨3,m,nm,s,n,c⟩:fK)=⟨3,m,nm,[],0,aW⟩) with
   | false=>
    rw [hb,Bool.false_and] at hp
    simp(maxSteps:=400000)only[↓ax,ay,BEq.rfl,reduceIte,reduceCtorEq,Nat.reduceLT,reduceAdd,reduceSub,reduceMul,Nat.reduceBEq,reduceLeDiff,reduceToNat,reduceLE,hQ,bX,bW,hb,hp,sw,iE,iI,mo,eT,iG,bC,dY,reduceEq]
    repeat' (first | (omega) | exact hs | exact hc | intro _ | refine ⟨?_,?_⟩)
   | true=>
    rw [hb,Bool.true_and] at hp
    simp(maxSteps:=400000)only[↓ax,ay,BEq.rfl,reduceIte,reduceCtorEq,Nat.reduceLT,reduceAdd,reduceSub,reduceMul,Nat.reduceBEq,reduceLeDiff,reduceToNat,reduceLE,hQ,bX,bW,hb,hp,sw,iE,iI,mo,eT,iG,bC,dY,reduceEq]
    repeat' (first | (omega) | exact hs | exact hc | ((simp [*];done)) | intro _ | refine ⟨?_,?_⟩)
 have n3:=eq_false k3
 by_cases k5:kd=5
 · subst k5
   have hp:dz bH ⟨5,m,nm,s,n,c⟩=(decide ((⟨5,m,nm,s,n,c⟩:fK)=⟨5,m,nm,[],0,aW⟩) && decide (m=1)):=aa9 bH ⟨5,m,nm,s,n,c⟩ (.inr (.inl rfl))
   cases hb:decide ((⟨5,m,nm,s,n,c⟩:fK)=⟨5,m,nm,[],0,aW⟩) with
   | false=>
    rw [hb,Bool.false_and] at hp
    simp(maxSteps:=400000)only[↓ax,ay,BEq.rfl,reduceIte,reduceCtorEq,Nat.reduceLT,reduceAdd,reduceSub,reduceMul,Nat.reduceBEq,reduceLeDiff,reduceToNat,reduceLE,hQ,bX,bW,hb,hp,sw,iE,iI,mo,eT,iG,bC,dY,reduceEq]
    repeat' (first | (omega) | exact hs | exact hc | intro _ | refine ⟨?_,?_⟩)
   | true=>
    rw [hb,Bool.true_and] at hp
    simp(maxSteps:=400000)only[↓ax,ay,BEq.rfl,reduceIte,reduceCtorEq,Nat.reduceLT,reduceAdd,reduceSub,reduceMul,Nat.reduceBEq,reduceLeDiff,reduceToNat,reduceLE,hQ,bX,bW,hb,hp,sw,iE,iI,mo,eT,iG,bC,dY,reduceEq]
    repeat' (first | (omega) | exact hs | exact hc | ((simp [*];done)) | intro _ | refine ⟨?_,?_⟩)
 have n5:=eq_false k5
 by_cases k6:kd=6
 · subst k6
   have hp:dz bH ⟨6,m,nm,s,n,c⟩=(decide ((⟨6,m,nm,s,n,c⟩:fK)=⟨6,m,nm,[],0,aW⟩) && decide (m=1)):=aa9 bH ⟨6,m,nm,s,n,c⟩ (.inr (.inr rfl))
   cases hb:decide ((⟨6,m,nm,s,n,c⟩:fK)=⟨6,m,nm,[],0,aW⟩) with
   | false=>
    rw [hb,Bool.false_and] at hp
    simp(maxSteps:=400000)only[↓ax,ay,BEq.rfl,reduceIte,reduceCtorEq,Nat.reduceLT,reduceAdd,reduceSub,reduceMul,Nat.reduceBEq,reduceLeDiff,reduceToNat,reduceLE,hQ,bX,bW,hb,hp,sw,iE,iI,mo,eT,iG,bC,dY,reduceEq]
    repeat' (first | (omega) | exact hs | exact hc | intro _ | refine ⟨?_,?_⟩)
   | true=>
    rw [hb,Bool.true_and] at hp
    simp(maxSteps:=400000)only[↓ax,ay,BEq.rfl,reduceIte,reduceCtorEq,Nat.reduceLT,reduceAdd,reduceSub,reduceMul,Nat.reduceBEq,reduceLeDiff,reduceToNat,reduceLE,hQ,bX,bW,hb,hp,sw,iE,iI,mo,eT,iG,bC,dY,reduceEq]
    repeat' (first | (omega) | exact hs | exact hc | ((simp [*];done)) | intro _ | refine ⟨?_,?_⟩)
 have n6:=eq_false k6
 simp(maxSteps:=400000)only[↓ax,ay,BEq.rfl,reduceIte,reduceCtorEq,Nat.reduceLT,reduceAdd,reduceSub,reduceMul,Nat.reduceBEq,reduceLeDiff,reduceToNat,reduceLE,hQ,bX,bW,n3,n5,n6,sw,iE,iI,mo,eT,iG,bC,dY,reduceEq]
 refine aQ _ (Weak.refl _ _) ?_
 by_cases k7:kd=7
 · subst k7
   have hp:dz bH ⟨7,m,nm,s,n,c⟩=(decide ((⟨7,m,nm,s,n,c⟩:fK)=⟨7,m,nm,s,0,aW⟩) && (decide (m=1) && bH s)):=acj bH ⟨7,m,nm,s,n,c⟩ (.inl rfl)
   cases hb:decide ((⟨7,m,nm,s,n,c⟩:fK)=⟨7,m,nm,s,0,aW⟩) with
   | false=>
    rw [hb,Bool.false_and] at hp
    simp(maxSteps:=400000)only[↓ax,ay,BEq.rfl,reduceIte,reduceCtorEq,Nat.reduceLT,reduceAdd,reduceSub,reduceMul,Nat.reduceBEq,reduceLeDiff,reduceToNat,reduceLE,hQ,dU,dS,hb,hp,↓fJ,fQ,sw,iE,iI,mo,eT,iG,bC,dY,reduceEq]
    repeat' (first | (omega) | exact hs | exact hc | intro _ | refine ⟨?_,?_⟩)
   | true=>
    rw [hb,Bool.true_and] at hp
    simp(maxSteps:=400000)only[↓ax,ay,BEq.rfl,reduceIte,reduceCtorEq,Nat.reduceLT,reduceAdd,reduceSub,reduceMul,Nat.reduceBEq,reduceLeDiff,reduceToNat,reduceLE,hQ,dU,dS,hb,hp,↓fJ,fQ,sw,iE,iI,mo,eT,iG,bC,dY,reduceEq]
    repeat' (first | (omega) | exact hs | exact hc | ((simp [*];done)) | intro _ | refine ⟨?_,?_⟩)
 have n7:=eq_false k7
 by_cases k8:kd=8
 · subst k8
   have hp:dz bH ⟨8,m,nm,s,n,c⟩=(decide ((⟨8,m,nm,s,n,c⟩:fK)=⟨8,m,nm,s,0,aW⟩) && (decide (m=1) && bH s)):=acj bH ⟨8,m,nm,s,n,c⟩ (.inr rfl)
   cases hb:decide ((⟨8,m,nm,s,n,c⟩:fK)=⟨8,m,nm,s,0,aW⟩) with
   | false=>
    rw [hb,Bool.false_and] at hp
    simp(maxSteps:=400000)only[↓ax,ay,BEq.rfl,reduceIte,reduceCtorEq,Nat.reduceLT,reduceAdd,reduceSub,reduceMul,Nat.reduceBEq,reduceLeDiff,reduceToNat,reduceLE,hQ,dU,dS,hb,hp,↓fJ,fQ,sw,iE,iI,mo,eT,iG,bC,dY,reduceEq]
    repeat' (first | (omega) | exact hs | exact hc | intro _ | refine ⟨?_,?_⟩)
   | true=>
    rw [hb,Bool.true_and] at hp
    simp(maxSteps:=400000)only[↓ax,ay,BEq.rfl,reduceIte,reduceCtorEq,Nat.reduceLT,reduceAdd,reduceSub,reduceMul,Nat.reduceBEq,reduceLeDiff,reduceToNat,reduceLE,hQ,dU,dS,hb,hp,↓fJ,fQ,sw,iE,iI,mo,eT,iG,bC,dY,reduceEq]
    repeat' (first | (omega) | exact hs | exact hc | ((simp [*];done)) | intro _ | refine ⟨?_,?_⟩)
 have n8:=eq_false k8
 simp(maxSteps:=400000)only[↓ax,ay,BEq.rfl,reduceIte,reduceCtorEq,Nat.reduceLT,reduceAdd,reduceSub,reduceMul,Nat.reduceBEq,reduceLeDiff,reduceToNat,reduceLE,hQ,dU,dS,n7,n8,sw,iE,iI,mo,eT,iG,bC,dY,reduceEq]
 have hp:dz bH ⟨kd,m,nm,s,n,c⟩=false:=by simp [dz,k0,k1,k9,k2,k4,k3,k5,k6,k7,k8]
 simp(maxSteps:=400000)only[↓ax,ay,BEq.rfl,reduceIte,reduceCtorEq,Nat.reduceLT,reduceAdd,reduceSub,reduceMul,Nat.reduceBEq,reduceLeDiff,reduceToNat,reduceLE,hQ,mE,hp]
def fU:dF:=fun args objs K=>match args with
 | [a0]=>f_ bB a0 (HK.mk:HK fun t=>(t.s.length≤1000000000)∧(rV t.c)∧K (.bool (dz bH t)) objs 0)
 | _=>False
theorem IX:aD Tryz.prog 70 (fU):=by
 intro args objs K h
 unfold fU at h
 split at h
 · rename_i a0
   obtain ⟨t,rfl,h1,h2,hk⟩:=h
   exact ⟨_,_,_,.pure _ rfl (LY t h1 h2),hk⟩
 · exact h.elim
end Lp
set_option maxRecDepth 100000
namespace Lp
open Go Go.Proofs
open Nat (reduceAdd reduceLeDiff reduceMul reduceSub)
open Int (reduceEq reduceLE reduceToNat toNat_natCast)
set_option maxHeartbeats 4000000
structure tY (t:bq):Prop where
 len:t.length≤1000000
 txt:∀ n ∈ t,n.s.length≤1000000000∧n.name.length≤1000000000∧rV n.c
theorem RH (x:fK) (prev:Option (List UInt8)) (p:bq) (ps:List bq):l6 x prev (p::ps)=(D6 x p && (x.kind !=2 || (match prev with | none=>true | some a=>Op.bytesLess a (Y.nameOf p))) && l6 x (some (Y.nameOf p)) ps):=by cases prev <;> rfl
theorem LZ (t:bq) (at':Nat) (n:fK) (hs:tY t) (ho:Y.One t) (hat:t[at']?=some n) :
  ah Tryz.prog 71 [aH t,.int .i64 at'] [] (.bool (zD t at')) []:=by
 obtain ⟨hl,htx⟩:=hs
 have Y1:=(List.getElem?_eq_some_iff.1 hat).1
 obtain ⟨ps,c,hm,hmL,hps,hsk,hfl,hone,_,_⟩:=Y.tX ho hat
 have hpl:=Y.bQ _ _ _ hps
 have hres:zD t at'=l6 n none ps:=by
  rw [Vs]
  have hd:=List.drop_eq_getElem_cons Y1
  rw [List.getElem?_eq_getElem Y1] at hat
  cases hat
  simp only [zD,hd,hps]
 rw [hres]
 refine zq.aZ (T:=aO Tryz.prog [(46,dZ),(45,eH)]) 0 hD (aj (af rG (af l7 ai))) aT (by decide) fun Q hQ=>?_
 (conv=>arg 4;cbv);simp(maxSteps:=400000)only[↓ax,ay,BEq.rfl,reduceIte,reduceCtorEq,Nat.reduceLT,reduceAdd,reduceSub,reduceMul,Nat.reduceBEq,reduceLeDiff,reduceToNat,reduceLE,hQ]
 refine ⟨⟨by omega,by omega⟩,?_⟩
 refine aF (fun m S=>∃ (i:Nat) (rest:List bq) (prev:Option (List UInt8)) (last:List UInt8),m=rest.length∧rest.length≤ps.length∧Y.parts rest.length (t.drop i)=some rest∧i≤t.length∧l6 n prev rest=l6 n none ps∧
  ((prev=none∧rest.length=ps.length)∨(prev=some last∧rest.length<ps.length))∧
  S=⟨cO 74 [(0,aH t),(1,.int .i64 at'),(5,.int .i64 i),(6,.str last),(7,.int .i64 ((ps.length:Int)-rest.length))],[]⟩) ps.length (hz:=Nat.zero_le _) ⟨at'+1,ps,none,[],rfl,Nat.le_refl _,by rw [hpl];exact hps,by omega,rfl,.inl ⟨rfl,rfl⟩,?_⟩ ?_
 · simp only [bI,keepR,reduceAdd,kT,Nat.reduceBEq,List.map_nil]
   simp only [Int.sub_self]
   rfl
 rintro m S ⟨i,rest,prev,last,rfl,hrl,hrp,hit,hrb,aap,rfl⟩
 have hmn:n.many=(ps.length:Int):=by omega
 have z0:(0≤(at':Int))=True:=eq_true (by omega)
 have zi:(0≤(i:Int))=True:=eq_true (by omega)
 cases rest with
 | nil=>
  have hlt:((ps.length:Int)-((0:Nat):Int)<(ps.length:Int))=False:=eq_false (by omega)
  have hr:l6 n none ps=true:=by rw [← hrb];rfl
  simp(maxSteps:=400000)only[↓ax,ay,BEq.rfl,reduceIte,reduceCtorEq,Nat.reduceLT,reduceAdd,reduceSub,reduceMul,Nat.reduceBEq,reduceLeDiff,reduceToNat,reduceLE,hQ,hat,hmn,z0,List.length_nil,hlt,hr]
 | cons p qs=>
  obtain ⟨pc,Zu,h1,h2,h3⟩:=Y.dN (k:=qs.length) hrp
  simp only [List.cons.injEq] at h2
  obtain ⟨hp,rfl⟩:=h2
  have hpc:=Y.dG _ _ _ h1
  simp only [List.length_drop] at hpc
  have hil:i<t.length:=by omega
  have hgi:=List.getElem?_eq_getElem hil
  have hdi:=List.drop_eq_getElem_cons hil
  have Im:=htx _ (List.getElem_mem hil)
  generalize t[i]=pn at hgi hdi Im
  obtain ⟨q,hq⟩:∃ q,pc=q+1:=⟨pc-1,by omega⟩
  have hname:Y.nameOf p=pn.name:=by rw [hp,hdi,hq];rfl
  have hkind:Y.kindOf p=pn.kind:=by rw [hp,hdi,hq];rfl
  have hnx:pV t i=(i+pc:Nat):=v_ (Y.lT _ _ _ _ h1 (by omega))
  simp only [List.length_cons] at hrl aap
  have h3':Y.parts qs.length (t.drop (i+pc))=some qs:=by rw [← List.drop_drop];exact h3
  have qL:((ps.length:Int)-((qs.length+1:Nat):Int)<(ps.length:Int))=True:=eq_true (by omega)
  have hlt1:(-9223372036854775808≤(ps.length:Int)-((qs.length+1:Nat):Int)+1∧(ps.length:Int)-((qs.length+1:Nat):Int)+1≤9223372036854775807)=True:=eq_true ⟨by omega,by omega⟩
  have e:(ps.length:Int)-((qs.length+1:Nat):Int)+1=(ps.length:Int)-qs.length:=by omega
  rw [RH,D6,hname,hkind] at hrb
  have step:l6 n (some pn.name) qs=l6 n none ps→∃ m',m'<qs.length+1∧∃ (EN:Nat) (rest:List bq) (prev:Option (List UInt8)) (last:List UInt8),m'=rest.length∧rest.length≤ps.length∧Y.parts rest.length (t.drop EN)=some rest∧EN≤t.length∧l6 n prev rest=l6 n none ps∧
      ((prev=none∧rest.length=ps.length)∨(prev=some last∧rest.length<ps.length))∧
      (⟨cO 74 [(0,aH t),(1,.int .i64 at'),(5,.int .i64 (i+pc:Nat)),(6,.str pn.name),(7,.int .i64 ((ps.length:Int)-((qs.length+1:Nat):Int)+1))],[]⟩:St)=⟨cO 74 [(0,aH t),(1,.int .i64 at'),(5,.int .i64 EN),(6,.str last),(7,.int .i64 ((ps.length:Int)-rest.length))],[]⟩:=fun hx=>
   ⟨qs.length,by omega,i+pc,qs,some pn.name,pn.name,rfl,by omega,h3',by omega,hx,.inr ⟨rfl,by omega⟩,by rw [e]⟩
  by_cases hb:(pn.kind=9)=(n.kind=1)
  rotate_left 1
  ·
   have hr:l6 n none ps=false:=by
    rw [← hrb]
    have:(pn.kind==9)≠(n.kind==1):=fun h=>hb (by rw [Bool.eq_iff_iff,beq_iff_eq,beq_iff_eq] at h;exact propext h)
    simp [this]
   by_cases k9:pn.kind=9
   · have k1:(n.kind=1)=False:=eq_false fun k1=>hb (by simp [k9,k1])
     have k9':=eq_true k9
     simp(maxSteps:=400000)only[↓ax,ay,BEq.rfl,reduceIte,reduceCtorEq,Nat.reduceLT,reduceAdd,reduceSub,reduceMul,Nat.reduceBEq,reduceLeDiff,reduceToNat,reduceLE,hQ,hat,hmn,z0,zi,hgi,qL,k9,k1,hr,sw,iE,iI,Bv,bC,dY,reduceEq]
   · have k1:n.kind=1:=Decidable.of_not_not fun k1=>hb (by simp [k9,k1])
     have k9':=eq_false k9
     simp(maxSteps:=400000)only[↓ax,ay,BEq.rfl,reduceIte,reduceCtorEq,Nat.reduceLT,reduceAdd,reduceSub,reduceMul,Nat.reduceBEq,reduceLeDiff,reduceToNat,reduceLE,hQ,hat,hmn,z0,zi,hgi,qL,k9',k1,hr,sw,iE,iI,Bv,bC,dY,reduceEq]
  have hbb:(pn.kind==9)=(n.kind==1):=by
   rw [Bool.eq_iff_iff];simpa using hb
  rw [hbb] at hrb
  by_cases k2:n.kind=2
  · have k9:(pn.kind=9)=False:=by rw [hb,k2];simp
    have hk1:¬ n.kind=1:=by omega
    simp only [k2,BEq.rfl,bne_self_eq_false,Bool.true_or,Bool.false_or,Bool.true_and] at hrb
    cases hu:utf pn.name with
    | false=>
     have hr:l6 n none ps=false:=by rw [← hrb,hu];simp
     simp(maxSteps:=400000)only[↓ax,ay,BEq.rfl,reduceIte,reduceCtorEq,Nat.reduceLT,reduceAdd,reduceSub,reduceMul,Nat.reduceBEq,reduceLeDiff,reduceToNat,reduceLE,hQ,hat,hmn,z0,zi,hgi,qL,k9,k2,hu,↓dZ,hr,sw,iE,iI,Bv,bC,dY,reduceEq]
     repeat' (first | (omega) | intro _ | refine ⟨?_,?_⟩)
    | true=>
     rw [hu] at hrb
     rcases aap with ⟨rfl,hq0⟩ | ⟨rfl,hq0⟩
     · have kz:((0:Int)<(ps.length:Int)-((qs.length+1:Nat):Int))=False:=eq_false (by omega)
       have hst:=step (by simpa using hrb)
       simp(maxSteps:=400000)only[↓ax,ay,BEq.rfl,reduceIte,reduceCtorEq,Nat.reduceLT,reduceAdd,reduceSub,reduceMul,Nat.reduceBEq,reduceLeDiff,reduceToNat,reduceLE,hQ,hat,hmn,z0,zi,hgi,qL,hlt1,k9,k2,hu,↓dZ,kz,↓eH,hnx,toNat_natCast,sw,iE,iI,Bv,bC,dY,reduceEq]
       repeat' (first | exact hst | (omega) | intro _ | refine ⟨?_,?_⟩)
     · have kz:((0:Int)<(ps.length:Int)-((qs.length+1:Nat):Int))=True:=eq_true (by omega)
       simp only [Bool.true_and] at hrb
       cases hbl:Op.bytesLess last pn.name with
       | true=>
        have hne:(pn.name=last)=False:=eq_false fun h=>by rw [h,dI] at hbl;cases hbl
        have XZ:=kE _ _ hbl
        have hst:=step (by rw [← hrb,hbl];simp)
        simp(maxSteps:=400000)only[↓ax,ay,BEq.rfl,reduceIte,reduceCtorEq,Nat.reduceLT,reduceAdd,reduceSub,reduceMul,Nat.reduceBEq,reduceLeDiff,reduceToNat,reduceLE,hQ,hat,hmn,z0,zi,hgi,qL,hlt1,k9,k2,hu,↓dZ,kz,hne,XZ,↓eH,hnx,toNat_natCast,sw,iE,iI,Bv,bC,dY,reduceEq]
        repeat' (first | exact hst | (omega) | intro _ | refine ⟨?_,?_⟩)
       | false=>
        have hr:l6 n none ps=false:=by rw [← hrb,hbl];simp
        by_cases he:pn.name=last
        · have he':=eq_true he
          have XZ:Op.bytesLess pn.name last=false:=by rw [he,dI]
          simp(maxSteps:=400000)only[↓ax,ay,BEq.rfl,reduceIte,reduceCtorEq,Nat.reduceLT,reduceAdd,reduceSub,reduceMul,Nat.reduceBEq,reduceLeDiff,reduceToNat,reduceLE,hQ,hat,hmn,z0,zi,hgi,qL,k9,k2,hu,↓dZ,kz,he',XZ,hr,sw,iE,iI,Bv,bC,dY,reduceEq]
          repeat' (first | (omega) | intro _ | refine ⟨?_,?_⟩)
        · have he':=eq_false he
          have XZ:Op.bytesLess pn.name last=true:=by
           rcases uU pn.name last with g | g | g
           · exact g
           · exact absurd g he
           · rw [g] at hbl;cases hbl
          simp(maxSteps:=400000)only[↓ax,ay,BEq.rfl,reduceIte,reduceCtorEq,Nat.reduceLT,reduceAdd,reduceSub,reduceMul,Nat.reduceBEq,reduceLeDiff,reduceToNat,reduceLE,hQ,hat,hmn,z0,zi,hgi,qL,k9,k2,hu,↓dZ,kz,he',XZ,hr,sw,iE,iI,Bv,bC,dY,reduceEq]
          repeat' (first | (omega) | intro _ | refine ⟨?_,?_⟩)
  · have k2':=eq_false k2
    have k2b:(n.kind==2)=false:=by simpa using k2
    have k2n:(n.kind !=2)=true:=by simpa using k2
    simp only [BEq.rfl,k2b,k2n,Bool.true_and,Bool.false_or,Bool.true_or,Bool.and_true] at hrb
    by_cases hnm:pn.name=[]
    · have hnm':=eq_true hnm
      have hst:=step (by rw [← hrb,hnm];simp)
      by_cases k1:n.kind=1
      · have k9:(pn.kind=9)=True:=by rw [hb];exact eq_true k1
        have k1':=eq_true k1
        simp(maxSteps:=400000)only[↓ax,ay,BEq.rfl,reduceIte,reduceCtorEq,Nat.reduceLT,reduceAdd,reduceSub,reduceMul,Nat.reduceBEq,reduceLeDiff,reduceToNat,reduceLE,hQ,hat,hmn,z0,zi,hgi,qL,hlt1,k9,k1,hnm',↓eH,hnx,toNat_natCast,sw,iE,iI,Bv,bC,dY,reduceEq]
        repeat' (first | exact hst | (omega) | intro _ | refine ⟨?_,?_⟩)
      · have k1':=eq_false k1
        have k9:(pn.kind=9)=False:=by rw [hb];exact k1'
        simp(maxSteps:=400000)only[↓ax,ay,BEq.rfl,reduceIte,reduceCtorEq,Nat.reduceLT,reduceAdd,reduceSub,reduceMul,Nat.reduceBEq,reduceLeDiff,reduceToNat,reduceLE,hQ,hat,hmn,z0,zi,hgi,qL,hlt1,k9,k1',k2',hnm',↓eH,hnx,toNat_natCast,sw,iE,iI,Bv,bC,dY,reduceEq]
        repeat' (first | exact hst | (omega) | intro _ | refine ⟨?_,?_⟩)
    · have hnm':=eq_false hnm
      have hr:l6 n none ps=false:=by rw [← hrb];simp [hnm]
      by_cases k1:n.kind=1
      · have k9:(pn.kind=9)=True:=by rw [hb];exact eq_true k1
        simp(maxSteps:=400000)only[↓ax,ay,BEq.rfl,reduceIte,reduceCtorEq,Nat.reduceLT,reduceAdd,reduceSub,reduceMul,Nat.reduceBEq,reduceLeDiff,reduceToNat,reduceLE,hQ,hat,hmn,z0,zi,hgi,qL,k9,k1,hnm',hr,sw,iE,iI,Bv,bC,dY,reduceEq]
      · have k1':=eq_false k1
        have k9:(pn.kind=9)=False:=by rw [hb];exact k1'
        simp(maxSteps:=400000)only[↓ax,ay,BEq.rfl,reduceIte,reduceCtorEq,Nat.reduceLT,reduceAdd,reduceSub,reduceMul,Nat.reduceBEq,reduceLeDiff,reduceToNat,reduceLE,hQ,hat,hmn,z0,zi,hgi,qL,k9,k1',k2',hnm',hr,sw,iE,iI,Bv,bC,dY,reduceEq]
def gX:dF:=fun args objs K=>match args with
 | [a0,.int .i64 i]=>f_ aH a0 (HK.mk:HK fun t=>(0≤i)∧(i.toNat<t.length)∧(tY t)∧(Y.One t)∧K (.bool (zD t i.toNat)) objs 0)
 | _=>False
theorem L6:aD Tryz.prog 71 (gX):=by
 intro args objs K h
 unfold gX at h
 split at h
 · rename_i a0 i
   obtain ⟨t,rfl,h1,h2,h3,h4,hk⟩:=h
   exact ⟨_,_,_,.pure _ rfl ((by have:=LZ t i.toNat _ h3 h4 (List.getElem?_eq_getElem h2);rwa [Int.toNat_of_nonneg h1] at this)),hk⟩
 · exact h.elim
theorem RI (nm:List UInt8) (o:Nat) (q:bq) (qs:List bq):uG nm o (q::qs)=if Y.nameOf q=nm then some (o,q) else uG nm (o+q.length) qs:=rfl
theorem DU (t:bq) (hs:tY t) (ho:Y.One t):∀ (p:List Stp) (at':Nat),at'<t.length→p.length≤1000000→ah Tryz.prog 73 [aH t,.int .i64 at',jN p] [] (.int .i64 (jD t at' p)) []
 | [],at',hat,hp=>by
  refine qA.aZ (T:=aO Tryz.prog []) 0 hD (aj ai) aT (by decide) fun Q hQ=>?_
  have hr:jD t at' []=at':=by simp [jD,qV]
  have c00:((0:Nat):Int)=0:=rfl
  (conv=>arg 4;cbv);simp(maxSteps:=400000)only[↓ax,ay,BEq.rfl,reduceIte,reduceCtorEq,Nat.reduceLT,reduceAdd,reduceSub,reduceMul,Nat.reduceBEq,reduceLeDiff,reduceToNat,reduceLE,hQ,hr,c00]
 | s::p,at',hat,hp=>by
  have hok:aD Tryz.prog 73 (fun args objs K=>∃ i:Int,args=[aH t,.int .i64 i,jN p]∧0≤i∧i<t.length∧K (.int .i64 (jD t i.toNat p)) objs 0):=by
   rintro args objs K ⟨i,rfl,h1,h2,hk⟩
   have:=DU t hs ho p i.toNat (by omega) (by simp only [List.length_cons] at hp;omega)
   rw [Int.toNat_of_nonneg h1] at this
   exact ⟨_,_,_,.pure _ rfl this,hk⟩
  refine qA.aZ (T:=aO Tryz.prog [(45,eH),(73,_)]) 0 hD (aj (af l7 (af hok ai))) aT (by decide) fun Q hQ=>?_
  have hl:=hs.len
  have hgt:=List.getElem?_eq_getElem hat
  generalize t[at']=n at hgt
  obtain ⟨ps,c,hm,hmL,hps,hsk,hfl,hone,hsub,hle⟩:=Y.tX ho hgt
  have hpl:=Y.bQ _ _ _ hps
  have hpo:Y.partsOf n ps.flatten=ps:=by
   have:=Y.kC ps hone
   rw [hpl] at this
   simp [Y.partsOf,this]
  have z0:(0≤(at':Int))=True:=eq_true (by omega)
  have hg0:(s::p)[0]?=some s:=rfl
  have hdr:(s::p).drop 1=p:=rfl
  have hpn:(((s::p).length:Int)=0)=False:=eq_false (by simp only [List.length_cons];omega)
  have hwl:1≤(s::p).length:=by simp
  generalize hsp:s::p=w at *
  by_cases hk:n.kind=2∧s.part=false
  rotate_left 1
  · have hr:jD t at' w=-1:=by
     simp only [jD,hsub,← hsp,qV];rw [if_neg hk]
    by_cases k2:n.kind=2
    · have hpt:s.part=true:=by
       cases h:s.part with
       | true=>rfl
       | false=>exact absurd ⟨k2,h⟩ hk
      (conv=>arg 4;cbv);simp(maxSteps:=400000)only[↓ax,ay,BEq.rfl,reduceIte,reduceCtorEq,Nat.reduceLT,reduceAdd,reduceSub,reduceMul,Nat.reduceBEq,reduceLeDiff,reduceToNat,reduceLE,hQ,hpn,hgt,z0,k2,hg0,hpt,hr,reduceEq]
    · have k2':=eq_false k2
      (conv=>arg 4;cbv);simp(maxSteps:=400000)only[↓ax,ay,BEq.rfl,reduceIte,reduceCtorEq,Nat.reduceLT,reduceAdd,reduceSub,reduceMul,Nat.reduceBEq,reduceLeDiff,reduceToNat,reduceLE,hQ,hpn,hgt,z0,k2',hr]
  obtain ⟨k2,hpt⟩:=hk
  have hr:jD t at' w=match uG s.name 1 ps with | some (o,q)=>(match (qV p q).map (o+·) with | some j=>((at'+j:Nat):Int) | none=>-1) | none=>-1:=by
   simp only [jD,hsub,← hsp,qV]
   rw [if_pos ⟨k2,hpt⟩,hpo]
   cases uG s.name 1 ps with
   | none=>rfl
   | some oq=>rfl
  (conv=>arg 4;cbv);simp(maxSteps:=400000)only[↓ax,ay,BEq.rfl,reduceIte,reduceCtorEq,Nat.reduceLT,reduceAdd,reduceSub,reduceMul,Nat.reduceBEq,reduceLeDiff,reduceToNat,reduceLE,hQ,hpn,hgt,z0,k2,hg0,hpt,reduceEq]
  refine ⟨⟨by omega,by omega⟩,?_⟩
  refine aF (fun m S=>∃ (i:Nat) (rest:List bq),m=rest.length∧rest.length≤ps.length∧at'+1≤i∧Y.parts rest.length (t.drop i)=some rest∧i≤t.length∧uG s.name (i-at') rest=uG s.name 1 ps∧
   S=⟨cO 54 [(0,aH t),(1,.int .i64 at'),(2,jN w),(7,.int .i64 i),(8,.int .i64 ((ps.length:Int)-rest.length))],[]⟩) ps.length ⟨at'+1,ps,rfl,Nat.le_refl _,Nat.le_refl _,by rw [hpl];exact hps,by omega,by rw [show at'+1-at'=1 by omega],?_⟩ ?_
  · simp only [bI,keepR,reduceAdd,kT,Nat.reduceBEq,List.map_nil]
    simp
  rintro m S ⟨i,rest,rfl,hrl,hia,hrp,hit,hrb,rfl⟩
  have hmn:n.many=(ps.length:Int):=by omega
  have zi:(0≤(i:Int))=True:=eq_true (by omega)
  cases rest with
  | nil=>
   have hlt:((ps.length:Int)-((0:Nat):Int)<(ps.length:Int))=False:=eq_false (by omega)
   have hr':jD t at' w=-1:=by rw [hr,← hrb];rfl
   simp(maxSteps:=400000)only[↓ax,ay,BEq.rfl,reduceIte,reduceCtorEq,Nat.reduceLT,reduceAdd,reduceSub,reduceMul,Nat.reduceBEq,reduceLeDiff,reduceToNat,reduceLE,hQ,hgt,hmn,z0,List.length_nil,hlt,hr']
  | cons q qs=>
   obtain ⟨pc,Zu,h1,h2,h3⟩:=Y.dN (k:=qs.length) hrp
   simp only [List.cons.injEq] at h2
   obtain ⟨hp',rfl⟩:=h2
   have hpc:=Y.dG _ _ _ h1
   simp only [List.length_drop] at hpc
   have hil:i<t.length:=by omega
   have hgi:=List.getElem?_eq_getElem hil
   have hdi:=List.drop_eq_getElem_cons hil
   generalize t[i]=pn at hgi hdi
   obtain ⟨k,hk⟩:∃ k,pc=k+1:=⟨pc-1,by omega⟩
   have hname:Y.nameOf q=pn.name:=by rw [hp',hdi,hk];rfl
   have hnx:pV t i=(i+pc:Nat):=v_ (Y.lT _ _ _ _ h1 (by omega))
   have hsq:Y.pU t i=q:=by unfold Y.pU;rw [h1];exact hp'.symm
   have VW:q.length=pc:=by rw [hp',List.length_take,List.length_drop];omega
   simp only [List.length_cons] at hrl
   have h3':Y.parts qs.length (t.drop (i+pc))=some qs:=by rw [← List.drop_drop];exact h3
   have qL:((ps.length:Int)-((qs.length+1:Nat):Int)<(ps.length:Int))=True:=eq_true (by omega)
   have hlt1:(-9223372036854775808≤(ps.length:Int)-((qs.length+1:Nat):Int)+1∧(ps.length:Int)-((qs.length+1:Nat):Int)+1≤9223372036854775807)=True:=eq_true ⟨by omega,by omega⟩
   have e:(ps.length:Int)-((qs.length+1:Nat):Int)+1=(ps.length:Int)-qs.length:=by omega
   rw [RI,hname] at hrb
   by_cases hnm:pn.name=s.name
   · have hnm':=eq_true hnm
     rw [if_pos hnm] at hrb
     have hr':jD t at' w=jD t i p:=by
      rw [hr,← hrb]
      simp only [jD,hsq]
      cases qV p q with
      | none=>rfl
      | some j=>simp only [Option.map_some];omega
     simp(maxSteps:=400000)only[↓ax,ay,BEq.rfl,reduceIte,reduceCtorEq,Nat.reduceLT,reduceAdd,reduceSub,reduceMul,Nat.reduceBEq,reduceLeDiff,reduceToNat,reduceLE,hQ,hgt,hmn,z0,zi,hgi,hg0,qL,hnm',hr',List.take_length,hdr,toNat_natCast]
     repeat' (first | (omega) | exact rfl | exact ⟨(i:Int),rfl,by omega,by omega,by rw [toNat_natCast]⟩ | intro _ | refine ⟨?_,?_⟩)
   · have hnm':=eq_false hnm
     rw [if_neg hnm] at hrb
     simp(maxSteps:=400000)only[↓ax,ay,BEq.rfl,reduceIte,reduceCtorEq,Nat.reduceLT,reduceAdd,reduceSub,reduceMul,Nat.reduceBEq,reduceLeDiff,reduceToNat,reduceLE,hQ,hgt,hmn,z0,zi,hgi,hg0,qL,hlt1,hnm',↓eH,hnx,toNat_natCast]
     repeat' (first | (omega) | exact ⟨qs.length,by omega,i+pc,qs,rfl,by omega,by omega,h3',by omega,by rw [show i+pc-at'=i-at'+q.length by omega];exact hrb,by rw [e]⟩ | intro _ | refine ⟨?_,?_⟩)
def jU:dF:=fun args objs K=>match args with
 | [a0,.int .i64 i,a2]=>f_ aH a0 (HK.mk:HK fun t=>f_ jN a2 (HK.mk:HK fun p=>(0≤i)∧(i<t.length)∧(tY t)∧(Y.One t)∧(p.length≤1000000)∧K (.int .i64 (jD t i.toNat p)) objs 0))
 | _=>False
theorem L8:aD Tryz.prog 73 (jU):=by
 intro args objs K h
 unfold jU at h
 split at h
 · rename_i a0 i a2
   obtain ⟨t,rfl,p,rfl,h1,h2,h3,h4,h5,hk⟩:=h
   exact ⟨_,_,_,.pure _ rfl ((by have:=DU t h3 h4 p i.toNat (by omega) h5;rwa [Int.toNat_of_nonneg h1] at this)),hk⟩
 · exact h.elim
end Lp
set_option maxRecDepth 100000
namespace Lp
open Go Go.Proofs
open List (length_drop map_nil)
open Nat (reduceAdd reduceLeDiff reduceMul reduceSub)
open Int (reduceLE reduceToNat toNat_natCast)
set_option maxHeartbeats 4000000
theorem RJ {x:fK}(h:dz bH x=true) (hk:x.kind=7∨x.kind=8):x.many=1:=by
 rcases hk with k | k <;> simp only [dz,k,Int.reduceEq,if_false,if_true,or_false,or_true,false_or,true_or,Bool.and_eq_true,beq_iff_eq] at h <;> exact h.1.1.1
theorem Vv {t:bq}{i:Nat}{x:fK}(ho:Y.One t) (hx:t[i]?=some x) (hm:(x.kind=7∨x.kind=8)→x.many=1) :
  (x.kind=7∨x.kind=8→i+1<t.length∧(j6 t i=true↔0≤jD t (i+1) (iO x.s)∧∃ y,t[(jD t (i+1) (iO x.s)).toNat]?=some y∧y.kind=1))∧(¬ (x.kind=7∨x.kind=8)→j6 t i=true):=by
 obtain ⟨ps,c,h1,h2,h3,h4,h5,h6,h7,h8⟩:=Y.tX ho hx
 have hl:=(List.getElem?_eq_some_iff.1 hx).1
 have hd:=List.drop_eq_getElem_cons hl
 have he:j6 t i=Jm iO x ps:=by
  rw [List.getElem?_eq_getElem hl] at hx
  cases hx
  simp only [j6,hd,h3]
 rw [he]
 constructor
 · intro hk
   rw [hm hk] at h3 h4
   obtain ⟨pc,qs,g1,g2,g3⟩:=Y.dN (k:=0) h3
   have hq:qs=[]:=by simpa [Y.parts] using g3.symm
   subst hq
   have hil:i+1<t.length:=by
    have:=Y.dG _ _ _ g1
    rw [length_drop] at this;omega
   have hsub:Y.pU t (i+1)=(t.drop (i+1)).take pc:=by unfold Y.pU;rw [g1]
   refine ⟨hil,?_⟩
   rw [← XW ho hil,hsub]
   simp only [Jm,if_pos hk,g2]
 · intro hk
   simp only [Jm,if_neg hk]
theorem L9 (t:bq) (hs:tY t):ah Tryz.prog 48 [aH t] [] (.bool (fG t)) []:=by
 have hl:=hs.len
 refine zu.aZ (T:=aO Tryz.prog [(45,eH),(70,fU),(71,gX),(72,fJ),(73,jU)]) 0 hD (aj (af l7 (af IX (af L6 (af A_ (af L8 ai)))))) aT (by decide) fun Q hQ=>?_
 rcases Nat.eq_zero_or_pos t.length with hv | hv
 · have hr:fG t=false:=by
    have:t=[]:=List.length_eq_zero_iff.1 hv
    rw [this];rfl
   have hv':((t.length:Int)=0)=True:=eq_true (by omega)
   (conv=>arg 4;cbv);simp(maxSteps:=400000)only[↓ax,ay,BEq.rfl,reduceIte,reduceCtorEq,Nat.reduceLT,reduceAdd,reduceSub,reduceMul,Nat.reduceBEq,reduceLeDiff,reduceToNat,reduceLE,hQ,hr,hv']
 have hv':((t.length:Int)=0)=False:=eq_false (by omega)
 obtain ⟨n0,r0,hvr⟩:∃ n r,t=n::r:=by
  cases t with
  | nil=>simp at hv
  | cons n r=>exact ⟨n,r,rfl⟩
 have hg0:t[0]?=some n0:=by rw [hvr];rfl
 have hnm:Y.nameOf t=n0.name:=by rw [hvr];rfl
 have hkd:Y.kindOf t=n0.kind:=by rw [hvr];rfl
 have hne:t.isEmpty=false:=by rw [hvr];rfl
 by_cases hname:n0.name=[]
 rotate_left 1
 · have hr:fG t=false:=by simp [fG,hnm,hname]
   (conv=>arg 4;cbv);simp(maxSteps:=400000)only[↓ax,ay,BEq.rfl,reduceIte,reduceCtorEq,Nat.reduceLT,reduceAdd,reduceSub,reduceMul,Nat.reduceBEq,reduceLeDiff,reduceToNat,reduceLE,hQ,hr,hv',hg0,hname]
 by_cases hk9:n0.kind=9
 · have hr:fG t=false:=by simp [fG,hkd,hk9]
   (conv=>arg 4;cbv);simp(maxSteps:=400000)only[↓ax,ay,BEq.rfl,reduceIte,reduceCtorEq,Nat.reduceLT,reduceAdd,reduceSub,reduceMul,Nat.reduceBEq,reduceLeDiff,reduceToNat,reduceLE,hQ,hr,hv',hg0,hname,hk9]
 have ack:=eq_false hk9
 have hz:Int.toNat 0=0:=rfl
 by_cases hnx:pV t 0=(t.length:Int)
 rotate_left 1
 · have hr:fG t=false:=by
    have:Y.gT t.length t 1≠some t.length:=fun h=>hnx (by rw [v_ (i:=0) (by simpa using h)];simp)
    simp [fG,this]
   have ac8:=eq_false hnx
   (conv=>arg 4;cbv);simp(maxSteps:=400000)only[↓ax,ay,BEq.rfl,reduceIte,reduceCtorEq,Nat.reduceLT,reduceAdd,reduceSub,reduceMul,Nat.reduceBEq,reduceLeDiff,reduceToNat,reduceLE,hQ,hr,hv',hg0,hname,ack,hz,↓eH,ac8]
   exact ⟨Nat.zero_le _,hl⟩
 have hn:Y.gT t.length t 1=some t.length:=by
  unfold pV at hnx
  rw [List.drop_zero] at hnx
  cases hx:Y.gT t.length t 1 with
  | none=>rw [hx] at hnx;simp only at hnx;omega
  | some c=>rw [hx] at hnx;simp only at hnx;congr 1;omega
 have ho:Y.One t:=Y.ny _ _ _ _ hn
 have hr:fG t=Y.fq (qD bH iO) t:=by
  simp [fG,hnm,hkd,hname,hk9,hn,hne]
 (conv=>arg 4;cbv);simp(maxSteps:=400000)only[↓ax,ay,BEq.rfl,reduceIte,reduceCtorEq,Nat.reduceLT,reduceAdd,reduceSub,reduceMul,Nat.reduceBEq,reduceLeDiff,reduceToNat,reduceLE,hQ,hv',hg0,hname,ack,hz,↓eH,hnx]
 refine ⟨Nat.zero_le _,hl,?_⟩
 refine aF (fun m S=>∃ i:Nat,i+m=t.length∧Y.fq (qD bH iO) (t.drop i)=Y.fq (qD bH iO) t∧S=⟨cO 87 [(0,aH t),(3,.int .i64 i)],[]⟩) t.length ⟨0,by omega,rfl,?_⟩ ?_
 · simp only [bI,keepR,reduceAdd,kT,Nat.reduceBEq,map_nil]
   rfl
 rintro m S ⟨i,him,hgd,rfl⟩
 rcases Nat.lt_or_ge i t.length with h | h
 · have hg:=List.getElem?_eq_getElem h
   have htx:=hs.txt _ (List.getElem_mem h)
   generalize t[i]=n at hg htx
   have hd:=Rz hg
   rw [hgd,← hr] at hd
   have zi:(0≤(i:Int))=True:=eq_true (by omega)
   have MH:(0≤(i:Int)+1)=True:=eq_true (by omega)
   have La:((i:Int)+1).toNat=i+1:=by omega
   have hlt:((i:Int)<(t.length:Int))=True:=eq_true (by omega)
   have next:fG t=Y.fq (qD bH iO) (t.drop (i+1))→∃ m',m'<m∧∃ EN:Nat,EN+m'=t.length∧Y.fq (qD bH iO) (t.drop EN)=Y.fq (qD bH iO) t∧(⟨cO 87 [(0,aH t),(3,.int .i64 ((i:Int)+1))],[]⟩:St)=⟨cO 87 [(0,aH t),(3,.int .i64 EN)],[]⟩:=fun e=>
    ⟨m-1,by omega,i+1,by omega,by rw [← e,hr],rfl⟩
   cases hp:dz bH n
   · have hr2:fG t=false:=by rw [hd,hp];rfl
     simp(maxSteps:=400000)only[↓ax,ay,BEq.rfl,reduceIte,reduceCtorEq,Nat.reduceLT,reduceAdd,reduceSub,reduceMul,Nat.reduceBEq,reduceLeDiff,reduceToNat,reduceLE,hQ,hg,↓fU,↓gX,hp,zi,hlt,hr2]
     exact ⟨htx.1,htx.2.2⟩
   cases hq:zD t i
   · have hr2:fG t=false:=by rw [hd,hp,hq];rfl
     simp(maxSteps:=400000)only[↓ax,ay,BEq.rfl,reduceIte,reduceCtorEq,Nat.reduceLT,reduceAdd,reduceSub,reduceMul,Nat.reduceBEq,reduceLeDiff,reduceToNat,reduceLE,hQ,hg,↓fU,↓gX,toNat_natCast,hp,hq,zi,hlt,hr2]
     exact ⟨htx.1,htx.2.2,h,hs,ho⟩
   rw [hp,hq,Bool.true_and,Bool.true_and] at hd
   obtain ⟨l1,l2⟩:=Vv ho hg (RJ hp)
   by_cases hk:n.kind=7∨n.kind=8
   rotate_left 1
   · have k7:(n.kind=7)=False:=eq_false fun h=>hk (.inl h)
     have k8:(n.kind=8)=False:=eq_false fun h=>hk (.inr h)
     rw [l2 hk,Bool.true_and] at hd
     have hst:=next hd
     simp(maxSteps:=400000)only[↓ax,ay,BEq.rfl,reduceIte,reduceCtorEq,Nat.reduceLT,reduceAdd,reduceSub,reduceMul,Nat.reduceBEq,reduceLeDiff,reduceToNat,reduceLE,hQ,hg,↓fU,↓gX,toNat_natCast,hp,hq,zi,hlt,k7,k8]
     repeat' (first | omega | exact htx.1 | exact htx.2.2 | exact hs | exact ho | exact hst | refine ⟨?_,?_⟩)
   obtain ⟨hil,Xp⟩:=l1 hk
   have hpl:=JS n.s
   have hlr:=XV (p:=iO n.s) ho hil
   by_cases h7:n.kind=7
   · have k7:=eq_true h7
     generalize hL:jD t (i+1) (iO n.s)=L at *
     by_cases hn0:L<0
     · have L_:=eq_true hn0
       have hr2:fG t=false:=by
        rw [hd]
        have:j6 t i=false:=by
         cases hx:j6 t i with
         | false=>rfl
         | true=>exact absurd (Xp.1 hx).1 (by omega)
        rw [this];rfl
       simp(maxSteps:=400000)only[↓ax,ay,BEq.rfl,reduceIte,reduceCtorEq,Nat.reduceLT,reduceAdd,reduceSub,reduceMul,Nat.reduceBEq,reduceLeDiff,reduceToNat,reduceLE,hQ,hg,↓fU,↓gX,↓fJ,↓jU,fQ,toNat_natCast,La,hp,hq,zi,hlt,k7,hL,L_,hr2]
       repeat' (first | omega | exact htx.1 | exact htx.2.2 | exact hs | exact ho | refine ⟨?_,?_⟩)
     · have L_:=eq_false hn0
       obtain ⟨j,rfl⟩:∃ j:Nat,L=j:=⟨L.toNat,by omega⟩
       rw [toNat_natCast] at Xp
       have hjl:j<t.length:=by omega
       have hgj:=List.getElem?_eq_getElem hjl
       have zj:(0≤(j:Int))=True:=eq_true (by omega)
       generalize t[j]=y at hgj
       by_cases hk1:y.kind=1
       · have hla:j6 t i=true:=Xp.2 ⟨by omega,y,hgj,hk1⟩
         rw [hla,Bool.true_and] at hd
         have hst:=next hd
         simp(maxSteps:=400000)only[↓ax,ay,BEq.rfl,reduceIte,reduceCtorEq,Nat.reduceLT,reduceAdd,reduceSub,reduceMul,Nat.reduceBEq,reduceLeDiff,reduceToNat,reduceLE,hQ,hg,↓fU,↓gX,↓fJ,↓jU,fQ,toNat_natCast,La,hp,hq,zi,hlt,k7,hL,L_,zj,hgj,hk1]
         repeat' (first | omega | exact htx.1 | exact htx.2.2 | exact hs | exact ho | exact hst | refine ⟨?_,?_⟩)
       · have RL:=eq_false hk1
         have hr2:fG t=false:=by
          rw [hd]
          have:j6 t i=false:=by
           cases hx:j6 t i with
           | false=>rfl
           | true=>obtain ⟨_,z,hz1,hz2⟩:=Xp.1 hx;rw [hgj] at hz1;cases hz1;exact absurd hz2 hk1
          rw [this];rfl
         simp(maxSteps:=400000)only[↓ax,ay,BEq.rfl,reduceIte,reduceCtorEq,Nat.reduceLT,reduceAdd,reduceSub,reduceMul,Nat.reduceBEq,reduceLeDiff,reduceToNat,reduceLE,hQ,hg,↓fU,↓gX,↓fJ,↓jU,fQ,toNat_natCast,La,hp,hq,zi,hlt,k7,hL,L_,zj,hgj,RL,hr2]
         repeat' (first | omega | exact htx.1 | exact htx.2.2 | exact hs | exact ho | refine ⟨?_,?_⟩)
   · have k7:=eq_false h7
     have k8:=eq_true (hk.resolve_left h7)
     generalize hL:jD t (i+1) (iO n.s)=L at *
     by_cases hn0:L<0
     · have L_:=eq_true hn0
       have hr2:fG t=false:=by
        rw [hd]
        have:j6 t i=false:=by
         cases hx:j6 t i with
         | false=>rfl
         | true=>exact absurd (Xp.1 hx).1 (by omega)
        rw [this];rfl
       simp(maxSteps:=400000)only[↓ax,ay,BEq.rfl,reduceIte,reduceCtorEq,Nat.reduceLT,reduceAdd,reduceSub,reduceMul,Nat.reduceBEq,reduceLeDiff,reduceToNat,reduceLE,hQ,hg,↓fU,↓gX,↓fJ,↓jU,fQ,toNat_natCast,La,hp,hq,zi,hlt,k7,k8,hL,L_,hr2]
       repeat' (first | omega | exact htx.1 | exact htx.2.2 | exact hs | exact ho | refine ⟨?_,?_⟩)
     · have L_:=eq_false hn0
       obtain ⟨j,rfl⟩:∃ j:Nat,L=j:=⟨L.toNat,by omega⟩
       rw [toNat_natCast] at Xp
       have hjl:j<t.length:=by omega
       have hgj:=List.getElem?_eq_getElem hjl
       have zj:(0≤(j:Int))=True:=eq_true (by omega)
       generalize t[j]=y at hgj
       by_cases hk1:y.kind=1
       · have hla:j6 t i=true:=Xp.2 ⟨by omega,y,hgj,hk1⟩
         rw [hla,Bool.true_and] at hd
         have hst:=next hd
         simp(maxSteps:=400000)only[↓ax,ay,BEq.rfl,reduceIte,reduceCtorEq,Nat.reduceLT,reduceAdd,reduceSub,reduceMul,Nat.reduceBEq,reduceLeDiff,reduceToNat,reduceLE,hQ,hg,↓fU,↓gX,↓fJ,↓jU,fQ,toNat_natCast,La,hp,hq,zi,hlt,k7,k8,hL,L_,zj,hgj,hk1]
         repeat' (first | omega | exact htx.1 | exact htx.2.2 | exact hs | exact ho | exact hst | refine ⟨?_,?_⟩)
       · have RL:=eq_false hk1
         have hr2:fG t=false:=by
          rw [hd]
          have:j6 t i=false:=by
           cases hx:j6 t i with
           | false=>rfl
           | true=>obtain ⟨_,z,hz1,hz2⟩:=Xp.1 hx;rw [hgj] at hz1;cases hz1;exact absurd hz2 hk1
          rw [this];rfl
         simp(maxSteps:=400000)only[↓ax,ay,BEq.rfl,reduceIte,reduceCtorEq,Nat.reduceLT,reduceAdd,reduceSub,reduceMul,Nat.reduceBEq,reduceLeDiff,reduceToNat,reduceLE,hQ,hg,↓fU,↓gX,↓fJ,↓jU,fQ,toNat_natCast,La,hp,hq,zi,hlt,k7,k8,hL,L_,zj,hgj,RL,hr2]
         repeat' (first | omega | exact htx.1 | exact htx.2.2 | exact hs | exact ho | refine ⟨?_,?_⟩)
 · have hlt:((i:Int)<(t.length:Int))=False:=eq_false (by omega)
   have hr2:fG t=true:=by rw [hr,← hgd,List.drop_eq_nil_of_le h];rfl
   simp(maxSteps:=400000)only[↓ax,ay,BEq.rfl,reduceIte,reduceCtorEq,Nat.reduceLT,reduceAdd,reduceSub,reduceMul,Nat.reduceBEq,reduceLeDiff,reduceToNat,reduceLE,hQ,hlt,hr2]
def pY:dF:=fun args objs K=>match args with
 | [a0]=>f_ aH a0 (HK.mk:HK fun t=>(tY t)∧K (.bool (fG t)) objs 0)
 | _=>False
theorem IY:aD Tryz.prog 48 (pY):=by
 intro args objs K h
 unfold pY at h
 split at h
 · rename_i a0
   obtain ⟨t,rfl,h1,hk⟩:=h
   exact ⟨_,_,_,.pure _ rfl (L9 t h1),hk⟩
 · exact h.elim
theorem aaq:(dK ⟨0,aW⟩).cells.length=7∧(∀ a,(dK a).cells.length=7)∧(∀ a,(dK a).cells.all PV.storable=true):=⟨rfl,fun _=>rfl,fun _=>rfl⟩
theorem Ma (t:bq) (at':Nat) (n:fK) (hl:t.length≤1000000) (hat:t[at']?=some n) (hm:n.kind=1→0≤n.many∧at'+1+n.many.toNat≤t.length) (hb:-1000000000≤n.many∧n.many≤1000000000) :
  ah Tryz.prog 49 [aH t,.int .i64 at'] [] (bP (if n.kind=1 then ((t.drop (at'+1)).take n.many.toNat).map jy else [])) []:=by
 have Y1:=(List.getElem?_eq_some_iff.1 hat).1
 have z0:(0≤(at':Int))=True:=eq_true (by omega)
 generalize hR:(if n.kind=1 then ((t.drop (at'+1)).take n.many.toNat).map jy else [])=R
 refine zw.aZ (T:=aO Tryz.prog []) 1 hD (aj ai) aT (by decide) fun Q hQ=>?_
 (conv=>arg 4;cbv);simp(maxSteps:=400000)only[↓ax,ay,BEq.rfl,reduceIte,reduceCtorEq,Nat.reduceLT,reduceAdd,reduceSub,reduceMul,Nat.reduceBEq,reduceLeDiff,reduceToNat,reduceLE,hQ,atB,aa7,aaq]
 refine ⟨⟨by omega,by omega⟩,?_⟩
 by_cases hk:n.kind=1
 rotate_left 1
 · rw [if_neg hk] at hR
   subst hR
   have hk':=eq_false hk
   refine aF (fun m S=>∃ _u:Unit,S=⟨cO 44 [(0,aH t),(1,.int .i64 at'),(5,.aX 0 1),(6,.int .i64 ((at':Int)+1))],[⟨87,7,[],true,1⟩]⟩) 0 ⟨(),?_⟩ ?_
   · simp only [bI,keepR,reduceAdd,kT,Nat.reduceBEq,map_nil]
   rintro m S ⟨_,rfl⟩
   have e0:∀ ver,eY 1 0 [⟨87,7,[],true,ver⟩] (.aX 0 ver)=bP []:=fun ver=>LX [] ver 87 []
   by_cases hgt:(at':Int)+1≤(at':Int)+n.many
   · have aa_:=eq_true hgt
     simp(maxSteps:=400000)only[↓ax,ay,BEq.rfl,reduceIte,reduceCtorEq,Nat.reduceLT,reduceAdd,reduceSub,reduceMul,Nat.reduceBEq,reduceLeDiff,reduceToNat,reduceLE,hQ,hat,z0,hk',aa_,e0]
     repeat' (first | (omega) | exact rfl | intro _ | refine ⟨?_,?_⟩)
   · have aa_:=eq_false hgt
     simp(maxSteps:=400000)only[↓ax,ay,BEq.rfl,reduceIte,reduceCtorEq,Nat.reduceLT,reduceAdd,reduceSub,reduceMul,Nat.reduceBEq,reduceLeDiff,reduceToNat,reduceLE,hQ,hat,z0,hk',aa_,e0]
     repeat' (first | (omega) | exact rfl | intro _ | refine ⟨?_,?_⟩)
 rw [if_pos hk] at hR
 subst hR
 obtain ⟨hm0,hm1⟩:=hm hk
 have hk':=eq_true hk
 refine aF (fun m S=>∃ (i ver:Nat),i+m=n.many.toNat∧S=⟨cO 44 [(0,aH t),(1,.int .i64 at'),(5,.aX 0 ver),(6,.int .i64 ((at':Int)+1+i))],[⟨87,7,(((t.drop (at'+1)).take i).map jy).map dK,true,ver⟩]⟩) n.many.toNat ⟨0,1,by omega,?_⟩ ?_
 · simp only [bI,keepR,reduceAdd,kT,Nat.reduceBEq,map_nil]
   simp
 rintro m S ⟨i,ver,him,rfl⟩
 rcases Nat.lt_or_ge i n.many.toNat with h | h
 · have hlt:((at':Int)+1+(i:Int)≤(at':Int)+n.many)=True:=eq_true (by omega)
   have hil:at'+1+i<t.length:=by omega
   have ti:((at':Int)+1+(i:Int)).toNat=at'+1+i:=by omega
   have zi:(0≤(at':Int)+1+(i:Int))=True:=eq_true (by omega)
   have hgi:=List.getElem?_eq_getElem hil
   have hgd:(t.drop (at'+1))[i]?=some t[at'+1+i]:=by rw [List.getElem?_drop];exact hgi
   generalize t[at'+1+i]=x at hgi hgd
   have htk:((t.drop (at'+1)).take (i+1)).map jy=((t.drop (at'+1)).take i).map jy++[⟨x.n,x.c⟩]:=by
    rw [List.take_add_one,hgd];simp [jy]
   have tl:((t.drop (at'+1)).take i).length=i:=by rw [List.length_take,length_drop];omega
   simp(maxSteps:=400000)only[↓ax,ay,BEq.rfl,reduceIte,reduceCtorEq,Nat.reduceLT,reduceAdd,reduceSub,reduceMul,Nat.reduceBEq,reduceLeDiff,reduceToNat,reduceLE,hQ,hat,z0,hk',hlt,ti,zi,hgi,atB,aa7,aaq,tl]
   repeat' (first | (omega) | exact ⟨m-1,by omega,i+1,ver+1,by omega,by rw [htk,List.map_append,List.map_cons,map_nil,Int.natCast_add,Int.natCast_one,Int.add_assoc]⟩ | exact rfl | intro _ | refine ⟨?_,?_⟩)
 · have hi:i=n.many.toNat:=by omega
   subst hi
   have hlt:((at':Int)+1+(n.many.toNat:Int)≤(at':Int)+n.many)=False:=eq_false (by omega)
   simp(maxSteps:=400000)only[↓ax,ay,BEq.rfl,reduceIte,reduceCtorEq,Nat.reduceLT,reduceAdd,reduceSub,reduceMul,Nat.reduceBEq,reduceLeDiff,reduceToNat,reduceLE,hQ,hat,z0,hk',hlt,LX]
   repeat' (first | (omega) | exact rfl | intro _ | refine ⟨?_,?_⟩)
def kM (t:bq) (i:Nat):List lG:=match t[i]? with
 | some n=>if n.kind=1 then ((t.drop (i+1)).take n.many.toNat).map jy else []
 | none=>[]
theorem IZ (t:bq) (i:Int) (h0:0≤i) (hi:i.toNat<t.length) (hl:t.length≤1000000) (ho:Y.One t):ah Tryz.prog 49 [aH t,.int .i64 i] [] (bP (kM t i.toNat)) []:=by
 have hg:=List.getElem?_eq_getElem hi
 generalize t[i.toNat]=n at hg
 obtain ⟨ps,c,h1,h2,h3,h4,h5,h6,h7,h8⟩:=Y.tX ho hg
 have hpl:=Y.bQ _ _ _ h3
 have hfl:ps.length≤ps.flatten.length:=by
  have:∀ qs:List bq,(∀ p ∈ qs,Y.One p)→qs.length≤qs.flatten.length:=by
   intro qs
   induction qs with
   | nil=>intro _;simp
   | cons q qs ih=>
    intro h
    have a:=ih fun p hp=>h p (List.mem_cons_of_mem _ hp)
    have b:=List.length_pos_iff.2 (h q (List.mem_cons_self ..)).ne
    simp only [List.length_cons,List.flatten_cons,List.length_append];omega
  exact this ps h6
 rw [h5,List.length_take,length_drop] at hfl
 have:=Ma t i.toNat n hl hg (fun _=>⟨h1,by omega⟩) ⟨by omega,by omega⟩
 rw [Int.toNat_of_nonneg h0] at this
 simp only [kM,hg]
 exact this
def je:dF:=fun args objs K=>match args with
 | [a0,.int .i64 i]=>f_ aH a0 (HK.mk:HK fun t=>(0≤i)∧(i.toNat<t.length)∧(t.length≤1000000)∧(Y.One t)∧K (bP (kM t i.toNat)) objs 0)
 | _=>False
theorem uL:aD Tryz.prog 49 (je):=by
 intro args objs K h
 unfold je at h
 split at h
 · rename_i a0 i
   obtain ⟨t,rfl,h1,h2,h3,h4,hk⟩:=h
   exact ⟨_,_,_,.pure _ rfl (IZ t i h1 h2 h3 h4),hk⟩
 · exact h.elim
theorem Mc (t:bq):kM t 0=iA t:=by
 cases t with
 | nil=>rfl
 | cons n r=>simp [kM,iA]
theorem Pb (t:bq) (hl:t.length≤1000000) (ho:Y.One t):ah Tryz.prog 33 [aH t] [] (bP (iA t)) []:=by
 refine zx.aZ (T:=aO Tryz.prog [(49,je)]) 0 hD (aj (af uL ai)) aT (by decide) fun Q hQ=>?_
 have h0:0<t.length:=List.length_pos_iff.2 ho.ne
 have hz:Int.toNat 0=0:=rfl
 have e:=Mc t
 (conv=>arg 4;cbv);simp(maxSteps:=400000)only[↓ax,ay,BEq.rfl,reduceIte,reduceCtorEq,Nat.reduceLT,reduceAdd,reduceSub,reduceMul,Nat.reduceBEq,reduceLeDiff,reduceToNat,reduceLE,hQ,↓je,hz,e]
 repeat' (first | omega | exact ho | refine ⟨?_,?_⟩)
def tZ:dF:=fun args objs K=>match args with
 | [a0]=>f_ aH a0 (HK.mk:HK fun t=>(t.length≤1000000)∧(Y.One t)∧K (bP (iA t)) objs 0)
 | _=>False
theorem I4:aD Tryz.prog 33 (tZ):=by
 intro args objs K h
 unfold tZ at h
 split at h
 · rename_i a0
   obtain ⟨t,rfl,h1,h2,hk⟩:=h
   exact ⟨_,_,_,.pure _ rfl (Pb t h1 h2),hk⟩
 · exact h.elim
end Lp
