/- Lemmas. -/
import Derived.Test.YtcmgfjaiegpddaaGreatB2
import Derived.Test.YtcmgfjaiegpddaaGreatB4
import Derived.Test.YtcmgfjaiegpddaaGreatB5
set_option linter.all false
set_option maxRecDepth 1000000
set_option maxHeartbeats 4000000
noncomputable section
namespace Go.Proofs.Led
open Go Go.Proofs Go.Ab Tryz
def cN6(L:List Rg)(r:L.length<=100)(g:∀l∈L,l.length<=10000):Sp 235 [.sl (L.map rgV)] (.own 84 (L.flatten.map vcV)):=by
 refine zsp func235 ?_;have k:(L.map rgV).length=L.length:=Af
 have b:∀D:List Rg,(∀l∈D,l.length<=10000)->D.flatten.length<=D.length*10000:=by
  intro D;induction D with
  |nil=>intro _;simp
  |cons d D o=>
   intro h;have h1:=h d Af;have q:=o (λl c=>h l (by simp[c]));simp only[List.flatten_cons,Q5,SY];omega
 repeat' ((conv=>whnf);first|refine zS ?_|fail)
 refine aU (A:=List Rg) (B:=List Rg) (λD R=>mkSt [(0, .sl (L.map rgV)),(3,I D.flatten.length),(9, .sl (L.map rgV)),(10,I L.length),(11,I D.length)] [] [])
  (λD R=>L=D++R) (λD R=>R.length) [] L ?_ rfl (λD R f=>?_)
 exact zj;have h1:L=D++R:=f;have a:L.length=D.length+R.length:=BN;have j:=b D (λl c=>g l (by rw[h1];simp[c]));cases R with
 |cons x R=>
  rw[SY]at a;have n:=g x BN;have i:(x.map vcV).length=x.length:=Af;repeat' ((conv=>whnf);first|omega|refine zS ?_|refine zT ?_ ?_<;>intro _|fail)
  conv=>whnf
  refine⟨(D++[x],R),?_,?_,?_⟩
  ·refine dV ?_ ?_ ?_ ?_
   all_goals repeat' (first|exact trivial|refine And.intro ?_ ?_|with_reducible rfl|exact(λh=>Ah)|exact Sr _|omega|exact rfl)
   show(D.flatten.length:Int)+((x.map vcV).length:Nat)=((D++[x]).flatten.length:Nat);rw[i];simp;show(D.length:Int)+1=(D++[x]).length;simp
  show L=D++[x] ++R;rw[h1];simp;show R.length< (x::R).length;simp
 |nil=>
  have e:L=D:=BN;simp at a;repeat' ((conv=>whnf);first|omega|refine zc (dP8 D.flatten.length Aa) ?_|refine zS ?_|refine zT ?_ ?_<;>intro _|fail)
  clear h1 f a j
  refine aU (A:=List Rg) (B:=List Rg) (λD R=>mkSt [(6, .arr 24 D.length),(25, .sl (L.map rgV)),(26,I L.length),(27,I D.length)] [] [(24,⟨D.length, .own,84,D.flatten.map vcV⟩)])
   (λD R=>L=D++R) (λD R=>R.length) [] L ?_ rfl (λD R f=>?_)
  exact zj;have h1:L=D++R:=f;have a:L.length=D.length+R.length:=BN;have j:=b D (λl c=>g l (by rw[h1];simp[c]));cases R with
  |cons x R=>
   rw[SY]at a;have n:=g x BN;repeat' ((conv=>whnf);first|omega|refine iH rfl (.inl rfl) rfl (Q9 rfl) (λy hy=>A7) (by show(List.map vcV D.flatten).length+(List.map vcV x).length<=_;rw[SG,SG];omega) ?_|refine zS ?_|refine zT ?_ ?_<;>intro _|fail)
   conv=>whnf
   refine⟨(D++[x],R),?_,?_,?_⟩
   ·refine dV ?_ ?_ ?_ ?_
    all_goals repeat' (first|exact trivial|refine And.intro ?_ ?_|with_reducible rfl|exact(λh=>Ah)|exact Sr _|omega|exact rfl)
    all_goals first
     |(show D.length+1=(D++[x]).length;simp;done)
     |(show List.map vcV D.flatten++List.map vcV x=List.map vcV (D++[x]).flatten;simp;done)
     |(show(D.length:Int)+1=(D++[x]).length;simp;done)
   show L=D++[x] ++R;rw[h1];simp;show R.length< (x::R).length;simp
  |nil=>
   have e:L=D:=BN;simp at a;repeat' ((conv=>whnf);first|omega|refine zS ?_|refine zT ?_ ?_<;>intro _|fail)
   conv=>whnf
   refine⟨⟨⟨rfl,rfl,rfl,?_⟩,trivial⟩,rfl,λ_ h=>Ah⟩;show List.map vcV D.flatten=List.map vcV L.flatten;rw[e]
def dT1{xs ys:List V}{X Y Z:Rg}(d:xs=X.map vcV)(e:ys=Y.map vcV)(f:Z=X++Y)(b:X.length<=10000)(c:Y.length<=10000):Sp 235 [.sl [.sl xs, .sl ys]] (.own 84 (Z.map vcV)):=by
 subst d e f
 have:=cN6 [X,Y] Af (λl a=>by
  rcases SI.1 a with rfl|a;exact b
  cases S9.1 a;exact c)
 rwa [show [X,Y].flatten=X++Y from Af]at this
def bJ7{r:Rg}(h:dM r):gQ r=wL r:=Sj h
def eJ3{r:Rg}(h:¬dM r):gQ r=[] :=RZ h
def aU6(r:Rg)(b:r.length<=1000000):Sp 187 [rgV r] (.sl ((gQ r).map vcV)):=by
 refine zsp func187 ?_;have m:(r.map vcV).length=r.length:=Af;by_cases c:dM r
 ·rw[bJ7 c]
  have a:r≠ [] :=λh=>by have:=c.1;rw[h]at this;simp at this
  have f:=c.2.1;obtain⟨j,e,_,l⟩:=aT6 (k:=0) (eH8 a);have d:bZ1 (wO r) r=j:=by unfold bZ1;rw[e]
  have hi:=cJ4 r (wO r) b;rw[d]at hi;have g:wL r=r.drop j++r.take j:=by unfold wL;rw[e];rfl
  rw[g]
  have i:=xX (dT1 (xs:=((r.map vcV).take (((r.map vcV).length:Nat):Int).toNat).drop ((j:Nat):Int).toNat) (ys:=((r.map vcV).take ((j:Nat):Int).toNat).drop (0:Int).toNat) (X:=r.drop j) (Y:=r.take j) (Z:=r.drop j++r.take j)
   (by rw[TQ,TQ,UF,List.map_drop]) (by rw[TQ,List.map_take];rfl) rfl GN Dq)
  repeat' ((conv=>whnf);first|(exfalso;contradiction)|refine zc (lN r b) ?_|refine zc (cL6 r b a) ?_|refine bW8 [] [(20,[88888])] trivial Ac ?_|refine fU ⟨Aa,Aa,Aa, .inr (λx n=>by obtain⟨v,_,rfl⟩:=Td.1 n;rfl)⟩ ?_|refine zh (i) [] ?_|refine zS ?_|refine zT ?_ ?_<;>intro _|fail)
  all_goals conv=>whnf
  exact Og
 rw[eJ3 c];repeat' ((conv=>whnf);first|(exfalso;contradiction)|refine zc (lN r b) ?_|refine zS ?_|refine zT ?_ ?_<;>intro _|fail)
 all_goals conv=>whnf
 exact⟨⟨rfl,trivial⟩,rfl,λ_ h=>Ah⟩
def jS(a b:Vc):Int:=if 0<bZ a b then 0 else if bZ a b<0 then 2 else if vdot a b<0 then 1 else 3
def eW4{a b:Vc}(h:0<bZ a b):jS a b=0:=Sj h
def eZ4{a b:Vc}(h:bZ a b<0):jS a b=2:=by unfold jS;rw[RZ (by omega),Sj h]
def eW6{a b:Vc}(c:bZ a b<=0)(d:0<=bZ a b)(h:vdot a b<0):jS a b=1:=by unfold jS;rw[RZ (by omega),RZ (by omega),Sj h]
def fB4{a b:Vc}(c:bZ a b<=0)(d:0<=bZ a b)(h:0<=vdot a b):jS a b=3:=by unfold jS;rw[RZ (by omega),RZ (by omega),RZ (by omega)]
def aQ6(a b:Vc):Sp 246 [vcV a,vcV b] (I (jS a b)):=by
 refine zsp func246 ?_;have f:=eW4 (a:=a) (b:=b);have g:=eW6 (a:=a) (b:=b);have i:=eZ4 (a:=a) (b:=b);have j:=fB4 (a:=a) (b:=b);generalize jS a b=A at*;have k:=kD a b;have l:=dP6 a b;generalize bZ a b=c at*;generalize vdot a b=d at*;repeat' ((conv=>whnf);first|refine zc k ?_|refine zc l ?_|refine zS ?_|refine zl (λe=>?_) (λe=>?_))
 all_goals conv=>whnf
 all_goals first
  |exact aG (f Aa).symm
  |exact aG (i Aa).symm
  |exact aG (g Aa Aa Aa).symm
  |exact aG (j Aa Aa Aa).symm
def bX9(s:Sg):Sp 197 [sgV s] (sgV (s.2,s.1)):=by
 refine zsp func197 ?_;exact Pj
def oG(s:Sg)(d:Vc):Prop:=jS s.1 d<jS s.1 s.2\/(jS s.1 d=jS s.1 s.2/\jS s.1 d≠3/\0<bZ d s.2)
def bE0(s:Sg)(d:Vc):Sp 247 [sgV s,vcV d] (DB (oG s d)):=by
 refine zsp func247 ?_;have e:=aQ6 s.1 d;have f:=aQ6 s.1 s.2;have b:=kD d s.2;generalize hP:oG s d=P;have a:P↔oG s d:=Ic;unfold oG at a;clear hP;generalize jS s.1 d=x at*;generalize jS s.1 s.2=y at*;generalize bZ d s.2=c at*;repeat' ((conv=>whnf);first|refine zc e ?_|refine zc f ?_|refine zc b ?_|refine zS ?_|refine zT ?_ ?_<;>intro _|fail)
 all_goals conv=>whnf
 all_goals refine aA ?_
 all_goals first
  |exact fE (a.2 Aa)
  |exact aC (λh=>by have h:=a.1 h;omega)
  |(refine aS1 ?_;rw[a];omega)
def jH(s t:Sg):Prop:=jS s.1 t.1=3\/oG s t.1\/oG t s.1
def cT5(s t:Sg):Sp 196 [sgV s,sgV t] (DB (jH s t)):=by
 refine zsp func196 ?_;have d:=aQ6 s.1 t.1;have b:=bE0 s t.1;have c:=bE0 t s.1;generalize hP:jH s t=P;have a:P↔jH s t:=Ic;unfold jH at a;clear hP;generalize jS s.1 t.1=x at*;generalize oG s t.1=p at*;generalize oG t s.1=q at*;repeat' ((conv=>whnf);first|refine zc d ?_|refine zc b ?_|refine zc c ?_|refine zS ?_|refine zT ?_ ?_<;>intro _|fail)
 all_goals conv=>whnf
 all_goals refine aA ?_
 all_goals first
  |exact fE (a.2 (by first|exact .inl ‹_› |exact .inr (.inl ‹_›)))
  |(refine fQ ?_;rw[a];exact⟨λh=> .inr (.inr h),λh=>by rcases h with h|h|h<;>first|contradiction|exact h⟩)
end Go.Proofs.Led
namespace Go.Proofs.Led
open Go Go.Proofs Go.Ab Go.RowKit Go.Lib Tryz
def elZ:ElT 63 3 1 8:=⟨underlying63,Q9 Ac,Ac,Ac,Ai,Ai⟩
def ovZ:OvT 201 3:=λw b vb i g f vc cur a d hb hv c=>by
 rw[run_callFunc_extern func201 Ac Ac Ac (e:=Extern.SlicesOverlaps.overlaps #[63,63] #[4]) Ac,
  Lib.run_overlaps_apart w 63 4 3 underlying63 1 sizeOf3 ⟨vb,0,none⟩ ⟨b,i,none⟩ 1 vc g f d 3 3 a.size cur.size Ii Ij c Dl Dl]
 rfl
def insZ_all:InsShift 161 3 1/\InsEnd 161 3 1/\InsEndG 161 63 3/\InsGrow 161 63 3 1:=by
 have el:=elZ;have U:=ovZ;have fF:=func161;have nF:=ntmps161;have zE:=sizeOf3;have uS:=TD underlying63;have V:=Ur;have W:=U2;have Y:=TD Ur;have Z:=TD U2;have mixed:=mixed;refine⟨?_,?_,?_,?_⟩
 ·intro b n c i vb vc cur e w hi hroom o hvb hb hv hbs hvs s h2
  have E:=λT S M=>U w b vb T S M vc cur e hvb hb hv Aa;obtain⟨X1,d,q,hcp2⟩:=el.shift (b:=b) (vb:=vb) (vc:=vc) hi hroom hbs hvs s h2;rw[<-d];clear d;have H:IntKind.i64.wrap ((i:Int)+1)=(i:Int)+1:=Ar;have I:IntKind.i64.wrap ((n:Int)+1)=(n:Int)+1:=Ar;have J:¬((i:Int)=(n:Int)):=Aa;have v:(0:Int)<=(i:Int)+1:=Aa;have G:((i:Int)+1).toNat=i+1:=Aa;have L:((n:Int)+1).toNat=n+1:=Aa;have C:i<=n:=Aa;have x:¬(c=i+1):=Aa;have y:(i:Int)<=(n:Int)+1:=Aa;have z:¬(c=i):=Aa;have A:¬((c:Int)< (n:Int)+1):=Aa
  go_enter fF,nF
  go_wp2_with (simp only[E])
  have l:=q w.drew _ _ (n-i) (n+1-i) 3 (c- (i+1)) (c-i) hb rfl rfl Ep;try simp only[UY]at l
  go_region_law_o (refine step_copy_runI rfl _ _ _ _ rfl _ _ Az Az l ?_)
  exact Oa
 intro b n c vb vc cur e w hroom o hb hv hbs hvs h2;exact Oo
 ·intro k n c j vb vc X w r hroom m hn hA
  go_enter fF,nF
  cases k with
  |none=>exact JE
  |some a=>exact JF
 intro b n c j i vb vc cur e R w hi r hroom m B hle hb hv hbs u hvs s h2 F;have hbw:b<w.heap.size:=(Tj.1 hb).1;have hvw:vb<w.heap.size:=(Tj.1 hv).1;obtain⟨X1,d,f,g⟩:=el.grow (b:=b) (vb:=vb) (vc:=vc) (N:=w.heap.size) hi r B hbs u hvs s h2;obtain⟨t,hO⟩:=el.nw w R;have hA:=f _ _ (n+1-i) 3 (j-i) t Ib rfl Aa;have K:=g ((World.setRow _ w.heap.size X1).drew) _ _ (n-i) (n-i) 3 (j- (i+1)) (c-i) (Um _ w.heap.size R X1 _ _ t) ((Uf _ w.heap.size b X1 Aa).trans Ik) rfl rfl (Nat.min_self _);rw[<-d];clear d f g t hO;have H:IntKind.i64.wrap ((i:Int)+1)=(i:Int)+1:=Ar;have I:IntKind.i64.wrap ((n:Int)+1)=(n:Int)+1:=Ar;have Q:IntKind.i64.wrap ((n:Int)+1- (i:Int))=(n:Int)+1- (i:Int):=Ar;have J:¬((i:Int)=(n:Int)):=Aa;have v:(0:Int)<=(i:Int)+1:=Aa;have G:((i:Int)+1).toNat=i+1:=Aa;have C:i<=n:=Aa;have x:¬(j=i+1):=Aa;have y:(i:Int)<=(n:Int)+1:=Aa;have z:¬(c=i):=Aa;have A:(c:Int)< (n:Int)+1:=Aa;have O:¬(j=i):=Aa;have P:(i:Int)<=(c:Int):=Aa;have D:j<=9223372036854775807:=GU;try simp only[UY]at hA K
 go_enter fF,nF
 go_wp2_with (first|simp only[hA,SQ] |(at_builtin;refine Lib.wpList_append_run _ rfl _ _ _ _ rfl _ _ rfl rfl _ _ (F _) ?_))
 go_region_law_o (refine step_copy_runI rfl _ _ _ _ rfl _ _ Az Az K ?_)
 go_wp2
 go_ret
 first|exact⟨rfl,rfl⟩|exact⟨rfl,BI⟩
theorem dM5(l:List V)(x:V)(i:Nat)(hi:i<=l.length)(a:l.length<=1000000000):Sp 161 [.own 3 l,I i, .own 3 [x]] (.own 3 (l.take i++x::l.drop i)):=
 ins_gen elZ Ac insZ_all.1 insZ_all.2.1 insZ_all.2.2.1 insZ_all.2.2.2 l x i hi a
end Go.Proofs.Led
