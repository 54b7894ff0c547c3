/-
  The reference's way to tell how two segments meet, walked.
-/
import Derived.Test.YtdjgbagnajikeaaGreatDoorB13
set_option linter.unusedVariables false
set_option linter.unusedSimpArgs false
set_option maxRecDepth 100000
set_option maxHeartbeats 8000000
noncomputable section
namespace Go.Proofs.Led
open Go Go.Proofs Go.Ab
def nilA(x:V):V:=match x with
 | .lit u=>(match u with| .slice none 0 0=> .sl [] |u=> .lit u)
 |x=>x
def gJ4(σ:St):St:=⟨λs=>nilA (σ.env s),σ.bx,σ.ar⟩
theorem gI1{w:World}{G:Gh}{v:Value}{x:V}(h:Rv w G v x):Rv w G v (nilA x):=by
 unfold nilA;exact PW
theorem gJ3{p:Nat->Prop}{q:Nat->Nat->Prop}{x:V}(h:x.ok p q):(nilA x).ok p q:=by
 unfold nilA;grind [V.ok,V.okL]
theorem gI3(σ:St):Le T σ (gJ4 σ):=by
 unfold Le;intro Φ a w G inv;exact⟨G,{inv with env:=λs=>gI1 (inv.env s),wfE:=λs=>gJ3 (inv.wfE s)}⟩
theorem fV9{O:List Vc}{k:Nat}(h:k<O.length):O.getD k z0=O[k] :=DK
theorem fQ6{l:List Vc}{x:Vc}{k:Nat}(a:k<=ahead x l)(h:l.length<=k\/¬kF (l.getD k z0) x):k=ahead x l:=by
 grind [fW5,Ry,fV9,fX7]
theorem fZ6{l:List Vc}{x:Vc}{k:Nat}(f:k<=ahead x l)(b:k<l.length)(h:kF (l.getD k z0) x):k<ahead x l:=by
 rcases Ry k (ahead x l)with a|c
 ·exact a
 ·have e:k=ahead x l:=by omega
  have d:l[ahead x l]? =some (l.getD k z0):=by rw[<-e,fV9 b,QE b]
  exact absurd h (fQ4 d)
theorem gE6{O:List Vc}{x:Vc}{k:Nat}(a:k=ahead x O)(b:k<O.length)(h:O.getD k z0=x):insV x O=O:=by
 unfold insV;grind
theorem fY7{O:List Vc}{x:Vc}{k:Nat}(a:k=ahead x O)(h:k<O.length->O.getD k z0≠x):insV x O=O.take k++x::O.drop k:=by
 unfold insV;grind
theorem fQ7(l:List Vc)(n:Nat):∀y∈(l.map vcV).take n,y.cells.length=2:=λy a=>aM5 l y (Ri a)
theorem fW4(l:List Vc)(n m:Nat):∀y∈((l.map vcV).take m).drop n,y.cells.length=2:=λy a=>aM5 l y (Ri (Rj a))
theorem fI6{a:Type}(f:a->V)(O:List a)(x:a)(k:Nat):(O.take k++x::O.drop k).map f=List.take (k:Int).toNat (O.map f)++[f x] ++List.drop (k:Int).toNat (List.take ((O.map f).length:Int).toNat (O.map f)):=by
 grind [RP,Tn,List.map_take,List.map_drop,Si]
theorem fS1(l:List Vc)(o:l.length<=1000):Sp 320 [.sl (l.map vcV)] (.sl ((srtV l).map vcV)):=by
 refine zsp Tryz.func320 ?_;have i:(l.map vcV).length=l.length:=Ae
 repeat' ((conv=>whnf);first|refine zS ?_|fail)
 refine aU (A:=List Vc) (B:=List Vc) (λD R=>mkSt [(0, .sl (l.map vcV)),(3, .sl ((srtV D).map vcV)),(4,I D.length)] [] []) (λD R=>l=D++R) (λD R=>R.length) [] l ?_ rfl (λD R hp=>?_)
 ·refine Le.trans (gI3 _) ?_
  exact zj
 have j:=gF2 D;have f:=gD1 D
 generalize m:srtV D=O at*;have g:(O.map vcV).length=O.length:=Ae
 cases R with
 |nil=>
  have c:l.length=D.length:=CG;have e:l=D:=CG
  repeat' ((conv=>whnf);first|omega|refine zS ?_|refine zT ?_ ?_<;>intro _|fail)
  rw[e,m];all_goals exact zE
 |cons x R=>
  have c:=aO hp
  repeat' ((conv=>whnf);first|omega|refine zS ?_|refine zT ?_ ?_<;>intro _|fail)
  refine lD (A:=Nat) (λk=>mkSt [(0, .sl (l.map vcV)),(3, .sl (O.map vcV)),(4,I D.length),(5,I k)] [] []) (λk=>k<=ahead x O) (λk=>ahead x O-k) 0 ?_ Aa (λk d=>?_)
  ·exact zj
  have n:=fW5 x O;have b:=f x
  repeat' ((conv=>whnf);first|omega|refine aB (l:=l) Aa ?_|refine aB (l:=O) Aa ?_|refine aF (l:=l) (A:=D) (x:=x) (B:=R) hp Aa ?_|refine aU3 (r:=O) (k:=k) Aa Aa ?_|refine zc (fJ0 (O.getD k z0) x) ?_|refine aT1 ?_|refine aB4 (λhv=>?_) (λhv=>?_)|refine cC0 [(0,999),(4,999),(49,999),(50,999),(51,999)] Af Ac ?_|refine iH rfl (.inl rfl) rfl (QC rfl) (fQ7 O _) (by show 0+(List.take _ (O.map vcV)).length<=1000000000;rw[QL];omega) ?_|refine iH rfl (.inl rfl) rfl (QC rfl) (dA rfl) (by show(List.take _ (O.map vcV)).length+1<=1000000000;rw[QL];omega) ?_|refine iH rfl (.inl rfl) rfl (QC rfl) (fW4 O _ _) (by show(List.take _ (O.map vcV)++[_]).length+(List.drop _ (List.take _ (O.map vcV))).length<=1000000000;rw[QG,QL,QK,Rz,QL];omega) ?_|refine fU ⟨Aa,Aa,Aa, .inr (aM5 O)⟩ ?_|refine zS ?_|refine zT ?_ ?_<;>intro _|fail)
  all_goals conv=>whnf
  ·refine⟨k+1,?_,?_,?_⟩
   ·exact zj
   ·have:=fZ6 (l:=O) (x:=x) d Aa Ag
    omega
   ·have:=fZ6 (l:=O) (x:=x) d Aa Ag
    omega
  ·have a:=fQ6 d (.inr Ag)
   refine⟨(D++[x],R),?_,Ad,Ae⟩;show Le T _ (mkSt [(0, .sl (l.map vcV)),(3, .sl ((srtV (D++[x])).map vcV)),(4,I ((D++[x]).length))] [] []);rw[b,gE6 a Aa hv];exact MQ
  ·have a:=fQ6 d (.inr Ag)
   refine⟨(D++[x],R),?_,Ad,Ae⟩;show Le T _ (mkSt [(0, .sl (l.map vcV)),(3, .sl ((srtV (D++[x])).map vcV)),(4,I ((D++[x]).length))] [] []);rw[b,fY7 a (λ_=>hv),fI6];simp only[QG,QK];exact O6
  ·have a:=fQ6 d (.inl Aa)
   refine⟨(D++[x],R),?_,Ad,Ae⟩;show Le T _ (mkSt [(0, .sl (l.map vcV)),(3, .sl ((srtV (D++[x])).map vcV)),(4,I ((D++[x]).length))] [] []);rw[b,fY7 a (λh=>Aa),fI6];simp only[QG,QK];exact O6
def fM4(E:List Vc)(s t:Sg)(n:Nat)(X:List Vc):St:=match X with
 | [] =>mkSt [(2, .box 2 0),(3, .box 3 0),(5, .arr 16 0),(6,nilV),(7,I n)] [(2,(sgV s).cells),(3,(sgV t).cells)] [(16,⟨0, .own,97,E.map vcV⟩)]
 |x::X=>mkSt [(2, .box 2 0),(3, .box 3 0),(5, .arr 16 0),(6, .arr 41 X.length),(7,I n)] [(2,(sgV s).cells),(3,(sgV t).cells)] [(16,⟨0, .own,97,E.map vcV⟩),(41,⟨X.length, .own,97,(x::X).map vcV⟩)]
theorem gH8(s t:Sg)(D:List Vc):(comL s t D).length<=D.length:=by
 unfold comL;exact List.length_filter_le _ _
theorem fS5(s t:Sg):Sp 278 [sgV s,sgV t] (.sl ((comS s t).map vcV)):=by
 refine zsp Tryz.func278 ?_;have d:comS s t=srtV (comL s t [s.1,s.2,t.1,t.2]):=rfl;have o: [s.1,s.2,t.1,t.2].length=4:=rfl
 repeat' ((conv=>whnf);first|refine zS ?_|fail)
 refine aU (A:=List Vc) (B:=List Vc) (λD R=>fM4 [s.1,s.2,t.1,t.2] s t D.length (comL s t D)) (λD R=> [s.1,s.2,t.1,t.2] =D++R) (λD R=>R.length) [] [s.1,s.2,t.1,t.2] ?_ rfl (λD R hp=>?_)
 ·show Le T _ (fM4 [s.1,s.2,t.1,t.2] s t 0 [])
  exact zj
 generalize [s.1,s.2,t.1,t.2] =E at*;have m:(E.map vcV).length=E.length:=Ae;have n:=gH8 s t D
 have g:=gD6 s t D
 cases R with
 |nil=>
  have b:E.length=D.length:=by rw[show E=D++[]from hp];simp
  have e:E=D:=by rw[show E=D++[]from hp];simp
  rw[d,e];have hso:=fS1 (comL s t D) Aa;generalize comL s t D=X at*
  cases X with
  |nil=>exact KF
  |cons x X=>exact KF
 |cons y R=>
  have b:=aO hp;have j:=fN7 s y
  have i:=fN7 t y;have hcy:=g y
  have hC:Com s t y↔eX s y/\eX t y:=Rt;generalize Com s t y=c at*;generalize eX s y=r at*;generalize eX t y=q at*;have a:∀f,comL s t (D++[y])=f->fM4 E s t ((D++[y]).length) (comL s t (D++[y]))=fM4 E s t (D.length+1) f:=λf h=>by rw[h,QG];rfl
  generalize comL s t D=X at*
  cases X with
  |nil=>
   repeat' ((conv=>whnf);first|omega|refine dS rfl rfl F8 ?_|refine aF (l:=E) (A:=D) (x:=y) (B:=R) hp Aa ?_|refine zc j ?_|refine zc i ?_|refine gX (QC rfl) (dA rfl) (QC rfl) ?_|refine zS ?_|refine zT ?_ ?_<;>intro _|fail)
   all_goals conv=>whnf
   ·refine⟨(D++[y],R),?_,Ad,Ae⟩
    have e:=a [y] Ec;show Le T _ (fM4 E s t ((D++[y]).length) (comL s t (D++[y])));rw[e];exact NJ
   all_goals
    refine⟨(D++[y],R),?_,Ad,Ae⟩;have e:=a [] ES;exact PG
  |cons x X=>
   have k:(x::X).length=X.length+1:=rfl
   repeat' ((conv=>whnf);first|omega|refine dS rfl rfl F8 ?_|refine aF (l:=E) (A:=D) (x:=y) (B:=R) hp Aa ?_|refine zc j ?_|refine zc i ?_|refine iH rfl (.inl rfl) rfl (QC rfl) (dA rfl) (show((x::X).map vcV).length+1<=1000000000 from DC) ?_|refine zS ?_|refine zT ?_ ?_<;>intro _|fail)
   all_goals conv=>whnf
   ·refine⟨(D++[y],R),?_,Ad,Ae⟩
    have e:=a (x::(X++[y])) Ec;show Le T _ (fM4 E s t ((D++[y]).length) (comL s t (D++[y])));rw[e];unfold fM4;simp only[QG,QK,QW,Rl,RY];exact NJ
   all_goals
    refine⟨(D++[y],R),?_,Ad,Ae⟩;have e:=a (x::X) ES;exact PG
theorem gB9{m n:Int}:W (cmpI m 0*cmpI n 0)=cmpI m 0*cmpI n 0:=by
 rcases fM0 m 0 with h|h|h<;>rcases fM0 n 0 with k|k|k<;>rw[h,k] <;>decide
theorem fI7(s t:Sg)(f:bI s)(e:bI t):Sp 226 [sgV s,sgV t] (I (dG s t)):=by
 refine zsp Tryz.func226 ?_;obtain⟨o,u,n,j⟩:=gC7 f e;obtain⟨a,b⟩:=jP.1 f;obtain⟨c,d⟩:=jP.1 e
 have g:zT9 s t↔W (kR s.1 s.2 t.1*kR s.1 s.2 t.2)<0/\W (kR t.1 t.2 s.1*kR t.1 t.2 s.2)<0:=by
  unfold zT9 kR;rw[gB9,gB9]
 have k:=fF8 s;have i:=fF8 t
 have l:=fS5 s t;have v:=fG5 s t.1 f c
 have q:=fG5 s t.2 f d;have m:=fG5 t s.1 e a
 have r:=fG5 t s.2 e b;have w:((comS s t).map vcV).length=(comS s t).length:=Ae
 generalize dG s t=M at*;generalize zT9 s t=C at*;generalize comS s t=L at*;generalize kR s.1 s.2 t.1=y at*;generalize kR s.1 s.2 t.2=A at*;generalize kR t.1 t.2 s.1=z at*;generalize kR t.1 t.2 s.2=x at*
 repeat' ((conv=>whnf);first|(exfalso;contradiction)|refine zc k ?_|refine zc i ?_|refine zc l ?_|refine zc v ?_|refine zc q ?_|refine zc m ?_|refine zc r ?_|refine zg ?_|refine zi ?_|refine zw ?_|refine zn ?_|refine zz (λ_=>?_) λ_=>?_|refine zr ?_)
 all_goals conv=>whnf
 all_goals first
  |exact aG (o Aa).symm
  |exact aG (u Aa).symm
  |exact aG (n Aa (g.2 ⟨Ag,Ag⟩)).symm
  |exact aG (j Aa (λh=>by have:=g.1 h;omega)).symm
theorem fG8(r:Rg)(j:r.length<=1000000):Sp 136 [rgV r] (I (zY r)):=by
 refine zsp Tryz.func136 ?_;have f:(r.map vcV).length=r.length:=Ae
 repeat' ((conv=>whnf);first|refine zS ?_|fail)
 refine lD (A:=Nat) (λk=>mkSt [(0,rgV r),(3,I (cI8 r k)),(4,I k)] [] []) (λk=>k<=r.length) (λk=>r.length-k) 0 ?_ Aa (λk i=>?_)
 ·exact zj
 have d:=bC2 r k;have g:=fF0 (r.getD k z0) (iU r k)
 by_cases b:k<r.length
 ·have c:(k+1)% r.length<r.length:=RV _ Aa
  repeat' ((conv=>whnf);first|omega|refine uM Aa ?_|refine aB (l:=r) BO ?_|refine sW (k:=(k+1)% r.length) (kS Aa) c ?_|refine aU3 (k:=k) Aa b ?_|refine zS ?_|refine zT ?_ ?_<;>intro _|fail)
  all_goals conv=>whnf
  refine⟨k+1,?_,Aa,Aa⟩;simp only[d];exact zj
 ·have e:k=r.length:=by omega
  subst e;exact zF
theorem fS0(r:Rg)(f:r.length<=1000000):Sp 223 [rgV r] (DB (bR7 r)):=by
 refine zsp Tryz.func223 ?_;have e:(r.map vcV).length=r.length:=Ae;have c:bR7 r↔∀v∈r,within v 2000:=Rt
 generalize bR7 r=P at*
 repeat' ((conv=>whnf);first|refine zS ?_|fail)
 refine aU (A:=List Vc) (B:=List Vc) (λD R=>mkSt [(0,rgV r),(3,I D.length)] [] []) (λD R=>r=D++R/\∀v∈D,within v 2000) (λD R=>R.length) [] r ?_ ⟨rfl,Ae⟩ (λD R hp=>?_)
 ·exact zj
 obtain⟨hp,b⟩:=hp
 cases R with
 |nil=>
  have a:r.length=D.length:=Ad
  repeat' ((conv=>whnf);first|omega|refine zS ?_|refine zT ?_ ?_<;>intro _|fail)
  all_goals conv=>whnf
  refine aA (fE (c.2 λv hv=>?_));rw[hp,QU]at hv;exact b v hv
 |cons x R=>
  have a:=aO hp;have d:x∈r:=Ad
  have g:=fP x 2000
  repeat' ((conv=>whnf);first|omega|refine zS ?_|refine zT ?_ ?_<;>intro _|fail)
  all_goals conv=>whnf
  all_goals first
   |exact aA (aC (λh=>absurd (c.1 h x d) Ag))
   |skip
  refine⟨(D++[x],R),?_,⟨Ad,λv hv=>?_⟩,Ae⟩
  ·exact I8
  ·rcases QJ.1 hv with hv|hv
   ·exact b v hv
   ·rw[QI.1 hv];assumption
def gJ1(r:Rg)(k:Nat):St:=match k with
 |0=>mkSt [(0,rgV r),(3,nilV),(4,I 0)] [] []
 |k+1=>mkSt [(0,rgV r),(3, .arr 29 k),(4,I ((k:Int)+1))] [] [(29,⟨k, .own,270,(aH8 r (k+1)).map sgV⟩)]
theorem fE7(r:Rg)(o:r.length<=1000000):Sp 225 [rgV r] (.own 270 ((bF r).map sgV)):=by
 refine zsp Tryz.func225 ?_;have j:(r.map vcV).length=r.length:=Ae;have h1:=cK3 (r:=r)
 have m:=bA9 (r:=r);by_cases hr:r.length<2
 ·exact JK
 rw[m hr]
 repeat' ((conv=>whnf);first|omega|refine zS ?_|refine zT ?_ ?_<;>intro _|fail)
 refine lD (A:=Nat) (gJ1 r) (λk=>k<=r.length) (λk=>r.length-k) 0 ?_ Aa (λk n=>?_)
 ·exact zj
 have g:=cS0 r k;have f:=bV5 r k
 match k with
 |0=>
  have b:(0+1)% r.length<r.length:=RV _ Aa
  repeat' ((conv=>whnf);first|omega|refine uM Aa ?_|refine aB (l:=r) (by rw[kS (a:=0+1) (by omega)];omega) ?_|refine sW (k:=(0+1)% r.length) (kS Aa) b ?_|refine aU3 (k:=0) Aa Aa ?_|refine fU ⟨QC Ac,QC Ac,dA rfl⟩ ?_|refine zS ?_|refine zT ?_ ?_<;>intro _|fail)
  all_goals conv=>whnf
  refine⟨1,?_,Aa,Aa⟩;exact zj
 |k+1=>
  have d:=bV5 r (k+1);have i:(List.map sgV (aH8 r (k+1))).length+1<=1000000000:=Aa
  by_cases c:k+1<r.length
  ·have b:(k+1+1)% r.length<r.length:=RV _ Aa
   repeat' ((conv=>whnf);first|omega|refine uM Aa ?_|refine aB (l:=r) (by rw[kS (a:=k+1+1) (by omega)];omega) ?_|refine sW (k:=(k+1+1)% r.length) (kS Aa) b ?_|refine aU3 (k:=k+1) Aa c ?_|refine iH rfl (.inl rfl) rfl (QC rfl) (dA rfl) i ?_|refine zS ?_|refine zT ?_ ?_<;>intro _|fail)
   all_goals conv=>whnf
   refine⟨k+2,?_,Aa,Aa⟩;show Le T _ (mkSt [(0,rgV r),(3, .arr 29 (k+1)),(4,I (((k+1:Nat):Int)+1))] [] [(29,⟨k+1, .own,270,(aH8 r (k+1+1)).map sgV⟩)]);rw[<-g];exact zj
  ·exact JE
theorem gC1{z:Int}{a n:Nat}(h:z=(a:Int))(b:0<n):0<=z.tmod (n:Int)/\z.tmod (n:Int)< (n:Int):=by
 rw[dX5 h];have:=RV a b;omega
theorem fE9(r:Rg)(s:r.length<=1000000):Sp 182 [rgV r] (DB (dM r)):=by
 refine zsp Tryz.func182 ?_;have D:(r.map vcV).length=r.length:=Ae;have g:=fR4 (r:=r)
 have L:=fS0 r s;have K:=fG8 r s
 have R:=fE7 r s;generalize dM r=P at*
 repeat' ((conv=>whnf);first|refine zS ?_|refine zT ?_ ?_<;>intro _|fail)
 all_goals conv=>whnf
 all_goals first
  |exact aA (aC (λh=>by have:=g.1 h;omega))
  |exact aA (aC (λh=>absurd (g.1 h).2.2.1 Ag))
  |skip
 have h3:3<=r.length:=Aa;have v:r.length<=40:=Aa
 have y:bR7 r:=Ag;refine lD (A:=Nat) (λk=>mkSt [(0,rgV r),(3,I r.length),(4,I k)] [] []) (λk=>k<=r.length/\∀i,i<k->fT6 r i≠0) (λk=>r.length-k) 0 ?_ ⟨Aa,λi hi=>Aa⟩ (λk d=>?_)
 ·exact zj
 obtain⟨d,ht⟩:=d;have F:=fG4 (r.getD k z0) (r.getD ((k+1)% r.length) z0) (r.getD ((k+2)% r.length) z0);by_cases b:k<r.length
 ·have w:(k+1)% r.length<r.length:=RV _ Aa
  have t:(k+2)% r.length<r.length:=RV _ Aa;have N:=gC1 (z:=(k:Int)+1) (a:=k+1) (n:=r.length) Aa Aa
  have M:=gC1 (z:=(k:Int)+2) (a:=k+2) (n:=r.length) Aa Aa
  repeat' ((conv=>whnf);first|omega|refine uM Aa ?_|refine sW (k:=(k+1)% r.length) (dX5 Aa) w ?_|refine sW (k:=(k+2)% r.length) (dX5 Aa) t ?_|refine aU3 (k:=k) Aa b ?_|refine zS ?_|refine zT ?_ ?_<;>intro _|fail)
  all_goals conv=>whnf
  ·exact aA (aC (λh=>(g.1 h).2.2.2.1 k b Ag))
  ·exact KP
 have H:k=r.length:=Aa;subst H;clear F;have q:=dT0 (r:=r) Aa
 have u:∀i k,fM5 r i k↔(adj r.length i k->dG ((bF r).getD i (z0,z0)) ((bF r).getD k (z0,z0))=1)/\(¬adj r.length i k->dG ((bF r).getD i (z0,z0)) ((bF r).getD k (z0,z0))=0):=λi k=>Rt;have l:∀e∈bF r,bI e:=λe J=>jO y J
 generalize O:bF r=E at*;have G:(E.map sgV).length=r.length:=by rw[QS];exact q
 have c:∀i,i<r.length->bI (E.getD i (z0,z0)):=λi hi=>l _ (by rw[RJ,QE (by omega)];exact Tm _)
 repeat' ((conv=>whnf);first|omega|refine zS ?_|refine zT ?_ ?_<;>intro _|fail)
 refine lD (A:=Nat) (λi=>mkSt [(0,rgV r),(3,I r.length),(5, .arr 49 0),(6,I i)] [] [(49,⟨0, .own,270,E.map sgV⟩)]) (λi=>i<=r.length/\∀i' k',i'<i->i'<k'->k'<r.length->fM5 r i' k') (λi=>r.length-i) 0 ?_ ⟨Aa,λi' k' hi=>Aa⟩ (λi hi=>?_)
 ·exact zj
 obtain⟨hi,hap⟩:=hi;by_cases x:i<r.length
 ·repeat' ((conv=>whnf);first|omega|refine zS ?_|refine zT ?_ ?_<;>intro _|fail)
  refine lD (A:=Nat) (λk=>mkSt [(0,rgV r),(3,I r.length),(5, .arr 49 0),(6,I i),(7,I k)] [] [(49,⟨0, .own,270,E.map sgV⟩)]) (λk=>i<k/\k<=r.length/\∀k',i<k'->k'<k->fM5 r i k') (λk=>r.length-k) (i+1) ?_ ⟨Aa,Aa,λk' h1 h2=>Aa⟩ (λk d=>?_)
  ·exact zj
  obtain⟨j,d,hin⟩:=d;by_cases b:k<r.length
  ·have S:=fI7 (E.getD i (z0,z0)) (E.getD k (z0,z0)) (c i x) (c k b)
   have o:=u i k;unfold adj at o;generalize dG (E.getD i (z0,z0)) (E.getD k (z0,z0))=m at*
   have C:fM5 r i k->∀k',i<k'->k'<k+1->fM5 r i k':=λh k' h1 h2=>by
    by_cases e:k'=k
    ·subst e;exact h
    ·exact hin k' h1 Aa
   have f:P->fM5 r i k:=λh=>(g.1 h).2.2.2.2.1 i k j b;generalize fM5 r i k=Q at*
   repeat' ((conv=>whnf);first|omega|refine dS rfl rfl F9 ?_|refine dV6 (k:=i) Aa Aa ?_|refine dV6 (k:=k) Aa Aa ?_|refine zS ?_|refine zT ?_ ?_<;>intro _|fail)
   all_goals conv=>whnf
   all_goals first
    |(refine aA (aC (λh=>?_));have T:=o.1 (f h);omega)
    |skip
   all_goals
    refine⟨k+1,?_,⟨Aa,Aa,C (o.2 ⟨λh=>Aa,λh=>Aa⟩)⟩,Aa⟩
    ·exact zj
  ·exact Ju
 ·have B:i=r.length:=by omega
  subst B
  repeat' ((conv=>whnf);first|omega|refine zS ?_|refine zT ?_ ?_<;>intro _|fail)
  all_goals conv=>whnf
  refine aA (aS1 ?_);rw[g];exact⟨λh=>⟨h3,v,y,ht,λi k h1 h2=>hap i k Aa h1 h2,h⟩,λh=>h.2.2.2.2.2⟩
def ptW(v:Vc):V:= .agg [I v.1,I v.2,I 1]
theorem gJ6{a b v:Vc}(d:Sm4 a)(c:Sm4 b)(hv:Sm4 v):cmpI (W (W ((vsub b a).1*W (v.2-W (a.2*1)))-W ((vsub b a).2*W (v.1-W (a.1*1))))) 0=kR a b v:=by
 rw[zH d c hv,kN (a:=b) (b:=a) (by unfold Sm4 at*;unfold Sm;omega) (by unfold Sm4 at*;unfold Sm;omega)]
 unfold Sm4 at*;simp only[Int.mul_one];rw[w_in (n:=a.1) Aa,w_in (n:=a.2) Aa,w_in (n:=v.2-a.2) Aa,w_in (n:=v.1-a.1) Aa];have e:=vG (a:=b.1-a.1) (b:=v.2-a.2) ⟨Aa,Aa⟩ ⟨Aa,Aa⟩;have f:=vG (a:=b.2-a.2) (b:=v.1-a.1) ⟨Aa,Aa⟩ ⟨Aa,Aa⟩
 rw[w_in (n:=(b.1-a.1)*(v.2-a.2)) Aa,w_in (n:=(b.2-a.2)*(v.1-a.1)) Aa,w_in Aa];rfl
theorem fO8(a b v:Vc)(e:Sm4 a)(d:Sm4 b)(hv:Sm4 v):Sp 323 [vcV a,vcV b,ptW v] (I (kR a b v)):=by
 refine zsp Tryz.func323 ?_;have f:=fD b a;have c:=fO5 (W (W ((vsub b a).1*W (v.2-W (a.2*1)))-W ((vsub b a).2*W (v.1-W (a.1*1)))))
 rw[gJ6 e d hv]at c;generalize vsub b a=u at*;generalize kR a b v=t at*
 repeat' ((conv=>whnf);first|refine zc f ?_|refine zc c ?_|refine zg ?_|refine zw ?_|refine zr ?_)
 all_goals exact zE
theorem gE2(e:Sg)(v:Vc)(g:bI e)(hv:Sm4 v):Sp 322 [sgV e,ptW v] (DB (eX e v)):=by
 refine zsp Tryz.func322 ?_;obtain⟨c,b⟩:=jP.1 g
 have d:eX e v↔Bb e v/\kR e.1 e.2 v=0:=by
  rw[gZ g];constructor
  ·rintro⟨f,a⟩
   refine⟨f,?_⟩;rw[zH c b hv,a];rfl
  ·rintro⟨f,a⟩
   refine⟨f,?_⟩;by_cases q:X (dif e.2 e.1) (dif v e.1)=0
   ·exact q
   ·rw[zH c b hv]at a
    exact absurd a (tC.2 q)
 unfold Bb at d;have a:=fO8 e.1 e.2 v c b hv;unfold Sm4 at c b hv;generalize eX e v=P at*;generalize kR e.1 e.2 v=t at*
 repeat' ((conv=>whnf);first|refine eH4 (by simp only[lH,mG];omega) ?_|refine zc a ?_|refine zS ?_|refine zT ?_ ?_<;>intro _|fail)
 all_goals conv=>whnf
 all_goals refine aA ?_
 all_goals (try simp only[lH,mG,Int.mul_one]at*)
 all_goals first
  |(refine sK ?_;rw[d];exact⟨λh=>⟨⟨Aa,Aa,Aa,Aa⟩,h⟩,λh=>h.2⟩)
  |(refine aC (λh=>?_);have i:=(d.1 h).1;omega)
theorem fQ0(n:Int)(a: -1000000<=n/\n<=1000000):Sp 347 [I n] (I (n.natAbs:Int)):=by
 refine zsp Tryz.func347 ?_
 repeat' ((conv=>whnf);first|refine zS ?_|refine zT ?_ ?_<;>intro _|fail)
 all_goals conv=>whnf
 all_goals refine aG ?_
 all_goals omega
theorem fI5(a b:Int):Sp 346 [I a,I b] (I (gcdI a b)):=by
 refine zsp Tryz.func346 ?_
 repeat' ((conv=>whnf);first|refine zS ?_|fail)
 refine aU (A:=Int) (B:=Int) (λx y=>mkSt [(0,I x),(1,I y)] [] []) (λx y=>gcdI x y=gcdI a b) (λx y=>y.natAbs) a b ?_ rfl (λx y hp=>?_)
 ·exact zj
 have hp:gcdI x y=gcdI a b:=hp;by_cases h0:y=0
 ·subst h0
  have e:gcdI x 0=x:=by rw[gcdI];simp
  rw[<-hp,e];exact NK
 ·exact Jz
theorem gG8(g:Int):gcdI g 1=1:=by
 simp_all [Int.tmod_one,gcdI]
theorem fS2(v:Vc)(hv:Sm4 v):Sp 321 [ptW v] (.lit (.bool true)):=by
 refine zsp Tryz.func321 ?_;have d:=fQ0 v.1 (by unfold Sm4 at hv;omega)
 have c:=fQ0 v.2 (by unfold Sm4 at hv;omega)
 have b:=fI5 (v.1.natAbs:Int) (v.2.natAbs:Int);have a:=fI5 (gcdI (v.1.natAbs:Int) (v.2.natAbs:Int)) 1
 rw[gG8]at a;generalize gcdI (v.1.natAbs:Int) (v.2.natAbs:Int)=g at*;unfold Sm4 at hv
 repeat' ((conv=>whnf);first|omega|refine zc d ?_|refine zc c ?_|refine zc b ?_|refine zc a ?_|refine zS ?_|refine zT ?_ ?_<;>intro _|fail)
 all_goals conv=>whnf
 exact aK (aA1.2 rfl)
theorem fQ9(p:Vc):Sp 281 [vcV p] (ptW p):=by
 refine zsp Tryz.func281 ?_;exact Ov
theorem fJ9{e:Sg}{v:Vc}(b:bI e)(hv:Sm4 v)(a:¬eX e v):rW (v.1,v.2,1) e↔rayC e v (kR e.1 e.2 v):=by
 grind [jP,dD7,zH,rayC,cmpI]
theorem gA7{r:Rg}{v:Vc}(h:¬dM r):fJ r v=0:=by
 grind [eA4,fJ]
theorem fZ2{r:Rg}{v:Vc}(h:dM r)(hv:Sm4 v):fJ r v=lU (v.1,v.2,1) (bF r) false:=by
 grind [aC1,pY,aD9,bC7]
theorem fR7(r:Rg)(v:Vc)(j:r.length<=1000000)(hv:Sm4 v):Sp 280 [rgV r,ptW v] (I (fJ r v)):=by
 refine zsp Tryz.func280 ?_;have g:=fE9 r j;have w:=fS2 v hv
 have F:=fE7 r j;by_cases d:dM r;rotate_left
 ·rw[gA7 d]
  repeat' ((conv=>whnf);first|(exfalso;contradiction)|refine zc g ?_|refine zS ?_|refine zT ?_ ?_<;>intro _|fail)
  all_goals exact zE
 have L:=d.1;have z:=d.2.1
 have i:=fZ2 d hv;have f:∀e∈bF r,bI e:=λe K=>jO d.2.2.1 K
 have y:=dT0 (r:=r) Aa;generalize fJ r v=A at*;generalize bF r=E at*;have J:(E.map sgV).length=E.length:=by rw[QS]
 repeat' ((conv=>whnf);first|(exfalso;contradiction)|refine zc g ?_|refine zc w ?_|refine zc F ?_|refine zS ?_|refine zT ?_ ?_<;>intro _|fail)
 refine oU (A:=List Sg) (B:=List Sg) (C:=Bool) (λD R ins=>mkSt [(3, .box 3 0),(5, .sl (E.map sgV)),(6,B ins),(7,I D.length)] [(3,[I v.1,I v.2,I 1])] []) (λD R ins=>E=D++R/\A=lU (v.1,v.2,1) R ins) (λD R ins=>R.length) [] E false ?_ ⟨rfl,i⟩ (λD R ins hp=>?_)
 ·refine Le.trans (fB (k:=21) rfl (.inl rfl)) ?_
  exact zj
 clear i;obtain⟨hp,hA⟩:=hp
 cases R with
 |nil=>
  have c:E.length=D.length:=Ad;rw[qB]at hA;exact OE
 |cons e R=>
  have c:=aO hp;have heo:=f e Ad
  obtain⟨o,s⟩:=jP.1 heo;have G:=gE2 e v heo hv;have H:=fO8 e.1 e.2 v o s hv
  have n:=λq=>oP (p:=(v.1,v.2,1)) (e:=e) (es:=R) (b:=ins) ((cC3 hv heo).2 q);have m:¬eX e v->rayC e v (kR e.1 e.2 v)->A=lU (v.1,v.2,1) R (!ins):=λq1 q2=>MG
  have u:¬eX e v->¬rayC e v (kR e.1 e.2 v)->A=lU (v.1,v.2,1) R ins:=λq1 q2=>LK;unfold rayC at m u;rw[<-hA]at n;generalize eX e v=P at*;generalize kR e.1 e.2 v=t at*;unfold Sm4 at o s hv
  repeat' ((conv=>whnf);first|omega|refine cC0 [(5,999),(7,999),(34,999),(35,999),(36,999),(37,999),(39,999),(40,999),(41,999),(42,999),(8,8),(9,9)] Af Ac ?_|refine aB (l:=E) Aa ?_|refine aF (l:=E) (A:=D) (x:=e) (B:=R) hp Aa ?_|refine zc G ?_|refine zc H ?_|refine zS ?_|refine zT ?_ ?_<;>intro _|fail)
  all_goals conv=>whnf
  all_goals first
   |exact aG (n Ag).symm
   |skip
  all_goals first
   |(have a:=m Ag Aa)
   |(have a:=u Ag Aa)
  all_goals first
   |refine⟨(D++[e],R, !ins),?_,⟨Ad,a⟩,Ae⟩
   |refine⟨(D++[e],R,ins),?_,⟨Ad,a⟩,Ae⟩
  all_goals simp only[QG,QK]
  all_goals (refine dV ?_ ?_ ?_ ?_)
  all_goals repeat' (first|exact trivial|refine And.intro ?_ ?_|with_reducible rfl|exact(λh=>Ah)|exact QH _|omega|exact rfl)
theorem fN0(r:Rg)(v:Vc)(d:r.length<=1000000)(hv:Sm4 v):Sp 227 [rgV r,vcV v] (I (fJ r v)):=by
 refine zsp Tryz.func227 ?_;have c:=fP v 8000;have b:=fQ9 v
 have a:=fR7 r v d hv
 have e:within v 8000:=by
  rw[within_iff Aa];unfold Sm4 at hv;omega
 generalize fJ r v=A at*
 repeat' ((conv=>whnf);first|(exfalso;contradiction)|refine zc c ?_|refine zc b ?_|refine zc a ?_|refine zS ?_|refine zT ?_ ?_<;>intro _|fail)
 all_goals exact zE
theorem fM3(l:List Rg):∀y∈l.map rgV,y.cells.length=1:=λy hy=>AX
theorem fE1(s:Sh)(a:gV s):Sp 267 [shV s] (.own 75 ((rings s).map rgV)):=by
 refine zsp Tryz.func267 ?_;have b:=a.2.1
 repeat' ((conv=>whnf);first|refine iH rfl (.inl rfl) rfl (QC rfl) (fM3 s.holes) (by show 1+(s.holes.map rgV).length<=1000000000;rw[QS];omega) ?_|refine zS ?_|refine zm (λx c=>?_)|refine zT ?_ ?_<;>intro _|fail)
 all_goals conv=>whnf
 exact OU
def RPoint(a b:Rg):Prop:=∃x∈bF a,∃y∈bF b,dG x y≠0
theorem fT1{r:Rg}(a:bR7 r):∀e∈bF r,bI e:=λe b=>jO a b
theorem fF2(a b:Rg)(F:a.length<=1000000)(H:b.length<=1000000)(o:bR7 a)(j:bR7 b):Sp 183 [rgV a,rgV b] (DB (¬uV a b)):=by
 refine zsp Tryz.func183 ?_;have r:=fE7 a F;have n:=fE7 b H
 have v:=fT1 o;have G:=fT1 j
 have L:(bF a).length<=1000000:=Fz;have M:(bF b).length<=1000000:=Fz
 have t:(¬uV a b)↔∃x∈bF a,∃y∈bF b,dG x y≠0:=by
  unfold uV;constructor
  ·intro h
   by_cases q:∃x∈bF a,∃y∈bF b,dG x y≠0
   ·exact q
   ·exfalso
    apply h;intro x c y f;by_cases s:dG x y=0
    ·exact s
    ·exact absurd ⟨x,c,y,f,s⟩ q
  ·rintro⟨x,c,y,f,q⟩ h
   exact q (h x c y f)
 generalize (¬uV a b)=P at*;generalize bF a=A at*;generalize bF b=B at*;have J:(A.map sgV).length=A.length:=Ae;have K:(B.map sgV).length=B.length:=Ae
 repeat' ((conv=>whnf);first|omega|refine zc r ?_|refine zc n ?_|refine zS ?_|refine zm (λx c=>?_)|refine zT ?_ ?_<;>intro _|fail)
 refine aU (A:=List Sg) (B:=List Sg) (λD R=>mkSt [(5, .sl (A.map sgV)),(6, .sl (B.map sgV)),(7,I D.length)] [] []) (λD R=>A=D++R/\∀x∈D,∀y∈B,dG x y=0) (λD R=>R.length) [] A ?_ ⟨rfl,Ae⟩ (λD R hp=>?_)
 ·exact Ll
 obtain⟨hp,hD⟩:=hp
 cases R with
 |nil=>
  have g:A.length=D.length:=Ad
  repeat' ((conv=>whnf);first|omega|refine zS ?_|refine zm (λx c=>?_)|refine zT ?_ ?_<;>intro _|fail)
  all_goals conv=>whnf
  refine aA (aC ?_);rw[t,hp,QU];rintro⟨x,c,y,f,C⟩;exact C (hD x c y f)
 |cons x R=>
  have g:=aO hp;have w:=v x Ad
  repeat' ((conv=>whnf);first|omega|refine zS ?_|refine zm (λx c=>?_)|refine zT ?_ ?_<;>intro _|fail)
  refine aU (A:=List Sg) (B:=List Sg) (λE S=>mkSt [(5, .sl (A.map sgV)),(6, .sl (B.map sgV)),(7,I D.length),(8,I E.length)] [] []) (λE S=>B=E++S/\∀y∈E,dG x y=0) (λE S=>S.length) [] B ?_ ⟨rfl,Ae⟩ (λE S hq=>?_)
  ·exact zj
  obtain⟨hq,hE⟩:=hq
  cases S with
  |nil=>
   have d:B.length=E.length:=Ap;have hBE:B=E:=Ap
   repeat' ((conv=>whnf);first|omega|refine zS ?_|refine zm (λx c=>?_)|refine zT ?_ ?_<;>intro _|fail)
   all_goals conv=>whnf
   refine⟨(D++[x],R),?_,⟨Ad,λz hz=>?_⟩,Ae⟩
   ·exact I8
   ·exact Jq
  |cons y S=>
   have d:=aO hq;have u:=fI7 x y w (G y Ap)
   have i:dG x y≠0->P:=λh=>t.2 ⟨x,Ad,y,Ap,h⟩;have e:dG x y=0->∀z∈E++[y],dG x z=0:=λh z hz=>Lr
   generalize dG x y=m at*
   repeat' ((conv=>whnf);first|omega|refine aB (l:=A) Aa ?_|refine aB (l:=B) Aa ?_|refine aF (l:=A) (A:=D) (x:=x) (B:=R) hp Aa ?_|refine aF (l:=B) (A:=E) (x:=y) (B:=S) hq Aa ?_|refine zc u ?_|refine zS ?_|refine zm (λx c=>?_)|refine zT ?_ ?_<;>intro _|fail)
   all_goals conv=>whnf
   all_goals first
    |exact aA (fE (i Ag))
    |skip
   refine⟨(E++[y],S),?_,⟨Ap,e Ag⟩,Ae⟩;exact MQ
def fE4(a b:Rg):Prop:=∃v∈a,fJ b v=2
theorem dbT{p:Prop}(h:p):DB p= .lit (.bool true):=Rh (λb=>V.lit (.bool b)) (dH.2 h)
theorem dbF{p:Prop}(h:¬p):DB p= .lit (.bool false):=Rh (λb=>V.lit (.bool b)) (dW.2 h)
theorem gJ8{a b:Int}{A B:Prop}(d:a=b->A)(c:a≠b->B):branch (!eqBB (eqB a b) true) B A:=by
 grind [cA1,jU,aA1]
theorem gJ5{a b:Int}{A B:Prop}(d:a=b->A)(c:a≠b->B):branch (!eqBB (eqB a b) false) A B:=by
 grind [cA1,jU,aA1]
theorem fI2(a b:Rg)(s:a.length<=1000000)(n:b.length<=1000000)(k:bR7 a):Sp 184 [rgV a,rgV b, .lit (.bool true)] (DB (pR a b 2)):=by
 refine zsp Tryz.func184 ?_;have o:(a.map vcV).length=a.length:=Ae;have m:pR a b 2↔∀v∈a,fJ b v=2:=Rt
 generalize pR a b 2=P at*
 repeat' ((conv=>whnf);first|refine zS ?_|refine zd (λi=>?_) (λi=>?_)|refine zl (λc=>?_) (λc=>?_)|refine zk (λd=>?_) (λd=>?_)|refine ze (λheq=>?_) (λheq=>?_)|refine zm (λx f=>?_)|refine zb (λe=>?_) (λe=>?_))
 refine aU (A:=List Vc) (B:=List Vc) (λD R=>mkSt [(0,rgV a),(1,rgV b),(2, .lit (.bool true)),(7,I D.length)] [] []) (λD R=>a=D++R/\∀v∈D,fJ b v=2) (λD R=>R.length) [] a ?_ ⟨rfl,Ae⟩ (λD R hp=>?_)
 ·exact zj
 obtain⟨hp,hD⟩:=hp
 cases R with
 |nil=>
  have g:a.length=D.length:=Ad
  repeat' ((conv=>whnf);first|omega|refine zS ?_|refine zd (λi=>?_) (λi=>?_)|refine zl (λc=>?_) (λc=>?_)|refine zk (λd=>?_) (λd=>?_)|refine ze (λheq=>?_) (λheq=>?_)|refine zm (λx f=>?_)|refine zb (λe=>?_) (λe=>?_))
  all_goals conv=>whnf
  exact aA (fE (m.2 λv hv=>FT))
 |cons x R=>
  have g:=aO hp;have f:x∈a:=Ad
  have r:=fN0 b x n (vN k f);have j:fJ b x≠2->¬P:=λh q=>h (m.1 q x f)
  have hgood:fJ b x=2->∀v∈D++[x],fJ b v=2:=λh v hv=>JW;generalize fJ b x=w at*
  repeat' ((conv=>whnf);first|omega|refine aB (l:=a) Aa ?_|refine aF (l:=a) (A:=D) (x:=x) (B:=R) hp Aa ?_|refine gJ8 (λheq=>?_) (λheq=>?_)|refine zc r ?_|refine zS ?_|refine zd (λi=>?_) (λi=>?_)|refine zl (λc=>?_) (λc=>?_)|refine zk (λd=>?_) (λd=>?_)|refine ze (λheq=>?_) (λheq=>?_)|refine zm (λx f=>?_)|refine zb (λe=>?_) (λe=>?_))
  all_goals conv=>whnf
  ·exact JH
  ·exact aA (aC (j heq))
theorem fE2(a b:Rg)(r:a.length<=1000000)(m:b.length<=1000000)(k:bR7 a):Sp 184 [rgV a,rgV b, .lit (.bool false)] (DB (fE4 a b)):=by
 refine zsp Tryz.func184 ?_;have n:(a.map vcV).length=a.length:=Ae;have hr:fE4 a b↔∃v∈a,fJ b v=2:=Rt
 generalize fE4 a b=P at*
 repeat' ((conv=>whnf);first|refine zS ?_|refine zd (λi=>?_) (λi=>?_)|refine zl (λc=>?_) (λc=>?_)|refine zk (λd=>?_) (λd=>?_)|refine ze (λheq=>?_) (λheq=>?_)|refine zm (λx f=>?_)|refine zb (λe=>?_) (λe=>?_))
 refine aU (A:=List Vc) (B:=List Vc) (λD R=>mkSt [(0,rgV a),(1,rgV b),(2, .lit (.bool false)),(7,I D.length)] [] []) (λD R=>a=D++R/\∀v∈D,fJ b v≠2) (λD R=>R.length) [] a ?_ ⟨rfl,Ae⟩ (λD R hp=>?_)
 ·exact zj
 obtain⟨hp,hD⟩:=hp
 cases R with
 |nil=>
  have g:a.length=D.length:=Ad
  repeat' ((conv=>whnf);first|omega|refine zS ?_|refine zd (λi=>?_) (λi=>?_)|refine zl (λc=>?_) (λc=>?_)|refine zk (λd=>?_) (λd=>?_)|refine ze (λheq=>?_) (λheq=>?_)|refine zm (λx f=>?_)|refine zb (λe=>?_) (λe=>?_))
  all_goals conv=>whnf
  exact aA (aC (λh=>Dw))
 |cons x R=>
  have g:=aO hp;have f:x∈a:=Ad
  have o:=fN0 b x m (vN k f);have j:fJ b x=2->P:=λh=>hr.2 ⟨x,f,h⟩
  have hgood:fJ b x≠2->∀v∈D++[x],fJ b v≠2:=λh v hv=>JW;generalize fJ b x=w at*
  repeat' ((conv=>whnf);first|omega|refine aB (l:=a) Aa ?_|refine aF (l:=a) (A:=D) (x:=x) (B:=R) hp Aa ?_|refine gJ5 (λheq=>?_) (λheq=>?_)|refine zc o ?_|refine zS ?_|refine zd (λi=>?_) (λi=>?_)|refine zl (λc=>?_) (λc=>?_)|refine zk (λd=>?_) (λd=>?_)|refine ze (λheq=>?_) (λheq=>?_)|refine zm (λx f=>?_)|refine zb (λe=>?_) (λe=>?_))
  all_goals conv=>whnf
  ·exact aA (fE (j heq))
  ·exact JH
def xG(h k:Rg):Prop:=uV h k/\¬fE4 h k/\¬fE4 k h
def fK3(o:Rg)(pre:List Rg)(h:Rg):Prop:=dM h/\uV h o/\pR h o 2/\∀k∈pre,xG h k
def fF4(o:Rg):List Rg->List Rg->Prop
 |_,[] =>True
 |pre,h::l=>fK3 o pre h/\fF4 o (pre++[h]) l
theorem fM6{a b:Rg}(h:Apart a b):¬fE4 a b↔pR a b 0:=by
 unfold fE4 pR;constructor
 ·intro q v hv
  rcases cJ3 (r:=b) (v:=v)with k|k|k
  ·exact k
  ·exact absurd ((nZ h.ob (vN h.oa.2.2.1 hv)).1 k) (h.off (vert_onR h.oa hv))
  ·exact absurd ⟨v,hv,k⟩ q
 ·rintro q ⟨v,hv,k⟩
  have:=q v hv;omega
theorem gA1{o:Rg}{pre:List Rg}{h:Rg}(l:dM o)(a:∀k∈pre,dM k):fK3 o pre h↔dM h/\cU0 o pre h:=by
 unfold fK3 cU0 xG;constructor
 ·rintro⟨d,j,f,g⟩
  refine⟨d,f,j,λk b=>?_⟩;obtain⟨c,i,e⟩:=g k b;have ap:Apart h k:=⟨d,a k b,c⟩
  exact⟨c,(fM6 ap).1 i,(fM6 ap.symm).1 e⟩
 ·rintro⟨d,f,j,g⟩
  refine⟨d,j,f,λk b=>?_⟩;obtain⟨c,i,e⟩:=g k b;have ap:Apart h k:=⟨d,a k b,c⟩
  exact⟨c,(fM6 ap).2 i,(fM6 ap.symm).2 e⟩
theorem fF7{o:Rg}(e:dM o):∀ {l pre:List Rg},(∀k∈pre,dM k)->(fF4 o pre l↔(∀k∈l,dM k)/\qR o pre l)
 | [],pre,_=>⟨λ_=>⟨(λk a=>by cases a),trivial⟩,λ_=>trivial⟩
 |h::l,pre,b=>by
  have g:=gA1 (h:=h) e b;show fK3 o pre h/\fF4 o (pre++[h]) l↔_/\(cU0 o pre h/\qR o (pre++[h]) l);constructor
  ·rintro⟨d,f⟩
   obtain⟨c,i⟩:=g.1 d
   obtain⟨n,m⟩:=(fF7 e (pre:=pre++[h]) (λk a=>by
    rcases QJ.1 a with a|a
    ·exact b k a
    ·rw[QI.1 a];exact c)).1 f
   refine⟨λk a=>?_,i,m⟩;rcases QO.1 a with rfl|a
   ·exact c
   ·exact n k a
  ·rintro⟨d,f,j⟩
   have c:=d h Ae;refine⟨g.2 ⟨c,f⟩,(fF7 e (pre:=pre++[h]) (λk a=>?_)).2 ⟨λk a=>d k (by simp[a]),j⟩⟩
   rcases QJ.1 a with a|a
   ·exact b k a
   ·rw[QI.1 a];exact c
theorem fM1{s:Sh}:bG s↔s.holes.length<=6/\dM s.outer/\fF4 s.outer [] s.holes/\corners (rings s)<=80:=by
 grind [fF7,bG,rings]
theorem fO1(a b:List Rg):corners (a++b)=corners a+corners b:=Gw
theorem fH9(r:Rg)(l:List Rg):corners (r::l)=r.length+corners l:=Gw
theorem fN4:∀ {l:List Rg},(∀r∈l,dM r)->corners l<=40*l.length
 | [],_=>Gw
 |r::l,h=>by
  have b:=(h r Ae).2.1;have a:=fN4 (l:=l) (λx hx=>h x BH)
  rw[fH9,QM];omega
theorem fK6(r:Rg)(b:r.length<=9223372036854775807):Sp 182 [rgV r] (DB (dM r)):=by
 by_cases h:r.length<=1000000
 ·exact fE9 r h
 ·have e:DB (dM r)= .lit (.bool false):=dbF (λq=>by have:=q.2.1;omega)
  rw[e];refine zsp Tryz.func182 ?_;have a:(r.map vcV).length=r.length:=Ae;exact MX
theorem fQ3(s:Sh)(Y:Fits s):Sp 135 [shV s] (DB (bG s)):=by
 refine zsp Tryz.func135 ?_;have r:=fM1 (s:=s);have ae:(s.holes.map rgV).length=s.holes.length:=Ae
 have O:=fK6 s.outer Y.1;have ad:=Y.2.1
 have F:corners (rings s)=s.outer.length+corners s.holes:=fH9 _ _;rw[F]at r;clear F;generalize bG s=P at*;by_cases C:dM s.outer;rotate_left
 ·rw[dbF C]at O
  repeat' ((conv=>whnf);first|omega|refine zc O ?_|refine zS ?_|refine zm (λx t=>?_)|refine zT ?_ ?_<;>intro _|fail)
  all_goals conv=>whnf
  all_goals first
   |exact aA (aC (λh=>C (r.1 h).2.1))
 rw[dbT C]at O
 repeat' ((conv=>whnf);first|omega|refine zc O ?_|refine zS ?_|refine zm (λx t=>?_)|refine zT ?_ ?_<;>intro _|fail)
 all_goals conv=>whnf
 all_goals first
  |exact aA (aC (λh=>by have:=(r.1 h).1;omega))
  |skip
 have ab:=C.2.1;have M:s.outer.length<=1000000:=Aa
 have h6:s.holes.length<=6:=Aa;refine aU (A:=List Rg) (B:=List Rg) (λD R=>mkSt [(1, .box 1 0),(3,I ((s.outer.length+corners D:Nat):Int)),(4,I D.length)] [(1,(shV s).cells)] []) (λD R=>s.holes=D++R/\(∀k∈D,dM k)/\(P↔fF4 s.outer D R/\s.outer.length+corners s.holes<=80)) (λD R=>R.length) [] s.holes ?_ ⟨rfl,Ae,⟨λh=>(r.1 h).2.2,λh=>r.2 ⟨h6,C,h⟩⟩⟩ (λD R hp=>?_)
 ·refine dV ?_ ?_ ?_ ?_
  all_goals repeat' (first|exact trivial|refine And.intro ?_ ?_|with_reducible rfl|exact(λh=>Ah)|exact QH _|omega|exact rfl)
  all_goals (rw[QS];rfl)
 clear r;obtain⟨hp,Q,r⟩:=hp;have ag:=fN4 Q
 cases R with
 |nil=>
  have G:s.holes.length=D.length:=Ad;have e:s.holes=D:=Ad
  have V:P↔s.outer.length+corners D<=80:=by rw[r,e];exact⟨λh=>h.2,λh=>⟨trivial,h⟩⟩
  repeat' ((conv=>whnf);first|omega|refine zS ?_|refine zm (λx t=>?_)|refine zT ?_ ?_<;>intro _|fail)
  all_goals conv=>whnf
  exact aA (le_dec (by rw[V];omega))
 |cons h R=>
  have G:=aO hp;have aa:h∈s.holes:=Ad
  have X:=Y.2.2 h aa;have ac:(h.map vcV).length=h.length:=Ae
  have T:corners (D++[h])=corners D+h.length:=by rw[fO1];unfold corners;simp
  have y:=fK6 h X;have b:P↔(fK3 s.outer D h/\fF4 s.outer (D++[h]) R)/\s.outer.length+corners s.holes<=80:=r
  by_cases a:dM h;rotate_left
  ·rw[dbF a]at y
   repeat' ((conv=>whnf);first|omega|refine aB (l:=s.holes) Aa ?_|refine aF (l:=s.holes) (A:=D) (x:=h) (B:=R) hp Aa ?_|refine zc y ?_|refine zS ?_|refine zm (λx t=>?_)|refine zT ?_ ?_<;>intro _|fail)
   all_goals conv=>whnf
   all_goals exact aA (aC (λq=>a (b.1 q).1.1.1))
  rw[dbT a]at y;have af:=a.2.1;have g:h.length<=1000000:=Aa
  have J:=fF2 h s.outer g M a.2.2.1 C.2.2.1;have N:=fI2 h s.outer g M a.2.2.1
  by_cases o:uV h s.outer;rotate_left
  ·rw[dbT o]at J
   repeat' ((conv=>whnf);first|omega|refine aB (l:=s.holes) Aa ?_|refine aF (l:=s.holes) (A:=D) (x:=h) (B:=R) hp Aa ?_|refine zc y ?_|refine zc J ?_|refine zS ?_|refine zm (λx t=>?_)|refine zT ?_ ?_<;>intro _|fail)
   all_goals conv=>whnf
   all_goals exact aA (aC (λq=>o (b.1 q).1.1.2.1))
  rw[dbF (λq=>q o)]at J;by_cases m:pR h s.outer 2;rotate_left
  ·rw[dbF m]at N
   repeat' ((conv=>whnf);first|omega|refine aB (l:=s.holes) Aa ?_|refine aF (l:=s.holes) (A:=D) (x:=h) (B:=R) hp Aa ?_|refine zc y ?_|refine zc J ?_|refine zc N ?_|refine zS ?_|refine zm (λx t=>?_)|refine zT ?_ ?_<;>intro _|fail)
   all_goals conv=>whnf
   all_goals exact aA (aC (λq=>m (b.1 q).1.1.2.2.1))
  rw[dbT m]at N
  repeat' ((conv=>whnf);first|omega|refine aB (l:=s.holes) Aa ?_|refine aF (l:=s.holes) (A:=D) (x:=h) (B:=R) hp Aa ?_|refine zc y ?_|refine zc J ?_|refine zc N ?_|refine zS ?_|refine zm (λx t=>?_)|refine zT ?_ ?_<;>intro _|fail)
  refine aU (A:=List Rg) (B:=List Rg) (λE S=>mkSt [(1, .box 1 0),(3,I ((s.outer.length+corners (D++[h]):Nat):Int)),(4,I D.length),(5,rgV h),(6,I E.length)] [(1,(shV s).cells)] []) (λE S=>D=E++S/\∀k∈E,xG h k) (λE S=>S.length) [] D ?_ ⟨rfl,Ae⟩ (λE S hq=>?_)
  ·have e:((s.outer.length+corners (D++[h]):Nat):Int)=((s.outer.length+corners D:Nat):Int)+((h.map vcV).length:Int):=by rw[T,QS];omega
   rw[e];exact zj
  obtain⟨hq,hE⟩:=hq
  cases S with
  |nil=>
   have u:D.length=E.length:=Ap;have Z:D=E:=Ap
   have i:∀k∈D,xG h k:=by rw[Z];exact hE
   clear hq
   repeat' ((conv=>whnf);first|omega|refine zS ?_|refine zm (λx t=>?_)|refine zT ?_ ?_<;>intro _|fail)
   all_goals conv=>whnf
   refine⟨(D++[h],R),?_,⟨Ad,λk H=>?_,⟨λq=>⟨(b.1 q).1.2,(b.1 q).2⟩,λq=>b.2 ⟨⟨⟨a,o,m,i⟩,q.1⟩,q.2⟩⟩⟩,Ae⟩
   ·exact I8
   ·rcases QJ.1 H with H|H
    ·exact Q k H
    ·rw[QI.1 H];exact a
  |cons k S=>
   have u:=aO hq;have K:k∈D:=Ap
   have f:=Q k K;have w:k.length<=1000000:=by have:=f.2.1;omega
   have U:s.holes=E++k::(S++h::R):=HY;have q1:=fF2 h k g w a.2.2.1 f.2.2.1
   have q2:=fE2 h k g w a.2.2.1;have q3:=fE2 k h w g f.2.2.1
   have j:xG h k↔uV h k/\¬fE4 h k/\¬fE4 k h:=Rt;have d:¬xG h k->¬P:=λn q=>n ((b.1 q).1.1.2.2.2 k K)
   have v:xG h k->∀z∈E++[k],xG h z:=λn z L=>by
    rcases QJ.1 L with L|L
    ·exact hE z L
    ·rw[QI.1 L];exact n
   generalize xG h k=pr at*;generalize uV h k=c1 at*;generalize fE4 h k=c2 at*;generalize fE4 k h=c3 at*
   repeat' ((conv=>whnf);first|omega|refine aB (l:=s.holes) Aa ?_|refine aF (l:=s.holes) (A:=E) (x:=k) (B:=S++h::R) U Aa ?_|refine zc q1 ?_|refine zc q2 ?_|refine zc q3 ?_|refine zS ?_|refine zm (λx t=>?_)|refine zT ?_ ?_<;>intro _|fail)
   all_goals conv=>whnf
   all_goals first
    |exact aA (aC (d (λn=>absurd (j.1 n).1 Ag)))
    |exact aA (aC (d (λn=>absurd Ag (j.1 n).2.1)))
    |exact aA (aC (d (λn=>absurd Ag (j.1 n).2.2)))
    |skip
   have W:c1:=by
    by_cases c:c1
    ·exact c
    ·exact absurd c Ag
   refine⟨(E++[k],S),?_,⟨Ap,v (j.2 ⟨W,Ag,Ag⟩)⟩,Ae⟩;exact MQ
theorem aD7(s:Sh)(a:gV s):Sp 135 [shV s] (DB (bG s)):=fQ3 s a.fits
theorem gI8(r:Rg):W (zY r)=zY r:=by
 unfold zY
 cases r.length with
 |zero=>rfl
 |succ n=>rw[bC2];exact w_in (nT _)
theorem wsub(a b:Int):W (W a-b)=W (a-b):=by
 grind [IntKind.wrap,IntKind.signed,IntKind.bits]
theorem fV7{s:Sh}(h:bG s):uK s=s.holes.foldl (λa r=>W (a-zY r)) (zY s.outer):=by
 have c:dM s.outer:=h.2.1 _ AQ;have b:∀r∈s.holes,dM r:=λr hr=>h.2.1 r Df
 have d:∀ {r:Rg},dM r->nG r=zY r:=λq=>Q9 q;rw[eI3 h];unfold rings qH;rw[RF,d c,wsub,show 2*zY s.outer-zY s.outer=zY s.outer from Aa,gI8];generalize zY s.outer=a
 have key:∀(l:List Rg) (a:Int),(∀r∈l,dM r)->l.foldl (λa r=>W (a-nG r)) a=l.foldl (λa r=>W (a-zY r)) a:=by
  intro l
  induction l<;>simp_all
 exact key _ _ b
theorem fK5(s:Sh)(c:gV s):Sp 89 [shV s] (I (uK s)):=by
 refine zsp Tryz.func89 ?_;have n:(s.holes.map rgV).length=s.holes.length:=Ae;have d:=aD7 s c
 have k:=fG8 s.outer c.1;have i:=c.2.1
 by_cases h:bG s;rotate_left
 ·rw[dbF h]at d
  rw[eC2 h]
  repeat' ((conv=>whnf);first|refine zc d ?_|refine zS ?_|refine zm (λx hx=>?_)|refine zT ?_ ?_<;>intro _|fail)
  all_goals exact zE
 rw[dbT h]at d;rw[fV7 h];have g:∀D x,(D++[x]).foldl (λa r=>W (a-zY r)) (zY s.outer)=W (D.foldl (λa r=>W (a-zY r)) (zY s.outer)-zY x):=λD x=>Gz;generalize zY s.outer=f at*
 repeat' ((conv=>whnf);first|refine zc d ?_|refine zc k ?_|refine zg ?_|refine zi ?_|refine zw ?_|refine zy ?_|refine zo ?_|refine zn ?_|refine zm (λx hx=>?_)|refine zv ?_|refine zz (λ_=>?_) λ_=>?_|refine zb (λ_=>?_) λ_=>?_|refine zr ?_|refine zq ?_)
 refine aU (A:=List Rg) (B:=List Rg) (λD R=>mkSt [(1, .box 1 0),(3,I (D.foldl (λa r=>W (a-zY r)) f)),(4,I D.length)] [(1,(shV s).cells)] []) (λD R=>s.holes=D++R) (λD R=>R.length) [] s.holes ?_ rfl (λD R hp=>?_)
 ·exact zj
 cases R with
 |nil=>
  have b:s.holes.length=D.length:=Dq;have e:s.holes=D:=Dq
  rw[e];generalize D.foldl (λa r=>W (a-zY r)) f=A at*;exact MX
 |cons x R=>
  have b:=aO hp;have j:=fG8 x (c.2.2 x Ad)
  have e:=g D x;generalize zY x=q at*;generalize o:D.foldl (λa r=>W (a-zY r)) f=A at*
  repeat' ((conv=>whnf);first|omega|refine aB (l:=s.holes) Aa ?_|refine aF (l:=s.holes) (A:=D) (x:=x) (B:=R) hp Aa ?_|refine fK (m:=(D.length:Int)+1) (w_in Aa) ?_|refine zc j ?_|refine zg ?_|refine zi ?_|refine zw ?_|refine zy ?_|refine zo ?_|refine zn ?_|refine zm (λx hx=>?_)|refine zv ?_|refine zz (λ_=>?_) λ_=>?_|refine zb (λ_=>?_) λ_=>?_|refine zr ?_|refine zq ?_)
  all_goals conv=>whnf
  refine⟨(D++[x],R),?_,Ad,Ae⟩;simp only[e,QG,QK];exact zj
end Go.Proofs.Led
