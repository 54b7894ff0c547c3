/- Lemmas. -/
import Derived.Test.YtcmgfjaiegpddaaGreatB26
set_option linter.all false
set_option maxRecDepth 100000
set_option maxHeartbeats 8000000
noncomputable section
namespace Go.Proofs.Led
open Go Go.Proofs Go.Ab Tryz
def nilA(x:V):V:=match x with
 | .lit u=>(match u with| .slice none 0 0=> .sl [] |u=> .lit u)
 |x=>x
def gJ4(σ:St):St:=⟨λs=>nilA (σ.env s),σ.bx,σ.ar⟩
def gI1{w:World}{G:Gh}{v:Value}{x:V}(h:Rv w G v x):Rv w G v (nilA x):=by
 unfold nilA;exact QS
def gJ3{p:Nat->Prop}{q:Nat->Nat->Prop}{x:V}(h:x.ok p q):(nilA x).ok p q:=by
 unfold nilA;grind [V.ok,V.okL]
def gI3(σ:St):Le T σ (gJ4 σ):=by
 unfold Le;intro Φ a w G inv;exact⟨G,{inv with env:=λs=>gI1 (inv.env s),wfE:=λs=>gJ3 (inv.wfE s)}⟩
theorem fV9{O:List Vc}{k:Nat}(h:k<O.length):O.getD k z0=O[k] :=DF
def fQ6{l:List Vc}{x:Vc}{k:Nat}(a:k<=ahead x l)(h:l.length<=k\/¬kF (l.getD k z0) x):k=ahead x l:=by
 grind [fW5,TI,fV9,fX7]
def fZ6{l:List Vc}{x:Vc}{k:Nat}(f:k<=ahead x l)(b:k<l.length)(h:kF (l.getD k z0) x):k<ahead x l:=by
 rcases TI k (ahead x l)with a|d;exact a;have e:k=ahead x l:=by omega
 have c:l[ahead x l]? =some (l.getD k z0):=by rw[<-e,fV9 b,RY b]
 exact absurd h (fQ4 c)
def gE6{O:List Vc}{x:Vc}{k:Nat}(a:k=ahead x O)(b:k<O.length)(h:O.getD k z0=x):insV x O=O:=by
 unfold insV;grind
def fY7{O:List Vc}{x:Vc}{k:Nat}(a:k=ahead x O)(h:k<O.length->O.getD k z0≠x):insV x O=O.take k++x::O.drop k:=by
 unfold insV;grind
def fQ7(l:List Vc)(n:Nat):∀y∈(l.map vcV).take n,y.cells.length=2:=λy a=>aM5 l y (SS a)
def fW4(l:List Vc)(n m:Nat):∀y∈((l.map vcV).take m).drop n,y.cells.length=2:=λy a=>aM5 l y (SS (Tc a))
theorem fI6{a:Type}(f:a->V)(O:List a)(x:a)(k:Nat):(O.take k++x::O.drop k).map f=List.take (k:Int).toNat (O.map f)++[f x] ++List.drop (k:Int).toNat (List.take ((O.map f).length:Int).toNat (O.map f)):=by
 grind [TQ,UF,List.map_take,List.map_drop,Sv]
def fS1(l:List Vc)(o:l.length<=1000):Sp 325 [.sl (l.map vcV)] (.sl ((srtV l).map vcV)):=by
 refine zsp func325 ?_;have m:(l.map vcV).length=l.length:=Af;repeat' ((conv=>whnf);first|refine zS ?_|fail)
 refine aU (A:=List Vc) (B:=List Vc) (λD R=>mkSt [(0, .sl (l.map vcV)),(3, .sl ((srtV D).map vcV)),(4,I D.length)] [] []) (λD R=>l=D++R) (λD R=>R.length) [] l ?_ rfl (λD R hp=>?_);refine Le.trans (gI3 _) ?_;exact zj;have n:=gF2 D;have f:=gD1 D;generalize g:srtV D=O at*;have i:(O.map vcV).length=O.length:=Af;cases R with
 |nil=>
  have d:l.length=D.length:=Eh;have e:l=D:=Eh;repeat' ((conv=>whnf);first|omega|refine zS ?_|refine zT ?_ ?_<;>intro _|fail)
  rw[e,g];all_goals exact zE
 |cons x R=>
  have d:=aO hp;repeat' ((conv=>whnf);first|omega|refine zS ?_|refine zT ?_ ?_<;>intro _|fail)
  refine lD (A:=Nat) (λk=>mkSt [(0, .sl (l.map vcV)),(3, .sl (O.map vcV)),(4,I D.length),(5,I k)] [] []) (λk=>k<=ahead x O) (λk=>ahead x O-k) 0 ?_ Aa (λk c=>?_);exact zj;have j:=fW5 x O;have b:=f x;repeat' ((conv=>whnf);first|omega|refine aB (l:=l) Aa ?_|refine aB (l:=O) Aa ?_|refine aF (l:=l) (A:=D) (x:=x) (B:=R) hp Aa ?_|refine aU3 (r:=O) (k:=k) Aa Aa ?_|refine zc (fJ0 (O.getD k z0) x) ?_|refine aT1 ?_|refine aB4 (λhv=>?_) (λhv=>?_)|refine cC0 [(0,999),(4,999),(49,999),(50,999),(51,999)] Ad Ac ?_|refine iH rfl (.inl rfl) rfl (Q9 rfl) (fQ7 O _) (by show 0+(List.take _ (O.map vcV)).length<=1000000000;rw[SE];omega) ?_|refine iH rfl (.inl rfl) rfl (Q9 rfl) (dA rfl) (by show(List.take _ (O.map vcV)).length+1<=1000000000;rw[SE];omega) ?_|refine iH rfl (.inl rfl) rfl (Q9 rfl) (fW4 O _ _) (by show(List.take _ (O.map vcV)++[_]).length+(List.drop _ (List.take _ (O.map vcV))).length<=1000000000;rw[Q5,SE,SA,Tv,SE];omega) ?_|refine fU ⟨Aa,Aa,Aa, .inr (aM5 O)⟩ ?_|refine zS ?_|refine zT ?_ ?_<;>intro _|fail)
  all_goals conv=>whnf
  refine⟨k+1,?_,?_,?_⟩;exact zj;have:=fZ6 (l:=O) (x:=x) c Aa Ag;omega;have:=fZ6 (l:=O) (x:=x) c Aa Ag;omega;have a:=fQ6 c (.inr Ag);refine⟨(D++[x],R),?_,Ae,Af⟩;show Le T _ (mkSt [(0, .sl (l.map vcV)),(3, .sl ((srtV (D++[x])).map vcV)),(4,I ((D++[x]).length))] [] []);rw[b,gE6 a Aa hv];exact NQ;have a:=fQ6 c (.inr Ag);refine⟨(D++[x],R),?_,Ae,Af⟩;show Le T _ (mkSt [(0, .sl (l.map vcV)),(3, .sl ((srtV (D++[x])).map vcV)),(4,I ((D++[x]).length))] [] []);rw[b,fY7 a (λ_=>hv),fI6];simp only[Q5,SA];exact P5;have a:=fQ6 c (.inl Aa);refine⟨(D++[x],R),?_,Ae,Af⟩;show Le T _ (mkSt [(0, .sl (l.map vcV)),(3, .sl ((srtV (D++[x])).map vcV)),(4,I ((D++[x]).length))] [] []);rw[b,fY7 a (λh=>Aa),fI6];simp only[Q5,SA];exact P5
def fM4(E:List Vc)(s t:Sg)(n:Nat)(X:List Vc):St:=match X with
 | [] =>mkSt [(2, .box 2 0),(3, .box 3 0),(5, .arr 16 0),(6,nilV),(7,I n)] [(2,(sgV s).cells),(3,(sgV t).cells)] [(16,⟨0, .own,84,E.map vcV⟩)]
 |x::X=>mkSt [(2, .box 2 0),(3, .box 3 0),(5, .arr 16 0),(6, .arr 41 X.length),(7,I n)] [(2,(sgV s).cells),(3,(sgV t).cells)] [(16,⟨0, .own,84,E.map vcV⟩),(41,⟨X.length, .own,84,(x::X).map vcV⟩)]
def gH8(s t:Sg)(D:List Vc):(comL s t D).length<=D.length:=by
 unfold comL;exact List.length_filter_le _ _
def fS5(s t:Sg):Sp 304 [sgV s,sgV t] (.sl ((comS s t).map vcV)):=by
 refine zsp func304 ?_;have b:comS s t=srtV (comL s t [s.1,s.2,t.1,t.2]):=rfl;have n: [s.1,s.2,t.1,t.2].length=4:=rfl;repeat' ((conv=>whnf);first|refine zS ?_|fail)
 refine aU (A:=List Vc) (B:=List Vc) (λD R=>fM4 [s.1,s.2,t.1,t.2] s t D.length (comL s t D)) (λD R=> [s.1,s.2,t.1,t.2] =D++R) (λD R=>R.length) [] [s.1,s.2,t.1,t.2] ?_ rfl (λD R hp=>?_);show Le T _ (fM4 [s.1,s.2,t.1,t.2] s t 0 []);exact zj;generalize [s.1,s.2,t.1,t.2] =E at*;have k:(E.map vcV).length=E.length:=Af;have m:=gH8 s t D;have g:=gD6 s t D;cases R with
 |nil=>
  have d:E.length=D.length:=by rw[show E=D++[]from hp];simp
  have e:E=D:=by rw[show E=D++[]from hp];simp
  rw[b,e];have hso:=fS1 (comL s t D) Aa;generalize comL s t D=X at*;cases X with
  |nil=>exact LM
  |cons x X=>exact LM
 |cons y R=>
  have d:=aO hp;have i:=fN7 s y;have j:=fN7 t y;have hcy:=g y;have hC:Com s t y↔eX s y/\eX t y:=Tn;generalize Com s t y=c at*;generalize eX s y=q at*;generalize eX t y=r at*;have a:∀f,comL s t (D++[y])=f->fM4 E s t ((D++[y]).length) (comL s t (D++[y]))=fM4 E s t (D.length+1) f:=λf h=>by rw[h,Q5];rfl
  generalize comL s t D=X at*;cases X with
  |nil=>
   repeat' ((conv=>whnf);first|omega|refine dS rfl rfl FV ?_|refine aF (l:=E) (A:=D) (x:=y) (B:=R) hp Aa ?_|refine zc i ?_|refine zc j ?_|refine gX (Q9 rfl) (dA rfl) (Q9 rfl) ?_|refine zS ?_|refine zT ?_ ?_<;>intro _|fail)
   all_goals conv=>whnf
   refine⟨(D++[y],R),?_,Ae,Af⟩;have e:=a [y] Ej;show Le T _ (fM4 E s t ((D++[y]).length) (comL s t (D++[y])));rw[e];exact O0
   all_goals
    refine⟨(D++[y],R),?_,Ae,Af⟩;have e:=a [] Fj;exact QH
  |cons x X=>
   have o:(x::X).length=X.length+1:=rfl;repeat' ((conv=>whnf);first|omega|refine dS rfl rfl FV ?_|refine aF (l:=E) (A:=D) (x:=y) (B:=R) hp Aa ?_|refine zc i ?_|refine zc j ?_|refine iH rfl (.inl rfl) rfl (Q9 rfl) (dA rfl) (show((x::X).map vcV).length+1<=1000000000 from He) ?_|refine zS ?_|refine zT ?_ ?_<;>intro _|fail)
   all_goals conv=>whnf
   refine⟨(D++[y],R),?_,Ae,Af⟩;have e:=a (x::(X++[y])) Ej;show Le T _ (fM4 E s t ((D++[y]).length) (comL s t (D++[y])));rw[e];unfold fM4;simp only[Q5,SA,Tq,Ti,Uc];exact O0
   all_goals
    refine⟨(D++[y],R),?_,Ae,Af⟩;have e:=a (x::X) Fj;exact QH
theorem gB9{m n:Int}:W (cmpI m 0*cmpI n 0)=cmpI m 0*cmpI n 0:=by
 rcases fM0 m 0 with h|h|h<;>rcases fM0 n 0 with k|k|k<;>rw[h,k] <;>decide
def fI7(s t:Sg)(e:bI s)(f:bI t):Sp 259 [sgV s,sgV t] (I (dG s t)):=by
 refine zsp func259 ?_;obtain⟨q,r,u,v⟩:=gC7 e f;obtain⟨a,b⟩:=jP.1 e;obtain⟨c,d⟩:=jP.1 f
 have g:zT9 s t↔W (kR s.1 s.2 t.1*kR s.1 s.2 t.2)<0/\W (kR t.1 t.2 s.1*kR t.1 t.2 s.2)<0:=by
  unfold zT9 kR;rw[gB9,gB9]
 have i:=fF8 s;have j:=fF8 t;have k:=fS5 s t;have l:=fG5 s t.1 e c;have m:=fG5 s t.2 e d;have n:=fG5 t s.1 f a;have o:=fG5 t s.2 f b;have A:((comS s t).map vcV).length=(comS s t).length:=Af;generalize dG s t=M at*;generalize zT9 s t=C at*;generalize comS s t=L at*;generalize kR s.1 s.2 t.1=w at*;generalize kR s.1 s.2 t.2=x at*;generalize kR t.1 t.2 s.1=y at*;generalize kR t.1 t.2 s.2=z at*;repeat' ((conv=>whnf);first|(exfalso;contradiction)|refine zc i ?_|refine zc j ?_|refine zc k ?_|refine zc l ?_|refine zc m ?_|refine zc n ?_|refine zc o ?_|refine zg ?_|refine zi ?_|refine zw ?_|refine zn ?_|refine zz (λ_=>?_) λ_=>?_|refine zr ?_)
 all_goals conv=>whnf
 all_goals first
  |exact aG (q Aa).symm
  |exact aG (r Aa).symm
  |exact aG (u Aa (g.2 ⟨Ag,Ag⟩)).symm
  |exact aG (v Aa (λh=>by have:=g.1 h;omega)).symm
def fG8(r:Rg)(j:r.length<=1000000):Sp 260 [rgV r] (I (zY r)):=by
 refine zsp func260 ?_;have c:(r.map vcV).length=r.length:=Af;repeat' ((conv=>whnf);first|refine zS ?_|fail)
 refine lD (A:=Nat) (λk=>mkSt [(0,rgV r),(3,I (cI8 r k)),(4,I k)] [] []) (λk=>k<=r.length) (λk=>r.length-k) 0 ?_ Aa (λk i=>?_);exact zj;have f:=bC2 r k;have g:=fF0 (r.getD k z0) (iU r k);by_cases b:k<r.length
 ·have d:(k+1)% r.length<r.length:=TM _ Aa
  repeat' ((conv=>whnf);first|omega|refine uM Aa ?_|refine aB (l:=r) BL ?_|refine sW (k:=(k+1)% r.length) (kS Aa) d ?_|refine aU3 (k:=k) Aa b ?_|refine zS ?_|refine zT ?_ ?_<;>intro _|fail)
  all_goals conv=>whnf
  refine⟨k+1,?_,Aa,Aa⟩;simp only[f];exact zj
 have e:k=r.length:=by omega
 subst e;exact zF
def fS0(r:Rg)(g:r.length<=1000000):Sp 256 [rgV r] (DB (bR7 r)):=by
 refine zsp func256 ?_;have d:(r.map vcV).length=r.length:=Af;have c:bR7 r↔∀v∈r,within v 2000:=Tn;generalize bR7 r=P at*;repeat' ((conv=>whnf);first|refine zS ?_|fail)
 refine aU (A:=List Vc) (B:=List Vc) (λD R=>mkSt [(0,rgV r),(3,I D.length)] [] []) (λD R=>r=D++R/\∀v∈D,within v 2000) (λD R=>R.length) [] r ?_ ⟨rfl,Af⟩ (λD R hp=>?_);exact zj;obtain⟨hp,b⟩:=hp;cases R with
 |nil=>
  have a:r.length=D.length:=Ae;repeat' ((conv=>whnf);first|omega|refine zS ?_|refine zT ?_ ?_<;>intro _|fail)
  all_goals conv=>whnf
  refine aA (fE (c.2 λv hv=>?_));rw[hp,SB]at hv;exact b v hv
 |cons x R=>
  have a:=aO hp;have e:x∈r:=Ae;have f:=fP x 2000;repeat' ((conv=>whnf);first|omega|refine zS ?_|refine zT ?_ ?_<;>intro _|fail)
  all_goals conv=>whnf
  all_goals first
   |exact aA (aC (λh=>absurd (c.1 h x e) Ag))
   |skip
  refine⟨(D++[x],R),?_,⟨Ae,λv hv=>?_⟩,Af⟩;exact Jg;rcases Sz.1 hv with hv|hv;exact b v hv;rw[S9.1 hv];assumption
def gJ1(r:Rg)(k:Nat):St:=match k with
 |0=>mkSt [(0,rgV r),(3,nilV),(4,I 0)] [] []
 |k+1=>mkSt [(0,rgV r),(3, .arr 29 k),(4,I ((k:Int)+1))] [] [(29,⟨k, .own,275,(aH8 r (k+1)).map sgV⟩)]
def fE7(r:Rg)(o:r.length<=1000000):Sp 258 [rgV r] (.own 275 ((bF r).map sgV)):=by
 refine zsp func258 ?_;have j:(r.map vcV).length=r.length:=Af;have h1:=cK3 (r:=r);have g:=bA9 (r:=r);by_cases hr:r.length<2;exact KO;rw[g hr];repeat' ((conv=>whnf);first|omega|refine zS ?_|refine zT ?_ ?_<;>intro _|fail)
 refine lD (A:=Nat) (gJ1 r) (λk=>k<=r.length) (λk=>r.length-k) 0 ?_ Aa (λk n=>?_);exact zj;have m:=cS0 r k;have f:=bV5 r k;match k with
 |0=>
  have d:(0+1)% r.length<r.length:=TM _ Aa;repeat' ((conv=>whnf);first|omega|refine uM Aa ?_|refine aB (l:=r) (by rw[kS (a:=0+1) (by omega)];omega) ?_|refine sW (k:=(0+1)% r.length) (kS Aa) d ?_|refine aU3 (k:=0) Aa Aa ?_|refine fU ⟨Q9 Ac,Q9 Ac,dA rfl⟩ ?_|refine zS ?_|refine zT ?_ ?_<;>intro _|fail)
  all_goals conv=>whnf
  refine⟨1,?_,Aa,Aa⟩;exact zj
 |k+1=>
  have c:=bV5 r (k+1);have i:(List.map sgV (aH8 r (k+1))).length+1<=1000000000:=Aa;by_cases b:k+1<r.length
  ·have d:(k+1+1)% r.length<r.length:=TM _ Aa
   repeat' ((conv=>whnf);first|omega|refine uM Aa ?_|refine aB (l:=r) (by rw[kS (a:=k+1+1) (by omega)];omega) ?_|refine sW (k:=(k+1+1)% r.length) (kS Aa) d ?_|refine aU3 (k:=k+1) Aa b ?_|refine iH rfl (.inl rfl) rfl (Q9 rfl) (dA rfl) i ?_|refine zS ?_|refine zT ?_ ?_<;>intro _|fail)
   all_goals conv=>whnf
   refine⟨k+2,?_,Aa,Aa⟩;show Le T _ (mkSt [(0,rgV r),(3, .arr 29 (k+1)),(4,I (((k+1:Nat):Int)+1))] [] [(29,⟨k+1, .own,275,(aH8 r (k+1+1)).map sgV⟩)]);rw[<-m];exact zj
  exact KF
def gC1{z:Int}{a n:Nat}(h:z=(a:Int))(b:0<n):0<=z.tmod (n:Int)/\z.tmod (n:Int)< (n:Int):=by
 rw[dX5 h];have:=TM a b;omega
def fE9(r:Rg)(s:r.length<=1000000):Sp 212 [rgV r] (DB (dM r)):=by
 refine zsp func212 ?_;have J:(r.map vcV).length=r.length:=Af;have g:=fR4 (r:=r);have K:=fS0 r s;have L:=fG8 r s;have M:=fE7 r s;generalize dM r=P at*;repeat' ((conv=>whnf);first|refine zS ?_|refine zT ?_ ?_<;>intro _|fail)
 all_goals conv=>whnf
 all_goals first
  |exact aA (aC (λh=>by have:=g.1 h;omega))
  |exact aA (aC (λh=>absurd (g.1 h).2.2.1 Ag))
  |skip
 have h3:3<=r.length:=Aa;have j:r.length<=40:=Aa;have y:bR7 r:=Ag;refine lD (A:=Nat) (λk=>mkSt [(0,rgV r),(3,I r.length),(4,I k)] [] []) (λk=>k<=r.length/\∀i,i<k->fT6 r i≠0) (λk=>r.length-k) 0 ?_ ⟨Aa,λi hi=>Aa⟩ (λk f=>?_);exact zj;obtain⟨f,ht⟩:=f;have B:=fG4 (r.getD k z0) (r.getD ((k+1)% r.length) z0) (r.getD ((k+2)% r.length) z0);by_cases b:k<r.length
 ·have t:(k+1)% r.length<r.length:=TM _ Aa
  have u:(k+2)% r.length<r.length:=TM _ Aa;have S:=gC1 (z:=(k:Int)+1) (a:=k+1) (n:=r.length) Aa Aa;have T:=gC1 (z:=(k:Int)+2) (a:=k+2) (n:=r.length) Aa Aa;repeat' ((conv=>whnf);first|omega|refine uM Aa ?_|refine sW (k:=(k+1)% r.length) (dX5 Aa) t ?_|refine sW (k:=(k+2)% r.length) (dX5 Aa) u ?_|refine aU3 (k:=k) Aa b ?_|refine zS ?_|refine zT ?_ ?_<;>intro _|fail)
  all_goals conv=>whnf
  exact aA (aC (λh=>(g.1 h).2.2.2.1 k b Ag));exact LU
 have D:k=r.length:=Aa;subst D;clear B;have l:=dT0 (r:=r) Aa;have w:∀i k,fM5 r i k↔(adj r.length i k->dG ((bF r).getD i (z0,z0)) ((bF r).getD k (z0,z0))=1)/\(¬adj r.length i k->dG ((bF r).getD i (z0,z0)) ((bF r).getD k (z0,z0))=0):=λi k=>Tn;have v:∀e∈bF r,bI e:=λe F=>jO y F;generalize O:bF r=E at*;have G:(E.map sgV).length=r.length:=by rw[SG];exact l
 have d:∀i,i<r.length->bI (E.getD i (z0,z0)):=λi hi=>v _ (by rw[SN,RY (by omega)];exact Ui _);repeat' ((conv=>whnf);first|omega|refine zS ?_|refine zT ?_ ?_<;>intro _|fail)
 refine lD (A:=Nat) (λi=>mkSt [(0,rgV r),(3,I r.length),(5, .arr 49 0),(6,I i)] [] [(49,⟨0, .own,275,E.map sgV⟩)]) (λi=>i<=r.length/\∀i' k',i'<i->i'<k'->k'<r.length->fM5 r i' k') (λi=>r.length-i) 0 ?_ ⟨Aa,λi' k' hi=>Aa⟩ (λi hi=>?_);exact zj;obtain⟨hi,hap⟩:=hi;by_cases o:i<r.length
 ·repeat' ((conv=>whnf);first|omega|refine zS ?_|refine zT ?_ ?_<;>intro _|fail)
  refine lD (A:=Nat) (λk=>mkSt [(0,rgV r),(3,I r.length),(5, .arr 49 0),(6,I i),(7,I k)] [] [(49,⟨0, .own,275,E.map sgV⟩)]) (λk=>i<k/\k<=r.length/\∀k',i<k'->k'<k->fM5 r i k') (λk=>r.length-k) (i+1) ?_ ⟨Aa,Aa,λk' h1 h2=>Aa⟩ (λk f=>?_);exact zj;obtain⟨q,f,hin⟩:=f;by_cases b:k<r.length
  ·have Q:=fI7 (E.getD i (z0,z0)) (E.getD k (z0,z0)) (d i o) (d k b)
   have x:=w i k;unfold adj at x;generalize dG (E.getD i (z0,z0)) (E.getD k (z0,z0))=m at*
   have H:fM5 r i k->∀k',i<k'->k'<k+1->fM5 r i k':=λh k' h1 h2=>by
    by_cases e:k'=k;subst e;exact h;exact hin k' h1 Aa
   have c:P->fM5 r i k:=λh=>(g.1 h).2.2.2.2.1 i k q b;generalize fM5 r i k=R at*;repeat' ((conv=>whnf);first|omega|refine dS rfl rfl FX ?_|refine dV6 (k:=i) Aa Aa ?_|refine dV6 (k:=k) Aa Aa ?_|refine zS ?_|refine zT ?_ ?_<;>intro _|fail)
   all_goals conv=>whnf
   all_goals first
    |(refine aA (aC (λh=>?_));have N:=x.1 (c h);omega)
    |skip
   all_goals
    refine⟨k+1,?_,⟨Aa,Aa,H (x.2 ⟨λh=>Aa,λh=>Aa⟩)⟩,Aa⟩
    ·exact zj
  exact JU
 have C:i=r.length:=by omega
 subst C;repeat' ((conv=>whnf);first|omega|refine zS ?_|refine zT ?_ ?_<;>intro _|fail)
 all_goals conv=>whnf
 refine aA (aS1 ?_);rw[g];exact⟨λh=>⟨h3,j,y,ht,λi k h1 h2=>hap i k Aa h1 h2,h⟩,λh=>h.2.2.2.2.2⟩
def ptW(v:Vc):V:= .agg [I v.1,I v.2,I 1]
def gJ6{a b v:Vc}(c:Sm4 a)(d:Sm4 b)(hv:Sm4 v):cmpI (W (W ((vsub b a).1*W (v.2-W (a.2*1)))-W ((vsub b a).2*W (v.1-W (a.1*1))))) 0=kR a b v:=by
 rw[zH c d hv,kN (a:=b) (b:=a) (by unfold Sm4 at*;unfold Sm;omega) (by unfold Sm4 at*;unfold Sm;omega)];unfold Sm4 at*;simp only[Int.mul_one];rw[w_in (n:=a.1) Aa,w_in (n:=a.2) Aa,w_in (n:=v.2-a.2) Aa,w_in (n:=v.1-a.1) Aa];have e:=vG (a:=b.1-a.1) (b:=v.2-a.2) ⟨Aa,Aa⟩ ⟨Aa,Aa⟩;have f:=vG (a:=b.2-a.2) (b:=v.1-a.1) ⟨Aa,Aa⟩ ⟨Aa,Aa⟩;rw[w_in (n:=(b.1-a.1)*(v.2-a.2)) Aa,w_in (n:=(b.2-a.2)*(v.1-a.1)) Aa,w_in Aa];rfl
def fO8(a b v:Vc)(e:Sm4 a)(f:Sm4 b)(hv:Sm4 v):Sp 328 [vcV a,vcV b,ptW v] (I (kR a b v)):=by
 refine zsp func328 ?_;have d:=fD b a;have c:=fO5 (W (W ((vsub b a).1*W (v.2-W (a.2*1)))-W ((vsub b a).2*W (v.1-W (a.1*1)))));rw[gJ6 e f hv]at c;generalize vsub b a=u at*;generalize kR a b v=t at*;repeat' ((conv=>whnf);first|refine zc d ?_|refine zc c ?_|refine zg ?_|refine zw ?_|refine zr ?_)
 all_goals exact zE
def gE2(e:Sg)(v:Vc)(g:bI e)(hv:Sm4 v):Sp 327 [sgV e,ptW v] (DB (eX e v)):=by
 refine zsp func327 ?_;obtain⟨b,c⟩:=jP.1 g
 have f:eX e v↔Bb e v/\kR e.1 e.2 v=0:=by
  rw[gZ g];constructor;rintro⟨d,a⟩;refine⟨d,?_⟩;rw[zH b c hv,a];rfl;rintro⟨d,a⟩;refine⟨d,?_⟩;by_cases q:X (dif e.2 e.1) (dif v e.1)=0;exact q;rw[zH b c hv]at a;exact absurd a (tC.2 q)
 unfold Bb at f;have a:=fO8 e.1 e.2 v b c hv;unfold Sm4 at b c hv;generalize eX e v=P at*;generalize kR e.1 e.2 v=t at*;repeat' ((conv=>whnf);first|refine eH4 (by simp only[lH,mG];omega) ?_|refine zc a ?_|refine zS ?_|refine zT ?_ ?_<;>intro _|fail)
 all_goals conv=>whnf
 all_goals refine aA ?_
 all_goals (try simp only[lH,mG,Int.mul_one]at*)
 all_goals first
  |(refine sK ?_;rw[f];exact⟨λh=>⟨⟨Aa,Aa,Aa,Aa⟩,h⟩,λh=>h.2⟩)
  |(refine aC (λh=>?_);have i:=(f.1 h).1;omega)
def fQ0(n:Int)(a: -1000000<=n/\n<=1000000):Sp 333 [I n] (I (n.natAbs:Int)):=by
 refine zsp func333 ?_;repeat' ((conv=>whnf);first|refine zS ?_|refine zT ?_ ?_<;>intro _|fail)
 all_goals conv=>whnf
 all_goals refine aG ?_
 all_goals omega
def fI5(a b:Int):Sp 332 [I a,I b] (I (gcdI a b)):=by
 refine zsp func332 ?_;repeat' ((conv=>whnf);first|refine zS ?_|fail)
 refine aU (A:=Int) (B:=Int) (λx y=>mkSt [(0,I x),(1,I y)] [] []) (λx y=>gcdI x y=gcdI a b) (λx y=>y.natAbs) a b ?_ rfl (λx y hp=>?_);exact zj;have hp:gcdI x y=gcdI a b:=hp;by_cases h0:y=0;subst h0;have e:gcdI x 0=x:=by rw[gcdI];simp
 rw[<-hp,e];exact O1;exact JZ
theorem gG8(g:Int):gcdI g 1=1:=by
 simp_all [Int.tmod_one,gcdI]
def fS2(v:Vc)(hv:Sm4 v):Sp 326 [ptW v] (.lit (.bool true)):=by
 refine zsp func326 ?_;have b:=fQ0 v.1 (by unfold Sm4 at hv;omega);have c:=fQ0 v.2 (by unfold Sm4 at hv;omega);have d:=fI5 (v.1.natAbs:Int) (v.2.natAbs:Int);have a:=fI5 (gcdI (v.1.natAbs:Int) (v.2.natAbs:Int)) 1;rw[gG8]at a;generalize gcdI (v.1.natAbs:Int) (v.2.natAbs:Int)=g at*;unfold Sm4 at hv;repeat' ((conv=>whnf);first|omega|refine zc b ?_|refine zc c ?_|refine zc d ?_|refine zc a ?_|refine zS ?_|refine zT ?_ ?_<;>intro _|fail)
 all_goals conv=>whnf
 exact aK (aA1.2 rfl)
def fQ9(p:Vc):Sp 307 [vcV p] (ptW p):=by
 refine zsp func307 ?_;exact Pj
def fJ9{e:Sg}{v:Vc}(a:bI e)(hv:Sm4 v)(b:¬eX e v):rW (v.1,v.2,1) e↔rayC e v (kR e.1 e.2 v):=by
 grind [jP,dD7,zH,rayC,cmpI]
def gA7{r:Rg}{v:Vc}(h:¬dM r):fJ r v=0:=by
 grind [eA4,fJ]
def fZ2{r:Rg}{v:Vc}(h:dM r)(hv:Sm4 v):fJ r v=lU (v.1,v.2,1) (bF r) false:=by
 grind [aC1,pY,aD9,bC7]
def fR7(r:Rg)(v:Vc)(n:r.length<=1000000)(hv:Sm4 v):Sp 306 [rgV r,ptW v] (I (fJ r v)):=by
 refine zsp func306 ?_;have g:=fE9 r n;have w:=fS2 v hv;have y:=fE7 r n;by_cases d:dM r;rotate_left
 ·rw[gA7 d]
  repeat' ((conv=>whnf);first|(exfalso;contradiction)|refine zc g ?_|refine zS ?_|refine zT ?_ ?_<;>intro _|fail)
  all_goals exact zE
 have L:=d.1;have z:=d.2.1;have i:=fZ2 d hv;have f:∀e∈bF r,bI e:=λe F=>jO d.2.2.1 F;have G:=dT0 (r:=r) Aa;generalize fJ r v=A at*;generalize bF r=E at*;have H:(E.map sgV).length=E.length:=by rw[SG]
 repeat' ((conv=>whnf);first|(exfalso;contradiction)|refine zc g ?_|refine zc w ?_|refine zc y ?_|refine zS ?_|refine zT ?_ ?_<;>intro _|fail)
 refine oU (A:=List Sg) (B:=List Sg) (C:=Bool) (λD R ins=>mkSt [(3, .box 3 0),(5, .sl (E.map sgV)),(6,B ins),(7,I D.length)] [(3,[I v.1,I v.2,I 1])] []) (λD R ins=>E=D++R/\A=lU (v.1,v.2,1) R ins) (λD R ins=>R.length) [] E false ?_ ⟨rfl,i⟩ (λD R ins hp=>?_);refine Le.trans (fB (k:=21) rfl (.inl rfl)) ?_;exact zj;clear i;obtain⟨hp,hA⟩:=hp;cases R with
 |nil=>
  have c:E.length=D.length:=Ae;rw[qB]at hA;exact PI
 |cons e R=>
  have c:=aO hp;have heo:=f e Ae;obtain⟨j,m⟩:=jP.1 heo;have J:=gE2 e v heo hv;have K:=fO8 e.1 e.2 v j m hv;have o:=λq=>oP (p:=(v.1,v.2,1)) (e:=e) (es:=R) (b:=ins) ((cC3 hv heo).2 q);have s:¬eX e v->rayC e v (kR e.1 e.2 v)->A=lU (v.1,v.2,1) R (!ins):=λq1 q2=>N7;have u:¬eX e v->¬rayC e v (kR e.1 e.2 v)->A=lU (v.1,v.2,1) R ins:=λq1 q2=>Nb;unfold rayC at s u;rw[<-hA]at o;generalize eX e v=P at*;generalize kR e.1 e.2 v=t at*;unfold Sm4 at j m hv;repeat' ((conv=>whnf);first|omega|refine cC0 [(5,999),(7,999),(34,999),(35,999),(36,999),(37,999),(39,999),(40,999),(41,999),(42,999),(8,8),(9,9)] Ad Ac ?_|refine aB (l:=E) Aa ?_|refine aF (l:=E) (A:=D) (x:=e) (B:=R) hp Aa ?_|refine zc J ?_|refine zc K ?_|refine zS ?_|refine zT ?_ ?_<;>intro _|fail)
  all_goals conv=>whnf
  all_goals first
   |exact aG (o Ag).symm
   |skip
  all_goals first
   |(have a:=s Ag Aa)
   |(have a:=u Ag Aa)
  all_goals first
   |refine⟨(D++[e],R, !ins),?_,⟨Ae,a⟩,Af⟩
   |refine⟨(D++[e],R,ins),?_,⟨Ae,a⟩,Af⟩
  all_goals simp only[Q5,SA]
  all_goals (refine dV ?_ ?_ ?_ ?_)
  all_goals repeat' (first|exact trivial|refine And.intro ?_ ?_|with_reducible rfl|exact(λh=>Ah)|exact Sr _|omega|exact rfl)
def fN0(r:Rg)(v:Vc)(d:r.length<=1000000)(hv:Sm4 v):Sp 261 [rgV r,vcV v] (I (fJ r v)):=by
 refine zsp func261 ?_;have a:=fP v 8000;have b:=fQ9 v;have c:=fR7 r v d hv
 have e:within v 8000:=by
  rw[within_iff Aa];unfold Sm4 at hv;omega
 generalize fJ r v=A at*;repeat' ((conv=>whnf);first|(exfalso;contradiction)|refine zc a ?_|refine zc b ?_|refine zc c ?_|refine zS ?_|refine zT ?_ ?_<;>intro _|fail)
 all_goals exact zE
end Go.Proofs.Led
