/- Lemmas. -/
import Derived.Test.YtecbpikbjfihmaaGreatDoorB8
set_option linter.all false
set_option autoImplicit true
set_option relaxedAutoImplicit true
set_option maxRecDepth 100000
set_option maxHeartbeats 8000000
noncomputable section
namespace Go.Proofs.Led
open Go Go.Proofs Go.Ab Tryz
def ptW(v:Vc):V:= .agg [I v.1,I v.2,I 1]
def gJ6(c:Sm4 a)(d:Sm4 b)(hv:Sm4 v):cmpI (W (W ((vsub b a).1*W (v.2-W (a.2*1)))-W ((vsub b a).2*W (v.1-W (a.1*1))))) 0=kR a b v:=by
 rw[zH c d hv,kN (a:=b) (b:=a) (by unfold Sm4 at*;unfold Sm;omega) (by unfold Sm4 at*;unfold Sm;omega)];unfold Sm4 at*;simp[Int.mul_one];rw[w_in (n:=a.1) Aa,w_in (n:=a.2) Aa,w_in (n:=v.2-a.2) Aa,w_in (n:=v.1-a.1) Aa];have e:=vG (a:=b.1-a.1) (b:=v.2-a.2) ⟨Aa,Aa⟩ ⟨Aa,Aa⟩;have f:=vG (a:=b.2-a.2) (b:=v.1-a.1) ⟨Aa,Aa⟩ ⟨Aa,Aa⟩;rw[w_in (n:=(b.1-a.1)*(v.2-a.2)) Aa,w_in (n:=(b.2-a.2)*(v.1-a.1)) Aa,w_in Aa];rfl
def fO8 a b v(e:Sm4 a)(f:Sm4 b)(hv:Sm4 v):Sp 273 [vcV a,vcV b,ptW v] (I (kR a b v)):=by
 refine zsp func273 ?_;have d:=fD b a;have c:=fO5 (W (W ((vsub b a).1*W (v.2-W (a.2*1)))-W ((vsub b a).2*W (v.1-W (a.1*1)))));rw[gJ6 e f hv]at c;generalize vsub b a=u at*;generalize kR a b v=t at*;repeat' ((conv=>whnf);first|refine zc d ?_|refine zc c ?_|refine zg ?_|refine zw ?_|refine zr ?_)
 all_goals exact zE
def gE2 e v(g:bI e)(hv:Sm4 v):Sp 272 [sgV e,ptW v] (DB (eX e v)):=by
 refine zsp func272 ?_;let⟨b,c⟩:=jP.1 g
 have f:eX e v↔Bb e v/\kR e.1 e.2 v=0:=by
  rw[gZ g];constructor;rintro⟨d,a⟩;refine⟨d,?_⟩;rw[zH b c hv,a];rfl;rintro⟨d,a⟩;refine⟨d,?_⟩;by_cases q:X (dif e.2 e.1) (dif v e.1)=0;exact q;rw[zH b c hv]at a;exact absurd a (tC.2 q)
 unfold Bb at f;have a:=fO8 e.1 e.2 v b c hv;unfold Sm4 at b c hv;generalize eX e v=P at*;generalize kR e.1 e.2 v=t at*;repeat' ((conv=>whnf);first|refine eH4 (by simp[lH,mG];omega) ?_|refine zc a ?_|refine zS ?_|refine zT ?_ ?_<;>intro _|fail)
 all_goals conv=>whnf
 all_goals refine aA ?_
 all_goals (try simp only[lH,mG,Int.mul_one]at*)
 all_goals first
  |(refine sK ?_;rw[f];exact⟨λh=>⟨⟨Aa,Aa,Aa,Aa⟩,h⟩,λh=>h.2⟩)
  |(refine aC (λh=>?_);have i:=(f.1 h).1;omega)
def fQ0 n(a: -1000000<=n/\n<=1000000):Sp 301 [I n] (I (n.natAbs:Int)):=by
 refine zsp func301 ?_;repeat' ((conv=>whnf);first|refine zS ?_|refine zT ?_ ?_<;>intro _|fail)
 all_goals conv=>whnf
 all_goals refine aG ?_
 all_goals omega
def fI5 a b:Sp 300 [I a,I b] (I (gcdI a b)):=by
 refine zsp func300 ?_;repeat' ((conv=>whnf);first|refine zS ?_|fail)
 refine aU (A:=Int) (B:=Int) (λx y=>mkSt [(0,I x),(1,I y)] [] []) (λx y=>gcdI x y=gcdI a b) (λx y=>y.natAbs) a b ?_ rfl (λx y hp=>?_);exact zj;have hp:=hp;by_cases h0:y=0;subst h0;have e:gcdI x 0=x:=by rw[gcdI];simp
 rw[<-hp,e];exact NV;exact J9
theorem gG8 g:gcdI g 1=1:=by
 simp_all [Int.tmod_one,gcdI]
def fS2 v(hv:Sm4 v):Sp 271 [ptW v] (.lit (.bool true)):=by
 refine zsp func271 ?_;have b:=fQ0 v.1 (by unfold Sm4 at hv;omega);have c:=fQ0 v.2 (by unfold Sm4 at hv;omega);have d:=fI5 (v.1.natAbs:Int) (v.2.natAbs:Int);have a:=fI5 (gcdI (v.1.natAbs:Int) (v.2.natAbs:Int)) 1;rw[gG8]at a;generalize gcdI (v.1.natAbs:Int) (v.2.natAbs:Int)=g at*;unfold Sm4 at hv;repeat' ((conv=>whnf);first|omega|refine zc b ?_|refine zc c ?_|refine zc d ?_|refine zc a ?_|refine zS ?_|refine zT ?_ ?_<;>intro _|fail)
 all_goals conv=>whnf
 exact aK (aA1.2 rfl)
def fQ9 p:Sp 229 [vcV p] (ptW p):=by
 refine zsp func229 ?_;exact O6
def fJ9(a:bI e)(hv:Sm4 v)(b:¬eX e v):rW (v.1,v.2,1) e↔rayC e v (kR e.1 e.2 v):=by
 grind [jP,dD7,zH,rayC,cmpI]
def gA7(h:¬dM r):fJ r v=0:=by
 grind [eA4,fJ]
def fZ2(h:dM r)(hv:Sm4 v):fJ r v=lU (v.1,v.2,1) (bF r) false:=by
 grind [aC1,pY,aD9,bC7]
def fR7 r v(n:r.length<=1000000)(hv:Sm4 v):Sp 228 [rgV r,ptW v] (I (fJ r v)):=by
 refine zsp func228 ?_;have g:=fE9 r n;have w:=fS2 v hv;have y:=fE7 r n;by_cases d:dM r;rotate_left
 ·rw[gA7 d]
  repeat' ((conv=>whnf);first|(exfalso;contradiction)|refine zc g ?_|refine zS ?_|refine zT ?_ ?_<;>intro _|fail)
  all_goals exact zE
 have L:=d.1;have z:=d.2.1;have i:=fZ2 d hv;have f:∀e∈bF r,bI e:=λe F=>jO d.2.2.1 F;have G:=dT0 (r:=r) Aa;generalize fJ r v=A at*;generalize bF r=E at*;have H:(E.map sgV).length=E.length:=by rw[Rw]
 repeat' ((conv=>whnf);first|(exfalso;contradiction)|refine zc g ?_|refine zc w ?_|refine zc y ?_|refine zS ?_|refine zT ?_ ?_<;>intro _|fail)
 refine oU (A:=List Sg) (B:=List Sg) (C:=Bool) (λD R ins=>mkSt [(3, .box 3 0),(5, .sl (E.map sgV)),(6,B ins),(7,I D.length)] [(3,[I v.1,I v.2,I 1])] []) (λD R ins=>E=D++R/\A=lU (v.1,v.2,1) R ins) (λD R ins=>R.length) [] E false ?_ ⟨rfl,i⟩ (λD R ins hp=>?_);refine Le.trans (fB (k:=21) rfl (.inl rfl)) ?_;exact zj;clear i;obtain⟨hp,hA⟩:=hp;cases R with
 |nil=>
  have c:E.length=D.length:=Ae;rw[qB]at hA;exact OM
 |cons e R=>
  have c:=aO hp;have heo:=f e Ae;obtain⟨j,m⟩:=jP.1 heo;have J:=gE2 e v heo hv;have K:=fO8 e.1 e.2 v j m hv;have o:=λq=>oP (p:=(v.1,v.2,1)) (e:=e) (es:=R) (b:=ins) ((cC3 hv heo).2 q);have s:¬eX e v->rayC e v (kR e.1 e.2 v)->A=lU (v.1,v.2,1) R (!ins):=λq1 q2=>MP;have u:¬eX e v->¬rayC e v (kR e.1 e.2 v)->A=lU (v.1,v.2,1) R ins:=λq1 q2=>LZ;unfold rayC at s u;rw[<-hA]at o;generalize eX e v=P at*;generalize kR e.1 e.2 v=t at*;unfold Sm4 at j m hv;repeat' ((conv=>whnf);first|omega|refine cC0 [(5,999),(7,999),(34,999),(35,999),(36,999),(37,999),(39,999),(40,999),(41,999),(42,999),(8,8),(9,9)] Af Ac ?_|refine aB (l:=E) Aa ?_|refine aF (l:=E) (A:=D) (x:=e) (B:=R) hp Aa ?_|refine zc J ?_|refine zc K ?_|refine zS ?_|refine zT ?_ ?_<;>intro _|fail)
  all_goals conv=>whnf
  all_goals first
   |exact aG (o Ag).symm
   |skip
  all_goals first
   |(have a:=s Ag Aa)
   |(have a:=u Ag Aa)
  all_goals first
   |refine⟨(D++[e],R, !ins),?_,⟨Ae,a⟩,Ad⟩
   |refine⟨(D++[e],R,ins),?_,⟨Ae,a⟩,Ad⟩
  all_goals simp only[QY,Rj]
  all_goals (refine dV ?_ ?_ ?_ ?_)
  all_goals repeat' (first|exact trivial|refine And.intro ?_ ?_|with_reducible rfl|exact(λh=>Ah)|exact Rf _|omega|exact rfl)
def fN0 r v(d:r.length<=1000000)(hv:Sm4 v):Sp 181 [rgV r,vcV v] (I (fJ r v)):=by
 refine zsp func181 ?_;have a:=fP v 8000;have b:=fQ9 v;have c:=fR7 r v d hv
 have e:within v 8000:=by
  rw[within_iff Aa];unfold Sm4 at hv;omega
 generalize fJ r v=A at*;repeat' ((conv=>whnf);first|(exfalso;contradiction)|refine zc a ?_|refine zc b ?_|refine zc c ?_|refine zS ?_|refine zT ?_ ?_<;>intro _|fail)
 all_goals exact zE
def fM3(l:List Rg):∀y∈l.map rgV,y.cells.length=1:=λy hy=>AZ
def fE1 s(a:gV s):Sp 215 [shV s] (.own 46 ((rings s).map rgV)):=by
 refine zsp func215 ?_;have b:=a.2.1;repeat' ((conv=>whnf);first|refine iH rfl (.inl rfl) rfl (QV rfl) (fM3 s.holes) (by show 1+(s.holes.map rgV).length<=1000000000;rw[Rw];omega) ?_|refine zS ?_|refine zm (λx c=>?_)|refine zT ?_ ?_<;>intro _|fail)
 all_goals conv=>whnf
 exact Ph
def fT1(b:bR7 r):∀e∈bF r,bI e:=λe a=>jO b a
def fF2 a b(w:a.length<=1000000)(C:b.length<=1000000)(o:bR7 a)(r:bR7 b):Sp 126 [rgV a,rgV b] (DB (¬uV a b)):=by
 refine zsp func126 ?_;have j:=fE7 a w;have n:=fE7 b C;have H:=fT1 o;have J:=fT1 r;have L:(bF a).length<=1000000:=F8;have M:(bF b).length<=1000000:=F8
 have s:(¬uV a b)↔∃x∈bF a,∃y∈bF b,dG x y≠0:=by
  unfold uV;constructor;intro h;by_cases q:∃x∈bF a,∃y∈bF b,dG x y≠0;exact q;exfalso;apply h;intro x c y i;by_cases t:dG x y=0;exact t;exact absurd ⟨x,c,y,i,t⟩ q;rintro⟨x,c,y,i,q⟩ h;exact q (h x c y i)
 generalize (¬uV a b)=P at*;generalize bF a=A at*;generalize bF b=B at*;have u:(A.map sgV).length=A.length:=Ad;have v:(B.map sgV).length=B.length:=Ad;repeat' ((conv=>whnf);first|omega|refine zc j ?_|refine zc n ?_|refine zS ?_|refine zm (λx c=>?_)|refine zT ?_ ?_<;>intro _|fail)
 refine aU (A:=List Sg) (B:=List Sg) (λD R=>mkSt [(5, .sl (A.map sgV)),(6, .sl (B.map sgV)),(7,I D.length)] [] []) (λD R=>A=D++R/\∀x∈D,∀y∈B,dG x y=0) (λD R=>R.length) [] A ?_ ⟨rfl,Ad⟩ (λD R hp=>?_);exact Lu;let⟨hp,hD⟩:=hp;cases R with
 |nil=>
  have g:A.length=D.length:=Ae;repeat' ((conv=>whnf);first|omega|refine zS ?_|refine zm (λx c=>?_)|refine zT ?_ ?_<;>intro _|fail)
  all_goals conv=>whnf
  refine aA (aC ?_);rw[s,hp,Rq];rintro⟨x,c,y,i,F⟩;exact F (hD x c y i)
 |cons x R=>
  have g:=aO hp;have K:=H x Ae;repeat' ((conv=>whnf);first|omega|refine zS ?_|refine zm (λx c=>?_)|refine zT ?_ ?_<;>intro _|fail)
  refine aU (A:=List Sg) (B:=List Sg) (λE S=>mkSt [(5, .sl (A.map sgV)),(6, .sl (B.map sgV)),(7,I D.length),(8,I E.length)] [] []) (λE S=>B=E++S/\∀y∈E,dG x y=0) (λE S=>S.length) [] B ?_ ⟨rfl,Ad⟩ (λE S hq=>?_);exact zj;let⟨hq,hE⟩:=hq;cases S with
  |nil=>
   have e:B.length=E.length:=Au;have hBE:B=E:=Au;repeat' ((conv=>whnf);first|omega|refine zS ?_|refine zm (λx c=>?_)|refine zT ?_ ?_<;>intro _|fail)
   all_goals conv=>whnf
   refine⟨(D++[x],R),?_,⟨Ae,λz hz=>?_⟩,Ad⟩;exact IW;exact Jy
  |cons y S=>
   have e:=aO hq;have G:=fI7 x y K (J y Au);have f:=λh=>s.2 ⟨x,Ae,y,Au,h⟩;have d:dG x y=0->∀z∈E++[y],dG x z=0:=λh z hz=>L9;generalize dG x y=m at*;repeat' ((conv=>whnf);first|omega|refine aB (l:=A) Aa ?_|refine aB (l:=B) Aa ?_|refine aF (l:=A) (A:=D) (x:=x) (B:=R) hp Aa ?_|refine aF (l:=B) (A:=E) (x:=y) (B:=S) hq Aa ?_|refine zc G ?_|refine zS ?_|refine zm (λx c=>?_)|refine zT ?_ ?_<;>intro _|fail)
   all_goals conv=>whnf
   all_goals first
    |exact aA (fE (f Ag))
    |skip
   refine⟨(E++[y],S),?_,⟨Au,d Ag⟩,Ad⟩;exact Nh
def fE4(a b:Rg):Prop:=∃v∈a,fJ b v=2
def dbT(h:p):DB p= .lit (.bool true):=RI (λb=>V.lit (.bool b)) (dH.2 h)
def dbF(h:¬p):DB p= .lit (.bool false):=RI (λb=>V.lit (.bool b)) (dW.2 h)
def gJ8{A B}(c:a=b->A)(d:a≠b->B):branch (!eqBB (eqB a b) true) B A:=by
 grind [cA1,jU,aA1]
def gJ5{A B}(c:a=b->A)(d:a≠b->B):branch (!eqBB (eqB a b) false) A B:=by
 grind [cA1,jU,aA1]
def fI2 a b(s:a.length<=1000000)(o:b.length<=1000000)(k:bR7 a):Sp 127 [rgV a,rgV b, .lit (.bool true)] (DB (pR a b 2)):=by
 refine zsp func127 ?_;have r:(a.map vcV).length=a.length:=Ad;have m:pR a b 2↔∀v∈a,fJ b v=2:=RU;generalize pR a b 2=P at*;repeat' ((conv=>whnf);first|refine zS ?_|refine zd (λg=>?_) (λg=>?_)|refine zl (λe=>?_) (λe=>?_)|refine zk (λd=>?_) (λd=>?_)|refine ze (λheq=>?_) (λheq=>?_)|refine zm (λx j=>?_)|refine zb (λc=>?_) (λc=>?_))
 refine aU (A:=List Vc) (B:=List Vc) (λD R=>mkSt [(0,rgV a),(1,rgV b),(2, .lit (.bool true)),(7,I D.length)] [] []) (λD R=>a=D++R/\∀v∈D,fJ b v=2) (λD R=>R.length) [] a ?_ ⟨rfl,Ad⟩ (λD R hp=>?_);exact zj;let⟨hp,hD⟩:=hp;cases R with
 |nil=>
  have i:a.length=D.length:=Ae;repeat' ((conv=>whnf);first|omega|refine zS ?_|refine zd (λg=>?_) (λg=>?_)|refine zl (λe=>?_) (λe=>?_)|refine zk (λd=>?_) (λd=>?_)|refine ze (λheq=>?_) (λheq=>?_)|refine zm (λx j=>?_)|refine zb (λc=>?_) (λc=>?_))
  all_goals conv=>whnf
  exact aA (fE (m.2 λv hv=>Gf))
 |cons x R=>
  have i:=aO hp;have j:x∈a:=Ae;have n:=fN0 b x o (vN k j);have f:fJ b x≠2->¬P:=λh q=>h (m.1 q x j);have hgood:fJ b x=2->∀v∈D++[x],fJ b v=2:=λh v hv=>Kt;generalize fJ b x=w at*;repeat' ((conv=>whnf);first|omega|refine aB (l:=a) Aa ?_|refine aF (l:=a) (A:=D) (x:=x) (B:=R) hp Aa ?_|refine gJ8 (λheq=>?_) (λheq=>?_)|refine zc n ?_|refine zS ?_|refine zd (λg=>?_) (λg=>?_)|refine zl (λe=>?_) (λe=>?_)|refine zk (λd=>?_) (λd=>?_)|refine ze (λheq=>?_) (λheq=>?_)|refine zm (λx j=>?_)|refine zb (λc=>?_) (λc=>?_))
  all_goals conv=>whnf
  exact JP;exact aA (aC (f heq))
def fE2 a b(r:a.length<=1000000)(n:b.length<=1000000)(k:bR7 a):Sp 127 [rgV a,rgV b, .lit (.bool false)] (DB (fE4 a b)):=by
 refine zsp func127 ?_;have o:(a.map vcV).length=a.length:=Ad;have hr:fE4 a b↔∃v∈a,fJ b v=2:=RU;generalize fE4 a b=P at*;repeat' ((conv=>whnf);first|refine zS ?_|refine zd (λg=>?_) (λg=>?_)|refine zl (λe=>?_) (λe=>?_)|refine zk (λd=>?_) (λd=>?_)|refine ze (λheq=>?_) (λheq=>?_)|refine zm (λx j=>?_)|refine zb (λc=>?_) (λc=>?_))
 refine aU (A:=List Vc) (B:=List Vc) (λD R=>mkSt [(0,rgV a),(1,rgV b),(2, .lit (.bool false)),(7,I D.length)] [] []) (λD R=>a=D++R/\∀v∈D,fJ b v≠2) (λD R=>R.length) [] a ?_ ⟨rfl,Ad⟩ (λD R hp=>?_);exact zj;let⟨hp,hD⟩:=hp;cases R with
 |nil=>
  have i:a.length=D.length:=Ae;repeat' ((conv=>whnf);first|omega|refine zS ?_|refine zd (λg=>?_) (λg=>?_)|refine zl (λe=>?_) (λe=>?_)|refine zk (λd=>?_) (λd=>?_)|refine ze (λheq=>?_) (λheq=>?_)|refine zm (λx j=>?_)|refine zb (λc=>?_) (λc=>?_))
  all_goals conv=>whnf
  exact aA (aC (λh=>Du))
 |cons x R=>
  have i:=aO hp;have j:x∈a:=Ae;have m:=fN0 b x n (vN k j);have f:=λh=>hr.2 ⟨x,j,h⟩;have hgood:fJ b x≠2->∀v∈D++[x],fJ b v≠2:=λh v hv=>Kt;generalize fJ b x=w at*;repeat' ((conv=>whnf);first|omega|refine aB (l:=a) Aa ?_|refine aF (l:=a) (A:=D) (x:=x) (B:=R) hp Aa ?_|refine gJ5 (λheq=>?_) (λheq=>?_)|refine zc m ?_|refine zS ?_|refine zd (λg=>?_) (λg=>?_)|refine zl (λe=>?_) (λe=>?_)|refine zk (λd=>?_) (λd=>?_)|refine ze (λheq=>?_) (λheq=>?_)|refine zm (λx j=>?_)|refine zb (λc=>?_) (λc=>?_))
  all_goals conv=>whnf
  exact aA (fE (f heq));exact JP
def xG(h k:Rg):Prop:=uV h k/\¬fE4 h k/\¬fE4 k h
def fK3(o:Rg)(pre:List Rg)(h:Rg):Prop:=dM h/\uV h o/\pR h o 2/\∀k∈pre,xG h k
def fF4(o:Rg):List Rg->List Rg->Prop
 |_,[] =>True
 |pre,h::l=>fK3 o pre h/\fF4 o (pre++[h]) l
def fM6(h:Apart a b):¬fE4 a b↔pR a b 0:=by
 unfold fE4 pR;constructor;intro q v hv;rcases cJ3 (r:=b) (v:=v)with k|k|k;exact k;exact absurd ((nZ h.ob (vN h.oa.2.2.1 hv)).1 k) (h.off (vert_onR h.oa hv));exact absurd ⟨v,hv,k⟩ q;rintro q ⟨v,hv,k⟩;have:=q v hv;omega
def gA1(l:dM o)(a:∀k∈pre,dM k):fK3 o pre h↔dM h/\cU0 o pre h:=by
 unfold fK3 cU0 xG;constructor;rintro⟨b,e,f,g⟩;refine⟨b,f,e,λk c=>?_⟩;let⟨d,i,j⟩:=g k c;have ap:Apart h k:=⟨b,a k c,d⟩;exact⟨d,(fM6 ap).1 i,(fM6 ap.symm).1 j⟩;rintro⟨b,f,e,g⟩;refine⟨b,e,f,λk c=>?_⟩;let⟨d,i,j⟩:=g k c;have ap:Apart h k:=⟨b,a k c,d⟩;exact⟨d,(fM6 ap).2 i,(fM6 ap.symm).2 j⟩
theorem fF7{o:Rg}(e:dM o):∀ {l pre:List Rg},(∀k∈pre,dM k)->(fF4 o pre l↔(∀k∈l,dM k)/\qR o pre l)
 | [],pre,_=>⟨λ_=>⟨(λk hk=>by cases hk),trivial⟩,λ_=>trivial⟩
 |h::l,pre,a=>by
  have f:=gA1 (h:=h) e a;show fK3 o pre h/\fF4 o (pre++[h]) l↔_/\(cU0 o pre h/\qR o (pre++[h]) l);constructor;rintro⟨c,d⟩;obtain⟨b,i⟩:=f.1 c
  obtain⟨j,m⟩:=(fF7 e (pre:=pre++[h]) (λk hk=>by
   rcases Rh.1 hk with hk|hk;exact a k hk
   rw[Ri.1 hk];exact b)).1 d
  refine⟨λk hk=>?_,i,m⟩;rcases Rl.1 hk with rfl|hk;exact b;exact j k hk;rintro⟨c,d,g⟩;have b:=c h Ad;refine⟨f.2 ⟨b,d⟩,(fF7 e (pre:=pre++[h]) (λk hk=>?_)).2 ⟨λk hk=>c k I9,g⟩⟩;rcases Rh.1 hk with hk|hk;exact a k hk;rw[Ri.1 hk];exact b
def fM1:bG s↔s.holes.length<=6/\dM s.outer/\fF4 s.outer [] s.holes/\corners (rings s)<=80:=by
 grind [fF7,bG,rings]
theorem fO1 a b:corners (a++b)=corners a+corners b:=GI
theorem fH9 r l:corners (r::l)=r.length+corners l:=GI
def fN4:∀ {l},(∀r∈l,dM r)->corners l<=40*l.length
 | [],_=>GI
 |r::l,h=>by
  have a:=(h r Ad).2.1;have b:=fN4 (l:=l) (λx hx=>h x BI);rw[fH9,Ro];omega
def fK6 r(b:r.length<=9223372036854775807):Sp 125 [rgV r] (DB (dM r)):=by
 by_cases h:r.length<=1000000;exact fE9 r h;have e:DB (dM r)= .lit (.bool false):=dbF (λq=>by have:=q.2.1;omega);rw[e];refine zsp func125 ?_;have a:(r.map vcV).length=r.length:=Ad;exact Nj
def fQ3 s(hs:Fits s):Sp 85 [shV s] (DB (bG s)):=by
 refine zsp func85 ?_;have r:=fM1 (s:=s);have af:(s.holes.map rgV).length=s.holes.length:=Ad;have N:=fK6 s.outer hs.1;have ae:=hs.2.1;have G:corners (rings s)=s.outer.length+corners s.holes:=fH9 _ _;rw[G]at r;clear G;generalize bG s=P at*;by_cases C:dM s.outer;rotate_left
 ·rw[dbF C]at N
  repeat' ((conv=>whnf);first|omega|refine zc N ?_|refine zS ?_|refine zm (λx t=>?_)|refine zT ?_ ?_<;>intro _|fail)
  all_goals conv=>whnf
  all_goals first
   |exact aA (aC (λh=>C (r.1 h).2.1))
 rw[dbT C]at N;repeat' ((conv=>whnf);first|omega|refine zc N ?_|refine zS ?_|refine zm (λx t=>?_)|refine zT ?_ ?_<;>intro _|fail)
 all_goals conv=>whnf
 all_goals first
  |exact aA (aC (λh=>by have:=(r.1 h).1;omega))
  |skip
 have ab:=C.2.1;have L:s.outer.length<=1000000:=Aa;have h6:s.holes.length<=6:=Aa;refine aU (A:=List Rg) (B:=List Rg) (λD R=>mkSt [(1, .box 1 0),(3,I ((s.outer.length+corners D:Nat):Int)),(4,I D.length)] [(1,(shV s).cells)] []) (λD R=>s.holes=D++R/\(∀k∈D,dM k)/\(P↔fF4 s.outer D R/\s.outer.length+corners s.holes<=80)) (λD R=>R.length) [] s.holes ?_ ⟨rfl,Ad,⟨λh=>(r.1 h).2.2,λh=>r.2 ⟨h6,C,h⟩⟩⟩ (λD R hp=>?_)
 ·refine dV ?_ ?_ ?_ ?_
  all_goals repeat' (first|exact trivial|refine And.intro ?_ ?_|with_reducible rfl|exact(λh=>Ah)|exact Rf _|omega|exact rfl)
  all_goals (rw[Rw];rfl)
 clear r;let⟨hp,Q,r⟩:=hp;have ad:=fN4 Q;cases R with
 |nil=>
  have K:s.holes.length=D.length:=Ae;have e:s.holes=D:=Ae;have Z:P↔s.outer.length+corners D<=80:=by rw[r,e];exact⟨λh=>h.2,λh=>⟨trivial,h⟩⟩
  repeat' ((conv=>whnf);first|omega|refine zS ?_|refine zm (λx t=>?_)|refine zT ?_ ?_<;>intro _|fail)
  all_goals conv=>whnf
  exact aA (le_dec (by rw[Z];omega))
 |cons h R=>
  have K:=aO hp;have X:h∈s.holes:=Ae;have W:=hs.2.2 h X;have aa:(h.map vcV).length=h.length:=Ad;have V:corners (D++[h])=corners D+h.length:=by rw[fO1];unfold corners;simp
  have y:=fK6 h W;have b:=r;by_cases a:dM h;rotate_left
  ·rw[dbF a]at y
   repeat' ((conv=>whnf);first|omega|refine aB (l:=s.holes) Aa ?_|refine aF (l:=s.holes) (A:=D) (x:=h) (B:=R) hp Aa ?_|refine zc y ?_|refine zS ?_|refine zm (λx t=>?_)|refine zT ?_ ?_<;>intro _|fail)
   all_goals conv=>whnf
   all_goals exact aA (aC (λq=>a (b.1 q).1.1.1))
  rw[dbT a]at y;have ac:=a.2.1;have f:h.length<=1000000:=Aa;have F:=fF2 h s.outer f L a.2.2.1 C.2.2.1;have O:=fI2 h s.outer f L a.2.2.1;by_cases i:uV h s.outer;rotate_left
  ·rw[dbT i]at F
   repeat' ((conv=>whnf);first|omega|refine aB (l:=s.holes) Aa ?_|refine aF (l:=s.holes) (A:=D) (x:=h) (B:=R) hp Aa ?_|refine zc y ?_|refine zc F ?_|refine zS ?_|refine zm (λx t=>?_)|refine zT ?_ ?_<;>intro _|fail)
   all_goals conv=>whnf
   all_goals exact aA (aC (λq=>i (b.1 q).1.1.2.1))
  rw[dbF (λq=>q i)]at F;by_cases j:pR h s.outer 2;rotate_left
  ·rw[dbF j]at O
   repeat' ((conv=>whnf);first|omega|refine aB (l:=s.holes) Aa ?_|refine aF (l:=s.holes) (A:=D) (x:=h) (B:=R) hp Aa ?_|refine zc y ?_|refine zc F ?_|refine zc O ?_|refine zS ?_|refine zm (λx t=>?_)|refine zT ?_ ?_<;>intro _|fail)
   all_goals conv=>whnf
   all_goals exact aA (aC (λq=>j (b.1 q).1.1.2.2.1))
  rw[dbT j]at O;repeat' ((conv=>whnf);first|omega|refine aB (l:=s.holes) Aa ?_|refine aF (l:=s.holes) (A:=D) (x:=h) (B:=R) hp Aa ?_|refine zc y ?_|refine zc F ?_|refine zc O ?_|refine zS ?_|refine zm (λx t=>?_)|refine zT ?_ ?_<;>intro _|fail)
  refine aU (A:=List Rg) (B:=List Rg) (λE S=>mkSt [(1, .box 1 0),(3,I ((s.outer.length+corners (D++[h]):Nat):Int)),(4,I D.length),(5,rgV h),(6,I E.length)] [(1,(shV s).cells)] []) (λE S=>D=E++S/\∀k∈E,xG h k) (λE S=>S.length) [] D ?_ ⟨rfl,Ad⟩ (λE S hq=>?_);have e:((s.outer.length+corners (D++[h]):Nat):Int)=((s.outer.length+corners D:Nat):Int)+((h.map vcV).length:Int):=by rw[V,Rw];omega
  rw[e];exact zj;let⟨hq,hE⟩:=hq;cases S with
  |nil=>
   have w:D.length=E.length:=Au;have T:D=E:=Au;have m:∀k∈D,xG h k:=by rw[T];exact hE
   clear hq;repeat' ((conv=>whnf);first|omega|refine zS ?_|refine zm (λx t=>?_)|refine zT ?_ ?_<;>intro _|fail)
   all_goals conv=>whnf
   refine⟨(D++[h],R),?_,⟨Ae,λk H=>?_,⟨λq=>⟨(b.1 q).1.2,(b.1 q).2⟩,λq=>b.2 ⟨⟨⟨a,i,j,m⟩,q.1⟩,q.2⟩⟩⟩,Ad⟩;exact IW;rcases Rh.1 H with H|H;exact Q k H;rw[Ri.1 H];exact a
  |cons k S=>
   have w:=aO hq;have J:k∈D:=Au;have g:=Q k J;have v:k.length<=1000000:=by have:=g.2.1;omega
   have Y:s.holes=E++k::(S++h::R):=Ik;have q1:=fF2 h k f v a.2.2.1 g.2.2.1;have q2:=fE2 h k f v a.2.2.1;have q3:=fE2 k h v f g.2.2.1;have o:xG h k↔uV h k/\¬fE4 h k/\¬fE4 k h:=RU;have d:¬xG h k->¬P:=λn q=>n ((b.1 q).1.1.2.2.2 k J)
   have u:xG h k->∀z∈E++[k],xG h z:=λn z M=>by
    rcases Rh.1 M with M|M;exact hE z M;rw[Ri.1 M];exact n
   generalize xG h k=pr at*;generalize uV h k=c1 at*;generalize fE4 h k=c2 at*;generalize fE4 k h=c3 at*;repeat' ((conv=>whnf);first|omega|refine aB (l:=s.holes) Aa ?_|refine aF (l:=s.holes) (A:=E) (x:=k) (B:=S++h::R) Y Aa ?_|refine zc q1 ?_|refine zc q2 ?_|refine zc q3 ?_|refine zS ?_|refine zm (λx t=>?_)|refine zT ?_ ?_<;>intro _|fail)
   all_goals conv=>whnf
   all_goals first
    |exact aA (aC (d (λn=>absurd (o.1 n).1 Ag)))
    |exact aA (aC (d (λn=>absurd Ag (o.1 n).2.1)))
    |exact aA (aC (d (λn=>absurd Ag (o.1 n).2.2)))
    |skip
   have U:c1:=by
    by_cases c:c1;exact c;exact absurd c Ag
   refine⟨(E++[k],S),?_,⟨Au,u (o.2 ⟨U,Ag,Ag⟩)⟩,Ad⟩;exact Nh
def aD7 s(a:gV s):Sp 85 [shV s] (DB (bG s)):=fQ3 s a.fits
theorem gI8 r:W (zY r)=zY r:=by
 unfold zY;cases r.length with
 |zero=>rfl
 |succ n=>rw[bC2];exact w_in (nT _)
theorem wsub a b:W (W a-b)=W (a-b):=by
 grind [IntKind.wrap,IntKind.signed,IntKind.bits]
def fV7(h:bG s):uK s=s.holes.foldl (λa r=>W (a-zY r)) (zY s.outer):=by
 have d:dM s.outer:=h.2.1 _ AU;have c:∀r∈s.holes,dM r:=λr hr=>h.2.1 r BU;have b:∀ {r:Rg},dM r->nG r=zY r:=λq=>QU q;rw[eI3 h];unfold rings qH;rw[RV,b d,wsub,show 2*zY s.outer-zY s.outer=zY s.outer from Aa,gI8];generalize zY s.outer=a
 have key:∀(l:List Rg) a ,(∀r∈l,dM r)->l.foldl (λa r=>W (a-nG r)) a=l.foldl (λa r=>W (a-zY r)) a:=by
  intro l;induction l<;>simp_all
 exact key _ _ c
def fK5 s(d:gV s):Sp 44 [shV s] (I (uK s)):=by
 refine zsp func44 ?_;have n:(s.holes.map rgV).length=s.holes.length:=Ad;have c:=aD7 s d;have i:=fG8 s.outer d.1;have k:=d.2.1;by_cases h:bG s;rotate_left
 ·rw[dbF h]at c
  rw[eC2 h];repeat' ((conv=>whnf);first|refine zc c ?_|refine zS ?_|refine zm (λx hx=>?_)|refine zT ?_ ?_<;>intro _|fail)
  all_goals exact zE
 rw[dbT h]at c;rw[fV7 h];have g:∀D x,(D++[x]).foldl (λa r=>W (a-zY r)) (zY s.outer)=W (D.foldl (λa r=>W (a-zY r)) (zY s.outer)-zY x):=λD x=>GL;generalize zY s.outer=f at*;repeat' ((conv=>whnf);first|refine zc c ?_|refine zc i ?_|refine zg ?_|refine zi ?_|refine zw ?_|refine zy ?_|refine zo ?_|refine zn ?_|refine zm (λx hx=>?_)|refine zv ?_|refine zz (λ_=>?_) λ_=>?_|refine zb (λ_=>?_) λ_=>?_|refine zr ?_|refine zq ?_)
 refine aU (A:=List Rg) (B:=List Rg) (λD R=>mkSt [(1, .box 1 0),(3,I (D.foldl (λa r=>W (a-zY r)) f)),(4,I D.length)] [(1,(shV s).cells)] []) (λD R=>s.holes=D++R) (λD R=>R.length) [] s.holes ?_ rfl (λD R hp=>?_);exact zj;cases R with
 |nil=>
  have b:s.holes.length=D.length:=Dn;have e:s.holes=D:=Dn;rw[e];generalize D.foldl (λa r=>W (a-zY r)) f=A at*;exact Nj
 |cons x R=>
  have b:=aO hp;have j:=fG8 x (d.2.2 x Ae);have e:=g D x;generalize zY x=o at*;generalize q:D.foldl (λa r=>W (a-zY r)) f=A at*;repeat' ((conv=>whnf);first|omega|refine aB (l:=s.holes) Aa ?_|refine aF (l:=s.holes) (A:=D) (x:=x) (B:=R) hp Aa ?_|refine fK (m:=(D.length:Int)+1) (w_in Aa) ?_|refine zc j ?_|refine zg ?_|refine zi ?_|refine zw ?_|refine zy ?_|refine zo ?_|refine zn ?_|refine zm (λx hx=>?_)|refine zv ?_|refine zz (λ_=>?_) λ_=>?_|refine zb (λ_=>?_) λ_=>?_|refine zr ?_|refine zq ?_)
  all_goals conv=>whnf
  refine⟨(D++[x],R),?_,Ae,Ad⟩;simp[e,QY,Rj];exact zj
def gH4{a:Type}(f:a->V)(O:List a) k(b:k<=O.length):(O.drop k++O.take k).map f=List.drop (k:Int).toNat (List.take ((O.map f).length:Int).toNat (O.map f))++List.take (k:Int).toNat (O.map f):=by
 grind [SK,TM,List.map_take,List.map_drop]
def fM7(r:Rg)(y:r.length<=1000000)(n:r≠ []):Sp 263 [rgV r] (.own 70 ((wL r).map vcV)):=by
 refine zsp func263 ?_;have v:(r.map vcV).length=r.length:=Ad;have g:0<r.length:=by cases r with|nil=>exact absurd rfl n|cons x l=>simp
 repeat' ((conv=>whnf);first|refine zS ?_|fail)
 refine aU (A:=Nat) (B:=Nat) (λi k=>mkSt [(0,rgV r),(3,I k),(4,I i)] [] []) (λi k=>i<=r.length/\k<r.length/\(k<i\/k=0)/\(∀j,j<i->¬kF (r.getD j z0) (r.getD k z0))/\∀j,j<k->r.getD j z0≠r.getD k z0) (λi k=>r.length-i) 0 0 ?_ ⟨Aa,g, .inr rfl,λj f=>Aa,λj f=>Aa⟩ (λi k w=>?_);exact zj;let⟨hi,m,u,b,a⟩:=w;by_cases c:i<r.length
 ·have o:=fJ0 (r.getD i z0) (r.getD k z0)
  repeat' ((conv=>whnf);first|omega|refine aB (l:=r) Aa ?_|refine aU3 (k:=i) Aa c ?_|refine aU3 (k:=k) Aa m ?_|refine zc o ?_|refine zS ?_|refine zT ?_ ?_<;>intro _|fail)
  all_goals conv=>whnf
  have hv:kF (r.getD i z0) (r.getD k z0):=by assumption
  refine⟨(i+1,i),?_,⟨Aa,c, .inl Aa,λj f=>?_,λj f q=>?_⟩,Aa⟩;exact zj;by_cases e:j=i;subst e;exact λq=>fJ8 q q;exact λq=>b j Aa (fD9 q hv);exact b j f (by rw[q];exact hv);have hv:¬kF (r.getD i z0) (r.getD k z0):=by assumption
  refine⟨(i+1,k),?_,⟨Aa,m,Aa,λj f=>?_,a⟩,Aa⟩;exact zj;by_cases e:j=i;subst e;exact hv;exact b j Aa
 have d:i=r.length:=by omega
 subst d;have s:=(fJ7 ⟨m,b,a⟩).2;rw[s,gH4 vcV r k Aa];have t:(List.take (k:Int).toNat (r.map vcV)).length=k:=by rw[SK,Rk];omega
 repeat' ((conv=>whnf);first|omega|refine cC0 [(0,999),(3,999)] Af Ac ?_|refine fU ⟨Aa,Aa,Aa, .inr (aM5 r)⟩ ?_|refine iH rfl (.inl rfl) rfl (QV rfl) (fW4 r _ _) (by show 0+(List.drop _ (List.take _ (r.map vcV))).length<=1000000000;rw[Sr,Rk];omega) ?_|refine iH rfl (.inl rfl) rfl (QV rfl) (fQ7 r _) (by show(List.drop _ (List.take _ (r.map vcV))).length+(List.take _ (r.map vcV)).length<=1000000000;rw[Sr,Rk,Rk];omega) ?_|refine zS ?_|refine zT ?_ ?_<;>intro _|fail)
 all_goals conv=>whnf
 exact Ph
def srtC(s:Sh)(X:List Rg):List V:=match X with
 | [] => [rgV (wL s.outer),nilV]
 |x::X=> [rgV (wL s.outer), .sl ((x::X).map rgV)]
def fQ8(s:Sh)(n:Nat)(X:List Rg):St:=mkSt [(1, .box 1 0),(2, .box 2 0),(3, .box 3 0),(4,I n)] [(1,(shV s).cells),(2,[nilV,nilV]),(3,srtC s X)] []
def gG4(s:Sh)(n:Nat)(X:List Rg)(h:Rg)(k:Nat):St:=mkSt [(1, .box 1 0),(2, .box 2 0),(3, .box 3 0),(4,I n),(5,rgV h),(6,I k)] [(1,(shV s).cells),(2,[nilV,nilV]),(3,srtC s X)] []
def gC2{X}(h:X≠ []):srtC s X=[rgV (wL s.outer), .sl (X.map rgV)] :=by
 cases X with
 |nil=>exact absurd rfl h
 |cons x X=>rfl
def fO4(l:List Rg) n:∀y∈(l.map rgV).take n,y.cells.length=1:=λy a=>fM3 l y (RP a)
def gE3(l:List Rg) n m:∀y∈((l.map rgV).take m).drop n,y.cells.length=1:=λy a=>fM3 l y (RP (RQ a))
theorem gF9 x l:(insH x l).length=l.length+1:=by
 unfold insH;grind
def gF7 l:(srtH l).length=l.length:=by
 have key:∀(l o:List Rg),(l.foldl (λo x=>insH x o) o).length=o.length+l.length:=by
  intro l;induction l<;>grind [gF9,Ro]
 have:=key l [];simpa [srtH]using this
def fU2 x l:fA x l<=l.length:=by
 grind [List.takeWhile_sublist,fA]
def gD7(hi:i<fA x l) h:kF (keyR l[i]) (keyR x):=by
 let⟨a,b⟩:=fM8 (λy=>decB (kF (keyR y) (keyR x))) l
 have c:l[i]∈l.takeWhile (λy=>decB (kF (keyR y) (keyR x))):=by
  grind [List.mem_iff_getElem,Rk,fA]
 grind [dH,fU7]
def gD5(h:l[fA x l]? =some y):¬kF (keyR y) (keyR x):=by
 let⟨b,a⟩:=fM8 (λy=>decB (kF (keyR y) (keyR x))) l;have:=a y (by rw[SA,TW];exact h);exact dW.1 this
def gG7:∀ {l},z∈srtH l->z∈l:=by
 have key:∀(l o:List Rg),z∈l.foldl (λo x=>insH x o) o->z∈o\/z∈l:=by
  intro l;induction l<;>grind [fW9]
 intro l h;rcases key l [] h with h|h;cases h;exact h
theorem fS7:(wL r).length=r.length:=by
 by_cases h:r=[];subst h;rfl;let⟨k,a⟩:=fY4 h;rw[(fJ7 a).2,QY,Sr,Rk];have:=a.1;omega
def fQ5 s(G:gV s)(h6:s.holes.length<=1000)(c:∀r∈rings s,r≠ []):Sp 217 [shV s] (shV (fP2 s)):=by
 refine zsp func217 ?_;have U:(s.holes.map rgV).length=s.holes.length:=Ad;have H:=fM7 s.outer G.1 (c _ AU);have L:fP2 s=⟨wL s.outer,srtH (s.holes.map wL)⟩:=rfl;repeat' ((conv=>whnf);first|refine zc H ?_|refine zS ?_|fail)
 refine aU (A:=List Rg) (B:=List Rg) (λD R=>fQ8 s D.length (srtH (D.map wL))) (λD R=>s.holes=D++R) (λD R=>R.length) [] s.holes ?_ rfl (λD R hp=>?_);show Le T _ (fQ8 s 0 []);refine Le.trans (fB (k:=9) rfl (.inl rfl)) ?_;exact zj;cases R with
 |nil=>
  have j:s.holes.length=D.length:=Dn;have e:s.holes=D:=Dn;rw[L,e];generalize srtH (D.map wL)=X at*;cases X with
  |nil=>exact Jw
  |cons x X=>exact Jw
 |cons h R=>
  have j:=aO hp;have f:h∈s.holes:=Ae;have g:h≠ [] :=c h (by unfold rings;simp[f]);have F:=fM7 h (G.2.2 h f) g;have C:=gF7 (D.map wL);rw[Rw]at C;have hsn:srtH ((D++[h]).map wL)=insH (wL h) (srtH (D.map wL)):=by rw[RH,Rt,SY,fK1]
  have o:∀x∈srtH (D.map wL),0<x.length:=λx Z=>by
   obtain⟨r,W,rfl⟩:=Rn.1 (gG7 Z);have:r≠ [] :=c r (by unfold rings;rw[hp];simp[W]);rw[fS7];cases r with
   |nil=>exact absurd rfl this
   |cons a l=>simp
  have u:0< (wL h).length:=by
   rw[fS7];cases h with
   |nil=>exact absurd rfl g
   |cons a l=>simp
  generalize wL h=x at*;generalize srtH (D.map wL)=X at*
  have d:∀k,k<=fA x X->(X.length<=k\/¬kF ((X.getD k []).getD 0 z0) (x.getD 0 z0))->k=fA x X:=λk b m=>by
   rcases Sj k (fA x X)with hlt|v;have t:=fU2 x X;have:=gD7 hlt Aa;rcases m with m|m;omega;have e:X.getD k [] =X[k] :=by rw[Sz,QX (show k<X.length from Aa)];rfl
   rw[e]at m;exact absurd this m;omega
  have w:∀k,k<=fA x X->k<X.length->kF ((X.getD k []).getD 0 z0) (x.getD 0 z0)->k<fA x X:=λk b S hv=>by
   rcases Sj k (fA x X)with hlt|v;exact hlt;have e:k=fA x X:=by omega
   have K:X[fA x X]? =some (X.getD k []):=by rw[<-e,Sz,QX S];rfl
   exact absurd hv (gD5 K)
  have hins:∀k,k=fA x X->insH x X=X.take k++x::X.drop k:=λk b=>by rw[b];rfl
  have M:(X.map rgV).length=X.length:=Ad;have t:=fU2 x X;cases X with
  |nil=>
   have h0:([] :List Rg).length=0:=rfl;repeat' ((conv=>whnf);first|omega|refine aB (l:=s.holes) Aa ?_|refine aF (l:=s.holes) (A:=D) (x:=h) (B:=R) hp Aa ?_|refine zc F ?_|refine zS ?_|refine zl (λhlt=>?_) (λhlt=>?_))
   refine lD (A:=Nat) (λk=>gG4 s D.length [] x k) (λk=>k<=fA x []) (λk=>fA x []-k) 0 ?_ Aa (λk b=>?_);refine Le.trans (fB (k:=23) rfl (.inl rfl)) ?_;show Le T _ (mkSt [(1, .box 1 0),(2, .box 2 0),(3, .box 3 0),(4,I D.length),(5,rgV x),(6,I 0)] [(1,(shV s).cells),(2,[nilV,nilV]),(3,[rgV (wL s.outer),nilV])] []);exact zj;have z:k=0:=by have:fA x [] =0:=rfl;omega
   subst z;have hi:insH x [] =[x] :=rfl;repeat' ((conv=>whnf);first|omega|refine cC0 [(3,3),(45,3),(53,3),(58,3)] Af Ac ?_|refine iH rfl (.inl rfl) rfl (QV rfl) (λy E=>by cases E) (show 0+0<=1000000000 from Aa) ?_|refine iH rfl (.inl rfl) rfl (QV rfl) (dA rfl) (show 0+1<=1000000000 from Aa) ?_|refine iH rfl (.inl rfl) rfl (QV rfl) (λy E=>by cases E) (show 1+0<=1000000000 from Aa) ?_|refine fU ⟨Aa,Aa,Aa, .inl rfl⟩ ?_|refine zS ?_|refine zl (λhlt=>?_) (λhlt=>?_))
   all_goals conv=>whnf
   refine⟨(D++[h],R),?_,Ae,Ad⟩;show Le T _ (fQ8 s (D++[h]).length (srtH ((D++[h]).map wL)));rw[hsn,hi,QY,Rj];refine Le.trans (fB (k:=44) rfl (.inl rfl)) ?_;show Le T _ (mkSt [(1, .box 1 0),(2, .box 2 0),(3, .box 3 0),(4,I ((D.length:Int)+1))] [(1,(shV s).cells),(2,[nilV,nilV]),(3,[rgV (wL s.outer), .sl [rgV x]])] []);exact zj
  |cons y Y=>
   have hY:(y::Y).length=Y.length+1:=rfl;repeat' ((conv=>whnf);first|omega|refine aB (l:=s.holes) Aa ?_|refine aF (l:=s.holes) (A:=D) (x:=h) (B:=R) hp Aa ?_|refine zc F ?_|refine zS ?_|refine zl (λhlt=>?_) (λhlt=>?_))
   refine lD (A:=Nat) (λk=>gG4 s D.length (y::Y) x k) (λk=>k<=fA x (y::Y)) (λk=>fA x (y::Y)-k) 0 ?_ Aa (λk b=>?_);refine Le.trans (fB (k:=23) rfl (.inl rfl)) ?_;show Le T _ (mkSt [(1, .box 1 0),(2, .box 2 0),(3, .box 3 0),(4,I D.length),(5,rgV x),(6,I 0)] [(1,(shV s).cells),(2,[nilV,nilV]),(3,[rgV (wL s.outer), .sl ((y::Y).map rgV)])] []);exact zj;have J:=fJ0 (((y::Y).getD k []).getD 0 z0) (x.getD 0 z0);have n:=d k b;have P:=w k b;have i:k< (y::Y).length->0< ((y::Y).getD k []).length:=λq=>o _ (getD_mem q);have N:∀y'∈(List.map rgV (y::Y)).take k,y'.cells.length=1:=fO4 (y::Y) k;have aa:(x.map vcV).length=x.length:=Ad;have ab:((y::Y).map rgV).length=Y.length+1:=Ad;have Q:(((y::Y).getD k []).map vcV).length=((y::Y).getD k []).length:=Ad;repeat' ((conv=>whnf);first|refine cC0 [(3,3),(45,3),(53,3),(58,3)] Af Ac ?_|refine aB (l:=x) Aa ?_|refine aB (l:=(y::Y).getD k []) (by have:=i Aa;omega) ?_|refine aB (l:=y::Y) Aa ?_|refine eG2 (l:=y::Y) (k:=k) Aa Aa ?_|refine aU3 (r:=x) (k:=0) rfl u ?_|refine aU3 (r:=(y::Y).getD k []) (k:=0) rfl (i Aa) ?_|refine zc J ?_|refine iH rfl (.inl rfl) rfl (QV rfl) (fO4 (y::Y) _) (by show 0+(List.take _ ((y::Y).map rgV)).length<=1000000000;rw[Rk];omega) ?_|refine iH rfl (.inl rfl) rfl (QV rfl) (dA rfl) (by show(List.take _ ((y::Y).map rgV)).length+1<=1000000000;rw[Rk];omega) ?_|refine iH rfl (.inl rfl) rfl (QV rfl) (gE3 (y::Y) _ _) (by show(List.take _ ((y::Y).map rgV)++[_]).length+(List.drop _ (List.take _ ((y::Y).map rgV))).length<=1000000000;rw[QY,Rk,Rj,Sr,Rk];omega) ?_|refine fU ⟨Aa,Aa,Aa, .inr (fM3 (y::Y))⟩ ?_|refine zS ?_|refine zd (λO=>?_) (λO=>?_)|refine zl (λhlt=>?_) (λhlt=>?_))
   all_goals conv=>whnf
   have hv:kF (((y::Y).getD k []).getD 0 z0) (x.getD 0 z0):=by assumption
   have:=P Aa hv;refine⟨k+1,?_,Aa,Aa⟩;show Le T _ (mkSt [(1, .box 1 0),(2, .box 2 0),(3, .box 3 0),(4,I D.length),(5,rgV x),(6,I ((k:Int)+1))] [(1,(shV s).cells),(2,[nilV,nilV]),(3,[rgV (wL s.outer), .sl ((y::Y).map rgV)])] []);exact zj;have hk':=n (.inr Ag);exact NZ;have hk':=n (.inl Aa);exact NZ
def fM2 s(b:gV s):Sp 174 [shV s] (shV (qO s)):=by
 refine zsp func174 ?_;have g0:=aD7 s b;by_cases h:bG s;rotate_left;rw[dbF h]at g0;rw[bH5 h];exact OB;rw[dbT h]at g0;have a:∀r∈rings s,r≠ [] :=λr d e=>by have:=(h.2.1 r d).1;rw[e]at this;simp at this
 have g1:=fQ5 s b (by have:=h.1;omega) a;rw[fV8 h]at g1;generalize qO s=c at*;exact O3
def fZ5 a b(i:a.length<=1000000)(j:b.length<=1000000):Sp 262 [rgV a,rgV b] (DB (a=b)):=by
 refine zsp func262 ?_;have f:(a.map vcV).length=a.length:=Ad;have g:(b.map vcV).length=b.length:=Ad;generalize hP:(a=b)=P;have hr:P↔a=b:=GZ;clear hP;repeat' ((conv=>whnf);first|refine zS ?_|refine zT ?_ ?_<;>intro _|fail)
 all_goals conv=>whnf
 all_goals first
  |exact aA (aC (λh=>by have:=RI List.length (hr.1 h);omega))
  |skip
 refine oU (A:=List Vc) (B:=List Vc) (C:=List Vc) (λD R S=>mkSt [(0,rgV a),(1,rgV b),(5,I D.length)] [] []) (λD R S=>a=D++R/\b=D++S) (λD R S=>R.length) [] a b ?_ ⟨rfl,rfl⟩ (λD R S hp=>?_);exact zj;obtain⟨hp,hq⟩:=hp;cases R with
 |nil=>exact IQ
 |cons x R=>
  cases S with
  |nil=>exact JF
  |cons y S=>
   have hlen:=aO hp;have d:=aO hq;have e:x≠y->¬P:=λh hP=>Ji;repeat' ((conv=>whnf);first|omega|refine aB (l:=a) Aa ?_|refine aB (l:=b) Aa ?_|refine aF (l:=a) (A:=D) (x:=x) (B:=R) hp Aa ?_|refine aF (l:=b) (A:=D) (x:=y) (B:=S) hq Aa ?_|refine aT1 ?_|refine aB4 (λc=>?_) (λc=>?_)|refine zS ?_|refine zT ?_ ?_<;>intro _|fail)
   all_goals conv=>whnf
   all_goals first
    |exact aA (aC (e AX))
    |skip
   exact NH
def fW7 a b(d:a.length<=1000000)(e:b.length<=1000000):Sp 216 [rgV a,rgV b] (DB (a=b)):=by
 refine zsp func216 ?_;have c:=fZ5 a b d e;generalize (a=b)=P at*;repeat' ((conv=>whnf);first|refine zc c ?_|refine zS ?_|fail)
 all_goals conv=>whnf
 exact aA rfl
def fV6 a b(g:gV a)(j:gV b):Sp 173 [shV a,shV b] (DB (a=b)):=by
 refine zsp func173 ?_;have u:=fE1 a g;have v:=fE1 b j;have s:∀r∈rings a,r.length<=1000000:=λr hr=>g.mem hr;have t:∀r∈rings b,r.length<=1000000:=λr hr=>j.mem hr;have H:(rings a).length<=1000001:=by have:=g.2.1;unfold rings;simp;omega
 have J:(rings b).length<=1000001:=by have:=j.2.1;unfold rings;simp;omega
 have hr:(a=b)↔rings a=rings b:=gE1.symm;generalize (a=b)=P at*;generalize rings a=A at*;generalize rings b=B at*;have z:(A.map rgV).length=A.length:=Ad;have E:(B.map rgV).length=B.length:=Ad;repeat' ((conv=>whnf);first|refine zc u ?_|refine zc v ?_|refine zS ?_|refine ze (λc=>?_) (λc=>?_))
 ·have w:A.length=B.length:=by
   have q:((A.map rgV).length:Int)=((B.map rgV).length:Int):=c;omega
  clear c;refine oU (A:=List Rg) (B:=List Rg) (C:=List Rg) (λD R S=>mkSt [(5, .sl (A.map rgV)),(6, .sl (B.map rgV)),(7,I D.length)] [] []) (λD R S=>A=D++R/\B=D++S) (λD R S=>R.length) [] A B ?_ ⟨rfl,rfl⟩ (λD R S hp=>?_);refine Le.trans (Le.trans (fB (k:=9) rfl (.inl rfl)) (fB (k:=11) rfl (.inl rfl))) ?_;exact zj;obtain⟨hp,hq⟩:=hp;cases R with
  |nil=>
   have f:A.length=D.length:=Ae
   have F:S=[] :=by
    have h1:B.length=D.length+S.length:=Au;exact RS.1 Aa
   subst F;have i:=hr.2 Ib;clear hp hq hr;repeat' ((conv=>whnf);first|omega|refine zS ?_|refine zl (λd=>?_) (λd=>?_))
   all_goals conv=>whnf
   exact aA (fE i)
  |cons x R=>
   cases S with
   |nil=>
    have h1:B.length=D.length:=Au;have K:=aO hp;exfalso;omega
   |cons y S=>
    have f:=aO hp;have m:=aO hq;have n:¬x=y->¬P:=λh hP=>Ji;have gs:=fW7 x y (s x Ae) (t y Au);have o:x=y->B=D++[x] ++S:=λh=>by rw[hq,h];simp
    generalize (x=y)=e at*;repeat' ((conv=>whnf);first|omega|refine aB (l:=A) Aa ?_|refine aB (l:=B) Aa ?_|refine aF (l:=A) (A:=D) (x:=x) (B:=R) hp Aa ?_|refine aF (l:=B) (A:=D) (x:=y) (B:=S) hq Aa ?_|refine zc gs ?_|refine zS ?_|refine zd (λG=>?_) (λG=>?_)|refine zl (λd=>?_) (λd=>?_))
    all_goals conv=>whnf
    all_goals first
     |exact aA (aC (n Ag))
     |skip
    refine⟨(D++[x],R,S),?_,⟨Ae,o Ag⟩,Ad⟩;exact Nh
 all_goals conv=>whnf
 refine aA (aC (λh=>c ?_));show((A.map rgV).length:Int)=((B.map rgV).length:Int);rw[hr.1 h]
def fH3 lo hi:Sp 182 [vcV lo,vcV hi] (shV (sV lo hi)):=by
 refine zsp func182 ?_;have c:=fP lo 2000;have d:=fP hi 2000;have a:=eS0 (lo:=lo) (hi:=hi);have b:=eR9 (lo:=lo) (hi:=hi);generalize sV lo hi=A at*;generalize within lo 2000=e at*;generalize within hi 2000=f at*;repeat' ((conv=>whnf);first|refine zc c ?_|refine zc d ?_|refine zS ?_|refine zT ?_ ?_<;>intro _|fail)
 all_goals conv=>whnf
 all_goals first
  |(rw[a BK];refine⟨?_,rfl,λrs h=>V.noConfusion h⟩;(repeat' (first|exact trivial|refine And.intro ?_ ?_|with_reducible rfl|exact(λh=>Ah)|exact rfl));done)
  |(rw[b (by rintro(q|q|q|q)<;>first|omega|contradiction)];refine⟨?_,rfl,λrs h=>V.noConfusion h⟩;(repeat' (first|exact trivial|refine And.intro ?_ ?_|with_reducible rfl|exact(λh=>Ah)|exact rfl));done)
def fV1 l(f:l.length<=1000000):Sp 274 [.sl (l.map vcV)] (.tup [bxV (aC7 l).1, .lit (.bool (aC7 l).2)]):=by
 refine zsp func274 ?_;have d:(l.map vcV).length=l.length:=Ad;cases a:l with
 |nil=>exact KO
 |cons x r=>
  rw[<-a];have c:l.length=r.length+1:=by rw[a];rfl
  have hb:aC7 l=(l.foldl gU (x,x),true):=by rw[a];rfl
  repeat' ((conv=>whnf);first|omega|refine cC0 [(0,999),(10,999),(11,999),(13,999),(14,999),(4,4)] Af Ac ?_|refine aB (l:=l) Aa ?_|refine aF (l:=l) (A:=[]) (x:=x) (B:=r) a rfl ?_|refine zS ?_|refine ze (λheq=>?_) (λheq=>?_))
  refine aU (A:=List Vc) (B:=List Vc) (λD R=>mkSt [(0, .sl (l.map vcV)),(2, .box 2 0),(4, .box 4 0),(5,I D.length)] [(2,[I 0,I 0,I 0,I 0]),(4,(bxV (D.foldl gU (x,x))).cells)] [])
   (λD R=>l=D++R) (λD R=>R.length) [] l ?_ rfl (λD R hp=>?_)
  exact zj;cases R with
  |nil=>exact J7
  |cons y R=>
   have hlen':=aO hp;have es:(D++[y]).foldl gU (x,x)=gU (D.foldl gU (x,x)) y:=GL;have eD:(D++[y]).length=D.length+1:=Ad;generalize D.foldl gU (x,x)=b at*;repeat' ((conv=>whnf);first|omega|refine cC0 [(0,999),(5,999),(4,4),(23,4),(24,4),(32,4),(33,4),(42,4),(26,999),(27,999),(28,999),(29,999),(35,999),(36,999),(37,999),(38,999)] Af Ac ?_|refine aB (l:=l) Aa ?_|refine aF (l:=l) (A:=D) (x:=y) (B:=R) hp Aa ?_|refine zS ?_|refine zl (λhlt=>?_) (λhlt=>?_))
   all_goals conv=>whnf
   exact OY
def gB4 r(a:r.length<=1000000):Sp 230 [rgV r] (.tup [bxV (boxR r).1, .lit (.bool (boxR r).2)]):=by
 refine zsp func230 ?_;have g0:=fE9 r a;have g1:=fV1 r a;by_cases h:dM r;have e:boxR r=aC7 r:=QU h;rw[dbT h]at g0;rw[e];generalize aC7 r=b at*;exact O3;have e:boxR r=(((0,0),(0,0)),false):=Q9 h;rw[dbF h]at g0;rw[e];exact OB
def fX2 s(a:gV s):Sp 184 [shV s] (.tup [bxV (boxS s).1, .lit (.bool (boxS s).2)]):=by
 refine zsp func184 ?_;have g0:=aD7 s a;have g1:=gB4 s.outer a.1;by_cases h:bG s;rw[eG7 h];rw[dbT h]at g0;generalize boxR s.outer=b at*;exact O3;rw[eW5 h];rw[dbF h]at g0;exact OB
def fF5 p:Sp 122 [vcV p] (DB (dQ p)):=by
 refine zsp func122 ?_;have a:dQ p↔0<=p.1/\0<=p.2/\p.1<=1900/\p.2<=1900:=by unfold dQ;omega
 generalize dQ p=P at*;repeat' ((conv=>whnf);first|refine zS ?_|refine zT ?_ ?_<;>intro _|fail)
 all_goals conv=>whnf
 all_goals refine aA ?_
 all_goals first
  |(refine le_dec ?_;rw[a];omega)
  |exact aC (λh=>by have:=a.1 h;omega)
def fE6 s(d:gV s):Sp 121 [shV s] (DB (jV s)):=by
 refine zsp func121 ?_;have a:jV s↔bG s/\qO s=s:=⟨λh=>⟨h.1,h.2.symm⟩,λh=>⟨h.1,h.2.symm⟩⟩;have e:=aD7 s d;have f:=fM2 s d
 have b:gV (qO s):=by
  by_cases h:bG s;exact aU5 h;rw[bH5 h];exact⟨Iy,Iy,λr a=>by simp[sh0]at a⟩
 have g:=fV6 (qO s) s b d;generalize jV s=P at*;generalize (qO s=s)=j at*;generalize qO s=c at*;generalize bG s=i at*;repeat' ((conv=>whnf);first|refine zc e ?_|refine zc f ?_|refine zc g ?_|refine zS ?_|refine zT ?_ ?_<;>intro _|fail)
 all_goals conv=>whnf
 all_goals first
  |exact aA (fQ ⟨λh=>a.2 ⟨Ag,h⟩,λh=>(a.1 h).2⟩)
  |exact aA (aC (λh=>absurd (a.1 h).1 Ag))
def gA2(l:List Sg):∀y∈l.map sgV,y.cells.length=4:=λy hy=>AZ
def redSt(rs:List Rg)(D:List Rg):St:=match D with
 | [] =>mkSt [(3,nilV),(4, .sl (rs.map rgV)),(5,I 0)] [] [(7,⟨0, .frz,46,rs.map rgV⟩)]
 |d::D=>mkSt [(3, .arr 20 D.length),(4, .sl (rs.map rgV)),(5,I ((D.length:Int)+1))] [] [(7,⟨0, .frz,46,rs.map rgV⟩),(20,⟨D.length, .own,233,((d::D).flatMap bF).map sgV⟩)]
def gG9(h:r.length<=1000000):(bF r).length<=1000000:=F8
def fK8 s(c:gV s)(m:s.holes.length<=6):Sp 265 [shV s] (.own 233 ((aC0 s).map sgV)):=by
 refine zsp func265 ?_;have i:=fE1 s c;have f:∀r∈rings s,r.length<=1000000:=λr v=>c.mem v;have b:∀ {D R:List Rg},rings s=D++R->(D.flatMap bF).length<=7000000:=λh=>bC1 c m h;have o:aC0 s=(rings s).flatMap bF:=rfl;have hne:rings s≠ [] :=AU;have u:(rings s).length<=7:=Fh;rw[o];generalize rings s=A at*;have n:(A.map rgV).length=A.length:=Ad;repeat' ((conv=>whnf);first|refine zc i ?_|refine zS ?_|fail)
 refine aU (A:=List Rg) (B:=List Rg) (λD R=>redSt A D) (λD R=>A=D++R) (λD R=>R.length) [] A ?_ rfl (λD R hp=>?_);exact KA;have hp:=hp;cases R with
 |nil=>exact Jt
 |cons r R=>
  have hlen:=aO hp;have a:=f r Ae;have g:=fE7 r a;have q:=b (D:=D) (R:=r::R) hp;have t:=gG9 a;cases D with
  |nil=>
   have j:([] :List Rg).length=0:=rfl;repeat' ((conv=>whnf);first|omega|refine aB (l:=A) Aa ?_|refine aF (l:=A) (A:=[]) (x:=r) (B:=R) hp Aa ?_|refine zc g ?_|refine gX (QV rfl) (gA2 (bF r)) (by show((bF r).map sgV).length<=1000000000;rw[Rw];omega) ?_|refine zS ?_|refine zT ?_ ?_<;>intro _|fail)
   all_goals conv=>whnf
   refine⟨([r],R),?_,hp,Ad⟩;show Le T _ (mkSt [(3, .arr 20 0),(4, .sl (A.map rgV)),(5,I (0+1))] [] [(7,⟨0, .frz,46,A.map rgV⟩),(20,⟨0, .own,233,([r].flatMap bF).map sgV⟩)]);rw[show [r].flatMap bF=bF r from Ad];exact zj
  |cons d D=>
   have j:(d::D).length=D.length+1:=rfl;repeat' ((conv=>whnf);first|omega|refine aB (l:=A) Aa ?_|refine aF (l:=A) (A:=d::D) (x:=r) (B:=R) hp Aa ?_|refine zc g ?_|refine iH rfl (.inl rfl) rfl (QV rfl) (gA2 (bF r)) (by show(((d::D).flatMap bF).map sgV).length+((bF r).map sgV).length<=1000000000;rw[Rw,Rw];omega) ?_|refine zS ?_|refine zT ?_ ?_<;>intro _|fail)
   all_goals conv=>whnf
   refine⟨(d::(D++[r]),R),?_,Ae,Ad⟩;show Le T _ (mkSt [(3, .arr 20 (D++[r]).length),(4, .sl (A.map rgV)),(5,I (((D++[r]).length:Int)+1))] [] [(7,⟨0, .frz,46,A.map rgV⟩),(20,⟨(D++[r]).length, .own,233,((d::(D++[r])).flatMap bF).map sgV⟩)]);rw[show((d::(D++[r])).flatMap bF).map sgV=((d::D).flatMap bF).map sgV++(bF r).map sgV from Ad,QY,Rj];exact zj
def rveSt(rs:List Rg)(D:List Rg):St:=match D with
 | [] =>mkSt [(3,nilV),(4, .sl (rs.map rgV)),(5,I 0)] [] [(7,⟨0, .frz,46,rs.map rgV⟩)]
 |d::D=>mkSt [(3, .arr 19 D.length),(4, .sl (rs.map rgV)),(5,I ((D.length:Int)+1))] [] [(7,⟨0, .frz,46,rs.map rgV⟩),(19,⟨D.length, .own,70,((d::D).flatten).map vcV⟩)]
def gC0:∀ {E:List Rg},(∀r∈E,r.length<=1000000)->E.flatten.length<=1000000*E.length
 | [],_=>Ad
 |e::E,h=>by
  have b:=h e Ad;have c:=gC0 (E:=E) (λr a=>h r (by simp[a]));grind
def fG7 s(b:gV s)(u:s.holes.length<=6):Sp 220 [shV s] (.own 70 ((rV s).map vcV)):=by
 refine zsp func220 ?_;have c:=fE1 s b;have a:∀r∈rings s,r.length<=1000000:=λr n=>b.mem n;have i:rV s=(rings s).flatten:=rfl;have hne:rings s≠ [] :=AU;have m:(rings s).length<=7:=Fh;rw[i];generalize rings s=A at*;have g:(A.map rgV).length=A.length:=Ad;repeat' ((conv=>whnf);first|refine zc c ?_|refine zS ?_|fail)
 refine aU (A:=List Rg) (B:=List Rg) (λD R=>rveSt A D) (λD R=>A=D++R) (λD R=>R.length) [] A ?_ rfl (λD R hp=>?_);exact KA;have hp:=hp;cases R with
 |nil=>exact Jt
 |cons r R=>
  have hlen:=aO hp;have o:=a r Ae;have j:=gC0 (E:=D) (λx t=>a x (by rw[hp];simp[t]));have q:(r.map vcV).length=r.length:=Ad;cases D with
  |nil=>
   have f:([] :List Rg).length=0:=rfl;repeat' ((conv=>whnf);first|omega|refine aB (l:=A) Aa ?_|refine aF (l:=A) (A:=[]) (x:=r) (B:=R) hp Aa ?_|refine gX (QV rfl) (aM5 r) (by show(r.map vcV).length<=1000000000;omega) ?_|refine zS ?_|refine zT ?_ ?_<;>intro _|fail)
   all_goals conv=>whnf
   refine⟨([r],R),?_,hp,Ad⟩;show Le T _ (mkSt [(3, .arr 19 0),(4, .sl (A.map rgV)),(5,I (0+1))] [] [(7,⟨0, .frz,46,A.map rgV⟩),(19,⟨0, .own,70,([r].flatten).map vcV⟩)]);rw[show [r].flatten=r from Ad];exact zj
  |cons d D=>
   have f:(d::D).length=D.length+1:=rfl;repeat' ((conv=>whnf);first|omega|refine aB (l:=A) Aa ?_|refine aF (l:=A) (A:=d::D) (x:=r) (B:=R) hp Aa ?_|refine iH rfl (.inl rfl) rfl (QV rfl) (aM5 r) (by show(((d::D).flatten).map vcV).length+(r.map vcV).length<=1000000000;rw[Rw];omega) ?_|refine zS ?_|refine zT ?_ ?_<;>intro _|fail)
   all_goals conv=>whnf
   refine⟨(d::(D++[r]),R),?_,Ae,Ad⟩;show Le T _ (mkSt [(3, .arr 19 (D++[r]).length),(4, .sl (A.map rgV)),(5,I (((D++[r]).length:Int)+1))] [] [(7,⟨0, .frz,46,A.map rgV⟩),(19,⟨(D++[r]).length, .own,70,((d::(D++[r])).flatten).map vcV⟩)]);rw[show((d::(D++[r])).flatten).map vcV=((d::D).flatten).map vcV++r.map vcV from Ad,QY,Rj];exact zj
def fT8(h:bG s):∀e∈aC0 s,bI e:=λe a=>by
 unfold aC0 at a;let⟨r,b,q⟩:=UR.1 a;exact jO (h.2.1 r b).2.2.1 q
theorem fI8(h:bG s):∀v∈rV s,Sm4 v:=λv hv=>by
 unfold rV at hv;let⟨r,a,q⟩:=List.mem_flatten.1 hv;exact vN (h.2.1 r a).2.2.1 q
def fP1 a b(d:bG a)(e:bG b):Sp 218 [shV a,shV b] (DB (rJ a b [2])):=by
 refine zsp func218 ?_;have g:=fK8 a (iT d) d.1;have i:=fK8 b (iT e) e.1;have q:=fT8 d;have r:=fT8 e;have t:=bV2 (iT d) d.1;have u:=bV2 (iT e) e.1;have hr:rJ a b [2]↔∃x∈aC0 a,∃y∈aC0 b,dG x y=2:=by unfold rJ;simp[Ri]
 generalize rJ a b [2] =P at*;generalize aC0 a=A at*;generalize aC0 b=B at*;have j:(A.map sgV).length=A.length:=Ad;have n:(B.map sgV).length=B.length:=Ad;repeat' ((conv=>whnf);first|refine zc g ?_|refine zc i ?_|refine zS ?_|fail)
 refine aU (A:=List Sg) (B:=List Sg) (λD R=>mkSt [(5, .sl (A.map sgV)),(6, .sl (B.map sgV)),(7,I D.length)] [] []) (λD R=>A=D++R/\∀x∈D,∀y∈B,dG x y≠2) (λD R=>R.length) [] A ?_ ⟨rfl,Ad⟩ (λD R hp=>?_);exact Lu;let⟨hp,hD⟩:=hp;cases R with
 |nil=>exact JG
 |cons x R=>
  have hlen:=aO hp;have s:=q x Ae;repeat' ((conv=>whnf);first|omega|refine zS ?_|refine zT ?_ ?_<;>intro _|fail)
  refine aU (A:=List Sg) (B:=List Sg) (λE S=>mkSt [(5, .sl (A.map sgV)),(6, .sl (B.map sgV)),(7,I D.length),(8,I E.length)] [] []) (λE S=>B=E++S/\∀y∈E,dG x y≠2) (λE S=>S.length) [] B ?_ ⟨rfl,Ad⟩ (λE S hq=>?_);exact zj;let⟨hq,hE⟩:=hq;cases S with
  |nil=>exact MX
  |cons y S=>
   have hlen2:=aO hq;have o:=fI7 x y s (r y Au);have f:=λh=>hr.2 ⟨x,Ae,y,Au,h⟩;have c:dG x y≠2->∀z∈E++[y],dG x z≠2:=λh z hz=>L9;generalize dG x y=m at*;repeat' ((conv=>whnf);first|omega|refine aB (l:=A) Aa ?_|refine aB (l:=B) Aa ?_|refine aF (l:=A) (A:=D) (x:=x) (B:=R) hp Aa ?_|refine aF (l:=B) (A:=E) (x:=y) (B:=S) hq Aa ?_|refine zc o ?_|refine zS ?_|refine zT ?_ ?_<;>intro _|fail)
   all_goals conv=>whnf
   all_goals first
    |exact aA (fE (f Ag))
    |skip
   refine⟨(E++[y],S),?_,⟨Au,c Ag⟩,Ad⟩;exact Nh
def gA9(a:3<=r.length)(b:k<r.length):(bF r).drop k=aJ4 r k::(bF r).drop (k+1):=by
 have c:=dT0 (r:=r) Aa;rw[List.drop_eq_getElem_cons Aa];congr 1;have:=fH0 a b;simp_all
def fK7 r v(m:dM r)(hv:Sm4 v):Sp 297 [rgV r,vcV v] (I (fJ r v)):=by
 refine zsp func297 ?_;have z:=m.1;have K:=m.2.1;have M:(r.map vcV).length=r.length:=Ad;have C:=fZ2 m hv;have L:=dT0 (r:=r) Aa;have o:=λk (j:k<r.length)=>gA9 z j;have s:∀k,k<r.length->bI (aJ4 r k):=λk j=>jO m.2.2.1 ((bC9 z).2 ⟨k,j,rfl⟩);have g:(bF r).drop r.length=[] :=UI Aa;generalize fJ r v=A at*;generalize bF r=E at*;repeat' ((conv=>whnf);first|refine zS ?_|fail)
 refine aU (A:=Nat) (B:=Bool) (λk ins=>mkSt [(0,rgV r),(3, .box 3 0),(5,B ins),(6,I k)] [(3,(vcV v).cells)] []) (λk ins=>k<=r.length/\A=lU (v.1,v.2,1) (E.drop k) ins) (λk ins=>r.length-k) 0 false ?_ ⟨Aa,C⟩ (λk ins O=>?_);exact zj;clear C;obtain⟨j,hA⟩:=O;by_cases f:k<r.length;rotate_left;have e:k=r.length:=by omega
 subst e;rw[g,qB]at hA;exact OM;have heo:=s k f;rw[o k f]at hA;have N:(k+1)% r.length<r.length:=SC _ Aa;obtain⟨D,F⟩:=jP.1 heo;have G:=fG4 (aJ4 r k).1 (aJ4 r k).2 v
 have b:eX (aJ4 r k) v↔Bb (aJ4 r k) v/\kR (aJ4 r k).1 (aJ4 r k).2 v=0:=by
  rw[gZ heo];constructor;rintro⟨n,i⟩;refine⟨n,?_⟩;rw[zH D F hv,i];rfl;rintro⟨n,i⟩;refine⟨n,?_⟩;by_cases q:X (dif (aJ4 r k).2 (aJ4 r k).1) (dif v (aJ4 r k).1)=0;exact q;rw[zH D F hv]at i;exact absurd i (tC.2 q)
 have R:eX (aJ4 r k) v->A=1:=λq=>by rw[hA];exact oP ((cC3 hv heo).2 q)
 have x:¬eX (aJ4 r k) v->rayC (aJ4 r k) v (kR (aJ4 r k).1 (aJ4 r k).2 v)->A=lU (v.1,v.2,1) (E.drop (k+1)) (!ins):=λq1 q2=>MP;have y:¬eX (aJ4 r k) v->¬rayC (aJ4 r k) v (kR (aJ4 r k).1 (aJ4 r k).2 v)->A=lU (v.1,v.2,1) (E.drop (k+1)) ins:=λq1 q2=>LZ;have H:(aJ4 r k).1=r.getD k z0:=rfl;have J:(aJ4 r k).2=r.getD ((k+1)% r.length) z0:=rfl;unfold rayC at x y;unfold Bb at b;rw[H,J]at G b x y;generalize eX (aJ4 r k) v=P at*;generalize u:r.getD k z0=Q at*;generalize w:r.getD ((k+1)% r.length) z0=vb at*;generalize kR Q vb v=t at*;repeat' ((conv=>whnf);first|omega|refine cC0 [(0,999),(6,999),(16,999),(17,999),(18,999),(20,999),(23,999),(25,999),(26,999),(7,7),(8,8)] Af Ac ?_|refine uM Aa ?_|refine aB (l:=r) BR ?_|refine aB (l:=r) Aa ?_|(refine sW (k:=(k+1)% r.length) (kS Aa) N ?_;rw[w])|(refine aU3 (k:=k) Aa f ?_;rw[u])|refine zc G ?_|refine zS ?_|refine zT ?_ ?_<;>intro _|fail)
 all_goals conv=>whnf
 all_goals (try simp only[lH,mG]at*)
 all_goals first
  |exact aG (R (b.2 ⟨⟨Aa,Aa,Aa,Aa⟩,Aa⟩)).symm
  |skip
 all_goals (have c:¬P:=λq=>by have:=b.1 q;omega)
 all_goals first
  |(have d:=x c Aa)
  |(have d:=y c Aa)
 all_goals first
  |refine⟨(k+1, !ins),?_,⟨Aa,d⟩,Aa⟩
  |refine⟨(k+1,ins),?_,⟨Aa,d⟩,Aa⟩
 all_goals (refine dV ?_ ?_ ?_ ?_)
 all_goals repeat' (first|exact trivial|refine And.intro ?_ ?_|with_reducible rfl|exact(λh=>Ah)|exact Rf _|omega|exact rfl)
def gC4{A B}(c:a=b->A)(d:a≠b->B):branch (eqBB a b) A B:=by
 rw[cA1];exact jU (λh=>c Fj) (λh=>d Fj)
def fH5 u v:Sp 268 [vcV u,vcV v] (DB (aP5 u v)):=by
 refine zsp func268 ?_;have b:=fF0 u v;have e:=fR2 u v;have a:aP5 u v↔bZ u v=0/\0<vdot u v:=RU;generalize aP5 u v=P at*;generalize bZ u v=c at*;generalize vdot u v=d at*;repeat' ((conv=>whnf);first|refine zc b ?_|refine zc e ?_|refine zS ?_|refine zT ?_ ?_<;>intro _|fail)
 all_goals conv=>whnf
 all_goals refine aA ?_
 all_goals first
  |exact aC (λh=>by have:=a.1 h;omega)
  |(refine aS1 ?_;rw[a];omega)
def fL8 u v:Sp 299 [vcV u,vcV v] (DB (dG5 u v)):=by
 refine zsp func299 ?_;have b:=fF0 u v;have e:=fR2 u v;have a:dG5 u v↔bZ u v<0\/(bZ u v=0/\vdot u v<0):=RU;generalize dG5 u v=P at*;generalize bZ u v=c at*;generalize vdot u v=d at*;repeat' ((conv=>whnf);first|refine zc b ?_|refine zc e ?_|refine zS ?_|refine zT ?_ ?_<;>intro _|fail)
 all_goals conv=>whnf
 all_goals refine aA ?_
 all_goals first
  |exact fE (a.2 Aa)
  |exact aC (λh=>by have:=a.1 h;omega)
  |(refine aS1 ?_;rw[a];omega)
def fI1 x d:Sp 269 [sgV x,vcV d] (DB (aP1 x d)):=by
 refine zsp func269 ?_;have h1:=fH5 x.1 d;have h2:=fH5 x.2 d;have h3:=fL8 x.1 d;have h4:=fL8 x.1 x.2;have h5:=fF0 d x.2
 have hr:aP1 x d↔¬(aP5 x.1 d\/aP5 x.2 d)/\((¬(dG5 x.1 d↔dG5 x.1 x.2)/\dG5 x.1 x.2)\/((dG5 x.1 d↔dG5 x.1 x.2)/\0<bZ d x.2)):=by
  unfold aP1;by_cases q:aP5 x.1 d\/aP5 x.2 d;rw[QU q];exact⟨λh=>h.elim,λh=>h.1 q⟩;rw[Q9 q];by_cases a:(dG5 x.1 d↔dG5 x.1 x.2);rw[Q9 (λh=>h a)];exact⟨λh=>⟨q, .inr ⟨a,h⟩⟩,λh=>h.2.elim (λk=>absurd a k.1) (λk=>k.2)⟩;rw[QU a];exact⟨λh=>⟨q, .inl ⟨a,h⟩⟩,λh=>h.2.elim (λk=>k.2) (λk=>absurd k.1 a)⟩
 generalize aP1 x d=P at*;generalize aP5 x.1 d=s1 at*;generalize aP5 x.2 d=s2 at*;generalize dG5 x.1 d=b at*;generalize dG5 x.1 x.2=e at*;generalize bZ d x.2=c at*;by_cases q3:b<;>by_cases q4:e;rw[dbT q3]at h3;rw[dbT q4]at h4;exact N8;rw[dbT q3]at h3;rw[dbF q4]at h4;have hr2:P↔¬(s1\/s2)/\False:=GY;exact ND;rw[dbF q3]at h3;rw[dbT q4]at h4;have hr2:P↔¬(s1\/s2)/\True:=GY;exact ND;rw[dbF q3]at h3;rw[dbF q4]at h4;exact N8
def fP9 x y:Sp 222 [sgV x,sgV y] (DB (dI3 x y)):=by
 refine zsp func222 ?_;have b:=fH5 x.1 y.1;have c:=fI1 x y.1;have d:=fI1 y x.1;have a:dI3 x y↔aP5 x.1 y.1\/aP1 x y.1\/aP1 y x.1:=RU;generalize dI3 x y=P at*;generalize aP5 x.1 y.1=e at*;generalize aP1 x y.1=f at*;generalize aP1 y x.1=g at*;repeat' ((conv=>whnf);first|refine zc b ?_|refine zc c ?_|refine zc d ?_|refine zS ?_|refine zT ?_ ?_<;>intro _|fail)
 all_goals conv=>whnf
 all_goals refine aA ?_
 all_goals first
  |(refine fE (a.2 ?_);simp_all;done)
  |(refine fQ ?_;rw[a];simp_all;done)
def fR8 s v(f:bG s)(hv:Sm4 v):Sp 266 [shV s,vcV v] (I (lJ s v)):=by
 refine zsp func266 ?_;have o:dM s.outer:=f.2.1 _ AU;have m:∀r∈s.holes,dM r:=λr hr=>f.2.1 r BU;have j:=fK7 s.outer v o hv;have n:(s.holes.map rgV).length=s.holes.length:=Ad;have q:=f.1;rw[eG3 f hv];generalize fJ s.outer v=c at*;repeat' ((conv=>whnf);first|refine zS ?_|fail)
 refine aU (A:=List Rg) (B:=List Rg) (λD R=>mkSt [(2, .box 2 0),(3, .box 3 0),(5,I D.length)] [(2,(shV s).cells),(3,(vcV v).cells)] []) (λD R=>s.holes=D++R/\lG v c s.holes=lG v c R) (λD R=>R.length) [] s.holes ?_ ⟨rfl,rfl⟩ (λD R hp=>?_);exact zj;obtain⟨hp,d⟩:=hp;generalize lG v c s.holes=A at*;cases R with
 |nil=>
  have e:s.holes.length=D.length:=Ae;have g:=d;rw[g];repeat' ((conv=>whnf);first|omega|refine zc j ?_|refine zS ?_|refine zl (λb=>?_) (λb=>?_))
  all_goals exact zE
 |cons h R=>
  have e:=aO hp;have k:=fK7 h v (m h Ae) hv;have i:lG v c (h::R)=if fJ h v=2 then 0 else if fJ h v=1 then 1 else lG v c R:=rfl
  rw[i]at d;generalize fJ h v=w at*;repeat' ((conv=>whnf);first|omega|refine aB (l:=s.holes) Aa ?_|refine aF (l:=s.holes) (A:=D) (x:=h) (B:=R) hp Aa ?_|refine zc k ?_|refine zS ?_|refine zl (λb=>?_) (λb=>?_)|refine ze (λa=>?_) (λa=>?_))
  all_goals conv=>whnf
  exact aG (by rw[d,QU a]);exact aG (by rw[d,Q9 (by omega),QU a]);refine⟨(D++[h],R),?_,⟨Ae,by rw[d,Q9 (by omega),Q9 (by omega)]⟩,Ad⟩;exact Nh
def fJ3 a b n(f:bG a)(o:bG b):Sp 219 [shV a,shV b,I n] (DB (bL9 a b n)):=by
 refine zsp func219 ?_;have i:=fG7 a (iT f) f.1;have hv:=fI8 f;have r:=cG3 f;have hr:bL9 a b n↔∃v∈rV a,lJ b v=n:=RU;generalize bL9 a b n=P at*;generalize rV a=A at*;have m:(A.map vcV).length=A.length:=Ad;repeat' ((conv=>whnf);first|refine zc i ?_|refine zS ?_|fail)
 refine aU (A:=List Vc) (B:=List Vc) (λD R=>mkSt [(2,I n),(4, .box 4 0),(7, .sl (A.map vcV)),(8,I D.length)] [(4,(shV b).cells)] []) (λD R=>A=D++R/\∀v∈D,lJ b v≠n) (λD R=>R.length) [] A ?_ ⟨rfl,Ad⟩ (λD R hp=>?_);refine Le.trans (fB (k:=10) rfl (.inl rfl)) ?_;exact zj;let⟨hp,hD⟩:=hp;cases R with
 |nil=>
  have e:A.length=D.length:=Ae;repeat' ((conv=>whnf);first|omega|refine zS ?_|refine zl (λc=>?_) (λc=>?_))
  all_goals conv=>whnf
  exact aA (aC (λh=>Du))
 |cons x R=>
  have e:=aO hp;have g:x∈A:=Ae;have j:=fR8 b x o (hv x g);have d:=λh=>hr.2 ⟨x,g,h⟩;have hgood:lJ b x≠n->∀v∈D++[x],lJ b v≠n:=λh v hv=>Kt;generalize lJ b x=w at*;repeat' ((conv=>whnf);first|omega|refine aB (l:=A) Aa ?_|refine aF (l:=A) (A:=D) (x:=x) (B:=R) hp Aa ?_|refine zc j ?_|refine zS ?_|refine zl (λc=>?_) (λc=>?_)|refine ze (λheq=>?_) (λheq=>?_))
  all_goals conv=>whnf
  exact aA (fE (d heq));exact JP
def secS(s:Sh)(p:Vc):Option Sg:=secL p 0 (rings s)
def secG0(x:Option Sg):Sg:=x.getD ((0,0),(0,0))
def gC5(h:∀k,k<r.length->secV i r p k=none):secR i r p=none:=fE5.1.2 h
def gD9(hk:k<r.length)(h:∀j,j<k->secV i r p j=none)(hx:secV i r p k=some x):secR i r p=some x:=by
 unfold secR;exact OO
def fI3 s p(m:bG s)(G:Sm4 p):Sp 221 [shV s,vcV p] (.tup [sgV (secG0 (secS s p)), .lit (.bool (secS s p).isSome)]):=by
 refine zsp func221 ?_;have i:=fE1 s (iT m);have c:∀r∈rings s,dM r:=m.2.1;have w:(rings s).length<=7:=by unfold rings;simp;have:=m.1;omega
 have o:secS s p=secL p 0 (rings s):=rfl;generalize secS s p=X at*;generalize rings s=rs at*;have y:(rs.map rgV).length=rs.length:=Ad;repeat' ((conv=>whnf);first|refine zc i ?_|refine zS ?_|fail)
 refine aU (A:=List Rg) (B:=List Rg) (λD R=>mkSt [(2, .box 2 0),(3, .box 3 0),(4, .box 4 0),(6, .sl (rs.map rgV)),(7,I D.length)] [(2,(shV s).cells),(3,(vcV p).cells),(4,[I 0,I 0,I 0,I 0])] []) (λD R=>rs=D++R/\X=secL p D.length R) (λD R=>R.length) [] rs ?_ ⟨rfl,o⟩ (λD R hq=>?_);refine Le.trans (fB (k:=15) rfl (.inl rfl)) ?_;exact zj;clear o;obtain⟨hq,f⟩:=hq;cases R with
 |nil=>
  have b:rs.length=D.length:=Au;have hx:X=none:=f;rw[hx];exact NV
 |cons r R=>
  have b:=aO hq;have u:=c r Au;have F:=u.1;have v:=u.2.1;have z:(r.map vcV).length=r.length:=Ad;repeat' ((conv=>whnf);first|omega|refine aB (l:=rs) Aa ?_|refine aF (l:=rs) (A:=D) (x:=r) (B:=R) hq Aa ?_|refine zS ?_|refine zT ?_ ?_<;>intro _|fail)
  refine lD (A:=Nat) (λk=>mkSt [(2, .box 2 0),(3, .box 3 0),(4, .box 4 0),(6, .sl (rs.map rgV)),(7,I D.length),(8,rgV r),(9,I k)] [(2,(shV s).cells),(3,(vcV p).cells),(4,[I 0,I 0,I 0,I 0])] []) (λk=>k<=r.length/\∀j,j<k->secV D.length r p j=none) (λk=>r.length-k) 0 ?_ ⟨Aa,λj q=>absurd q Aa⟩ (λk t=>?_);exact zj;obtain⟨t,g⟩:=t;by_cases hkr:k<r.length;rotate_left
  ·have e:k=r.length:=by omega
   subst e;repeat' ((conv=>whnf);first|omega|refine zS ?_|refine zT ?_ ?_<;>intro _|fail)
   all_goals conv=>whnf
   refine⟨(D++[r],R),?_,⟨Au,?_⟩,Ad⟩;exact IW;rw[f,secL,gC5 g,QY,Rj];rfl
  have hm1:(k+1)% r.length<r.length:=SC _ Aa;have hm2:(k+2)% r.length<r.length:=SC _ Aa;have hF:∀x,secV D.length r p k=some x->X=some x:=λx hx=>by rw[f,secL,gD9 hkr g hx];rfl
  have hN1:secV D.length r p k=none->∀j,j<k+1->secV D.length r p j=none:=λh j q=>by
   by_cases e:j=k;subst e;exact h;exact g j Aa
  have hV:secV D.length r p k=open Classical in if r.getD ((k+1)% r.length) z0=p then some (fE8 D.length (vsub (r.getD ((k+2)% r.length) z0) p,vsub (r.getD k z0) p))
   else if r.getD k z0≠p/\eX (r.getD k z0,r.getD ((k+1)% r.length) z0) p then some (fE8 D.length (vsub (r.getD ((k+1)% r.length) z0) (r.getD k z0),vsub (r.getD k z0) (r.getD ((k+1)% r.length) z0)))else none:=rfl
  generalize C:secV D.length r p k=E at*;generalize hva:r.getD k z0=d at*;generalize hvb:r.getD ((k+1)% r.length) z0=vb at*;generalize hvc:r.getD ((k+2)% r.length) z0=vc at*;have c1:=fD vc p;have c2:=fD d p;have c3:=fD vb d;have c4:=fD d vb;have c5:=fN7 (d,vb) p;by_cases n:0<D.length;have hfl:∀x:Sg,fE8 D.length x=(x.2,x.1):=λx=>QU n;exact Nu;have hfl:∀x:Sg,fE8 D.length x=x:=λx=>Q9 n;exact Nu
def gA8(a:bG c)(b:bG s):aO3 c s↔¬rJ c s [2]/\¬bL9 s c 0/\¬bL9 c s 2/\∀p∈rV c++rV s,fH8 c s p:=by
 grind [fI8,fT3,aO3,bD2]
def fR5 c s(b:bG c)(d:bG s):Sp 175 [shV c,shV s] (DB (aO3 c s)):=by
 refine zsp func175 ?_;have G:=fP1 c s b d;have H:=fJ3 s c 0 d b;have J:=fJ3 c s 2 b d;have K:=fG7 c (iT b) b.1;have L:=fG7 s (iT d) d.1;have Z:=cG3 b;have v2:=cG3 d
 have n:∀p∈rV c++rV s,Sm4 p:=λp hp=>by
  rcases Rh.1 hp with hp|hp;exact fI8 b p hp;exact fI8 d p hp
 have f:=gA8 b d;generalize aO3 c s=P at*;generalize rJ c s [2] =U at*;generalize bL9 s c 0=V at*;generalize bL9 c s 2=W at*;generalize rV c=A at*;generalize rV s=B at*;have M:(A.map vcV).length=A.length:=Ad;have N:(B.map vcV).length=B.length:=Ad;repeat' ((conv=>whnf);first|refine zc G ?_|refine zc H ?_|refine zc J ?_|refine zc K ?_|refine zc L ?_|refine iH rfl (.inl rfl) rfl (QV rfl) (aM5 B) (by show(A.map vcV).length+(B.map vcV).length<=1000000000;omega) ?_|refine zS ?_|refine zT ?_ ?_<;>intro _|fail)
 all_goals conv=>whnf
 exact aA (aC (λh=>absurd Ag (f.1 h).1));exact aA (aC (λh=>absurd Ag (f.1 h).2.1));exact aA (aC (λh=>absurd Ag (f.1 h).2.2.1));have m:P↔∀p∈A++B,fH8 c s p:=⟨λh=>(f.1 h).2.2.2,λh=>f.2 ⟨Ag,Ag,Ag,h⟩⟩;clear f;have Q:(A++B).length=A.length+B.length:=QY;have j:A.map vcV++B.map vcV=(A++B).map vcV:=Ad;generalize T:A++B=C at*;have O:(C.map vcV).length=C.length:=Ad;refine aU (A:=List Vc) (B:=List Vc) (λD R=>mkSt [(2, .box 2 0),(3, .box 3 0),(5, .sl (C.map vcV)),(6,I D.length)] [(2,(shV c).cells),(3,(shV s).cells)] []) (λD R=>C=D++R/\∀q∈D,fH8 c s q) (λD R=>R.length) [] C ?_ ⟨rfl,Ad⟩ (λD R hp=>?_);rw[<-j];refine Le.trans (fB (k:=25) rfl (.inl rfl)) ?_;exact zj;obtain⟨hp,hD⟩:=hp;cases R with
 |nil=>
  have i:C.length=D.length:=Ae;repeat' ((conv=>whnf);first|omega|refine zS ?_|refine zT ?_ ?_<;>intro _|fail)
  all_goals conv=>whnf
  refine aA (fE (m.2 λq F=>?_));rw[hp,Rq]at F;exact hD q F
 |cons q R=>
  have i:=aO hp;have e:q∈C:=Ae;have v:=fI3 c q b (n q e);have E:=fI3 s q d (n q e);have o:fH8 c s q↔∀x y,secS c q=some x->secS s q=some y->¬dI3 (x.2,x.1) y:=RU;have a:fH8 c s q->∀z∈D++[q],fH8 c s z:=λh z hz=>Jk;generalize secS c q=X at*;generalize secS s q=Y at*;rcases X with _|x
  ·skip
   repeat' ((conv=>whnf);first|omega|refine cC0 [(2,2),(3,3),(5,999),(6,999),(37,999),(38,999),(39,999),(46,999),(47,999),(48,999),(7,7),(9,9)] Af Ac ?_|refine aB (l:=C) Aa ?_|refine aF (l:=C) (A:=D) (x:=q) (B:=R) hp Aa ?_|refine zc v ?_|refine zc E ?_|refine zS ?_|refine zT ?_ ?_<;>intro _|fail)
   all_goals conv=>whnf
   refine⟨(D++[q],R),?_,⟨Ae,a (o.2 (λu w r=>by cases r))⟩,Ad⟩;exact Nh
  rcases Y with _|y
  ·skip
   repeat' ((conv=>whnf);first|omega|refine cC0 [(2,2),(3,3),(5,999),(6,999),(37,999),(38,999),(39,999),(46,999),(47,999),(48,999),(7,7),(9,9)] Af Ac ?_|refine aB (l:=C) Aa ?_|refine aF (l:=C) (A:=D) (x:=q) (B:=R) hp Aa ?_|refine zc v ?_|refine zc E ?_|refine zS ?_|refine zT ?_ ?_<;>intro _|fail)
   all_goals conv=>whnf
   refine⟨(D++[q],R),?_,⟨Ae,a (o.2 (λu w _ t=>by cases t))⟩,Ad⟩;exact Nh
  have k:=fP9 (x.2,x.1) y
  have g:fH8 c s q↔¬dI3 (x.2,x.1) y:=by
   rw[o];constructor;intro h;exact h x y rfl rfl;intro h u w r t;cases r;cases t;exact h
  generalize dI3 (x.2,x.1) y=S at*;repeat' ((conv=>whnf);first|omega|refine cC0 [(2,2),(3,3),(5,999),(6,999),(37,999),(38,999),(39,999),(46,999),(47,999),(48,999),(7,7),(9,9)] Af Ac ?_|refine aB (l:=C) Aa ?_|refine aF (l:=C) (A:=D) (x:=q) (B:=R) hp Aa ?_|refine zc v ?_|refine zc E ?_|refine zc k ?_|refine zS ?_|refine zT ?_ ?_<;>intro _|fail)
  all_goals conv=>whnf
  all_goals first
   |exact aA (aC (λh=>absurd Ag (g.1 (m.1 h q e))))
   |skip
  refine⟨(D++[q],R),?_,⟨Ae,a (g.2 Ag)⟩,Ad⟩;exact Nh
def fG0 c s(a:gV c)(d:gV s):Sp 123 [shV c,shV s] (.tup [DB (lI c s),I (pO c s)]):=by
 refine zsp func123 ?_;have m1:=aD7 c a;have m2:=aD7 s d;by_cases h1:bG c;by_cases h2:bG s;have e1:DB (lI c s)=DB (aO3 c s):=RI (λb=>V.lit (.bool b)) (fQ ⟨λh=>h.2.2,λh=>⟨h1,h2,h⟩⟩);have e2:pO c s=0:=QU ⟨h1,h2⟩;have m3:=fR5 c s h1 h2;exact O7;exact Ju;exact Jv
def cZ1 c:fnVC T Tryz.prog Tryz.f117 [U c] (.lit (.bool (decB (jA c)))):=by
 repeat' ((conv=>whnf);first|refine zS ?_|refine zT ?_ ?_<;>intro _|fail)
 all_goals conv=>whnf
 all_goals refine aA ?_
 all_goals first
  |exact fE GK
  |(refine le_dec ?_;unfold jA;omega)
  |exact aC GK
def aO8 c:Sp 117 [U c] (.lit (.bool (decB (jA c)))):=zsp func117 (cZ1 c)
def dP4 c:fnVC T Tryz.prog Tryz.f170 [U c] (.lit (.bool (decB (isDigit c)))):=by
 repeat' ((conv=>whnf);first|refine zS ?_|refine zT ?_ ?_<;>intro _|fail)
 all_goals conv=>whnf
 all_goals refine aA ?_
 all_goals first
  |(refine le_dec ?_;unfold isDigit;omega)
  |exact aC (by unfold isDigit;omega)
def cH4 c:Sp 170 [U c] (.lit (.bool (decB (isDigit c)))):=zsp func170 (dP4 c)
def dS9 s(n:s.size<=1000000000):fnVC T Tryz.prog Tryz.f118 [S s,I 0] (I (whS fG s 0)):=by
 repeat' ((conv=>whnf);first|refine zS ?_|fail)
 refine lD (A:=Nat) (λk=>mkSt [(0,S s),(1,I 0),(5,I k)] [] []) (λk=>k<=s.size/\whS fG s k=whS fG s 0) (λk=>s.size-k) 0 ?_ ⟨RY _,rfl⟩ (λk hk=>?_);exact zj;let⟨m,hk⟩:=hk;rcases Sj k s.size with hlt|l
 ·obtain⟨f,i⟩:∃f,s.size-k=f+1:=⟨s.size-k-1,Aa⟩
  have hks:whS fG s k=wh (λj=>decB (fG (byteAt s j))) (f+1) k:=by unfold whS;rw[i]
  have e:((0:Int)+k).toNat=k:=Aa;have c:byteAt s ((0:Int)+k).toNat=byteAt s k:=by rw[e]
  have a:fG (byteAt s k)->whS fG s (k+1)=whS fG s 0:=λh=>by
   rw[<-hk,hks,dG8 (dH.2 h)];unfold whS;rw[show s.size- (k+1)=f from Aa]
  have stop:¬fG (byteAt s k)->(k:Int)=whS fG s 0:=λh=>by
   rw[<-hk,hks,dE4 (dW.2 h)]
  repeat' ((conv=>whnf);first|omega|refine zc (aO8 (byteAt s ((0:Int)+k).toNat)) ?_|refine zc (cH4 (byteAt s ((0:Int)+k).toNat)) ?_|refine zS ?_|refine zd (λd=>?_) (λd=>?_)|refine zl (λhlt=>?_) (λhlt=>?_)|refine ze (λb=>?_) (λb=>?_))
  all_goals rw[c]at*
  conv=>whnf
  refine⟨k+1,?_,⟨Aa,a (.inl d)⟩,Aa⟩;exact zj;conv=>whnf
  refine⟨k+1,?_,⟨Aa,a (.inr (.inl d))⟩,Aa⟩;exact zj;conv=>whnf
  refine⟨k+1,?_,⟨Aa,a (.inr (.inr b))⟩,Aa⟩;exact zj;conv=>whnf
  refine aG (stop ?_);rename_i g;rintro(h|h|h);exact g h;exact d h;exact b h
 have hks:whS fG s k=k:=by unfold whS;rw[show s.size-k=0 from Aa];rfl
 exact OQ
def cO5 s(a:s.size<=1000000000):Sp 118 [S s,I 0] (I (whS fG s 0)):=zsp func118 (dS9 s a)
def dX9(s:ByteArray):fnVC T Tryz.prog Tryz.f77 [S s] (.lit (.bool (decB (iM s)))):=by
 rcases Sj 16 s.size with b|hsm
 ·repeat' ((conv=>whnf);first|omega|refine zS ?_|refine zk (λa=>?_) (λa=>?_))
  all_goals conv=>whnf
  all_goals refine aA ?_
  all_goals exact aC (λh=>by have:=h.2.1;omega)
 repeat' ((conv=>whnf);first|refine cK2 ⟨Aa,Aa⟩ ?_|refine zc (aO8 (byteAt s 0)) ?_|refine zc (cO5 s Aa) ?_|omega|refine zS ?_|refine zd (λhd=>?_) (λhd=>?_)|refine zk (λa=>?_) (λa=>?_))
 conv=>whnf
 refine aA (sK ?_);have hw:=cV4 (λj=>decB (fG (byteAt s j))) s.size 0;have hs0:whS fG s 0=wh (λj=>decB (fG (byteAt s j))) s.size 0:=rfl;exact Ob;conv=>whnf
 exact aA (aC (λh=>hd h.2.2.1));conv=>whnf
 exact aA (aC (λh=>by have:=h.1;omega))
def bD8 s:Sp 77 [S s] (.lit (.bool (decB (iM s)))):=zsp func77 (dX9 s)
def fK9 id g h:Sp 120 [I id,S g,S h] (DB (kZ id g h)):=by
 refine zsp func120 ?_;have b:=bD8 g;have c:=bD8 h;have a:kZ id g h↔1<=id/\id<=1000000/\iM g/\iM h:=RU;generalize kZ id g h=P at*;generalize iM g=d at*;generalize iM h=e at*;repeat' ((conv=>whnf);first|refine zc b ?_|refine zc c ?_|refine zS ?_|refine zT ?_ ?_<;>intro _|fail)
 all_goals conv=>whnf
 all_goals first
  |exact aA (fQ ⟨λh=>a.2 ⟨Aa,Aa,Ag,h⟩,λh=>(a.1 h).2.2.2⟩)
  |exact aA (aC (λh=>by have:=a.1 h;omega))
  |exact aA (aC (λh=>absurd (a.1 h).2.2.1 Ag))
  |exact aA (le_dec ⟨λh=>Aa,λh=>by have:=a.1 h;omega⟩)
def fR3 b(j:b.defects.length<=9223372036854775807):Sp 81 [barV b] (DB (fM b)):=by
 refine zsp func81 ?_;have i:=fK9 b.id b.grade b.heat;have k:(b.defects.map ivV).length=b.defects.length:=Ad;have f:fM b↔kZ b.id b.grade b.heat/\1<=b.length/\b.length<=2000/\b.defects.length<=6/\sU b.length 0 b.defects:=RU;generalize fM b=P at*;generalize kZ b.id b.grade b.heat=m at*;repeat' ((conv=>whnf);first|refine zc i ?_|refine zS ?_|refine zT ?_ ?_<;>intro _|fail)
 all_goals conv=>whnf
 all_goals first
  |exact aA (aC (λh=>by have:=f.1 h;omega))
  |exact aA (aC (λh=>absurd (f.1 h).1 Ag))
  |skip
 have g:P↔sU b.length 0 b.defects:=⟨λh=>(f.1 h).2.2.2.2,λh=>f.2 ⟨Ag,Aa,Aa,Aa,h⟩⟩;clear f;refine oU (A:=Int) (B:=List Iv) (C:=List Iv) (λe D R=>mkSt [(1, .box 1 0),(3,I e),(4,I D.length)] [(1,barC b)] []) (λe D R=>b.defects=D++R/\(P↔sU b.length e R)) (λe D R=>R.length) 0 [] b.defects ?_ ⟨rfl,g⟩ (λe D R hp=>?_);exact zj;let⟨hp,g⟩:=hp;cases R with
 |nil=>
  have c:b.defects.length=D.length:=Ae;clear hp;repeat' ((conv=>whnf);first|omega|refine zS ?_|refine zT ?_ ?_<;>intro _|fail)
  all_goals conv=>whnf
  exact aA (fE (g.2 trivial))
 |cons d R=>
  have c:=aO hp;have a:P↔e<=d.1/\d.1<d.2/\d.2<=b.length/\sU b.length d.2 R:=g;repeat' ((conv=>whnf);first|omega|refine aB (l:=b.defects) Aa ?_|refine aF (l:=b.defects) (A:=D) (x:=d) (B:=R) hp Aa ?_|refine zS ?_|refine zT ?_ ?_<;>intro _|fail)
  all_goals conv=>whnf
  all_goals first
   |exact aA (aC (λh=>by have:=a.1 h;omega))
   |skip
  refine⟨(d.2,D++[d],R),?_,⟨Ae,⟨λh=>(a.1 h).2.2.2,λh=>a.2 ⟨Aa,Aa,Aa,h⟩⟩⟩,Ad⟩;exact Nh
end Go.Proofs.Led
