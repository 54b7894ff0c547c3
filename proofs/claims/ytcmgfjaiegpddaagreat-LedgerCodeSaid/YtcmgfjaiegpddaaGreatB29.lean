/- Lemmas. -/
import Derived.Test.YtcmgfjaiegpddaaGreatB28
set_option linter.all false
set_option maxRecDepth 100000
set_option maxHeartbeats 8000000
noncomputable section
namespace Go.Proofs.Led
open Go Go.Proofs Go.Ab Tryz
def fM3(l:List Rg):∀y∈l.map rgV,y.cells.length=1:=λy hy=>A7
def fE1(s:Sh)(a:gV s):Sp 215 [shV s] (.own 23 ((rings s).map rgV)):=by
 refine zsp func215 ?_;have b:=a.2.1;repeat' ((conv=>whnf);first|refine iH rfl (.inl rfl) rfl (Q9 rfl) (fM3 s.holes) (by show 1+(s.holes.map rgV).length<=1000000000;rw[SG];omega) ?_|refine zS ?_|refine zm (λx c=>?_)|refine zT ?_ ?_<;>intro _|fail)
 all_goals conv=>whnf
 exact PZ
def fT1{r:Rg}(b:bR7 r):∀e∈bF r,bI e:=λe a=>jO b a
def fF2(a b:Rg)(w:a.length<=1000000)(C:b.length<=1000000)(o:bR7 a)(r:bR7 b):Sp 213 [rgV a,rgV b] (DB (¬uV a b)):=by
 refine zsp func213 ?_;have j:=fE7 a w;have n:=fE7 b C;have H:=fT1 o;have J:=fT1 r;have L:(bF a).length<=1000000:=FO;have M:(bF b).length<=1000000:=FO
 have s:(¬uV a b)↔∃x∈bF a,∃y∈bF b,dG x y≠0:=by
  unfold uV;constructor;intro h;by_cases q:∃x∈bF a,∃y∈bF b,dG x y≠0;exact q;exfalso;apply h;intro x c y i;by_cases t:dG x y=0;exact t;exact absurd ⟨x,c,y,i,t⟩ q;rintro⟨x,c,y,i,q⟩ h;exact q (h x c y i)
 generalize (¬uV a b)=P at*;generalize bF a=A at*;generalize bF b=B at*;have u:(A.map sgV).length=A.length:=Af;have v:(B.map sgV).length=B.length:=Af;repeat' ((conv=>whnf);first|omega|refine zc j ?_|refine zc n ?_|refine zS ?_|refine zm (λx c=>?_)|refine zT ?_ ?_<;>intro _|fail)
 refine aU (A:=List Sg) (B:=List Sg) (λD R=>mkSt [(5, .sl (A.map sgV)),(6, .sl (B.map sgV)),(7,I D.length)] [] []) (λD R=>A=D++R/\∀x∈D,∀y∈B,dG x y=0) (λD R=>R.length) [] A ?_ ⟨rfl,Af⟩ (λD R hp=>?_);exact MJ;obtain⟨hp,hD⟩:=hp;cases R with
 |nil=>
  have g:A.length=D.length:=Ae;repeat' ((conv=>whnf);first|omega|refine zS ?_|refine zm (λx c=>?_)|refine zT ?_ ?_<;>intro _|fail)
  all_goals conv=>whnf
  refine aA (aC ?_);rw[s,hp,SB];rintro⟨x,c,y,i,F⟩;exact F (hD x c y i)
 |cons x R=>
  have g:=aO hp;have K:=H x Ae;repeat' ((conv=>whnf);first|omega|refine zS ?_|refine zm (λx c=>?_)|refine zT ?_ ?_<;>intro _|fail)
  refine aU (A:=List Sg) (B:=List Sg) (λE S=>mkSt [(5, .sl (A.map sgV)),(6, .sl (B.map sgV)),(7,I D.length),(8,I E.length)] [] []) (λE S=>B=E++S/\∀y∈E,dG x y=0) (λE S=>S.length) [] B ?_ ⟨rfl,Af⟩ (λE S hq=>?_);exact zj;obtain⟨hq,hE⟩:=hq;cases S with
  |nil=>
   have e:B.length=E.length:=Ap;have hBE:B=E:=Ap;repeat' ((conv=>whnf);first|omega|refine zS ?_|refine zm (λx c=>?_)|refine zT ?_ ?_<;>intro _|fail)
   all_goals conv=>whnf
   refine⟨(D++[x],R),?_,⟨Ae,λz hz=>?_⟩,Af⟩;exact Jg;exact JO
  |cons y S=>
   have e:=aO hq;have G:=fI7 x y K (J y Ap);have f:dG x y≠0->P:=λh=>s.2 ⟨x,Ae,y,Ap,h⟩;have d:dG x y=0->∀z∈E++[y],dG x z=0:=λh z hz=>ML;generalize dG x y=m at*;repeat' ((conv=>whnf);first|omega|refine aB (l:=A) Aa ?_|refine aB (l:=B) Aa ?_|refine aF (l:=A) (A:=D) (x:=x) (B:=R) hp Aa ?_|refine aF (l:=B) (A:=E) (x:=y) (B:=S) hq Aa ?_|refine zc G ?_|refine zS ?_|refine zm (λx c=>?_)|refine zT ?_ ?_<;>intro _|fail)
   all_goals conv=>whnf
   all_goals first
    |exact aA (fE (f Ag))
    |skip
   refine⟨(E++[y],S),?_,⟨Ap,d Ag⟩,Af⟩;exact NQ
def fE4(a b:Rg):Prop:=∃v∈a,fJ b v=2
def dbT{p:Prop}(h:p):DB p= .lit (.bool true):=SK (λb=>V.lit (.bool b)) (dH.2 h)
def dbF{p:Prop}(h:¬p):DB p= .lit (.bool false):=SK (λb=>V.lit (.bool b)) (dW.2 h)
def gJ8{a b:Int}{A B:Prop}(c:a=b->A)(d:a≠b->B):branch (!eqBB (eqB a b) true) B A:=by
 grind [cA1,jU,aA1]
def gJ5{a b:Int}{A B:Prop}(c:a=b->A)(d:a≠b->B):branch (!eqBB (eqB a b) false) A B:=by
 grind [cA1,jU,aA1]
def fI2(a b:Rg)(s:a.length<=1000000)(o:b.length<=1000000)(k:bR7 a):Sp 214 [rgV a,rgV b, .lit (.bool true)] (DB (pR a b 2)):=by
 refine zsp func214 ?_;have r:(a.map vcV).length=a.length:=Af;have m:pR a b 2↔∀v∈a,fJ b v=2:=Tn;generalize pR a b 2=P at*;repeat' ((conv=>whnf);first|refine zS ?_|refine zd (λg=>?_) (λg=>?_)|refine zl (λe=>?_) (λe=>?_)|refine zk (λd=>?_) (λd=>?_)|refine ze (λheq=>?_) (λheq=>?_)|refine zm (λx j=>?_)|refine zb (λc=>?_) (λc=>?_))
 refine aU (A:=List Vc) (B:=List Vc) (λD R=>mkSt [(0,rgV a),(1,rgV b),(2, .lit (.bool true)),(7,I D.length)] [] []) (λD R=>a=D++R/\∀v∈D,fJ b v=2) (λD R=>R.length) [] a ?_ ⟨rfl,Af⟩ (λD R hp=>?_);exact zj;obtain⟨hp,hD⟩:=hp;cases R with
 |nil=>
  have i:a.length=D.length:=Ae;repeat' ((conv=>whnf);first|omega|refine zS ?_|refine zd (λg=>?_) (λg=>?_)|refine zl (λe=>?_) (λe=>?_)|refine zk (λd=>?_) (λd=>?_)|refine ze (λheq=>?_) (λheq=>?_)|refine zm (λx j=>?_)|refine zb (λc=>?_) (λc=>?_))
  all_goals conv=>whnf
  exact aA (fE (m.2 λv hv=>Gt))
 |cons x R=>
  have i:=aO hp;have j:x∈a:=Ae;have n:=fN0 b x o (vN k j);have f:fJ b x≠2->¬P:=λh q=>h (m.1 q x j);have hgood:fJ b x=2->∀v∈D++[x],fJ b v=2:=λh v hv=>Ld;generalize fJ b x=w at*;repeat' ((conv=>whnf);first|omega|refine aB (l:=a) Aa ?_|refine aF (l:=a) (A:=D) (x:=x) (B:=R) hp Aa ?_|refine gJ8 (λheq=>?_) (λheq=>?_)|refine zc n ?_|refine zS ?_|refine zd (λg=>?_) (λg=>?_)|refine zl (λe=>?_) (λe=>?_)|refine zk (λd=>?_) (λd=>?_)|refine ze (λheq=>?_) (λheq=>?_)|refine zm (λx j=>?_)|refine zb (λc=>?_) (λc=>?_))
  all_goals conv=>whnf
  exact KI;exact aA (aC (f heq))
def fE2(a b:Rg)(r:a.length<=1000000)(n:b.length<=1000000)(k:bR7 a):Sp 214 [rgV a,rgV b, .lit (.bool false)] (DB (fE4 a b)):=by
 refine zsp func214 ?_;have o:(a.map vcV).length=a.length:=Af;have hr:fE4 a b↔∃v∈a,fJ b v=2:=Tn;generalize fE4 a b=P at*;repeat' ((conv=>whnf);first|refine zS ?_|refine zd (λg=>?_) (λg=>?_)|refine zl (λe=>?_) (λe=>?_)|refine zk (λd=>?_) (λd=>?_)|refine ze (λheq=>?_) (λheq=>?_)|refine zm (λx j=>?_)|refine zb (λc=>?_) (λc=>?_))
 refine aU (A:=List Vc) (B:=List Vc) (λD R=>mkSt [(0,rgV a),(1,rgV b),(2, .lit (.bool false)),(7,I D.length)] [] []) (λD R=>a=D++R/\∀v∈D,fJ b v≠2) (λD R=>R.length) [] a ?_ ⟨rfl,Af⟩ (λD R hp=>?_);exact zj;obtain⟨hp,hD⟩:=hp;cases R with
 |nil=>
  have i:a.length=D.length:=Ae;repeat' ((conv=>whnf);first|omega|refine zS ?_|refine zd (λg=>?_) (λg=>?_)|refine zl (λe=>?_) (λe=>?_)|refine zk (λd=>?_) (λd=>?_)|refine ze (λheq=>?_) (λheq=>?_)|refine zm (λx j=>?_)|refine zb (λc=>?_) (λc=>?_))
  all_goals conv=>whnf
  exact aA (aC (λh=>Dn))
 |cons x R=>
  have i:=aO hp;have j:x∈a:=Ae;have m:=fN0 b x n (vN k j);have f:fJ b x=2->P:=λh=>hr.2 ⟨x,j,h⟩;have hgood:fJ b x≠2->∀v∈D++[x],fJ b v≠2:=λh v hv=>Ld;generalize fJ b x=w at*;repeat' ((conv=>whnf);first|omega|refine aB (l:=a) Aa ?_|refine aF (l:=a) (A:=D) (x:=x) (B:=R) hp Aa ?_|refine gJ5 (λheq=>?_) (λheq=>?_)|refine zc m ?_|refine zS ?_|refine zd (λg=>?_) (λg=>?_)|refine zl (λe=>?_) (λe=>?_)|refine zk (λd=>?_) (λd=>?_)|refine ze (λheq=>?_) (λheq=>?_)|refine zm (λx j=>?_)|refine zb (λc=>?_) (λc=>?_))
  all_goals conv=>whnf
  exact aA (fE (f heq));exact KI
def xG(h k:Rg):Prop:=uV h k/\¬fE4 h k/\¬fE4 k h
def fK3(o:Rg)(pre:List Rg)(h:Rg):Prop:=dM h/\uV h o/\pR h o 2/\∀k∈pre,xG h k
def fF4(o:Rg):List Rg->List Rg->Prop
 |_,[] =>True
 |pre,h::l=>fK3 o pre h/\fF4 o (pre++[h]) l
def fM6{a b:Rg}(h:Apart a b):¬fE4 a b↔pR a b 0:=by
 unfold fE4 pR;constructor;intro q v hv;rcases cJ3 (r:=b) (v:=v)with k|k|k;exact k;exact absurd ((nZ h.ob (vN h.oa.2.2.1 hv)).1 k) (h.off (vert_onR h.oa hv));exact absurd ⟨v,hv,k⟩ q;rintro q ⟨v,hv,k⟩;have:=q v hv;omega
def gA1{o:Rg}{pre:List Rg}{h:Rg}(l:dM o)(a:∀k∈pre,dM k):fK3 o pre h↔dM h/\cU0 o pre h:=by
 unfold fK3 cU0 xG;constructor;rintro⟨b,e,f,g⟩;refine⟨b,f,e,λk c=>?_⟩;obtain⟨d,i,j⟩:=g k c;have ap:Apart h k:=⟨b,a k c,d⟩;exact⟨d,(fM6 ap).1 i,(fM6 ap.symm).1 j⟩;rintro⟨b,f,e,g⟩;refine⟨b,e,f,λk c=>?_⟩;obtain⟨d,i,j⟩:=g k c;have ap:Apart h k:=⟨b,a k c,d⟩;exact⟨d,(fM6 ap).2 i,(fM6 ap.symm).2 j⟩
theorem fF7{o:Rg}(f:dM o):∀ {l pre:List Rg},(∀k∈pre,dM k)->(fF4 o pre l↔(∀k∈l,dM k)/\qR o pre l)
 | [],pre,_=>⟨λ_=>⟨(λk a=>by cases a),trivial⟩,λ_=>trivial⟩
 |h::l,pre,b=>by
  have g:=gA1 (h:=h) f b;show fK3 o pre h/\fF4 o (pre++[h]) l↔_/\(cU0 o pre h/\qR o (pre++[h]) l);constructor;rintro⟨d,e⟩;obtain⟨c,j⟩:=g.1 d
  obtain⟨m,n⟩:=(fF7 f (pre:=pre++[h]) (λk a=>by
   rcases Sz.1 a with a|a;exact b k a
   rw[S9.1 a];exact c)).1 e
  refine⟨λk a=>?_,j,n⟩;rcases SI.1 a with rfl|a;exact c;exact m k a;rintro⟨d,e,i⟩;have c:=d h Af;refine⟨g.2 ⟨c,e⟩,(fF7 f (pre:=pre++[h]) (λk a=>?_)).2 ⟨λk a=>d k (by simp[a]),i⟩⟩;rcases Sz.1 a with a|a;exact b k a;rw[S9.1 a];exact c
def fM1{s:Sh}:bG s↔s.holes.length<=6/\dM s.outer/\fF4 s.outer [] s.holes/\corners (rings s)<=80:=by
 grind [fF7,bG,rings]
theorem fO1(a b:List Rg):corners (a++b)=corners a+corners b:=GY
theorem fH9(r:Rg)(l:List Rg):corners (r::l)=r.length+corners l:=GY
def fN4:∀ {l:List Rg},(∀r∈l,dM r)->corners l<=40*l.length
 | [],_=>GY
 |r::l,h=>by
  have a:=(h r Af).2.1;have b:=fN4 (l:=l) (λx hx=>h x Ci);rw[fH9,SY];omega
def fK6(r:Rg)(b:r.length<=9223372036854775807):Sp 212 [rgV r] (DB (dM r)):=by
 by_cases h:r.length<=1000000;exact fE9 r h;have e:DB (dM r)= .lit (.bool false):=dbF (λq=>by have:=q.2.1;omega);rw[e];refine zsp func212 ?_;have a:(r.map vcV).length=r.length:=Af;exact Ol
def fQ3(s:Sh)(hs:Fits s):Sp 177 [shV s] (DB (bG s)):=by
 refine zsp func177 ?_;have r:=fM1 (s:=s);have af:(s.holes.map rgV).length=s.holes.length:=Af;have N:=fK6 s.outer hs.1;have ae:=hs.2.1;have G:corners (rings s)=s.outer.length+corners s.holes:=fH9 _ _;rw[G]at r;clear G;generalize bG s=P at*;by_cases C:dM s.outer;rotate_left
 ·rw[dbF C]at N
  repeat' ((conv=>whnf);first|omega|refine zc N ?_|refine zS ?_|refine zm (λx t=>?_)|refine zT ?_ ?_<;>intro _|fail)
  all_goals conv=>whnf
  all_goals first
   |exact aA (aC (λh=>C (r.1 h).2.1))
 rw[dbT C]at N;repeat' ((conv=>whnf);first|omega|refine zc N ?_|refine zS ?_|refine zm (λx t=>?_)|refine zT ?_ ?_<;>intro _|fail)
 all_goals conv=>whnf
 all_goals first
  |exact aA (aC (λh=>by have:=(r.1 h).1;omega))
  |skip
 have ab:=C.2.1;have L:s.outer.length<=1000000:=Aa;have h6:s.holes.length<=6:=Aa;refine aU (A:=List Rg) (B:=List Rg) (λD R=>mkSt [(1, .box 1 0),(3,I ((s.outer.length+corners D:Nat):Int)),(4,I D.length)] [(1,(shV s).cells)] []) (λD R=>s.holes=D++R/\(∀k∈D,dM k)/\(P↔fF4 s.outer D R/\s.outer.length+corners s.holes<=80)) (λD R=>R.length) [] s.holes ?_ ⟨rfl,Af,⟨λh=>(r.1 h).2.2,λh=>r.2 ⟨h6,C,h⟩⟩⟩ (λD R hp=>?_)
 ·refine dV ?_ ?_ ?_ ?_
  all_goals repeat' (first|exact trivial|refine And.intro ?_ ?_|with_reducible rfl|exact(λh=>Ah)|exact Sr _|omega|exact rfl)
  all_goals (rw[SG];rfl)
 clear r;obtain⟨hp,Q,r⟩:=hp;have ad:=fN4 Q;cases R with
 |nil=>
  have K:s.holes.length=D.length:=Ae;have e:s.holes=D:=Ae;have Z:P↔s.outer.length+corners D<=80:=by rw[r,e];exact⟨λh=>h.2,λh=>⟨trivial,h⟩⟩
  repeat' ((conv=>whnf);first|omega|refine zS ?_|refine zm (λx t=>?_)|refine zT ?_ ?_<;>intro _|fail)
  all_goals conv=>whnf
  exact aA (le_dec (by rw[Z];omega))
 |cons h R=>
  have K:=aO hp;have X:h∈s.holes:=Ae;have W:=hs.2.2 h X;have aa:(h.map vcV).length=h.length:=Af;have V:corners (D++[h])=corners D+h.length:=by rw[fO1];unfold corners;simp
  have y:=fK6 h W;have b:P↔(fK3 s.outer D h/\fF4 s.outer (D++[h]) R)/\s.outer.length+corners s.holes<=80:=r;by_cases a:dM h;rotate_left
  ·rw[dbF a]at y
   repeat' ((conv=>whnf);first|omega|refine aB (l:=s.holes) Aa ?_|refine aF (l:=s.holes) (A:=D) (x:=h) (B:=R) hp Aa ?_|refine zc y ?_|refine zS ?_|refine zm (λx t=>?_)|refine zT ?_ ?_<;>intro _|fail)
   all_goals conv=>whnf
   all_goals exact aA (aC (λq=>a (b.1 q).1.1.1))
  rw[dbT a]at y;have ac:=a.2.1;have f:h.length<=1000000:=Aa;have F:=fF2 h s.outer f L a.2.2.1 C.2.2.1;have O:=fI2 h s.outer f L a.2.2.1;by_cases i:uV h s.outer;rotate_left
  ·rw[dbT i]at F
   repeat' ((conv=>whnf);first|omega|refine aB (l:=s.holes) Aa ?_|refine aF (l:=s.holes) (A:=D) (x:=h) (B:=R) hp Aa ?_|refine zc y ?_|refine zc F ?_|refine zS ?_|refine zm (λx t=>?_)|refine zT ?_ ?_<;>intro _|fail)
   all_goals conv=>whnf
   all_goals exact aA (aC (λq=>i (b.1 q).1.1.2.1))
  rw[dbF (λq=>q i)]at F;by_cases j:pR h s.outer 2;rotate_left
  ·rw[dbF j]at O
   repeat' ((conv=>whnf);first|omega|refine aB (l:=s.holes) Aa ?_|refine aF (l:=s.holes) (A:=D) (x:=h) (B:=R) hp Aa ?_|refine zc y ?_|refine zc F ?_|refine zc O ?_|refine zS ?_|refine zm (λx t=>?_)|refine zT ?_ ?_<;>intro _|fail)
   all_goals conv=>whnf
   all_goals exact aA (aC (λq=>j (b.1 q).1.1.2.2.1))
  rw[dbT j]at O;repeat' ((conv=>whnf);first|omega|refine aB (l:=s.holes) Aa ?_|refine aF (l:=s.holes) (A:=D) (x:=h) (B:=R) hp Aa ?_|refine zc y ?_|refine zc F ?_|refine zc O ?_|refine zS ?_|refine zm (λx t=>?_)|refine zT ?_ ?_<;>intro _|fail)
  refine aU (A:=List Rg) (B:=List Rg) (λE S=>mkSt [(1, .box 1 0),(3,I ((s.outer.length+corners (D++[h]):Nat):Int)),(4,I D.length),(5,rgV h),(6,I E.length)] [(1,(shV s).cells)] []) (λE S=>D=E++S/\∀k∈E,xG h k) (λE S=>S.length) [] D ?_ ⟨rfl,Af⟩ (λE S hq=>?_);have e:((s.outer.length+corners (D++[h]):Nat):Int)=((s.outer.length+corners D:Nat):Int)+((h.map vcV).length:Int):=by rw[V,SG];omega
  rw[e];exact zj;obtain⟨hq,hE⟩:=hq;cases S with
  |nil=>
   have w:D.length=E.length:=Ap;have T:D=E:=Ap;have m:∀k∈D,xG h k:=by rw[T];exact hE
   clear hq;repeat' ((conv=>whnf);first|omega|refine zS ?_|refine zm (λx t=>?_)|refine zT ?_ ?_<;>intro _|fail)
   all_goals conv=>whnf
   refine⟨(D++[h],R),?_,⟨Ae,λk H=>?_,⟨λq=>⟨(b.1 q).1.2,(b.1 q).2⟩,λq=>b.2 ⟨⟨⟨a,i,j,m⟩,q.1⟩,q.2⟩⟩⟩,Af⟩;exact Jg;rcases Sz.1 H with H|H;exact Q k H;rw[S9.1 H];exact a
  |cons k S=>
   have w:=aO hq;have J:k∈D:=Ap;have g:=Q k J;have v:k.length<=1000000:=by have:=g.2.1;omega
   have Y:s.holes=E++k::(S++h::R):=by rw[hp,hq];simp
   have q1:=fF2 h k f v a.2.2.1 g.2.2.1;have q2:=fE2 h k f v a.2.2.1;have q3:=fE2 k h v f g.2.2.1;have o:xG h k↔uV h k/\¬fE4 h k/\¬fE4 k h:=Tn;have d:¬xG h k->¬P:=λn q=>n ((b.1 q).1.1.2.2.2 k J)
   have u:xG h k->∀z∈E++[k],xG h z:=λn z M=>by
    rcases Sz.1 M with M|M;exact hE z M;rw[S9.1 M];exact n
   generalize xG h k=pr at*;generalize uV h k=c1 at*;generalize fE4 h k=c2 at*;generalize fE4 k h=c3 at*;repeat' ((conv=>whnf);first|omega|refine aB (l:=s.holes) Aa ?_|refine aF (l:=s.holes) (A:=E) (x:=k) (B:=S++h::R) Y Aa ?_|refine zc q1 ?_|refine zc q2 ?_|refine zc q3 ?_|refine zS ?_|refine zm (λx t=>?_)|refine zT ?_ ?_<;>intro _|fail)
   all_goals conv=>whnf
   all_goals first
    |exact aA (aC (d (λn=>absurd (o.1 n).1 Ag)))
    |exact aA (aC (d (λn=>absurd Ag (o.1 n).2.1)))
    |exact aA (aC (d (λn=>absurd Ag (o.1 n).2.2)))
    |skip
   have U:c1:=by
    by_cases c:c1;exact c;exact absurd c Ag
   refine⟨(E++[k],S),?_,⟨Ap,u (o.2 ⟨U,Ag,Ag⟩)⟩,Af⟩;exact NQ
def aD7(s:Sh)(a:gV s):Sp 177 [shV s] (DB (bG s)):=fQ3 s a.fits
end Go.Proofs.Led
