/- Lemmas. -/
import Derived.Test.YtcmgfjaiegpddaaGreatB8
import Derived.Test.YtcmgfjaiegpddaaGreatB9
set_option linter.all false
set_option maxRecDepth 100000
set_option maxHeartbeats 4000000
noncomputable section
namespace Go.Proofs.Led
open Go Go.Proofs Go.Ab Tryz
def kZ(id:Int)(g h:ByteArray):Prop:=1<=id/\id<=1000000/\iM g/\iM h
def aI6(id:Int)(g h:ByteArray):Sp 110 [.agg [I id,S g,S h]] (DB (kZ id g h)):=by
 refine zsp func110 ?_;have b:=aG6 g;have c:=aG6 h;have a:kZ id g h↔1<=id/\id<=1000000/\iM g/\iM h:=Qn;generalize kZ id g h=P at*;generalize iM g=d at*;generalize iM h=e at*;repeat' ((conv=>whnf);first|refine zc b ?_|refine zc c ?_|refine zS ?_|refine zT ?_ ?_<;>intro _|fail)
 all_goals conv=>whnf
 all_goals first
  |exact aA (fQ ⟨λh=>a.2 ⟨Aa,Aa,Ah,h⟩,λh=>(a.1 h).2.2.2⟩)
  |exact aA (aC (λh=>absurd (a.1 h).2.2.1 Ah))
  |exact aA (aC (λh=>by have:=a.1 h;omega))
  |exact aA (le_dec ⟨λh=>Aa,λh=>by have:=a.1 h;omega⟩)
def cS6(b:Bar):Sp 88 [barV b] (.agg ([I b.id,S b.grade,S b.heat] ++barC b)):=by
 refine zsp func88 ?_;exact N8
def aK4(s:jL):Sp 86 [zJ s] (.agg ([I s.id,S s.grade,S s.heat] ++aA7 s)):=by
 refine zsp func86 ?_;exact N8
def cT8{r:Rg}(a:r≠ []):(wL r).length<=r.length+r.length:=by
 unfold wL;grind
def aU5{s:Sh}(h:bG s):gV (qO s):=by
 have d:∀r∈rings s,(gQ r).length<=1000000:=λr a=>by
  obtain⟨b,c,_⟩:=h.2.1 r a;rw[bJ7 (h.2.1 r a)];have:=cT8 (r:=r) (λe=>by rw[e]at b;simp at b);omega
 rw[aN9 h];refine⟨d s.outer BF,?_,λr a=>?_⟩;unfold wW;rw[cX8,P6];have:=h.1;omega;grind [dB0,wW,rings]
def jV(s:Sh):Prop:=bG s/\s=qO s
def aD5(s:Sh)(c:gV s):Sp 111 [shV s] (DB (jV s)):=by
 refine zsp func111 ?_;have h1:=kK s c;have d:=aU9 s c;by_cases h:bG s
 ·have e:=cQ8 s (qO s) c (aU5 h)
  have a:DB (jV s)=DB (s=qO s):=PN (λb=>V.lit (.bool b)) (fQ ⟨λh=>h.2,λq=>⟨h,q⟩⟩);rw[a];repeat' ((conv=>whnf);first|(exfalso;contradiction)|refine zc h1 ?_|refine zc d ?_|refine zc e ?_|refine zS ?_|refine zT ?_ ?_<;>intro _|fail)
  all_goals exact zE
 have a:DB (jV s)= .lit (.bool false):=PN (λb=>V.lit (.bool b)) (dW.2 (λq=>h q.1));rw[a];exact MC
def dQ(v:Vc):Prop:=0<=min v.1 v.2/\max v.1 v.2<=1900
def mJ(v:Vc):Sp 113 [vcV v] (DB (dQ v)):=by
 refine zsp func113 ?_;have a:dQ v↔0<=min v.1 v.2/\max v.1 v.2<=1900:=Qn;generalize dQ v=P at*;repeat' ((conv=>whnf);first|refine zS ?_|refine zT ?_ ?_<;>intro _|fail)
 all_goals conv=>whnf
 all_goals (try simp only[lH,mG]at*)
 all_goals first
  |exact aA (le_dec ⟨λh=>a.2 ⟨Aa,Aa⟩,λh=>by have:=a.1 h;omega⟩)
  |exact aA (aC (λh=>by have:=a.1 h;omega))
def xH(b:Bx):Prop:=b.1.1<b.2.1/\b.1.2<b.2.2
def bS8(b:Bx):Sp 250 [bxV b] (DB (xH b)):=by
 refine zsp func250 ?_;have a:xH b↔b.1.1<b.2.1/\b.1.2<b.2.2:=Qn;generalize xH b=P at*;repeat' ((conv=>whnf);first|refine zS ?_|refine zT ?_ ?_<;>intro _|fail)
 all_goals conv=>whnf
 all_goals first
  |exact aA (aS1 ⟨λh=>a.2 ⟨Aa,Aa⟩,λh=>by have:=a.1 h;omega⟩)
  |exact aA (aC (λh=>by have:=a.1 h;omega))
def nV(a b:Bx):Bx:=((max a.1.1 b.1.1,max a.1.2 b.1.2),(min a.2.1 b.2.1,min a.2.2 b.2.2))
def cE9(a b:Bx):Sp 252 [bxV a,bxV b] (.tup [bxV (nV a b),DB (xH (nV a b))]):=by
 refine zsp func252 ?_;have c:=bS8 (nV a b);unfold nV at c⊢;simp only[<-mG,<-lH]at c⊢;repeat' ((conv=>whnf);first|refine zc c ?_|refine zS ?_|fail)
 all_goals exact zE
def jT(b:Bx)(by_:Vc):Sh:=qO (sV (vsub b.1 by_) (vsub b.2 by_))
def cW6(lo hi:Vc):gV (sV lo hi):=by
 unfold sV;split;exact⟨by simp[sh0],by simp[sh0],λr a=>by simp[sh0]at a⟩;exact⟨Af,Af,λr a=>by simp at a⟩
def aJ0(b:Bx)(v:Vc):Sp 251 [bxV b,vcV v] (shV (jT b v)):=by
 refine zsp func251 ?_;have a:=fF b.1 v;have c:=fF b.2 v;have d:=cX1 (vsub b.1 v) (vsub b.2 v);have e:=aU9 _ (cW6 (vsub b.1 v) (vsub b.2 v));unfold jT;generalize vsub b.1 v=p at*;generalize vsub b.2 v=q at*;generalize sV p q=r at*;generalize qO r=f at*;repeat' ((conv=>whnf);first|refine zc a ?_|refine zc c ?_|refine zc d ?_|refine zc e ?_|refine zS ?_|fail)
 all_goals exact zE
def sU(len:Int):Int->List Iv->Prop
 |_,[] =>True
 |e,d::R=>e<=d.1/\d.1<d.2/\d.2<=len/\sU len d.2 R
def fM(b:Bar):Prop:=kZ b.id b.grade b.heat/\1<=b.length/\b.length<=2000/\b.defects.length<=6/\sU b.length 0 b.defects
def bV8(D:List Iv):Int:=match D.getLast? with|some d=>d.2|none=>0
theorem bH3(D:List Iv)(d:Iv):bV8 (D++[d])=d.2:=by unfold bV8;simp
def qP(b:Bar)(k:b.defects.length<=1000000):Sp 62 [barV b] (DB (fM b)):=by
 refine zsp func62 ?_;have i:=cS6 b;have j:=aI6 b.id b.grade b.heat;have e:fM b↔kZ b.id b.grade b.heat/\1<=b.length/\b.length<=2000/\b.defects.length<=6/\sU b.length 0 b.defects:=Qn;have hl:(b.defects.map ivV).length=b.defects.length:=Af;generalize fM b=P at*;generalize kZ b.id b.grade b.heat=l at*;repeat' ((conv=>whnf);first|refine zS ?_|refine zT ?_ ?_<;>intro _|fail)
 all_goals conv=>whnf
 all_goals first
  |exact aA (aC (λh=>absurd (e.1 h).1 Ah))
  |exact aA (aC (λh=>by have:=e.1 h;omega))
  |skip
 have g:P↔sU b.length 0 b.defects:=⟨λh=>(e.1 h).2.2.2.2,λh=>e.2 ⟨Ah,Aa,Aa,Aa,h⟩⟩;clear e;refine aU (A:=List Iv) (B:=List Iv) (λD R=>mkSt [(1, .box 1 0),(3,I (bV8 D)),(28, .sl (b.defects.map ivV)),(29,I b.defects.length),(30,I D.length)] [(1,barC b)] []) (λD R=>b.defects=D++R/\(P↔sU b.length (bV8 D) R)) (λD R=>R.length) [] b.defects ?_ ⟨rfl,g⟩ (λD R hp=>?_);exact Ju;obtain⟨hp,f⟩:=hp;cases R with
 |nil=>
  have a:b.defects.length=D.length:=Ad;repeat' ((conv=>whnf);first|omega|refine zS ?_|refine zT ?_ ?_<;>intro _|fail)
  all_goals conv=>whnf
  exact aA (fE (f.2 trivial))
 |cons d R=>
  have a:=aO hp;have c:P↔bV8 D<=d.1/\d.1<d.2/\d.2<=b.length/\sU b.length d.2 R:=f;repeat' ((conv=>whnf);first|omega|refine zS ?_|refine zT ?_ ?_<;>intro _|fail)
  all_goals conv=>whnf
  all_goals first
   |exact aA (aC (λh=>by have:=c.1 h;omega))
   |skip
  refine⟨(D++[d],R),?_,⟨Ad,?_⟩,Af⟩;simp only[bH3,OY,PL];exact Na;show P↔sU b.length (bV8 (D++[d])) R;rw[bH3,c];exact⟨λh=>h.2.2.2,λh=>⟨Aa,Aa,Aa,h⟩⟩
def eY2{g:FuncId}{Q:Int->Prop}(hg:∀m,Sp g (I m:: []) (DB (Q m)))(l:List Int)(b:l.length<=1000000):fnVC T Tryz.prog Tryz.f324 [.sl (l.map I), .fn g []] (I (fstI Q l)):=by
 have a:(l.map I).length=l.length:=Af;repeat' ((conv=>whnf);first|refine zS ?_|fail)
 refine aU (A:=List Int) (B:=List Int) (λD R=>mkSt [(0, .sl (l.map I)),(1, .fn g []),(7,I l.length),(8,I D.length)] [] [])
  (λD R=>l=D++R/\∀m∈D,¬Q m) (λD R=>R.length) [] l ?_ ⟨rfl,Af⟩ (λD R hp=>?_)
 exact zj;exact Hz
def eI6{g:FuncId}{Q:Int->Prop}(a:∀m,Sp g (I m:: []) (DB (Q m)))(l:List Int)(b:l.length<=1000000):Sp 324 [.sl (l.map I), .fn g []] (I (fstI Q l)):=zsp func324 (eY2 a l b)
def eW3{g:FuncId}{Q:Int->Prop}(a:∀m,Sp g (I m:: []) (DB (Q m)))(l:List Int)(b:l.length<=1000000):fnVC T Tryz.prog Tryz.f296 [.sl (l.map I), .fn g []] (DB (∃m∈l,Q m)):=by
 repeat' ((conv=>whnf);first|refine zc (eI6 a l b) ?_|refine zS ?_|fail)
 exact Lp
def eB1{g:FuncId}{Q:Int->Prop}(a:∀m,Sp g (I m:: []) (DB (Q m)))(l:List Int)(b:l.length<=1000000):Sp 296 [.sl (l.map I), .fn g []] (DB (∃m∈l,Q m)):=zsp func296 (eW3 a l b)
def dR5(n:Int):Sp 297 [I n] (DB (n<1\/1000000<n)):=by
 refine zsp func297 ?_;repeat' ((conv=>whnf);first|refine zS ?_|refine zT ?_ ?_<;>intro _|fail)
 all_goals conv=>whnf
 all_goals first
  |exact aA (fE Aa)
  |exact aA (aS1 ⟨λh=>Aa,λh=>Aa⟩)
def nC(n:Int):Prop:=1<=n/\n<=1000000
def cV8(n:Int):Sp 249 [.sl [I n]] (DB (nC n)):=by
 refine zsp func249 ?_;have c:=eB1 (g:=297) (Q:=λn=>n<1\/1000000<n) (λm=>dR5 m) [n] Af;have d:DB (∃m∈[n],m<1\/1000000<m)=DB (n<1\/1000000<n):=PN (λb=>V.lit (.bool b)) (fQ ⟨λ⟨m,h,a⟩=>by rw[Py.1 h]at a;exact a,λh=>⟨n,Af,h⟩⟩);rw[d]at c;repeat' ((conv=>whnf);first|refine zS ?_|fail)
 all_goals conv=>whnf
 all_goals exact aA (aF6 (dW.trans ⟨λh=>by unfold nC;omega,λh=>by unfold nC at h;omega⟩))
def qQ(s d:Sh):Prop:=jV d/\pO s d=0/\lI s d
def dB(s:jL):Prop:=kZ s.id s.grade s.heat/\0<=s.grain/\s.grain<=2/\jV s.shape/\s.defects.length<=6/\dQ (boxS s.shape).1.1/\dQ (boxS s.shape).1.2/\∀d∈s.defects,qQ s.shape d
def tN(s:jL):Prop:=Fits s.shape/\s.defects.length<=1000000/\∀d∈s.defects,Fits d
def fits_sized{s:jL}(h:lK s):tN s:=⟨h.1.fits,h.2.1,λd a=>(h.2.2 d a).fits⟩
def aO1(s:Sh)(c:Fits s):Sp 111 [shV s] (DB (jV s)):=by
 by_cases h:bG s;exact aD5 s (iT h);have h1:=wQ s c;have a:DB (jV s)= .lit (.bool false):=PN (λb=>V.lit (.bool b)) (dW.2 (λq=>h q.1));rw[a];refine zsp func111 ?_;exact MC
def cA3(c s:Sh)(d:bG c)(g:Fits s):Sp 114 [shV c,shV s] (.tup [DB (lI c s),I (pO c s)]):=by
 by_cases a:bG s;exact aA6 c s (iT d) (iT a);have m1:=wQ c (iT d).fits;have m2:=wQ s g;have e:DB (lI c s)= .lit (.bool false):=PN (λb=>V.lit (.bool b)) (dW.2 (λh=>a h.2.1));have f:pO c s=11:=Ph (λh=>a h.2);rw[e,f];refine zsp func114 ?_;exact Nj
def aR2(s:jL)(F:tN s):Sp 61 [zJ s] (DB (dB s)):=by
 refine zsp func61 ?_;obtain⟨n,G,g⟩:=F;have q:=aK4 s;have r:=aI6 s.id s.grade s.heat;have t:=aO1 s.shape n;by_cases c:jV s.shape;rotate_left
 ·have a:dB s->kZ s.id s.grade s.heat/\0<=s.grain/\s.grain<=2/\jV s.shape:=λh=>⟨h.1,h.2.1,h.2.2.1,h.2.2.2.1⟩
  generalize dB s=P at*;generalize kZ s.id s.grade s.heat=H at*;generalize jV s.shape=J at*;repeat' ((conv=>whnf);first|(exfalso;contradiction)|refine zc q ?_|refine zc r ?_|refine zc t ?_|refine zS ?_|refine zT ?_ ?_<;>intro _|fail)
  all_goals conv=>whnf
  all_goals exact aA (aC (λh=>c (a h).2.2.2))
 have f:=c.1;have o:=iT f;have y:=aS0 s.shape o;have C:=mJ (boxS s.shape).1.1;have E:=mJ (boxS s.shape).1.2;have a:dB s↔kZ s.id s.grade s.heat/\0<=s.grain/\s.grain<=2/\jV s.shape/\s.defects.length<=6/\dQ (boxS s.shape).1.1/\dQ (boxS s.shape).1.2/\∀d∈s.defects,qQ s.shape d:=Qn;have hl:(s.defects.map shV).length=s.defects.length:=Af;have m:∀d,qQ s.shape d↔jV d/\pO s.shape d=0/\lI s.shape d:=λd=>Qn;generalize dB s=P at*;generalize kZ s.id s.grade s.heat=H at*;generalize jV s.shape=J at*;generalize dQ (boxS s.shape).1.1=K at*;generalize dQ (boxS s.shape).1.2=L at*;repeat' ((conv=>whnf);first|refine zc q ?_|refine zc r ?_|refine zc t ?_|refine zc y ?_|refine zc C ?_|refine zc E ?_|refine zS ?_|refine zT ?_ ?_<;>intro _|fail)
 all_goals conv=>whnf
 all_goals first
  |exact aA (aC (λh=>absurd (a.1 h).1 Ah))
  |exact aA (aC (λh=>absurd (a.1 h).2.2.2.1 Ah))
  |exact aA (aC (λh=>absurd (a.1 h).2.2.2.2.2.1 Ah))
  |exact aA (aC (λh=>absurd (a.1 h).2.2.2.2.2.2.1 Ah))
  |exact aA (aC (λh=>by have:=(a.1 h).2.1;have:=(a.1 h).2.2.1;have:=(a.1 h).2.2.2.2.1;omega))
  |skip
 have j:P↔∀d∈s.defects,qQ s.shape d:=⟨λh=>(a.1 h).2.2.2.2.2.2.2,λh=>a.2 ⟨Ah,Aa,Aa,Ah,Aa,Ah,Ah,h⟩⟩;clear a;refine aU (A:=List Sh) (B:=List Sh) (λD R=>mkSt [(1, .box 1 0),(53, .sl (s.defects.map shV)),(54,I s.defects.length),(55,I D.length)] [(1,aA7 s)] []) (λD R=>s.defects=D++R/\∀d∈D,qQ s.shape d) (λD R=>R.length) [] s.defects ?_ ⟨rfl,Af⟩ (λD R hp=>?_);exact Ju;obtain⟨hp,u⟩:=hp;cases R with
 |nil=>
  have e:s.defects.length=D.length:=Ad;repeat' ((conv=>whnf);first|omega|refine zS ?_|refine zT ?_ ?_<;>intro _|fail)
  all_goals conv=>whnf
  refine aA (fE (j.2 λd h=>?_));rw[hp,Pz]at h;exact u d h
 |cons d R=>
  have e:=aO hp;have b:d∈s.defects:=Ad;have v:=cA3 s.shape d f (g d b);have w:=aO1 d (g d b);have k:=m d;generalize jV d=M at*;generalize pO s.shape d=N at*;generalize lI s.shape d=O at*;repeat' ((conv=>whnf);first|omega|refine aB (l:=s.defects) Aa ?_|refine aF (l:=s.defects) (A:=D) (x:=d) (B:=R) hp Aa ?_|refine zc v ?_|refine zc w ?_|refine zS ?_|refine zT ?_ ?_<;>intro _|fail)
  all_goals conv=>whnf
  all_goals first
   |exact aA (aC (λh=>absurd (k.1 (j.1 h d b)).1 Ah))
   |exact aA (aC (λh=>absurd (k.1 (j.1 h d b)).2.1 Ah))
   |exact aA (aC (λh=>absurd (k.1 (j.1 h d b)).2.2 Ah))
   |skip
  refine⟨(D++[d],R),?_,⟨Ad,λz i=>?_⟩,Af⟩;exact Ih;rcases Pv.1 i with i|i;exact u z i;rw[Py.1 i];exact k.2 ⟨Ah,Ah,Ah⟩
def nU(s:jL)(a:lK s):Sp 61 [zJ s] (DB (dB s)):=aR2 s (fits_sized a)
def aK2(b:Bx)(d:Sh):List Sh:=open Classical in if xH (nV (boxS d).1 b)then [jT (nV (boxS d).1 b) b.1]else []
def kJ(b:Bx)(l:List Sh):List Sh:=l.flatMap (aK2 b)
def remE(s:jL)(b:Bx)(id:Int):Int:=open Classical in
 if¬dB s then 1 else if¬(nC id/\xH b/\dQ b.1/\dQ b.2)then 2 else if¬lI s.shape (jT b (0,0))then 13 else 0
def remS(s:jL)(b:Bx)(id:Int):jL:=if remE s b id=0 then⟨id,s.grade,s.heat,s.grain,jT b b.1,kJ b s.defects⟩else dN
theorem aD2(b:Bx)(v:Vc):gV (jT b v):=by
 unfold jT;by_cases h:bG (sV (vsub b.1 v) (vsub b.2 v));exact aU5 h;rw[bH5 h];exact⟨by simp[sh0],by simp[sh0],λr a=>by simp[sh0]at a⟩
def bX0(b:Bx)(D:List Sh)(d:Sh):kJ b (D++[d])=kJ b D++aK2 b d:=by unfold kJ;simp
def yK(b:Bx):∀D:List Sh,(kJ b D).length<=D.length
 | [] =>Po _
 |d::D=>by
  have h:=yK b D;grind [OY,PE,aK2,kJ]
def aB2(s:jL)(b:Bx)(id:Int)(r:Sh)(X:List Sh)(n:Int):St:=match X with
 | [] =>mkSt [(3, .box 3 0),(4, .box 4 0),(6, .box 6 0),(7,I 0),(10, .box 10 0),(68, .sl (s.defects.map shV)),(69,I s.defects.length),(70,I n)]
   [(3,aA7 s),(4,(bxV b).cells),(6,[I 0,S aI,S aI,I 0,nilV,nilV,nilV]),(10,[I id,S s.grade,S s.heat,I s.grain,rgV r.outer, .sl (r.holes.map rgV),nilV])] []
 |x::X=>mkSt [(3, .box 3 0),(4, .box 4 0),(6, .box 6 0),(7,I 0),(10, .box 10 0),(68, .sl (s.defects.map shV)),(69,I s.defects.length),(70,I n)]
  [(3,aA7 s),(4,(bxV b).cells),(6,[I 0,S aI,S aI,I 0,nilV,nilV,nilV]),(10,[I id,S s.grade,S s.heat,I s.grain,rgV r.outer, .sl (r.holes.map rgV), .arr 93 X.length])] [(93,⟨X.length, .own,26,(x::X).map shV⟩)]
def cD5(s:jL)(b:Bx)(id:Int)(r:lK s):Sp 203 [zJ s,bxV b,I id] (.tup [zJ (remS s b id),I (remE s b id)]):=by
 refine zsp func203 ?_;have h1:=nU s r;have w:=cV8 id;have y:=bS8 b;have z:=mJ b.1;have C:=mJ b.2;have J:=aJ0 b (0,0);have K:=aA6 s.shape (jT b (0,0)) r.1 (aD2 b (0,0));have N:=aJ0 b b.1;by_cases q:dB s;rotate_left;have e1:remE s b id=1:=by unfold remE;rw[Pm q]
 have i:remS s b id=dN:=CX;rw[e1,i];exact MC;by_cases v:nC id/\xH b/\dQ b.1/\dQ b.2;rotate_left
 ·have e1:remE s b id=2:=by unfold remE;rw[Ph (λh=>h q),Pm v]
  have i:remS s b id=dN:=CX;rw[e1,i];repeat' ((conv=>whnf);first|(exfalso;contradiction)|(exfalso;exact v ⟨Ah,Ah,Ah,Ah⟩)|refine zc h1 ?_|refine zc w ?_|refine zc y ?_|refine zc z ?_|refine zc C ?_|refine zS ?_|refine zT ?_ ?_<;>intro _|fail)
  all_goals exact zE
 obtain⟨j,k,m,n⟩:=v;by_cases G:lI s.shape (jT b (0,0));rotate_left
 ·have e1:remE s b id=13:=by unfold remE;rw[Ph (λh=>h q),Ph (λh=>h ⟨j,k,m,n⟩),Pm G]
  have i:remS s b id=dN:=CX;rw[e1,i];repeat' ((conv=>whnf);first|(exfalso;contradiction)|refine zc h1 ?_|refine zc w ?_|refine zc y ?_|refine zc z ?_|refine zc C ?_|refine zc J ?_|refine zc K ?_|refine zS ?_|refine zT ?_ ?_<;>intro _|fail)
  all_goals exact zE
 have e1:remE s b id=0:=by unfold remE;rw[Ph (λh=>h q),Ph (λh=>h ⟨j,k,m,n⟩),Ph (λh=>h G)]
 have i:remS s b id=⟨id,s.grade,s.heat,s.grain,jT b b.1,kJ b s.defects⟩:=by unfold remS;rw[Pm e1]
 rw[e1,i];have hl:(s.defects.map shV).length=s.defects.length:=Af;generalize jT b b.1=c at*;generalize jT b (0,0)=Q at*;repeat' ((conv=>whnf);first|(exfalso;contradiction)|refine zc h1 ?_|refine zc w ?_|refine zc y ?_|refine zc z ?_|refine zc C ?_|refine zc J ?_|refine zc K ?_|refine zc N ?_|refine zS ?_|refine zT ?_ ?_<;>intro _|fail)
 all_goals conv=>whnf
 refine aU (A:=List Sh) (B:=List Sh) (λD R=>aB2 s b id c (kJ b D) D.length) (λD R=>s.defects=D++R) (λD R=>R.length) [] s.defects ?_ rfl (λD R hp=>?_);show Le T _ (aB2 s b id c [] 0);exact LK;have O:=yK b D;have P:=r.2.1;cases R with
 |nil=>
  have e:s.defects=D:=Ad;have o:s.defects.length=D.length:=by rw[e]
  rw[e];generalize kJ b D=X at*;cases X with
  |nil=>exact JO
  |cons x X=>exact JO
 |cons d R=>
  have o:=aO hp;have E:d∈s.defects:=Ad;have t:=aS0 d (r.2.2 d E);have u:=cE9 (boxS d).1 b;have M:=aJ0 (nV (boxS d).1 b) b.1;have a:=bX0 b D d;have g:((D++[d]).length:Int)=(D.length:Int)+1:=Af;have f:aK2 b d=(open Classical in if xH (nV (boxS d).1 b)then [jT (nV (boxS d).1 b) b.1]else []):=rfl;generalize kJ b D=X at*;generalize nV (boxS d).1 b=H at*;generalize jT H b.1=rr at*;by_cases L:xH H
  ·rw[Pm L]at f
   rw[f]at a;cases X with
   |nil=>
    repeat' ((conv=>whnf);first|(exfalso;contradiction)|omega|refine aB (l:=s.defects) Aa ?_|refine aF (l:=s.defects) (A:=D) (x:=d) (B:=R) hp Aa ?_|refine zc t ?_|refine zc u ?_|refine zc M ?_|refine gX (OZ rfl) (dA rfl) (OZ rfl) ?_|refine zS ?_|refine zT ?_ ?_<;>intro _|fail)
    all_goals conv=>whnf
    refine⟨(D++[d],R),?_,Ad,Af⟩;show Le T _ (aB2 s b id c (kJ b (D++[d])) (D++[d]).length);rw[a,g];show Le T _ (aB2 s b id c [rr] _);exact zj
   |cons x X=>
    have F:(x::X).length=X.length+1:=rfl;repeat' ((conv=>whnf);first|(exfalso;contradiction)|omega|refine aB (l:=s.defects) Aa ?_|refine aF (l:=s.defects) (A:=D) (x:=d) (B:=R) hp Aa ?_|refine zc t ?_|refine zc u ?_|refine zc M ?_|refine iH rfl (.inl rfl) rfl (OZ rfl) (dA rfl) (show((x::X).map shV).length+1<=1000000000 by rw[P6];omega) ?_|refine zS ?_|refine zT ?_ ?_<;>intro _|fail)
    all_goals conv=>whnf
    refine⟨(D++[d],R),?_,Ad,Af⟩;show Le T _ (aB2 s b id c (kJ b (D++[d])) (D++[d]).length);rw[a,g];show Le T _ (aB2 s b id c (x::(X++[rr])) _);unfold aB2;exact MN
  rw[Ph L]at f;rw[f,Pz]at a;cases X with
  |nil=>
   repeat' ((conv=>whnf);first|(exfalso;contradiction)|omega|refine aB (l:=s.defects) Aa ?_|refine aF (l:=s.defects) (A:=D) (x:=d) (B:=R) hp Aa ?_|refine zc t ?_|refine zc u ?_|refine zS ?_|refine zT ?_ ?_<;>intro _|fail)
   all_goals conv=>whnf
   refine⟨(D++[d],R),?_,Ad,Af⟩;show Le T _ (aB2 s b id c (kJ b (D++[d])) (D++[d]).length);rw[a,g];show Le T _ (aB2 s b id c [] _);exact zj
  |cons x X=>
   have F:(x::X).length=X.length+1:=rfl;repeat' ((conv=>whnf);first|(exfalso;contradiction)|omega|refine aB (l:=s.defects) Aa ?_|refine aF (l:=s.defects) (A:=D) (x:=d) (B:=R) hp Aa ?_|refine zc t ?_|refine zc u ?_|refine zS ?_|refine zT ?_ ?_<;>intro _|fail)
   all_goals conv=>whnf
   refine⟨(D++[d],R),?_,Ad,Af⟩;show Le T _ (aB2 s b id c (kJ b (D++[d])) (D++[d]).length);rw[a,g];show Le T _ (aB2 s b id c (x::X) _);exact zj
def pJ(s:jL):Prop:=s.id=0/\s.grade=aI/\s.heat=aI/\s.grain=0/\s.shape.outer.length=0/\s.shape.holes.length=0/\s.defects.length=0
def yT(b:Bar):Prop:=b.id=0/\b.grade=aI/\b.heat=aI/\b.length=0/\b.defects.length=0
def cV3(b:Bar):Sp 27 [barV b] (DB (yT b)):=by
 refine zsp func27 ?_;have a:yT b↔b.id=0/\b.grade=aI/\b.heat=aI/\b.length=0/\b.defects.length=0:=Qn;generalize yT b=P at*;have d:(b.defects.map ivV).length=b.defects.length:=Af;repeat' ((conv=>whnf);first|refine jI (λc=>?_) (λc=>?_)|refine zS ?_|refine zT ?_ ?_<;>intro _|fail)
 all_goals conv=>whnf
 all_goals first
  |exact aA (sK ⟨λh=>a.2 ⟨Aa,Ah,Ah,Aa,Aa⟩,λh=>by have:=(a.1 h).2.2.2.2;omega⟩)
  |exact aA (aC (λh=>by have:=(a.1 h);omega))
  |exact aA (aC (λh=>absurd (a.1 h).2.1 Ah))
  |exact aA (aC (λh=>absurd (a.1 h).2.2.1 Ah))
def aW0(n:Int):Sp 118 [I n] (DB (nC n)):=by
 refine zsp func118 ?_;repeat' ((conv=>whnf);first|refine zS ?_|refine zT ?_ ?_<;>intro _|fail)
 all_goals conv=>whnf
 all_goals first
  |exact aA (le_dec ⟨λh=>⟨Aa,Aa⟩,λh=>h.2⟩)
  |exact aA (aC (λh=>by have:=h.1;omega))
def fC6(b:Bool):Int:=if b then 1 else 0
def oL(b:Bool):Sp 82 [B b] (I (fC6 b)):=by
 refine zsp func82 ?_;cases b;exact zF;exact zF
def sid(x:aN):Int:=if x.isBar then x.bar.id else x.sheet.id
def aE2(x:aN):Sp 156 [aQ x] (I (sid x)):=by
 refine zsp func156 ?_;exact OQ
def eY(x:aN):Prop:=lK x.sheet/\x.bar.defects.length<=1000000
def gG(x:aN):Int:=if x.isBar then x.bar.length else uK x.sheet.shape
def vF(x:aN)(a:eY x):Sp 83 [aQ x] (I (gG x)):=by
 refine zsp func83 ?_;have c:=cG8 x.sheet.shape a.1.1;exact OQ
theorem eqBx(a b c d e f g i:Int):eqT T 4 86 [I a,I b,I c,I d] [I e,I f,I g,I i] =some (andB (andB (eqB a e) (andB (eqB b f) true)) (andB (andB (eqB c g) (andB (eqB d i) true)) true)):=Ac
def cC5{a b c d e f g i:Int}{K:Bool->Prop}(h:K (andB (andB (eqB a e) (andB (eqB b f) true)) (andB (andB (eqB c g) (andB (eqB d i) true)) true))):aL1.match_1 (λ_=>Prop) (eqT T 4 86 [I a,I b,I c,I d] [I e,I f,I g,I i]) K (λ_=>False):=by
 rw[eqBx];exact h
def eV4{a b:Bx}:andB (andB (eqB a.1.1 b.1.1) (andB (eqB a.1.2 b.1.2) true)) (andB (andB (eqB a.2.1 b.2.1) (andB (eqB a.2.2 b.2.2) true)) true)=true↔a=b:=by
 obtain⟨⟨c,d⟩,⟨e,f⟩⟩:=a;obtain⟨⟨g,h⟩,⟨i,j⟩⟩:=b;simp_all [Px,aA1,and_true,andB]
def cA4{a b:Bx}{A B:Prop}(c:a=b->A)(d:a≠b->B):branch (andB (andB (eqB a.1.1 b.1.1) (andB (eqB a.1.2 b.1.2) true)) (andB (andB (eqB a.2.1 b.2.1) (andB (eqB a.2.2 b.2.2) true)) true)) A B:=
 jU (λh=>c (eV4.1 h)) (λh=>d (λe=>by rw[eV4.2 e]at h;cases h))
def bx0:Bx:=((0,0),(0,0))
def aH0(r:Rest)(d:Iv):List Iv:=if max d.1 r.lo<min d.2 r.hi then [(W (max d.1 r.lo-r.lo),W (min d.2 r.hi-r.lo))]else []
def kH(r:Rest)(l:List Iv):List Iv:=l.flatMap (aH0 r)
def cK9(r:Rest)(D:List Iv)(d:Iv):kH r (D++[d])=kH r D++aH0 r d:=by unfold kH;simp
def aG5(r:Rest):∀D:List Iv,(kH r D).length<=D.length
 | [] =>Po _
 |d::D=>by
  have h:=aG5 r D;grind [OY,PE,aH0,kH]
def iG(x:aN)(r:Rest):Int:=
 if x.isBar=false then(if r.lo≠0\/r.hi≠0 then 1 else remE x.sheet r.box r.id)
 else if r.box≠bx0 then 1 else if r.lo<0\/r.hi<=r.lo\/x.bar.length<r.hi then 2 else 0
def dZ(x:aN)(r:Rest):aN:=
 if x.isBar=false then(if r.lo≠0\/r.hi≠0 then wS else⟨false,remS x.sheet r.box r.id,bar0,aI⟩)
 else if iG x r=0 then⟨true,dN,⟨r.id,x.bar.grade,x.bar.heat,W (r.hi-r.lo),kH r x.bar.defects⟩,aI⟩else wS
abbrev dA5:List V:=[B false,I 0,S aI,S aI,I 0,nilV,nilV,nilV,I 0,S aI,S aI,I 0,nilV,S aI]
def aB6(c:List V)(br:Bar)(r:Rest)(X:List Iv)(n:Int):St:=match X with
 | [] =>mkSt [(2, .box 2 0),(3, .box 3 0),(4, .box 4 0),(8, .box 8 0),(78, .sl (br.defects.map ivV)),(79,I br.defects.length),(80,I n)]
   [(2,c),(3,(bY r).cells),(4,dA5),(8,[I r.id,S br.grade,S br.heat,I (W (r.hi-r.lo)),nilV])] []
 |y::X=>mkSt [(2, .box 2 0),(3, .box 3 0),(4, .box 4 0),(8, .box 8 0),(78, .sl (br.defects.map ivV)),(79,I br.defects.length),(80,I n)]
  [(2,c),(3,(bY r).cells),(4,dA5),(8,[I r.id,S br.grade,S br.heat,I (W (r.hi-r.lo)), .arr 109 X.length])] [(109,⟨X.length, .own,64,(y::X).map ivV⟩)]
def dL8(x:aN)(r:Rest)(v:eY x):Sp 162 [aQ x,bY r] (.tup [aQ (dZ x r),I (iG x r)]):=by
 refine zsp func162 ?_;have w:=cD5 x.sheet r.box r.id v.1;cases i:x.isBar with
 |false=>
  by_cases c1:r.lo≠0\/r.hi≠0;have e1:iG x r=1:=by unfold iG;rw[Pm i,Pm c1]
  have g:dZ x r=wS:=by unfold dZ;rw[Pm i,Pm c1]
  rw[e1,g];obtain⟨b,s,c,p⟩:=x;cases i;exact zF;have e1:iG x r=remE x.sheet r.box r.id:=by unfold iG;rw[Pm i,Ph c1]
  have g:dZ x r=⟨false,remS x.sheet r.box r.id,bar0,aI⟩:=by unfold dZ;rw[Pm i,Ph c1]
  rw[e1,g];obtain⟨b,s,c,p⟩:=x;cases i;generalize remS s r.box r.id=C at*;generalize remE s r.box r.id=E at*;exact zF
 |true=>
  have o:¬x.isBar=false:=by rw[i];decide
  have c1:¬(x.isBar=false):=o;by_cases m:r.box=bx0;rotate_left
  ·have e1:iG x r=1:=by unfold iG;rw[Ph c1,Pm m]
   have g:dZ x r=wS:=Eo;rw[e1,g];obtain⟨b,s,c,p⟩:=x;cases i;repeat' ((conv=>whnf);first|(exfalso;contradiction)|refine cC5 ?_|refine cA4 (a:=r.box) (b:=bx0) (λhv=>?_) (λhv=>?_)|refine zS ?_|fail)
   all_goals exact zE
  by_cases n:r.lo<0\/r.hi<=r.lo\/x.bar.length<r.hi
  ·have e1:iG x r=2:=by unfold iG;rw[Ph c1,Ph (λh=>h m),Pm n]
   have g:dZ x r=wS:=Eo;rw[e1,g];obtain⟨b,s,c,p⟩:=x;cases i;repeat' ((conv=>whnf);first|(exfalso;contradiction)|omega|refine cC5 ?_|refine cA4 (a:=r.box) (b:=bx0) (λhv=>?_) (λhv=>?_)|refine zS ?_|refine zT ?_ ?_<;>intro _|fail)
   all_goals exact zE
  have e1:iG x r=0:=by unfold iG;rw[Ph c1,Ph (λh=>h m),Ph n]
  have g:dZ x r=⟨true,dN,⟨r.id,x.bar.grade,x.bar.heat,W (r.hi-r.lo),kH r x.bar.defects⟩,aI⟩:=by unfold dZ;rw[Ph c1,Pm e1]
  rw[e1,g];have hl:(x.bar.defects.map ivV).length=x.bar.defects.length:=Af;have q:=v.2;obtain⟨b,s,c,p⟩:=x;cases i;repeat' ((conv=>whnf);first|(exfalso;contradiction)|omega|refine cC5 ?_|refine cA4 (a:=r.box) (b:=bx0) (λhv=>?_) (λhv=>?_)|refine zS ?_|refine zT ?_ ?_<;>intro _|fail)
  all_goals conv=>whnf
  clear e1 g w;simp only at hl q n;refine aU (A:=List Iv) (B:=List Iv) (λD R=>aB6 (gB ⟨true,s,c,p⟩) c r (kH r D) D.length) (λD R=>c.defects=D++R) (λD R=>R.length) [] c.defects ?_ rfl (λD R hp=>?_);show Le T _ (aB6 (gB ⟨true,s,c,p⟩) c r [] 0);exact LK;have z:=aG5 r D;cases R with
  |nil=>
   have e:c.defects=D:=Ad;have l:c.defects.length=D.length:=by rw[e]
   simp only;rw[e];generalize kH r D=X at*;cases X with
   |nil=>
    exact zF
   |cons y X=>
    exact zF
  |cons d R=>
   have l:=aO hp;have f:=cK9 r D d;have j:((D++[d]).length:Int)=(D.length:Int)+1:=Af;generalize kH r D=X at*;by_cases u:max d.1 r.lo<min d.2 r.hi
   ·have k:aH0 r d=[(W (maxI d.1 r.lo-r.lo),W (minI d.2 r.hi-r.lo))] :=by unfold aH0;rw[Pm u,mG,lH]
    rw[k]at f;cases X with
    |nil=>
     repeat' ((conv=>whnf);first|omega|(exfalso;simp only[mG,lH]at*;omega)|refine gX (OZ rfl) (dA rfl) (OZ rfl) ?_|refine zS ?_|refine zT ?_ ?_<;>intro _|fail)
     all_goals conv=>whnf
     refine⟨(D++[d],R),?_,Ad,Af⟩;show Le T _ (aB6 (gB ⟨true,s,c,p⟩) c r (kH r (D++[d])) (D++[d]).length);rw[f,j];show Le T _ (aB6 (gB ⟨true,s,c,p⟩) c r [_] _);exact zj
    |cons y X=>
     have t:(y::X).length=X.length+1:=rfl;repeat' ((conv=>whnf);first|omega|(exfalso;simp only[mG,lH]at*;omega)|refine iH rfl (.inl rfl) rfl (OZ rfl) (dA rfl) (show((y::X).map ivV).length+1<=1000000000 by rw[P6];omega) ?_|refine zS ?_|refine zT ?_ ?_<;>intro _|fail)
     all_goals conv=>whnf
     refine⟨(D++[d],R),?_,Ad,Af⟩;show Le T _ (aB6 (gB ⟨true,s,c,p⟩) c r (kH r (D++[d])) (D++[d]).length);rw[f,j];show Le T _ (aB6 (gB ⟨true,s,c,p⟩) c r (y::(X++[_])) _);unfold aB6;exact MN
   have k:aH0 r d=[] :=by unfold aH0;rw[Ph u]
   rw[k,Pz]at f;cases X with
   |nil=>
    repeat' ((conv=>whnf);first|omega|(exfalso;simp only[mG,lH]at*;omega)|refine zS ?_|refine zT ?_ ?_<;>intro _|fail)
    all_goals conv=>whnf
    refine⟨(D++[d],R),?_,Ad,Af⟩;show Le T _ (aB6 (gB ⟨true,s,c,p⟩) c r (kH r (D++[d])) (D++[d]).length);rw[f,j];show Le T _ (aB6 (gB ⟨true,s,c,p⟩) c r [] _);exact zj
   |cons y X=>
    have t:(y::X).length=X.length+1:=rfl;repeat' ((conv=>whnf);first|omega|(exfalso;simp only[mG,lH]at*;omega)|refine zS ?_|refine zT ?_ ?_<;>intro _|fail)
    all_goals conv=>whnf
    refine⟨(D++[d],R),?_,Ad,Af⟩;show Le T _ (aB6 (gB ⟨true,s,c,p⟩) c r (kH r (D++[d])) (D++[d]).length);rw[f,j];show Le T _ (aB6 (gB ⟨true,s,c,p⟩) c r (y::X) _);exact zj
end Go.Proofs.Led
