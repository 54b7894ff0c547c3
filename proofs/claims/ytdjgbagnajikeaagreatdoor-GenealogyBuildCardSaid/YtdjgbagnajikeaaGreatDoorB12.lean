/-
  The reference's inventory, walked: what is left of a stock.
-/
import Derived.Test.YtdjgbagnajikeaaGreatDoorB11
set_option linter.unusedVariables false
set_option linter.unusedSimpArgs false
set_option maxRecDepth 100000
set_option maxHeartbeats 8000000
noncomputable section
namespace Go.Proofs.Led
open Go Go.Proofs Go.Ab
def fG2(c:List V)(br:Bar)(r:Rest)(X:List Iv)(n:Int):St:=match X with
 | [] =>mkSt [(2, .box 2 0),(3, .box 3 0),(4, .box 4 0),(5,I 0),(9, .box 9 0),(10,I n)]
   [(2,c),(3,(bY r).cells),(4,dA5),(9,[I r.id,S br.grade,S br.heat,I (W (r.hi-r.lo)),nilV])] []
 |y::X=>mkSt [(2, .box 2 0),(3, .box 3 0),(4, .box 4 0),(5,I 0),(9, .box 9 0),(10,I n)]
  [(2,c),(3,(bY r).cells),(4,dA5),(9,[I r.id,S br.grade,S br.heat,I (W (r.hi-r.lo)), .arr 120 X.length])] [(120,⟨X.length, .own,49,(y::X).map ivV⟩)]
theorem gB3(x:aN)(r:Rest)(n:eY x):Sp 137 [aQ x,bY r] (.tup [aQ (dZ x r),I (iG x r)]):=by
 refine zsp Tryz.func137 ?_;have o:=fP0 x.sheet r.box r.id n.1
 cases hb:x.isBar with
 |false=>exact IW
 |true=>
  have j:¬x.isBar=false:=by rw[hb];decide
  have c1:¬(x.isBar=false):=j;by_cases c2:r.box=bx0;rotate_left
  ·have e1:iG x r=1:=by unfold iG;rw[Q5 c1,QO c2]
   have e2:dZ x r=wS:=BK;rw[e1,e2];obtain⟨b,s,br,p⟩:=x;cases hb
   repeat' ((conv=>whnf);first|(exfalso;contradiction)|refine cC5 ?_|refine cA4 (a:=r.box) (b:=bx0) (λhv=>?_) (λhv=>?_)|refine zS ?_|refine zT ?_ ?_<;>intro _|fail)
   all_goals exact zE
  by_cases c3:r.lo<0\/r.hi<=r.lo\/x.bar.length<r.hi
  ·have e1:iG x r=2:=by unfold iG;rw[Q5 c1,Q5 (λh=>h c2),QO c3]
   have e2:dZ x r=wS:=BK;rw[e1,e2];obtain⟨b,s,br,p⟩:=x;cases hb;have i:(⟨true,s,br,p⟩:aN).bar.length=br.length:=rfl
   rw[i]at c3;exact O3
  have e1:iG x r=0:=Eu;have e2:dZ x r=⟨true,dN,⟨r.id,x.bar.grade,x.bar.heat,W (r.hi-r.lo),kH r x.bar.defects⟩,aI⟩:=by unfold dZ;rw[Q5 c1,QO e1]
  rw[e1,e2];have hl:(x.bar.defects.map ivV).length=x.bar.defects.length:=Af;have k:=n.2
  obtain⟨b,s,br,p⟩:=x;cases hb
  repeat' ((conv=>whnf);first|(exfalso;contradiction)|omega|refine cC5 ?_|refine cA4 (a:=r.box) (b:=bx0) (λhv=>?_) (λhv=>?_)|refine zS ?_|refine zT ?_ ?_<;>intro _|fail)
  all_goals conv=>whnf
  all_goals
   clear e1 e2 o;simp only at hl k c3;have t:((⟨true,s,br,p⟩:aN).bar.defects.map ivV).length=br.defects.length:=Af;have i:(⟨true,s,br,p⟩:aN).bar.length=br.length:=rfl
   refine aU (A:=List Iv) (B:=List Iv) (λD R=>fG2 (gB ⟨true,s,br,p⟩) br r (kH r D) D.length) (λD R=>br.defects=D++R) (λD R=>R.length) [] br.defects ?_ rfl (λD R hp=>?_)
   ·show Le T _ (fG2 (gB ⟨true,s,br,p⟩) br r [] 0)
    exact NI
   have q:=aG5 r D
   cases R with
   |nil=>exact KC
   |cons d R=>
    have hlen:=aO hp;have c:=cK9 r D d
    have f:((D++[d]).length:Int)=(D.length:Int)+1:=Af;generalize kH r D=X at*;by_cases m:max d.1 r.lo<min d.2 r.hi
    ·have g:aH0 r d=[(W (maxI d.1 r.lo-r.lo),W (minI d.2 r.hi-r.lo))] :=by unfold aH0;rw[QO m,mG,lH]
     rw[g]at c
     cases X with
     |nil=>
      repeat' ((conv=>whnf);first|omega|refine eZ1 Aj ?_|(exfalso;simp only[mG,lH]at*;omega)|refine gX (Q9 rfl) (dA rfl) (Q9 rfl) ?_|refine zS ?_|refine zT ?_ ?_<;>intro _|fail)
      all_goals conv=>whnf
      refine⟨(D++[d],R),?_,Ae,Af⟩;show Le T _ (fG2 (gB ⟨true,s,br,p⟩) br r (kH r (D++[d])) (D++[d]).length);rw[c,f];show Le T _ (fG2 (gB ⟨true,s,br,p⟩) br r [_] _);exact zj
     |cons y X=>
      have l:(y::X).length=X.length+1:=rfl
      repeat' ((conv=>whnf);first|omega|refine eZ1 Aj ?_|(exfalso;simp only[mG,lH]at*;omega)|refine iH rfl (.inl rfl) rfl (Q9 rfl) (dA rfl) (show((y::X).map ivV).length+1<=1000000000 from DN) ?_|refine zS ?_|refine zT ?_ ?_<;>intro _|fail)
      all_goals conv=>whnf
      refine⟨(D++[d],R),?_,Ae,Af⟩;show Le T _ (fG2 (gB ⟨true,s,br,p⟩) br r (kH r (D++[d])) (D++[d]).length);rw[c,f];show Le T _ (fG2 (gB ⟨true,s,br,p⟩) br r (y::(X++[_])) _);unfold fG2;exact Ny
    ·have g:aH0 r d=[] :=by unfold aH0;rw[Q5 m]
     rw[g,Rn]at c
     cases X with
     |nil=>
      repeat' ((conv=>whnf);first|omega|refine eZ1 Aj ?_|(exfalso;simp only[mG,lH]at*;omega)|refine zS ?_|refine zT ?_ ?_<;>intro _|fail)
      all_goals conv=>whnf
      refine⟨(D++[d],R),?_,Ae,Af⟩;show Le T _ (fG2 (gB ⟨true,s,br,p⟩) br r (kH r (D++[d])) (D++[d]).length);rw[c,f];show Le T _ (fG2 (gB ⟨true,s,br,p⟩) br r [] _);exact zj
     |cons y X=>
      have l:(y::X).length=X.length+1:=rfl
      repeat' ((conv=>whnf);first|omega|refine eZ1 Aj ?_|(exfalso;simp only[mG,lH]at*;omega)|refine zS ?_|refine zT ?_ ?_<;>intro _|fail)
      all_goals conv=>whnf
      refine⟨(D++[d],R),?_,Ae,Af⟩;show Le T _ (fG2 (gB ⟨true,s,br,p⟩) br r (kH r (D++[d])) (D++[d]).length);rw[c,f];show Le T _ (fG2 (gB ⟨true,s,br,p⟩) br r (y::X) _);exact zj
def addQ(s:aJ)(x:aN):aJ:={s with stocks:=putS s.stocks x,used:=putN s.used (sid x)}
def mkQ(s:aJ)(x:Piece):aJ:={s with pieces:=putP s.pieces x,used:=putN s.used x.id}
def fH1(s:aJ)(x:aN)(D:List Rest):aJ:=D.foldl (λs r=>addQ s (dZ x r)) s
def sumQ(n:Int)(x:aN)(D:List Rest):Int:=D.foldl (λn r=>W (n+gG (dZ x r))) n
def mkQs(s:aJ)(e:Event)(x:aN)(D:List Made):aJ:=D.foldl (λs c=>mkQ s (fZ e x c)) s
def fG3(size:Int):Int->List Made->Int
 |n,[] =>if n=size then 0 else 29
 |n,c::R=>if size<c.size\/size<n then 29 else fG3 size (W (n+c.size)) R
def gStk(x:aN):ByteArray:=if x.isBar then x.bar.grade else x.sheet.grade
def hK(x:aN):ByteArray:=if x.isBar then x.bar.heat else x.sheet.heat
def begQ(x:aN)(e:Event):Int:=minI e.scrap (W (gG x+1))
def finQ(s:aJ)(k:Nat)(x:aN)(e:Event):aJ:=mkQs (fH1 {s with stocks:=nN s.stocks k} x e.rests) e x e.cuts
def cutQ(s:aJ)(k:Nat)(x:aN)(e:Event):aJ×Int:=
 if cZ x [] e.rests≠0 then(inv0,cZ x [] e.rests)else if fG3 (gG x) (sumQ (begQ x e) x e.rests) e.cuts≠0 then(inv0,29)
 else({finQ s k x e with scrap:=plus x.isBar (finQ s k x e).scrap e.scrap},0)
theorem fS6(x:aN):∀(D:List Rest) (s:aJ),(fH1 s x D).stocks.length=s.stocks.length+D.length/\(fH1 s x D).used.length=s.used.length+D.length/\(fH1 s x D).pieces=s.pieces
 | [],s=>⟨rfl,rfl,rfl⟩
 |r::D,s=>by
  obtain⟨a,b,c⟩:=fS6 x D (addQ s (dZ x r));refine⟨a.trans ?_,b.trans ?_,c⟩
  ·rw[show(addQ s (dZ x r)).stocks.length=s.stocks.length+1 from mQ,Rf];omega
  ·rw[show(addQ s (dZ x r)).used.length=s.used.length+1 from mQ,Rf];omega
theorem fX0(e:Event)(x:aN):∀(D:List Made) (s:aJ),(mkQs s e x D).pieces.length=s.pieces.length+D.length/\(mkQs s e x D).used.length=s.used.length+D.length
 | [],s=>⟨rfl,rfl⟩
 |r::D,s=>by
  obtain⟨a,b⟩:=fX0 e x D (mkQ s (fZ e x r));refine⟨a.trans ?_,b.trans ?_⟩
  ·rw[show(mkQ s (fZ e x r)).pieces.length=s.pieces.length+1 from mQ,Rf];omega
  ·rw[show(mkQ s (fZ e x r)).used.length=s.used.length+1 from mQ,Rf];omega
theorem gA5(s:aJ)(x:aN)(D:List Rest)(r:Rest):fH1 s x (D++[r])=addQ (fH1 s x D) (dZ x r):=by unfold fH1;simp
theorem gD3(n:Int)(x:aN)(D:List Rest)(r:Rest):sumQ n x (D++[r])=W (sumQ n x D+gG (dZ x r)):=by unfold sumQ;simp
theorem gD8(s:aJ)(e:Event)(x:aN)(D:List Made)(c:Made):mkQs s e x (D++[c])=mkQ (mkQs s e x D) (fZ e x c):=by unfold mkQs;simp
theorem fN1{b:Bool}{p q:Rest}:kP b p q↔kP b q p:=by
 grind [kP]
def gC3(s:aJ)(k:Nat)(x:aN)(e:Event)(o:aJ)(n:Int)(i:Nat):St:=
 mkSt [(1,I k),(3, .box 3 0),(5, .box 5 0),(6, .box 6 0),(7,I 0),(8, .box 8 0),(9, .box 9 0),(10,I n),(11,I i)] [(3,invC s),(5,iJ e),(6,zInv),(8,gB x),(9,invC o)] []
def fV5(s:aJ)(k:Nat)(x:aN)(e:Event)(o:aJ)(n:Int)(i:Nat)(y:aN)(j:Nat):St:=
 mkSt [(1,I k),(3, .box 3 0),(5, .box 5 0),(6, .box 6 0),(7,I 0),(8, .box 8 0),(9, .box 9 0),(10,I n),(11,I i),(12, .box 12 0),(14,I j)] [(3,invC s),(5,iJ e),(6,zInv),(8,gB x),(9,invC o),(12,gB y)] []
def fQ1(s:aJ)(k:Nat)(x:aN)(e:Event)(o:aJ)(n:Int)(i:Nat):St:=
 mkSt [(1,I k),(3, .box 3 0),(5, .box 5 0),(6, .box 6 0),(7,I 0),(8, .box 8 0),(9, .box 9 0),(10,I n),(15,S (gStk x)),(16,S (hK x)),(17,I i)] [(3,invC s),(5,iJ e),(6,zInv),(8,gB x),(9,invC o)] []
theorem gD2(s:aJ)(k:Nat)(x:aN)(e:Event)(hx:s.stocks[k]? =some x)(ag:s.stocks.length<=900000)(ah:s.pieces.length<=900000)(ai:s.used.length<=900000)(L:eY x)(hc:e.cuts.length<=10000)(hr:e.rests.length<=10000):Sp 95 [invV s,I k,aS e] (.tup [invV (cutQ s k x e).1,I (cutQ s k x e).2]):=by
 refine zsp Tryz.func95 ?_;have ac:=(QR.1 hx).1;have an:(s.stocks.map aQ).length=s.stocks.length:=Af
 have am:(e.cuts.map dK).length=e.cuts.length:=Af;have ao:(e.rests.map bY).length=e.rests.length:=Af
 have g1:=fG9 s k ac Aa;have g2:=fJ6 x L
 have aa:(nN s.stocks k).length<=s.stocks.length:=by unfold nN;rw[QU,QZ,RU];omega
 have H:cZ x [] e.rests≠0->cutQ s k x e=(inv0,cZ x [] e.rests):=λh=>QO h;have d:cZ x [] e.rests=0->fG3 (gG x) (sumQ (begQ x e) x e.rests) e.cuts≠0->cutQ s k x e=(inv0,29):=λh1 h2=>(Q5 (λh=>h h1)).trans (QO h2)
 have f:cZ x [] e.rests=0->fG3 (gG x) (sumQ (begQ x e) x e.rests) e.cuts=0->cutQ s k x e=({finQ s k x e with scrap:=plus x.isBar (finQ s k x e).scrap e.scrap},0):=λh1 h2=>(Q5 (λh=>h h1)).trans (Q5 (λh=>h h2))
 generalize cutQ s k x e=Q at*;unfold begQ at*;generalize i:({s with stocks:=nN s.stocks k}:aJ)=j at*;have aj:j.stocks.length<=900000:=by rw[<-i];exact Ro aa ag
 have ak:j.pieces.length<=900000:=by rw[<-i];exact ah
 have al:j.used.length<=900000:=by rw[<-i];exact ai
 have t:finQ s k x e=mkQs (fH1 j x e.rests) e x e.cuts:=by rw[<-i];rfl
 rw[t]at f;clear t i aa;generalize gG x=z at*
 repeat' ((conv=>whnf);first|omega|refine eZ1 Aj ?_|refine aB (l:=s.stocks) Aa ?_|refine gK (l:=s.stocks) hx Aa ?_|refine zc g1 ?_|refine zc g2 ?_|refine zS ?_|refine zm (λx hx=>?_)|refine zT ?_ ?_<;>intro _|fail)
 generalize hb:minI e.scrap (W (z+1))=N at*;refine aU (A:=List Rest) (B:=List Rest) (λD R=>gC3 s k x e (fH1 j x D) (sumQ N x D) D.length) (λD R=>e.rests=D++R/\cZ x [] e.rests=cZ x D R) (λD R=>R.length) [] e.rests ?_ ⟨rfl,rfl⟩ (λD R hp=>?_)
 ·show Le T _ (gC3 s k x e j N 0)
  exact zj
 obtain⟨hp,C⟩:=hp;obtain⟨a1,a2,a3⟩:=fS6 x D j;generalize U:fH1 j x D=o at*;generalize y:sumQ N x D=n at*
 cases R with
 |cons r R=>
  have g:=aO hp;have aq:r∈e.rests:=Ae
  have k1:=gB3 x r L;have a:cZ x [] e.rests=(open Classical in if iG x r≠0 then iG x r else if∃q∈D,kP x.isBar q r then 12 else cZ x (D++[r]) R):=C
  by_cases he:iG x r=0;rotate_left
  ·have hv:cZ x [] e.rests=iG x r:=by rw[a,QO he]
   have hQ:=H (by rw[hv];exact he)
   rw[hQ,hv];generalize iG x r=er at*;generalize dZ x r=M at*
   repeat' ((conv=>whnf);first|omega|refine eZ1 Aj ?_|refine cC0 [(5,5),(8,8),(42,5),(12,12)] Ad Aj ?_|refine aB (l:=e.rests) Aa ?_|refine aF (l:=e.rests) (A:=D) (x:=r) (B:=R) hp Aa ?_|refine zc k1 ?_|refine zS ?_|refine zm (λx hx=>?_)|refine zT ?_ ?_<;>intro _|fail)
   all_goals exact zE
  have G:cZ x [] e.rests=(open Classical in if∃q∈D,kP x.isBar q r then 12 else cZ x (D++[r]) R):=by rw[a,Q5 (λh=>h he)]
  have k2:=fJ6 (dZ x r) (aX5 L);have k3:=fN8 o (dZ x r) Aa Aa
  rw[he]at k1;have v:=gA5 j x D r;have u:=gD3 N x D r
  rw[U]at v;rw[y]at u;change Sp _ _ (invV (addQ o (dZ x r)))at k3;generalize dZ x r=M at*;generalize addQ o M=o2 at*;generalize gG M=ar at*
  repeat' ((conv=>whnf);first|omega|refine eZ1 Aj ?_|refine cC0 [(5,5),(8,8),(42,5),(12,12)] Ad Aj ?_|refine aB (l:=e.rests) Aa ?_|refine aF (l:=e.rests) (A:=D) (x:=r) (B:=R) hp Aa ?_|refine zc k1 ?_|refine zS ?_|refine zm (λx hx=>?_)|refine zT ?_ ?_<;>intro _|fail)
  refine aU (A:=List Rest) (B:=List Rest) (λE S=>fV5 s k x e o n D.length M E.length) (λE S=>D=E++S/\∀q∈E,¬kP x.isBar q r) (λE S=>S.length) [] D ?_ ⟨rfl,Af⟩ (λE S hq=>?_)
  ·show Le T _ (fV5 s k x e o n D.length M 0)
   exact zj
  obtain⟨hq,X⟩:=hq
  cases S with
  |nil=>
   have K:D.length=E.length:=Aq;have ae:¬∃q∈D,kP x.isBar q r:=by rintro⟨q,q1,q2⟩;rw[hq,Rn]at q1;exact X q q1 q2
   rw[Q5 ae]at G
   repeat' ((conv=>whnf);first|omega|refine eZ1 Aj ?_|refine zc k2 ?_|refine zc k3 ?_|refine zS ?_|refine zm (λx hx=>?_)|refine zT ?_ ?_<;>intro _|fail)
   all_goals conv=>whnf
   refine⟨(D++[r],R),?_,⟨Ae,G⟩,Af⟩;show Le T _ (gC3 s k x e (fH1 j x (D++[r])) (sumQ N x (D++[r])) (D++[r]).length);rw[v,u,QU,QY];unfold gC3;exact zj
  |cons q S=>
   have K:=aO hq;have af:e.rests=E++q::(S++r::R):=Ib
   have k4:=fR9 x.isBar r q;have b:kP x.isBar r q->cZ x [] e.rests=12:=λh=>by rw[G,QO ⟨q,by rw[hq];simp,fN1.1 h⟩]
   have J:¬kP x.isBar r q->∀z∈E++[q],¬kP x.isBar z r:=λh z hz=>by
    rcases QX.1 hz with hz|hz
    ·exact X z hz
    ·rw[QW.1 hz];exact λw=>h (fN1.1 w)
   generalize kP x.isBar r q=ov at*
   repeat' ((conv=>whnf);first|omega|refine eZ1 Aj ?_|refine aB (l:=e.rests) Aa ?_|refine aF (l:=e.rests) (A:=D) (x:=r) (B:=R) hp Aa ?_|refine aF (l:=e.rests) (A:=E) (x:=q) (B:=S++r::R) af Aa ?_|refine zc k4 ?_|refine zS ?_|refine zm (λx hx=>?_)|refine zT ?_ ?_<;>intro _|fail)
   all_goals conv=>whnf
   ·have hv:=b Ag
    rw[H (by rw[hv];decide),hv]
    all_goals exact zE
   ·refine⟨(E++[q],S),?_,⟨Aq,J Ag⟩,Af⟩
    show Le T _ (fV5 s k x e o n D.length M (E++[q]).length);rw[QU,QY];unfold fV5;exact zj
 |nil=>
 have g:e.rests.length=D.length:=Ae;have O:e.rests=D:=Ae
 have F:cZ x [] e.rests=0:=C;replace d:=d F;replace f:=f F;rw[O,U,y]at f;rw[O,y]at d;clear H C F
 repeat' ((conv=>whnf);first|omega|refine eZ1 Aj ?_|refine zS ?_|refine zm (λx hx=>?_)|refine zT ?_ ?_<;>intro _|fail)
 all_goals
  refine aU (A:=List Made) (B:=List Made) (λD R=>fQ1 s k x e (mkQs o e x D) (D.foldl (λn c=>W (n+c.size)) n) D.length) (λD R=>e.cuts=D++R/\fG3 z n e.cuts=fG3 z (D.foldl (λn c=>W (n+c.size)) n) R) (λD R=>R.length) [] e.cuts ?_ ⟨rfl,rfl⟩ (λD R hp=>?_)
  ·show Le T _ (fQ1 s k x e o n 0)
   unfold fQ1
   first
    |rw[show gStk x=x.bar.grade from QO Ag,show hK x=x.bar.heat from QO Ag]
    |rw[show gStk x=x.sheet.grade from Q5 (by simp_all),show hK x=x.sheet.heat from Q5 (by simp_all)]
   exact zj
  obtain⟨hp,C⟩:=hp;obtain⟨b1,b2⟩:=fX0 e x D o;have ab:=gD8 o e x D;have Z:∀c:Made,(D++[c]).foldl (λn c=>W (n+c.size)) n=W (D.foldl (λn c=>W (n+c.size)) n+c.size):=λc=>Af
  generalize V:mkQs o e x D=o3 at b1 b2 ab⊢;generalize D.foldl (λn c=>W (n+c.size)) n=m at C Z⊢
  cases R with
  |cons c R=>
   have g:=aO hp;have a:fG3 z n e.cuts=if z<c.size\/z<m then 29 else fG3 z (W (m+c.size)) R:=C
   have k3:=fW8 o3 (fZ e x c) (by rw[b1,a3];omega) Aa
   change Sp _ _ (invV (mkQ o3 (fZ e x c)))at k3;by_cases b:z<c.size\/z<m
   ·rw[QO b]at a
    rw[d (by rw[a];decide)]
    repeat' ((conv=>whnf);first|omega|refine eZ1 Aj ?_|refine aB (l:=e.cuts) Aa ?_|refine aF (l:=e.cuts) (A:=D) (x:=c) (B:=R) hp Aa ?_|refine zc g2 ?_|refine zS ?_|refine zm (λx hx=>?_)|refine zT ?_ ?_<;>intro _|fail)
    all_goals exact zE
   ·rw[Q5 b]at a
    have ad:=ab c;have Y:=Z c
    repeat' ((conv=>whnf);first|omega|refine eZ1 Aj ?_|refine aB (l:=e.cuts) Aa ?_|refine aF (l:=e.cuts) (A:=D) (x:=c) (B:=R) hp Aa ?_|refine zc g2 ?_|refine zc k3 ?_|refine zS ?_|refine zm (λx hx=>?_)|refine zT ?_ ?_<;>intro _|fail)
    all_goals conv=>whnf
    refine⟨(D++[c],R),?_,⟨Ae,by rw[Y];exact a⟩,Af⟩
    show Le T _ (fQ1 s k x e (mkQs o e x (D++[c])) ((D++[c]).foldl (λn c=>W (n+c.size)) n) (D++[c]).length);rw[ad,Y,QU,QY];unfold fQ1;exact zj
  |nil=>
   have g:e.cuts.length=D.length:=Ae;have P:e.cuts=D:=Ae
   have a:fG3 z n e.cuts=if m=z then 0 else 29:=C
   by_cases hm:m=z;rotate_left
   ·rw[Q5 hm]at a
    rw[d (by rw[a];decide)]
    repeat' ((conv=>whnf);first|omega|(exfalso;contradiction)|refine eZ1 Aj ?_|refine zc g2 ?_|refine zS ?_|refine zm (λx hx=>?_)|refine zT ?_ ?_<;>intro _|fail)
    all_goals exact zE
   ·rw[QO hm]at a
    rw[f a,P,V];rcases Bool.eq_false_or_eq_true x.isBar with hb9|hb9
    ·have gi:Sp 92 [B x.isBar] (I 1):=by rw[hb9];exact fG6 true
     exact NZ
    ·have gi:Sp 92 [B x.isBar] (I 0):=by rw[hb9];exact fG6 false
     exact NZ
theorem fW0{a:Type}{f:a->V}{n:Nat}(hf:∀x,(f x).cells.length=n)(l:List a):∀y∈l.map f,y.cells.length=n:=λy hy=>F7
def stR(s:aJ):List V:=[.own 171 (s.stocks.map aQ), .own 173 (s.pieces.map aZ), .own 3 (s.used.map I),I s.received.1,I s.received.2,I s.scrap.1,I s.scrap.2]
theorem fV4(s:aJ)(a:s.stocks.length<=1000000)(b:s.pieces.length<=1000000)(c:s.used.length<=1000000):Sp 87 [invV s] (.tup (.bot::stR s)):=by
 refine zsp Tryz.func87 ?_;have d:(s.stocks.map aQ).length=s.stocks.length:=Af;have e:(s.pieces.map aZ).length=s.pieces.length:=Af
 have g:(s.used.map I).length=s.used.length:=Af
 repeat' ((conv=>whnf);first|refine iH rfl (.inl rfl) rfl (Q9 rfl) (fW0 (f:=aQ) (n:=14) (λ_=>rfl) s.stocks) (by show 0+(s.stocks.map aQ).length<=1000000000;omega) ?_|refine iH rfl (.inl rfl) rfl (Q9 rfl) (fW0 (f:=aZ) (n:=9) (λ_=>rfl) s.pieces) (by show 0+(s.pieces.map aZ).length<=1000000000;omega) ?_|refine iH rfl (.inl rfl) rfl (Q9 rfl) (fW0 (f:=I) (n:=1) (λ_=>rfl) s.used) (by show 0+(s.used.map I).length<=1000000000;omega) ?_|refine gI0 ?_|refine zS ?_|fail)
 all_goals conv=>whnf
 all_goals exact⟨_,_,rfl,rfl,by repeat' (first|exact trivial|refine And.intro ?_ ?_|exact rfl),rfl⟩
def idsR(e:Event):List Int:=if e.kind=1 then [e.sheet.id]else if e.kind=2 then [e.bar.id]else fO e
def idSt(e:Event)(D:List Made):St:=match D with
 | [] =>mkSt [(1, .box 1 0),(3,nilV),(4,I 0)] [(1,iJ e)] []
 |d::D=>mkSt [(1, .box 1 0),(3, .arr 35 D.length),(4,I ((D.length:Int)+1))] [(1,iJ e)] [(35,⟨D.length, .own,3,((d::D).map Made.id).map I⟩)]
def fX5(e:Event)(D:List Rest):St:=match D with
 | [] =>mkSt [(1, .box 1 0),(3,nilV),(5,I 0)] [(1,iJ e)] []
 |d::D=>mkSt [(1, .box 1 0),(3, .arr 51 D.length),(5,I ((D.length:Int)+1))] [(1,iJ e)] [(51,⟨D.length, .own,3,((d::D).map Rest.id).map I⟩)]
def gE7(e:Event)(n:Nat)(C:List Int)(D:List Rest):St:=mkSt [(1, .box 1 0),(3, .arr 35 (n+D.length)),(5,I D.length)] [(1,iJ e)] [(35,⟨n+D.length, .own,3,(C++D.map Rest.id).map I⟩)]
theorem gC6(e:Event)(s:e.cuts.length<=10000)(t:e.rests.length<=10000):Sp 86 [aS e] (.own 3 ((idsR e).map I)):=by
 refine zsp Tryz.func86 ?_;have o:(e.cuts.map dK).length=e.cuts.length:=Af;have r:(e.rests.map bY).length=e.rests.length:=Af
 by_cases i:e.kind=1
 ·have h:idsR e=[e.sheet.id] :=QO i
  exact Pm
 by_cases k:e.kind=2
 ·have h:idsR e=[e.bar.id] :=(Q5 i).trans (QO k)
  exact Pm
 have h:idsR e=fO e:=(Q5 i).trans (Q5 k);rw[h];clear h;have b:fO e=e.cuts.map Made.id++e.rests.map Rest.id:=rfl
 generalize fO e=L at*
 repeat' ((conv=>whnf);first|omega|refine zS ?_|refine ze (λheq=>?_) (λheq=>?_))
 refine aU (A:=List Made) (B:=List Made) (λD R=>idSt e D) (λD R=>e.cuts=D++R) (λD R=>R.length) [] e.cuts ?_ rfl (λD R hp=>?_)
 ·show Le T _ (idSt e [])
  exact zj
 cases R with
 |cons c R=>
  have a:=aO hp
  cases D with
  |nil=>
   have j:([] :List Made).length=0:=rfl
   repeat' ((conv=>whnf);first|omega|refine gX (Q9 rfl) (dA rfl) (Q9 rfl) ?_|refine zS ?_|refine zl (λhlt=>?_) (λhlt=>?_))
   all_goals conv=>whnf
   refine⟨([c],R),?_,Ae,Af⟩;show Le T _ (idSt e [c]);exact zj
  |cons d D=>
   have hd:(d::D).length=D.length+1:=rfl
   repeat' ((conv=>whnf);first|omega|refine iH rfl (.inl rfl) rfl (Q9 rfl) (dA rfl) (show(((d::D).map Made.id).map I).length+1<=1000000000 from DV) ?_|refine zS ?_|refine zl (λhlt=>?_) (λhlt=>?_))
   all_goals conv=>whnf
   refine⟨(d::D++[c],R),?_,Ae,Af⟩;show Le T _ (idSt e (d::(D++[c])));unfold idSt;exact Ny
 |nil=>
 have a:e.cuts.length=D.length:=Ae;have f:e.cuts=D:=Ae
 rw[f]at b;clear hp f
 cases D with
 |nil=>
  have j:([] :List Made).length=0:=rfl
  repeat' ((conv=>whnf);first|omega|refine zS ?_|refine zl (λhlt=>?_) (λhlt=>?_))
  refine aU (A:=List Rest) (B:=List Rest) (λD R=>fX5 e D) (λD R=>e.rests=D++R) (λD R=>R.length) [] e.rests ?_ rfl (λD R hp=>?_)
  ·show Le T _ (fX5 e [])
   exact zj
  cases R with
  |cons c R=>
   have a:=aO hp
   cases D with
   |nil=>
    have j:([] :List Rest).length=0:=rfl
    repeat' ((conv=>whnf);first|omega|refine gX (Q9 rfl) (dA rfl) (Q9 rfl) ?_|refine zS ?_|refine zl (λhlt=>?_) (λhlt=>?_))
    all_goals conv=>whnf
    refine⟨([c],R),?_,Ae,Af⟩;show Le T _ (fX5 e [c]);exact zj
   |cons d D=>
    have hd:(d::D).length=D.length+1:=rfl
    repeat' ((conv=>whnf);first|omega|refine iH rfl (.inl rfl) rfl (Q9 rfl) (dA rfl) (show(((d::D).map Rest.id).map I).length+1<=1000000000 from DV) ?_|refine zS ?_|refine zl (λhlt=>?_) (λhlt=>?_))
    all_goals conv=>whnf
    refine⟨(d::D++[c],R),?_,Ae,Af⟩;show Le T _ (fX5 e (d::(D++[c])));unfold fX5;exact Ny
  |nil=>
   have a:e.rests.length=D.length:=Ae;have f:e.rests=D:=Ae
   have m:L=D.map Rest.id:=by rw[b,f];rfl
   rw[m]
   cases D with
   |nil=>
    have j:([] :List Rest).length=0:=rfl;exact O4
   |cons d D=>exact KD
 |cons d0 g=>
  have n:(d0::g).length=g.length+1:=rfl
  repeat' ((conv=>whnf);first|omega|refine zS ?_|refine zl (λhlt=>?_) (λhlt=>?_))
  have l:((d0::g).map Made.id).length=g.length+1:=Af;refine aU (A:=List Rest) (B:=List Rest) (λD R=>gE7 e g.length ((d0::g).map Made.id) D) (λD R=>e.rests=D++R) (λD R=>R.length) [] e.rests ?_ rfl (λD R hp=>?_)
  ·unfold gE7
   rw[SC,Rn];exact zj
  generalize (d0::g).map Made.id=C at*
  cases R with
  |cons c R=>
   have a:=aO hp;have q:((C++D.map Rest.id).map I).length=C.length+D.length:=Af
   repeat' ((conv=>whnf);first|omega|refine iH rfl (.inl rfl) rfl (Q9 rfl) (dA rfl) (show((C++D.map Rest.id).map I).length+1<=1000000000 from Aa) ?_|refine zS ?_|refine zl (λhlt=>?_) (λhlt=>?_))
   all_goals conv=>whnf
   refine⟨(D++[c],R),?_,Ae,Af⟩;unfold gE7;simp only[QU,QY,Rq,RF,SC,<-SE];exact zj
  |nil=>
   have a:e.rests.length=D.length:=Ae;have f:e.rests=D:=Ae
   rw[f]at b;rw[b];exact NU
theorem fJ1:∀(l used:List Int),dP used l↔(∀x∈l,x∉used)/\l.Pairwise (·≠·)
 | [],used=>⟨λ_=>⟨λx hx=>Ht, .nil⟩,λ_=>trivial⟩
 |n::r,used=>by
  show(n∉used/\dP (putN used n) r)↔_;rw[fJ1 r (putN used n),Sl];constructor
  ·rintro⟨a,b,c⟩
   refine⟨λx hx=>?_,λx hx e=>?_,c⟩
   ·rcases Rh.1 hx with rfl|hx
    ·exact a
    ·exact λq=>b x hx (fH.2 (.inr q))
   ·exact b x hx (fH.2 (.inl e.symm))
  ·rintro⟨a,b,c⟩
   refine⟨a n Af,λx hx q=>?_,c⟩;rcases fH.1 q with q|q
   ·exact b x hx q.symm
   ·exact a x BI q
theorem fP6:∀ {l m:List Int},l.Pairwise (·<·)->m.Pairwise (·<·)->(∀x,x∈l↔x∈m)->l=m
 | [],[],_,_,_=>rfl
 | [],y::m,_,_,h=>by have:=(h y).2 Af;cases this
 |x::l,[],_,_,h=>by have:=(h x).1 Af;cases this
 |x::l,y::m,e,f,h=>by
  obtain⟨c,g⟩:=Sl.1 e;obtain⟨d,i⟩:=Sl.1 f
  have a:x=y:=by
   rcases Rh.1 ((h x).1 Af)with q|q
   ·exact q
   ·rcases Rh.1 ((h y).2 Af)with b|b
    ·exact b.symm
    ·have:=d x q;have:=c y b;omega
  subst a;rw[fP6 g i λz=>?_];constructor
  ·intro hz
   rcases Rh.1 ((h z).1 Iy)with q|q
   ·have:=c z hz;omega
   ·exact q
  ·intro hz
   rcases Rh.1 ((h z).2 Iy)with q|q
   ·have:=d z hz;omega
   ·exact q
theorem fL1:∀ {l used:List Int} {y:Int},y∈cO used l↔y∈used\/y∈l
 | [],used,y=>⟨.inl,λh=>h.elim id (λh=>Ah)⟩
 |n::r,used,y=>by
  show y∈cO (putN used n) r↔_;rw[fL1 (l:=r),Rh,show(y∈putN used n↔y=n\/y∈used)from fH];grind
theorem gB2(used a b:List Int):cO used (a++b)=cO (cO used a) b:=by unfold cO;rw[TR]
theorem fU5{used a b:List Int}(h:dP used (a++b)):dP used (b++a):=by
 grind [fJ1]
theorem fZ3{used a b:List Int}(e:(used.map id).Pairwise (·<·))(h:dP used (a++b)):cO used (a++b)=cO used (b++a):=by
 have c:=(aA8 _ _ e h).1;have d:=(aA8 _ _ e (fU5 h)).1
 rw[List.map_id]at c d;refine fP6 c d λx=>?_;rw[fL1,fL1,QX,QX];constructor<;>(rintro(q|q|q)<;>simp[q])
theorem fF9{f:Type}{key:f->Int}:∀ {l:List f} {n:Int},(l.map key).Pairwise (·<·)->(∃m∈l,key m=n)->aC2 key l n=bs key l n:=fun {l n} d b=>by
 obtain⟨m,e,g⟩:=aB8 d b;have j:=(QR.1 e).1;have c:=(QR.1 e).2
 have a:l=l.take (bs key l n)++m::l.drop (bs key l n+1):=by
  rw[<-c,List.getElem_cons_drop,SI]
 have i:∀x∈l.take (bs key l n),key x≠n:=λx k=>by
  rw[a,RF,Rq,RQ]at d;have:=d.2.2 (key x) (RJ k) (key m) Af;omega
 have:=fI9 (R:=l.drop (bs key l n+1)) i g;rw[<-a,QZ]at this;rw[this];omega
theorem fZ8(x:aN):∀(D:List Rest) (s:aJ),(∀r∈D,sid (dZ x r)=r.id)->fH1 s x D={s with stocks:=(D.map (dZ x)).foldl putS s.stocks,used:=cO s.used (D.map Rest.id)}
 | [],s,_=>rfl
 |r::D,s,h=>by
  show fH1 (addQ s (dZ x r)) x D=_;rw[fZ8 x D _ (λq a=>h q (by simp[a]))]
  unfold addQ;rw[h r Af];rfl
theorem gB8(e:Event)(x:aN):∀(D:List Made) (s:aJ),mkQs s e x D={s with pieces:=D.foldl (λp c=>putP p (fZ e x c)) s.pieces,used:=cO s.used (D.map Made.id)}
 | [],s=>rfl
 |c::D,s=>by
  show mkQs (mkQ s (fZ e x c)) e x D=_;rw[gB8 e x D];rfl
theorem fI0(x:aN):∀(R D:List Rest),cZ x D R=0->∀r∈R,iG x r=0
 | [],D,_,r,a=>by cases a
 |q::R,D,h,r,a=>by
  classical
  unfold cZ at h;split at h
  ·rename_i b;exact absurd h b
  ·rename_i b
   split at h
   ·cases h
   ·rcases Rh.1 a with rfl|a
    ·exact SN.1 b
    ·exact fI0 x R _ h r a
theorem gH7{s:aJ}{e:Event}{k:Nat}{x:aN}(g:(s.used.map id).Pairwise (·<·))(b:cZ x [] e.rests=0)(f:dP s.used (fO e)):finQ s k x e=cut4 s e k x (eG x e.rests) e.cuts:=by
 have c:eG x e.rests=e.rests.map (dZ x):=by unfold eG;rw[QO b]
 have d:cO (cO s.used (e.rests.map Rest.id)) (e.cuts.map Made.id)=cO s.used (fO e):=by
  rw[<-gB2];exact(fZ3 g f).symm
 unfold finQ;rw[fZ8 x e.rests _ (λr a=>cL1 (fI0 x _ _ b r a)),gB8,c];unfold cut4 cut3 cut2 cut1;simp only;rw[d]
theorem fN3:∀ {l:List Int},(∀c∈l,0<=c)->0<=l.sum
 | [],_=>U2 _
 |c::l,h=>by
  have a:=h c Af;have b:=fN3 (l:=l) (λx hx=>h x BI)
  rw[TF];omega
theorem gI9{n c:Int}(a: -1<=n)(b:n<=1000000000000000000)(d:0<=c):sub1 n c=if 0<=n/\c<=n then n-c else-1:=by
 unfold sub1;rw[lH,w_in (n:=n+1) Aa];split
 ·rw[w_in Aa];omega
 ·rw[w_in Aa];omega
theorem fP3:∀(l:List Int) (n:Int),-1<=n->n<=1000000000000000000->(∀c∈l,0<=c)->subL n l=if 0<=n/\l.sum<=n then n-l.sum else-1
 | [],n,a,b,_=>by
   show n=_;rw[List.sum_nil];split<;>omega
 |c::l,n,a,b,h=>by
  have d:=h c Af;have e:=fN3 (l:=l) (λx hx=>h x BI)
  show subL (sub1 n c) l=_;rw[gI9 a b d,TF];split
  ·rw[fP3 l _ Aa Aa (λx hx=>h x BI)]
   split<;>split<;>omega
  ·rw[fP3 l _ Aa Aa (λx hx=>h x BI)]
   split<;>split<;>omega
theorem fU4{z:Int}(e:0<=z)(a:z<=1000000000000000000):∀(l:List Made) (n:Int),0<=n->(∀c∈l,1<=c.size)->(fG3 z n l=0↔n+(l.map Made.size).sum=z)
 | [],n,d,_=>by
   show(if n=z then(0:Int)else 29)=0↔n+0=z
   split<;>omega
 |c::l,n,d,h=>by
  have f:=h c Af;have g:=fN3 (l:=l.map Made.size) (λx hx=>by obtain⟨m,b,rfl⟩:=Ru.1 hx;have:=h m (by simp[b]);omega)
  show(if z<c.size\/z<n then(29:Int)else fG3 z (W (n+c.size)) l)=0↔_
  rw[Rq,TF];split
  ·constructor
   ·intro q;omega
   ·intro q;omega
  ·rw[w_in Aa,fU4 e a l _ Aa (λx hx=>h x BI)]
   omega
theorem fU9(x:aN):∀(D:List Rest) (n:Int),-1000000000000000<=n->n+D.length*100000000000000<=9000000000000000000->(∀r∈D,0<=gG (dZ x r)/\gG (dZ x r)<=100000000000000)->sumQ n x D=n+(D.map λr=>gG (dZ x r)).sum
 | [],n,_,_,_=>by show n=n+0;omega
 |r::D,n,c,a,h=>by
  have d:=h r Af;rw[Rf]at a;show sumQ (W (n+gG (dZ x r))) x D=_;rw[w_in Aa,fU9 x D _ Aa (by push_cast at a;omega) (λq b=>h q (by simp[b])),Rq,TF]
  omega
theorem gE9{x:aN}{e:Event}(k:0<=gG x)(n:gG x<=100000000000000)(j:0<=e.scrap)(hc:∀c∈e.cuts,1<=c.size)(s:e.rests.length<=10000)(f:cZ x [] e.rests=0)
 (hr:∀r∈e.rests,0<=gG (dZ x r)/\gG (dZ x r)<=100000000000000):fG3 (gG x) (sumQ (begQ x e) x e.rests) e.cuts=0↔nJ x e=e.scrap:=by
 have i:begQ x e=min e.scrap (gG x+1):=by unfold begQ;rw[lH,w_in (by omega)]
 have g:eG x e.rests=e.rests.map (dZ x):=by unfold eG;rw[QO f]
 have q:=fN3 (l:=e.rests.map λr=>gG (dZ x r)) (λy hy=>Dc);have o:=fN3 (l:=e.cuts.map Made.size) (λy hy=>CW)
 rw[i,fU9 x e.rests _ Aa Aa hr,fU4 k Aa e.cuts _ Aa hc];unfold nJ;have hi:=fP3 (e.cuts.map Made.size) (gG x) Aa Aa (λy hy=>CW);rw[g,Ur,show(gG∘dZ x)=(λr=>gG (dZ x r))from rfl,hi];clear hi;have d:∀c∈(e.rests.map λr=>gG (dZ x r)),0<=c:=λy hy=>Dc
 generalize (e.rests.map λr=>gG (dZ x r))=L at*;rw[fP3 L _ (by split<;>omega) (by split<;>omega) d]
 generalize L.sum=a at*;generalize (e.cuts.map Made.size).sum=b at*;split
 ·split<;>omega
 ·split<;>omega
theorem fP5:∀(l:List Int) (n:Int),-1000000000000000<=n->n<0->(∀c∈l,0<=c)->subL n l<0
 | [],n,_,h,_=>h
 |c::l,n,b,d,hc=>by
  have e:subL n (c::l)=subL (sub1 n c) l:=rfl
  have a:sub1 n c= -1:=by
   exact QN
  simp_all [fP5]
theorem gH2{x:aN}{e:Event}(A: -100000000000000<=gG x)(i:gG x<0)(q:0<=e.scrap)(hc:∀c∈e.cuts,1<=c.size)(z:e.rests.length<=10000)(g:cZ x [] e.rests=0)
 (hr:∀r∈e.rests,0<=gG (dZ x r)/\gG (dZ x r)<=100000000000000):fG3 (gG x) (sumQ (begQ x e) x e.rests) e.cuts=0↔nJ x e=e.scrap:=by
 have o:begQ x e=gG x+1:=by unfold begQ;rw[lH,w_in (by omega)];exact Int.min_eq_right (by omega)
 have k:eG x e.rests=e.rests.map (dZ x):=by unfold eG;rw[QO g]
 have w:=fN3 (l:=e.rests.map λr=>gG (dZ x r)) (λy hy=>Dc);rw[o,fU9 x e.rests _ Aa Aa hr]
 have v:nJ x e<0:=by
  unfold nJ;have s:subL (gG x) (e.cuts.map Made.size)<0:=fP5 _ _ Aa i (λy hy=>CW)
  have t: -1000000000000000<=subL (gG x) (e.cuts.map Made.size):=by
   cases b:e.cuts with
   |nil=>show-1000000000000000<=gG x;omega
   |cons c l=>
    have key:∀(l:List Int) (n:Int),-1<=n->n<0->(∀c∈l,0<=c)->-1<=subL n l:=by
     intro l
     induction l with
     |nil=>exact λn h _ _=>h
     |cons c l B=>
      intro n k u hc
      have j:sub1 n c= -1:=by
       exact QN
      show-1<=subL (sub1 n c) l;simp_all
    rw[b]at hc;have f:=hc c (TJ ..)
    have j:sub1 (gG x) c.size= -1:=by
     grind [lH,Int.min_eq_right,sub1,w_in,gG]
    show-1000000000000000<=subL (sub1 (gG x) c.size) (l.map Made.size);grind
  simp_all [fP5,Ru]
 refine⟨λh=>?_,λh=>Aa⟩;exfalso;generalize (e.rests.map λr=>gG (dZ x r)).sum=a at*
 cases b:e.cuts with
 |nil=>
  rw[b]at h;have d:(if gG x+1+a=gG x then(0:Int)else 29)=0:=h
  rw[Q5 Aa]at d;cases d
 |cons c l=>
  have f:=hc c (by rw[b];exact TJ ..)
  rw[b]at h;have d:(if gG x<c.size\/gG x<gG x+1+a then(29:Int)else fG3 (gG x) (W (gG x+1+a+c.size)) l)=0:=h
  rw[QO Aa]at d;cases d
end Go.Proofs.Led
