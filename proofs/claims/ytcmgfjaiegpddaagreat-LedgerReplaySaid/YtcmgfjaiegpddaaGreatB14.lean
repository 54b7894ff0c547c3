/- Lemmas. -/
import Derived.Test.YtcmgfjaiegpddaaGreatB11
import Derived.Test.YtcmgfjaiegpddaaGreatB13
set_option linter.all false
set_option maxRecDepth 100000
set_option maxHeartbeats 4000000
noncomputable section
namespace Go.Proofs.Led
open Go Go.Proofs Go.Ab Tryz
def dR6(l:List aN)(d:l.length<=1000000):fnVC T Tryz.prog Tryz.f65 [.sl (l.map aQ)] (.own 90 (l.map aQ)):=by
 have c:(l.map aQ).length=l.length:=Af;have a:∀y∈l.map aQ,y.cells.length=14:=λy hy=>AP;repeat' ((conv=>whnf);first|(refine bV3.mk rfl (OZ Ac) Ac (.inl rfl) ?_;intro b hb;cases b)|refine iH rfl (.inl rfl) rfl (OZ rfl) a (by show 0+(List.map aQ l).length<=_;omega) ?_|refine zS ?_|fail)
 all_goals conv=>whnf
 exact Ji;exact Iq
def aV4(l:List aN)(a:l.length<=1000000):Sp 65 [.sl (l.map aQ)] (.own 90 (l.map aQ)):=zsp func65 (dR6 l a)
def dO4(l:List Piece)(d:l.length<=1000000):fnVC T Tryz.prog Tryz.f66 [.sl (l.map aZ)] (.own 127 (l.map aZ)):=by
 have c:(l.map aZ).length=l.length:=Af;have a:∀y∈l.map aZ,y.cells.length=9:=λy hy=>AP;repeat' ((conv=>whnf);first|(refine bV3.mk rfl (OZ Ac) Ac (.inl rfl) ?_;intro b hb;cases b)|refine iH rfl (.inl rfl) rfl (OZ rfl) a (by show 0+(List.map aZ l).length<=_;omega) ?_|refine zS ?_|fail)
 all_goals conv=>whnf
 exact Ji;exact Iq
def aV7(l:List Piece)(a:l.length<=1000000):Sp 66 [.sl (l.map aZ)] (.own 127 (l.map aZ)):=zsp func66 (dO4 l a)
def dL1(l:List Int)(d:l.length<=1000000):fnVC T Tryz.prog Tryz.f67 [.sl (l.map I)] (.own 3 (l.map I)):=by
 have c:(l.map I).length=l.length:=Af;have a:∀y∈l.map I,y.cells.length=1:=λy hy=>AP;repeat' ((conv=>whnf);first|(refine bV3.mk rfl (OZ Ac) Ac (.inl rfl) ?_;intro b hb;cases b)|refine iH rfl (.inl rfl) rfl (OZ rfl) a (by show 0+(List.map I l).length<=_;omega) ?_|refine zS ?_|fail)
 all_goals conv=>whnf
 exact Ji;exact Iq
def aT5(l:List Int)(a:l.length<=1000000):Sp 67 [.sl (l.map I)] (.own 3 (l.map I)):=zsp func67 (dL1 l a)
def stC(s:aJ):List V:=[.own 90 (s.stocks.map aQ), .own 127 (s.pieces.map aZ), .own 3 (s.used.map I),I s.received.1,I s.received.2,I s.scrap.1,I s.scrap.2]
structure Gd(s:aJ):Prop where
 ls:s.stocks.length<=1000000
 lp:s.pieces.length<=1000000
 lu:s.used.length<=1000000
 ss:(s.stocks.map sid).Pairwise (·<·)
 sp:(s.pieces.map Piece.id).Pairwise (·<·)
 su:(s.used.map id).Pairwise (·<·)
def eM1(s:aJ)(n:Int)(a:Gd s):jR T Tryz.prog Tryz.f120 [.box 100000 0,I n] [stC s] (.tup [I (bs sid s.stocks n),DB (∃m∈s.stocks,sid m=n)]) [stC s] :=by
 have h1:=eB5 (g:=158) (t:=n) (λm=>cR0 m n) s.stocks a.ls a.ss;generalize bs sid s.stocks n=k at*;generalize (∃m∈s.stocks,sid m=n)=P at*;exact Me
def find_spec(s:aJ)(n:Int)(a:Gd s):SpB 120 [.box 100000 0,I n] [stC s] (.tup [I (bs sid s.stocks n),DB (∃m∈s.stocks,sid m=n)]) [stC s] :=
 b_of func120 Ac Ac rfl rfl (eM1 s n a)
def dW2(s:aJ)(n:Int)(a:Gd s):jR T Tryz.prog Tryz.f125 [.box 100000 0,I n] [stC s] (.tup [I (bs Piece.id s.pieces n),DB (∃m∈s.pieces,m.id=n)]) [stC s] :=by
 have h1:=eG9 (g:=168) (t:=n) (λm=>cG0 m n) s.pieces a.lp a.sp;generalize bs Piece.id s.pieces n=k at*;generalize (∃m∈s.pieces,m.id=n)=P at*;exact Me
def uQ(s:aJ)(n:Int)(a:Gd s):SpB 125 [.box 100000 0,I n] [stC s] (.tup [I (bs Piece.id s.pieces n),DB (∃m∈s.pieces,m.id=n)]) [stC s] :=
 b_of func125 Ac Ac rfl rfl (dW2 s n a)
def putAt{α:Type}(l:List α)(i:Nat)(x:α):List α:=l.take i++x::l.drop i
theorem aR0{a:Type}(f:a->V)(l:List a)(i:Nat)(x:a):(l.map f).take i++f x::(l.map f).drop i=(putAt l i x).map f:=by
 unfold putAt;simp_all
def bQ8{a:Type}(key:a->Int)(l:List a)(t:Int):bs key l t<=l.length:=by
 grind [List.takeWhile_prefix,bs]
def dO3(l:List aN)(i:Nat)(x:aN)(hi:i<=l.length)(a:l.length<=1000000000):Sp 166 [.own 90 (l.map aQ),I i, .own 90 [aQ x]] (.own 90 ((putAt l i x).map aQ)):=by
 grind [dL7,aR0]
def bU8(l:List Piece)(i:Nat)(x:Piece)(hi:i<=l.length)(a:l.length<=1000000000):Sp 126 [.own 127 (l.map aZ),I i, .own 127 [aZ x]] (.own 127 ((putAt l i x).map aZ)):=by
 grind [dO8,aR0]
def bP5(l:List Int)(i:Nat)(x:Int)(hi:i<=l.length)(a:l.length<=1000000000):Sp 161 [.own 3 (l.map I),I i, .own 3 [I x]] (.own 3 ((putAt l i x).map I)):=by
 grind [dM5,aR0]
def putS(l:List aN)(x:aN):List aN:=putAt l (bs sid l (sid x)) x
def addS(s:aJ)(x:aN):aJ:={s with stocks:=putS s.stocks x}
def fD2(s:aJ)(x:aN)(a:Gd s):jR T Tryz.prog Tryz.f124 [.box 100000 0,aQ x] [stC s] (.tup []) [stC (addS s x)] :=by
 have d:=aE2 x;have b:=find_spec s (sid x) a;have c:=dO3 s.stocks (bs sid s.stocks (sid x)) x (bQ8 _ _ _) (by have:=a.ls;omega);unfold addS putS;generalize sid x=n at*;generalize bs sid s.stocks n=k at*;generalize (∃m∈s.stocks,sid m=n)=P at*;repeat' ((conv=>whnf);first|refine zh (b) [100000] ?_|refine bW8 [] [(21,[88888])] trivial Ac ?_|refine zh (xX c) [] ?_|refine zS ?_|fail)
 all_goals conv=>whnf
 all_goals first|exact⟨_,rfl,zc1⟩|exact zc1
def cF7(s:aJ)(x:aN)(a:Gd s):SpB 124 [.box 100000 0,aQ x] [stC s] (.tup []) [stC (addS s x)] :=
 b_of func124 Ac Ac rfl rfl (fD2 s x a)
theorem fH{a:Type}{l:List a}{i:Nat}{x y:a}:y∈putAt l i x↔y=x\/y∈l:=by
 grind [PO,PU,Qq,putAt]
theorem mQ{a:Type}{l:List a}{i:Nat}{x:a}:(putAt l i x).length=l.length+1:=by
 unfold putAt;grind
def yR{a:Type}{key:a->Int}{x:a}:∀ {l:List a},(l.map key).Pairwise (·<·)->(∀m∈l,key m≠key x)->((putAt l (bs key l (key x)) x).map key).Pairwise (·<·)
 | [],_,_=>by simp[putAt]
 |y::r,b,c=>by
  rw[PW,Ro]at b;obtain⟨i,d⟩:=b;have g:=c y Af;by_cases h:key y<key x
  have e:bs key (y::r) (key x)=bs key r (key x)+1:=by
   unfold bs;simp_all
  have j:=yR d (λm f=>c m (by simp[f]));rw[e];show List.Pairwise _ (key y::(putAt r (bs key r (key x)) x).map key);grind [Ro,fH,Q7]
  have e:bs key (y::r) (key x)=0:=by
   unfold bs;simp_all
  rw[e];show List.Pairwise _ (key x::key y::r.map key);grind [Ro]
def putN(l:List Int)(n:Int):List Int:=putAt l (bs id l n) n
def cO(used ids:List Int):List Int:=ids.foldl putN used
def dP:List Int->List Int->Prop
 |_,[] =>True
 |used,n::r=>n∉used/\dP (putN used n) r
def rF{l:List Int}{n:Int}(c:(l.map id).Pairwise (·<·))(b:n∉l):((putN l n).map id).Pairwise (·<·):=
 yR (key:=id) (x:=n) c (λm a e=>b (by rw[<-show m=n from e];exact a))
def aW4(used D:List Int)(n:Int):cO used (D++[n])=putN (cO used D) n:=by unfold cO;simp
def stB(s:aJ)(g:Nat):List V:=[.arr 100000 0, .arr 100001 0, .arr 100002 g,I s.received.1,I s.received.2,I s.scrap.1,I s.scrap.2]
def stA(s:aJ)(used:List Int)(g:Nat):List (Nat×AE):=[(100000,⟨0, .own,90,s.stocks.map aQ⟩),(100001,⟨0, .own,127,s.pieces.map aZ⟩),(100002,⟨g, .own,3,used.map I⟩)]
abbrev bots:List V:=[.bot, .bot, .bot, .bot, .bot, .bot, .bot]
def dR8(s:aJ)(ids:List Int)(j:Gd s)(o:s.used.length+ids.length<=1000000)(c:dP s.used ids):jR T Tryz.prog Tryz.f121 [.box 100000 0, .sl (ids.map I)] [stC s] (I 0) [stC {s with used:=cO s.used ids}] :=by
 have hll:(ids.map I).length=ids.length:=Af;repeat' ((conv=>whnf);first|refine zS ?_|fail)
 refine aU (A:=List Int) (B:=List Int) (λD R=>mkSt [(0, .box 100000 0),(9, .sl (ids.map I)),(10,I ids.length),(11,I D.length)] [(100000,stB s D.length)] (stA s (cO s.used D) D.length))
  (λD R=>ids=D++R/\((cO s.used D).map id).Pairwise (·<·)/\(cO s.used D).length=s.used.length+D.length/\(dP s.used ids↔dP (cO s.used D) R)) (λD R=>R.length) [] ids ?_ ⟨rfl,j.su,rfl,Qn⟩ (λD R hp=>?_)
 exact Jt;obtain⟨hp,b,hpl,hpo⟩:=hp;cases R with
 |nil=>
  have a:ids.length=D.length:=Ad;have e:ids=D:=Ad;rw[e];rw[e]at a hll;exact Nb
 |cons n R=>
  have a:=aO hp;have g:=cQ0 n (cO s.used D) GZ b;have f:=bP5 (cO s.used D) (bs id (cO s.used D) n) n (bQ8 _ _ _) GZ;have hsn:=aW4 s.used D n;have hps2:=λh=>rF (n:=n) b h;have hlp:(putN (cO s.used D) n).length=(cO s.used D).length+1:=mQ;have hq:dP (cO s.used D) (n::R)↔n∉cO s.used D/\dP (putN (cO s.used D) n) R:=Qn;have hmm:(∃m∈cO s.used D,m=n)↔n∈cO s.used D:=⟨λ⟨m,h,e⟩=>e▸h,λh=>⟨n,h,rfl⟩⟩;have i:((D++[n]).length:Int)=(D.length:Int)+1:=Af;generalize cO s.used D=U at*;have d:putN U n=putAt U (bs id U n) n:=rfl;rw[<-d]at f;generalize bs id U n=k at*;generalize putN U n=l at*;generalize (∃m∈U,m=n)=P at*;repeat' ((conv=>whnf);first|omega|(refine aS5 (g) true ?_ rfl ?_;focus ((repeat' (first|exact trivial|refine And.intro ?_ ?_|with_reducible rfl|exact(λh=>Ag)|exact rfl));done))|refine zh (xX f) [] ?_|refine zS ?_|refine zT ?_ ?_<;>intro _|fail)
  all_goals conv=>whnf
  exact absurd (hmm.1 Ah) (hq.1 (hpo.1 c)).1;all_goals refine⟨(D++[n],R),?_,⟨Ad,Dc,CW,BL⟩,Af⟩
  exact LZ
def aT7(s:aJ)(ids:List Int)(c:Gd s)(b:s.used.length+ids.length<=1000000)(a:dP s.used ids):SpB 121 [.box 100000 0, .sl (ids.map I)] [stC s] (I 0) [stC {s with used:=cO s.used ids}] :=
 b_of func121 Ac Ac rfl rfl (dR8 s ids c b a)
def dN4(s:aJ)(ids:List Int)(j:Gd s)(o:s.used.length+ids.length<=1000000)(c:¬dP s.used ids):jR T Tryz.prog Tryz.f121 [.box 100000 0, .sl (ids.map I)] [stC s] (I 7) [bots] :=by
 have hll:(ids.map I).length=ids.length:=Af;repeat' ((conv=>whnf);first|refine zS ?_|fail)
 refine aU (A:=List Int) (B:=List Int) (λD R=>mkSt [(0, .box 100000 0),(9, .sl (ids.map I)),(10,I ids.length),(11,I D.length)] [(100000,stB s D.length)] (stA s (cO s.used D) D.length))
  (λD R=>ids=D++R/\((cO s.used D).map id).Pairwise (·<·)/\(cO s.used D).length=s.used.length+D.length/\(dP s.used ids↔dP (cO s.used D) R)) (λD R=>R.length) [] ids ?_ ⟨rfl,j.su,rfl,Qn⟩ (λD R hp=>?_)
 exact Jt;obtain⟨hp,b,hpl,hpo⟩:=hp;cases R with
 |nil=>
  have a:ids.length=D.length:=Ad;have e:ids=D:=Ad;exact absurd (hpo.2 trivial) c
 |cons n R=>
  have a:=aO hp;have g:=cQ0 n (cO s.used D) GZ b;have f:=bP5 (cO s.used D) (bs id (cO s.used D) n) n (bQ8 _ _ _) GZ;have hsn:=aW4 s.used D n;have hps2:=λh=>rF (n:=n) b h;have hlp:(putN (cO s.used D) n).length=(cO s.used D).length+1:=mQ;have hq:dP (cO s.used D) (n::R)↔n∉cO s.used D/\dP (putN (cO s.used D) n) R:=Qn;have hmm:(∃m∈cO s.used D,m=n)↔n∈cO s.used D:=⟨λ⟨m,h,e⟩=>e▸h,λh=>⟨n,h,rfl⟩⟩;have i:((D++[n]).length:Int)=(D.length:Int)+1:=Af;generalize cO s.used D=U at*;have d:putN U n=putAt U (bs id U n) n:=rfl;rw[<-d]at f;generalize bs id U n=k at*;generalize putN U n=l at*;generalize (∃m∈U,m=n)=P at*;repeat' ((conv=>whnf);first|omega|(refine aS5 (g) true ?_ rfl ?_;focus ((repeat' (first|exact trivial|refine And.intro ?_ ?_|with_reducible rfl|exact(λh=>Ag)|exact rfl));done))|refine zh (xX f) [] ?_|refine zS ?_|refine zT ?_ ?_<;>intro _|fail)
  all_goals conv=>whnf
  ·skip
   all_goals conv=>whnf
   all_goals first|exact⟨_,rfl,zc1⟩|exact zc1
  all_goals refine⟨(D++[n],R),?_,⟨Ad,Dc,CW,BL⟩,Af⟩
  exact LZ
def aU4(s:aJ)(ids:List Int)(c:Gd s)(b:s.used.length+ids.length<=1000000)(a:¬dP s.used ids):SpB 121 [.box 100000 0, .sl (ids.map I)] [stC s] (I 7) [bots] :=
 b_of func121 Ac Ac rfl rfl (dN4 s ids c b a)
def aB8{d:Type}{key:d->Int}{t:Int}:∀ {l:List d},(l.map key).Pairwise (·<·)->(∃y∈l,key y=t)->∃m,l[bs key l t]? =some m/\key m=t
 | [],_,⟨y,a,_⟩=>by cases a
 |x::r,c,⟨y,a,e⟩=>by
  rw[PW,Ro]at c;obtain⟨g,i⟩:=c;by_cases h:key x<t
  have b:bs key (x::r) t=bs key r t+1:=by
   unfold bs;rw[List.takeWhile_cons_of_pos FY,PE]
  rcases P5.1 a with rfl|a;omega;obtain⟨m,j,f⟩:=aB8 i ⟨y,a,e⟩;exact⟨m,by rw[b];exact j,f⟩
  have b:bs key (x::r) t=0:=by
   unfold bs;rw[List.takeWhile_cons_of_neg FY];rfl
  rcases P5.1 a with rfl|a;exact⟨y,by rw[b];rfl,e⟩;have:=g _ (Q7 a);omega
def prog(x:aN)(p:ByteArray):aN:={x with program:=p}
def setK(s:aJ)(k:Nat)(x:aN):aJ:={s with stocks:=s.stocks.set k x}
theorem cP1(s:aJ)(k:Nat)(x:aN):stC (setK s k x)=[.own 90 ((s.stocks.map aQ).set ((k:Int)).toNat (aQ x)), .own 127 (s.pieces.map aZ), .own 3 (s.used.map I),I s.received.1,I s.received.2,I s.scrap.1,I s.scrap.2] :=by
 unfold stC setK;rw[Qc,List.map_set]
def cH5(s:aJ)(e:Event)(m:aN)(hs:Gd s)(a:∃m∈s.stocks,sid m=e.id)(hm:s.stocks[bs sid s.stocks e.id]? =some m)(b:m.program=aI):
 jR T Tryz.prog Tryz.f70 [.box 100000 0,aS e] [stC s] (I 0) [stC (setK s (bs sid s.stocks e.id) (prog m e.text))] :=by
 exact LG
def bM2(s:aJ)(e:Event)(m:aN)(d:Gd s)(a:∃m∈s.stocks,sid m=e.id)(b:s.stocks[bs sid s.stocks e.id]? =some m)(c:m.program=aI):
 SpB 70 [.box 100000 0,aS e] [stC s] (I 0) [stC (setK s (bs sid s.stocks e.id) (prog m e.text))] :=
 b_of func70 Ac Ac rfl rfl (cH5 s e m d a b c)
def cM4(s:aJ)(e:Event)(m:aN)(a:Gd s)(f:∃m∈s.stocks,sid m=e.id)(d:s.stocks[bs sid s.stocks e.id]? =some m)(i:¬(m.program=aI)):
 jR T Tryz.prog Tryz.f70 [.box 100000 0,aS e] [stC s] (I 27) [bots] :=by
 have h1:=find_spec s e.id a;have b:=(Pg.1 d).1;have c:(s.stocks.map aQ).length=s.stocks.length:=Af;have g:=a.ls;exact Lu
def bM0(s:aJ)(e:Event)(m:aN)(d:Gd s)(a:∃m∈s.stocks,sid m=e.id)(b:s.stocks[bs sid s.stocks e.id]? =some m)(c:¬(m.program=aI)):
 SpB 70 [.box 100000 0,aS e] [stC s] (I 27) [bots] :=
 b_of func70 Ac Ac rfl rfl (cM4 s e m d a b c)
def cI5(s:aJ)(e:Event)(hs:Gd s)(a:¬∃m∈s.stocks,sid m=e.id):
 jR T Tryz.prog Tryz.f70 [.box 100000 0,aS e] [stC s] (I 8) [bots] :=by
 exact LC
def bN7(s:aJ)(e:Event)(b:Gd s)(a:¬∃m∈s.stocks,sid m=e.id):
 SpB 70 [.box 100000 0,aS e] [stC s] (I 8) [bots] :=
 b_of func70 Ac Ac rfl rfl (cI5 s e b a)
def cR7(s:aJ)(e:Event)(m:aN)(hs:Gd s)(a:∃m∈s.stocks,sid m=e.id)(hm:s.stocks[bs sid s.stocks e.id]? =some m)(b:m.program≠aI):
 jR T Tryz.prog Tryz.f71 [.box 100000 0,aS e] [stC s] (I 0) [stC (setK s (bs sid s.stocks e.id) (prog m aI))] :=by
 exact LG
def bZ5(s:aJ)(e:Event)(m:aN)(d:Gd s)(a:∃m∈s.stocks,sid m=e.id)(b:s.stocks[bs sid s.stocks e.id]? =some m)(c:m.program≠aI):
 SpB 71 [.box 100000 0,aS e] [stC s] (I 0) [stC (setK s (bs sid s.stocks e.id) (prog m aI))] :=
 b_of func71 Ac Ac rfl rfl (cR7 s e m d a b c)
def cX3(s:aJ)(e:Event)(m:aN)(a:Gd s)(f:∃m∈s.stocks,sid m=e.id)(d:s.stocks[bs sid s.stocks e.id]? =some m)(i:¬(m.program≠aI)):
 jR T Tryz.prog Tryz.f71 [.box 100000 0,aS e] [stC s] (I 10) [bots] :=by
 have h1:=find_spec s e.id a;have b:=(Pg.1 d).1;have c:(s.stocks.map aQ).length=s.stocks.length:=Af;have g:=a.ls;exact Lu
def cB5(s:aJ)(e:Event)(m:aN)(d:Gd s)(a:∃m∈s.stocks,sid m=e.id)(b:s.stocks[bs sid s.stocks e.id]? =some m)(c:¬(m.program≠aI)):
 SpB 71 [.box 100000 0,aS e] [stC s] (I 10) [bots] :=
 b_of func71 Ac Ac rfl rfl (cX3 s e m d a b c)
def cQ4(s:aJ)(e:Event)(hs:Gd s)(a:¬∃m∈s.stocks,sid m=e.id):
 jR T Tryz.prog Tryz.f71 [.box 100000 0,aS e] [stC s] (I 8) [bots] :=by
 exact LC
def cA0(s:aJ)(e:Event)(b:Gd s)(a:¬∃m∈s.stocks,sid m=e.id):
 SpB 71 [.box 100000 0,aS e] [stC s] (I 8) [bots] :=
 b_of func71 Ac Ac rfl rfl (cQ4 s e b a)
def cV1{l:List V}{i j:Nat}{v:V}{K:V->Prop}(h:j=i)(hi:i<l.length)(a:K v):idx (l.set i v) j K:=by
 subst h;exact dE3 _ (by rw[List.getElem?_set_self hi]) a
def setP(s:aJ)(k:Nat)(x:Piece):aJ:={s with pieces:=s.pieces.set k x}
def eI0(s:aJ)(k:Nat)(x y:Piece):stC (setP s k x)=[.own 90 (s.stocks.map aQ), .own 127 (((s.pieces.map aZ).set ((k:Int)).toNat (aZ y)).set ((k:Int)).toNat (aZ x)), .own 3 (s.used.map I),I s.received.1,I s.received.2,I s.scrap.1,I s.scrap.2] :=by
 unfold stC setP;rw[Qc,List.set_set,List.map_set]
def marked(m:Piece)(st:Int)(o:ByteArray):Piece:={m with status:=st,order:=o}
def dU8(s:aJ)(n st:Int)(o:ByteArray)(m:Piece)(b:Gd s)(f:∃m∈s.pieces,m.id=n)(e:s.pieces[bs Piece.id s.pieces n]? =some m)(i:m.status=1):
 jR T Tryz.prog Tryz.f127 [.box 100000 0,I n,I st,S o] [stC s] (I 0) [stC (setP s (bs Piece.id s.pieces n) (marked m st o))] :=by
 have c:=uQ s n b;have d:=(Pg.1 e).1;have a:(s.pieces.map aZ).length=s.pieces.length:=Af;have g:=b.lp;generalize bs Piece.id s.pieces n=k at*;generalize (∃m∈s.pieces,m.id=n)=P at*;rw[eI0 s k (marked m st o) {m with status:=st}];repeat' ((conv=>whnf);first|(exfalso;contradiction)|refine zh (c) [100000] ?_|refine dS rfl rfl Eg ?_|refine dS rfl rfl (by refine⟨by omega,?_⟩;show _< ((List.set (s.pieces.map aZ) _ _).length:Int);rw[RV];omega) ?_|refine dB8 rfl rfl ?_|refine cV1 rfl (by rw[a];omega) ?_|refine zS ?_|refine zT ?_ ?_<;>intro _|fail)
 all_goals conv=>whnf
 all_goals first|exact⟨_,rfl,zc1⟩|exact zc1
def cU5(s:aJ)(n st:Int)(o:ByteArray)(m:Piece)(d:Gd s)(a:∃m∈s.pieces,m.id=n)(b:s.pieces[bs Piece.id s.pieces n]? =some m)(c:m.status=1):
 SpB 127 [.box 100000 0,I n,I st,S o] [stC s] (I 0) [stC (setP s (bs Piece.id s.pieces n) (marked m st o))] :=
 b_of func127 Ac Ac rfl rfl (dU8 s n st o m d a b c)
def eE6(s:aJ)(n st:Int)(o:ByteArray)(m:Piece)(a:Gd s)(f:∃m∈s.pieces,m.id=n)(e:s.pieces[bs Piece.id s.pieces n]? =some m)(i:¬m.status=1):
 jR T Tryz.prog Tryz.f127 [.box 100000 0,I n,I st,S o] [stC s] (I 10) [bots] :=by
 have b:=uQ s n a;have c:=(Pg.1 e).1;have d:(s.pieces.map aZ).length=s.pieces.length:=Af;have g:=a.lp;generalize bs Piece.id s.pieces n=k at*;generalize (∃m∈s.pieces,m.id=n)=P at*;repeat' ((conv=>whnf);first|(exfalso;contradiction)|refine zh (b) [100000] ?_|refine dS rfl rfl Eg ?_|refine zS ?_|refine zT ?_ ?_<;>intro _|fail)
 all_goals conv=>whnf
 all_goals first|exact⟨_,rfl,zc1⟩|exact zc1
def cR1(s:aJ)(n st:Int)(o:ByteArray)(m:Piece)(d:Gd s)(a:∃m∈s.pieces,m.id=n)(b:s.pieces[bs Piece.id s.pieces n]? =some m)(c:¬m.status=1):
 SpB 127 [.box 100000 0,I n,I st,S o] [stC s] (I 10) [bots] :=
 b_of func127 Ac Ac rfl rfl (eE6 s n st o m d a b c)
def eL2(s:aJ)(n st:Int)(o:ByteArray)(b:Gd s)(c:¬∃m∈s.pieces,m.id=n):
 jR T Tryz.prog Tryz.f127 [.box 100000 0,I n,I st,S o] [stC s] (I 8) [bots] :=by
 have a:=uQ s n b;generalize bs Piece.id s.pieces n=k at*;generalize (∃m∈s.pieces,m.id=n)=P at*;repeat' ((conv=>whnf);first|(exfalso;contradiction)|refine zh (a) [100000] ?_|refine zS ?_|refine zT ?_ ?_<;>intro _|fail)
 all_goals conv=>whnf
 all_goals first|exact⟨_,rfl,zc1⟩|exact zc1
def cX9(s:aJ)(n st:Int)(o:ByteArray)(b:Gd s)(a:¬∃m∈s.pieces,m.id=n):
 SpB 127 [.box 100000 0,I n,I st,S o] [stC s] (I 8) [bots] :=
 b_of func127 Ac Ac rfl rfl (eL2 s n st o b a)
def dP5(s:aJ)(e:Event){r:Int}{a:List (List V)}(hl:a=[bots]\/∃s',a=[stC s'])(h:SpB 127 [.box 100000 0,I e.id,I 2,S aI] [stC s] (I r) a):
 jR T Tryz.prog Tryz.f73 [.box 100000 0,aS e] [stC s] (I r) a:=by
 exact Nr
def aU1(s:aJ)(e:Event){r:Int}{a:List (List V)}(hl:a=[bots]\/∃s',a=[stC s'])(h:SpB 127 [.box 100000 0,I e.id,I 2,S aI] [stC s] (I r) a):
 SpB 73 [.box 100000 0,aS e] [stC s] (I r) a:=
 b_of func73 Ac Ac rfl Cj (dP5 s e hl h)
def eR6(s:aJ)(e:Event){r:Int}{a:List (List V)}(hl:a=[bots]\/∃s',a=[stC s'])(h:SpB 127 [.box 100000 0,I e.id,I 3,S e.text] [stC s] (I r) a):
 jR T Tryz.prog Tryz.f74 [.box 100000 0,aS e] [stC s] (I r) a:=by
 exact Nr
def bS3(s:aJ)(e:Event){r:Int}{a:List (List V)}(hl:a=[bots]\/∃s',a=[stC s'])(h:SpB 127 [.box 100000 0,I e.id,I 3,S e.text] [stC s] (I r) a):
 SpB 74 [.box 100000 0,aS e] [stC s] (I r) a:=
 b_of func74 Ac Ac rfl Cj (eR6 s e hl h)
def plus(b:Bool)(r:Iv)(n:Int):Iv:=if b then(r.1,W (r.2+n))else(W (r.1+n),r.2)
def aX7(s:aJ)(x:aN):aJ:={stocks:=putS s.stocks x,pieces:=s.pieces,used:=putN s.used (sid x),received:=plus x.isBar s.received (gG x),scrap:=s.scrap}
def eO0{s:aJ}{n:Int}(a:Gd s)(b:s.used.length+1<=1000000)(c:n∉s.used):Gd {s with used:=putN s.used n}:=
 ⟨a.ls,a.lp,by show(putN s.used n).length<=_;rw[show(putN s.used n).length=s.used.length+1 from mQ];exact b,a.ss,a.sp,rF a.su c⟩
def cJ5(s:aJ)(x:aN)(d:Gd s)(e:eY x)(a:s.used.length+1<=1000000)(c:sid x∉s.used):
 jR T Tryz.prog Tryz.f119 [.box 100000 0,aQ x] [stC s] (I 0) [stC (aX7 s x)] :=by
 have g:=aE2 x;have h2:=aT7 s [sid x] d a ⟨c,trivial⟩;have h3:=cF7 {s with used:=putN s.used (sid x)} x (eO0 d a c);have i:=oL x.isBar;have j:=vF x e;change SpB _ _ _ _ [stC {s with used:=putN s.used (sid x)}]at h2;unfold aX7;unfold addS at h3;simp only at h3;generalize putN s.used (sid x)=U at*;generalize putS s.stocks x=L at*;generalize sid x=n at*;generalize gG x=z at*;unfold plus;obtain⟨b,k,f,p⟩:=x;cases b
 ·exact Jh
 ·exact Jh
def bN1(s:aJ)(x:aN)(c:Gd s)(d:eY x)(a:s.used.length+1<=1000000)(b:sid x∉s.used):
 SpB 119 [.box 100000 0,aQ x] [stC s] (I 0) [stC (aX7 s x)] :=
 b_of func119 Ac Ac rfl rfl (cJ5 s x c d a b)
def cK4(s:aJ)(x:aN)(d:Gd s)(b:s.used.length+1<=1000000)(c:sid x∈s.used):
 jR T Tryz.prog Tryz.f119 [.box 100000 0,aQ x] [stC s] (I 7) [bots] :=by
 have e:=aE2 x;have a:=aU4 s [sid x] d b (λh=>h.1 c);generalize sid x=n at*;repeat' ((conv=>whnf);first|omega|refine zh (a) [100000] ?_|refine zS ?_|refine zT ?_ ?_<;>intro _|fail)
 all_goals conv=>whnf
 all_goals first|exact⟨_,rfl,zc1⟩|exact zc1
def bM7(s:aJ)(x:aN)(c:Gd s)(a:s.used.length+1<=1000000)(b:sid x∈s.used):
 SpB 119 [.box 100000 0,aQ x] [stC s] (I 7) [bots] :=
 b_of func119 Ac Ac rfl rfl (cK4 s x c a b)
def eF2(s:aJ)(e:Event){r:Int}{a:List (List V)}(hl:a=[bots]\/∃s',a=[stC s'])(h:SpB 119 [.box 100000 0,aQ (⟨true,dN,e.bar,aI⟩:aN)] [stC s] (I r) a):
 jR T Tryz.prog Tryz.f69 [.box 100000 0,aS e] [stC s] (I r) a:=by
 exact Nr
def bJ1(s:aJ)(e:Event){r:Int}{a:List (List V)}(hl:a=[bots]\/∃s',a=[stC s'])(h:SpB 119 [.box 100000 0,aQ (⟨true,dN,e.bar,aI⟩:aN)] [stC s] (I r) a):
 SpB 69 [.box 100000 0,aS e] [stC s] (I r) a:=
 b_of func69 Ac Ac rfl Cj (eF2 s e hl h)
def dO1(s:aJ)(e:Event){r:Int}{a:List (List V)}(hl:a=[bots]\/∃s',a=[stC s'])(h:SpB 119 [.box 100000 0,aQ (⟨false,e.sheet,bar0,aI⟩:aN)] [stC s] (I r) a):
 jR T Tryz.prog Tryz.f68 [.box 100000 0,aS e] [stC s] (I r) a:=by
 exact Nr
def aW2(s:aJ)(e:Event){r:Int}{a:List (List V)}(hl:a=[bots]\/∃s',a=[stC s'])(h:SpB 119 [.box 100000 0,aQ (⟨false,e.sheet,bar0,aI⟩:aN)] [stC s] (I r) a):
 SpB 68 [.box 100000 0,aS e] [stC s] (I r) a:=
 b_of func68 Ac Ac rfl Cj (dO1 s e hl h)
end Go.Proofs.Led
