/-
  The inventory as a variable: the stock and the piece with an ID, a stock put in.
-/
import Derived.Test.YtdjgbagnajikeaaGreatDoorB4
set_option linter.unusedVariables false
set_option linter.unusedSimpArgs false
set_option maxRecDepth 1000000
set_option maxHeartbeats 8000000
noncomputable section
namespace Go.Proofs.Led
open Go Go.Proofs Go.Ab
theorem dR6(l:List aN)(d:l.length<=1000000):fnVC T Tryz.prog Tryz.f72 [.sl (l.map aQ)] (.own 86 (l.map aQ)):=by
 have c:(l.map aQ).length=l.length:=Af;have a:∀y∈l.map aQ,y.cells.length=14:=λy hy=>AX
 repeat' ((conv=>whnf);first|(refine bV3.mk rfl (Q9 Ac) Ac (.inl rfl) ?_;intro b hb;cases b)|refine iH rfl (.inl rfl) rfl (Q9 rfl) a (by show 0+(List.map aQ l).length<=_;omega) ?_|refine zS ?_|fail)
 all_goals conv=>whnf
 ·exact KF
 ·exact Jm
theorem aV4(l:List aN)(a:l.length<=1000000):Sp 72 [.sl (l.map aQ)] (.own 86 (l.map aQ)):=zsp Tryz.func72 (dR6 l a)
theorem dO4(l:List Piece)(d:l.length<=1000000):fnVC T Tryz.prog Tryz.f73 [.sl (l.map aZ)] (.own 71 (l.map aZ)):=by
 have c:(l.map aZ).length=l.length:=Af;have a:∀y∈l.map aZ,y.cells.length=9:=λy hy=>AX
 repeat' ((conv=>whnf);first|(refine bV3.mk rfl (Q9 Ac) Ac (.inl rfl) ?_;intro b hb;cases b)|refine iH rfl (.inl rfl) rfl (Q9 rfl) a (by show 0+(List.map aZ l).length<=_;omega) ?_|refine zS ?_|fail)
 all_goals conv=>whnf
 ·exact KF
 ·exact Jm
theorem aV7(l:List Piece)(a:l.length<=1000000):Sp 73 [.sl (l.map aZ)] (.own 71 (l.map aZ)):=zsp Tryz.func73 (dO4 l a)
theorem dL1(l:List Int)(d:l.length<=1000000):fnVC T Tryz.prog Tryz.f74 [.sl (l.map I)] (.own 3 (l.map I)):=by
 have c:(l.map I).length=l.length:=Af;have a:∀y∈l.map I,y.cells.length=1:=λy hy=>AX
 repeat' ((conv=>whnf);first|(refine bV3.mk rfl (Q9 Ac) Ac (.inl rfl) ?_;intro b hb;cases b)|refine iH rfl (.inl rfl) rfl (Q9 rfl) a (by show 0+(List.map I l).length<=_;omega) ?_|refine zS ?_|fail)
 all_goals conv=>whnf
 ·exact KF
 ·exact Jm
theorem aT5(l:List Int)(a:l.length<=1000000):Sp 74 [.sl (l.map I)] (.own 3 (l.map I)):=zsp Tryz.func74 (dL1 l a)
def stC(s:aJ):List V:=[.own 86 (s.stocks.map aQ), .own 71 (s.pieces.map aZ), .own 3 (s.used.map I),I s.received.1,I s.received.2,I s.scrap.1,I s.scrap.2]
structure Gd(s:aJ):Prop where
 ls:s.stocks.length<=1000000
 lp:s.pieces.length<=1000000
 lu:s.used.length<=1000000
 ss:(s.stocks.map sid).Pairwise (·<·)
 sp:(s.pieces.map Piece.id).Pairwise (·<·)
 su:(s.used.map id).Pairwise (·<·)
theorem eM1(s:aJ)(n:Int)(a:Gd s):jR T Tryz.prog Tryz.f118 [.box 100000 0,I n] [stC s] (.tup [I (bs sid s.stocks n),DB (∃m∈s.stocks,sid m=n)]) [stC s] :=by
 have h1:=eB5 (g:=162) (t:=n) (λm=>cR0 m n) s.stocks a.ls a.ss;generalize bs sid s.stocks n=k at*;generalize (∃m∈s.stocks,sid m=n)=P at*;exact Ol
theorem find_spec(s:aJ)(n:Int)(a:Gd s):SpB 118 [.box 100000 0,I n] [stC s] (.tup [I (bs sid s.stocks n),DB (∃m∈s.stocks,sid m=n)]) [stC s] :=
 b_of Tryz.func118 Ac Ac rfl rfl (eM1 s n a)
theorem dW2(s:aJ)(n:Int)(a:Gd s):jR T Tryz.prog Tryz.f123 [.box 100000 0,I n] [stC s] (.tup [I (bs Piece.id s.pieces n),DB (∃m∈s.pieces,m.id=n)]) [stC s] :=by
 have h1:=eG9 (g:=171) (t:=n) (λm=>cG0 m n) s.pieces a.lp a.sp;generalize bs Piece.id s.pieces n=k at*;generalize (∃m∈s.pieces,m.id=n)=P at*;exact Ol
theorem uQ(s:aJ)(n:Int)(a:Gd s):SpB 123 [.box 100000 0,I n] [stC s] (.tup [I (bs Piece.id s.pieces n),DB (∃m∈s.pieces,m.id=n)]) [stC s] :=
 b_of Tryz.func123 Ac Ac rfl rfl (dW2 s n a)
def putAt{α:Type}(l:List α)(i:Nat)(x:α):List α:=l.take i++x::l.drop i
theorem aR0{a:Type}(f:a->V)(l:List a)(i:Nat)(x:a):(l.map f).take i++f x::(l.map f).drop i=(putAt l i x).map f:=by
 unfold putAt;simp_all
theorem bQ8{a:Type}(key:a->Int)(l:List a)(t:Int):bs key l t<=l.length:=by
 grind [List.takeWhile_prefix,bs]
theorem dO3(l:List aN)(i:Nat)(x:aN)(hi:i<=l.length)(a:l.length<=1000000000):Sp 169 [.own 86 (l.map aQ),I i, .own 86 [aQ x]] (.own 86 ((putAt l i x).map aQ)):=by
 grind [dL7,aR0]
theorem bU8(l:List Piece)(i:Nat)(x:Piece)(hi:i<=l.length)(a:l.length<=1000000000):Sp 124 [.own 71 (l.map aZ),I i, .own 71 [aZ x]] (.own 71 ((putAt l i x).map aZ)):=by
 grind [dO8,aR0]
theorem bP5(l:List Int)(i:Nat)(x:Int)(hi:i<=l.length)(a:l.length<=1000000000):Sp 164 [.own 3 (l.map I),I i, .own 3 [I x]] (.own 3 ((putAt l i x).map I)):=by
 grind [dM5,aR0]
def putS(l:List aN)(x:aN):List aN:=putAt l (bs sid l (sid x)) x
def addS(s:aJ)(x:aN):aJ:={s with stocks:=putS s.stocks x}
theorem fD2(s:aJ)(x:aN)(a:Gd s):jR T Tryz.prog Tryz.f122 [.box 100000 0,aQ x] [stC s] (.tup []) [stC (addS s x)] :=by
 have d:=aE2 x;have b:=find_spec s (sid x) a
 have c:=dO3 s.stocks (bs sid s.stocks (sid x)) x (bQ8 _ _ _) (by have:=a.ls;omega)
 unfold addS putS;generalize sid x=n at*;generalize bs sid s.stocks n=k at*;generalize (∃m∈s.stocks,sid m=n)=P at*
 repeat' ((conv=>whnf);first|refine zh (b) [100000] ?_|refine bW8 [] [(21,[88888])] trivial Ac ?_|refine zh (xX c) [] ?_|refine zS ?_|fail)
 all_goals conv=>whnf
 all_goals first|exact⟨_,rfl,zc1⟩|exact zc1
theorem cF7(s:aJ)(x:aN)(a:Gd s):SpB 122 [.box 100000 0,aQ x] [stC s] (.tup []) [stC (addS s x)] :=
 b_of Tryz.func122 Ac Ac rfl rfl (fD2 s x a)
theorem fH{a:Type}{l:List a}{i:Nat}{x y:a}:y∈putAt l i x↔y=x\/y∈l:=by
 grind [RG,Rz,SI,putAt]
theorem mQ{a:Type}{l:List a}{i:Nat}{x:a}:(putAt l i x).length=l.length+1:=by
 unfold putAt;grind
theorem yR{a:Type}{key:a->Int}{x:a}:∀ {l:List a},(l.map key).Pairwise (·<·)->(∀m∈l,key m≠key x)->((putAt l (bs key l (key x)) x).map key).Pairwise (·<·)
 | [],_,_=>by simp[putAt]
 |y::r,b,c=>by
  rw[Rq,Sl]at b;obtain⟨i,d⟩:=b;have g:=c y Af;by_cases h:key y<key x
  ·have e:bs key (y::r) (key x)=bs key r (key x)+1:=by
    unfold bs;simp_all
   have j:=yR d (λm f=>c m (by simp[f]))
   rw[e];show List.Pairwise _ (key y::(putAt r (bs key r (key x)) x).map key);grind [Sl,fH,RJ]
  ·have e:bs key (y::r) (key x)=0:=by
    unfold bs;simp_all
   rw[e];show List.Pairwise _ (key x::key y::r.map key);grind [Sl]
def putN(l:List Int)(n:Int):List Int:=putAt l (bs id l n) n
def cO(used ids:List Int):List Int:=ids.foldl putN used
def dP:List Int->List Int->Prop
 |_,[] =>True
 |used,n::r=>n∉used/\dP (putN used n) r
theorem rF{l:List Int}{n:Int}(c:(l.map id).Pairwise (·<·))(b:n∉l):((putN l n).map id).Pairwise (·<·):=
 yR (key:=id) (x:=n) c (λm a e=>b (by rw[<-show m=n from e];exact a))
theorem aW4(used D:List Int)(n:Int):cO used (D++[n])=putN (cO used D) n:=by unfold cO;simp
def stB(s:aJ)(g:Nat):List V:=[.arr 100000 0, .arr 100001 0, .arr 100002 g,I s.received.1,I s.received.2,I s.scrap.1,I s.scrap.2]
def stA(s:aJ)(used:List Int)(g:Nat):List (Nat×AE):=[(100000,⟨0, .own,86,s.stocks.map aQ⟩),(100001,⟨0, .own,71,s.pieces.map aZ⟩),(100002,⟨g, .own,3,used.map I⟩)]
abbrev bots:List V:=[.bot, .bot, .bot, .bot, .bot, .bot, .bot]
theorem dR8(s:aJ)(ids:List Int)(j:Gd s)(o:s.used.length+ids.length<=1000000)(c:dP s.used ids):jR T Tryz.prog Tryz.f119 [.box 100000 0, .sl (ids.map I)] [stC s] (I 0) [stC {s with used:=cO s.used ids}] :=by
 have hll:(ids.map I).length=ids.length:=Af
 repeat' ((conv=>whnf);first|refine zS ?_|fail)
 refine aU (A:=List Int) (B:=List Int) (λD R=>mkSt [(0, .box 100000 0),(9, .sl (ids.map I)),(10,I ids.length),(11,I D.length)] [(100000,stB s D.length)] (stA s (cO s.used D) D.length))
  (λD R=>ids=D++R/\((cO s.used D).map id).Pairwise (·<·)/\(cO s.used D).length=s.used.length+D.length/\(dP s.used ids↔dP (cO s.used D) R)) (λD R=>R.length) [] ids ?_ ⟨rfl,j.su,rfl,RN⟩ (λD R hp=>?_)
 ·exact JY
 obtain⟨hp,b,hpl,hpo⟩:=hp
 cases R with
 |nil=>
  have a:ids.length=D.length:=Ae;have e:ids=D:=Ae
  rw[e];rw[e]at a hll;exact OE
 |cons n R=>
  have a:=aO hp;have g:=cQ0 n (cO s.used D) Ip b
  have f:=bP5 (cO s.used D) (bs id (cO s.used D) n) n (bQ8 _ _ _) Ip;have hsn:=aW4 s.used D n
  have hps2:=λh=>rF (n:=n) b h;have hlp:(putN (cO s.used D) n).length=(cO s.used D).length+1:=mQ
  have hq:dP (cO s.used D) (n::R)↔n∉cO s.used D/\dP (putN (cO s.used D) n) R:=RN;have hmm:(∃m∈cO s.used D,m=n)↔n∈cO s.used D:=⟨λ⟨m,h,e⟩=>e▸h,λh=>⟨n,h,rfl⟩⟩
  have i:((D++[n]).length:Int)=(D.length:Int)+1:=Af;generalize cO s.used D=U at*;have d:putN U n=putAt U (bs id U n) n:=rfl
  rw[<-d]at f;generalize bs id U n=k at*;generalize putN U n=l at*;generalize (∃m∈U,m=n)=P at*
  repeat' ((conv=>whnf);first|omega|(refine aS5 (g) true ?_ rfl ?_;focus ((repeat' (first|exact trivial|refine And.intro ?_ ?_|with_reducible rfl|exact(λh=>Ah)|exact rfl));done))|refine zh (xX f) [] ?_|refine zS ?_|refine zT ?_ ?_<;>intro _|fail)
  all_goals conv=>whnf
  ·exact absurd (hmm.1 Ag) (hq.1 (hpo.1 c)).1
  all_goals refine⟨(D++[n],R),?_,⟨Ae,DX,DU,CG⟩,Af⟩
  exact Qn
theorem aT7(s:aJ)(ids:List Int)(c:Gd s)(b:s.used.length+ids.length<=1000000)(a:dP s.used ids):SpB 119 [.box 100000 0, .sl (ids.map I)] [stC s] (I 0) [stC {s with used:=cO s.used ids}] :=
 b_of Tryz.func119 Ac Ac rfl rfl (dR8 s ids c b a)
theorem dN4(s:aJ)(ids:List Int)(j:Gd s)(o:s.used.length+ids.length<=1000000)(c:¬dP s.used ids):jR T Tryz.prog Tryz.f119 [.box 100000 0, .sl (ids.map I)] [stC s] (I 7) [bots] :=by
 have hll:(ids.map I).length=ids.length:=Af
 repeat' ((conv=>whnf);first|refine zS ?_|fail)
 refine aU (A:=List Int) (B:=List Int) (λD R=>mkSt [(0, .box 100000 0),(9, .sl (ids.map I)),(10,I ids.length),(11,I D.length)] [(100000,stB s D.length)] (stA s (cO s.used D) D.length))
  (λD R=>ids=D++R/\((cO s.used D).map id).Pairwise (·<·)/\(cO s.used D).length=s.used.length+D.length/\(dP s.used ids↔dP (cO s.used D) R)) (λD R=>R.length) [] ids ?_ ⟨rfl,j.su,rfl,RN⟩ (λD R hp=>?_)
 ·exact JY
 obtain⟨hp,b,hpl,hpo⟩:=hp
 cases R with
 |nil=>
  have a:ids.length=D.length:=Ae;have e:ids=D:=Ae
  exact absurd (hpo.2 trivial) c
 |cons n R=>
  have a:=aO hp;have g:=cQ0 n (cO s.used D) Ip b
  have f:=bP5 (cO s.used D) (bs id (cO s.used D) n) n (bQ8 _ _ _) Ip;have hsn:=aW4 s.used D n
  have hps2:=λh=>rF (n:=n) b h;have hlp:(putN (cO s.used D) n).length=(cO s.used D).length+1:=mQ
  have hq:dP (cO s.used D) (n::R)↔n∉cO s.used D/\dP (putN (cO s.used D) n) R:=RN;have hmm:(∃m∈cO s.used D,m=n)↔n∈cO s.used D:=⟨λ⟨m,h,e⟩=>e▸h,λh=>⟨n,h,rfl⟩⟩
  have i:((D++[n]).length:Int)=(D.length:Int)+1:=Af;generalize cO s.used D=U at*;have d:putN U n=putAt U (bs id U n) n:=rfl
  rw[<-d]at f;generalize bs id U n=k at*;generalize putN U n=l at*;generalize (∃m∈U,m=n)=P at*
  repeat' ((conv=>whnf);first|omega|(refine aS5 (g) true ?_ rfl ?_;focus ((repeat' (first|exact trivial|refine And.intro ?_ ?_|with_reducible rfl|exact(λh=>Ah)|exact rfl));done))|refine zh (xX f) [] ?_|refine zS ?_|refine zT ?_ ?_<;>intro _|fail)
  all_goals conv=>whnf
  ·skip
   all_goals conv=>whnf
   all_goals first|exact⟨_,rfl,zc1⟩|exact zc1
  all_goals refine⟨(D++[n],R),?_,⟨Ae,DX,DU,CG⟩,Af⟩
  exact Qn
theorem aU4(s:aJ)(ids:List Int)(c:Gd s)(b:s.used.length+ids.length<=1000000)(a:¬dP s.used ids):SpB 119 [.box 100000 0, .sl (ids.map I)] [stC s] (I 7) [bots] :=
 b_of Tryz.func119 Ac Ac rfl rfl (dN4 s ids c b a)
theorem aB8{d:Type}{key:d->Int}{t:Int}:∀ {l:List d},(l.map key).Pairwise (·<·)->(∃y∈l,key y=t)->∃m,l[bs key l t]? =some m/\key m=t
 | [],_,⟨y,a,_⟩=>by cases a
 |x::r,c,⟨y,a,e⟩=>by
  rw[Rq,Sl]at c;obtain⟨g,i⟩:=c;by_cases h:key x<t
  ·have b:bs key (x::r) t=bs key r t+1:=by
    unfold bs;rw[List.takeWhile_cons_of_pos Fp,Rf]
   rcases Rh.1 a with rfl|a
   ·omega
   ·obtain⟨m,j,f⟩:=aB8 i ⟨y,a,e⟩
    exact⟨m,by rw[b];exact j,f⟩
  ·have b:bs key (x::r) t=0:=by
    unfold bs;rw[List.takeWhile_cons_of_neg Fp];rfl
   rcases Rh.1 a with rfl|a
   ·exact⟨y,by rw[b];rfl,e⟩
   ·have:=g _ (RJ a)
    omega
def prog(x:aN)(p:ByteArray):aN:={x with program:=p}
def setK(s:aJ)(k:Nat)(x:aN):aJ:={s with stocks:=s.stocks.set k x}
theorem cP1(s:aJ)(k:Nat)(x:aN):stC (setK s k x)=[.own 86 ((s.stocks.map aQ).set ((k:Int)).toNat (aQ x)), .own 71 (s.pieces.map aZ), .own 3 (s.used.map I),I s.received.1,I s.received.2,I s.scrap.1,I s.scrap.2] :=by
 unfold stC setK;rw[Sz,UQ]
theorem cH5(s:aJ)(e:Event)(m:aN)(hs:Gd s)(a:∃m∈s.stocks,sid m=e.id)(hm:s.stocks[bs sid s.stocks e.id]? =some m)(b:m.program=aI):
 jR T Tryz.prog Tryz.f77 [.box 100000 0,aS e] [stC s] (I 0) [stC (setK s (bs sid s.stocks e.id) (prog m e.text))] :=by
 exact NJ
theorem bM2(s:aJ)(e:Event)(m:aN)(d:Gd s)(a:∃m∈s.stocks,sid m=e.id)(b:s.stocks[bs sid s.stocks e.id]? =some m)(c:m.program=aI):
 SpB 77 [.box 100000 0,aS e] [stC s] (I 0) [stC (setK s (bs sid s.stocks e.id) (prog m e.text))] :=
 b_of Tryz.func77 Ac Ac rfl rfl (cH5 s e m d a b c)
theorem cM4(s:aJ)(e:Event)(m:aN)(a:Gd s)(f:∃m∈s.stocks,sid m=e.id)(d:s.stocks[bs sid s.stocks e.id]? =some m)(i:¬(m.program=aI)):
 jR T Tryz.prog Tryz.f77 [.box 100000 0,aS e] [stC s] (I 27) [bots] :=by
 have h1:=find_spec s e.id a;have b:=(QR.1 d).1
 have c:(s.stocks.map aQ).length=s.stocks.length:=Af;have g:=a.ls
 exact Nz
theorem bM0(s:aJ)(e:Event)(m:aN)(d:Gd s)(a:∃m∈s.stocks,sid m=e.id)(b:s.stocks[bs sid s.stocks e.id]? =some m)(c:¬(m.program=aI)):
 SpB 77 [.box 100000 0,aS e] [stC s] (I 27) [bots] :=
 b_of Tryz.func77 Ac Ac rfl rfl (cM4 s e m d a b c)
theorem cI5(s:aJ)(e:Event)(hs:Gd s)(a:¬∃m∈s.stocks,sid m=e.id):
 jR T Tryz.prog Tryz.f77 [.box 100000 0,aS e] [stC s] (I 8) [bots] :=by
 exact N9
theorem bN7(s:aJ)(e:Event)(b:Gd s)(a:¬∃m∈s.stocks,sid m=e.id):
 SpB 77 [.box 100000 0,aS e] [stC s] (I 8) [bots] :=
 b_of Tryz.func77 Ac Ac rfl rfl (cI5 s e b a)
theorem cR7(s:aJ)(e:Event)(m:aN)(hs:Gd s)(a:∃m∈s.stocks,sid m=e.id)(hm:s.stocks[bs sid s.stocks e.id]? =some m)(b:m.program≠aI):
 jR T Tryz.prog Tryz.f78 [.box 100000 0,aS e] [stC s] (I 0) [stC (setK s (bs sid s.stocks e.id) (prog m aI))] :=by
 exact NJ
theorem bZ5(s:aJ)(e:Event)(m:aN)(d:Gd s)(a:∃m∈s.stocks,sid m=e.id)(b:s.stocks[bs sid s.stocks e.id]? =some m)(c:m.program≠aI):
 SpB 78 [.box 100000 0,aS e] [stC s] (I 0) [stC (setK s (bs sid s.stocks e.id) (prog m aI))] :=
 b_of Tryz.func78 Ac Ac rfl rfl (cR7 s e m d a b c)
theorem cX3(s:aJ)(e:Event)(m:aN)(a:Gd s)(f:∃m∈s.stocks,sid m=e.id)(d:s.stocks[bs sid s.stocks e.id]? =some m)(i:¬(m.program≠aI)):
 jR T Tryz.prog Tryz.f78 [.box 100000 0,aS e] [stC s] (I 10) [bots] :=by
 have h1:=find_spec s e.id a;have b:=(QR.1 d).1
 have c:(s.stocks.map aQ).length=s.stocks.length:=Af;have g:=a.ls
 exact Nz
theorem cB5(s:aJ)(e:Event)(m:aN)(d:Gd s)(a:∃m∈s.stocks,sid m=e.id)(b:s.stocks[bs sid s.stocks e.id]? =some m)(c:¬(m.program≠aI)):
 SpB 78 [.box 100000 0,aS e] [stC s] (I 10) [bots] :=
 b_of Tryz.func78 Ac Ac rfl rfl (cX3 s e m d a b c)
theorem cQ4(s:aJ)(e:Event)(hs:Gd s)(a:¬∃m∈s.stocks,sid m=e.id):
 jR T Tryz.prog Tryz.f78 [.box 100000 0,aS e] [stC s] (I 8) [bots] :=by
 exact N9
theorem cA0(s:aJ)(e:Event)(b:Gd s)(a:¬∃m∈s.stocks,sid m=e.id):
 SpB 78 [.box 100000 0,aS e] [stC s] (I 8) [bots] :=
 b_of Tryz.func78 Ac Ac rfl rfl (cQ4 s e b a)
theorem cV1{l:List V}{i j:Nat}{v:V}{K:V->Prop}(h:j=i)(hi:i<l.length)(a:K v):idx (l.set i v) j K:=by
 subst h;exact dE3 _ (by rw[List.getElem?_set_self hi]) a
def setP(s:aJ)(k:Nat)(x:Piece):aJ:={s with pieces:=s.pieces.set k x}
theorem eI0(s:aJ)(k:Nat)(x y:Piece):stC (setP s k x)=[.own 86 (s.stocks.map aQ), .own 71 (((s.pieces.map aZ).set ((k:Int)).toNat (aZ y)).set ((k:Int)).toNat (aZ x)), .own 3 (s.used.map I),I s.received.1,I s.received.2,I s.scrap.1,I s.scrap.2] :=by
 unfold stC setP;rw[Sz,List.set_set,UQ]
def marked(m:Piece)(st:Int)(o:ByteArray):Piece:={m with status:=st,order:=o}
theorem dU8(s:aJ)(n st:Int)(o:ByteArray)(m:Piece)(a:Gd s)(e:∃m∈s.pieces,m.id=n)(d:s.pieces[bs Piece.id s.pieces n]? =some m)(g:m.status=1):
 jR T Tryz.prog Tryz.f126 [.box 100000 0,I n,I st,S o] [stC s] (I 0) [stC (setP s (bs Piece.id s.pieces n) (marked m st o))] :=by
 have b:=uQ s n a;have c:=(QR.1 d).1
 have hll:(s.pieces.map aZ).length=s.pieces.length:=Af;have f:=a.lp
 generalize bs Piece.id s.pieces n=k at*;generalize (∃m∈s.pieces,m.id=n)=P at*;rw[eI0 s k (marked m st o) {m with status:=st}]
 repeat' ((conv=>whnf);first|(exfalso;contradiction)|refine zh (b) [100000] ?_|refine dS rfl rfl BJ ?_|refine dS rfl rfl (by refine⟨by omega,?_⟩;show _< ((List.set (s.pieces.map aZ) _ _).length:Int);rw[Tz];omega) ?_|refine dB8 rfl rfl ?_|refine cV1 rfl Io ?_|refine zS ?_|refine zT ?_ ?_<;>intro _|fail)
 all_goals conv=>whnf
 all_goals first|exact⟨_,rfl,zc1⟩|exact zc1
theorem cU5(s:aJ)(n st:Int)(o:ByteArray)(m:Piece)(d:Gd s)(a:∃m∈s.pieces,m.id=n)(b:s.pieces[bs Piece.id s.pieces n]? =some m)(c:m.status=1):
 SpB 126 [.box 100000 0,I n,I st,S o] [stC s] (I 0) [stC (setP s (bs Piece.id s.pieces n) (marked m st o))] :=
 b_of Tryz.func126 Ac Ac rfl rfl (dU8 s n st o m d a b c)
theorem eE6(s:aJ)(n st:Int)(o:ByteArray)(m:Piece)(a:Gd s)(f:∃m∈s.pieces,m.id=n)(e:s.pieces[bs Piece.id s.pieces n]? =some m)(i:¬m.status=1):
 jR T Tryz.prog Tryz.f126 [.box 100000 0,I n,I st,S o] [stC s] (I 10) [bots] :=by
 have b:=uQ s n a;have c:=(QR.1 e).1
 have d:(s.pieces.map aZ).length=s.pieces.length:=Af;have g:=a.lp
 generalize bs Piece.id s.pieces n=k at*;generalize (∃m∈s.pieces,m.id=n)=P at*
 repeat' ((conv=>whnf);first|(exfalso;contradiction)|refine zh (b) [100000] ?_|refine dS rfl rfl BJ ?_|refine zS ?_|refine zT ?_ ?_<;>intro _|fail)
 all_goals conv=>whnf
 all_goals first|exact⟨_,rfl,zc1⟩|exact zc1
theorem cR1(s:aJ)(n st:Int)(o:ByteArray)(m:Piece)(d:Gd s)(a:∃m∈s.pieces,m.id=n)(b:s.pieces[bs Piece.id s.pieces n]? =some m)(c:¬m.status=1):
 SpB 126 [.box 100000 0,I n,I st,S o] [stC s] (I 10) [bots] :=
 b_of Tryz.func126 Ac Ac rfl rfl (eE6 s n st o m d a b c)
theorem eL2(s:aJ)(n st:Int)(o:ByteArray)(b:Gd s)(c:¬∃m∈s.pieces,m.id=n):
 jR T Tryz.prog Tryz.f126 [.box 100000 0,I n,I st,S o] [stC s] (I 8) [bots] :=by
 have a:=uQ s n b;generalize bs Piece.id s.pieces n=k at*;generalize (∃m∈s.pieces,m.id=n)=P at*
 repeat' ((conv=>whnf);first|(exfalso;contradiction)|refine zh (a) [100000] ?_|refine zS ?_|refine zT ?_ ?_<;>intro _|fail)
 all_goals conv=>whnf
 all_goals first|exact⟨_,rfl,zc1⟩|exact zc1
theorem cX9(s:aJ)(n st:Int)(o:ByteArray)(b:Gd s)(a:¬∃m∈s.pieces,m.id=n):
 SpB 126 [.box 100000 0,I n,I st,S o] [stC s] (I 8) [bots] :=
 b_of Tryz.func126 Ac Ac rfl rfl (eL2 s n st o b a)
theorem dP5(s:aJ)(e:Event){r:Int}{a:List (List V)}(hl:a=[bots]\/∃s',a=[stC s'])(h:SpB 126 [.box 100000 0,I e.id,I 2,S aI] [stC s] (I r) a):
 jR T Tryz.prog Tryz.f80 [.box 100000 0,aS e] [stC s] (I r) a:=by
 exact OU
theorem aU1(s:aJ)(e:Event){r:Int}{a:List (List V)}(hl:a=[bots]\/∃s',a=[stC s'])(h:SpB 126 [.box 100000 0,I e.id,I 2,S aI] [stC s] (I r) a):
 SpB 80 [.box 100000 0,aS e] [stC s] (I r) a:=
 b_of Tryz.func80 Ac Ac rfl D8 (dP5 s e hl h)
theorem eR6(s:aJ)(e:Event){r:Int}{a:List (List V)}(hl:a=[bots]\/∃s',a=[stC s'])(h:SpB 126 [.box 100000 0,I e.id,I 3,S e.text] [stC s] (I r) a):
 jR T Tryz.prog Tryz.f81 [.box 100000 0,aS e] [stC s] (I r) a:=by
 exact OU
theorem bS3(s:aJ)(e:Event){r:Int}{a:List (List V)}(hl:a=[bots]\/∃s',a=[stC s'])(h:SpB 126 [.box 100000 0,I e.id,I 3,S e.text] [stC s] (I r) a):
 SpB 81 [.box 100000 0,aS e] [stC s] (I r) a:=
 b_of Tryz.func81 Ac Ac rfl D8 (eR6 s e hl h)
def plus(b:Bool)(r:Iv)(n:Int):Iv:=if b then(r.1,W (r.2+n))else(W (r.1+n),r.2)
def aX7(s:aJ)(x:aN):aJ:={stocks:=putS s.stocks x,pieces:=s.pieces,used:=putN s.used (sid x),received:=plus x.isBar s.received (gG x),scrap:=s.scrap}
theorem eO0{s:aJ}{n:Int}(a:Gd s)(b:s.used.length+1<=1000000)(c:n∉s.used):Gd {s with used:=putN s.used n}:=
 ⟨a.ls,a.lp,by show(putN s.used n).length<=_;rw[show(putN s.used n).length=s.used.length+1 from mQ];exact b,a.ss,a.sp,rF a.su c⟩
theorem cJ5(s:aJ)(x:aN)(d:Gd s)(e:eY x)(a:s.used.length+1<=1000000)(c:sid x∉s.used):
 jR T Tryz.prog Tryz.f117 [.box 100000 0,aQ x] [stC s] (I 0) [stC (aX7 s x)] :=by
 have g:=aE2 x;have h2:=aT7 s [sid x] d a ⟨c,trivial⟩
 have h3:=cF7 {s with used:=putN s.used (sid x)} x (eO0 d a c);have i:=oL x.isBar
 have j:=vF x e;change SpB _ _ _ _ [stC {s with used:=putN s.used (sid x)}]at h2;unfold aX7;unfold addS at h3;simp only at h3;generalize putN s.used (sid x)=U at*;generalize putS s.stocks x=L at*;generalize sid x=n at*;generalize gG x=z at*;unfold plus;obtain⟨b,k,f,p⟩:=x;cases b
 ·exact JM
 ·exact JM
theorem bN1(s:aJ)(x:aN)(c:Gd s)(d:eY x)(a:s.used.length+1<=1000000)(b:sid x∉s.used):
 SpB 117 [.box 100000 0,aQ x] [stC s] (I 0) [stC (aX7 s x)] :=
 b_of Tryz.func117 Ac Ac rfl rfl (cJ5 s x c d a b)
theorem cK4(s:aJ)(x:aN)(d:Gd s)(b:s.used.length+1<=1000000)(c:sid x∈s.used):
 jR T Tryz.prog Tryz.f117 [.box 100000 0,aQ x] [stC s] (I 7) [bots] :=by
 have e:=aE2 x;have a:=aU4 s [sid x] d b (λh=>h.1 c)
 generalize sid x=n at*
 repeat' ((conv=>whnf);first|omega|refine zh (a) [100000] ?_|refine zS ?_|refine zT ?_ ?_<;>intro _|fail)
 all_goals conv=>whnf
 all_goals first|exact⟨_,rfl,zc1⟩|exact zc1
theorem bM7(s:aJ)(x:aN)(c:Gd s)(a:s.used.length+1<=1000000)(b:sid x∈s.used):
 SpB 117 [.box 100000 0,aQ x] [stC s] (I 7) [bots] :=
 b_of Tryz.func117 Ac Ac rfl rfl (cK4 s x c a b)
theorem eF2(s:aJ)(e:Event){r:Int}{a:List (List V)}(hl:a=[bots]\/∃s',a=[stC s'])(h:SpB 117 [.box 100000 0,aQ (⟨true,dN,e.bar,aI⟩:aN)] [stC s] (I r) a):
 jR T Tryz.prog Tryz.f76 [.box 100000 0,aS e] [stC s] (I r) a:=by
 exact OU
theorem bJ1(s:aJ)(e:Event){r:Int}{a:List (List V)}(hl:a=[bots]\/∃s',a=[stC s'])(h:SpB 117 [.box 100000 0,aQ (⟨true,dN,e.bar,aI⟩:aN)] [stC s] (I r) a):
 SpB 76 [.box 100000 0,aS e] [stC s] (I r) a:=
 b_of Tryz.func76 Ac Ac rfl D8 (eF2 s e hl h)
theorem dO1(s:aJ)(e:Event){r:Int}{a:List (List V)}(hl:a=[bots]\/∃s',a=[stC s'])(h:SpB 117 [.box 100000 0,aQ (⟨false,e.sheet,bar0,aI⟩:aN)] [stC s] (I r) a):
 jR T Tryz.prog Tryz.f75 [.box 100000 0,aS e] [stC s] (I r) a:=by
 exact OU
theorem aW2(s:aJ)(e:Event){r:Int}{a:List (List V)}(hl:a=[bots]\/∃s',a=[stC s'])(h:SpB 117 [.box 100000 0,aQ (⟨false,e.sheet,bar0,aI⟩:aN)] [stC s] (I r) a):
 SpB 75 [.box 100000 0,aS e] [stC s] (I r) a:=
 b_of Tryz.func75 Ac Ac rfl D8 (dO1 s e hl h)
end Go.Proofs.Led
namespace Go.Proofs.Led
open Go Go.Proofs Go.Ab Go.RowKit Go.Lib
theorem yA{P:Program}{ops:Array Oper}{o:Oper}{a:Act}{w:World}{K:Act->World->Prop}{Q:Exit->Act->World->Prop}{E:Prop}
 (hg:o.guard=none)(d x:Operand)(c e:TypeId)(b:o.op=Op.call {callee:=Callee.builtin Builtin.append,args:= #[d,x],argTypes:= #[c,e]})
 (v u:Value)(f:a.eval d=v)(j:a.eval x=u){v':Value}{w':World}(g:(Builtin.append_ #[c,e] o.type #[v,u]).run P w= .ok v' w')(hK:K (a.put o.dst v') w'):
 if Region.wanted o (yielded ops a.tmps)=true then Oper.wp P o a w K Q else E:=by
 have i:Region.wanted o (yielded ops a.tmps)=true:=Df;rw[QO i];unfold Oper.wp;simp[execOp,b,resolve,invoke,builtin,f,j,g,Result.andThen];exact hK
theorem dQ4(b m c i:Nat)(cur:Array Value)(w:World)(hi:i<=m)(ai:m+1<=c)(W:c<=9223372036854775807)
 (L:w.heap[b]? =some (.cells cur 86 (0,0)))(o:cur.size=c*14)(h1:∀v∈cur.toList.take ((m+1)*14),v.oneCell'=true):
 Calls Tryz.prog 121 #[.slice (some ⟨b,0,none⟩) (m+1) c, .int .i64 i, .int .i64 ((i:Int)+1)] w λe w'=>
  ∃F:List Value,F.length=14/\e= .returned (.slice (some ⟨b,0,none⟩) m c)/\w'=(w.drew.setRow b (lay cur (i*14) ((cur.toList.drop ((i+1)*14)).take ((m-i)*14)))).setRow b (lay (lay cur (i*14) ((cur.toList.drop ((i+1)*14)).take ((m-i)*14))) (m*14) F):=by
 obtain⟨Y,B,g,S,z,X,C,t,D,-,-⟩:=(uG 86 (Q9 Ac)).info;have Z:(T.row 86).size=14:=Ac;rw[Z]at g D;have J:z.cells.size=14:=by rw[<-RV,C,D]
 have y:cur.toList.length=c*14:=by rw[<-o];exact RV
 obtain⟨a,d⟩:∃a,a=(cur.toList.drop ((i+1)*14)).take ((m-i)*14):=⟨_,rfl⟩;have r:a.length=(m-i)*14:=by rw[d,QZ,RU,y];omega
 obtain⟨f,n⟩:∃f,f=lay cur (i*14) a:=⟨_,rfl⟩;have Q:f.size=c*14:=by rw[n,lay_size (by rw[r,o];omega),o]
 rw[<-d,<-n]
 have O:∀v∈a,v.oneCell'=true:=λv hv=>h1 v (by
  rw[d]at hv;have:(cur.toList.drop ((i+1)*14)).take ((m-i)*14)=(cur.toList.take ((m+1)*14)).drop ((i+1)*14):=by rw[UX];congr 1;omega
  rw[this]at hv;exact Rz hv)
 obtain⟨A,l,K⟩:∃A:Addr,(if c=i+1 then(⟨b,0,none⟩:Addr)else⟨b,(i+1)*14,none⟩)=A/\∀j v,a[j]? =some v->w.drew.cell? (A.add j)=some v:=by
  by_cases h:c=i+1
  ·refine⟨_,QO h,λj v q=>?_⟩
   have:a=[] :=RH.1 (by rw[r];omega)
   rw[this]at q;simp at q
  ·refine⟨_,Q5 h,λj v q=>?_⟩
   rw[Addr.add_lit];rw[d,TK]at q;split at q
   ·rw[Si,TG]at q
    have M:w.drew.heap[b]? =some (.cells cur 86 (0,0)):=L;simp only[World.cell?,M];simpa using q
   ·cases q
 have G:∀ty,(Builtin.append_ #[46,46] ty #[.slice (some ⟨b,0,none⟩) i c, .slice (some A) (m-i) (c- (i+1))]).run Tryz.prog w.drew= .ok (.slice (some ⟨b,0,none⟩) m c) (w.drew.setRow b f):=λty=>by
  have h:=run_append_room (P:=Tryz.prog) w.drew 46 ty 86 Y Ux B b i c cur L A (m-i) (c- (i+1)) a (by rw[g];exact r) K O Aa (by rw[r,g,o];omega)
  rw[g,show i+(m-i)=m from Aa]at h;rw[n];exact h
 have k:(Builtin.zeroCells z.cells 1).toList.length=14:=by rw[RV];simp[Builtin.zeroCells,J]
 have I:∀v∈(Builtin.zeroCells z.cells 1).toList,v.oneCell'=true:=λv hv=>t v (by
  rw[<-C];unfold Builtin.zeroCells at hv;simp at hv;obtain⟨j,q,rfl⟩:=hv;rw[getElem!_pos z.cells _ (SA _ Aa)];exact Array.getElem_mem_toList _)
 have s:(Builtin.clear_ #[46] 0 #[.slice (some ⟨b,m*14,none⟩) 1 (c-m)]).run Tryz.prog (w.drew.setRow b f)= .ok (.tuple #[]) ((w.drew.setRow b f).setRow b (lay f (m*14) (Builtin.zeroCells z.cells 1).toList)):=by
  have R:=run_storeCells_at Tryz.prog b (m*14) 86 (Builtin.zeroCells z.cells 1).toList 0 f (w.drew.setRow b f) (TB w.drew b cur f _ _ L) (by rw[k,Q];omega) I
  have U:∀w',(zeroValue 86).run Tryz.prog w'= .ok z w':=λw'=>by simp[zeroValue,typeInfo,B,X]
  unfold lay;simp[Builtin.clear_,Rw Ux,U,R]
 obtain⟨F,E,x⟩:∃F:List Value,F.length=14/\(Builtin.clear_ #[46] 0 #[.slice (some ⟨b,m*14,none⟩) 1 (c-m)]).run Tryz.prog (w.drew.setRow b f)= .ok (.tuple #[]) ((w.drew.setRow b f).setRow b (lay f (m*14) F)):=⟨_,k,s⟩;clear s I k J D t C X S g B z Y;have ak:IntKind.i64.wrap ((i:Int)+1)=(i:Int)+1:=Aw;have al:¬((i:Int)=(i:Int)+1):=Aa
 have aa:(0:Int)<=(i:Int)+1:=Aa;have aj:((i:Int)+1).toNat=i+1:=Aa
 have ab:(i:Int)<=(i:Int)+1:=Aa;have ac:(i:Int)+1<=(m:Int)+1:=Aa
 have ad:(m:Int)+1<=(c:Int):=Aa;have ae:¬(c=m):=Aa
 have af:¬(c=i):=Aa;have ag:(i:Int)<=(c:Int):=Aa
 have ah:(i:Int)<=(m:Int)+1:=Aa;have V:(m:Int)<=(m:Int)+1:=Aa
 have t3:=S9;have t4:=Tn;have u3:=Rw S9;have u4:=Rw Tn;have uS:=Rw Ux
 have zE:=Tryz.sizeOf86;have mixed:=mixed
 clear n d
 have key:Calls Tryz.prog 121 #[.slice (some ⟨b,0,none⟩) (m+1) c, .int .i64 i, .int .i64 ((i:Int)+1)] w λe w'=>e= .returned (.slice (some ⟨b,0,none⟩) m c)/\w'=(w.drew.setRow b f).setRow b (lay f (m*14) F):=by
  by_cases u:c=i+1
  ·rw[QO u]at l
   subst l;have N:m=i:=Aa;subst N;subst u
   have H:∀ty,(Builtin.append_ #[46,46] ty #[.slice (some ⟨b,0,none⟩) m (m+1), .slice (some ⟨b,0,none⟩) 0 0]).run Tryz.prog w.drew= .ok (.slice (some ⟨b,0,none⟩) m (m+1)) (w.drew.setRow b f):=by
    intro ty;have h:=G ty;rw[Nat.sub_self,Nat.sub_self]at h;exact h
   rw[show m+1-m=1 from Aa]at x
   go_enter Tryz.func121,Tryz.ntmps121
   go_wp2_with fail
   go_region_law_o (refine yA rfl (.tmp 22) (.tmp 25) 46 46 rfl (.slice (some ⟨b,0,none⟩) m (m+1)) (.slice (some ⟨b,0,none⟩) 0 0) A7 A7 (H _) ?_)
   go_wp2_with (simp only[x,Rt])
   go_ret
   exact⟨rfl,rfl⟩
  ·rw[Q5 u]at l
   subst l
   go_enter Tryz.func121,Tryz.ntmps121
   go_wp2_with fail
   go_region_law_o (refine yA rfl (.tmp 22) (.tmp 25) 46 46 rfl (.slice (some ⟨b,0,none⟩) i c) (.slice (some ⟨b,(i+1)*14,none⟩) (m-i) (c- (i+1))) A7 A7 (G _) ?_)
   go_wp2_with (simp only[x,Rt])
   go_ret
   exact⟨rfl,rfl⟩
 refine key.mono ?_;rintro e w' ⟨rfl,rfl⟩;exact⟨_,E,rfl,rfl⟩
theorem dL5(l:List V)(i:Nat)(hi:i<l.length)(hl:l.length<=1000000000):Sp 121 [.own 86 l,I i,I ((i:Int)+1)] (.own 86 (l.take i++l.drop (i+1))):=by
 have u:(T.row 86).size=14:=Ac;refine⟨Ac,λw G cs N O P v h5=>?_⟩;obtain⟨H,J,K,rfl⟩:=arr3 N;have Z:Rb T w G 0 H (.own 86 l):=v 0 H _ rfl rfl
 have r1:J= .int .i64 i:=aN3 (v 1 J (I i) rfl rfl);have r2:K= .int .i64 ((i:Int)+1):=aN3 (v 2 K (I ((i:Int)+1)) rfl rfl)
 subst r1 r2;obtain⟨R,s,Y⟩:=Z;rcases Y with⟨_,rfl⟩|⟨b,c,cur,rfl,U,E,W,hcm,hcs,j,d⟩
 ·simp at hi
 rw[u]at hcs d;have a:=j;rw[u]at a;obtain⟨m,F⟩:∃m,l.length=m+1:=⟨l.length-1,Aa⟩;have f:cur.toList.length=c*14:=GX
 have k:c<=9223372036854775807:=Gu;have r:((cur.toList.drop ((i+1)*14)).take ((m-i)*14)).length=(m-i)*14:=by rw[QZ,RU,f];omega
 have x:bM (l.take i++l.drop (i+1)):=aH.2 λy A=>by
  rcases QX.1 A with h|h
  ·exact aH.1 s y (RG h)
  ·exact aH.1 s y (Rz h)
 have n:(l.take i++l.drop (i+1)).length=m:=AV
 have B:∀y∈l.take i++l.drop (i+1),y.cells.length=(T.row 86).size:=λy A=>by
  rcases QX.1 A with h|h
  ·exact j y (RG h)
  ·exact j y (Rz h)
 obtain⟨L,_⟩:=xW (i:=i) a Aa;obtain⟨_,M⟩:=xW (i:=i+1) a Aa
 have Q:RvL w G (cur.toList.take (i*14)) ((l.take i).flatMap V.cells):=by
  have:=aM1 d (i*14);rw[UW,UA Aa,L]at this;exact this
 have S:RvL w G ((cur.toList.drop ((i+1)*14)).take ((m-i)*14)) ((l.drop (i+1)).flatMap V.cells):=by
  have:=aL4 d ((i+1)*14);rw[M,UX,show l.length*14- (i+1)*14=(m-i)*14 from Aa]at this;exact this
 rw[F];refine(dQ4 b m c i cur w Aa Aa k E hcs (by rw[<-F];exact d.one)).mono ?_
 rintro e w' ⟨zs,C,rfl,rfl⟩;have g:=lay_size (cur:=cur) (o:=i*14) (vs:=(cur.toList.drop ((i+1)*14)).take ((m-i)*14)) (by rw[r,hcs];omega)
 refine jM R x n B (X:=lay (lay cur (i*14) ((cur.toList.drop ((i+1)*14)).take ((m-i)*14))) (m*14) zs) ?_ (TB _ b _ _ _ _ (TB w.drew b cur _ _ _ E)) ?_ Aa hcm O P (.inl U) (λq hq t=>?_) ?_ rfl rfl rfl
 ·rw[u,xJ,SE]
  have z:(lay cur (i*14) ((cur.toList.drop ((i+1)*14)).take ((m-i)*14))).toList.length=c*14:=by rw[RV,g,hcs]
  rw[List.take_append_of_le_length (by rw[QZ,z];omega),UW,Nat.min_self]
  have D:m*14=i*14+((cur.toList.drop ((i+1)*14)).take ((m-i)*14)).length:=by rw[r];omega
  rw[D,layC (by rw[<-D,hcs];omega),TS]
  exact oH Q S
 ·rw[lay_size (by rw[C,g,hcs];omega),g,hcs,u]
 ·rw[Ti _ b q _ t,Ti _ b q _ t];rfl
 ·rw[size_setRow,size_setRow];exact QV _
end Go.Proofs.Led
namespace Go.Proofs.Led
open Go Go.Proofs Go.Ab
def nN{α:Type}(l:List α)(i:Nat):List α:=l.take i++l.drop (i+1)
theorem bK1(l:List aN)(i:Nat)(hi:i<l.length)(hl:l.length<=1000000000):Sp 121 [.own 86 (l.map aQ),I i,I ((i:Int)+1)] (.own 86 ((nN l i).map aQ)):=by
 have h:=dL5 (l.map aQ) i H9 BF;unfold nN;rw[RF,List.map_take,List.map_drop];exact h
def aX4(s:aJ)(k:Nat)(m:aN):aJ:={stocks:=nN s.stocks k,pieces:=s.pieces,used:=s.used,received:=s.received,scrap:=plus m.isBar s.scrap (gG m)}
theorem cG4(s:aJ)(e:Event)(m:aN)(c:Gd s)(o:∃m∈s.stocks,sid m=e.id)(f:s.stocks[bs sid s.stocks e.id]? =some m)(r:m.program=aI)(g:eY m):
 jR T Tryz.prog Tryz.f82 [.box 100000 0,aS e] [stC s] (I 0) [stC (aX4 s (bs sid s.stocks e.id) m)] :=by
 have h1:=find_spec s e.id c;have a:=(QR.1 f).1
 have d:(s.stocks.map aQ).length=s.stocks.length:=Af;have q:=c.ls
 have j:=bK1 s.stocks (bs sid s.stocks e.id) a Aa;have l:=oL m.isBar
 have n:=vF m g;unfold aX4;generalize bs sid s.stocks e.id=k at*;generalize (∃m∈s.stocks,sid m=e.id)=P at*;generalize nN s.stocks k=L at*;generalize gG m=z at*;unfold plus;obtain⟨b,t,i,p⟩:=m;cases b
 ·exact Jz
 ·exact Jz
theorem bM1(s:aJ)(e:Event)(m:aN)(d:Gd s)(a:∃m∈s.stocks,sid m=e.id)(b:s.stocks[bs sid s.stocks e.id]? =some m)(c:m.program=aI)(f:eY m):
 SpB 82 [.box 100000 0,aS e] [stC s] (I 0) [stC (aX4 s (bs sid s.stocks e.id) m)] :=
 b_of Tryz.func82 Ac Ac rfl rfl (cG4 s e m d a b c f)
theorem cN0(s:aJ)(e:Event)(m:aN)(d:Gd s)(f:∃m∈s.stocks,sid m=e.id)(c:s.stocks[bs sid s.stocks e.id]? =some m)(g:m.program≠aI):
 jR T Tryz.prog Tryz.f82 [.box 100000 0,aS e] [stC s] (I 27) [bots] :=by
 have h1:=find_spec s e.id d;have a:=(QR.1 c).1
 have b:(s.stocks.map aQ).length=s.stocks.length:=Af;exact Nz
theorem bO0(s:aJ)(e:Event)(m:aN)(d:Gd s)(a:∃m∈s.stocks,sid m=e.id)(b:s.stocks[bs sid s.stocks e.id]? =some m)(c:m.program≠aI):
 SpB 82 [.box 100000 0,aS e] [stC s] (I 27) [bots] :=
 b_of Tryz.func82 Ac Ac rfl rfl (cN0 s e m d a b c)
theorem cE2(s:aJ)(e:Event)(hs:Gd s)(a:¬∃m∈s.stocks,sid m=e.id):
 jR T Tryz.prog Tryz.f82 [.box 100000 0,aS e] [stC s] (I 8) [bots] :=by
 exact N9
theorem bO2(s:aJ)(e:Event)(b:Gd s)(a:¬∃m∈s.stocks,sid m=e.id):
 SpB 82 [.box 100000 0,aS e] [stC s] (I 8) [bots] :=
 b_of Tryz.func82 Ac Ac rfl rfl (cE2 s e b a)
theorem bM6(s:jL):Sp 112 [zJ s] (DB (pJ s)):=by
 refine zsp Tryz.func112 ?_;have a:pJ s↔s.id=0/\s.grade=aI/\s.heat=aI/\s.grain=0/\s.shape.outer.length=0/\s.shape.holes.length=0/\s.defects.length=0:=RN;generalize pJ s=P at*;have d:(s.shape.outer.map vcV).length=s.shape.outer.length:=Af
 have e:(s.shape.holes.map rgV).length=s.shape.holes.length:=Af;have f:(s.defects.map shV).length=s.defects.length:=Af
 repeat' ((conv=>whnf);first|refine jI (λb=>?_) (λb=>?_)|refine zS ?_|refine zm (λx c=>?_)|refine zT ?_ ?_<;>intro _|fail)
 all_goals conv=>whnf
 all_goals first
  |exact aA (sK ⟨λh=>a.2 ⟨Aa,Ag,Ag,Aa,Aa,Aa,Aa⟩,λh=>by have:=(a.1 h).2.2.2.2.2.2;omega⟩)
  |exact aA (aC (λh=>by have:=(a.1 h);omega))
  |exact aA (aC (λh=>absurd (a.1 h).2.1 Ag))
  |exact aA (aC (λh=>absurd (a.1 h).2.2.1 Ag))
theorem aX9{s:jL}(h:dB s):lK s:=⟨iT h.2.2.2.1.1,by have:=h.2.2.2.2.1;omega,λd a=>iT (h.2.2.2.2.2.2.2 d a).1.1⟩
def bU7(c:Made):Prop:=nC c.id/\iM c.part/\1<=c.size
def bR4(r:Rest):Prop:=nC r.id/\(r.box=bx0\/(r.lo=0/\r.hi=0))
def nY(e:Event):Prop:=(∀c∈e.cuts,bU7 c)/\(∀r∈e.rests,bR4 r)/\e.cuts.length<=60/\e.rests.length<=6/\0<=e.scrap/\e.text=aI
structure iY(e:Event):Prop where
 sh:tN e.sheet
 br:e.bar.defects.length<=1000000
 ct:e.cuts.length<=1000000
 rs:e.rests.length<=1000000
theorem bL8(e:Event)(q:iY e):Sp 116 [aS e] (DB (nY e)):=by
 refine zsp Tryz.func116 ?_;have l:(e.cuts.map dK).length=e.cuts.length:=Af;have m:(e.rests.map bY).length=e.rests.length:=Af
 have y:=q.ct;have v:=q.rs
 have j:nY e↔(∀c∈e.cuts,bU7 c)/\(∀r∈e.rests,bR4 r)/\e.cuts.length<=60/\e.rests.length<=6/\0<=e.scrap/\e.text=aI:=RN;generalize nY e=P at*
 repeat' ((conv=>whnf);first|refine zS ?_|fail)
 refine aU (A:=List Made) (B:=List Made) (λD R=>mkSt [(1, .box 1 0),(8, .sl (e.cuts.map dK)),(9,I e.cuts.length),(10,I D.length)] [(1,iJ e)] []) (λD R=>e.cuts=D++R/\∀c∈D,bU7 c) (λD R=>R.length) [] e.cuts ?_ ⟨rfl,Af⟩ (λD R hp=>?_)
 ·refine dV ?_ ?_ ?_ ?_
  all_goals repeat' (first|exact trivial|refine And.intro ?_ ?_|with_reducible rfl|exact(λh=>Ah)|exact QV _|omega|exact rfl)
  all_goals (try rw[l])
 obtain⟨hp,k⟩:=hp
 cases R with
 |cons c R=>
  have i:=aO hp;have s:=aW0 c.id
  have x:=aG6 c.part;have d:c∈e.cuts:=Ae
  have g:bU7 c↔nC c.id/\iM c.part/\1<=c.size:=RN;generalize nC c.id=w at*;generalize iM c.part=C at*
  repeat' ((conv=>whnf);first|omega|refine zS ?_|refine zT ?_ ?_<;>intro _|fail)
  all_goals conv=>whnf
  all_goals first
   |exact aA (aC (λh=>absurd (g.1 ((j.1 h).1 c d)).1 Ag))
   |exact aA (aC (λh=>absurd (g.1 ((j.1 h).1 c d)).2.1 Ag))
   |exact aA (aC (λh=>by have:=(g.1 ((j.1 h).1 c d)).2.2;omega))
   |skip
  refine⟨(D++[c],R),?_,⟨Ae,λz f=>?_⟩,Af⟩
  ·exact IE
  ·rcases QX.1 f with f|f
   ·exact k z f
   ·rw[QW.1 f]
    exact g.2 ⟨Ag,Ag,Aa⟩
 |nil=>
  have i:e.cuts.length=D.length:=Ae;have t:∀c∈e.cuts,bU7 c:=λc h=>k c BG
  clear k hp
  repeat' ((conv=>whnf);first|omega|refine zS ?_|refine zT ?_ ?_<;>intro _|fail)
  refine aU (A:=List Rest) (B:=List Rest) (λD R=>mkSt [(1, .box 1 0),(31, .sl (e.rests.map bY)),(32,I e.rests.length),(33,I D.length)] [(1,iJ e)] []) (λD R=>e.rests=D++R/\∀c∈D,bR4 c) (λD R=>R.length) [] e.rests ?_ ⟨rfl,Af⟩ (λD R hp=>?_)
  ·refine dV ?_ ?_ ?_ ?_
   all_goals repeat' (first|exact trivial|refine And.intro ?_ ?_|with_reducible rfl|exact(λh=>Ah)|exact QV _|omega|exact rfl)
   all_goals (try rw[m])
  obtain⟨hp,k⟩:=hp
  cases R with
  |cons c R=>
   have i:=aO hp;have s:=aW0 c.id
   have d:c∈e.rests:=Ae;have g:bR4 c↔nC c.id/\(c.box=bx0\/(c.lo=0/\c.hi=0)):=RN
   generalize nC c.id=w at*
   repeat' ((conv=>whnf);first|omega|refine cC5 ?_|refine cA4 (a:=c.box) (b:=bx0) (λhv=>?_) (λhv=>?_)|refine zS ?_|refine zT ?_ ?_<;>intro _|fail)
   all_goals conv=>whnf
   all_goals first
    |exact aA (aC (λh=>absurd (g.1 ((j.1 h).2.1 c d)).1 Ag))
    |exact aA (aC (λh=>by rcases(g.1 ((j.1 h).2.1 c d)).2 with o|o;exact absurd o (by assumption);omega))
    |skip
   all_goals refine⟨(D++[c],R),?_,⟨Ae,λz f=>?_⟩,Af⟩
   all_goals first
    |(rcases QX.1 f with f|f
      ·exact k z f
      ·rw[QW.1 f]
       first
        |exact g.2 ⟨Ag, .inl Ag⟩
        |exact g.2 ⟨Ag, .inr ⟨Aa,Aa⟩⟩)
    |skip
   all_goals simp only[QU,QY]
   ·exact zj
   ·exact zj
  |nil=>
   have n:e.rests.length=D.length:=Ae;have u:∀c∈e.rests,bR4 c:=λc h=>k c BG
   clear k hp
   repeat' ((conv=>whnf);first|omega|refine zS ?_|refine zT ?_ ?_<;>intro _|fail)
   all_goals conv=>whnf
   all_goals first
    |exact aA (aC (λh=>by have:=j.1 h;omega))
    |exact aA (qV ⟨λh=>j.2 ⟨t,u,Aa,Aa,Aa,h⟩,λh=>(j.1 h).2.2.2.2.2⟩)
def iD(e:Event):Prop:=
 ((e.kind=1\/e.kind=2)->e.id=0/\e.text=aI)/\(¬(e.kind=1\/e.kind=2)->pJ e.sheet/\yT e.bar)/\(e.kind≠5->e.cuts.length=0/\e.rests.length=0/\e.scrap=0)/\
 (e.kind=1->yT e.bar/\dB e.sheet)/\(e.kind=2->pJ e.sheet/\fM e.bar)/\(e.kind=3\/e.kind=7->iM e.text)/\(e.kind=4\/e.kind=6\/e.kind=8->e.text=aI)/\
 (e.kind=5->nY e)/\1<=e.kind/\e.kind<=8
theorem aE0(e:Event)(b:iY e):Sp 71 [aS e] (DB (iD e)):=by
 refine zsp Tryz.func71 ?_;have f:=bM6 e.sheet;have g:=cV3 e.bar
 have i:=aR2 e.sheet b.sh;have j:=qP e.bar b.br
 have k:=aG6 e.text;have l:=bL8 e b
 have c:(e.cuts.map dK).length=e.cuts.length:=Af;have d:(e.rests.map bY).length=e.rests.length:=Af
 have hr:iD e↔((e.kind=1\/e.kind=2)->e.id=0/\e.text=aI)/\(¬(e.kind=1\/e.kind=2)->pJ e.sheet/\yT e.bar)/\(e.kind≠5->e.cuts.length=0/\e.rests.length=0/\e.scrap=0)/\
  (e.kind=1->yT e.bar/\dB e.sheet)/\(e.kind=2->pJ e.sheet/\fM e.bar)/\(e.kind=3\/e.kind=7->iM e.text)/\(e.kind=4\/e.kind=6\/e.kind=8->e.text=aI)/\
  (e.kind=5->nY e)/\1<=e.kind/\e.kind<=8:=RN
 generalize iD e=P at*;generalize pJ e.sheet=m at*;generalize yT e.bar=n at*;generalize dB e.sheet=o at*;generalize fM e.bar=q at*;generalize iM e.text=r at*;generalize nY e=s at*;have a:e.kind=1\/e.kind=2\/e.kind=3\/e.kind=4\/e.kind=5\/e.kind=6\/e.kind=7\/e.kind=8\/(e.kind<1\/8<e.kind):=Aa;rcases a with a|a|a|a|a|a|a|a|a
 ·exact JA
 ·exact JA
 ·exact IG
 ·exact IG
 ·exact IG
 ·exact IG
 ·exact IG
 ·exact IG
 ·exact IG
def fO(e:Event):List Int:=e.cuts.map Made.id++e.rests.map Rest.id
def sub1(n c:Int):Int:=W (n-minI c (W (n+1)))
def subL(n:Int)(l:List Int):Int:=l.foldl sub1 n
theorem bQ6(n:Int)(D:List Int)(c:Int):subL n (D++[c])=sub1 (subL n D) c:=by unfold subL;simp
def nJ(old:aN)(e:Event):Int:=subL (subL (gG old) (e.cuts.map Made.size)) ((eG old e.rests).map gG)
def fZ(e:Event)(old:aN)(c:Made):Piece:=⟨c.id,e.id,c.part,if old.isBar then old.bar.grade else old.sheet.grade,if old.isBar then old.bar.heat else old.sheet.heat,c.size,old.isBar,1,aI⟩
def putP(l:List Piece)(x:Piece):List Piece:=putAt l (bs Piece.id l x.id) x
def cut1(s:aJ)(e:Event):aJ:={s with used:=cO s.used (fO e)}
def cut2(s:aJ)(e:Event)(k:Nat):aJ:={cut1 s e with stocks:=nN s.stocks k}
def cut3(s:aJ)(e:Event)(k:Nat)(l:List aN):aJ:={cut2 s e k with stocks:=l.foldl putS (nN s.stocks k)}
def cut4(s:aJ)(e:Event)(k:Nat)(old:aN)(l:List aN)(c:List Made):aJ:={cut3 s e k l with pieces:=c.foldl (λp x=>putP p (fZ e old x)) s.pieces}
def cut5(s:aJ)(e:Event)(k:Nat)(old:aN):aJ:={cut4 s e k old (eG old e.rests) e.cuts with scrap:=plus old.isBar s.scrap e.scrap}
def eL3(s:aJ)(e:Event)(k:Nat)(r:Int)(bs':List (List V)):Prop:=
 (¬dP s.used (fO e)/\r=7/\bs'=[bots])\/
 (dP s.used (fO e)/\((¬(∃m∈s.stocks,sid m=e.id)/\r=8/\bs'=[bots])\/
  ∃m,(∃m∈s.stocks,sid m=e.id)/\s.stocks[k]? =some m/\((m.program=aI/\r=10/\bs'=[bots])\/
   (m.program≠aI/\eY m/\((cZ m [] e.rests≠0/\r=cZ m [] e.rests/\bs'=[bots])\/
     (cZ m [] e.rests=0/\(∀x∈eG m e.rests,eY x)/\(eG m e.rests).length<=1000000/\((nJ m e≠e.scrap/\r=29/\bs'=[bots])\/
      (nJ m e=e.scrap/\(∀D R,eG m e.rests=D++R->Gd (cut3 s e k D))/\(∀D R,e.cuts=D++R->Gd (cut4 s e k m (eG m e.rests) D))/\r=0/\bs'=[stC (cut5 s e k m)]))))))))
theorem aA8:∀(ids used:List Int),(used.map id).Pairwise (·<·)->dP used ids->((cO used ids).map id).Pairwise (·<·)/\(cO used ids).length=used.length+ids.length
 | [],used,h,_=>⟨h,rfl⟩
 |n::r,used,h,⟨a,b⟩=>by
  obtain⟨c,d⟩:=aA8 r (putN used n) (rF h a) b;refine⟨c,?_⟩;show(cO (putN used n) r).length=_;grind [mQ,Rf,putN]
theorem eQ6{s:aJ}{e:Event}(a:Gd s)(b:s.used.length+(fO e).length<=1000000)(h:dP s.used (fO e)):Gd (cut1 s e):=by
 obtain⟨c,d⟩:=aA8 _ _ a.su h;exact⟨a.ls,a.lp,by show(cO s.used (fO e)).length<=_;rw[d];exact b,a.ss,a.sp,c⟩
def stB3(s:aJ)(a b c:Nat):List V:=[.arr 100000 a, .arr 100001 b, .arr 100002 c,I s.received.1,I s.received.2,I s.scrap.1,I s.scrap.2]
def stA3(s:aJ)(a b c:Nat):List (Nat×AE):=[(100000,⟨a, .own,86,s.stocks.map aQ⟩),(100001,⟨b, .own,71,s.pieces.map aZ⟩),(100002,⟨c, .own,3,s.used.map I⟩)]
theorem eX3(s:aJ)(e:Event){r:Int}{u:List (List V)}(N:Gd s)(he:iY e)(X:s.used.length+(fO e).length<=1000000)(i:eL3 s e (bs sid s.stocks e.id) r u):
 jR T Tryz.prog Tryz.f79 [.box 100000 0,aS e] [stC s] (I r) u:=by
 have hc:=he.ct;have ab:=he.rs
 have hm1:(e.cuts.map dK).length=e.cuts.length:=Af;have Z:(e.rests.map bY).length=e.rests.length:=Af
 repeat' ((conv=>whnf);first|refine zS ?_|fail)
 refine aU (A:=List Made) (B:=List Made) (λD R=>mkSt [(0, .box 100000 0),(3, .box 3 0),(5, .arr 40 D.length),(30, .sl (e.cuts.map dK)),(31,I e.cuts.length),(32,I D.length)] [(100000,stB s 0),(3,iJ e)] ((40,⟨D.length, .own,3,(D.map Made.id).map I⟩)::stA s s.used 0)) (λD R=>e.cuts=D++R) (λD R=>R.length) [] e.cuts ?_ rfl (λD R hp=>?_)
 ·exact JZ
 cases R with
 |cons c R=>
  have y:=aO hp;have af:((D++[c]).length:Int)=(D.length:Int)+1:=Af
  have O:((D.map Made.id).map I).length=D.length:=Af
  repeat' ((conv=>whnf);first|omega|refine iH rfl (.inl rfl) rfl (Q9 rfl) (dA rfl) (show((D.map Made.id).map I).length+1<=1000000000 from Aa) ?_|refine zS ?_|refine zT ?_ ?_<;>intro _|fail)
  all_goals conv=>whnf
  refine⟨(D++[c],R),?_,Ae,Af⟩;simp only[QU,QY,RF,Rq,SC];exact zj
 |nil=>
  have y:e.cuts.length=D.length:=Ae;have eD:e.cuts=D:=Ae
  have O:((D.map Made.id).map I).length=D.length:=Af;have j:fO e=D.map Made.id++e.rests.map Rest.id:=by unfold fO;rw[eD]
  clear hp
  repeat' ((conv=>whnf);first|omega|refine zS ?_|refine zT ?_ ?_<;>intro _|fail)
  refine aU (A:=List Rest) (B:=List Rest) (λE R=>mkSt [(0, .box 100000 0),(3, .box 3 0),(5, .arr 40 (D.length+E.length)),(43, .sl (e.rests.map bY)),(44,I e.rests.length),(45,I E.length)] [(100000,stB s 0),(3,iJ e)] ((40,⟨D.length+E.length, .own,3,(D.map Made.id++E.map Rest.id).map I⟩)::stA s s.used 0)) (λE R=>e.rests=E++R) (λE R=>R.length) [] e.rests ?_ rfl (λE R hp=>?_)
  ·simp only[SC,Rn,SL,TM]
   refine dV ?_ ?_ ?_ ?_;all_goals repeat' (first|exact trivial|refine And.intro ?_ ?_|with_reducible rfl|exact(λh=>Ah)|exact QV _|omega|exact rfl)
   all_goals (try rw[Z])
  cases R with
  |cons c R=>
   have n:=aO hp;have ag:((E++[c]).length:Int)=(E.length:Int)+1:=Af
   have ae:((D.map Made.id++E.map Rest.id).map I).length=D.length+E.length:=Af
   repeat' ((conv=>whnf);first|omega|refine iH rfl (.inl rfl) rfl (Q9 rfl) (dA rfl) (show((D.map Made.id++E.map Rest.id).map I).length+1<=1000000000 from Aa) ?_|refine zS ?_|refine zT ?_ ?_<;>intro _|fail)
   all_goals conv=>whnf
   refine⟨(E++[c],R),?_,Ae,Af⟩;simp only[QU,QY,RF,Rq,SC,<-SE];exact zj
  |nil=>
   have n:e.rests.length=E.length:=Ae;have eE:e.rests=E:=Ae
   rw[eE]at j;rw[<-j];have hk:=bQ8 sid s.stocks e.id;have ah:(s.stocks.map aQ).length=s.stocks.length:=Af
   have aj:=N.ls;rcases i with⟨G,rfl,rfl⟩|⟨K,i⟩
   ·have l:=aU4 s (fO e) N X G
    repeat' ((conv=>whnf);first|omega|refine zh (l) [100000] ?_|refine zS ?_|refine zT ?_ ?_<;>intro _|fail)
    all_goals conv=>whnf
    all_goals first|exact⟨_,rfl,zc1⟩|exact zc1
   have l:=aT7 s (fO e) N X K;have v:=find_spec (cut1 s e) e.id (eQ6 N X K)
   change SpB _ _ _ _ [stC (cut1 s e)]at l;change SpB _ _ [stC (cut1 s e)] (.tup [I (bs sid s.stocks e.id),DB (∃m∈s.stocks,sid m=e.id)]) [stC (cut1 s e)]at v;generalize bs sid s.stocks e.id=k at*;generalize (∃m∈s.stocks,sid m=e.id)=P at*;rcases i with⟨G,rfl,rfl⟩|⟨m,hP,hm,i⟩
   ·repeat' ((conv=>whnf);first|(exfalso;contradiction)|omega|refine zh (l) [100000] ?_|refine zh (v) [100000] ?_|refine zS ?_|refine zT ?_ ?_<;>intro _|fail)
    all_goals conv=>whnf
    all_goals first|exact⟨_,rfl,zc1⟩|exact zc1
   have W:=(QR.1 hm).1;rcases i with⟨aa,rfl,rfl⟩|⟨aa,C,i⟩
   ·repeat' ((conv=>whnf);first|(exfalso;contradiction)|omega|refine jI (λf=>?_) (λf=>?_)|refine zh (l) [100000] ?_|refine zh (v) [100000] ?_|refine dS rfl rfl Au ?_|refine zS ?_|refine zT ?_ ?_<;>intro _|fail)
    all_goals conv=>whnf
    all_goals first|exact⟨_,rfl,zc1⟩|exact zc1
   have f3:=cU2 m e C ab;have f4:=vF m C
   rcases i with⟨L,rfl,rfl⟩|⟨L,Y,ai,i⟩
   ·generalize cZ m [] e.rests=RE at*
    generalize eG m e.rests=RL at*
    repeat' ((conv=>whnf);first|(exfalso;contradiction)|omega|refine jI (λf=>?_) (λf=>?_)|refine zh (l) [100000] ?_|refine zh (v) [100000] ?_|refine dS rfl rfl Au ?_|refine zS ?_|refine zT ?_ ?_<;>intro _|fail)
    all_goals conv=>whnf
    all_goals first|exact⟨_,rfl,zc1⟩|exact zc1
   rw[L]at f3;have M:((eG m e.rests).map aQ).length=(eG m e.rests).length:=Af;generalize w:eG m e.rests=RL at*
   repeat' ((conv=>whnf);first|(exfalso;contradiction)|omega|refine jI (λf=>?_) (λf=>?_)|refine zh (l) [100000] ?_|refine zh (v) [100000] ?_|refine dS rfl rfl Au ?_|refine zS ?_|refine zT ?_ ?_<;>intro _|fail)
   all_goals conv=>whnf
   have z:nJ m e=subL (subL (gG m) (e.cuts.map Made.size)) (RL.map gG):=by unfold nJ;rw[w]
   generalize gG m=n0 at*;refine aU (A:=List Made) (B:=List Made) (λF R=>mkSt [(0, .box 100000 0),(3, .box 3 0),(11,I k),(13, .box 13 0),(14, .arr 91 0),(16,I (subL n0 (F.map Made.size))),(100, .sl (e.cuts.map dK)),(101,I e.cuts.length),(102,I F.length)] [(100000,stB3 (cut1 s e) 2 2 2),(3,iJ e),(13,gB m)] ((91,⟨0, .own,86,RL.map aQ⟩)::stA3 (cut1 s e) 2 2 2)) (λF R=>e.cuts=F++R) (λF R=>R.length) [] e.cuts ?_ rfl (λF R hp=>?_)
   ·exact JZ
   cases R with
   |cons c R=>
    have o:=aO hp;have hsn:=bQ6 n0 (F.map Made.size) c.size
    repeat' ((conv=>whnf);first|omega|refine zS ?_|refine zT ?_ ?_<;>intro _|fail)
    all_goals conv=>whnf
    refine⟨(F++[c],R),?_,Ae,Af⟩;simp only[QU,QY,RF,Rq,SC,hsn];exact zj
   |nil=>
    have o:e.cuts.length=F.length:=Ae;have eF:e.cuts=F:=Ae
    rw[eF]at z;generalize subL n0 (F.map Made.size)=n1 at*
    repeat' ((conv=>whnf);first|omega|refine zS ?_|refine zT ?_ ?_<;>intro _|fail)
    clear hp;refine aU (A:=List aN) (B:=List aN) (λH R=>mkSt [(0, .box 100000 0),(3, .box 3 0),(11,I k),(13, .box 13 0),(14, .arr 91 0),(16,I (subL n1 (H.map gG))),(114, .arr 91 0),(115,I RL.length),(116,I H.length)] [(100000,stB3 (cut1 s e) 2 2 2),(3,iJ e),(13,gB m)] ((91,⟨0, .own,86,RL.map aQ⟩)::stA3 (cut1 s e) 2 2 2)) (λH R=>RL=H++R) (λH R=>R.length) [] RL ?_ rfl (λH R hp=>?_)
    ·refine dV ?_ ?_ ?_ ?_
     all_goals repeat' (first|exact trivial|refine And.intro ?_ ?_|with_reducible rfl|exact(λh=>Ah)|exact QV _|omega|exact rfl)
     all_goals (try rw[M])
    cases R with
    |cons x R=>
     have q:=aO hp;have g1:=vF x (Y x Ae)
     have hsn:=bQ6 n1 (H.map gG) (gG x);generalize ad:gG x=zx at*
     repeat' ((conv=>whnf);first|omega|refine dS rfl rfl FI ?_|refine zS ?_|refine zT ?_ ?_<;>intro _|fail)
     all_goals conv=>whnf
     refine⟨(H++[x],R),?_,Ae,Af⟩;simp only[QU,QY,RF,Rq,SC,ad,hsn];exact zj
    |nil=>
     have q:RL.length=H.length:=Ae;have eH:RL=H:=Ae
     rw[<-eH];rw[<-z];clear hp;rcases i with⟨ac,rfl,rfl⟩|⟨ac,U,g,rfl,rfl⟩
     ·generalize nJ m e=n2 at*
      exact OE
     generalize nJ m e=n2 at*;have f5:=bK1 s.stocks k W Aa
     repeat' ((conv=>whnf);first|omega|refine zS ?_|refine zT ?_ ?_<;>intro _|fail)
     all_goals conv=>whnf
     have h5:cut5 s e k m={cut4 s e k m RL e.cuts with scrap:=plus m.isBar s.scrap e.scrap}:=by unfold cut5;rw[w]
     rw[h5];refine aU (A:=List aN) (B:=List aN) (λJ R=>mkSt [(0, .box 100000 0),(3, .box 3 0),(13, .box 13 0),(143, .arr 91 0),(144,I RL.length),(145,I J.length)] [(100000,stB3 (cut3 s e k J) (3+J.length) (2+J.length) (2+J.length)),(3,iJ e),(13,gB m)] ((91,⟨0, .own,86,RL.map aQ⟩)::stA3 (cut3 s e k J) (3+J.length) (2+J.length) (2+J.length))) (λJ R=>RL=J++R) (λJ R=>R.length) [] RL ?_ rfl (λJ R hp=>?_)
     ·show Le T _ (mkSt [(0, .box 100000 0),(3, .box 3 0),(13, .box 13 0),(143, .arr 91 0),(144,I RL.length),(145,I 0)] [(100000,stB3 (cut2 s e k) 3 2 2),(3,iJ e),(13,gB m)] ((91,⟨0, .own,86,RL.map aQ⟩)::stA3 (cut2 s e k) 3 2 2))
      refine dV ?_ ?_ ?_ ?_;all_goals repeat' (first|exact trivial|refine And.intro ?_ ?_|with_reducible rfl|exact(λh=>Ah)|exact QV _|omega|exact rfl)
      all_goals (try rw[M])
     cases R with
     |cons x R=>
      have t:=aO hp;have g1:=cF7 (cut3 s e k J) x (U J (x::R) hp)
      have hsn:addS (cut3 s e k J) x=cut3 s e k (J++[x]):=by unfold addS cut3;simp only[TR,RY,List.foldl_nil]
      rw[hsn]at g1
      repeat' ((conv=>whnf);first|omega|refine dS rfl rfl FI ?_|refine zh (g1) [100000] ?_|refine zS ?_|refine zT ?_ ?_<;>intro _|fail)
      all_goals conv=>whnf
      refine⟨(J++[x],R),?_,Ae,Af⟩;exact Nj
     |nil=>
      have t:RL.length=J.length:=Ae;have eJ:RL=J:=Ae
      rw[<-eJ];clear hp;obtain⟨b,d,a,p⟩:=m;cases b
      ·have f6:=oL false
       repeat' ((conv=>whnf);first|omega|refine zS ?_|refine zT ?_ ?_<;>intro _|fail)
       refine aU (A:=List Made) (B:=List Made) (λQ R=>mkSt [(0, .box 100000 0),(3, .box 3 0),(13, .box 13 0),(23,S d.grade),(24,S d.heat),(168, .sl (e.cuts.map dK)),(169,I e.cuts.length),(170,I Q.length)] [(100000,stB3 (cut4 s e k ⟨false,d,a,p⟩ RL Q) (3+RL.length+Q.length) (2+RL.length+2*Q.length) (2+RL.length+Q.length)),(3,iJ e),(13,gB ⟨false,d,a,p⟩)] (stA3 (cut4 s e k ⟨false,d,a,p⟩ RL Q) (3+RL.length+Q.length) (2+RL.length+2*Q.length) (2+RL.length+Q.length))) (λQ R=>e.cuts=Q++R) (λQ R=>R.length) [] e.cuts ?_ rfl (λQ R hp=>?_)
       ·show Le T _ (mkSt [(0, .box 100000 0),(3, .box 3 0),(13, .box 13 0),(23,S d.grade),(24,S d.heat),(168, .sl (e.cuts.map dK)),(169,I e.cuts.length),(170,I 0)] [(100000,stB3 (cut3 s e k RL) (3+RL.length) (2+RL.length) (2+RL.length)),(3,iJ e),(13,gB ⟨false,d,a,p⟩)] (stA3 (cut3 s e k RL) (3+RL.length) (2+RL.length) (2+RL.length)))
        exact O9
       cases R with
       |cons c R=>
        have hlen6:=aO hp;have g1:=uQ (cut4 s e k ⟨false,d,a,p⟩ RL Q) c.id (g Q (c::R) hp)
        have g2:=bU8 (cut4 s e k ⟨false,d,a,p⟩ RL Q).pieces (bs Piece.id (cut4 s e k ⟨false,d,a,p⟩ RL Q).pieces c.id) (fZ e ⟨false,d,a,p⟩ c) (bQ8 _ _ _) (by have:=(g Q (c::R) hp).lp;omega)
        have hsn:(cut4 s e k ⟨false,d,a,p⟩ RL (Q++[c])).pieces=putAt (cut4 s e k ⟨false,d,a,p⟩ RL Q).pieces (bs Piece.id (cut4 s e k ⟨false,d,a,p⟩ RL Q).pieces c.id) (fZ e ⟨false,d,a,p⟩ c):=Dk;generalize bs Piece.id (cut4 s e k ⟨false,d,a,p⟩ RL Q).pieces c.id=kk at*;generalize (∃m∈(cut4 s e k ⟨false,d,a,p⟩ RL Q).pieces,m.id=c.id)=PP at*;exact NV
       |nil=>exact JE
      ·have f6:=oL true
       repeat' ((conv=>whnf);first|omega|refine zS ?_|refine zT ?_ ?_<;>intro _|fail)
       refine aU (A:=List Made) (B:=List Made) (λQ R=>mkSt [(0, .box 100000 0),(3, .box 3 0),(13, .box 13 0),(23,S a.grade),(24,S a.heat),(168, .sl (e.cuts.map dK)),(169,I e.cuts.length),(170,I Q.length)] [(100000,stB3 (cut4 s e k ⟨true,d,a,p⟩ RL Q) (3+RL.length+Q.length) (2+RL.length+2*Q.length) (2+RL.length+Q.length)),(3,iJ e),(13,gB ⟨true,d,a,p⟩)] (stA3 (cut4 s e k ⟨true,d,a,p⟩ RL Q) (3+RL.length+Q.length) (2+RL.length+2*Q.length) (2+RL.length+Q.length))) (λQ R=>e.cuts=Q++R) (λQ R=>R.length) [] e.cuts ?_ rfl (λQ R hp=>?_)
       ·show Le T _ (mkSt [(0, .box 100000 0),(3, .box 3 0),(13, .box 13 0),(23,S a.grade),(24,S a.heat),(168, .sl (e.cuts.map dK)),(169,I e.cuts.length),(170,I 0)] [(100000,stB3 (cut3 s e k RL) (3+RL.length) (2+RL.length) (2+RL.length)),(3,iJ e),(13,gB ⟨true,d,a,p⟩)] (stA3 (cut3 s e k RL) (3+RL.length) (2+RL.length) (2+RL.length)))
        exact O9
       cases R with
       |cons c R=>
        have hlen6:=aO hp;have g1:=uQ (cut4 s e k ⟨true,d,a,p⟩ RL Q) c.id (g Q (c::R) hp)
        have g2:=bU8 (cut4 s e k ⟨true,d,a,p⟩ RL Q).pieces (bs Piece.id (cut4 s e k ⟨true,d,a,p⟩ RL Q).pieces c.id) (fZ e ⟨true,d,a,p⟩ c) (bQ8 _ _ _) (by have:=(g Q (c::R) hp).lp;omega)
        have hsn:(cut4 s e k ⟨true,d,a,p⟩ RL (Q++[c])).pieces=putAt (cut4 s e k ⟨true,d,a,p⟩ RL Q).pieces (bs Piece.id (cut4 s e k ⟨true,d,a,p⟩ RL Q).pieces c.id) (fZ e ⟨true,d,a,p⟩ c):=Dk;generalize bs Piece.id (cut4 s e k ⟨true,d,a,p⟩ RL Q).pieces c.id=kk at*;generalize (∃m∈(cut4 s e k ⟨true,d,a,p⟩ RL Q).pieces,m.id=c.id)=PP at*;exact NV
       |nil=>exact JE
theorem xP(s:aJ)(e:Event){r:Int}{a:List (List V)}(i:Gd s)(f:iY e)(g:s.used.length+(fO e).length<=1000000)(c:eL3 s e (bs sid s.stocks e.id) r a)(d:a=[bots]\/∃b,a=[stC b]):
 SpB 79 [.box 100000 0,aS e] [stC s] (I r) a:=
 b_of Tryz.func79 Ac Ac rfl (by rcases d with rfl|⟨b,rfl⟩<;>rfl) (eX3 s e i f g c)
theorem assoc_hit{k:Value}{x:V}{r:List V}:jG k (.tup [.lit k,x] ::r)=some x:=by simp[jG]
theorem assoc_miss{k a:Value}{x:V}{r:List V}(h:a≠k):jG k (.tup [.lit a,x] ::r)=jG k r:=by simp[jG,h]
def uP:List V:=[.tup [.lit (.int .i64 8), .fn 82 []], .tup [.lit (.int .i64 7), .fn 81 []], .tup [.lit (.int .i64 6), .fn 80 []], .tup [.lit (.int .i64 5), .fn 79 []],
 .tup [.lit (.int .i64 4), .fn 78 []], .tup [.lit (.int .i64 3), .fn 77 []], .tup [.lit (.int .i64 2), .fn 76 []], .tup [.lit (.int .i64 1), .fn 75 []]]
theorem dM0(s:aJ)(e:Event)(a:iY e)(c:¬iD e):fnVC T Tryz.prog Tryz.f39 [invV s,aS e] (.tup [invV inv0,I 1]):=by
 have b:=aE0 e a;exact zF
theorem dL3(s a:aJ)(e:Event)(hs:Gd s)(he:iY e)(b:iD e){f:FuncId}(hg:jG (.int .i64 e.kind) uP=some (.fn f []))(hm:SpB f [.box 100000 0,aS e] [stC s] (I 0) [stC a]):
 fnVC T Tryz.prog Tryz.f39 [invV s,aS e] (.tup [invV a,I 0]):=by
 exact NW
theorem dR7(s:aJ)(e:Event)(hs:Gd s)(he:iY e)(a:iD e){f:FuncId}{r:Int}(hg:jG (.int .i64 e.kind) uP=some (.fn f []))(b:r≠0)(hm:SpB f [.box 100000 0,aS e] [stC s] (I r) [bots]):
 fnVC T Tryz.prog Tryz.f39 [invV s,aS e] (.tup [invV inv0,I r]):=by
 exact NW
open Classical in
def aD6(s:aJ)(n:Int)(f:aN->aJ×Int):aJ×Int:=
 if(∃m∈s.stocks,sid m=n)then(match s.stocks[bs sid s.stocks n]? with|some m=>f m|none=>(inv0,8))else(inv0,8)
open Classical in
def nM(s:aJ)(x:aN):aJ×Int:=if sid x∈s.used then(inv0,7)else(aX7 s x,0)
open Classical in
def relR(s:aJ)(e:Event):aJ×Int:=aD6 s e.id λm=>if m.program=aI then(setK s (bs sid s.stocks e.id) (prog m e.text),0)else(inv0,27)
open Classical in
def bP3(s:aJ)(e:Event):aJ×Int:=aD6 s e.id λm=>if m.program≠aI then(setK s (bs sid s.stocks e.id) (prog m aI),0)else(inv0,10)
open Classical in
def bQ0(s:aJ)(e:Event):aJ×Int:=aD6 s e.id λm=>if m.program=aI then(aX4 s (bs sid s.stocks e.id) m,0)else(inv0,27)
open Classical in
def nK(s:aJ)(n st:Int)(o:ByteArray):aJ×Int:=
 if(∃m∈s.pieces,m.id=n)then(match s.pieces[bs Piece.id s.pieces n]? with|some m=>(if m.status=1 then(setP s (bs Piece.id s.pieces n) (marked m st o),0)else(inv0,10))|none=>(inv0,8))else(inv0,8)
open Classical in
def cutR(s:aJ)(e:Event):aJ×Int:=
 if¬dP s.used (fO e)then(inv0,7)else aD6 s e.id λm=>if m.program=aI then(inv0,10)else
  if cZ m [] e.rests≠0 then(inv0,cZ m [] e.rests)else if nJ m e≠e.scrap then(inv0,29)else(cut5 s e (bs sid s.stocks e.id) m,0)
def bP2(s:aJ)(e:Event):aJ×Int:=
 if e.kind=1 then nM s ⟨false,e.sheet,bar0,aI⟩else if e.kind=2 then nM s ⟨true,dN,e.bar,aI⟩else if e.kind=3 then relR s e else if e.kind=4 then bP3 s e
 else if e.kind=5 then cutR s e else if e.kind=6 then nK s e.id 2 aI else if e.kind=7 then nK s e.id 3 e.text else bQ0 s e
open Classical in
def appR(s:aJ)(e:Event):aJ×Int:=if iD e then bP2 s e else(inv0,1)
def putK{α:Type}(key:α->Int)(l:List α)(x:α):List α:=putAt l (bs key l (key x)) x
theorem bE9{f:Type}{key:f->Int}:∀ {xs l:List f},(l.map key).Pairwise (·<·)->(∀x∈xs,∀y∈l,key y≠key x)->(xs.map key).Pairwise (·≠·)->
 ((xs.foldl (putK key) l).map key).Pairwise (·<·)/\(∀y,y∈xs.foldl (putK key) l↔y∈l\/y∈xs)/\(xs.foldl (putK key) l).length=l.length+xs.length
 | [],l,c,_,_=>⟨c,Af,Af⟩
 |x::xs,l,c,e,i=>by
  obtain⟨a,b⟩:=Sl.1 i;have g:((putK key l x).map key).Pairwise (·<·):=yR c (λm j=>e x Af m j)
  obtain⟨k,n,o⟩:=bE9 (xs:=xs) (l:=putK key l x) g (λz hz y d=>by
   rcases fH.1 d with rfl|d
   ·exact a _ (RJ hz)
   ·exact e z Iy y d) b
  refine⟨k,λy=>?_,?_⟩
  ·rw[RY,n,show(y∈putK key l x↔y=x\/y∈l)from fH,Rh]
   constructor
   ·rintro((h|h)|h)
    ·exact .inr (.inl h)
    ·exact .inl h
    ·exact .inr (.inr h)
   ·rintro(h|h|h)
    ·exact .inl (.inr h)
    ·exact .inl (.inl h)
    ·exact .inr h
  ·rw[RY,o,show(putK key l x).length=l.length+1 from mQ,Rf]
   omega
theorem qJ:∀ {ids used:List Int},dP used ids↔(∀n∈ids,n∉used)/\ids.Pairwise (·≠·)
 | [],used=>⟨λ_=>⟨Af,List.Pairwise.nil⟩,λ_=>trivial⟩
 |n::ids,used=>by
  show(n∉used/\dP (putN used n) ids)↔_;rw[qJ,Sl];constructor
  ·rintro⟨b,c,d⟩
   refine⟨λm a=>?_,λm a e=>?_,d⟩
   ·rcases Rh.1 a with rfl|a
    ·exact b
    ·exact λh=>c m a (fH.2 (.inr h))
   ·exact c m a (fH.2 (.inl e.symm))
  ·rintro⟨b,c,d⟩
   refine⟨b n Af,λm a h=>?_,d⟩;rcases fH.1 h with e|h
   ·exact c m a e.symm
   ·exact b m (by simp[a]) h
theorem tY{y:Int}:∀ {ids used:List Int},y∈cO used ids↔y∈used\/y∈ids
 | [],used=>by simp[cO]
 |n::ids,used=>by
  show y∈cO (putN used n) ids↔_;rw[tY,show(y∈putN used n↔y=n\/y∈used)from fH,Rh];constructor
  ·rintro((h|h)|h)
   ·exact .inr (.inl h)
   ·exact .inl h
   ·exact .inr (.inr h)
  ·rintro(h|h|h)
   ·exact .inl (.inr h)
   ·exact .inl (.inl h)
   ·exact .inr h
theorem kM{a:Type}(l:List a)(i:Nat):(nN l i).Sublist l:=by
 grind [List.Sublist.append,List.drop_drop,List.drop_sublist,SI,nN]
theorem bB0{a:Type}{key:a->Int}{l:List a}(h:(l.map key).Pairwise (·<·))(i:Nat):((nN l i).map key).Pairwise (·<·):=h.sublist ((kM l i).map key)
theorem bY6{a:Type}{key:a->Int}{l:List a}{k:Nat}{m x:a}(b:l[k]? =some m)(c:key x=key m):(l.set k x).map key=l.map key:=by
 apply List.ext_getElem?;grind
theorem tZ{x:aN}:∀ {R D:List Rest},cZ x D R=0->∀r∈R,iG x r=0
 | [],D,_=>Af
 |r::R,D,h=>by
  unfold cZ at h;split at h
  ·rename_i a;exact absurd h a
  ·rename_i a
   split at h
   ·cases h
   ·intro q b
    rcases Rh.1 b with rfl|b
    ·exact SN.1 a
    ·exact tZ h q b
theorem cL1{x:aN}{r:Rest}(h:iG x r=0):sid (dZ x r)=r.id:=by
 unfold dZ;unfold iG at h;by_cases a:x.isBar=false
 ·rw[QO a]at h⊢
  by_cases b:r.lo≠0\/r.hi≠0
  ·rw[QO b]at h;cases h
  ·rw[Q5 b]at h⊢
   show(remS x.sheet r.box r.id).id=_;unfold remS;rw[QO h]
 ·rw[Q5 a]
  have c:iG x r=0:=by unfold iG;rw[Q5 a];rw[Q5 a]at h;exact h
  rw[QO c];rfl
theorem dL4{s:jL}{b:Bx}{id:Int}(e:lK s):lK (remS s b id):=by
 unfold remS;split
 ·refine⟨aD2 _ _,Ro (yK b s.defects) e.2.1,λd a=>?_⟩
  obtain⟨q,f,a⟩:=UH.1 a;grind [QW,aD2,aK2,QW.1]
 ·exact⟨⟨I4,I4,λr c=>by simp[dN,sh0]at c⟩,by simp[dN],λd a=>by simp[dN]at a⟩
theorem xZ:lK dN:=⟨⟨I4,I4,λr b=>by simp[dN,sh0]at b⟩,by simp[dN],λd a=>by simp[dN]at a⟩
theorem aX5{x:aN}{r:Rest}(a:eY x):eY (dZ x r):=by
 unfold dZ;split
 ·split
  ·exact⟨xZ,by simp[wS,bar0]⟩
  ·exact⟨dL4 a.1,by simp[bar0]⟩
 ·split
  ·exact⟨xZ,Ro (aG5 r _) a.2⟩
  ·exact⟨xZ,by simp[wS,bar0]⟩
theorem mV{x:aN}{l:List Rest}(h:cZ x [] l=0):eG x l=l.map (dZ x):=by unfold eG;rw[QO h]
theorem aG9{x:aN}{l:List Rest}(h:cZ x [] l=0):(eG x l).map sid=l.map Rest.id:=by
 grind [mV,Ur,Tc,cL1,tZ]
end Go.Proofs.Led
