/-
  The inventory: sheets and bars that are zero, classes, IDs, sizes; what is left of a stock.
-/
import Derived.Test.YtdjgbagnajikeaaGreatDoorB3
import Derived.Laws.CopyRow
import Derived.Lib.AppendZerosOnto
import Derived.Lib.Overlaps
import Derived.Laws.Externs
import Derived.Laws.IdiomCopy
import Derived.Shelf.Spec.SlicesInsert
set_option linter.unusedVariables false
set_option linter.unusedSimpArgs false
set_option maxRecDepth 1000000
set_option maxHeartbeats 4000000
noncomputable section
namespace Go.Proofs.Led
open Go Go.Proofs Go.Ab
def pJ(s:jL):Prop:=s.id=0/\s.grade=aI/\s.heat=aI/\s.grain=0/\s.shape.outer.length=0/\s.shape.holes.length=0/\s.defects.length=0
def yT(b:Bar):Prop:=b.id=0/\b.grade=aI/\b.heat=aI/\b.length=0/\b.defects.length=0
theorem cV3(b:Bar):Sp 113 [barV b] (DB (yT b)):=by
 refine zsp Tryz.func113 ?_;have a:yT b↔b.id=0/\b.grade=aI/\b.heat=aI/\b.length=0/\b.defects.length=0:=RN;generalize yT b=P at*;have d:(b.defects.map ivV).length=b.defects.length:=Af
 repeat' ((conv=>whnf);first|refine jI (λc=>?_) (λc=>?_)|refine zS ?_|refine zT ?_ ?_<;>intro _|fail)
 all_goals conv=>whnf
 all_goals first
  |exact aA (sK ⟨λh=>a.2 ⟨Aa,Ag,Ag,Aa,Aa⟩,λh=>by have:=(a.1 h).2.2.2.2;omega⟩)
  |exact aA (aC (λh=>by have:=(a.1 h);omega))
  |exact aA (aC (λh=>absurd (a.1 h).2.1 Ag))
  |exact aA (aC (λh=>absurd (a.1 h).2.2.1 Ag))
theorem aW0(n:Int):Sp 160 [I n] (DB (nC n)):=by
 refine zsp Tryz.func160 ?_;exact O0
def fC6(b:Bool):Int:=if b then 1 else 0
theorem oL(b:Bool):Sp 125 [B b] (I (fC6 b)):=by
 refine zsp Tryz.func125 ?_;cases b
 ·exact zF
 ·exact zF
def sid(x:aN):Int:=if x.isBar then x.bar.id else x.sheet.id
theorem aE2(x:aN):Sp 68 [aQ x] (I (sid x)):=by
 refine zsp Tryz.func68 ?_;exact OT
def eY(x:aN):Prop:=lK x.sheet/\x.bar.defects.length<=1000000
def gG(x:aN):Int:=if x.isBar then x.bar.length else uK x.sheet.shape
theorem vF(x:aN)(a:eY x):Sp 36 [aQ x] (I (gG x)):=by
 refine zsp Tryz.func36 ?_;have c:=cG8 x.sheet.shape a.1.1;exact OT
theorem eqBx(a b c d e f g i:Int):eqT T 4 99 [I a,I b,I c,I d] [I e,I f,I g,I i] =some (andB (andB (eqB a e) (andB (eqB b f) true)) (andB (andB (eqB c g) (andB (eqB d i) true)) true)):=Ac
theorem cC5{a b c d e f g i:Int}{K:Bool->Prop}(h:K (andB (andB (eqB a e) (andB (eqB b f) true)) (andB (andB (eqB c g) (andB (eqB d i) true)) true))):aL1.match_1 (λ_=>Prop) (eqT T 4 99 [I a,I b,I c,I d] [I e,I f,I g,I i]) K (λ_=>False):=by
 rw[eqBx];exact h
theorem eV4{a b:Bx}:andB (andB (eqB a.1.1 b.1.1) (andB (eqB a.1.2 b.1.2) true)) (andB (andB (eqB a.2.1 b.2.1) (andB (eqB a.2.2 b.2.2) true)) true)=true↔a=b:=by
 obtain⟨⟨c,d⟩,⟨e,f⟩⟩:=a;obtain⟨⟨g,h⟩,⟨i,j⟩⟩:=b;simp_all [Ri,aA1,U4,andB]
theorem cA4{a b:Bx}{A B:Prop}(c:a=b->A)(d:a≠b->B):branch (andB (andB (eqB a.1.1 b.1.1) (andB (eqB a.1.2 b.1.2) true)) (andB (andB (eqB a.2.1 b.2.1) (andB (eqB a.2.2 b.2.2) true)) true)) A B:=
 jU (λh=>c (eV4.1 h)) (λh=>d (λe=>by rw[eV4.2 e]at h;cases h))
def bx0:Bx:=((0,0),(0,0))
def aH0(r:Rest)(d:Iv):List Iv:=if max d.1 r.lo<min d.2 r.hi then [(W (max d.1 r.lo-r.lo),W (min d.2 r.hi-r.lo))]else []
def kH(r:Rest)(l:List Iv):List Iv:=l.flatMap (aH0 r)
theorem cK9(r:Rest)(D:List Iv)(d:Iv):kH r (D++[d])=kH r D++aH0 r d:=by unfold kH;simp
theorem aG5(r:Rest):∀D:List Iv,(kH r D).length<=D.length
 | [] =>QV _
 |d::D=>by
  have h:=aG5 r D;grind [QU,Rf,aH0,kH]
def iG(x:aN)(r:Rest):Int:=
 if x.isBar=false then(if r.lo≠0\/r.hi≠0 then 1 else remE x.sheet r.box r.id)
 else if r.box≠bx0 then 1 else if r.lo<0\/r.hi<=r.lo\/x.bar.length<r.hi then 2 else 0
def dZ(x:aN)(r:Rest):aN:=
 if x.isBar=false then(if r.lo≠0\/r.hi≠0 then wS else⟨false,remS x.sheet r.box r.id,bar0,aI⟩)
 else if iG x r=0 then⟨true,dN,⟨r.id,x.bar.grade,x.bar.heat,W (r.hi-r.lo),kH r x.bar.defects⟩,aI⟩else wS
abbrev dA5:List V:=[B false,I 0,S aI,S aI,I 0,nilV,nilV,nilV,I 0,S aI,S aI,I 0,nilV,S aI]
def aB6(c:List V)(br:Bar)(r:Rest)(X:List Iv)(n:Int):St:=match X with
 | [] =>mkSt [(2, .box 2 0),(3, .box 3 0),(4, .box 4 0),(8, .box 8 0),(78, .sl (br.defects.map ivV)),(79,I br.defects.length),(80,I n)]
   [(2,c),(3,(bY r).cells),(4,dA5),(8,[I r.id,S br.grade,S br.heat,I (W (r.hi-r.lo)),nilV])] []
 |y::X=>mkSt [(2, .box 2 0),(3, .box 3 0),(4, .box 4 0),(8, .box 8 0),(78, .sl (br.defects.map ivV)),(79,I br.defects.length),(80,I n)]
  [(2,c),(3,(bY r).cells),(4,dA5),(8,[I r.id,S br.grade,S br.heat,I (W (r.hi-r.lo)), .arr 109 X.length])] [(109,⟨X.length, .own,49,(y::X).map ivV⟩)]
theorem dL8(x:aN)(r:Rest)(m:eY x):Sp 165 [aQ x,bY r] (.tup [aQ (dZ x r),I (iG x r)]):=by
 refine zsp Tryz.func165 ?_;have n:=cD5 x.sheet r.box r.id m.1
 cases hb:x.isBar with
 |false=>exact IW
 |true=>
  have i:¬x.isBar=false:=by rw[hb];decide
  have c1:¬(x.isBar=false):=i;by_cases c2:r.box=bx0;rotate_left
  ·have e1:iG x r=1:=by unfold iG;rw[Q5 c1,QO c2]
   have e2:dZ x r=wS:=BK;rw[e1,e2];obtain⟨b,s,br,p⟩:=x;cases hb
   repeat' ((conv=>whnf);first|(exfalso;contradiction)|refine cC5 ?_|refine cA4 (a:=r.box) (b:=bx0) (λhv=>?_) (λhv=>?_)|refine zS ?_|fail)
   all_goals exact zE
  by_cases c3:r.lo<0\/r.hi<=r.lo\/x.bar.length<r.hi
  ·have e1:iG x r=2:=by unfold iG;rw[Q5 c1,Q5 (λh=>h c2),QO c3]
   have e2:dZ x r=wS:=BK;rw[e1,e2];obtain⟨b,s,br,p⟩:=x;cases hb;exact O3
  have e1:iG x r=0:=Eu;have e2:dZ x r=⟨true,dN,⟨r.id,x.bar.grade,x.bar.heat,W (r.hi-r.lo),kH r x.bar.defects⟩,aI⟩:=by unfold dZ;rw[Q5 c1,QO e1]
  rw[e1,e2];have hl:(x.bar.defects.map ivV).length=x.bar.defects.length:=Af;have j:=m.2
  obtain⟨b,s,br,p⟩:=x;cases hb
  repeat' ((conv=>whnf);first|(exfalso;contradiction)|omega|refine cC5 ?_|refine cA4 (a:=r.box) (b:=bx0) (λhv=>?_) (λhv=>?_)|refine zS ?_|refine zT ?_ ?_<;>intro _|fail)
  all_goals conv=>whnf
  clear e1 e2 n;simp only at hl j c3;refine aU (A:=List Iv) (B:=List Iv) (λD R=>aB6 (gB ⟨true,s,br,p⟩) br r (kH r D) D.length) (λD R=>br.defects=D++R) (λD R=>R.length) [] br.defects ?_ rfl (λD R hp=>?_)
  ·show Le T _ (aB6 (gB ⟨true,s,br,p⟩) br r [] 0)
   exact NI
  have o:=aG5 r D
  cases R with
  |nil=>exact KC
  |cons d R=>
   have hlen:=aO hp;have c:=cK9 r D d
   have f:((D++[d]).length:Int)=(D.length:Int)+1:=Af;generalize kH r D=X at*;by_cases l:max d.1 r.lo<min d.2 r.hi
   ·have g:aH0 r d=[(W (maxI d.1 r.lo-r.lo),W (minI d.2 r.hi-r.lo))] :=by unfold aH0;rw[QO l,mG,lH]
    rw[g]at c
    cases X with
    |nil=>
     repeat' ((conv=>whnf);first|omega|(exfalso;simp only[mG,lH]at*;omega)|refine gX (Q9 rfl) (dA rfl) (Q9 rfl) ?_|refine zS ?_|refine zT ?_ ?_<;>intro _|fail)
     all_goals conv=>whnf
     refine⟨(D++[d],R),?_,Ae,Af⟩;show Le T _ (aB6 (gB ⟨true,s,br,p⟩) br r (kH r (D++[d])) (D++[d]).length);rw[c,f];show Le T _ (aB6 (gB ⟨true,s,br,p⟩) br r [_] _);exact zj
    |cons y X=>
     have k:(y::X).length=X.length+1:=rfl
     repeat' ((conv=>whnf);first|omega|(exfalso;simp only[mG,lH]at*;omega)|refine iH rfl (.inl rfl) rfl (Q9 rfl) (dA rfl) (show((y::X).map ivV).length+1<=1000000000 from DN) ?_|refine zS ?_|refine zT ?_ ?_<;>intro _|fail)
     all_goals conv=>whnf
     refine⟨(D++[d],R),?_,Ae,Af⟩;show Le T _ (aB6 (gB ⟨true,s,br,p⟩) br r (kH r (D++[d])) (D++[d]).length);rw[c,f];show Le T _ (aB6 (gB ⟨true,s,br,p⟩) br r (y::(X++[_])) _);unfold aB6;exact Ny
   ·have g:aH0 r d=[] :=by unfold aH0;rw[Q5 l]
    rw[g,Rn]at c
    cases X with
    |nil=>
     repeat' ((conv=>whnf);first|omega|(exfalso;simp only[mG,lH]at*;omega)|refine zS ?_|refine zT ?_ ?_<;>intro _|fail)
     all_goals conv=>whnf
     refine⟨(D++[d],R),?_,Ae,Af⟩;show Le T _ (aB6 (gB ⟨true,s,br,p⟩) br r (kH r (D++[d])) (D++[d]).length);rw[c,f];show Le T _ (aB6 (gB ⟨true,s,br,p⟩) br r [] _);exact zj
    |cons y X=>
     have k:(y::X).length=X.length+1:=rfl
     repeat' ((conv=>whnf);first|omega|(exfalso;simp only[mG,lH]at*;omega)|refine zS ?_|refine zT ?_ ?_<;>intro _|fail)
     all_goals conv=>whnf
     refine⟨(D++[d],R),?_,Ae,Af⟩;show Le T _ (aB6 (gB ⟨true,s,br,p⟩) br r (kH r (D++[d])) (D++[d]).length);rw[c,f];show Le T _ (aB6 (gB ⟨true,s,br,p⟩) br r (y::X) _);exact zj
theorem aO4{a:Type}{f:a->V}(h:∀x,(f x).pure)(l:List a):bM (l.map f):=aH.2 λy b=>by
 obtain⟨x,_,rfl⟩:=Ru.1 b;exact h x
theorem eO3(v:Vc):(vcV v).pure:=by simp only[vcV,V.pure,V.ok,V.okL,I,and_self]
theorem bF3(r:Rg):(rgV r).pure:=by
 show V.okL _ _ _;exact aO4 eO3 r
theorem cJ9(l:List Rg):bM (l.map rgV):=aO4 bF3 l
theorem eR4(s:Sh):(shV s).pure:=by
 show V.okL _ _ _;exact⟨bF3 s.outer,by show V.okL _ _ _;exact cJ9 s.holes,trivial⟩
theorem eS7(d:Iv):(ivV d).pure:=by simp only[ivV,V.pure,V.ok,V.okL,I,and_self]
theorem cV5(x:aN):bM (gB x):=by
 unfold gB;refine⟨trivial,trivial,trivial,trivial,trivial,bF3 _,?_,?_,trivial,trivial,trivial,trivial,?_,trivial,trivial⟩
 ·show V.okL _ _ _;exact cJ9 _
 ·show V.okL _ _ _;exact aO4 eR4 _
 ·show V.okL _ _ _;exact aO4 eS7 _
theorem bZ6{σ:St}{i:Nat}{cs:List V}(hi:σ.bx i=some cs)(c:i<100000)(b:bM cs):Le T σ ⟨λs=>(σ.env s).frz i cs,frzB i cs σ.bx,σ.ar⟩:=by
 unfold Le;intro Φ a w G inv;exact⟨_,(inv.bV0 hi c b).1⟩
def kP(b:Bool)(p q:Rest):Prop:=
 if b=true then max p.lo q.lo<min p.hi q.hi
 else max p.box.1.1 q.box.1.1<min p.box.2.1 q.box.2.1/\max p.box.1.2 q.box.1.2<min p.box.2.2 q.box.2.2
theorem bW5(b:Bool)(p q:Rest):Sp 168 [B b,bY p,bY q] (DB (kP b p q)):=by
 refine zsp Tryz.func168 ?_
 cases b with
 |true=>exact JD
 |false=>exact Jb
theorem cO8(x:aN)(r q:Rest):Sp 167 [bY q, .fp (gB x), .fp (bY r).cells] (DB (kP x.isBar q r)):=by
 refine zsp Tryz.func167 ?_;have a:=bW5 x.isBar q r
 repeat' ((conv=>whnf);first|refine zS ?_|fail)
 all_goals conv=>whnf
 all_goals exact aA rfl
theorem eX4{g:FuncId}{c d:List V}{Q:Rest->Prop}(hg:∀m,Sp g (bY m:: [.fp c, .fp d]) (DB (Q m)))(l:List Rest)(b:l.length<=1000000):fnVC T Tryz.prog Tryz.f212 [.sl (l.map bY), .fn g [.fp c, .fp d]] (I (fstI Q l)):=by
 have a:(l.map bY).length=l.length:=Af
 repeat' ((conv=>whnf);first|refine zS ?_|fail)
 refine aU (A:=List Rest) (B:=List Rest) (λD R=>mkSt [(0, .sl (l.map bY)),(1, .fn g [.fp c, .fp d]),(7,I l.length),(8,I D.length)] [] [])
  (λD R=>l=D++R/\∀m∈D,¬Q m) (λD R=>R.length) [] l ?_ ⟨rfl,Af⟩ (λD R hp=>?_)
 ·exact zj
 ·exact I9
theorem eA8{g:FuncId}{c d:List V}{Q:Rest->Prop}(a:∀m,Sp g (bY m:: [.fp c, .fp d]) (DB (Q m)))(l:List Rest)(b:l.length<=1000000):Sp 212 [.sl (l.map bY), .fn g [.fp c, .fp d]] (I (fstI Q l)):=zsp Tryz.func212 (eX4 a l b)
theorem fA8{g:FuncId}{c d:List V}{Q:Rest->Prop}(a:∀m,Sp g (bY m:: [.fp c, .fp d]) (DB (Q m)))(l:List Rest)(b:l.length<=1000000):fnVC T Tryz.prog Tryz.f166 [.sl (l.map bY), .fn g [.fp c, .fp d]] (DB (∃m∈l,Q m)):=by
 repeat' ((conv=>whnf);first|refine zc (eA8 a l b) ?_|refine zS ?_|fail)
 exact Nq
theorem dU5{g:FuncId}{c d:List V}{Q:Rest->Prop}(a:∀m,Sp g (bY m:: [.fp c, .fp d]) (DB (Q m)))(l:List Rest)(b:l.length<=1000000):Sp 166 [.sl (l.map bY), .fn g [.fp c, .fp d]] (DB (∃m∈l,Q m)):=zsp Tryz.func166 (fA8 a l b)
def cZ(x:aN):List Rest->List Rest->Int
 |_,[] =>0
 |D,r::R=>open Classical in if iG x r≠0 then iG x r else if∃q∈D,kP x.isBar q r then 12 else cZ x (D++[r]) R
def eG(x:aN)(l:List Rest):List aN:=if cZ x [] l=0 then l.map (dZ x)else []
def cP9(x:aN)(e:Event)(D:List Rest):St:=match D with
 | [] =>mkSt [(2, .fp (gB x)),(3, .box 3 0),(6,nilV),(12, .sl (e.rests.map bY)),(13,I e.rests.length),(14,I 0)] [(3,iJ e)] []
 |d::D=>mkSt [(2, .fp (gB x)),(3, .box 3 0),(6, .arr 37 D.length),(12, .sl (e.rests.map bY)),(13,I e.rests.length),(14,I ((D.length:Int)+1))] [(3,iJ e)]
  [(37,⟨D.length, .own,86,((d::D).map (dZ x)).map aQ⟩)]
theorem cU2(x:aN)(e:Event)(K:eY x)(z:e.rests.length<=1000000):Sp 120 [aQ x,aS e] (.tup [.own 86 ((eG x e.rests).map aQ),I (cZ x [] e.rests)]):=by
 refine zsp Tryz.func120 ?_;have hl:(e.rests.map bY).length=e.rests.length:=Af;have t:∀n,cZ x [] e.rests=n->n≠0->eG x e.rests=[] :=λn G H=>by unfold eG;rw[Q5 (by rw[G];exact H)]
 have F:cZ x [] e.rests=0->eG x e.rests=e.rests.map (dZ x):=λh=>by unfold eG;rw[QO h]
 generalize eG x e.rests=L at*;generalize v:cZ x [] e.rests=g at*
 repeat' ((conv=>whnf);first|refine zS ?_|fail)
 refine aU (A:=List Rest) (B:=List Rest) (λD R=>cP9 x e D) (λD R=>e.rests=D++R/\cZ x D R=g) (λD R=>R.length) [] e.rests ?_ ⟨rfl,v⟩ (λD R hp=>?_)
 ·refine Le.trans (bZ6 (i:=2) (cs:=gB x) rfl Ai (cV5 x)) ?_
  show Le T _ (cP9 x e []);exact NI
 obtain⟨hp,k⟩:=hp
 have u:(e.rests.map bY).take D.length=D.map bY:=by
  have h:(D.map bY).length=D.length:=Af;rw[hp,RF,<-h];exact List.take_left
 have y:∀(n:Int) (r:Rest),n.toNat=D.length->Sp 166 [.sl (((e.rests.map bY).take n.toNat).drop (0:Int).toNat), .fn 167 [.fp (gB x), .fp (bY r).cells]] (DB (∃q∈D,kP x.isBar q r)):=λn r J=>by
  have h:=dU5 (c:=gB x) (d:=(bY r).cells) (λq=>cO8 x r q) D (by rw[hp]at z;simp at z;omega)
  rw[J,u];exact h
 cases R with
 |nil=>
  have w:e.rests=D:=Ae;have o:e.rests.length=D.length:=by rw[w]
  have C:g=0:=k.symm;have s:=F C
  rw[w]at s;subst C s
  cases D with
  |nil=>
   have f:([] :List Rest).length=0:=rfl
   repeat' ((conv=>whnf);first|omega|refine zS ?_|refine zT ?_ ?_<;>intro _|fail)
   all_goals conv=>whnf
   exact Oo
  |cons d D=>
   have f:(d::D).length=D.length+1:=rfl
   repeat' ((conv=>whnf);first|omega|refine zS ?_|refine zT ?_ ?_<;>intro _|fail)
   all_goals conv=>whnf
   refine⟨_,rfl,⟨⟨rfl,rfl,rfl,rfl⟩,rfl,trivial⟩,rfl⟩
 |cons r R=>
  have o:=aO hp;have M:=dL8 x r K
  cases D with
  |nil=>
   have f:([] :List Rest).length=0:=rfl;have E:=y 0 r rfl
   by_cases b:iG x r=0;rotate_left
   ·have a:g=iG x r:=by rw[<-k,cZ,QO b]
    have j:=t _ rfl (by rw[a];exact b)
    subst j a
    repeat' ((conv=>whnf);first|(exfalso;contradiction)|omega|refine zS ?_|refine zT ?_ ?_<;>intro _|fail)
    all_goals conv=>whnf
    exact Oo
   by_cases m:∃q∈[],kP x.isBar q r
   ·have a:g=12:=by rw[<-k,cZ,Q5 (λh=>h b),QO m]
    have j:=t _ rfl (by rw[a];decide)
    subst j a
    repeat' ((conv=>whnf);first|(exfalso;contradiction)|omega|refine fU ⟨Aa,Aa,Iz, .inl rfl⟩ ?_|refine zS ?_|refine zT ?_ ?_<;>intro _|fail)
    all_goals conv=>whnf
    exact Oo
   ·have a:g=cZ x ([] ++[r]) R:=by rw[<-k,cZ,Q5 (λh=>h b),Q5 m]
    repeat' ((conv=>whnf);first|(exfalso;contradiction)|omega|refine fU ⟨Aa,Aa,Iz, .inl rfl⟩ ?_|refine gX (Q9 rfl) (dA rfl) (Q9 rfl) ?_|refine zS ?_|refine zT ?_ ?_<;>intro _|fail)
    all_goals conv=>whnf
    refine⟨([] ++[r],R),?_,⟨by rw[hp];rfl,a.symm⟩,Af⟩
    show Le T _ (cP9 x e [r]);exact zj
  |cons d D=>
   have f:(d::D).length=D.length+1:=rfl;have E:=y ((D.length:Int)+1) r (by rw[f];omega)
   by_cases b:iG x r=0;rotate_left
   ·have a:g=iG x r:=by rw[<-k,cZ,QO b]
    have j:=t _ rfl (by rw[a];exact b)
    subst j a
    repeat' ((conv=>whnf);first|(exfalso;contradiction)|omega|refine aF (l:=e.rests) (A:=(d::D)) (x:=r) (B:=R) hp Aa ?_|refine zS ?_|refine zT ?_ ?_<;>intro _|fail)
    all_goals conv=>whnf
    exact Oo
   by_cases m:∃q∈(d::D),kP x.isBar q r
   ·have a:g=12:=by rw[<-k,cZ,Q5 (λh=>h b),QO m]
    have j:=t _ rfl (by rw[a];decide)
    subst j a
    repeat' ((conv=>whnf);first|(exfalso;contradiction)|omega|refine aF (l:=e.rests) (A:=(d::D)) (x:=r) (B:=R) hp Aa ?_|refine fU ⟨Aa,Aa,Iz, .inl rfl⟩ ?_|refine zS ?_|refine zT ?_ ?_<;>intro _|fail)
    all_goals conv=>whnf
    exact Oo
   ·have a:g=cZ x ((d::D)++[r]) R:=by rw[<-k,cZ,Q5 (λh=>h b),Q5 m]
    repeat' ((conv=>whnf);first|(exfalso;contradiction)|omega|refine aF (l:=e.rests) (A:=(d::D)) (x:=r) (B:=R) hp Aa ?_|refine fU ⟨Aa,Aa,Iz, .inl rfl⟩ ?_|refine iH rfl (.inl rfl) rfl (Q9 rfl) (dA rfl) (show(((d::D).map (dZ x)).map aQ).length+1<=1000000000 from DV) ?_|refine zS ?_|refine zT ?_ ?_<;>intro _|fail)
    all_goals conv=>whnf
    refine⟨(d::D++[r],R),?_,⟨Ae,a.symm⟩,Af⟩;show Le T _ (cP9 x e (d::(D++[r])));unfold cP9;exact Ny
def bs{α:Type}(key:α->Int)(l:List α)(t:Int):Nat:=(l.takeWhile λm=>decide (key m<t)).length
theorem dC0{c:Type}{key:c->Int}{t:Int}:∀ {l:List c} {i:Nat},i<=l.length->(∀k m,k<i->l[k]? =some m->key m<t)->(∀m,l[i]? =some m->t<=key m)->bs key l t=i
 | [],i,h,_,_=>by simp at h;subst h;rfl
 |x::r,0,_,_,h=>by
  have:=h x rfl;unfold bs;simp_all
 |x::r,i+1,hi,b,d=>by
  have g:=b 0 x Aa rfl;have e:=dC0 (l:=r) (i:=i) (by simp at hi;omega) (λk m f a=>b (k+1) m Aa a) (λm a=>d m a)
  unfold bs at e⊢;simp_all
theorem cD4{n:Int}(h:0<=n/\n<=2000000):IntKind.u64.wrap n=n:=by
 exact QL
theorem cK6{a b:Int}:cmpI a b<0↔a<b:=DZ
theorem aU8{a b:Int}:0<=cmpI a b↔b<=a:=DZ
theorem bP6{a b:Int}:cmpI a b=0↔a=b:=DZ
theorem bF1{i j:Nat}(h:i+j<=2000000):IntKind.i64.wrap (shrI .u64 ((i:Int)+(j:Int)) 1)=(((i+j)/2:Nat):Int):=by
 have e:shrI .u64 ((i:Int)+(j:Int)) 1=(((i+j)/2:Nat):Int):=by
  unfold shrI;show Int.fdiv _ 2=_;grind
 rw[e,IntKind.wrap_i64];omega
theorem sorted_at{c:Type}{key:c->Int}{l:List c}(i:(l.map key).Pairwise (·<·)){a b:Nat}{x y:c}(d:l[a]? =some x)(e:l[b]? =some y)(h:a<b):key x<key y:=by
 obtain⟨f,rfl⟩:=QR.1 d;obtain⟨g,rfl⟩:=QR.1 e;grind [List.pairwise_iff_getElem]
theorem eC8{c:Type}{key:c->Int}{t:Int}{l:List c}{i:Nat}(q:(l.map key).Pairwise (·<·))(d:∀k m,k<i->l[k]? =some m->key m<t)(o:∀m,l[i]? =some m->t<=key m):
 (∀m,l[i]? =some m->((∃y∈l,key y=t)↔key m=t))/\(l[i]? =none->¬∃y∈l,key y=t):=by
 refine⟨λm j=>⟨?_,λh=>⟨m,QT j,h⟩⟩,λn=>?_⟩
 ·rintro⟨y,b,e⟩
  obtain⟨k,a⟩:=Rx b;grind [UD,sorted_at]
 ·rintro⟨y,b,e⟩
  obtain⟨k,a⟩:=Rx b;have g:=(QR.1 a).1;have f:=List.getElem?_eq_none_iff.1 n
  have:=d k y Aa a;omega
theorem eX1{g:FuncId}{t:Int}(hg:∀m:aN,Sp g [aQ m,I t] (I (cmpI (sid m) t)))(l:List aN)(u:l.length<=1000000)(hs:(l.map sid).Pairwise (·<·)):fnVC T Tryz.prog Tryz.f161 [.sl (l.map aQ),I t, .fn g []] (.tup [I (bs sid l t),DB (∃m∈l,sid m=t)]):=by
 have q:(l.map aQ).length=l.length:=Af
 repeat' ((conv=>whnf);first|refine zS ?_|fail)
 refine aU (A:=Nat) (B:=Nat) (λi j=>mkSt [(0, .sl (l.map aQ)),(1,I t),(2, .fn g []),(8,I l.length),(9,I i),(10,I j)] [] []) (λi j=>i<=j/\j<=l.length/\(∀k m,k<i->l[k]? =some m->sid m<t)/\∀k m,j<=k->l[k]? =some m->t<=sid m) (λi j=>j-i) 0 l.length ?_ ⟨Aa,Aa,λk m hk=>absurd hk Aa,λk m hk hm=>CJ⟩ (λi j r=>?_)
 ·exact zj
 obtain⟨o,s,h1,h2⟩:=r;have a:i<=l.length:=Aa;by_cases f:i<j
 ·exact IK
 ·have e:j=i:=by omega
  subst e;have c:=dC0 a h1 (λm hm=>h2 j m (QV _) hm);have hex:=eC8 hs h1 (λm hm=>h2 j m (QV _) hm)
  rw[c];generalize (∃m∈l,sid m=t)=P at*;by_cases d:j<l.length
  ·have hm2:=QS d
   generalize l[j] =m at hm2;have g1:=hg m;have hP:P↔sid m=t:=hex.1 m hm2
   have eP:DB P=V.lit (.bool (eqB (cmpI (sid m) t) 0)):=Ry (λb=>V.lit (.bool b)) (sK (bP6.trans hP.symm)).symm;rw[eP];exact zF
  ·exact KH
theorem eB5{g:FuncId}{t:Int}(a:∀m:aN,Sp g [aQ m,I t] (I (cmpI (sid m) t)))(l:List aN)(b:l.length<=1000000)(c:(l.map sid).Pairwise (·<·)):Sp 161 [.sl (l.map aQ),I t, .fn g []] (.tup [I (bs sid l t),DB (∃m∈l,sid m=t)]):=zsp Tryz.func161 (eX1 a l b c)
theorem eW0{g:FuncId}{t:Int}(hg:∀m:Piece,Sp g [aZ m,I t] (I (cmpI (Piece.id m) t)))(l:List Piece)(u:l.length<=1000000)(hs:(l.map Piece.id).Pairwise (·<·)):fnVC T Tryz.prog Tryz.f170 [.sl (l.map aZ),I t, .fn g []] (.tup [I (bs Piece.id l t),DB (∃m∈l,Piece.id m=t)]):=by
 have q:(l.map aZ).length=l.length:=Af
 repeat' ((conv=>whnf);first|refine zS ?_|fail)
 refine aU (A:=Nat) (B:=Nat) (λi j=>mkSt [(0, .sl (l.map aZ)),(1,I t),(2, .fn g []),(8,I l.length),(9,I i),(10,I j)] [] []) (λi j=>i<=j/\j<=l.length/\(∀k m,k<i->l[k]? =some m->Piece.id m<t)/\∀k m,j<=k->l[k]? =some m->t<=Piece.id m) (λi j=>j-i) 0 l.length ?_ ⟨Aa,Aa,λk m hk=>absurd hk Aa,λk m hk hm=>CJ⟩ (λi j r=>?_)
 ·exact zj
 obtain⟨o,s,h1,h2⟩:=r;have a:i<=l.length:=Aa;by_cases f:i<j
 ·exact IK
 ·have e:j=i:=by omega
  subst e;have c:=dC0 a h1 (λm hm=>h2 j m (QV _) hm);have hex:=eC8 hs h1 (λm hm=>h2 j m (QV _) hm)
  rw[c];generalize (∃m∈l,Piece.id m=t)=P at*;by_cases d:j<l.length
  ·have hm2:=QS d
   generalize l[j] =m at hm2;have g1:=hg m;have hP:P↔Piece.id m=t:=hex.1 m hm2
   have eP:DB P=V.lit (.bool (eqB (cmpI (Piece.id m) t) 0)):=Ry (λb=>V.lit (.bool b)) (sK (bP6.trans hP.symm)).symm;rw[eP];exact zF
  ·exact KH
theorem eG9{g:FuncId}{t:Int}(a:∀m:Piece,Sp g [aZ m,I t] (I (cmpI (Piece.id m) t)))(l:List Piece)(b:l.length<=1000000)(c:(l.map Piece.id).Pairwise (·<·)):Sp 170 [.sl (l.map aZ),I t, .fn g []] (.tup [I (bs Piece.id l t),DB (∃m∈l,Piece.id m=t)]):=zsp Tryz.func170 (eW0 a l b c)
theorem cR0(x:aN)(t:Int):Sp 162 [aQ x,I t] (I (cmpI (sid x) t)):=by
 refine zsp Tryz.func162 ?_;have a:=aE2 x;have b:=aB9 (sid x) t
 exact zF
theorem cG0(x:Piece)(t:Int):Sp 171 [aZ x,I t] (I (cmpI x.id t)):=by
 refine zsp Tryz.func171 ?_;have a:=aB9 x.id t;exact zF
theorem dN9(n:Int):Sp 208 [I n] (.lit (.bool false)):=by
 refine zsp Tryz.func208 ?_
 repeat' ((conv=>whnf);first|refine zS ?_|fail)
 all_goals conv=>whnf
 all_goals first|exact aK (by rw[aA1.2 rfl];rfl)|exact aK rfl
theorem dM1(a b:Int):Sp 207 [I a,I b] (DB (a<b)):=by
 refine zsp Tryz.func207 ?_;have c:=aN2 a;have d:=aN2 b
 repeat' ((conv=>whnf);first|refine zc c ?_|refine zS ?_|fail)
 all_goals conv=>whnf
 all_goals exact aA eU2
theorem fA5(t:Int)(l:List Int)(H:l.length<=1000000)(u:(l.map id).Pairwise (·<·)):fnVC T Tryz.prog Tryz.f163 [.sl (l.map I),I t] (.tup [I (bs id l t),DB (∃m∈l,m=t)]):=by
 have E:(l.map I).length=l.length:=Af
 repeat' ((conv=>whnf);first|refine zS ?_|fail)
 refine aU (A:=Nat) (B:=Nat) (λi j=>mkSt [(0, .sl (l.map I)),(1,I t),(6,I l.length),(7,I i),(8,I j)] [] []) (λi j=>i<=j/\j<=l.length/\(∀k m,k<i->l[k]? =some m->m<t)/\∀k m,j<=k->l[k]? =some m->t<=m) (λi j=>j-i) 0 l.length ?_ ⟨Aa,Aa,λk m hk=>absurd hk Aa,λk m hk hm=>CJ⟩ (λi j F=>?_)
 ·exact zj
 obtain⟨D,G,o,q⟩:=F;have d:i<=l.length:=Aa;by_cases w:i<j
 ·have C:(i+j)/2<l.length:=by omega
  have hm2:=QS C;generalize l[(i+j)/2] =m at hm2;have z:=dM1 m t
  have x:(i+j)/2<j:=Aa
  repeat' ((conv=>whnf);first|omega|refine fK (k:= .u64) (n:=(i:Int)+(j:Int)) (m:=(i:Int)+(j:Int)) (cD4 Aa) ?_|refine fK (k:= .i64) (n:=shrI .u64 ((i:Int)+(j:Int)) 1) (m:=(((i+j)/2:Nat):Int)) (bF1 Aa) ?_|refine aB (l:=l) Aa ?_|refine gK (l:=l) hm2 Aa ?_|refine zc z ?_|refine zS ?_|refine zT ?_ ?_<;>intro _|fail)
  all_goals conv=>whnf
  ·have hc:m<t:=by assumption
   refine⟨((i+j)/2+1,j),?_,⟨Aa,Aa,λk y hk hy=>?_,q⟩,Aa⟩
   ·exact zj
   ·rcases RX k ((i+j)/2)with h|h
    ·exact Int.lt_trans (sorted_at (key:=id) u hy hm2 h) hc
    ·exact Jh
  ·have hc:t<=m:=by omega
   refine⟨(i,(i+j)/2),?_,⟨Aa,Aa,o,λk y hk hy=>?_⟩,Aa⟩
   ·exact zj
   ·rcases RX ((i+j)/2) k with h|h
    ·exact Int.le_of_lt (Int.lt_of_le_of_lt hc (sorted_at (key:=id) u hm2 hy h))
    ·exact Jh
 ·have e:j=i:=by omega
  subst e;have r:=dC0 (key:=id) d o (λm hm=>q j m (QV _) hm);have a:=eC8 (key:=id) u o (λm hm=>q j m (QV _) hm)
  rw[r];have v:(∃m∈l,m=t)↔(∃y∈l,id y=t):=RN;simp only[id]at a;generalize (∃m∈l,m=t)=P at*;by_cases s:j<l.length
  ·have hm2:=QS s
   generalize l[j] =m at hm2;have g:P↔m=t:=a.1 m hm2;by_cases f:m=t
   ·have c:DB P=V.lit (.bool true):=Ry (λb=>V.lit (.bool b)) (dH.2 (g.2 f))
    rw[c]
    repeat' ((conv=>whnf);first|omega|refine aB (l:=l) Aa ?_|refine gK (l:=l) hm2 Aa ?_|refine zS ?_|refine zT ?_ ?_<;>intro _|fail)
    all_goals exact zE
   ·have c:DB P=V.lit (.bool false):=Ry (λb=>V.lit (.bool b)) (dW.2 (λh=>f (g.1 h)))
    rw[c]
    repeat' ((conv=>whnf);first|omega|refine aB (l:=l) Aa ?_|refine gK (l:=l) hm2 Aa ?_|refine zc (dN9 m) ?_|refine zS ?_|refine zT ?_ ?_<;>intro _|fail)
    all_goals exact zE
  ·have g:¬P:=a.2 (Tt Aa)
   have c:DB P=V.lit (.bool false):=Ry (λb=>V.lit (.bool b)) (dW.2 g);rw[c];exact Oa
theorem cQ0(t:Int)(l:List Int)(a:l.length<=1000000)(b:(l.map id).Pairwise (·<·)):Sp 163 [.sl (l.map I),I t] (.tup [I (bs id l t),DB (∃m∈l,m=t)]):=zsp Tryz.func163 (fA5 t l a b)
def lay(cur:Array Value)(o:Nat)(vs:List Value):Array Value:=(cur.toList.take o++vs++cur.toList.drop (o+vs.length)).toArray
theorem lay_size{cur:Array Value}{o:Nat}{vs:List Value}(h:o+vs.length<=cur.size):(lay cur o vs).size=cur.size:=by
 unfold lay;simp;omega
theorem iW{P:Program}(w:World)(p A ty b:TypeId)(g o c e:Nat)(a:Addr)(d k sz n:Nat)(cur:Array Value)(t:TypeId)(cs:List Value)
 (z:P.underlying p=some (.slice b))(q:(P.info? b).map (·.size)=some sz)
 (s:w.heap[g]? =some (.cells cur t (0,0)))(x:Nat.min d c=n)(y:cs.length=n*sz)
 (h:∀j v,cs[j]? =some v->w.cell? (a.add j)=some v)(f:o+cs.length<=cur.size)(r:∀v∈cs,v.oneCell'=true):
 (Builtin.copy_ #[p,A] ty #[.slice (some ⟨g,o,none⟩) c e, .slice (some a) d k]).run P w=
  .ok (goInt n) (w.setRow g (lay cur o cs)):=by
 have u:=run_loadCells_list (P:=P) w a cs h;have m:=run_storeCells_at P g o t cs 0 cur w s (by simpa using f) r
 unfold lay
 cases l:P.info? b with
 |none=>simp[l]at q
 |some i=>
  have hi:i.size=sz:=by simpa [l]using q
  simp[Builtin.copy_,Rw z,Builtin.lenOf,Builtin.firstCells,sizeOf,typeInfo,l,hi,x,<-y,u,m]
theorem xJ(cur:Array Value)(o:Nat)(vs:List Value):(lay cur o vs).toList=cur.toList.take o++vs++cur.toList.drop (o+vs.length):=by
 unfold lay;rfl
theorem uI{a:Type}{A B C:List a}{n:Nat}(h:A.length+B.length=n):(A++B++C).take n=A++B:=by
 grind
theorem layA{cur:Array Value}{p:Nat}{vs a:List Value}(h:p+vs.length+a.length<=cur.size):
 (lay (lay cur (p+vs.length) a) p vs).toList.take (p+vs.length+a.length)=cur.toList.take p++vs++a:=by
 have c:cur.toList.length=cur.size:=RV;rw[xJ,xJ];have b:(cur.toList.take (p+vs.length)).length=p+vs.length:=Gv
 grind [SE,UA,List.drop_left,uI,QU,QZ]
theorem layB{R:Array Value}{p:Nat}{vs a:List Value}(h:p+vs.length+a.length<=R.size):
 (lay (lay R p vs) (p+vs.length) a).toList.take (p+vs.length+a.length)=R.toList.take p++vs++a:=by
 have c:R.toList.length=R.size:=RV;rw[xJ,xJ];have b:(R.toList.take p++vs).length=p+vs.length:=by rw[QU,QZ];omega
 grind
theorem layC{cur:Array Value}{p:Nat}{vs:List Value}(h:p+vs.length<=cur.size):(lay cur p vs).toList.take (p+vs.length)=cur.toList.take p++vs:=by
 have a:cur.toList.length=cur.size:=RV;rw[xJ];exact uI Gv
theorem oH{w:World}{G:Gh}{a b:List Value}{x y:List V}(d:RvL w G a x)(e:RvL w G b y):RvL w G (a++b) (x++y):=by
 refine⟨by rw[QU,QU,d.len,e.len],λv hv=>?_,λi v z hv c=>?_⟩
 ·rcases QX.1 hv with h|h
  ·exact d.one v h
  ·exact e.one v h
 ·rw[UI]at hv c
  rw[<-d.len]at c;split at hv
  ·rename_i hi
   rw[QO hi]at c;exact d.rel i v z hv c
  ·rename_i hi
   rw[Q5 hi]at c;exact e.rel _ v z hv c
theorem aM1{w:World}{G:Gh}{a:List Value}{x:List V}(h:RvL w G a x)(n:Nat):RvL w G (a.take n) (x.take n):=by
 refine⟨by rw[QZ,QZ,h.len],λv hv=>h.one v (RG hv),λi v z hv b=>?_⟩
 rw[TK]at hv b;split at hv
 ·rename_i hi
  rw[QO hi]at b;exact h.rel i v z hv b
 ·cases hv
theorem aL4{w:World}{G:Gh}{a:List Value}{x:List V}(h:RvL w G a x)(n:Nat):RvL w G (a.drop n) (x.drop n):=by
 refine⟨by rw[RU,RU,h.len],λv hv=>h.one v (Rz hv),λi v z hv b=>?_⟩
 rw[Si]at hv b;exact h.rel _ v z hv b
theorem xW{l:List V}{sz i:Nat}(b:∀x∈l,x.cells.length=sz)(hi:i<=l.length):(l.flatMap V.cells).take (i*sz)=(l.take i).flatMap V.cells/\(l.flatMap V.cells).drop (i*sz)=(l.drop i).flatMap V.cells:=by
 have e:l.flatMap V.cells=(l.take i).flatMap V.cells++(l.drop i).flatMap V.cells:=by rw[<-TS,SI]
 have a:((l.take i).flatMap V.cells).length=i*sz:=by
  grind [Go.Ab.sH,RG,QZ,UA]
 simp_all
theorem jM{w w':World}{G:Gh}{b n c:Nat}{E:TypeId}{X:Array Value}{L:List V}(z:E<T.n E)(hp:bM L)(f:L.length=n)(I:∀x∈L,x.cells.length=(T.row E).size)
 (A:RvL w G (X.toList.take (n*(T.row E).size)) (L.flatMap V.cells))(B:w'.heap[b]? =some (.cells X E (0,0)))(H:X.size=c*(T.row E).size)(g:n<=c)(D:c<=maxLen)
 (o:∀b,G.O b≠ .ext->b<w.heap.size)(r:∀b i,G.O b≠ .bx i)(C:G.O b= .ar 0\/w.heap.size<=b)
 (F:∀q,q<w.heap.size->q≠b->w'.heap[q]? =w.heap[q]?)(l:w.heap.size<=w'.heap.size)(s:w'.os=w.os)(t:w'.tape=w.tape)(u:w'.output=w.output):
 ∃v G',Ending.returned (.slice (some ⟨b,0,none⟩) n c)= .returned v/\Rr T w' G' v (.own E L)/\
  (∀b,G.O b= .fz->G'.O b= .fz)/\(∀b,G'.O b≠ .ext->b<w'.heap.size)/\(∀b i,G'.O b≠ .bx i)/\
  (∀b,G'.O b≠ .ext->(G.O b= .fz/\G'.O b= .fz)\/w.heap.size<=b\/∃j,G.O b= .ar j)/\
  (∀b,b<w.heap.size->(∀j,G.O b≠ .ar j)->w'.heap[b]? =w.heap[b]?)/\
  w.heap.size<=w'.heap.size/\w'.os=w.os/\w'.tape=w.tape/\w'.output=w.output:=by
 have a:∀q,G.O q= .fz->q≠b:=by
  grind
 have d:Keep w w' G {G with O:=λq=>if q=b then .ar 0 else G.O q}:=⟨λq hq=>by simp[a q hq,hq],λq hq=>F q (o q Aq) (a q hq)⟩
 have k:bM (L.flatMap V.cells):=aH.2 λy hy=>by
  exact QD
 subst f;refine⟨_,{G with O:=λq=>if q=b then .ar 0 else G.O q},rfl,⟨z,hp, .inr ⟨b,c,X,rfl,Af,B,g,D,H,I,A.keep d k (λ_ h=>h.elim) (λ_ _ h=>h.elim)⟩⟩,d.fz,λq hq=>?_,λq i hq=>?_,λq hq=>?_,λq J K=>?_,l,s,t,u⟩
 ·grind
 ·grind
 ·by_cases e:q=b
  ·grind
  ·simp only[e,Ul]at hq⊢
   cases m:G.O q with
   |ext=>exact absurd m hq
   |fz=>exact .inl ⟨rfl,rfl⟩
   |bx i=>exact absurd m (r q i)
   |ar j=>exact .inr (.inr ⟨j,rfl⟩)
 ·grind
theorem bY9{w:World}{G:Gh}{k:Nat}{u:Value}{E:TypeId}{x:V}(h:gJ T w G k u E [x]):∃(b c:Nat) (cur:Array Value),u= .slice (some ⟨b,0,none⟩) 1 c/\G.O b= .ar k/\w.heap[b]? =some (.cells cur E (0,0))/\(T.row E).size<=cur.size/\
 x.cells.length=(T.row E).size/\RvL w G (cur.toList.take (T.row E).size) x.cells:=by
 rcases h with⟨_,h⟩|⟨b,c,cur,a,d,e,f,j,g,i,l⟩
 ·cases h
 ·refine⟨b,c,cur,a,d,e,?_,i x Af,?_⟩
  ·rw[g]
   exact Nat.le_mul_of_pos_left _ f
  ·simp_all
theorem aN3{w:World}{G:Gh}{j:Nat}{v:Value}{u:Value}(h:Rb T w G j v (.lit u)):v=u:=h.2.bH
theorem arr3{cs:Array Value}(h:cs.size=3):∃a b c,cs= #[a,b,c] :=by
 obtain⟨l⟩:=cs
 match l,h with
 | [a,b,c],_=>exact⟨a,b,c,rfl⟩
end Go.Proofs.Led
namespace Go.Proofs.Led
open Go Go.Proofs Go.Ab Go.RowKit Go.Lib
structure ElT(S E Z B:Nat):Prop where
 u:Tryz.prog.underlying S=some (.slice E)
 t:E<T.n E
 s:(T.row E).size=Z
 y:(T.row E).bytes=B
 b:B<=1000
 z:0<Z
section
variable{S E Z B:Nat}
theorem ElT.info(h:ElT S E Z B):∃i z,Tryz.prog.info? E=some i/\i.size=Z/\i.bytes=B/\i.zero=some z/\z.cells.size=Z:=by
 obtain⟨i,c,d,e,z,f,a,_,b,_,_⟩:=(uG E h.t).info;exact⟨i,z,c,d.trans h.s,e.trans h.y,f,by rw[<-RV,a,b,h.s]⟩
theorem cell_seg{w:World}{b o n j:Nat}{X:Array Value}{v:Value}(h:w.heap[b]? =some (.cells X E (0,0)))(a:((X.toList.drop o).take n)[j]? =some v):w.cell? ((⟨b,o,none⟩:Addr).add j)=some v:=by
 rw[Addr.add_lit];rw[TK]at a;split at a
 ·rw[Si,TG]at a
  simp only[World.cell?,h];simpa using a
 ·cases a
theorem cell_take{w:World}{b n j:Nat}{X:Array Value}{v:Value}(h:w.heap[b]? =some (.cells X E (0,0)))(a:(X.toList.take n)[j]? =some v):w.cell? ((⟨b,0,none⟩:Addr).add j)=some v:=
 cell_seg (o:=0) h a
theorem mulZ{a b:Nat}(h:a<=b):a*Z<=b*Z/\(b-a)*Z=b*Z-a*Z:=⟨UJ Z h,Nat.sub_mul b a Z⟩
theorem ElT.cp(h:ElT S E Z B){W:World}{b d:Nat}{X Y:Array Value}{o1 o2 a c k:Nat}(ty:TypeId)(e g:Nat)(p:W.heap[b]? =some (.cells X E (0,0)))(o:W.heap[d]? =some (.cells Y E (0,0)))(s:Nat.min c a=k)
 (t:o2+k*Z<=Y.size)(q:o1+k*Z<=X.size)(n:∀v∈(Y.toList.drop o2).take (k*Z),v.oneCell'=true):
 (Builtin.copy_ #[S,S] ty #[.slice (some ⟨b,o1,none⟩) a e, .slice (some ⟨d,o2,none⟩) c g]).run Tryz.prog W= .ok (goInt k) (W.setRow b (lay X o1 ((Y.toList.drop o2).take (k*Z)))):=by
 obtain⟨i,z,l,m,_⟩:=h.info;have f:((Y.toList.drop o2).take (k*Z)).length=k*Z:=by rw[QZ,RU,RV];omega
 exact iW W S S ty E b o1 a e ⟨d,o2,none⟩ c g Z k X E _ h.u (by rw[l];simp[m]) p s f (λj v r=>cell_seg o r) (by rw[f];exact q) n
theorem ElT.cp1(h:ElT S E Z B){W:World}{b vb:Nat}{X Y:Array Value}{o1 c:Nat}(ty:TypeId)(a vc:Nat)(f:W.heap[b]? =some (.cells X E (0,0)))(e:W.heap[vb]? =some (.cells Y E (0,0)))(g:1<=c)
 (j:Z<=Y.size)(i:o1+Z<=X.size)(d:∀v∈Y.toList.take Z,v.oneCell'=true):
 (Builtin.copy_ #[S,S] ty #[.slice (some ⟨b,o1,none⟩) c a, .slice (some ⟨vb,0,none⟩) 1 vc]).run Tryz.prog W= .ok (goInt (1:Nat)) (W.setRow b (lay X o1 (Y.toList.take Z))):=by
 have:=h.cp (o1:=o1) (o2:=0) (k:=1) ty a vc f e (UA g) Aa Aa (by rw[Nat.one_mul];exact d)
 rw[Nat.one_mul]at this;exact this
theorem ElT.room(h:ElT S E Z B){b n c vb vc:Nat}{cur a:Array Value}{w:World}(d:n+1<=c)(l:w.heap[b]? =some (.cells cur E (0,0)))(hv:w.heap[vb]? =some (.cells a E (0,0)))(g:cur.size=c*Z)(q:Z<=a.size)
 (k:∀v∈a.toList.take Z,v.oneCell'=true)(ty:TypeId):
 (Builtin.append_ #[S,S] ty #[.slice (some ⟨b,0,none⟩) n c, .slice (some ⟨vb,0,none⟩) 1 vc]).run Tryz.prog w= .ok (.slice (some ⟨b,0,none⟩) (n+1) c) (w.setRow b (lay cur (n*Z) (a.toList.take Z))):=by
 obtain⟨s,z,i,e,r,_⟩:=h.info;have f:(a.toList.take Z).length=Z:=Dx;have o:=(mulZ (Z:=Z) d).1
 rw[TP]at o;have h:=run_append_room (P:=Tryz.prog) w S ty E s h.u i b n c cur l ⟨vb,0,none⟩ 1 vc (a.toList.take Z) (by rw[f,e,Nat.one_mul]) (λj v m=>cell_take hv m) k d (by rw[f,e,g];omega)
 rw[e]at h;exact h
theorem ElT.fits(h:ElT S E Z B)(w:World){n c:Nat}(a:c<n)(d:n<=1000000001):Builtin.nextslicecap n c*B<=281474976710656/\n<=grownCap w n c E/\grownCap w n c E<=maxLen:=
 ⟨growslice_fits a (Ro (UF d h.b) Ai),grownCap_ge w n c E,grownCap_le_maxLen w n c E CB⟩
theorem ElT.app(h:ElT S E Z B)(d:Option Addr)(n c vb vc:Nat)(cs:List Value)(e:Array Value)(w:World)(H:n<=c)(f:c<n+1)(A:n<=1000000000)
 (G:d=none->n=0/\c=0)(F:∀a,d=some a->∀j v,cs[j]? =some v->w.cell? (a.add j)=some v)(g:cs.length=n*Z)
 (hv:w.heap[vb]? =some (.cells e E (0,0)))(I:Z<=e.size):∃(q:Nat) (z:Array Value),n+1<=q/\q<=maxLen/\z.size=(q- (n+1))*Z/\∀ty,
 (Builtin.append_ #[S,S] ty #[.slice d n c, .slice (some ⟨vb,0,none⟩) 1 vc]).run Tryz.prog w= .ok (.slice (some ⟨w.heap.size,0,none⟩) (n+1) q) (w.drew.alloc (.cells (cs.toArray++(e.toList.take Z).toArray++z) E)):=by
 obtain⟨y,z,k,o,m,C,x⟩:=h.info;obtain⟨i,r,t⟩:=h.fits w f Aa;have J:=h.b;have l:(e.toList.take Z).length=1*y.size:=by rw[o,QZ,RV];omega
 refine⟨grownCap w (n+1) c E,Builtin.zeroCells z.cells (grownCap w (n+1) c E- (n+1)),r,t,by simp[Builtin.zeroCells,x],λty=>?_⟩
 cases d with
 |none=>
  obtain⟨rfl,rfl⟩:=G rfl;have D:cs=[] :=RH.1 (by simp[g])
  subst D;have h:=run_append_nil (P:=Tryz.prog) w S ty E y z h.u k C ⟨vb,0,none⟩ 1 vc _ l (λj v s=>cell_take hv s) Aa Aa (by rw[m];omega)
  rw[h];simp
 |some a=>
  exact run_append_grow (P:=Tryz.prog) w S ty E y z h.u k C a n c cs (by rw[o];exact g) (F a rfl) ⟨vb,0,none⟩ 1 vc _ l (λj v s=>cell_take hv s) f Aa (by rw[m];exact i)
theorem ElT.zeros(h:ElT S E Z B){b n c i:Nat}{cur:Array Value}{w:World}(hi:i<n)(C:n<=c)(a:c<n+1)(t:n<=1000000000)(y:w.heap[b]? =some (.cells cur E (0,0)))(o:cur.size=c*Z):
 ∃(m:Nat) (R:Array Value),n+1<=m/\m<=maxLen/\R.size=m*Z/\R.toList.take (i*Z)=cur.toList.take (i*Z)/\∀ty,
  (Builtin.append_ #[S,3] ty #[.slice (some ⟨b,0,none⟩) i c, .int .i64 ((n:Int)+1- (i:Int))]).run Tryz.prog w= .ok (.slice (some ⟨w.heap.size,0,none⟩) (n+1) m) (w.drew.alloc (.cells R E)):=by
 obtain⟨x,z,q,l,k,D,F⟩:=h.info;obtain⟨d,e,s⟩:=h.fits w a Aa;have r:(n:Int)+1- (i:Int)=((n+1-i:Nat):Int):=Aa;have f:i+(n+1-i)=n+1:=Aa
 have G:=(mulZ (Z:=Z) (show i<=c from Aa)).1
 have g:(Builtin.firstCells x.size i (.slice (some ⟨b,0,none⟩) i c)).run Tryz.prog w.drew= .ok (cur.toList.take (i*Z)).toArray w.drew:=by
  rw[l];exact run_firstCells_some w.drew Z i ⟨b,0,none⟩ i c (cur.toList.take (i*Z)) (by rw[QZ,RV,o];omega) (λj v A=>cell_take (w:=w.drew) y A)
 refine⟨grownCap w (n+1) c E,(cur.toList.take (i*Z)).toArray++Builtin.zeroCells z.cells (n+1-i)++Builtin.zeroCells z.cells (grownCap w (n+1) c E- (n+1)),e,s,?_,?_,λty=>?_⟩
 ·have H:=mulZ (Z:=Z) (show i<=n+1 from Aa)
  have I:=mulZ (Z:=Z) e;grind [UA,Builtin.zeroCells]
 ·simp_all
 ·have h:=Lib.run_append_grow_zeros w S 3 ty E x _ .i64 .i64 h.u S9 q D (some ⟨b,0,none⟩) i c (cur.toList.take (i*Z)) g (n+1-i) Aa (by rw[l];exact h.z) Aa Aa (by rw[k];exact Ro (UF (by omega:n+1-i<=1000000001) h.b) (by decide)) (by rw[k,f];exact d)
  rw[f]at h;rw[r,h]
theorem seg_mem{cur:Array Value}{i n:Nat}{v:Value}(hi:i<=n)(hv:v∈(cur.toList.drop (i*Z)).take ((n-i)*Z)):v∈cur.toList.take (n*Z):=by
 have:(cur.toList.drop (i*Z)).take ((n-i)*Z)=(cur.toList.take (n*Z)).drop (i*Z):=by rw[UX,(mulZ hi).2]
 rw[this]at hv;exact Rz hv
theorem ElT.shift(h:ElT S E Z B){b n c i vb vc:Nat}{cur a:Array Value}(hi:i<n)(e:n+1<=c)(hbs:cur.size=c*Z)(o:Z<=a.size)
 (t:∀v∈cur.toList.take (n*Z),v.oneCell'=true)(u:∀v∈a.toList.take Z,v.oneCell'=true):
 ∃g,g=lay cur ((i+1)*Z) ((cur.toList.drop (i*Z)).take ((n-i)*Z))/\
 (∀(W:World) (o1 o2 f q:Nat) ty d r,W.heap[b]? =some (.cells cur E (0,0))->o1=(i+1)*Z->o2=i*Z->Nat.min q f=n-i->
  (Builtin.copy_ #[S,S] ty #[.slice (some ⟨b,o1,none⟩) f d, .slice (some ⟨b,o2,none⟩) q r]).run Tryz.prog W= .ok (goInt (n-i:Nat)) (W.setRow b g))/\
 ∀(W:World) (o1 f:Nat) ty d,W.heap[b]? =some (.cells g E (0,0))->W.heap[vb]? =some (.cells a E (0,0))->o1=i*Z->1<=f->
  (Builtin.copy_ #[S,S] ty #[.slice (some ⟨b,o1,none⟩) f d, .slice (some ⟨vb,0,none⟩) 1 vc]).run Tryz.prog W= .ok (goInt (1:Nat)) (W.setRow b (lay g (i*Z) (a.toList.take Z))):=by
 have m1:=mulZ (Z:=Z) (Uf hi);have z:=(mulZ (Z:=Z) e).1
 have A:=(mulZ (Z:=Z) (show i+1<=n+1 from Aa)).1;have x:(i+1)*Z=i*Z+Z:=TP i Z
 have y:(n+1)*Z=n*Z+Z:=TP n Z;have w:((cur.toList.drop (i*Z)).take ((n-i)*Z)).length=(n-i)*Z:=by rw[QZ,RU,RV,hbs,m1.2];omega
 refine⟨_,rfl,λW o1 o2 f q ty d r j k s m=>?_,λW o1 f ty d j l k m=>?_⟩
 ·subst k s
  exact h.cp ty d r j j m Ij Ij (λv hv=>t v (seg_mem (Uf hi) hv))
 ·subst k
  exact h.cp1 ty d vc j l m o (by rw[lay_size (by rw[w,hbs,m1.2];omega),hbs];omega) u
theorem ElT.grow(h:ElT S E Z B){b n c u i vb vc N:Nat}{cur a R:Array Value}(hi:i<n)(q:n<=c)(m:n+1<=u)(hbs:cur.size=c*Z)(e:R.size=u*Z)(r:Z<=a.size)
 (x:∀v∈cur.toList.take (n*Z),v.oneCell'=true)(y:∀v∈a.toList.take Z,v.oneCell'=true):
 ∃j,j=lay R (i*Z) (a.toList.take Z)/\
 (∀(W:World) (o1 g:Nat) ty d,W.heap[N]? =some (.cells R E (0,0))->W.heap[vb]? =some (.cells a E (0,0))->o1=i*Z->1<=g->
  (Builtin.copy_ #[S,S] ty #[.slice (some ⟨N,o1,none⟩) g d, .slice (some ⟨vb,0,none⟩) 1 vc]).run Tryz.prog W= .ok (goInt (1:Nat)) (W.setRow N j))/\
 ∀(W:World) (o1 o2 g s:Nat) ty d t,W.heap[N]? =some (.cells j E (0,0))->W.heap[b]? =some (.cells cur E (0,0))->o1=(i+1)*Z->o2=i*Z->Nat.min s g=n-i->
  (Builtin.copy_ #[S,S] ty #[.slice (some ⟨N,o1,none⟩) g d, .slice (some ⟨b,o2,none⟩) s t]).run Tryz.prog W= .ok (goInt (n-i:Nat)) (W.setRow N (lay j ((i+1)*Z) ((cur.toList.drop (i*Z)).take ((n-i)*Z)))):=by
 have m1:=mulZ (Z:=Z) (Uf hi);have D:=(mulZ (Z:=Z) m).1
 have F:=(mulZ (Z:=Z) (show i+1<=n+1 from Aa)).1;have G:=(mulZ (Z:=Z) q).1
 have A:(i+1)*Z=i*Z+Z:=TP i Z;have C:(n+1)*Z=n*Z+Z:=TP n Z
 have z:(a.toList.take Z).length=Z:=Dx;refine⟨_,rfl,λW o1 g ty d l f k o=>?_,λW o1 o2 g s ty d t l f k w o=>?_⟩
 ·subst k
  exact h.cp1 ty d vc l f o r (by rw[e];omega) y
 ·subst k w
  exact h.cp ty d t l f o Ij (by rw[lay_size (by rw[z,e];omega),e,m1.2];omega) (λv hv=>x v (seg_mem (Uf hi) hv))
end
def OvT(F E:Nat):Prop:=∀(w:World) (b vb ob lb cb vc:Nat) (cur vcur:Array Value),vb≠b->w.heap[b]? =some (.cells cur E (0,0))->w.heap[vb]? =some (.cells vcur E (0,0))->cur.size≠0->
 (callFunc F #[.slice (some ⟨vb,0,none⟩) 1 vc, .slice (some ⟨b,ob,none⟩) lb cb]).run Tryz.prog w= .ok (.value (.bool false)) w
def InsShift(F E Z:Nat):Prop:=∀(b n c i vb vc:Nat) (cur vcur:Array Value) (w:World),i<n->n+1<=c->c<=9223372036854775807->vb≠b->
 w.heap[b]? =some (.cells cur E (0,0))->w.heap[vb]? =some (.cells vcur E (0,0))->cur.size=c*Z->Z<=vcur.size->(∀v∈cur.toList.take (n*Z),v.oneCell'=true)->(∀v∈vcur.toList.take Z,v.oneCell'=true)->
 Calls Tryz.prog F #[.slice (some ⟨b,0,none⟩) n c, .int .i64 i, .slice (some ⟨vb,0,none⟩) 1 vc] w λe w'=>
  e= .returned (.slice (some ⟨b,0,none⟩) (n+1) c)/\w'=(w.drew.setRow b (lay cur ((i+1)*Z) ((cur.toList.drop (i*Z)).take ((n-i)*Z)))).setRow b (lay (lay cur ((i+1)*Z) ((cur.toList.drop (i*Z)).take ((n-i)*Z))) (i*Z) (vcur.toList.take Z))
def InsEnd(F E Z:Nat):Prop:=∀(b n c vb vc:Nat) (cur vcur:Array Value) (w:World),n+1<=c->c<=9223372036854775807->
 w.heap[b]? =some (.cells cur E (0,0))->w.heap[vb]? =some (.cells vcur E (0,0))->cur.size=c*Z->Z<=vcur.size->(∀v∈vcur.toList.take Z,v.oneCell'=true)->
 Calls Tryz.prog F #[.slice (some ⟨b,0,none⟩) n c, .int .i64 n, .slice (some ⟨vb,0,none⟩) 1 vc] w λe w'=>
  e= .returned (.slice (some ⟨b,0,none⟩) (n+1) c)/\w'=w.setRow b (lay cur (n*Z) (vcur.toList.take Z))
def InsEndG(F S E:Nat):Prop:=∀(base:Option Addr) (n c c' vb vc:Nat) (X:Array Value) (w:World),n<=c->c<n+1->n<=1000000000->(base=none->n=0/\c=0)->
 (∀ty,(Builtin.append_ #[S,S] ty #[.slice base n c, .slice (some ⟨vb,0,none⟩) 1 vc]).run Tryz.prog w= .ok (.slice (some ⟨w.heap.size,0,none⟩) (n+1) c') (w.drew.alloc (.cells X E)))->
 Calls Tryz.prog F #[.slice base n c, .int .i64 n, .slice (some ⟨vb,0,none⟩) 1 vc] w λe w'=>e= .returned (.slice (some ⟨w.heap.size,0,none⟩) (n+1) c')/\w'=w.drew.alloc (.cells X E)
def InsGrow(F S E Z:Nat):Prop:=∀(b n c c' i vb vc:Nat) (cur vcur R:Array Value) (w:World),i<n->n<=c->c<n+1->n<=1000000000->n+1<=c'->c'<=maxLen->
 w.heap[b]? =some (.cells cur E (0,0))->w.heap[vb]? =some (.cells vcur E (0,0))->cur.size=c*Z->R.size=c'*Z->Z<=vcur.size->(∀v∈cur.toList.take (n*Z),v.oneCell'=true)->(∀v∈vcur.toList.take Z,v.oneCell'=true)->
 (∀ty,(Builtin.append_ #[S,3] ty #[.slice (some ⟨b,0,none⟩) i c, .int .i64 ((n:Int)+1- (i:Int))]).run Tryz.prog w= .ok (.slice (some ⟨w.heap.size,0,none⟩) (n+1) c') (w.drew.alloc (.cells R E)))->
 Calls Tryz.prog F #[.slice (some ⟨b,0,none⟩) n c, .int .i64 i, .slice (some ⟨vb,0,none⟩) 1 vc] w λe w'=>e= .returned (.slice (some ⟨w.heap.size,0,none⟩) (n+1) c')/\
  w'=(((w.alloc (.cells R E)).drew.setRow w.heap.size (lay R (i*Z) (vcur.toList.take Z))).drew).setRow w.heap.size (lay (lay R (i*Z) (vcur.toList.take Z)) ((i+1)*Z) ((cur.toList.drop (i*Z)).take ((n-i)*Z)))
theorem ElT.nw{S E Z B:Nat}(h:ElT S E Z B)(w:World)(R:Array Value):((w.alloc (.cells R E)).drew).heap[w.heap.size]? =some (.cells R E (0,0))/\∀q,q<w.heap.size->((w.alloc (.cells R E)).drew).heap[q]? =w.heap[q]? :=
 ⟨U5,λq a=>by
  show(w.heap.push _)[q]? =_;rw[Array.getElem?_push_lt a,U0 a]⟩
end Go.Proofs.Led
namespace Go.Proofs.Led
open Go Go.Proofs Go.Ab
theorem ins_gen{F S E Z B:Nat}(el:ElT S E Z B)(hF:callable Tryz.prog F=true)(r:InsShift F E Z)(ay:InsEnd F E Z)(an:InsEndG F S E)(az:InsGrow F S E Z)
 (l:List V)(x:V)(i:Nat)(hi:i<=l.length)(hl:l.length<=1000000000):Sp F [.own E l,I i, .own E [x]] (.own E (l.take i++x::l.drop i)):=by
 have A:(T.row E).size=Z:=el.s;refine⟨hF,λw G cs h1 h2 h3 h4 h5=>?_⟩;obtain⟨v0,v1,v2,rfl⟩:=arr3 h1;have r0:Rb T w G 0 v0 (.own E l):=h4 0 v0 _ rfl rfl
 have r1:v1= .int .i64 i:=aN3 (h4 1 v1 (I i) rfl rfl);have r2:Rb T w G 2 v2 (.own E [x]):=h4 2 v2 _ rfl rfl
 subst r1;obtain⟨hE,ak,ho⟩:=r0;obtain⟨_,al,hx⟩:=r2;obtain⟨vb,vc,d,rfl,hvO,hv,H,ah,aa⟩:=bY9 hx;rw[A]at H aa;have ao:=ah;rw[A]at ao;have am:x.pure:=aH.1 al x Af
 have Y:bM (l.take i++x::l.drop i):=aH.2 λy hy=>by
  rcases QX.1 hy with h|h
  ·exact aH.1 ak y (RG h)
  ·rcases Rh.1 h with rfl|h
   ·exact am
   ·exact aH.1 ak y (Rz h)
 have C:(l.take i++x::l.drop i).length=l.length+1:=AV;have P:∀v∈d.toList.take Z,v.oneCell'=true:=aa.one
 have t:(d.toList.take Z).length=Z:=Dx;have a1:vb<w.heap.size:=(Rj.1 hv).1
 have af:(l.take i++x::l.drop i).flatMap V.cells=(l.take i).flatMap V.cells++x.cells++(l.drop i).flatMap V.cells:=by simp[TS,SS]
 have ep:i*Z+(d.toList.take Z).length=(i+1)*Z:=by rw[t,TP]
 obtain⟨mi,mn⟩:=mulZ (Z:=Z) hi;rcases ho with⟨av,rfl⟩|⟨b,c,cur,rfl,hO,hb,O,hcm,hcs,ai,Q⟩
 ·have au:i=0:=by simpa using hi
  subst au
  obtain⟨u,rfl⟩:∃u,v0= .slice u 0 0:=by
   rcases av with rfl|⟨a,rfl⟩
   ·exact⟨none,rfl⟩
   ·exact⟨some a,rfl⟩
  obtain⟨c',z,k,D,aj,ad⟩:=el.app u 0 0 vb vc [] d w (QV _) Aa Aa (λ_=>⟨rfl,rfl⟩) (λa h j v hj=>by simp at hj) (Nat.zero_mul Z).symm hv H
  refine(an u 0 0 c' vb vc _ w (QV _) Aa Aa (λ_=>⟨rfl,rfl⟩) ad).mono ?_;rintro e w' ⟨rfl,rfl⟩;have J:∀y∈([x] :List V),y.cells.length=(T.row E).size:=λy hy=>by rw[QW.1 hy];exact ah
  have mc:=mulZ (Z:=Z) k;refine jM (L:=[x]) (n:=0+1) hE al rfl J ?_ U5 ?_ k D h2 h3 (.inr (QV _)) (λq hq _=>?_) Em rfl rfl rfl
  ·rw[A]
   have e2:((([] :List Value).toArray++(d.toList.take Z).toArray++z).toList.take ((0+1)*Z))=d.toList.take Z:=by
    simp only[Array.toList_append,Uc];rw[List.take_append_of_le_length (by rw[t];omega)]
    exact Ug (by rw[t];omega)
   rw[e2];simpa using aa
  ·rw[A]
   simp only[UE,Tf,t,aj,SL];rw[mc.2];omega
  ·exact LU
 ·rw[A]at hcs Q
  have M:cur.toList.length=c*Z:=GX;have ac:=ai
  rw[A]at ac;have a0:b<w.heap.size:=(Rj.1 hb).1;have aw:vb≠b:=by rintro rfl;rw[hvO]at hO;cases hO
  have J:∀y∈l.take i++x::l.drop i,y.cells.length=(T.row E).size:=λy hy=>by
   rcases QX.1 hy with h|h
   ·exact ai y (RG h)
   ·rcases Rh.1 h with rfl|h
    ·exact ah
    ·exact ai y (Rz h)
  obtain⟨f1,f2⟩:=xW ac hi;have a2:=(mulZ (Z:=Z) O).1
  have hA:RvL w G (cur.toList.take (i*Z)) ((l.take i).flatMap V.cells):=by
   have:=aM1 Q (i*Z);rw[UW,UA mi,f1]at this;exact this
  have hM:RvL w G ((cur.toList.drop (i*Z)).take ((l.length-i)*Z)) ((l.drop i).flatMap V.cells):=by
   have:=aL4 Q (i*Z);rw[f2,UX,<-mn]at this;exact this
  have ag:((cur.toList.drop (i*Z)).take ((l.length-i)*Z)).length=(l.length-i)*Z:=by rw[QZ,RU,M,mn];omega
  have hX:RvL w G (cur.toList.take (i*Z)++d.toList.take Z++(cur.toList.drop (i*Z)).take ((l.length-i)*Z)) ((l.take i++x::l.drop i).flatMap V.cells):=by
   rw[af];exact oH (oH hA aa) hM
  have et:i*Z+(d.toList.take Z).length+((cur.toList.drop (i*Z)).take ((l.length-i)*Z)).length=(l.length+1)*Z:=by rw[ag,t,mn,TP];omega
  have ab:c<=9223372036854775807:=Gu;have U:(l.length+1)*Z=l.length*Z+(d.toList.take Z).length:=by rw[t,TP]
  by_cases g:l.length+1<=c
  ·have mr:=(mulZ (Z:=Z) g).1
   by_cases W:i<l.length
   ·refine(r b l.length c i vb vc cur d w W g ab aw hb hv hcs H Q.one P).mono ?_
    rintro e w' ⟨rfl,rfl⟩;have r:=lay_size (cur:=cur) (o:=(i+1)*Z) (vs:=(cur.toList.drop (i*Z)).take ((l.length-i)*Z)) (by rw[<-ep,hcs];omega)
    refine jM hE Y C J (X:=lay (lay cur ((i+1)*Z) ((cur.toList.drop (i*Z)).take ((l.length-i)*Z))) (i*Z) (d.toList.take Z)) ?_ (TB _ b _ _ _ _ (TB w.drew b cur _ _ _ hb)) ?_ g hcm h2 h3 (.inl hO) (λq hq m=>?_) ?_ rfl rfl rfl
    ·rw[A,<-et,<-ep,layA (by rw[et,hcs];exact mr)]
     exact hX
    ·rw[lay_size (by rw[r,hcs];omega),r,hcs,A]
    ·rw[Ti _ b q _ m,Ti _ b q _ m];rfl
    ·rw[size_setRow,size_setRow];exact QV _
   ·have N:i=l.length:=by omega
    subst N;refine(ay b l.length c vb vc cur d w g ab hb hv hcs H P).mono ?_;rintro e w' ⟨rfl,rfl⟩;refine jM hE Y C J (X:=lay cur (l.length*Z) (d.toList.take Z)) ?_ (TB w b cur _ _ _ hb) ?_ g hcm h2 h3 (.inl hO) (λq hq m=>?_) ?_ rfl rfl rfl
    ·rw[A]
     have e0:(cur.toList.drop (l.length*Z)).take ((l.length-l.length)*Z)=[] :=RH.1 (by rw[ag];omega)
     rw[e0,Rn]at hX;rw[U,layC (by rw[<-U,hcs];exact mr)]
     exact hX
    ·rw[lay_size (by rw[<-U,hcs];exact mr),hcs,A]
    ·rw[Ti _ b q _ m]
    ·rw[size_setRow];exact QV _
  ·have f:c<l.length+1:=by omega
   by_cases W:i<l.length
   ·obtain⟨c',R,k,D,K,ar,ax⟩:=el.zeros W O f hl hb hcs
    obtain⟨hN,aq⟩:=el.nw w R;refine(az b l.length c c' i vb vc cur d R w W O f hl k D hb hv hcs K H Q.one P ax).mono ?_;rintro e w' ⟨rfl,rfl⟩;have mc:=(mulZ (Z:=Z) k).1;have r:=lay_size (cur:=R) (o:=i*Z) (vs:=d.toList.take Z) (by rw[K];omega)
    refine jM hE Y C J ?_ (TB (World.drew _) w.heap.size _ _ _ _ (TB _ w.heap.size R _ _ _ hN)) ?_ k D h2 h3 (.inr (QV _)) (λq hq m=>?_) ?_ rfl rfl rfl
    ·rw[A,<-et,<-ep,layB (by rw[et,K];exact mc),ar]
     exact hX
    ·rw[lay_size (by rw[r,K,<-ep];omega),r,K,A]
    ·rw[Ti _ _ q _ m]
     exact(Ti _ _ q _ m).trans (aq q hq)
    ·rw[size_setRow]
     exact Ro (Nat.le_succ _) (Nat.le_of_eq ((size_setRow _ _ _).trans (Array.size_push _)).symm)
   ·have N:i=l.length:=by omega
    subst N;have ae:(cur.toList.take (l.length*Z)).length=l.length*Z:=by rw[QZ,M];omega
    obtain⟨c',z,k,D,aj,ad⟩:=el.app (some ⟨b,0,none⟩) l.length c vb vc (cur.toList.take (l.length*Z)) d w O f hl (λh=>Ah) (λa ha j v hj=>by cases ha;exact cell_take hb hj) ae hv H
    refine(an (some ⟨b,0,none⟩) l.length c c' vb vc _ w O f hl (λh=>Ah) ad).mono ?_;rintro e w' ⟨rfl,rfl⟩;have mc:=mulZ (Z:=Z) k
    refine jM hE Y C J ?_ U5 ?_ k D h2 h3 (.inr (QV _)) (λq hq _=>?_) Em rfl rfl rfl
    ·rw[A]
     have e0:(cur.toList.drop (l.length*Z)).take ((l.length-l.length)*Z)=[] :=RH.1 (by rw[ag];omega)
     rw[e0,Rn]at hX
     have e2:(((cur.toList.take (l.length*Z)).toArray++(d.toList.take Z).toArray++z).toList.take ((l.length+1)*Z))=cur.toList.take (l.length*Z)++d.toList.take Z:=by
      simp only[Array.toList_append];exact uI (by rw[ae,U])
     rw[e2];exact hX
    ·rw[A]
     simp only[UE,Tf,t,aj,ae];rw[mc.2];omega
    ·exact LU
end Go.Proofs.Led
namespace Go.Proofs.Led
open Go Go.Proofs Go.Ab Go.RowKit Go.Lib
theorem elP:ElT 47 71 9 104:=⟨Tryz.underlying47,Q9 Ac,Ac,Ac,Ai,Ai⟩
theorem ovP:OvT 172 71:=λw b vb i g f vc cur a d hb hv c=>by
 rw[U8 Tryz.func172 Ac Ac Ac (e:=Extern.SlicesOverlaps.overlaps #[47,47] #[4]) Ac,
  Lib.run_overlaps_apart w 47 4 71 Tryz.underlying47 9 Tryz.sizeOf71 ⟨vb,0,none⟩ ⟨b,i,none⟩ 1 vc g f d 71 71 a.size cur.size FN FO c Ce Ce]
 rfl
theorem insP_all:InsShift 124 71 9/\InsEnd 124 71 9/\InsEndG 124 47 71/\InsGrow 124 47 71 9:=by
 have el:=elP;have U:=ovP
 have fF:=Tryz.func124;have nF:=Tryz.ntmps124
 have zE:=Tryz.sizeOf71;have uS:=Rw Tryz.underlying47
 have V:=S9;have W:=Tn;have Y:=Rw S9;have Z:=Rw Tn
 have mixed:=mixed;refine⟨?_,?_,?_,?_⟩
 ·intro b n c i vb vc cur e w hi hroom o hvb hb hv hbs hvs s h2
  have E:=λT S M=>U w b vb T S M vc cur e hvb hb hv Aa;obtain⟨X1,d,q,hcp2⟩:=el.shift (b:=b) (vb:=vb) (vc:=vc) hi hroom hbs hvs s h2;rw[<-d];clear d;have H:IntKind.i64.wrap ((i:Int)+1)=(i:Int)+1:=Aw
  have I:IntKind.i64.wrap ((n:Int)+1)=(n:Int)+1:=Aw;have J:¬((i:Int)=(n:Int)):=Aa
  have v:(0:Int)<=(i:Int)+1:=Aa;have G:((i:Int)+1).toNat=i+1:=Aa
  have L:((n:Int)+1).toNat=n+1:=Aa;have C:i<=n:=Aa
  have x:¬(c=i+1):=Aa;have y:(i:Int)<=(n:Int)+1:=Aa
  have z:¬(c=i):=Aa;have A:¬((c:Int)< (n:Int)+1):=Aa
  go_enter fF,nF
  go_wp2_with (simp only[E])
  have l:=q w.drew _ _ (n-i) (n+1-i) 3 (c- (i+1)) (c-i) hb rfl rfl Dp
  try simp only[Uo]at l
  go_region_law_o (refine step_copy_runI rfl _ _ _ _ rfl _ _ A7 A7 l ?_)
  exact Nu
 ·intro b n c vb vc cur e w hroom o hb hv hbs hvs h2
  exact N8
 ·intro k n c j vb vc X w r hroom m hn hA
  go_enter fF,nF
  cases k with
  |none=>exact IZ
  |some a=>exact Ja
 ·intro b n c j i vb vc cur e R w hi r hroom m B hle hb hv hbs u hvs s h2 F
  have hbw:b<w.heap.size:=(Rj.1 hb).1;have hvw:vb<w.heap.size:=(Rj.1 hv).1
  obtain⟨X1,d,f,g⟩:=el.grow (b:=b) (vb:=vb) (vc:=vc) (N:=w.heap.size) hi r B hbs u hvs s h2;obtain⟨t,hO⟩:=el.nw w R;have hA:=f _ _ (n+1-i) 3 (j-i) t FC rfl Aa;have K:=g ((World.setRow _ w.heap.size X1).drew) _ _ (n-i) (n-i) 3 (j- (i+1)) (c-i) (TB _ w.heap.size R X1 _ _ t) ((Ti _ w.heap.size b X1 Aa).trans FP) rfl rfl (Nat.min_self _)
  rw[<-d];clear d f g t hO;have H:IntKind.i64.wrap ((i:Int)+1)=(i:Int)+1:=Aw;have I:IntKind.i64.wrap ((n:Int)+1)=(n:Int)+1:=Aw
  have Q:IntKind.i64.wrap ((n:Int)+1- (i:Int))=(n:Int)+1- (i:Int):=Aw;have J:¬((i:Int)=(n:Int)):=Aa
  have v:(0:Int)<=(i:Int)+1:=Aa;have G:((i:Int)+1).toNat=i+1:=Aa
  have C:i<=n:=Aa;have x:¬(j=i+1):=Aa
  have y:(i:Int)<=(n:Int)+1:=Aa;have z:¬(c=i):=Aa
  have A:(c:Int)< (n:Int)+1:=Aa;have O:¬(j=i):=Aa
  have P:(i:Int)<=(c:Int):=Aa;have D:j<=9223372036854775807:=EG
  try simp only[Uo]at hA K
  go_enter fF,nF
  go_wp2_with (first|simp only[hA,Rt] |(at_builtin;refine Lib.wpList_append_run _ rfl _ _ _ _ rfl _ _ rfl rfl _ _ (F _) ?_))
  go_region_law_o (refine step_copy_runI rfl _ _ _ _ rfl _ _ A7 A7 K ?_)
  go_wp2
  go_ret
  first|exact⟨rfl,rfl⟩|exact⟨rfl,Be⟩
theorem dO8(l:List V)(x:V)(i:Nat)(hi:i<=l.length)(a:l.length<=1000000000):Sp 124 [.own 71 l,I i, .own 71 [x]] (.own 71 (l.take i++x::l.drop i)):=
 ins_gen elP Ac insP_all.1 insP_all.2.1 insP_all.2.2.1 insP_all.2.2.2 l x i hi a
theorem elS:ElT 46 86 14 216:=⟨Ux,Q9 Ac,Ac,Ac,Ai,Ai⟩
theorem ovS:OvT 213 86:=λw b vb i g f vc cur a d hb hv c=>by
 rw[U8 Tryz.func213 Ac Ac Ac (e:=Extern.SlicesOverlaps.overlaps #[46,46] #[4]) Ac,
  Lib.run_overlaps_apart w 46 4 86 Ux 14 Tryz.sizeOf86 ⟨vb,0,none⟩ ⟨b,i,none⟩ 1 vc g f d 86 86 a.size cur.size FN FO c Ce Ce]
 rfl
theorem insS_all:InsShift 169 86 14/\InsEnd 169 86 14/\InsEndG 169 46 86/\InsGrow 169 46 86 14:=by
 have el:=elS;have U:=ovS
 have fF:=Tryz.func169;have nF:=Tryz.ntmps169
 have zE:=Tryz.sizeOf86;have uS:=Rw Ux
 have V:=S9;have W:=Tn;have Y:=Rw S9;have Z:=Rw Tn
 have mixed:=mixed;refine⟨?_,?_,?_,?_⟩
 ·intro b n c i vb vc cur e w hi hroom o hvb hb hv hbs hvs s h2
  have E:=λT S M=>U w b vb T S M vc cur e hvb hb hv Aa;obtain⟨X1,d,q,hcp2⟩:=el.shift (b:=b) (vb:=vb) (vc:=vc) hi hroom hbs hvs s h2;rw[<-d];clear d;have H:IntKind.i64.wrap ((i:Int)+1)=(i:Int)+1:=Aw
  have I:IntKind.i64.wrap ((n:Int)+1)=(n:Int)+1:=Aw;have J:¬((i:Int)=(n:Int)):=Aa
  have v:(0:Int)<=(i:Int)+1:=Aa;have G:((i:Int)+1).toNat=i+1:=Aa
  have L:((n:Int)+1).toNat=n+1:=Aa;have C:i<=n:=Aa
  have x:¬(c=i+1):=Aa;have y:(i:Int)<=(n:Int)+1:=Aa
  have z:¬(c=i):=Aa;have A:¬((c:Int)< (n:Int)+1):=Aa
  go_enter fF,nF
  go_wp2_with (simp only[E])
  have l:=q w.drew _ _ (n-i) (n+1-i) 3 (c- (i+1)) (c-i) hb rfl rfl Dp
  try simp only[Uo]at l
  go_region_law_o (refine step_copy_runI rfl _ _ _ _ rfl _ _ A7 A7 l ?_)
  exact Nu
 ·intro b n c vb vc cur e w hroom o hb hv hbs hvs h2
  exact N8
 ·intro k n c j vb vc X w r hroom m hn hA
  go_enter fF,nF
  cases k with
  |none=>exact IZ
  |some a=>exact Ja
 ·intro b n c j i vb vc cur e R w hi r hroom m B hle hb hv hbs u hvs s h2 F
  have hbw:b<w.heap.size:=(Rj.1 hb).1;have hvw:vb<w.heap.size:=(Rj.1 hv).1
  obtain⟨X1,d,f,g⟩:=el.grow (b:=b) (vb:=vb) (vc:=vc) (N:=w.heap.size) hi r B hbs u hvs s h2;obtain⟨t,hO⟩:=el.nw w R;have hA:=f _ _ (n+1-i) 3 (j-i) t FC rfl Aa;have K:=g ((World.setRow _ w.heap.size X1).drew) _ _ (n-i) (n-i) 3 (j- (i+1)) (c-i) (TB _ w.heap.size R X1 _ _ t) ((Ti _ w.heap.size b X1 Aa).trans FP) rfl rfl (Nat.min_self _)
  rw[<-d];clear d f g t hO;have H:IntKind.i64.wrap ((i:Int)+1)=(i:Int)+1:=Aw;have I:IntKind.i64.wrap ((n:Int)+1)=(n:Int)+1:=Aw
  have Q:IntKind.i64.wrap ((n:Int)+1- (i:Int))=(n:Int)+1- (i:Int):=Aw;have J:¬((i:Int)=(n:Int)):=Aa
  have v:(0:Int)<=(i:Int)+1:=Aa;have G:((i:Int)+1).toNat=i+1:=Aa
  have C:i<=n:=Aa;have x:¬(j=i+1):=Aa
  have y:(i:Int)<=(n:Int)+1:=Aa;have z:¬(c=i):=Aa
  have A:(c:Int)< (n:Int)+1:=Aa;have O:¬(j=i):=Aa
  have P:(i:Int)<=(c:Int):=Aa;have D:j<=9223372036854775807:=EG
  try simp only[Uo]at hA K
  go_enter fF,nF
  go_wp2_with (first|simp only[hA,Rt] |(at_builtin;refine Lib.wpList_append_run _ rfl _ _ _ _ rfl _ _ rfl rfl _ _ (F _) ?_))
  go_region_law_o (refine step_copy_runI rfl _ _ _ _ rfl _ _ A7 A7 K ?_)
  go_wp2
  go_ret
  first|exact⟨rfl,rfl⟩|exact⟨rfl,Be⟩
theorem dL7(l:List V)(x:V)(i:Nat)(hi:i<=l.length)(a:l.length<=1000000000):Sp 169 [.own 86 l,I i, .own 86 [x]] (.own 86 (l.take i++x::l.drop i)):=
 ins_gen elS Ac insS_all.1 insS_all.2.1 insS_all.2.2.1 insS_all.2.2.2 l x i hi a
theorem elZ:ElT 48 3 1 8:=⟨Tryz.underlying48,Q9 Ac,Ac,Ac,Ai,Ai⟩
theorem ovZ:OvT 209 3:=λw b vb i g f vc cur a d hb hv c=>by
 rw[U8 Tryz.func209 Ac Ac Ac (e:=Extern.SlicesOverlaps.overlaps #[48,48] #[4]) Ac,
  Lib.run_overlaps_apart w 48 4 3 Tryz.underlying48 1 Tryz.sizeOf3 ⟨vb,0,none⟩ ⟨b,i,none⟩ 1 vc g f d 3 3 a.size cur.size FN FO c Ce Ce]
 rfl
theorem insZ_all:InsShift 164 3 1/\InsEnd 164 3 1/\InsEndG 164 48 3/\InsGrow 164 48 3 1:=by
 have el:=elZ;have U:=ovZ
 have fF:=Tryz.func164;have nF:=Tryz.ntmps164
 have zE:=Tryz.sizeOf3;have uS:=Rw Tryz.underlying48
 have V:=S9;have W:=Tn;have Y:=Rw S9;have Z:=Rw Tn
 have mixed:=mixed;refine⟨?_,?_,?_,?_⟩
 ·intro b n c i vb vc cur e w hi hroom o hvb hb hv hbs hvs s h2
  have E:=λT S M=>U w b vb T S M vc cur e hvb hb hv Aa;obtain⟨X1,d,q,hcp2⟩:=el.shift (b:=b) (vb:=vb) (vc:=vc) hi hroom hbs hvs s h2;rw[<-d];clear d;have H:IntKind.i64.wrap ((i:Int)+1)=(i:Int)+1:=Aw
  have I:IntKind.i64.wrap ((n:Int)+1)=(n:Int)+1:=Aw;have J:¬((i:Int)=(n:Int)):=Aa
  have v:(0:Int)<=(i:Int)+1:=Aa;have G:((i:Int)+1).toNat=i+1:=Aa
  have L:((n:Int)+1).toNat=n+1:=Aa;have C:i<=n:=Aa
  have x:¬(c=i+1):=Aa;have y:(i:Int)<=(n:Int)+1:=Aa
  have z:¬(c=i):=Aa;have A:¬((c:Int)< (n:Int)+1):=Aa
  go_enter fF,nF
  go_wp2_with (simp only[E])
  have l:=q w.drew _ _ (n-i) (n+1-i) 3 (c- (i+1)) (c-i) hb rfl rfl Dp
  try simp only[Uo]at l
  go_region_law_o (refine step_copy_runI rfl _ _ _ _ rfl _ _ A7 A7 l ?_)
  exact Nu
 ·intro b n c vb vc cur e w hroom o hb hv hbs hvs h2
  exact N8
 ·intro k n c j vb vc X w r hroom m hn hA
  go_enter fF,nF
  cases k with
  |none=>exact IZ
  |some a=>exact Ja
 ·intro b n c j i vb vc cur e R w hi r hroom m B hle hb hv hbs u hvs s h2 F
  have hbw:b<w.heap.size:=(Rj.1 hb).1;have hvw:vb<w.heap.size:=(Rj.1 hv).1
  obtain⟨X1,d,f,g⟩:=el.grow (b:=b) (vb:=vb) (vc:=vc) (N:=w.heap.size) hi r B hbs u hvs s h2;obtain⟨t,hO⟩:=el.nw w R;have hA:=f _ _ (n+1-i) 3 (j-i) t FC rfl Aa;have K:=g ((World.setRow _ w.heap.size X1).drew) _ _ (n-i) (n-i) 3 (j- (i+1)) (c-i) (TB _ w.heap.size R X1 _ _ t) ((Ti _ w.heap.size b X1 Aa).trans FP) rfl rfl (Nat.min_self _)
  rw[<-d];clear d f g t hO;have H:IntKind.i64.wrap ((i:Int)+1)=(i:Int)+1:=Aw;have I:IntKind.i64.wrap ((n:Int)+1)=(n:Int)+1:=Aw
  have Q:IntKind.i64.wrap ((n:Int)+1- (i:Int))=(n:Int)+1- (i:Int):=Aw;have J:¬((i:Int)=(n:Int)):=Aa
  have v:(0:Int)<=(i:Int)+1:=Aa;have G:((i:Int)+1).toNat=i+1:=Aa
  have C:i<=n:=Aa;have x:¬(j=i+1):=Aa
  have y:(i:Int)<=(n:Int)+1:=Aa;have z:¬(c=i):=Aa
  have A:(c:Int)< (n:Int)+1:=Aa;have O:¬(j=i):=Aa
  have P:(i:Int)<=(c:Int):=Aa;have D:j<=9223372036854775807:=EG
  try simp only[Uo]at hA K
  go_enter fF,nF
  go_wp2_with (first|simp only[hA,Rt] |(at_builtin;refine Lib.wpList_append_run _ rfl _ _ _ _ rfl _ _ rfl rfl _ _ (F _) ?_))
  go_region_law_o (refine step_copy_runI rfl _ _ _ _ rfl _ _ A7 A7 K ?_)
  go_wp2
  go_ret
  first|exact⟨rfl,rfl⟩|exact⟨rfl,Be⟩
theorem dM5(l:List V)(x:V)(i:Nat)(hi:i<=l.length)(a:l.length<=1000000000):Sp 164 [.own 3 l,I i, .own 3 [x]] (.own 3 (l.take i++x::l.drop i)):=
 ins_gen elZ Ac insZ_all.1 insZ_all.2.1 insZ_all.2.2.1 insZ_all.2.2.2 l x i hi a
end Go.Proofs.Led
