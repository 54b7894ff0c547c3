/-
  The inventory: what is left of a stock.
-/
import Derived.Test.YtdjgbagnajikeaaGreatDoorB4
import Derived.Laws.CopyRow
import Derived.Lib.AppendZerosOnto
import Derived.Lib.Overlaps
import Derived.Laws.Externs
import Derived.Laws.IdiomCopy
import Derived.Shelf.Spec.SlicesInsert
set_option linter.unusedVariables false
set_option linter.unusedSimpArgs false
set_option maxRecDepth 1000000
set_option maxHeartbeats 4000000
noncomputable section
namespace Go.Proofs.Led
open Go Go.Proofs Go.Ab
theorem eqBx(a b c d e i f g:Int):eqT T 4 99 [I a,I b,I c,I d] [I e,I i,I f,I g] =some (andB (andB (eqB a e) (andB (eqB b i) true)) (andB (andB (eqB c f) (andB (eqB d g) true)) true)):=Ac
theorem cC5{a b c d e i f g:Int}{K:Bool->Prop}(h:K (andB (andB (eqB a e) (andB (eqB b i) true)) (andB (andB (eqB c f) (andB (eqB d g) true)) true))):aL1.match_1 (λ_=>Prop) (eqT T 4 99 [I a,I b,I c,I d] [I e,I i,I f,I g]) K (λ_=>False):=by
 rw[eqBx];exact h
theorem eV4{a b:Bx}:andB (andB (eqB a.1.1 b.1.1) (andB (eqB a.1.2 b.1.2) true)) (andB (andB (eqB a.2.1 b.2.1) (andB (eqB a.2.2 b.2.2) true)) true)=true↔a=b:=by
 obtain⟨⟨e,f⟩,⟨g,c⟩⟩:=a;obtain⟨⟨h,d⟩,⟨j,i⟩⟩:=b;simp_all [QN,aA1,Uo,andB]
theorem cA4{a b:Bx}{A B:Prop}(d:a=b->A)(c:a≠b->B):branch (andB (andB (eqB a.1.1 b.1.1) (andB (eqB a.1.2 b.1.2) true)) (andB (andB (eqB a.2.1 b.2.1) (andB (eqB a.2.2 b.2.2) true)) true)) A B:=
 jU (λh=>d (eV4.1 h)) (λh=>c (λe=>by rw[eV4.2 e]at h;cases h))
def bx0:Bx:=((0,0),(0,0))
def aH0(r:Rest)(d:Iv):List Iv:=if max d.1 r.lo<min d.2 r.hi then [(W (max d.1 r.lo-r.lo),W (min d.2 r.hi-r.lo))]else []
def kH(r:Rest)(l:List Iv):List Iv:=l.flatMap (aH0 r)
theorem cK9(r:Rest)(D:List Iv)(d:Iv):kH r (D++[d])=kH r D++aH0 r d:=by unfold kH;simp
theorem aG5(r:Rest):∀D:List Iv,(kH r D).length<=D.length
 | [] =>QH _
 |d::D=>by
  have h:=aG5 r D;grind [RZ,QG,QM,aH0,kH]
def iG(x:aN)(r:Rest):Int:=
 if x.isBar=false then(if r.lo≠0\/r.hi≠0 then 1 else remE x.sheet r.box r.id)
 else if r.box≠bx0 then 1 else if r.lo<0\/r.hi<=r.lo\/x.bar.length<r.hi then 2 else 0
def dZ(x:aN)(r:Rest):aN:=
 if x.isBar=false then(if r.lo≠0\/r.hi≠0 then wS else⟨false,remS x.sheet r.box r.id,bar0,aI⟩)
 else if iG x r=0 then⟨true,dN,⟨r.id,x.bar.grade,x.bar.heat,W (r.hi-r.lo),kH r x.bar.defects⟩,aI⟩else wS
abbrev dA5:List V:=[B false,I 0,S aI,S aI,I 0,nilV,nilV,nilV,I 0,S aI,S aI,I 0,nilV,S aI]
def aB6(c:List V)(br:Bar)(r:Rest)(X:List Iv)(n:Int):St:=match X with
 | [] =>mkSt [(2, .box 2 0),(3, .box 3 0),(4, .box 4 0),(8, .box 8 0),(78, .sl (br.defects.map ivV)),(79,I br.defects.length),(80,I n)]
   [(2,c),(3,(bY r).cells),(4,dA5),(8,[I r.id,S br.grade,S br.heat,I (W (r.hi-r.lo)),nilV])] []
 |y::X=>mkSt [(2, .box 2 0),(3, .box 3 0),(4, .box 4 0),(8, .box 8 0),(78, .sl (br.defects.map ivV)),(79,I br.defects.length),(80,I n)]
  [(2,c),(3,(bY r).cells),(4,dA5),(8,[I r.id,S br.grade,S br.heat,I (W (r.hi-r.lo)), .arr 109 X.length])] [(109,⟨X.length, .own,49,(y::X).map ivV⟩)]
theorem dL8(x:aN)(r:Rest)(m:eY x):Sp 165 [aQ x,bY r] (.tup [aQ (dZ x r),I (iG x r)]):=by
 refine zsp Tryz.func165 ?_;have o:=cD5 x.sheet r.box r.id m.1
 cases hb:x.isBar with
 |false=>exact IK
 |true=>
  have i:¬x.isBar=false:=by rw[hb];decide
  have c1:¬(x.isBar=false):=i;by_cases c2:r.box=bx0;rotate_left
  ·have e1:iG x r=1:=by unfold iG;rw[Q5 c1,Q9 c2]
   have e2:dZ x r=wS:=BJ;rw[e1,e2];obtain⟨b,s,br,p⟩:=x;cases hb
   repeat' ((conv=>whnf);first|(exfalso;contradiction)|refine cC5 ?_|refine cA4 (a:=r.box) (b:=bx0) (λhv=>?_) (λhv=>?_)|refine zS ?_|fail)
   all_goals exact zE
  by_cases c3:r.lo<0\/r.hi<=r.lo\/x.bar.length<r.hi
  ·have e1:iG x r=2:=by unfold iG;rw[Q5 c1,Q5 (λh=>h c2),Q9 c3]
   have e2:dZ x r=wS:=BJ;rw[e1,e2];obtain⟨b,s,br,p⟩:=x;cases hb;exact Ol
  have e1:iG x r=0:=Ej;have e2:dZ x r=⟨true,dN,⟨r.id,x.bar.grade,x.bar.heat,W (r.hi-r.lo),kH r x.bar.defects⟩,aI⟩:=by unfold dZ;rw[Q5 c1,Q9 e1]
  rw[e1,e2];have hl:(x.bar.defects.map ivV).length=x.bar.defects.length:=Ae;have j:=m.2
  obtain⟨b,s,br,p⟩:=x;cases hb
  repeat' ((conv=>whnf);first|(exfalso;contradiction)|omega|refine cC5 ?_|refine cA4 (a:=r.box) (b:=bx0) (λhv=>?_) (λhv=>?_)|refine zS ?_|refine zT ?_ ?_<;>intro _|fail)
  all_goals conv=>whnf
  clear e1 e2 o;simp only at hl j c3;refine aU (A:=List Iv) (B:=List Iv) (λD R=>aB6 (gB ⟨true,s,br,p⟩) br r (kH r D) D.length) (λD R=>br.defects=D++R) (λD R=>R.length) [] br.defects ?_ rfl (λD R hp=>?_)
  ·show Le T _ (aB6 (gB ⟨true,s,br,p⟩) br r [] 0)
   exact Nv
  have n:=aG5 r D
  cases R with
  |nil=>exact Kr
  |cons d R=>
   have hlen:=aO hp;have c:=cK9 r D d
   have f:((D++[d]).length:Int)=(D.length:Int)+1:=Ae;generalize kH r D=X at*;by_cases l:max d.1 r.lo<min d.2 r.hi
   ·have g:aH0 r d=[(W (maxI d.1 r.lo-r.lo),W (minI d.2 r.hi-r.lo))] :=by unfold aH0;rw[Q9 l,mG,lH]
    rw[g]at c
    cases X with
    |nil=>
     repeat' ((conv=>whnf);first|omega|(exfalso;simp only[mG,lH]at*;omega)|refine gX (QC rfl) (dA rfl) (QC rfl) ?_|refine zS ?_|refine zT ?_ ?_<;>intro _|fail)
     all_goals conv=>whnf
     refine⟨(D++[d],R),?_,Ad,Ae⟩;show Le T _ (aB6 (gB ⟨true,s,br,p⟩) br r (kH r (D++[d])) (D++[d]).length);rw[c,f];show Le T _ (aB6 (gB ⟨true,s,br,p⟩) br r [_] _);exact zj
    |cons y X=>
     have k:(y::X).length=X.length+1:=rfl
     repeat' ((conv=>whnf);first|omega|(exfalso;simp only[mG,lH]at*;omega)|refine iH rfl (.inl rfl) rfl (QC rfl) (dA rfl) (show((y::X).map ivV).length+1<=1000000000 from DC) ?_|refine zS ?_|refine zT ?_ ?_<;>intro _|fail)
     all_goals conv=>whnf
     refine⟨(D++[d],R),?_,Ad,Ae⟩;show Le T _ (aB6 (gB ⟨true,s,br,p⟩) br r (kH r (D++[d])) (D++[d]).length);rw[c,f];show Le T _ (aB6 (gB ⟨true,s,br,p⟩) br r (y::(X++[_])) _);unfold aB6;exact Nj
   ·have g:aH0 r d=[] :=by unfold aH0;rw[Q5 l]
    rw[g,QU]at c
    cases X with
    |nil=>
     repeat' ((conv=>whnf);first|omega|(exfalso;simp only[mG,lH]at*;omega)|refine zS ?_|refine zT ?_ ?_<;>intro _|fail)
     all_goals conv=>whnf
     refine⟨(D++[d],R),?_,Ad,Ae⟩;show Le T _ (aB6 (gB ⟨true,s,br,p⟩) br r (kH r (D++[d])) (D++[d]).length);rw[c,f];show Le T _ (aB6 (gB ⟨true,s,br,p⟩) br r [] _);exact zj
    |cons y X=>
     have k:(y::X).length=X.length+1:=rfl
     repeat' ((conv=>whnf);first|omega|(exfalso;simp only[mG,lH]at*;omega)|refine zS ?_|refine zT ?_ ?_<;>intro _|fail)
     all_goals conv=>whnf
     refine⟨(D++[d],R),?_,Ad,Ae⟩;show Le T _ (aB6 (gB ⟨true,s,br,p⟩) br r (kH r (D++[d])) (D++[d]).length);rw[c,f];show Le T _ (aB6 (gB ⟨true,s,br,p⟩) br r (y::X) _);exact zj
theorem aO4{a:Type}{f:a->V}(h:∀x,(f x).pure)(l:List a):bM (l.map f):=aH.2 λy b=>by
 obtain⟨x,_,rfl⟩:=QZ.1 b;exact h x
theorem eO3(v:Vc):(vcV v).pure:=by simp only[vcV,V.pure,V.ok,V.okL,I,and_self]
theorem bF3(r:Rg):(rgV r).pure:=by
 show V.okL _ _ _;exact aO4 eO3 r
theorem cJ9(l:List Rg):bM (l.map rgV):=aO4 bF3 l
theorem eR4(s:Sh):(shV s).pure:=by
 show V.okL _ _ _;exact⟨bF3 s.outer,by show V.okL _ _ _;exact cJ9 s.holes,trivial⟩
theorem eS7(d:Iv):(ivV d).pure:=by simp only[ivV,V.pure,V.ok,V.okL,I,and_self]
theorem cV5(x:aN):bM (gB x):=by
 unfold gB;refine⟨trivial,trivial,trivial,trivial,trivial,bF3 _,?_,?_,trivial,trivial,trivial,trivial,?_,trivial,trivial⟩
 ·show V.okL _ _ _;exact cJ9 _
 ·show V.okL _ _ _;exact aO4 eR4 _
 ·show V.okL _ _ _;exact aO4 eS7 _
theorem bZ6{σ:St}{i:Nat}{cs:List V}(hi:σ.bx i=some cs)(c:i<100000)(b:bM cs):Le T σ ⟨λs=>(σ.env s).frz i cs,frzB i cs σ.bx,σ.ar⟩:=by
 unfold Le;intro Φ a w G inv;exact⟨_,(inv.bV0 hi c b).1⟩
def kP(b:Bool)(p q:Rest):Prop:=
 if b=true then max p.lo q.lo<min p.hi q.hi
 else max p.box.1.1 q.box.1.1<min p.box.2.1 q.box.2.1/\max p.box.1.2 q.box.1.2<min p.box.2.2 q.box.2.2
theorem bW5(b:Bool)(p q:Rest):Sp 168 [B b,bY p,bY q] (DB (kP b p q)):=by
 refine zsp Tryz.func168 ?_
 cases b with
 |true=>exact J6
 |false=>exact IW
theorem cO8(x:aN)(r q:Rest):Sp 167 [bY q, .fp (gB x), .fp (bY r).cells] (DB (kP x.isBar q r)):=by
 refine zsp Tryz.func167 ?_;have a:=bW5 x.isBar q r
 repeat' ((conv=>whnf);first|refine zS ?_|fail)
 all_goals conv=>whnf
 all_goals exact aA rfl
theorem eX4{g:FuncId}{c d:List V}{Q:Rest->Prop}(hg:∀m,Sp g (bY m:: [.fp c, .fp d]) (DB (Q m)))(l:List Rest)(b:l.length<=1000000):fnVC T Tryz.prog Tryz.f212 [.sl (l.map bY), .fn g [.fp c, .fp d]] (I (fstI Q l)):=by
 have a:(l.map bY).length=l.length:=Ae
 repeat' ((conv=>whnf);first|refine zS ?_|fail)
 refine aU (A:=List Rest) (B:=List Rest) (λD R=>mkSt [(0, .sl (l.map bY)),(1, .fn g [.fp c, .fp d]),(7,I l.length),(8,I D.length)] [] [])
  (λD R=>l=D++R/\∀m∈D,¬Q m) (λD R=>R.length) [] l ?_ ⟨rfl,Ae⟩ (λD R hp=>?_)
 ·exact zj
 ·exact Iz
theorem eA8{g:FuncId}{c d:List V}{Q:Rest->Prop}(a:∀m,Sp g (bY m:: [.fp c, .fp d]) (DB (Q m)))(l:List Rest)(b:l.length<=1000000):Sp 212 [.sl (l.map bY), .fn g [.fp c, .fp d]] (I (fstI Q l)):=zsp Tryz.func212 (eX4 a l b)
theorem fA8{g:FuncId}{c d:List V}{Q:Rest->Prop}(a:∀m,Sp g (bY m:: [.fp c, .fp d]) (DB (Q m)))(l:List Rest)(b:l.length<=1000000):fnVC T Tryz.prog Tryz.f166 [.sl (l.map bY), .fn g [.fp c, .fp d]] (DB (∃m∈l,Q m)):=by
 repeat' ((conv=>whnf);first|refine zc (eA8 a l b) ?_|refine zS ?_|fail)
 exact MW
theorem dU5{g:FuncId}{c d:List V}{Q:Rest->Prop}(a:∀m,Sp g (bY m:: [.fp c, .fp d]) (DB (Q m)))(l:List Rest)(b:l.length<=1000000):Sp 166 [.sl (l.map bY), .fn g [.fp c, .fp d]] (DB (∃m∈l,Q m)):=zsp Tryz.func166 (fA8 a l b)
def cZ(x:aN):List Rest->List Rest->Int
 |_,[] =>0
 |D,r::R=>open Classical in if iG x r≠0 then iG x r else if∃q∈D,kP x.isBar q r then 12 else cZ x (D++[r]) R
def eG(x:aN)(l:List Rest):List aN:=if cZ x [] l=0 then l.map (dZ x)else []
def cP9(x:aN)(e:Event)(D:List Rest):St:=match D with
 | [] =>mkSt [(2, .fp (gB x)),(3, .box 3 0),(6,nilV),(12, .sl (e.rests.map bY)),(13,I e.rests.length),(14,I 0)] [(3,iJ e)] []
 |d::D=>mkSt [(2, .fp (gB x)),(3, .box 3 0),(6, .arr 37 D.length),(12, .sl (e.rests.map bY)),(13,I e.rests.length),(14,I ((D.length:Int)+1))] [(3,iJ e)]
  [(37,⟨D.length, .own,86,((d::D).map (dZ x)).map aQ⟩)]
theorem cU2(x:aN)(e:Event)(G:eY x)(C:e.rests.length<=1000000):Sp 120 [aQ x,aS e] (.tup [.own 86 ((eG x e.rests).map aQ),I (cZ x [] e.rests)]):=by
 refine zsp Tryz.func120 ?_;have hl:(e.rests.map bY).length=e.rests.length:=Ae;have t:∀n,cZ x [] e.rests=n->n≠0->eG x e.rests=[] :=λn F J=>by unfold eG;rw[Q5 (by rw[F];exact J)]
 have K:cZ x [] e.rests=0->eG x e.rests=e.rests.map (dZ x):=λh=>by unfold eG;rw[Q9 h]
 generalize eG x e.rests=M at*;generalize v:cZ x [] e.rests=g at*
 repeat' ((conv=>whnf);first|refine zS ?_|fail)
 refine aU (A:=List Rest) (B:=List Rest) (λD R=>cP9 x e D) (λD R=>e.rests=D++R/\cZ x D R=g) (λD R=>R.length) [] e.rests ?_ ⟨rfl,v⟩ (λD R hp=>?_)
 ·refine Le.trans (bZ6 (i:=2) (cs:=gB x) rfl Ai (cV5 x)) ?_
  show Le T _ (cP9 x e []);exact Nv
 obtain⟨hp,j⟩:=hp
 have u:(e.rests.map bY).take D.length=D.map bY:=by
  have h:(D.map bY).length=D.length:=Ae;rw[hp,Rl,<-h];exact List.take_left
 have z:∀(n:Int) (r:Rest),n.toNat=D.length->Sp 166 [.sl (((e.rests.map bY).take n.toNat).drop (0:Int).toNat), .fn 167 [.fp (gB x), .fp (bY r).cells]] (DB (∃q∈D,kP x.isBar q r)):=λn r H=>by
  have h:=dU5 (c:=gB x) (d:=(bY r).cells) (λq=>cO8 x r q) D (by rw[hp]at C;simp at C;omega)
  rw[H,u];exact h
 cases R with
 |nil=>
  have w:e.rests=D:=Ad;have m:e.rests.length=D.length:=by rw[w]
  have y:g=0:=j.symm;have o:=K y
  rw[w]at o;subst y o
  cases D with
  |nil=>
   have f:([] :List Rest).length=0:=rfl
   repeat' ((conv=>whnf);first|omega|refine zS ?_|refine zT ?_ ?_<;>intro _|fail)
   all_goals conv=>whnf
   exact NY
  |cons d D=>
   have f:(d::D).length=D.length+1:=rfl
   repeat' ((conv=>whnf);first|omega|refine zS ?_|refine zT ?_ ?_<;>intro _|fail)
   all_goals conv=>whnf
   refine⟨_,rfl,⟨⟨rfl,rfl,rfl,rfl⟩,rfl,trivial⟩,rfl⟩
 |cons r R=>
  have m:=aO hp;have L:=dL8 x r G
  cases D with
  |nil=>
   have f:([] :List Rest).length=0:=rfl;have E:=z 0 r rfl
   by_cases b:iG x r=0;rotate_left
   ·have a:g=iG x r:=by rw[<-j,cZ,Q9 b]
    have k:=t _ rfl (by rw[a];exact b)
    subst k a
    repeat' ((conv=>whnf);first|(exfalso;contradiction)|omega|refine zS ?_|refine zT ?_ ?_<;>intro _|fail)
    all_goals conv=>whnf
    exact NY
   by_cases s:∃q∈[],kP x.isBar q r
   ·have a:g=12:=by rw[<-j,cZ,Q5 (λh=>h b),Q9 s]
    have k:=t _ rfl (by rw[a];decide)
    subst k a
    repeat' ((conv=>whnf);first|(exfalso;contradiction)|omega|refine fU ⟨Aa,Aa,Iq, .inl rfl⟩ ?_|refine zS ?_|refine zT ?_ ?_<;>intro _|fail)
    all_goals conv=>whnf
    exact NY
   ·have a:g=cZ x ([] ++[r]) R:=by rw[<-j,cZ,Q5 (λh=>h b),Q5 s]
    repeat' ((conv=>whnf);first|(exfalso;contradiction)|omega|refine fU ⟨Aa,Aa,Iq, .inl rfl⟩ ?_|refine gX (QC rfl) (dA rfl) (QC rfl) ?_|refine zS ?_|refine zT ?_ ?_<;>intro _|fail)
    all_goals conv=>whnf
    refine⟨([] ++[r],R),?_,⟨by rw[hp];rfl,a.symm⟩,Ae⟩
    show Le T _ (cP9 x e [r]);exact zj
  |cons d D=>
   have f:(d::D).length=D.length+1:=rfl;have E:=z ((D.length:Int)+1) r (by rw[f];omega)
   by_cases b:iG x r=0;rotate_left
   ·have a:g=iG x r:=by rw[<-j,cZ,Q9 b]
    have k:=t _ rfl (by rw[a];exact b)
    subst k a
    repeat' ((conv=>whnf);first|(exfalso;contradiction)|omega|refine aF (l:=e.rests) (A:=(d::D)) (x:=r) (B:=R) hp Aa ?_|refine zS ?_|refine zT ?_ ?_<;>intro _|fail)
    all_goals conv=>whnf
    exact NY
   by_cases s:∃q∈(d::D),kP x.isBar q r
   ·have a:g=12:=by rw[<-j,cZ,Q5 (λh=>h b),Q9 s]
    have k:=t _ rfl (by rw[a];decide)
    subst k a
    repeat' ((conv=>whnf);first|(exfalso;contradiction)|omega|refine aF (l:=e.rests) (A:=(d::D)) (x:=r) (B:=R) hp Aa ?_|refine fU ⟨Aa,Aa,Iq, .inl rfl⟩ ?_|refine zS ?_|refine zT ?_ ?_<;>intro _|fail)
    all_goals conv=>whnf
    exact NY
   ·have a:g=cZ x ((d::D)++[r]) R:=by rw[<-j,cZ,Q5 (λh=>h b),Q5 s]
    repeat' ((conv=>whnf);first|(exfalso;contradiction)|omega|refine aF (l:=e.rests) (A:=(d::D)) (x:=r) (B:=R) hp Aa ?_|refine fU ⟨Aa,Aa,Iq, .inl rfl⟩ ?_|refine iH rfl (.inl rfl) rfl (QC rfl) (dA rfl) (show(((d::D).map (dZ x)).map aQ).length+1<=1000000000 from DJ) ?_|refine zS ?_|refine zT ?_ ?_<;>intro _|fail)
    all_goals conv=>whnf
    refine⟨(d::D++[r],R),?_,⟨Ad,a.symm⟩,Ae⟩;show Le T _ (cP9 x e (d::(D++[r])));unfold cP9;exact Nj
def bs{α:Type}(key:α->Int)(l:List α)(t:Int):Nat:=(l.takeWhile λm=>decide (key m<t)).length
theorem dC0{b:Type}{key:b->Int}{t:Int}:∀ {l:List b} {i:Nat},i<=l.length->(∀k m,k<i->l[k]? =some m->key m<t)->(∀m,l[i]? =some m->t<=key m)->bs key l t=i
 | [],i,h,_,_=>by simp at h;subst h;rfl
 |x::r,0,_,_,h=>by
  have:=h x rfl;unfold bs;simp_all
 |x::r,i+1,hi,c,e=>by
  have f:=c 0 x Aa rfl;have d:=dC0 (l:=r) (i:=i) (by simp at hi;omega) (λk m g a=>c (k+1) m Aa a) (λm a=>e m a)
  unfold bs at d⊢;simp_all
theorem cD4{n:Int}(h:0<=n/\n<=2000000):IntKind.u64.wrap n=n:=by
 exact Q8
theorem cK6{a b:Int}:cmpI a b<0↔a<b:=DR
theorem aU8{a b:Int}:0<=cmpI a b↔b<=a:=DR
theorem bP6{a b:Int}:cmpI a b=0↔a=b:=DR
theorem bF1{i j:Nat}(h:i+j<=2000000):IntKind.i64.wrap (shrI .u64 ((i:Int)+(j:Int)) 1)=(((i+j)/2:Nat):Int):=by
 have e:shrI .u64 ((i:Int)+(j:Int)) 1=(((i+j)/2:Nat):Int):=by
  unfold shrI;show Int.fdiv _ 2=_;grind
 rw[e,IntKind.wrap_i64];omega
theorem sorted_at{c:Type}{key:c->Int}{l:List c}(f:(l.map key).Pairwise (·<·)){a b:Nat}{x y:c}(e:l[a]? =some x)(d:l[b]? =some y)(h:a<b):key x<key y:=by
 obtain⟨i,rfl⟩:=QD.1 e;obtain⟨g,rfl⟩:=QD.1 d;grind [List.pairwise_iff_getElem]
theorem eC8{c:Type}{key:c->Int}{t:Int}{l:List c}{i:Nat}(o:(l.map key).Pairwise (·<·))(n:∀k m,k<i->l[k]? =some m->key m<t)(q:∀m,l[i]? =some m->t<=key m):
 (∀m,l[i]? =some m->((∃y∈l,key y=t)↔key m=t))/\(l[i]? =none->¬∃y∈l,key y=t):=by
 refine⟨λm d=>⟨?_,λh=>⟨m,QF d,h⟩⟩,λg=>?_⟩
 ·rintro⟨y,a,e⟩
  obtain⟨k,b⟩:=QY a;grind [U1,sorted_at]
 ·rintro⟨y,a,e⟩
  obtain⟨k,b⟩:=QY a;have j:=(QD.1 b).1;have f:=List.getElem?_eq_none_iff.1 g
  have:=n k y Aa b;omega
theorem eX1{g:FuncId}{t:Int}(hg:∀m:aN,Sp g [aQ m,I t] (I (cmpI (sid m) t)))(l:List aN)(u:l.length<=1000000)(hs:(l.map sid).Pairwise (·<·)):fnVC T Tryz.prog Tryz.f161 [.sl (l.map aQ),I t, .fn g []] (.tup [I (bs sid l t),DB (∃m∈l,sid m=t)]):=by
 have r:(l.map aQ).length=l.length:=Ae
 repeat' ((conv=>whnf);first|refine zS ?_|fail)
 refine aU (A:=Nat) (B:=Nat) (λi j=>mkSt [(0, .sl (l.map aQ)),(1,I t),(2, .fn g []),(8,I l.length),(9,I i),(10,I j)] [] []) (λi j=>i<=j/\j<=l.length/\(∀k m,k<i->l[k]? =some m->sid m<t)/\∀k m,j<=k->l[k]? =some m->t<=sid m) (λi j=>j-i) 0 l.length ?_ ⟨Aa,Aa,λk m hk=>absurd hk Aa,λk m hk hm=>Cj⟩ (λi j o=>?_)
 ·exact zj
 obtain⟨q,s,h1,h2⟩:=o;have a:i<=l.length:=Aa;by_cases f:i<j
 ·exact IC
 ·have e:j=i:=by omega
  subst e;have d:=dC0 a h1 (λm hm=>h2 j m (QH _) hm);have hex:=eC8 hs h1 (λm hm=>h2 j m (QH _) hm)
  rw[d];generalize (∃m∈l,sid m=t)=P at*;by_cases c:j<l.length
  ·have hm2:=QE c
   generalize l[j] =m at hm2;have g1:=hg m;have hP:P↔sid m=t:=hex.1 m hm2
   have eP:DB P=V.lit (.bool (eqB (cmpI (sid m) t) 0)):=Rh (λb=>V.lit (.bool b)) (sK (bP6.trans hP.symm)).symm;rw[eP];exact zF
  ·exact Kw
theorem eB5{g:FuncId}{t:Int}(a:∀m:aN,Sp g [aQ m,I t] (I (cmpI (sid m) t)))(l:List aN)(c:l.length<=1000000)(b:(l.map sid).Pairwise (·<·)):Sp 161 [.sl (l.map aQ),I t, .fn g []] (.tup [I (bs sid l t),DB (∃m∈l,sid m=t)]):=zsp Tryz.func161 (eX1 a l c b)
theorem eW0{g:FuncId}{t:Int}(hg:∀m:Piece,Sp g [aZ m,I t] (I (cmpI (Piece.id m) t)))(l:List Piece)(u:l.length<=1000000)(hs:(l.map Piece.id).Pairwise (·<·)):fnVC T Tryz.prog Tryz.f170 [.sl (l.map aZ),I t, .fn g []] (.tup [I (bs Piece.id l t),DB (∃m∈l,Piece.id m=t)]):=by
 have r:(l.map aZ).length=l.length:=Ae
 repeat' ((conv=>whnf);first|refine zS ?_|fail)
 refine aU (A:=Nat) (B:=Nat) (λi j=>mkSt [(0, .sl (l.map aZ)),(1,I t),(2, .fn g []),(8,I l.length),(9,I i),(10,I j)] [] []) (λi j=>i<=j/\j<=l.length/\(∀k m,k<i->l[k]? =some m->Piece.id m<t)/\∀k m,j<=k->l[k]? =some m->t<=Piece.id m) (λi j=>j-i) 0 l.length ?_ ⟨Aa,Aa,λk m hk=>absurd hk Aa,λk m hk hm=>Cj⟩ (λi j o=>?_)
 ·exact zj
 obtain⟨q,s,h1,h2⟩:=o;have a:i<=l.length:=Aa;by_cases f:i<j
 ·exact IC
 ·have e:j=i:=by omega
  subst e;have d:=dC0 a h1 (λm hm=>h2 j m (QH _) hm);have hex:=eC8 hs h1 (λm hm=>h2 j m (QH _) hm)
  rw[d];generalize (∃m∈l,Piece.id m=t)=P at*;by_cases c:j<l.length
  ·have hm2:=QE c
   generalize l[j] =m at hm2;have g1:=hg m;have hP:P↔Piece.id m=t:=hex.1 m hm2
   have eP:DB P=V.lit (.bool (eqB (cmpI (Piece.id m) t) 0)):=Rh (λb=>V.lit (.bool b)) (sK (bP6.trans hP.symm)).symm;rw[eP];exact zF
  ·exact Kw
theorem eG9{g:FuncId}{t:Int}(a:∀m:Piece,Sp g [aZ m,I t] (I (cmpI (Piece.id m) t)))(l:List Piece)(c:l.length<=1000000)(b:(l.map Piece.id).Pairwise (·<·)):Sp 170 [.sl (l.map aZ),I t, .fn g []] (.tup [I (bs Piece.id l t),DB (∃m∈l,Piece.id m=t)]):=zsp Tryz.func170 (eW0 a l c b)
theorem cR0(x:aN)(t:Int):Sp 162 [aQ x,I t] (I (cmpI (sid x) t)):=by
 refine zsp Tryz.func162 ?_;have b:=aE2 x;have a:=aB9 (sid x) t
 exact zF
theorem cG0(x:Piece)(t:Int):Sp 171 [aZ x,I t] (I (cmpI x.id t)):=by
 refine zsp Tryz.func171 ?_;have a:=aB9 x.id t;exact zF
theorem dN9(n:Int):Sp 208 [I n] (.lit (.bool false)):=by
 refine zsp Tryz.func208 ?_
 repeat' ((conv=>whnf);first|refine zS ?_|fail)
 all_goals conv=>whnf
 all_goals first|exact aK (by rw[aA1.2 rfl];rfl)|exact aK rfl
theorem dM1(a b:Int):Sp 207 [I a,I b] (DB (a<b)):=by
 refine zsp Tryz.func207 ?_;have c:=aN2 a;have d:=aN2 b
 repeat' ((conv=>whnf);first|refine zc c ?_|refine zS ?_|fail)
 all_goals conv=>whnf
 all_goals exact aA eU2
theorem fA5(t:Int)(l:List Int)(G:l.length<=1000000)(r:(l.map id).Pairwise (·<·)):fnVC T Tryz.prog Tryz.f163 [.sl (l.map I),I t] (.tup [I (bs id l t),DB (∃m∈l,m=t)]):=by
 have E:(l.map I).length=l.length:=Ae
 repeat' ((conv=>whnf);first|refine zS ?_|fail)
 refine aU (A:=Nat) (B:=Nat) (λi j=>mkSt [(0, .sl (l.map I)),(1,I t),(6,I l.length),(7,I i),(8,I j)] [] []) (λi j=>i<=j/\j<=l.length/\(∀k m,k<i->l[k]? =some m->m<t)/\∀k m,j<=k->l[k]? =some m->t<=m) (λi j=>j-i) 0 l.length ?_ ⟨Aa,Aa,λk m hk=>absurd hk Aa,λk m hk hm=>Cj⟩ (λi j C=>?_)
 ·exact zj
 obtain⟨D,H,o,u⟩:=C;have c:i<=l.length:=Aa;by_cases x:i<j
 ·have F:(i+j)/2<l.length:=by omega
  have hm2:=QE F;generalize l[(i+j)/2] =m at hm2;have z:=dM1 m t
  have v:(i+j)/2<j:=Aa
  repeat' ((conv=>whnf);first|omega|refine fK (k:= .u64) (n:=(i:Int)+(j:Int)) (m:=(i:Int)+(j:Int)) (cD4 Aa) ?_|refine fK (k:= .i64) (n:=shrI .u64 ((i:Int)+(j:Int)) 1) (m:=(((i+j)/2:Nat):Int)) (bF1 Aa) ?_|refine aB (l:=l) Aa ?_|refine gK (l:=l) hm2 Aa ?_|refine zc z ?_|refine zS ?_|refine zT ?_ ?_<;>intro _|fail)
  all_goals conv=>whnf
  ·have hc:m<t:=by assumption
   refine⟨((i+j)/2+1,j),?_,⟨Aa,Aa,λk y hk hy=>?_,u⟩,Aa⟩
   ·exact zj
   ·rcases Ry k ((i+j)/2)with h|h
    ·exact Int.lt_trans (sorted_at (key:=id) r hy hm2 h) hc
    ·exact Jc
  ·have hc:t<=m:=by omega
   refine⟨(i,(i+j)/2),?_,⟨Aa,Aa,o,λk y hk hy=>?_⟩,Aa⟩
   ·exact zj
   ·rcases Ry ((i+j)/2) k with h|h
    ·exact Int.le_of_lt (Int.lt_of_le_of_lt hc (sorted_at (key:=id) r hm2 hy h))
    ·exact Jc
 ·have e:j=i:=by omega
  subst e;have s:=dC0 (key:=id) c o (λm hm=>u j m (QH _) hm);have a:=eC8 (key:=id) r o (λm hm=>u j m (QH _) hm)
  rw[s];have w:(∃m∈l,m=t)↔(∃y∈l,id y=t):=Rt;simp only[id]at a;generalize (∃m∈l,m=t)=P at*;by_cases q:j<l.length
  ·have hm2:=QE q
   generalize l[j] =m at hm2;have g:P↔m=t:=a.1 m hm2;by_cases f:m=t
   ·have d:DB P=V.lit (.bool true):=Rh (λb=>V.lit (.bool b)) (dH.2 (g.2 f))
    rw[d]
    repeat' ((conv=>whnf);first|omega|refine aB (l:=l) Aa ?_|refine gK (l:=l) hm2 Aa ?_|refine zS ?_|refine zT ?_ ?_<;>intro _|fail)
    all_goals exact zE
   ·have d:DB P=V.lit (.bool false):=Rh (λb=>V.lit (.bool b)) (dW.2 (λh=>f (g.1 h)))
    rw[d]
    repeat' ((conv=>whnf);first|omega|refine aB (l:=l) Aa ?_|refine gK (l:=l) hm2 Aa ?_|refine zc (dN9 m) ?_|refine zS ?_|refine zT ?_ ?_<;>intro _|fail)
    all_goals exact zE
  ·have g:¬P:=a.2 (SS Aa)
   have d:DB P=V.lit (.bool false):=Rh (λb=>V.lit (.bool b)) (dW.2 g);rw[d];exact NK
theorem cQ0(t:Int)(l:List Int)(b:l.length<=1000000)(a:(l.map id).Pairwise (·<·)):Sp 163 [.sl (l.map I),I t] (.tup [I (bs id l t),DB (∃m∈l,m=t)]):=zsp Tryz.func163 (fA5 t l b a)
def lay(cur:Array Value)(o:Nat)(vs:List Value):Array Value:=(cur.toList.take o++vs++cur.toList.drop (o+vs.length)).toArray
theorem lay_size{cur:Array Value}{o:Nat}{vs:List Value}(h:o+vs.length<=cur.size):(lay cur o vs).size=cur.size:=by
 unfold lay;simp;omega
theorem iW{P:Program}(w:World)(q y ty b:TypeId)(g o d h:Nat)(a:Addr)(c f sz n:Nat)(cur:Array Value)(t:TypeId)(cs:List Value)
 (x:P.underlying q=some (.slice b))(p:(P.info? b).map (·.size)=some sz)
 (s:w.heap[g]? =some (.cells cur t (0,0)))(r:Nat.min c d=n)(u:cs.length=n*sz)
 (k:∀j v,cs[j]? =some v->w.cell? (a.add j)=some v)(e:o+cs.length<=cur.size)(A:∀v∈cs,v.oneCell'=true):
 (Builtin.copy_ #[q,y] ty #[.slice (some ⟨g,o,none⟩) d h, .slice (some a) c f]).run P w=
  .ok (goInt n) (w.setRow g (lay cur o cs)):=by
 have z:=run_loadCells_list (P:=P) w a cs k;have l:=run_storeCells_at P g o t cs 0 cur w s (by simpa using e) A
 unfold lay
 cases m:P.info? b with
 |none=>simp[m]at p
 |some i=>
  have hi:i.size=sz:=by simpa [m]using p
  simp[Builtin.copy_,Rf x,Builtin.lenOf,Builtin.firstCells,sizeOf,typeInfo,m,hi,r,<-u,z,l]
theorem xJ(cur:Array Value)(o:Nat)(vs:List Value):(lay cur o vs).toList=cur.toList.take o++vs++cur.toList.drop (o+vs.length):=by
 unfold lay;rfl
theorem uI{a:Type}{A B C:List a}{n:Nat}(h:A.length+B.length=n):(A++B++C).take n=A++B:=by
 grind
theorem layA{cur:Array Value}{p:Nat}{vs a:List Value}(h:p+vs.length+a.length<=cur.size):
 (lay (lay cur (p+vs.length) a) p vs).toList.take (p+vs.length+a.length)=cur.toList.take p++vs++a:=by
 have b:cur.toList.length=cur.size:=RD;rw[xJ,xJ];have c:(cur.toList.take (p+vs.length)).length=p+vs.length:=Gs
 grind [Si,U4,Ux,List.drop_left,uI,QG,QL]
theorem layB{R:Array Value}{p:Nat}{vs a:List Value}(h:p+vs.length+a.length<=R.size):
 (lay (lay R p vs) (p+vs.length) a).toList.take (p+vs.length+a.length)=R.toList.take p++vs++a:=by
 have b:R.toList.length=R.size:=RD;rw[xJ,xJ];have c:(R.toList.take p++vs).length=p+vs.length:=by rw[QG,QL];omega
 grind
theorem layC{cur:Array Value}{p:Nat}{vs:List Value}(h:p+vs.length<=cur.size):(lay cur p vs).toList.take (p+vs.length)=cur.toList.take p++vs:=by
 have a:cur.toList.length=cur.size:=RD;rw[xJ];exact uI Gs
theorem oH{w:World}{G:Gh}{a b:List Value}{x y:List V}(d:RvL w G a x)(e:RvL w G b y):RvL w G (a++b) (x++y):=by
 refine⟨by rw[QG,QG,d.len,e.len],λv hv=>?_,λi v z hv c=>?_⟩
 ·rcases QJ.1 hv with h|h
  ·exact d.one v h
  ·exact e.one v h
 ·rw[U7]at hv c
  rw[<-d.len]at c;split at hv
  ·rename_i hi
   rw[Q9 hi]at c;exact d.rel i v z hv c
  ·rename_i hi
   rw[Q5 hi]at c;exact e.rel _ v z hv c
theorem aM1{w:World}{G:Gh}{a:List Value}{x:List V}(h:RvL w G a x)(n:Nat):RvL w G (a.take n) (x.take n):=by
 refine⟨by rw[QL,QL,h.len],λv hv=>h.one v (Ri hv),λi v z hv b=>?_⟩
 rw[TI]at hv b;split at hv
 ·rename_i hi
  rw[Q9 hi]at b;exact h.rel i v z hv b
 ·cases hv
theorem aL4{w:World}{G:Gh}{a:List Value}{x:List V}(h:RvL w G a x)(n:Nat):RvL w G (a.drop n) (x.drop n):=by
 refine⟨by rw[Rz,Rz,h.len],λv hv=>h.one v (Rj hv),λi v z hv b=>?_⟩
 rw[RI]at hv b;exact h.rel _ v z hv b
theorem xW{l:List V}{sz i:Nat}(a:∀x∈l,x.cells.length=sz)(hi:i<=l.length):(l.flatMap V.cells).take (i*sz)=(l.take i).flatMap V.cells/\(l.flatMap V.cells).drop (i*sz)=(l.drop i).flatMap V.cells:=by
 have e:l.flatMap V.cells=(l.take i).flatMap V.cells++(l.drop i).flatMap V.cells:=by rw[<-TA,RQ]
 have b:((l.take i).flatMap V.cells).length=i*sz:=by
  grind [Go.Ab.sH,Ri,QL,Ux]
 simp_all
theorem jM{w w':World}{G:Gh}{b n c:Nat}{E:TypeId}{X:Array Value}{L:List V}(t:E<T.n E)(hp:bM L)(a:L.length=n)(F:∀x∈L,x.cells.length=(T.row E).size)
 (H:RvL w G (X.toList.take (n*(T.row E).size)) (L.flatMap V.cells))(D:w'.heap[b]? =some (.cells X E (0,0)))(z:X.size=c*(T.row E).size)(g:n<=c)(o:c<=maxLen)
 (B:∀b,G.O b≠ .ext->b<w.heap.size)(A:∀b i,G.O b≠ .bx i)(I:G.O b= .ar 0\/w.heap.size<=b)
 (s:∀q,q<w.heap.size->q≠b->w'.heap[q]? =w.heap[q]?)(l:w.heap.size<=w'.heap.size)(r:w'.os=w.os)(C:w'.tape=w.tape)(u:w'.output=w.output):
 ∃v G',Ending.returned (.slice (some ⟨b,0,none⟩) n c)= .returned v/\Rr T w' G' v (.own E L)/\
  (∀b,G.O b= .fz->G'.O b= .fz)/\(∀b,G'.O b≠ .ext->b<w'.heap.size)/\(∀b i,G'.O b≠ .bx i)/\
  (∀b,G'.O b≠ .ext->(G.O b= .fz/\G'.O b= .fz)\/w.heap.size<=b\/∃j,G.O b= .ar j)/\
  (∀b,b<w.heap.size->(∀j,G.O b≠ .ar j)->w'.heap[b]? =w.heap[b]?)/\
  w.heap.size<=w'.heap.size/\w'.os=w.os/\w'.tape=w.tape/\w'.output=w.output:=by
 have f:∀q,G.O q= .fz->q≠b:=by
  grind
 have d:Keep w w' G {G with O:=λq=>if q=b then .ar 0 else G.O q}:=⟨λq hq=>by simp[f q hq,hq],λq hq=>s q (B q Ap) (f q hq)⟩
 have k:bM (L.flatMap V.cells):=aH.2 λy hy=>by
  exact Qq
 subst a;refine⟨_,{G with O:=λq=>if q=b then .ar 0 else G.O q},rfl,⟨t,hp, .inr ⟨b,c,X,rfl,Ae,D,g,o,z,F,H.keep d k (λ_ h=>h.elim) (λ_ _ h=>h.elim)⟩⟩,d.fz,λq hq=>?_,λq i hq=>?_,λq hq=>?_,λq J K=>?_,l,r,C,u⟩
 ·grind
 ·grind
 ·by_cases e:q=b
  ·grind
  ·simp only[e,Ue]at hq⊢
   cases m:G.O q with
   |ext=>exact absurd m hq
   |fz=>exact .inl ⟨rfl,rfl⟩
   |bx i=>exact absurd m (A q i)
   |ar j=>exact .inr (.inr ⟨j,rfl⟩)
 ·grind
theorem bY9{w:World}{G:Gh}{k:Nat}{u:Value}{E:TypeId}{x:V}(h:gJ T w G k u E [x]):∃(b c:Nat) (cur:Array Value),u= .slice (some ⟨b,0,none⟩) 1 c/\G.O b= .ar k/\w.heap[b]? =some (.cells cur E (0,0))/\(T.row E).size<=cur.size/\
 x.cells.length=(T.row E).size/\RvL w G (cur.toList.take (T.row E).size) x.cells:=by
 rcases h with⟨_,h⟩|⟨b,c,cur,i,g,f,e,j,a,d,l⟩
 ·cases h
 ·refine⟨b,c,cur,i,g,f,?_,d x Ae,?_⟩
  ·rw[a]
   exact Nat.le_mul_of_pos_left _ e
  ·simp_all
theorem aN3{w:World}{G:Gh}{j:Nat}{v:Value}{u:Value}(h:Rb T w G j v (.lit u)):v=u:=h.2.bH
theorem arr3{cs:Array Value}(h:cs.size=3):∃a b c,cs= #[a,b,c] :=by
 obtain⟨l⟩:=cs
 match l,h with
 | [a,b,c],_=>exact⟨a,b,c,rfl⟩
end Go.Proofs.Led
namespace Go.Proofs.Led
open Go Go.Proofs Go.Ab Go.RowKit Go.Lib
structure ElT(S E Z B:Nat):Prop where
 u:Tryz.prog.underlying S=some (.slice E)
 t:E<T.n E
 s:(T.row E).size=Z
 y:(T.row E).bytes=B
 b:B<=1000
 z:0<Z
section
variable{S E Z B:Nat}
theorem ElT.info(h:ElT S E Z B):∃i z,Tryz.prog.info? E=some i/\i.size=Z/\i.bytes=B/\i.zero=some z/\z.cells.size=Z:=by
 obtain⟨i,f,e,c,z,d,a,_,b,_,_⟩:=(uG E h.t).info;exact⟨i,z,f,e.trans h.s,c.trans h.y,d,by rw[<-RD,a,b,h.s]⟩
theorem cell_seg{w:World}{b o n j:Nat}{X:Array Value}{v:Value}(h:w.heap[b]? =some (.cells X E (0,0)))(a:((X.toList.drop o).take n)[j]? =some v):w.cell? ((⟨b,o,none⟩:Addr).add j)=some v:=by
 rw[Addr.add_lit];rw[TI]at a;split at a
 ·rw[RI,TD]at a
  simp only[World.cell?,h];simpa using a
 ·cases a
theorem cell_take{w:World}{b n j:Nat}{X:Array Value}{v:Value}(h:w.heap[b]? =some (.cells X E (0,0)))(a:(X.toList.take n)[j]? =some v):w.cell? ((⟨b,0,none⟩:Addr).add j)=some v:=
 cell_seg (o:=0) h a
theorem mulZ{a b:Nat}(h:a<=b):a*Z<=b*Z/\(b-a)*Z=b*Z-a*Z:=⟨U8 Z h,Nat.sub_mul b a Z⟩
theorem ElT.cp(h:ElT S E Z B){W:World}{b c:Nat}{X Y:Array Value}{o1 o2 a d k:Nat}(ty:TypeId)(e f:Nat)(o:W.heap[b]? =some (.cells X E (0,0)))(m:W.heap[c]? =some (.cells Y E (0,0)))(l:Nat.min d a=k)
 (t:o2+k*Z<=Y.size)(r:o1+k*Z<=X.size)(s:∀v∈(Y.toList.drop o2).take (k*Z),v.oneCell'=true):
 (Builtin.copy_ #[S,S] ty #[.slice (some ⟨b,o1,none⟩) a e, .slice (some ⟨c,o2,none⟩) d f]).run Tryz.prog W= .ok (goInt k) (W.setRow b (lay X o1 ((Y.toList.drop o2).take (k*Z)))):=by
 obtain⟨i,z,n,p,_⟩:=h.info;have g:((Y.toList.drop o2).take (k*Z)).length=k*Z:=by rw[QL,Rz,RD];omega
 exact iW W S S ty E b o1 a e ⟨c,o2,none⟩ d f Z k X E _ h.u (by rw[n];simp[p]) o l g (λj v q=>cell_seg m q) (by rw[g];exact r) s
theorem ElT.cp1(h:ElT S E Z B){W:World}{b vb:Nat}{X Y:Array Value}{o1 a:Nat}(ty:TypeId)(c vc:Nat)(f:W.heap[b]? =some (.cells X E (0,0)))(e:W.heap[vb]? =some (.cells Y E (0,0)))(d:1<=a)
 (i:Z<=Y.size)(j:o1+Z<=X.size)(g:∀v∈Y.toList.take Z,v.oneCell'=true):
 (Builtin.copy_ #[S,S] ty #[.slice (some ⟨b,o1,none⟩) a c, .slice (some ⟨vb,0,none⟩) 1 vc]).run Tryz.prog W= .ok (goInt (1:Nat)) (W.setRow b (lay X o1 (Y.toList.take Z))):=by
 have:=h.cp (o1:=o1) (o2:=0) (k:=1) ty c vc f e (Ux d) Aa Aa (by rw[Nat.one_mul];exact g)
 rw[Nat.one_mul]at this;exact this
theorem ElT.room(h:ElT S E Z B){b n c vb vc:Nat}{cur a:Array Value}{w:World}(d:n+1<=c)(m:w.heap[b]? =some (.cells cur E (0,0)))(hv:w.heap[vb]? =some (.cells a E (0,0)))(i:cur.size=c*Z)(l:Z<=a.size)
 (s:∀v∈a.toList.take Z,v.oneCell'=true)(ty:TypeId):
 (Builtin.append_ #[S,S] ty #[.slice (some ⟨b,0,none⟩) n c, .slice (some ⟨vb,0,none⟩) 1 vc]).run Tryz.prog w= .ok (.slice (some ⟨b,0,none⟩) (n+1) c) (w.setRow b (lay cur (n*Z) (a.toList.take Z))):=by
 obtain⟨q,z,g,e,o,_⟩:=h.info;have f:(a.toList.take Z).length=Z:=Dn;have k:=(mulZ (Z:=Z) d).1
 rw[Tt]at k;have h:=run_append_room (P:=Tryz.prog) w S ty E q h.u g b n c cur m ⟨vb,0,none⟩ 1 vc (a.toList.take Z) (by rw[f,e,Nat.one_mul]) (λj v r=>cell_take hv r) s d (by rw[f,e,i];omega)
 rw[e]at h;exact h
theorem ElT.fits(h:ElT S E Z B)(w:World){n c:Nat}(a:c<n)(d:n<=1000000001):Builtin.nextslicecap n c*B<=281474976710656/\n<=grownCap w n c E/\grownCap w n c E<=maxLen:=
 ⟨growslice_fits a (QV (U5 d h.b) Ai),grownCap_ge w n c E,grownCap_le_maxLen w n c E Cf⟩
theorem ElT.app(h:ElT S E Z B)(d:Option Addr)(n c vb vc:Nat)(cs:List Value)(e:Array Value)(w:World)(D:n<=c)(f:c<n+1)(A:n<=1000000000)
 (G:d=none->n=0/\c=0)(I:∀a,d=some a->∀j v,cs[j]? =some v->w.cell? (a.add j)=some v)(m:cs.length=n*Z)
 (hv:w.heap[vb]? =some (.cells e E (0,0)))(H:Z<=e.size):∃(q:Nat) (z:Array Value),n+1<=q/\q<=maxLen/\z.size=(q- (n+1))*Z/\∀ty,
 (Builtin.append_ #[S,S] ty #[.slice d n c, .slice (some ⟨vb,0,none⟩) 1 vc]).run Tryz.prog w= .ok (.slice (some ⟨w.heap.size,0,none⟩) (n+1) q) (w.drew.alloc (.cells (cs.toArray++(e.toList.take Z).toArray++z) E)):=by
 obtain⟨r,z,g,i,o,C,t⟩:=h.info;obtain⟨k,y,s⟩:=h.fits w f Aa;have J:=h.b;have l:(e.toList.take Z).length=1*r.size:=by rw[i,QL,RD];omega
 refine⟨grownCap w (n+1) c E,Builtin.zeroCells z.cells (grownCap w (n+1) c E- (n+1)),y,s,by simp[Builtin.zeroCells,t],λty=>?_⟩
 cases d with
 |none=>
  obtain⟨rfl,rfl⟩:=G rfl;have F:cs=[] :=Rn.1 (by simp[m])
  subst F;have h:=run_append_nil (P:=Tryz.prog) w S ty E r z h.u g C ⟨vb,0,none⟩ 1 vc _ l (λj v x=>cell_take hv x) Aa Aa (by rw[o];omega)
  rw[h];simp
 |some a=>
  exact run_append_grow (P:=Tryz.prog) w S ty E r z h.u g C a n c cs (by rw[i];exact m) (I a rfl) ⟨vb,0,none⟩ 1 vc _ l (λj v x=>cell_take hv x) f Aa (by rw[o];exact k)
theorem ElT.zeros(h:ElT S E Z B){b n c i:Nat}{cur:Array Value}{w:World}(hi:i<n)(y:n<=c)(a:c<n+1)(x:n<=1000000000)(D:w.heap[b]? =some (.cells cur E (0,0)))(s:cur.size=c*Z):
 ∃(m:Nat) (R:Array Value),n+1<=m/\m<=maxLen/\R.size=m*Z/\R.toList.take (i*Z)=cur.toList.take (i*Z)/\∀ty,
  (Builtin.append_ #[S,3] ty #[.slice (some ⟨b,0,none⟩) i c, .int .i64 ((n:Int)+1- (i:Int))]).run Tryz.prog w= .ok (.slice (some ⟨w.heap.size,0,none⟩) (n+1) m) (w.drew.alloc (.cells R E)):=by
 obtain⟨t,z,o,d,k,F,A⟩:=h.info;obtain⟨e,l,q⟩:=h.fits w a Aa;have r:(n:Int)+1- (i:Int)=((n+1-i:Nat):Int):=Aa;have g:i+(n+1-i)=n+1:=Aa
 have I:=(mulZ (Z:=Z) (show i<=c from Aa)).1
 have f:(Builtin.firstCells t.size i (.slice (some ⟨b,0,none⟩) i c)).run Tryz.prog w.drew= .ok (cur.toList.take (i*Z)).toArray w.drew:=by
  rw[d];exact run_firstCells_some w.drew Z i ⟨b,0,none⟩ i c (cur.toList.take (i*Z)) (by rw[QL,RD,s];omega) (λj v C=>cell_take (w:=w.drew) D C)
 refine⟨grownCap w (n+1) c E,(cur.toList.take (i*Z)).toArray++Builtin.zeroCells z.cells (n+1-i)++Builtin.zeroCells z.cells (grownCap w (n+1) c E- (n+1)),l,q,?_,?_,λty=>?_⟩
 ·have H:=mulZ (Z:=Z) (show i<=n+1 from Aa)
  have G:=mulZ (Z:=Z) l;grind [Ux,Builtin.zeroCells]
 ·simp_all
 ·have h:=Lib.run_append_grow_zeros w S 3 ty E t _ .i64 .i64 h.u RU o F (some ⟨b,0,none⟩) i c (cur.toList.take (i*Z)) f (n+1-i) Aa (by rw[d];exact h.z) Aa Aa (by rw[k];exact QV (U5 (by omega:n+1-i<=1000000001) h.b) (by decide)) (by rw[k,g];exact e)
  rw[g]at h;rw[r,h]
theorem seg_mem{cur:Array Value}{i n:Nat}{v:Value}(hi:i<=n)(hv:v∈(cur.toList.drop (i*Z)).take ((n-i)*Z)):v∈cur.toList.take (n*Z):=by
 have:(cur.toList.drop (i*Z)).take ((n-i)*Z)=(cur.toList.take (n*Z)).drop (i*Z):=by rw[UG,(mulZ hi).2]
 rw[this]at hv;exact Rj hv
theorem ElT.shift(h:ElT S E Z B){b n c i vb vc:Nat}{cur a:Array Value}(hi:i<n)(f:n+1<=c)(hbs:cur.size=c*Z)(q:Z<=a.size)
 (s:∀v∈cur.toList.take (n*Z),v.oneCell'=true)(u:∀v∈a.toList.take Z,v.oneCell'=true):
 ∃g,g=lay cur ((i+1)*Z) ((cur.toList.drop (i*Z)).take ((n-i)*Z))/\
 (∀(W:World) (o1 o2 d k:Nat) ty e m,W.heap[b]? =some (.cells cur E (0,0))->o1=(i+1)*Z->o2=i*Z->Nat.min k d=n-i->
  (Builtin.copy_ #[S,S] ty #[.slice (some ⟨b,o1,none⟩) d e, .slice (some ⟨b,o2,none⟩) k m]).run Tryz.prog W= .ok (goInt (n-i:Nat)) (W.setRow b g))/\
 ∀(W:World) (o1 d:Nat) ty e,W.heap[b]? =some (.cells g E (0,0))->W.heap[vb]? =some (.cells a E (0,0))->o1=i*Z->1<=d->
  (Builtin.copy_ #[S,S] ty #[.slice (some ⟨b,o1,none⟩) d e, .slice (some ⟨vb,0,none⟩) 1 vc]).run Tryz.prog W= .ok (goInt (1:Nat)) (W.setRow b (lay g (i*Z) (a.toList.take Z))):=by
 have m1:=mulZ (Z:=Z) (TR hi);have z:=(mulZ (Z:=Z) f).1
 have x:=(mulZ (Z:=Z) (show i+1<=n+1 from Aa)).1;have y:(i+1)*Z=i*Z+Z:=Tt i Z
 have A:(n+1)*Z=n*Z+Z:=Tt n Z;have t:((cur.toList.drop (i*Z)).take ((n-i)*Z)).length=(n-i)*Z:=by rw[QL,Rz,RD,hbs,m1.2];omega
 refine⟨_,rfl,λW o1 o2 d k ty e m j r w l=>?_,λW o1 d ty e j o r l=>?_⟩
 ·subst r w
  exact h.cp ty e m j j l Ig Ig (λv hv=>s v (seg_mem (TR hi) hv))
 ·subst r
  exact h.cp1 ty e vc j o l q (by rw[lay_size (by rw[t,hbs,m1.2];omega),hbs];omega) u
theorem ElT.grow(h:ElT S E Z B){b n c u i vb vc N:Nat}{cur a R:Array Value}(hi:i<n)(k:n<=c)(t:n+1<=u)(hbs:cur.size=c*Z)(g:R.size=u*Z)(r:Z<=a.size)
 (w:∀v∈cur.toList.take (n*Z),v.oneCell'=true)(y:∀v∈a.toList.take Z,v.oneCell'=true):
 ∃j,j=lay R (i*Z) (a.toList.take Z)/\
 (∀(W:World) (o1 d:Nat) ty f,W.heap[N]? =some (.cells R E (0,0))->W.heap[vb]? =some (.cells a E (0,0))->o1=i*Z->1<=d->
  (Builtin.copy_ #[S,S] ty #[.slice (some ⟨N,o1,none⟩) d f, .slice (some ⟨vb,0,none⟩) 1 vc]).run Tryz.prog W= .ok (goInt (1:Nat)) (W.setRow N j))/\
 ∀(W:World) (o1 o2 d l:Nat) ty f q,W.heap[N]? =some (.cells j E (0,0))->W.heap[b]? =some (.cells cur E (0,0))->o1=(i+1)*Z->o2=i*Z->Nat.min l d=n-i->
  (Builtin.copy_ #[S,S] ty #[.slice (some ⟨N,o1,none⟩) d f, .slice (some ⟨b,o2,none⟩) l q]).run Tryz.prog W= .ok (goInt (n-i:Nat)) (W.setRow N (lay j ((i+1)*Z) ((cur.toList.drop (i*Z)).take ((n-i)*Z)))):=by
 have m1:=mulZ (Z:=Z) (TR hi);have D:=(mulZ (Z:=Z) t).1
 have A:=(mulZ (Z:=Z) (show i+1<=n+1 from Aa)).1;have F:=(mulZ (Z:=Z) k).1
 have C:(i+1)*Z=i*Z+Z:=Tt i Z;have G:(n+1)*Z=n*Z+Z:=Tt n Z
 have x:(a.toList.take Z).length=Z:=Dn;refine⟨_,rfl,λW o1 d ty f o e s m=>?_,λW o1 o2 d l ty f q o e s z m=>?_⟩
 ·subst s
  exact h.cp1 ty f vc o e m r (by rw[g];omega) y
 ·subst s z
  exact h.cp ty f q o e m Ig (by rw[lay_size (by rw[x,g];omega),g,m1.2];omega) (λv hv=>w v (seg_mem (TR hi) hv))
end
def OvT(F E:Nat):Prop:=∀(w:World) (b vb ob lb cb vc:Nat) (cur vcur:Array Value),vb≠b->w.heap[b]? =some (.cells cur E (0,0))->w.heap[vb]? =some (.cells vcur E (0,0))->cur.size≠0->
 (callFunc F #[.slice (some ⟨vb,0,none⟩) 1 vc, .slice (some ⟨b,ob,none⟩) lb cb]).run Tryz.prog w= .ok (.value (.bool false)) w
def InsShift(F E Z:Nat):Prop:=∀(b n c i vb vc:Nat) (cur vcur:Array Value) (w:World),i<n->n+1<=c->c<=9223372036854775807->vb≠b->
 w.heap[b]? =some (.cells cur E (0,0))->w.heap[vb]? =some (.cells vcur E (0,0))->cur.size=c*Z->Z<=vcur.size->(∀v∈cur.toList.take (n*Z),v.oneCell'=true)->(∀v∈vcur.toList.take Z,v.oneCell'=true)->
 Calls Tryz.prog F #[.slice (some ⟨b,0,none⟩) n c, .int .i64 i, .slice (some ⟨vb,0,none⟩) 1 vc] w λe w'=>
  e= .returned (.slice (some ⟨b,0,none⟩) (n+1) c)/\w'=(w.drew.setRow b (lay cur ((i+1)*Z) ((cur.toList.drop (i*Z)).take ((n-i)*Z)))).setRow b (lay (lay cur ((i+1)*Z) ((cur.toList.drop (i*Z)).take ((n-i)*Z))) (i*Z) (vcur.toList.take Z))
def InsEnd(F E Z:Nat):Prop:=∀(b n c vb vc:Nat) (cur vcur:Array Value) (w:World),n+1<=c->c<=9223372036854775807->
 w.heap[b]? =some (.cells cur E (0,0))->w.heap[vb]? =some (.cells vcur E (0,0))->cur.size=c*Z->Z<=vcur.size->(∀v∈vcur.toList.take Z,v.oneCell'=true)->
 Calls Tryz.prog F #[.slice (some ⟨b,0,none⟩) n c, .int .i64 n, .slice (some ⟨vb,0,none⟩) 1 vc] w λe w'=>
  e= .returned (.slice (some ⟨b,0,none⟩) (n+1) c)/\w'=w.setRow b (lay cur (n*Z) (vcur.toList.take Z))
def InsEndG(F S E:Nat):Prop:=∀(base:Option Addr) (n c c' vb vc:Nat) (X:Array Value) (w:World),n<=c->c<n+1->n<=1000000000->(base=none->n=0/\c=0)->
 (∀ty,(Builtin.append_ #[S,S] ty #[.slice base n c, .slice (some ⟨vb,0,none⟩) 1 vc]).run Tryz.prog w= .ok (.slice (some ⟨w.heap.size,0,none⟩) (n+1) c') (w.drew.alloc (.cells X E)))->
 Calls Tryz.prog F #[.slice base n c, .int .i64 n, .slice (some ⟨vb,0,none⟩) 1 vc] w λe w'=>e= .returned (.slice (some ⟨w.heap.size,0,none⟩) (n+1) c')/\w'=w.drew.alloc (.cells X E)
def InsGrow(F S E Z:Nat):Prop:=∀(b n c c' i vb vc:Nat) (cur vcur R:Array Value) (w:World),i<n->n<=c->c<n+1->n<=1000000000->n+1<=c'->c'<=maxLen->
 w.heap[b]? =some (.cells cur E (0,0))->w.heap[vb]? =some (.cells vcur E (0,0))->cur.size=c*Z->R.size=c'*Z->Z<=vcur.size->(∀v∈cur.toList.take (n*Z),v.oneCell'=true)->(∀v∈vcur.toList.take Z,v.oneCell'=true)->
 (∀ty,(Builtin.append_ #[S,3] ty #[.slice (some ⟨b,0,none⟩) i c, .int .i64 ((n:Int)+1- (i:Int))]).run Tryz.prog w= .ok (.slice (some ⟨w.heap.size,0,none⟩) (n+1) c') (w.drew.alloc (.cells R E)))->
 Calls Tryz.prog F #[.slice (some ⟨b,0,none⟩) n c, .int .i64 i, .slice (some ⟨vb,0,none⟩) 1 vc] w λe w'=>e= .returned (.slice (some ⟨w.heap.size,0,none⟩) (n+1) c')/\
  w'=(((w.alloc (.cells R E)).drew.setRow w.heap.size (lay R (i*Z) (vcur.toList.take Z))).drew).setRow w.heap.size (lay (lay R (i*Z) (vcur.toList.take Z)) ((i+1)*Z) ((cur.toList.drop (i*Z)).take ((n-i)*Z)))
theorem ElT.nw{S E Z B:Nat}(h:ElT S E Z B)(w:World)(R:Array Value):((w.alloc (.cells R E)).drew).heap[w.heap.size]? =some (.cells R E (0,0))/\∀q,q<w.heap.size->((w.alloc (.cells R E)).drew).heap[q]? =w.heap[q]? :=
 ⟨Ur,λq a=>by
  show(w.heap.push _)[q]? =_;rw[Array.getElem?_push_lt a,Ul a]⟩
end Go.Proofs.Led
