/- Lemmas. -/
import Derived.Test.YtopbfdohgfhadaaGreatDoorB12
set_option linter.all false
set_option autoImplicit true
set_option relaxedAutoImplicit true
set_option maxRecDepth 100000
set_option maxHeartbeats 16000000
noncomputable section
namespace Go.Proofs.Led
open Go Go.Proofs Go.Ab
def rgt2(f D:List Node)(ps:List (Int×Int)):St:=mkSt [(0, .sl (f.map nodeV)),(5, .box 5 0),(39, .sl (f.map nodeV)),(40,I f.length),(41,I D.length)] [(5,[.arr 38 0])] [(38,⟨0, .dead,93, .bot::putsV ps⟩)]
def rgt3(f D:List Node)(ps:List (Int×Int)):St:=mkSt [(0, .sl (f.map nodeV)),(5, .box 5 0),(56, .sl (f.map nodeV)),(57,I f.length),(58,I D.length)] [(5,[.arr 38 0])] [(38,⟨0, .dead,93, .bot::putsV ps⟩)]
def rightG_vc(f:List Node)(hl:f.length<=1000000)(hz:∀x∈f,x.size<=9223372036854775807):fnVC T Tryz.prog Tryz.f9 [.sl (f.map nodeV)] (DB (RightF f)):=by
 have O:(f.map nodeV).length=f.length:=Ad
 repeat' ((conv=>whnf);first|omega|refine zS ?_|refine zd (λo=>?_) (λo=>?_)|refine zl (λi=>?_) (λi=>?_)|refine zk (λb=>?_) (λb=>?_)|refine ze (λa=>?_) (λa=>?_)|refine zm (λx u=>?_)|refine zb (λd=>?_) (λd=>?_))
 refine aU (A:=List Node) (B:=List Node) (λD R=>mkSt [(0, .sl (f.map nodeV)),(12, .sl (f.map nodeV)),(13,I f.length),(14,I D.length)] [] []) (λD R=>f=D++R/\(∀x∈D,ownP x)/\SortN D) (λD R=>R.length) [] f ?_ ⟨rfl,Ad,List.Pairwise.nil⟩ (λD R hp=>?_)
 ·rw[<-O]
  exact zj
 obtain⟨hp,hD,L⟩:=hp
 cases R with
 |cons x R=>
  have s:=aO hp;have J:((D++[x]).length:Int)=(D.length:Int)+1:=Ad
  have h1:=rightN_spec x;have r:x∈f:=Ae
  have K:¬ownP x->¬RightF f:=λh q=>h (q.own x r);rcases List.eq_nil_or_concat D with aa|⟨E,y,hE⟩
  ·have an:D.length=0:=by rw[aa];rfl
   generalize hq:ownP x=q at*
   repeat' ((conv=>whnf);first|omega|(exfalso;contradiction)|refine zS ?_|refine zd (λo=>?_) (λo=>?_)|refine zl (λi=>?_) (λi=>?_)|refine zk (λb=>?_) (λb=>?_)|refine ze (λa=>?_) (λa=>?_)|refine zm (λx u=>?_)|refine zb (λd=>?_) (λd=>?_))
   all_goals conv=>whnf
   all_goals first
    |exact aA (aC (K Ag))
    |skip
   refine⟨(D++[x],R),?_,⟨Ae,λz hz=>?_,?_⟩,Ad⟩
   ·exact IL
   ·exact Lh
   ·rw[aa];exact Uc _ _
  ·rw[List.concat_eq_append]at hE
   have al:f[D.length-1]? =some y:=by rw[hp,hE];simp
   have ao:1<=D.length:=by rw[hE];simp
   have ah:¬y.id<x.id->¬RightF f:=λh q=>h (by
    have hs:=q.so;rw[hp,hE]at hs;have G:((E++[y] ++x::R).map Node.id).Pairwise (·<·):=hs
    rw[Rz,RQ]at G;exact G.2.2 y.id Ad x.id Ad)
   have av:=(QN.1 al).1;generalize hq:ownP x=q at*
   repeat' ((conv=>whnf);first|omega|(exfalso;contradiction)|refine zS ?_|refine zd (λo=>?_) (λo=>?_)|refine zl (λi=>?_) (λi=>?_)|refine zk (λb=>?_) (λb=>?_)|refine ze (λa=>?_) (λa=>?_)|refine zm (λx u=>?_)|refine zb (λd=>?_) (λd=>?_))
   all_goals conv=>whnf
   all_goals first
    |exact aA (aC (K Ag))
    |exact aA (aC (ah Aa))
    |skip
   refine⟨(D++[x],R),?_,⟨Ae,λz hz=>?_,?_⟩,Ad⟩
   ·exact IL
   ·exact Lh
   ·exact sort_snoc L hE Aa
 |nil=>
 have s:f.length=D.length:=Ae;have Y:f=D:=Ae
 rw[<-Y]at hD L;rw[<-s];clear hp s Y D
 repeat' ((conv=>whnf);first|omega|refine zS ?_|refine zd (λo=>?_) (λo=>?_)|refine zl (λi=>?_) (λi=>?_)|refine zk (λb=>?_) (λb=>?_)|refine ze (λa=>?_) (λa=>?_)|refine zm (λx u=>?_)|refine zb (λd=>?_) (λd=>?_))
 refine oU (A:=List (Int×Int)) (B:=List Node) (C:=List Node) (λl D R=>rgt2 f D l) (λl D R=>f=D++R/\∀n,look l n=baseN D n) (λl D R=>R.length) [] [] f ?_ ⟨rfl,λn=>rfl⟩ (λl D R hp=>?_)
 ·show Le T _ (mkSt [(0, .sl (f.map nodeV)),(5, .box 5 0),(39, .sl (f.map nodeV)),(40,I f.length),(41,I 0)] [(5,[.arr 38 0])] [(38,⟨0, .dead,93,[.bot]⟩)])
  rw[<-O];exact zj
 obtain⟨hp,F⟩:=hp
 cases R with
 |cons x R=>
  have s:=aO hp;have J:((D++[x]).length:Int)=(D.length:Int)+1:=Ad
  have r:x∈f:=Ae;have ai:=hD x r
  have ab:∀y∈D,y.id≠x.id:=λy U e=>by
   have G:((D++x::R).map Node.id).Pairwise (·<·):=by rw[<-hp];exact L
   rw[Rz,RQ]at G;have:=G.2.2 y.id (Rt U) x.id Ad;omega
  have h1:=assoc_look x.id l;have af:look l x.id=0:=by rw[F];exact base_none ab
  rw[af]at h1;obtain⟨v,hv⟩:∃v,v=x.size-x.scrap:=⟨_,rfl⟩
  have S:W (0+W (x.size-x.scrap))=v:=by
   obtain⟨a1,a2,a3,a4,a5,a6,a7⟩:=ai;have:=hz x r;rw[<-hv,w_in (n:=v) Aa,w_in Aa];omega
  repeat' ((conv=>whnf);first|omega|refine eV6 h1 ?_|refine fU (p:=(0:Nat)=0) rfl ?_|refine zS ?_|refine zd (λo=>?_) (λo=>?_)|refine zl (λi=>?_) (λi=>?_)|refine zk (λb=>?_) (λb=>?_)|refine ze (λa=>?_) (λa=>?_)|refine zm (λx u=>?_)|refine zb (λd=>?_) (λd=>?_))
  all_goals conv=>whnf
  refine⟨((x.id,v)::l,D++[x],R),?_,⟨Ae,λn=>?_⟩,Ad⟩
  ·show Le T _ (mkSt [(0, .sl (f.map nodeV)),(5, .box 5 0),(39, .sl (f.map nodeV)),(40,I f.length),(41,I ((D++[x]).length:Nat))] [(5,[.arr 38 0])] [(38,⟨0, .dead,93, .bot:: .tup [.lit (.int .i64 x.id),I v] ::putsV l⟩)])
   rw[<-S,J];exact zj
  ·rw[base_snoc ab]
   show(if x.id=n then v else look l n)=_
   rw[F n,hv]
 |nil=>
 have s:f.length=D.length:=Ae;have Y:f=D:=Ae
 rw[<-Y]at F
 repeat' ((conv=>whnf);first|omega|refine zU ?_|refine zd (λo=>?_) (λo=>?_)|refine zl (λi=>?_) (λi=>?_)|refine zk (λb=>?_) (λb=>?_)|refine ze (λa=>?_) (λa=>?_)|refine zm (λx u=>?_)|refine zb (λd=>?_) (λd=>?_))
 refine eY7 ?_
 repeat' ((conv=>whnf);first|omega|refine zU ?_|refine zd (λo=>?_) (λo=>?_)|refine zl (λi=>?_) (λi=>?_)|refine zk (λb=>?_) (λb=>?_)|refine ze (λa=>?_) (λa=>?_)|refine zm (λx u=>?_)|refine zb (λd=>?_) (λd=>?_))
 refine eY7 ?_
 repeat' ((conv=>whnf);first|omega|refine zU ?_|refine zd (λo=>?_) (λo=>?_)|refine zl (λi=>?_) (λi=>?_)|refine zk (λb=>?_) (λb=>?_)|refine ze (λa=>?_) (λa=>?_)|refine zm (λx u=>?_)|refine zb (λd=>?_) (λd=>?_))
 refine dJ4 (List (Int×Int)) (λl=>mkSt [(0, .sl (f.map nodeV)),(5, .box 5 0)] [(5,[V.mapV (.int .i64 0) (putsV l)])] []) (λl=>(∀n,n≠0->look l n=baseN f n-ksum f n)/\∀x∈f,parN f x/\climbR f f.length x=true) ?_ ?_
 ·repeat' ((conv=>whnf);first|omega|refine zS ?_|refine zd (λo=>?_) (λo=>?_)|refine zl (λi=>?_) (λi=>?_)|refine zk (λb=>?_) (λb=>?_)|refine ze (λa=>?_) (λa=>?_)|refine zm (λx u=>?_)|refine zb (λd=>?_) (λd=>?_))
  refine oU (A:=List (Int×Int)) (B:=List Node) (C:=List Node) (λl D R=>rgt3 f D l) (λl D R=>f=D++R/\(∀n,n≠0->look l n=baseN f n-ksum D n/\0<=look l n)/\∀x∈D,parN f x/\climbR f f.length x=true) (λl D R=>R.length) l [] f ?_ ⟨rfl,λn _=>⟨by rw[F n];show _=_-0;omega,?_⟩,Ad⟩ (λl D R hp=>?_)
  ·show Le T _ (mkSt [(0, .sl (f.map nodeV)),(5, .box 5 0),(56, .sl (f.map nodeV)),(57,I f.length),(58,I 0)] [(5,[.arr 38 0])] [(38,⟨0, .dead,93, .bot::putsV l⟩)])
   rw[<-O];exact zj
  ·rw[F n]
   unfold baseN
   cases N:getN f n with
   |none=>exact Tn 0
   |some y=>
    have:=hD y (getN_mem N).1;obtain⟨a1,a2,a3,a4,a5,a6,a7⟩:=this;show 0<=y.size-y.scrap;omega
  obtain⟨hp,t,H⟩:=hp
  cases R with
  |cons x R=>
   have s:=aO hp;have J:((D++[x]).length:Int)=(D.length:Int)+1:=Ad
   have r:x∈f:=Ae;obtain⟨a1,a2,a3,a4,a5,a6,a7⟩:=hD x r;have aw:=hz x r
   by_cases Z:x.parent=0
   ·repeat' ((conv=>whnf);first|omega|refine zS ?_|refine zd (λo=>?_) (λo=>?_)|refine zl (λi=>?_) (λi=>?_)|refine zk (λb=>?_) (λb=>?_)|refine ze (λa=>?_) (λa=>?_)|refine zm (λx u=>?_)|refine zb (λd=>?_) (λd=>?_))
    all_goals conv=>whnf
    refine⟨(l,D++[x],R),?_,⟨Ae,λn hn=>?_,λz hz=>?_⟩,Ad⟩
    ·show Le T _ (rgt3 f (D++[x]) l)
     unfold rgt3;exact MZ
    ·rw[ksum_snoc,Q9 Aa,U2]
     exact t n hn
    ·rcases QV.1 hz with hz|hz
     ·exact H z hz
     ·rw[QW.1 hz]
      refine⟨λq=>absurd Z q,?_⟩
      cases f.length with
      |zero=>unfold climbR;exact decide_eq_true Z
      |succ k=>unfold climbR;rw[QM Z]
   have g1:=findN_spec f x.parent hl L;by_cases N:∃m∈f,m.id=x.parent;rotate_left
   ·have K:¬RightF f:=λq=>by
     obtain⟨p,hp,_⟩:=q.par x r Z;exact N (getN_ex.2 ⟨p,hp⟩)
    generalize bs Node.id f x.parent=j at*;generalize (∃m∈f,m.id=x.parent)=P at*
    repeat' ((conv=>whnf);first|omega|(exfalso;contradiction)|refine zS ?_|refine zd (λo=>?_) (λo=>?_)|refine zl (λi=>?_) (λi=>?_)|refine zk (λb=>?_) (λb=>?_)|refine ze (λa=>?_) (λa=>?_)|refine zm (λx u=>?_)|refine zb (λd=>?_) (λd=>?_))
    all_goals conv=>whnf
    all_goals exact aA (aC K)
   obtain⟨y,U⟩:=getN_ex.1 N;obtain⟨X,am⟩:=getN_mem U;have hb:=getN_bs L U;have aq:=(QN.1 hb).1
   have h1:=assoc_look x.parent l;obtain⟨c1,c2⟩:=t x.parent Z;have M:=base_some U
   obtain⟨b1,b2,b3,b4,b5,b6,b7⟩:=hD y X;have ax:=hz y X;have ae:0<=ksum D x.parent:=ksum_pos (λz hz=>(hD z (by rw[hp];simp[hz])).2.2.2.1) _
   have ar:look l x.parent<=9223372036854775807:=Aa;have g2:=rooted_spec f x hl L
   have w:RightF f->y.gone=true/\y.grade=x.grade/\y.heat=x.heat/\(x.kind=3\/x.kind=y.kind):=λq=>by
    obtain⟨p,hp,hl⟩:=q.par x r Z;rw[U]at hp;cases hp;exact hl
   have S:RightF f->x.size<=look l x.parent:=λq=>by
    have e1:=q.sum y X (w q).1;rw[am,hp,ksum_app,show ksum (x::R) x.parent=(if x.parent=x.parent then x.size else 0)+ksum R x.parent from by unfold ksum;simp,QM rfl]at e1
    have e2:0<=ksum R x.parent:=ksum_pos (λz hz=>(hD z (by rw[hp];simp[hz])).2.2.2.1) _
    omega
   have ak:RightF f->climbR f f.length x=true:=λq=>q.up x r
   have aj:∀v,v=look l x.parent->x.size<=v->∀n,n≠0->look ((x.parent,v-x.size)::l) n=baseN f n-ksum (D++[x]) n/\0<=look ((x.parent,v-x.size)::l) n:=λv hv b n hn=>by
    obtain⟨d1,d2⟩:=t n hn;rw[ksum_snoc];show(if x.parent=n then v-x.size else look l n)=_/\0<=(if x.parent=n then v-x.size else look l n)
    by_cases e:x.parent=n
    ·rw[QM e,QM e]
     subst e;exact⟨Aa,Aa⟩
    ·rw[Q9 e,Q9 e]
     exact⟨Aa,d2⟩
   clear t M ae c1;generalize au:look l x.parent=v at*;generalize bs Node.id f x.parent=j at*;generalize (∃m∈f,m.id=x.parent)=P at*;generalize ac:climbR f f.length x=cb at*
   repeat' ((conv=>whnf);first|omega|(exfalso;contradiction)|refine jI (λa=>?_) (λa=>?_)|refine eV6 h1 ?_|refine fU (p:=(0:Nat)=0) rfl ?_|refine zS ?_|refine zd (λo=>?_) (λo=>?_)|refine zl (λi=>?_) (λi=>?_)|refine zk (λb=>?_) (λb=>?_)|refine ze (λa=>?_) (λa=>?_)|refine zm (λx u=>?_)|refine zb (λd=>?_) (λd=>?_))
   all_goals conv=>whnf
   all_goals first
    |exact aA (aC λq=>by have e:=(w q).1;rw[‹y.gone=false›]at e;cases e)
    |exact aA (aC λq=>absurd (w q).2.1 Ag)
    |exact aA (aC λq=>absurd (w q).2.2.1 Ag)
    |exact aA (aC λq=>by have:=(w q).2.2.2;omega)
    |exact aA (aC λq=>by have:=S q;omega)
    |exact aA (aC λq=>by have e:=ak q;rw[‹cb=false›]at e;cases e)
    |skip
   all_goals (refine⟨((x.parent,v-x.size)::l,D++[x],R),?_,⟨Ae,aj v rfl Aa,λz hz=>?_⟩,Ad⟩)
   all_goals first
    |(show Le T _ (mkSt [(0, .sl (f.map nodeV)),(5, .box 5 0),(56, .sl (f.map nodeV)),(57,I f.length),(58,I ((D++[x]).length:Nat))] [(5,[.arr 38 0])] [(38,⟨0, .dead,93, .bot:: .tup [.lit (.int .i64 x.parent),I (v-x.size)] ::putsV l⟩)])
      rw[J];refine dV ?_ ?_ ?_ ?_;all_goals repeat' (first|exact trivial|refine And.intro ?_ ?_|with_reducible rfl|exact(λh=>Ah)|exact QU _|omega|exact rfl))
    |(rcases QV.1 hz with hz|hz
      ·exact H z hz
      ·rw[QW.1 hz]
       exact⟨λ_=>⟨y,U,Ag,Ag,Ag,Aa⟩,ac.trans Ag⟩)
  |nil=>
   have ag:f.length=D.length:=Ae;have Y:f=D:=Ae
   rw[<-Y]at t H
   repeat' ((conv=>whnf);first|omega|refine zS ?_|refine zd (λo=>?_) (λo=>?_)|refine zl (λi=>?_) (λi=>?_)|refine zk (λb=>?_) (λb=>?_)|refine ze (λa=>?_) (λa=>?_)|refine zm (λx u=>?_)|refine zb (λd=>?_) (λd=>?_))
   refine⟨l,?_,λn hn=>(t n hn).1,H⟩;refine Le.trans (le_frzm 38 (.int .i64 0) rfl Ac) ?_;exact zj
 ·intro l hq
  have h1:=ndC_spec (g:=24) (c:=[V.mapV (.int .i64 0) (putsV l)]) (λm=>rightF_spec l m) f hl
  have hr:RightF f↔¬∃m∈f,goneLeft l m:=by
   have t:∀m∈f,look l m.id=m.size-m.scrap-ksum f m.id:=λm hm=>by
    rw[hq.1 m.id (by have:=(hD m hm).1;omega),base_some (getN_some L hm)]
   constructor
   ·rintro q ⟨m,hm,h2,h3⟩
    have:=q.sum m hm h2;have:=t m hm
    omega
   ·intro h
    refine⟨hD,L,λx u=>(hq.2 x u).1,λx u=>(hq.2 x u).2,λg N ad=>?_⟩;have:=t g N
    by_cases c:look l g.id=0
    ·omega
    ·exact absurd ⟨g,N,ad,c⟩ h
  generalize RightF f=P at*;generalize (∃m∈f,goneLeft l m)=Q at*
  repeat' ((conv=>whnf);first|refine zS ?_|refine zd (λo=>?_) (λo=>?_)|refine zl (λi=>?_) (λi=>?_)|refine zk (λb=>?_) (λb=>?_)|refine ze (λa=>?_) (λa=>?_)|refine zm (λx u=>?_)|refine zb (λd=>?_) (λd=>?_))
  all_goals conv=>whnf
  exact aA (aF6 (dW.trans hr.symm))
def rightG_spec f(a:f.length<=1000000)(b:∀x∈f,x.size<=9223372036854775807):Sp 9 [.sl (f.map nodeV)] (DB (RightF f)):=zsp Tryz.func9 (rightG_vc f a b)
end Go.Proofs.Led
