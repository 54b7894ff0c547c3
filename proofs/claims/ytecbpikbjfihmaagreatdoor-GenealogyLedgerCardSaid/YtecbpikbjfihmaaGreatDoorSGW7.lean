/- Lemmas. -/
import Derived.Test.YtecbpikbjfihmaaGreatDoorB12
set_option linter.all false
set_option autoImplicit true
set_option relaxedAutoImplicit true
set_option maxRecDepth 100000
set_option maxHeartbeats 16000000
noncomputable section
namespace Go.Proofs.Led
open Go Go.Proofs Go.Ab
def rgt2(f D:List Node)(ps:List (Int×Int)):St:=mkSt [(0, .sl (f.map nodeV)),(5, .box 5 0),(39, .sl (f.map nodeV)),(40,I f.length),(41,I D.length)] [(5,[.arr 38 0])] [(38,⟨0, .dead,154, .bot::putsV ps⟩)]
def rgt3(f D:List Node)(ps:List (Int×Int)):St:=mkSt [(0, .sl (f.map nodeV)),(5, .box 5 0),(56, .sl (f.map nodeV)),(57,I f.length),(58,I D.length)] [(5,[.arr 38 0])] [(38,⟨0, .dead,154, .bot::putsV ps⟩)]
def rightG_vc(f:List Node)(hl:f.length<=1000000)(hz:∀x∈f,x.size<=9223372036854775807):fnVC T Tryz.prog Tryz.f29 [.sl (f.map nodeV)] (DB (RightF f)):=by
 have U:(f.map nodeV).length=f.length:=Ad
 repeat' ((conv=>whnf);first
  |omega
  |refine eY7 ?_
  |refine eZ1 Ac ?_
  |refine eH4 Aa ?_
  |refine bW7 ?_
  |refine fU (p:=(T.row _).eq=true) Ac ?_
  |refine fU Aa ?_
  |refine fU rfl ?_
  |refine eZ2 ?_
  |refine eZ0 (λr=>?_) (λr=>?_)
  |refine br_lt (λi=>?_) (λi=>?_)
  |refine br_le (λb=>?_) (λb=>?_)
  |refine eV7 (λa=>?_) (λa=>?_)
  |refine eQ9 Aa (λx w=>?_)
  |refine eY0 rfl (λh=>Ah) ?_
  |refine jU (λd=>?_) (λd=>?_)
  |refine ret_i ?_
  |refine fA7 ?_)
 refine aU (A:=List Node) (B:=List Node) (λD R=>mkSt [(0, .sl (f.map nodeV)),(12, .sl (f.map nodeV)),(13,I f.length),(14,I D.length)] [] []) (λD R=>f=D++R/\(∀x∈D,ownP x)/\SortN D) (λD R=>R.length) [] f ?_ ⟨rfl,Ad,List.Pairwise.nil⟩ (λD R hp=>?_);rw[<-U];exact Nb;obtain⟨hp,hD,N⟩:=hp;cases R with
 |cons x R=>
  have t:=aO hp;have L:((D++[x]).length:Int)=(D.length:Int)+1:=Ad;have J:=rightN_spec x;have s:x∈f:=Ae;have M:¬ownP x->¬RightF f:=λh q=>h (q.own x s);rcases List.eq_nil_or_concat D with aa|⟨E,y,hE⟩
  ·have an:D.length=0:=by rw[aa];rfl
   generalize hq:ownP x=q at*
   repeat' ((conv=>whnf);first
    |omega
    |(exfalso;contradiction)
    |refine aB (l:=f) Aa ?_
    |refine aF (l:=f) (A:=D) (x:=x) (B:=R) hp Aa ?_
    |(refine aS5 (J) false ?_ rfl ?_;focus ((repeat' (first|exact trivial|refine And.intro ?_ ?_|with_reducible rfl|exact(λh=>Ah)|exact rfl));done))
    |refine eY7 ?_
    |refine eZ1 Ac ?_
    |refine eH4 Aa ?_
    |refine bW7 ?_
    |refine fU (p:=(T.row _).eq=true) Ac ?_
    |refine fU Aa ?_
    |refine fU rfl ?_
    |refine eZ2 ?_
    |refine eZ0 (λr=>?_) (λr=>?_)
    |refine br_lt (λi=>?_) (λi=>?_)
    |refine br_le (λb=>?_) (λb=>?_)
    |refine eV7 (λa=>?_) (λa=>?_)
    |refine eQ9 Aa (λx w=>?_)
    |refine eY0 rfl (λh=>Ah) ?_
    |refine jU (λd=>?_) (λd=>?_)
    |refine ret_i ?_
    |refine fA7 ?_)
   all_goals conv=>whnf
   all_goals first
    |exact aA (aC (M Ag))
    |skip
   refine⟨(D++[x],R),?_,⟨Ae,λz hz=>?_,?_⟩,Ad⟩;exact JO;exact Ll;rw[aa];exact Ui _ _
  rw[List.concat_eq_append]at hE;have ac:f[D.length-1]? =some y:=by rw[hp,hE];simp
  have ao:1<=D.length:=by rw[hE];simp
  have ai:¬y.id<x.id->¬RightF f:=λh q=>h (by
   have hs:=q.so;rw[hp,hE]at hs;have H:((E++[y] ++x::R).map Node.id).Pairwise (·<·):=hs
   rw[RH,Si]at H;exact H.2.2 y.id Ad x.id Ad)
  have av:=(QW.1 ac).1;generalize hq:ownP x=q at*
  repeat' ((conv=>whnf);first
   |omega
   |(exfalso;contradiction)
   |refine aB (l:=f) Aa ?_
   |refine gK (l:=f) ac Aa ?_
   |refine aF (l:=f) (A:=D) (x:=x) (B:=R) hp Aa ?_
   |(refine aS5 (J) false ?_ rfl ?_;focus ((repeat' (first|exact trivial|refine And.intro ?_ ?_|with_reducible rfl|exact(λh=>Ah)|exact rfl));done))
   |refine eY7 ?_
   |refine eZ1 Ac ?_
   |refine eH4 Aa ?_
   |refine bW7 ?_
   |refine fU (p:=(T.row _).eq=true) Ac ?_
   |refine fU Aa ?_
   |refine fU rfl ?_
   |refine eZ2 ?_
   |refine eZ0 (λr=>?_) (λr=>?_)
   |refine br_lt (λi=>?_) (λi=>?_)
   |refine br_le (λb=>?_) (λb=>?_)
   |refine eV7 (λa=>?_) (λa=>?_)
   |refine eQ9 Aa (λx w=>?_)
   |refine eY0 rfl (λh=>Ah) ?_
   |refine jU (λd=>?_) (λd=>?_)
   |refine ret_i ?_
   |refine fA7 ?_)
  all_goals conv=>whnf
  all_goals first
   |exact aA (aC (M Ag))
   |exact aA (aC (ai Aa))
   |skip
  refine⟨(D++[x],R),?_,⟨Ae,λz hz=>?_,?_⟩,Ad⟩;exact JO;exact Ll;exact sort_snoc N hE Aa
 |nil=>
 have t:f.length=D.length:=Ae;have eD:f=D:=Ae;rw[<-eD]at hD N;rw[<-t];clear hp t eD D
 repeat' ((conv=>whnf);first
  |omega
  |refine eY7 ?_
  |refine eZ1 Ac ?_
  |refine eH4 Aa ?_
  |refine bW7 ?_
  |refine fU (p:=(T.row _).eq=true) Ac ?_
  |refine fU Aa ?_
  |refine fU rfl ?_
  |refine eZ2 ?_
  |refine eZ0 (λr=>?_) (λr=>?_)
  |refine br_lt (λi=>?_) (λi=>?_)
  |refine br_le (λb=>?_) (λb=>?_)
  |refine eV7 (λa=>?_) (λa=>?_)
  |refine eQ9 Aa (λx w=>?_)
  |refine eY0 rfl (λh=>Ah) ?_
  |refine jU (λd=>?_) (λd=>?_)
  |refine ret_i ?_
  |refine fA7 ?_)
 refine oU (A:=List (Int×Int)) (B:=List Node) (C:=List Node) (λo D R=>rgt2 f D o) (λo D R=>f=D++R/\∀n,look o n=baseN D n) (λo D R=>R.length) [] [] f ?_ ⟨rfl,λn=>rfl⟩ (λo D R hp=>?_);show Le T _ (mkSt [(0, .sl (f.map nodeV)),(5, .box 5 0),(39, .sl (f.map nodeV)),(40,I f.length),(41,I 0)] [(5,[.arr 38 0])] [(38,⟨0, .dead,154,[.bot]⟩)]);rw[<-U];exact Nb;obtain⟨hp,G⟩:=hp;cases R with
 |cons x R=>
  have t:=aO hp;have L:((D++[x]).length:Int)=(D.length:Int)+1:=Ad;have s:x∈f:=Ae;have aj:=hD x s
  have ab:∀y∈D,y.id≠x.id:=λy Y e=>by
   have H:((D++x::R).map Node.id).Pairwise (·<·):=by rw[<-hp];exact N
   rw[RH,Si]at H;have:=H.2.2 y.id (RD Y) x.id Ad;omega
  have J:=assoc_look x.id o;have ag:look o x.id=0:=by rw[G];exact base_none ab
  rw[ag]at J;obtain⟨v,hv⟩:∃v,v=x.size-x.scrap:=⟨_,rfl⟩
  have X:W (0+W (x.size-x.scrap))=v:=by
   obtain⟨a1,a2,a3,a4,a5,a6,a7⟩:=aj;have:=hz x s;rw[<-hv,w_in (n:=v) Aa,w_in Aa];omega
  repeat' ((conv=>whnf);first
   |omega
   |refine aB (l:=f) Aa ?_
   |refine aF (l:=f) (A:=D) (x:=x) (B:=R) hp Aa ?_
   |refine eV6 J ?_
   |refine fU (p:=(0:Nat)=0) rfl ?_
   |refine eY7 ?_
   |refine eZ1 Ac ?_
   |refine eH4 Aa ?_
   |refine bW7 ?_
   |refine fU (p:=(T.row _).eq=true) Ac ?_
   |refine fU Aa ?_
   |refine fU rfl ?_
   |refine eZ2 ?_
   |refine eZ0 (λr=>?_) (λr=>?_)
   |refine br_lt (λi=>?_) (λi=>?_)
   |refine br_le (λb=>?_) (λb=>?_)
   |refine eV7 (λa=>?_) (λa=>?_)
   |refine eQ9 Aa (λx w=>?_)
   |refine eY0 rfl (λh=>Ah) ?_
   |refine jU (λd=>?_) (λd=>?_)
   |refine ret_i ?_
   |refine fA7 ?_)
  all_goals conv=>whnf
  refine⟨((x.id,v)::o,D++[x],R),?_,⟨Ae,λn=>?_⟩,Ad⟩;show Le T _ (mkSt [(0, .sl (f.map nodeV)),(5, .box 5 0),(39, .sl (f.map nodeV)),(40,I f.length),(41,I ((D++[x]).length:Nat))] [(5,[.arr 38 0])] [(38,⟨0, .dead,154, .bot:: .tup [.lit (.int .i64 x.id),I v] ::putsV o⟩)]);rw[<-X,L];exact Nb;rw[base_snoc ab];show(if x.id=n then v else look o n)=_;rw[G n,hv]
 |nil=>
 have t:f.length=D.length:=Ae;have eD:f=D:=Ae;rw[<-eD]at G
 repeat' ((conv=>whnf);first
  |omega
  |refine eZ1 Ac ?_
  |refine eH4 Aa ?_
  |refine bW7 ?_
  |refine fU (p:=(T.row _).eq=true) Ac ?_
  |refine fU Aa ?_
  |refine fU rfl ?_
  |refine eZ2 ?_
  |refine eZ0 (λr=>?_) (λr=>?_)
  |refine br_lt (λi=>?_) (λi=>?_)
  |refine br_le (λb=>?_) (λb=>?_)
  |refine eV7 (λa=>?_) (λa=>?_)
  |refine eQ9 Aa (λx w=>?_)
  |refine eY0 rfl (λh=>Ah) ?_
  |refine jU (λd=>?_) (λd=>?_)
  |refine ret_i ?_
  |refine fA7 ?_)
 refine eY7 ?_
 repeat' ((conv=>whnf);first
  |omega
  |refine eZ1 Ac ?_
  |refine eH4 Aa ?_
  |refine bW7 ?_
  |refine fU (p:=(T.row _).eq=true) Ac ?_
  |refine fU Aa ?_
  |refine fU rfl ?_
  |refine eZ2 ?_
  |refine eZ0 (λr=>?_) (λr=>?_)
  |refine br_lt (λi=>?_) (λi=>?_)
  |refine br_le (λb=>?_) (λb=>?_)
  |refine eV7 (λa=>?_) (λa=>?_)
  |refine eQ9 Aa (λx w=>?_)
  |refine eY0 rfl (λh=>Ah) ?_
  |refine jU (λd=>?_) (λd=>?_)
  |refine ret_i ?_
  |refine fA7 ?_)
 refine eY7 ?_
 repeat' ((conv=>whnf);first
  |omega
  |refine eZ1 Ac ?_
  |refine eH4 Aa ?_
  |refine bW7 ?_
  |refine fU (p:=(T.row _).eq=true) Ac ?_
  |refine fU Aa ?_
  |refine fU rfl ?_
  |refine eZ2 ?_
  |refine eZ0 (λr=>?_) (λr=>?_)
  |refine br_lt (λi=>?_) (λi=>?_)
  |refine br_le (λb=>?_) (λb=>?_)
  |refine eV7 (λa=>?_) (λa=>?_)
  |refine eQ9 Aa (λx w=>?_)
  |refine eY0 rfl (λh=>Ah) ?_
  |refine jU (λd=>?_) (λd=>?_)
  |refine ret_i ?_
  |refine fA7 ?_)
 refine dJ4 (List (Int×Int)) (λo=>mkSt [(0, .sl (f.map nodeV)),(5, .box 5 0)] [(5,[V.mapV (.int .i64 0) (putsV o)])] []) (λo=>(∀n,n≠0->look o n=baseN f n-ksum f n)/\∀x∈f,parN f x/\climbR f f.length x=true) ?_ ?_
 ·repeat' ((conv=>whnf);first
   |omega
   |refine eY7 ?_
   |refine eZ1 Ac ?_
   |refine eH4 Aa ?_
   |refine bW7 ?_
   |refine fU (p:=(T.row _).eq=true) Ac ?_
   |refine fU Aa ?_
   |refine fU rfl ?_
   |refine eZ2 ?_
   |refine eZ0 (λr=>?_) (λr=>?_)
   |refine br_lt (λi=>?_) (λi=>?_)
   |refine br_le (λb=>?_) (λb=>?_)
   |refine eV7 (λa=>?_) (λa=>?_)
   |refine eQ9 Aa (λx w=>?_)
   |refine eY0 rfl (λh=>Ah) ?_
   |refine jU (λd=>?_) (λd=>?_)
   |refine ret_i ?_
   |refine fA7 ?_)
  refine oU (A:=List (Int×Int)) (B:=List Node) (C:=List Node) (λo D R=>rgt3 f D o) (λo D R=>f=D++R/\(∀n,n≠0->look o n=baseN f n-ksum D n/\0<=look o n)/\∀x∈D,parN f x/\climbR f f.length x=true) (λo D R=>R.length) o [] f ?_ ⟨rfl,λn _=>⟨by rw[G n];show _=_-0;omega,?_⟩,Ad⟩ (λo D R hp=>?_);show Le T _ (mkSt [(0, .sl (f.map nodeV)),(5, .box 5 0),(56, .sl (f.map nodeV)),(57,I f.length),(58,I 0)] [(5,[.arr 38 0])] [(38,⟨0, .dead,154, .bot::putsV o⟩)]);rw[<-U];exact Nb;rw[G n];unfold baseN;cases S:getN f n with
  |none=>exact TB 0
  |some y=>
   have:=hD y (getN_mem S).1;obtain⟨a1,a2,a3,a4,a5,a6,a7⟩:=this;show 0<=y.size-y.scrap;omega
  obtain⟨hp,u,K⟩:=hp;cases R with
  |cons x R=>
   have t:=aO hp;have L:((D++[x]).length:Int)=(D.length:Int)+1:=Ad;have s:x∈f:=Ae;obtain⟨a1,a2,a3,a4,a5,a6,a7⟩:=hD x s;have aw:=hz x s;by_cases h0:x.parent=0
   ·repeat' ((conv=>whnf);first
     |omega
     |refine aB (l:=f) Aa ?_
     |refine aF (l:=f) (A:=D) (x:=x) (B:=R) hp Aa ?_
     |refine eY7 ?_
     |refine eZ1 Ac ?_
     |refine eH4 Aa ?_
     |refine bW7 ?_
     |refine fU (p:=(T.row _).eq=true) Ac ?_
     |refine fU Aa ?_
     |refine fU rfl ?_
     |refine eZ2 ?_
     |refine eZ0 (λr=>?_) (λr=>?_)
     |refine br_lt (λi=>?_) (λi=>?_)
     |refine br_le (λb=>?_) (λb=>?_)
     |refine eV7 (λa=>?_) (λa=>?_)
     |refine eQ9 Aa (λx w=>?_)
     |refine eY0 rfl (λh=>Ah) ?_
     |refine jU (λd=>?_) (λd=>?_)
     |refine ret_i ?_
     |refine fA7 ?_)
    all_goals conv=>whnf
    refine⟨(o,D++[x],R),?_,⟨Ae,λn hn=>?_,λz hz=>?_⟩,Ad⟩;show Le T _ (rgt3 f (D++[x]) o);unfold rgt3;simp only[QY,Rj];exact Nb;rw[ksum_snoc,Q9 Aa,Us];exact u n hn;rcases Rh.1 hz with hz|hz;exact K z hz;rw[Ri.1 hz];refine⟨λq=>absurd h0 q,?_⟩;cases f.length with
    |zero=>unfold climbR;exact decide_eq_true h0
    |succ k=>unfold climbR;rw[QU h0]
   have g1:=findN_spec f x.parent hl N;by_cases S:∃m∈f,m.id=x.parent;rotate_left
   ·have M:¬RightF f:=λq=>by
     obtain⟨p,hp,_⟩:=q.par x s h0;exact S (getN_ex.2 ⟨p,hp⟩)
    generalize bs Node.id f x.parent=j at*;generalize (∃m∈f,m.id=x.parent)=P at*
    repeat' ((conv=>whnf);first
     |omega
     |(exfalso;contradiction)
     |refine aB (l:=f) Aa ?_
     |refine aF (l:=f) (A:=D) (x:=x) (B:=R) hp Aa ?_
     |(refine aS5 (g1) false ?_ rfl ?_;focus ((repeat' (first|exact trivial|refine And.intro ?_ ?_|with_reducible rfl|exact(λh=>Ah)|exact rfl));done))
     |refine eY7 ?_
     |refine eZ1 Ac ?_
     |refine eH4 Aa ?_
     |refine bW7 ?_
     |refine fU (p:=(T.row _).eq=true) Ac ?_
     |refine fU Aa ?_
     |refine fU rfl ?_
     |refine eZ2 ?_
     |refine eZ0 (λr=>?_) (λr=>?_)
     |refine br_lt (λi=>?_) (λi=>?_)
     |refine br_le (λb=>?_) (λb=>?_)
     |refine eV7 (λa=>?_) (λa=>?_)
     |refine eQ9 Aa (λx w=>?_)
     |refine eY0 rfl (λh=>Ah) ?_
     |refine jU (λd=>?_) (λd=>?_)
     |refine ret_i ?_
     |refine fA7 ?_)
    all_goals conv=>whnf
    all_goals exact aA (aC M)
   obtain⟨y,Y⟩:=getN_ex.1 S;obtain⟨Z,am⟩:=getN_mem Y;have hb:=getN_bs N Y;have aq:=(QW.1 hb).1;have J:=assoc_look x.parent o;obtain⟨c1,c2⟩:=u x.parent h0;have O:=base_some Y;obtain⟨b1,b2,b3,b4,b5,b6,b7⟩:=hD y Z;have ax:=hz y Z;have af:0<=ksum D x.parent:=ksum_pos (λz hz=>(hD z (by rw[hp];simp[hz])).2.2.2.1) _;have ar:look o x.parent<=9223372036854775807:=Aa;have g2:=rooted_spec f x hl N
   have F:RightF f->y.gone=true/\y.grade=x.grade/\y.heat=x.heat/\(x.kind=3\/x.kind=y.kind):=λq=>by
    obtain⟨p,hp,hl⟩:=q.par x s h0;rw[Y]at hp;cases hp;exact hl
   have X:RightF f->x.size<=look o x.parent:=λq=>by
    have e1:=q.sum y Z (F q).1;rw[am,hp,ksum_app,show ksum (x::R) x.parent=(if x.parent=x.parent then x.size else 0)+ksum R x.parent from by unfold ksum;simp,QU rfl]at e1;have e2:0<=ksum R x.parent:=ksum_pos (λz hz=>(hD z (by rw[hp];simp[hz])).2.2.2.1) _;omega
   have al:RightF f->climbR f f.length x=true:=λq=>q.up x s
   have ak:∀v,v=look o x.parent->x.size<=v->∀n,n≠0->look ((x.parent,v-x.size)::o) n=baseN f n-ksum (D++[x]) n/\0<=look ((x.parent,v-x.size)::o) n:=λv hv b n hn=>by
    obtain⟨d1,d2⟩:=u n hn;rw[ksum_snoc];show(if x.parent=n then v-x.size else look o n)=_/\0<=(if x.parent=n then v-x.size else look o n);by_cases e:x.parent=n;rw[QU e,QU e];subst e;exact⟨Aa,Aa⟩;rw[Q9 e,Q9 e];exact⟨Aa,d2⟩
   clear u O af c1;generalize au:look o x.parent=v at*;generalize bs Node.id f x.parent=j at*;generalize (∃m∈f,m.id=x.parent)=P at*;generalize ad:climbR f f.length x=cb at*
   repeat' ((conv=>whnf);first
    |omega
    |(exfalso;contradiction)
    |refine jI (λa=>?_) (λa=>?_)
    |refine aB (l:=f) Aa ?_
    |refine aF (l:=f) (A:=D) (x:=x) (B:=R) hp Aa ?_
    |refine gK (l:=f) hb Aa ?_
    |refine eV6 J ?_
    |refine fU (p:=(0:Nat)=0) rfl ?_
    |(refine aS5 (g1) false ?_ rfl ?_;focus ((repeat' (first|exact trivial|refine And.intro ?_ ?_|with_reducible rfl|exact(λh=>Ah)|exact rfl));done))
    |(refine aS5 (g2) false ?_ rfl ?_;focus ((repeat' (first|exact trivial|refine And.intro ?_ ?_|with_reducible rfl|exact(λh=>Ah)|exact rfl));done))
    |refine eY7 ?_
    |refine eZ1 Ac ?_
    |refine eH4 Aa ?_
    |refine bW7 ?_
    |refine fU (p:=(T.row _).eq=true) Ac ?_
    |refine fU Aa ?_
    |refine fU rfl ?_
    |refine eZ2 ?_
    |refine eZ0 (λr=>?_) (λr=>?_)
    |refine br_lt (λi=>?_) (λi=>?_)
    |refine br_le (λb=>?_) (λb=>?_)
    |refine eV7 (λa=>?_) (λa=>?_)
    |refine eQ9 Aa (λx w=>?_)
    |refine eY0 rfl (λh=>Ah) ?_
    |refine jU (λd=>?_) (λd=>?_)
    |refine ret_i ?_
    |refine fA7 ?_)
   all_goals conv=>whnf
   all_goals first
    |exact aA (aC λq=>by have e:=(F q).1;rw[‹y.gone=false›]at e;cases e)
    |exact aA (aC λq=>absurd (F q).2.1 Ag)
    |exact aA (aC λq=>absurd (F q).2.2.1 Ag)
    |exact aA (aC λq=>by have:=(F q).2.2.2;omega)
    |exact aA (aC λq=>by have:=X q;omega)
    |exact aA (aC λq=>by have e:=al q;rw[‹cb=false›]at e;cases e)
    |skip
   all_goals (refine⟨((x.parent,v-x.size)::o,D++[x],R),?_,⟨Ae,ak v rfl Aa,λz hz=>?_⟩,Ad⟩)
   all_goals first
    |(show Le T _ (mkSt [(0, .sl (f.map nodeV)),(5, .box 5 0),(56, .sl (f.map nodeV)),(57,I f.length),(58,I ((D++[x]).length:Nat))] [(5,[.arr 38 0])] [(38,⟨0, .dead,154, .bot:: .tup [.lit (.int .i64 x.parent),I (v-x.size)] ::putsV o⟩)])
      rw[L];refine dV ?_ ?_ ?_ ?_;all_goals repeat' (first|exact trivial|refine And.intro ?_ ?_|with_reducible rfl|exact(λh=>Ah)|exact Rf _|omega|exact rfl))
    |(rcases Rh.1 hz with hz|hz
      ·exact K z hz
      ·rw[Ri.1 hz]
       exact⟨λ_=>⟨y,Y,Ag,Ag,Ag,Aa⟩,ad.trans Ag⟩)
  |nil=>
   have ah:f.length=D.length:=Ae;have eD:f=D:=Ae;rw[<-eD]at u K
   repeat' ((conv=>whnf);first
    |omega
    |refine eY7 ?_
    |refine eZ1 Ac ?_
    |refine eH4 Aa ?_
    |refine bW7 ?_
    |refine fU (p:=(T.row _).eq=true) Ac ?_
    |refine fU Aa ?_
    |refine fU rfl ?_
    |refine eZ2 ?_
    |refine eZ0 (λr=>?_) (λr=>?_)
    |refine br_lt (λi=>?_) (λi=>?_)
    |refine br_le (λb=>?_) (λb=>?_)
    |refine eV7 (λa=>?_) (λa=>?_)
    |refine eQ9 Aa (λx w=>?_)
    |refine eY0 rfl (λh=>Ah) ?_
    |refine jU (λd=>?_) (λd=>?_)
    |refine ret_i ?_
    |refine fA7 ?_)
   refine⟨o,?_,λn hn=>(u n hn).1,K⟩;refine Le.trans (le_frzm 38 (.int .i64 0) rfl Ac) ?_;exact Nb
 intro o hq;have J:=ndC_spec (g:=71) (c:=[V.mapV (.int .i64 0) (putsV o)]) (λm=>rightF_spec o m) f hl
 have hr:RightF f↔¬∃m∈f,goneLeft o m:=by
  have u:∀m∈f,look o m.id=m.size-m.scrap-ksum f m.id:=λm hm=>by
   rw[hq.1 m.id (by have:=(hD m hm).1;omega),base_some (getN_some N hm)]
  constructor;rintro q ⟨m,hm,h2,h3⟩;have:=q.sum m hm h2;have:=u m hm;omega;intro h;refine⟨hD,N,λx w=>(hq.2 x w).1,λx w=>(hq.2 x w).2,λg S ae=>?_⟩;have:=u g S;by_cases c:look o g.id=0;omega;exact absurd ⟨g,S,ae,c⟩ h
 generalize RightF f=P at*;generalize (∃m∈f,goneLeft o m)=Q at*
 repeat' ((conv=>whnf);first
  |(refine aS5 (J) false ?_ rfl ?_;focus ((repeat' (first|exact trivial|refine And.intro ?_ ?_|with_reducible rfl|exact(λh=>Ah)|exact rfl));done))
  |refine eY7 ?_
  |refine eZ1 Ac ?_
  |refine eH4 Aa ?_
  |refine bW7 ?_
  |refine fU (p:=(T.row _).eq=true) Ac ?_
  |refine fU Aa ?_
  |refine fU rfl ?_
  |refine eZ2 ?_
  |refine eZ0 (λr=>?_) (λr=>?_)
  |refine br_lt (λi=>?_) (λi=>?_)
  |refine br_le (λb=>?_) (λb=>?_)
  |refine eV7 (λa=>?_) (λa=>?_)
  |refine eQ9 Aa (λx w=>?_)
  |refine eY0 rfl (λh=>Ah) ?_
  |refine jU (λd=>?_) (λd=>?_)
  |refine ret_i ?_
  |refine fA7 ?_)
 all_goals conv=>whnf
 exact aA (aF6 (dW.trans hr.symm))
def rightG_spec f(a:f.length<=1000000)(b:∀x∈f,x.size<=9223372036854775807):Sp 29 [.sl (f.map nodeV)] (DB (RightF f)):=zsp Tryz.func29 (rightG_vc f a b)
end Go.Proofs.Led
