/-
  The genealogy's right, rooted.
-/
import Derived.Test.YtdjgbagnajikeaaGreatDoorB10
set_option linter.unusedVariables false
set_option linter.unusedSimpArgs false
set_option maxRecDepth 100000
set_option maxHeartbeats 8000000
noncomputable section
namespace Go.Proofs.Led
open Go Go.Proofs Go.Ab
theorem rightN_spec(x:Node):Sp 48 [nodeV x] (DB (ownP x)):=by
 refine zsp Tryz.func48 ?_;have d:=aG6 x.part;have a:ownP x↔1<=x.id/\1<=x.kind/\x.kind<=3/\1<=x.size/\0<=x.scrap/\x.scrap<=x.size/\(x.gone=false->x.scrap=0)/\(x.kind=3->iM x.part/\x.parent≠0/\x.gone=false)/\(x.kind≠3->x.part=aI):=Rt
 generalize ownP x=P at*;generalize iM x.part=q at*;obtain⟨i,k,p,g,h,t,z,o,c⟩:=x;simp only at a;cases o;all_goals simp only[reduceCtorEq,false_implies,true_implies,and_false,Uo,implies_true,true_and]at a
 all_goals repeat' ((conv=>whnf);first|(exfalso;contradiction)|omega|refine zS ?_|refine zm (λx e=>?_)|refine zT ?_ ?_<;>intro _|fail)
 all_goals conv=>whnf
 all_goals first
  |(refine aA (aC λb=>?_);replace a:=a.1 b;simp only at*;omega)
  |(refine aA (aC λb=>?_);replace a:=a.1 b;simp only at*;exact absurd (a.2.2.2.2.2.2.2.1 Aa).1 Ag)
  |(refine aA (aC λb=>?_);replace a:=a.1 b;simp only at*;exact absurd Ag (a.2.2.2.2.2.2.2.1 Aa).2)
  |(refine aA (aC λb=>?_);replace a:=a.1 b;simp only at*;exact absurd Ag a.2.2.2.2.2.2.1)
  |(refine aA (fE (a.2 ?_));simp only at*;exact⟨Aa,Aa,Aa,Aa,Aa,Aa,Aa,λ_=>⟨Ag,Aa⟩,λq=>absurd Ag q⟩)
  |(refine aA (qV ?_);simp only at*;exact⟨λq=>a.2 ⟨Aa,Aa,Aa,Aa,Aa,Aa,Aa,λq=>absurd q Ag,λ_=>q⟩,λq=>(a.1 q).2.2.2.2.2.2.2.2 Ag⟩)
  |(refine aA (qV ?_);simp only at*;exact⟨λq=>a.2 ⟨Aa,Aa,Aa,Aa,Aa,Aa,λq=>absurd q Ag,λ_=>q⟩,λq=>(a.1 q).2.2.2.2.2.2.2 Ag⟩)
abbrev rtB(f:List Node):List (List V):=[[.sl (f.map nodeV)],[.fn 104 [.box 100000 0, .box 100001 0]]]
theorem climb_none{f:List Node}{k:Nat}{x:Node}(a:x.parent≠0)(b:¬∃m∈f,m.id=x.parent):climbR f k x=false:=by
 cases k with
 |zero=>unfold climbR;exact decide_eq_false a
 |succ k=>
  unfold climbR;rw[Q5 a]
  cases h:getN f x.parent with
  |none=>rfl
  |some y=>exact absurd ⟨y,getN_mem h⟩ b
theorem climb_some{f:List Node}{k:Nat}{x y:Node}(a:x.parent≠0)(b:getN f x.parent=some y):climbR f (k+1) x=climbR f k y:=by
 rw[climbR,Q5 a,b]
theorem climb1_spec(f:List Node)(i:f.length<=1000000)(d:SortN f):∀(k:Nat) (x:Node),k<=1000000->SpB 104 [nodeV x,I k, .box 100000 0, .box 100001 0] (rtB f) (V.lit (.bool (climbR f k x))) (rtB f):=by
 intro k
 induction k with
 |zero=>
  intro x o;refine b_of Tryz.func104 Ac Ac rfl rfl ?_;have t:=findN_spec f x.parent i d;have c:climbR f 0 x=decide (x.parent=0):=rfl
  generalize bs Node.id f x.parent=j at*;generalize (∃m∈f,m.id=x.parent)=P at*;by_cases a:x.parent=0
  ·rw[c,decide_eq_true a]
   exact Oj
  ·rw[c,decide_eq_false a]
   exact Oa
 |succ k r=>
  intro x o;refine b_of Tryz.func104 Ac Ac rfl rfl ?_;have t:=findN_spec f x.parent i d;by_cases a:x.parent=0
  ·have c:climbR f (k+1) x=true:=by unfold climbR;rw[Q9 a]
   rw[c];exact Oj
  by_cases g:∃m∈f,m.id=x.parent
  ·obtain⟨y,e⟩:=getN_ex.1 g
   have n:=getN_bs d e;have q:=(QD.1 n).1
   rw[climb_some a e];have s:(f.map nodeV).length=f.length:=Ae
   have l:SpB 104 [nodeV y,I (((k+1:Nat):Int)-1), .box 100000 0, .box 100001 0] (rtB f) (V.lit (.bool (climbR f k y))) (rtB f):=by
    have:=r y Aa;rwa [show((k+1:Nat):Int)-1=(k:Int) from Aa]
   generalize climbR f k y=b at*;generalize bs Node.id f x.parent=j at*;generalize (∃m∈f,m.id=x.parent)=P at*
   repeat' ((conv=>whnf);first|omega|(exfalso;contradiction)|refine bW8 [] [(32,[88888])] trivial Ak ?_|refine zh (l) [100000,100001] ?_|refine zS ?_|refine zm (λx hx=>?_)|refine zT ?_ ?_<;>intro _|fail)
   all_goals conv=>whnf
   all_goals first|exact⟨_,rfl,zc1⟩|exact zc1
  ·rw[climb_none a g]
   generalize bs Node.id f x.parent=j at*;generalize (∃m∈f,m.id=x.parent)=P at*;exact Oa
theorem rooted_spec(f:List Node)(x:Node)(c:f.length<=1000000)(e:SortN f):Sp 49 [.sl (f.map nodeV),nodeV x] (V.lit (.bool (climbR f f.length x))):=by
 refine zsp Tryz.func49 ?_;have d:=climb1_spec f c e f.length x c;have a:(f.map nodeV).length=f.length:=Ae
 generalize climbR f f.length x=b at*;rw[<-a]at d
 repeat' ((conv=>whnf);first|refine zh (d) [2,5] ?_|refine zS ?_|refine zm (λx g=>?_)|refine zT ?_ ?_<;>intro _|fail)
 all_goals exact zE
def putsV(ps:List (Int×Int)):List V:=ps.map λp=>V.tup [.lit (.int .i64 p.1),I p.2]
def look:List (Int×Int)->Int->Int
 | [],_=>0
 |p::ps,n=>if p.1=n then p.2 else look ps n
theorem assoc_look(n:Int):∀a:List (Int×Int),(jG (.int .i64 n) (putsV a)).getD (.lit (.int .i64 0))= .lit (.int .i64 (look a n))
 | [] =>rfl
 |p::a=>by
  have b:=assoc_look n a;unfold look;show(jG (.int .i64 n) (.tup [.lit (.int .i64 p.1),I p.2] ::putsV a)).getD _=_;by_cases h:p.1=n
  ·rw[Q9 h,h,assoc_hit]
   rfl
  ·simp_all [Q5,assoc_miss]
def goneLeft(ps:List (Int×Int))(x:Node):Prop:=x.gone=true/\look ps x.id≠0
theorem rightF_spec(a:List (Int×Int))(x:Node):Sp 51 [nodeV x, .fp [V.mapV (.int .i64 0) (putsV a)]] (DB (goneLeft a x)):=by
 refine zsp Tryz.func51 ?_;have f:=assoc_look x.id a;have b:goneLeft a x↔x.gone=true/\look a x.id≠0:=Rt
 generalize goneLeft a x=P at*;generalize look a x.id=v at*;generalize d:putsV a=es at*;obtain⟨i,k,p,g,h,t,z,o,c⟩:=x;cases o
 ·repeat' ((conv=>whnf);first|(exfalso;contradiction)|refine zS ?_|refine zm (λx e=>?_)|refine zT ?_ ?_<;>intro _|fail)
  all_goals conv=>whnf
  all_goals exact aA (aC λq=>absurd (b.1 q).1 (λq=>Hu))
 ·repeat' ((conv=>whnf);first|(exfalso;contradiction)|refine eV6 f ?_|refine zS ?_|refine zm (λx e=>?_)|refine zT ?_ ?_<;>intro _|fail)
  all_goals conv=>whnf
  all_goals exact aA (aF6 (dY0.trans ⟨λq=>b.2 ⟨rfl,q⟩,λq=>(b.1 q).2⟩))
theorem ndI_vc{g:FuncId}{c:List V}{Q:Node->Prop}(n:∀m,Sp g (nodeV m:: [.fp c]) (DB (Q m)))(l:List Node)(q:l.length<=1000000):fnVC T Tryz.prog Tryz.f105 [.sl (l.map nodeV), .fn g [.fp c]] (I (fstI Q l)):=by
 have o:(l.map nodeV).length=l.length:=Ae
 repeat' ((conv=>whnf);first|refine zS ?_|refine zd (λhd=>?_) (λhd=>?_)|refine zl (λb=>?_) (λb=>?_)|refine zk (λd=>?_) (λd=>?_)|refine ze (λa=>?_) (λa=>?_)|refine zm (λx j=>?_)|refine zb (λf=>?_) (λf=>?_))
 refine aU (A:=List Node) (B:=List Node) (λD R=>mkSt [(0, .sl (l.map nodeV)),(1, .fn g [.fp c]),(7,I l.length),(8,I D.length)] [] [])
  (λD R=>l=D++R/\∀m∈D,¬Q m) (λD R=>R.length) [] l ?_ ⟨rfl,Ae⟩ (λD R k=>?_)
 ·exact zj
 ·obtain⟨h1,h2⟩:=k
  have i:l.length=D.length+R.length:=Bh;have hD:∀y∈D,(!decB (Q y))=true:=λy hy=>BZ
  cases R with
  |nil=>
   have e:l=D:=Bh;simp at i
   repeat' ((conv=>whnf);first|omega|refine zS ?_|refine zd (λhd=>?_) (λhd=>?_)|refine zl (λb=>?_) (λb=>?_)|refine zk (λd=>?_) (λd=>?_)|refine ze (λa=>?_) (λa=>?_)|refine zm (λx j=>?_)|refine zb (λf=>?_) (λf=>?_))
   exact Qu
  |cons x R=>
   rw[QM]at i
   repeat' ((conv=>whnf);first|omega|refine zc (n x) ?_|refine zS ?_|refine zd (λhd=>?_) (λhd=>?_)|refine zl (λb=>?_) (λb=>?_)|refine zk (λd=>?_) (λd=>?_)|refine ze (λa=>?_) (λa=>?_)|refine zm (λx j=>?_)|refine zb (λf=>?_) (λf=>?_))
   ·exact IQ
   ·exact I5
theorem ndI_spec{g:FuncId}{c:List V}{Q:Node->Prop}(a:∀m,Sp g (nodeV m:: [.fp c]) (DB (Q m)))(l:List Node)(b:l.length<=1000000):Sp 105 [.sl (l.map nodeV), .fn g [.fp c]] (I (fstI Q l)):=zsp Tryz.func105 (ndI_vc a l b)
theorem ndC_vc{g:FuncId}{c:List V}{Q:Node->Prop}(e:∀m,Sp g (nodeV m:: [.fp c]) (DB (Q m)))(l:List Node)(i:l.length<=1000000):fnVC T Tryz.prog Tryz.f50 [.sl (l.map nodeV), .fn g [.fp c]] (DB (∃m∈l,Q m)):=by
 repeat' ((conv=>whnf);first|refine zc (ndI_spec e l i) ?_|refine zS ?_|refine zd (λf=>?_) (λf=>?_)|refine zl (λhlt=>?_) (λhlt=>?_)|refine zk (λb=>?_) (λb=>?_)|refine ze (λa=>?_) (λa=>?_)|refine zm (λx j=>?_)|refine zb (λd=>?_) (λd=>?_))
 exact MW
theorem ndC_spec{g:FuncId}{c:List V}{Q:Node->Prop}(a:∀m,Sp g (nodeV m:: [.fp c]) (DB (Q m)))(l:List Node)(b:l.length<=1000000):Sp 50 [.sl (l.map nodeV), .fn g [.fp c]] (DB (∃m∈l,Q m)):=zsp Tryz.func50 (ndC_vc a l b)
def baseN(f:List Node)(n:Int):Int:=match getN f n with
 |some x=>x.size-x.scrap
 |none=>0
theorem base_some{f:List Node}{n:Int}{x:Node}(h:getN f n=some x):baseN f n=x.size-x.scrap:=by unfold baseN;rw[h]
theorem base_none{f:List Node}{n:Int}(h:∀x∈f,x.id≠n):baseN f n=0:=by unfold baseN;rw[getN_none.2 h]
theorem getN_snoc{D:List Node}{x:Node}{n:Int}:getN (D++[x]) n=(getN D n).or (if x.id=n then some x else none):=by
 unfold getN;simp_all
theorem base_snoc{D:List Node}{x:Node}(h:∀y∈D,y.id≠x.id)(n:Int):baseN (D++[x]) n=if x.id=n then x.size-x.scrap else baseN D n:=by
 unfold baseN;rw[getN_snoc];by_cases c:x.id=n
 ·rw[Q9 c,Q9 c,getN_none.2 (λy a e=>h y a Aa)]
  rfl
 ·rw[Q5 c,Q5 c]
  cases getN D n<;>rfl
theorem ksum_snoc(D:List Node)(x:Node)(n:Int):ksum (D++[x]) n=ksum D n+if x.parent=n then x.size else 0:=by unfold ksum;simp
theorem ksum_app(D R:List Node)(n:Int):ksum (D++R) n=ksum D n+ksum R n:=by unfold ksum;rw[Rl,List.sum_append]
theorem ksum_pos{R:List Node}(h:∀x∈R,1<=x.size)(n:Int):0<=ksum R n:=by
 unfold ksum
 induction R<;>grind
theorem sort_snoc{D:List Node}{x y:Node}{E:List Node}(b:SortN D)(a:D=E++[y])(h:y.id<x.id):SortN (D++[x]):=by
 show((D++[x]).map Node.id).Pairwise _;rw[Rl,Rx];grind
end Go.Proofs.Led
