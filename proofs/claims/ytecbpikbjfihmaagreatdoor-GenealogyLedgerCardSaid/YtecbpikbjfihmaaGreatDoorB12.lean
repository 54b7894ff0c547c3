/- Lemmas. -/
import Derived.Test.YtecbpikbjfihmaaGreatDoorB6
set_option linter.all false
set_option autoImplicit true
set_option relaxedAutoImplicit true
set_option maxRecDepth 100000
set_option maxHeartbeats 8000000
noncomputable section
namespace Go.Proofs.Led
open Go Go.Proofs Go.Ab Tryz
def rightN_spec x:Sp 68 [nodeV x] (DB (ownP x)):=by
 refine zsp func68 ?_;have d:=aG6 x.part;have a:ownP x↔1<=x.id/\1<=x.kind/\x.kind<=3/\1<=x.size/\0<=x.scrap/\x.scrap<=x.size/\(x.gone=false->x.scrap=0)/\(x.kind=3->iM x.part/\x.parent≠0/\x.gone=false)/\(x.kind≠3->x.part=aI):=RU;generalize ownP x=P at*;generalize iM x.part=q at*;let⟨i,k,p,g,h,t,z,o,c⟩:=x;simp only at a;cases o;all_goals simp[reduceCtorEq,false_implies,true_implies,and_false,UJ,implies_true,true_and]at a
 all_goals repeat' ((conv=>whnf);first|(exfalso;contradiction)|omega|refine zS ?_|refine zm (λx e=>?_)|refine zT ?_ ?_<;>intro _|fail)
 all_goals conv=>whnf
 all_goals first
  |(refine aA (aC λb=>?_);replace a:=a.1 b;simp only at*;omega)
  |(refine aA (aC λb=>?_);replace a:=a.1 b;simp only at*;exact absurd (a.2.2.2.2.2.2.2.1 Aa).1 Ag)
  |(refine aA (aC λb=>?_);replace a:=a.1 b;simp only at*;exact absurd Ag (a.2.2.2.2.2.2.2.1 Aa).2)
  |(refine aA (aC λb=>?_);replace a:=a.1 b;simp only at*;exact absurd Ag a.2.2.2.2.2.2.1)
  |(refine aA (fE (a.2 ?_));simp only at*;exact⟨Aa,Aa,Aa,Aa,Aa,Aa,Aa,λ_=>⟨Ag,Aa⟩,λq=>absurd Ag q⟩)
  |(refine aA (qV ?_);simp only at*;exact⟨λq=>a.2 ⟨Aa,Aa,Aa,Aa,Aa,Aa,Aa,λq=>absurd q Ag,λ_=>q⟩,λq=>(a.1 q).2.2.2.2.2.2.2.2 Ag⟩)
  |(refine aA (qV ?_);simp only at*;exact⟨λq=>a.2 ⟨Aa,Aa,Aa,Aa,Aa,Aa,λq=>absurd q Ag,λ_=>q⟩,λq=>(a.1 q).2.2.2.2.2.2.2 Ag⟩)
abbrev rtB(f:List Node):List (List V):=[[.sl (f.map nodeV)],[.fn 112 [.box 100000 0, .box 100001 0]]]
def climb_none(a:x.parent≠0)(b:¬∃m∈f,m.id=x.parent):climbR f k x=false:=by
 cases k with
 |zero=>unfold climbR;exact decide_eq_false a
 |succ k=>
  unfold climbR;rw[Q9 a];cases h:getN f x.parent with
  |none=>rfl
  |some y=>exact absurd ⟨y,getN_mem h⟩ b
def climb_some(a:x.parent≠0)(b:getN f x.parent=some y):climbR f (k+1) x=climbR f k y:=by
 rw[climbR,Q9 a,b]
def climb1_spec(f:List Node)(g:f.length<=1000000)(d:SortN f):∀(k:Nat) (x:Node),k<=1000000->SpB 112 [nodeV x,I k, .box 100000 0, .box 100001 0] (rtB f) (V.lit (.bool (climbR f k x))) (rtB f):=by
 intro k;induction k with
 |zero=>
  intro x r;refine b_of func112 Ac Ac rfl rfl ?_;have l:=findN_spec f x.parent g d;have c:climbR f 0 x=decide (x.parent=0):=rfl;generalize bs Node.id f x.parent=j at*;generalize (∃m∈f,m.id=x.parent)=P at*;by_cases a:x.parent=0;rw[c,decide_eq_true a];exact Oz;rw[c,decide_eq_false a];exact Om
 |succ k t=>
  intro x r;refine b_of func112 Ac Ac rfl rfl ?_;have l:=findN_spec f x.parent g d;by_cases a:x.parent=0;have c:climbR f (k+1) x=true:=by unfold climbR;rw[QU a]
  rw[c];exact Oz;by_cases e:∃m∈f,m.id=x.parent
  ·obtain⟨y,i⟩:=getN_ex.1 e
   have o:=getN_bs d i;have q:=(QW.1 o).1;rw[climb_some a i];have s:(f.map nodeV).length=f.length:=Ad
   have n:SpB 112 [nodeV y,I (((k+1:Nat):Int)-1), .box 100000 0, .box 100001 0] (rtB f) (V.lit (.bool (climbR f k y))) (rtB f):=by
    have:=t y Aa;rwa [show((k+1:Nat):Int)-1=(k:Int) from Aa]
   generalize climbR f k y=b at*;generalize bs Node.id f x.parent=j at*;generalize (∃m∈f,m.id=x.parent)=P at*;repeat' ((conv=>whnf);first|omega|(exfalso;contradiction)|refine bW8 [] [(32,[88888])] trivial Ak ?_|refine zh (n) [100000,100001] ?_|refine zS ?_|refine zm (λx hx=>?_)|refine zT ?_ ?_<;>intro _|fail)
   all_goals conv=>whnf
   all_goals first|exact⟨_,rfl,zc1⟩|exact zc1
  rw[climb_none a e];generalize bs Node.id f x.parent=j at*;generalize (∃m∈f,m.id=x.parent)=P at*;exact Om
def rooted_spec f x(d:f.length<=1000000)(e:SortN f):Sp 69 [.sl (f.map nodeV),nodeV x] (V.lit (.bool (climbR f f.length x))):=by
 refine zsp func69 ?_;have c:=climb1_spec f d e f.length x d;have a:(f.map nodeV).length=f.length:=Ad;generalize climbR f f.length x=b at*;rw[<-a]at c;repeat' (first|refine zh (c) [2,5] ?_|refine zS ?_|refine zm (λx g=>?_)|refine zT ?_ ?_<;>intro _|fail)
 all_goals exact zE
def putsV(ps:List (Int×Int)):List V:=ps.map λp=>V.tup [.lit (.int .i64 p.1),I p.2]
def look:List (Int×Int)->Int->Int
 | [],_=>0
 |p::ps,n=>if p.1=n then p.2 else look ps n
def assoc_look n:∀a,(jG (.int .i64 n) (putsV a)).getD (.lit (.int .i64 0))= .lit (.int .i64 (look a n))
 | [] =>rfl
 |p::a=>by
  have b:=assoc_look n a;unfold look;show(jG (.int .i64 n) (.tup [.lit (.int .i64 p.1),I p.2] ::putsV a)).getD _=_;by_cases h:p.1=n;rw[QU h,h,assoc_hit];rfl;simp_all [Q9,assoc_miss]
def goneLeft(ps:List (Int×Int))(x:Node):Prop:=x.gone=true/\look ps x.id≠0
def rightF_spec a x:Sp 71 [nodeV x, .fp [V.mapV (.int .i64 0) (putsV a)]] (DB (goneLeft a x)):=by
 refine zsp func71 ?_;have d:=assoc_look x.id a;have b:goneLeft a x↔x.gone=true/\look a x.id≠0:=RU;let⟨i,k,p,g,h,t,z,o,c⟩:=x;cases o
 ·repeat' (first|(contradiction)|refine zS ?_|refine zm (λx f=>?_)|refine zT ?_ ?_<;>intro _|fail)
  all_goals conv=>whnf
  all_goals exact aA (aC λq=>absurd (b.1 q).1 (λq=>EP))
 repeat' (first|(contradiction)|refine eV6 d ?_|refine zS ?_|refine zm (λx f=>?_)|refine zT ?_ ?_<;>intro _|fail)
 all_goals conv=>whnf
 all_goals exact aA (aF6 (dY0.trans ⟨λq=>b.2 ⟨rfl,q⟩,λq=>(b.1 q).2⟩))
def ndI_vc(k:∀m,Sp g (nodeV m:: [.fp c]) (DB (Q m))) l(q:l.length<=1000000):fnVC T Tryz.prog Tryz.f113 [.sl (l.map nodeV), .fn g [.fp c]] (I (fstI Q l)):=by
 have n:(l.map nodeV).length=l.length:=Ad;repeat' ((conv=>whnf);first|refine zS ?_|refine zd (λhd=>?_) (λhd=>?_)|refine zl (λf=>?_) (λf=>?_)|refine zk (λd=>?_) (λd=>?_)|refine ze (λb=>?_) (λb=>?_)|refine zm (λx j=>?_)|refine zb (λa=>?_) (λa=>?_))
 refine aU (A:=List Node) (B:=List Node) (λD R=>mkSt [(0, .sl (l.map nodeV)),(1, .fn g [.fp c]),(7,I l.length),(8,I D.length)] [] [])
  (λD R=>l=D++R/\∀m∈D,¬Q m) (λD R=>R.length) [] l ?_ ⟨rfl,Ad⟩ (λD R o=>?_)
 exact zj;let⟨h1,h2⟩:=o;have i:l.length=D.length+R.length:=Bo;have hD:∀y∈D,(!decB (Q y))=true:=λy hy=>Ce;cases R with
 |nil=>
  have e:l=D:=Bo;simp at i;repeat' ((conv=>whnf);first|omega|refine zS ?_|refine zd (λhd=>?_) (λhd=>?_)|refine zl (λf=>?_) (λf=>?_)|refine zk (λd=>?_) (λd=>?_)|refine ze (λb=>?_) (λb=>?_)|refine zm (λx j=>?_)|refine zb (λa=>?_) (λa=>?_))
  exact QI
 |cons x R=>
  rw[Ro]at i;repeat' ((conv=>whnf);first|omega|refine zc (k x) ?_|refine zS ?_|refine zd (λhd=>?_) (λhd=>?_)|refine zl (λf=>?_) (λf=>?_)|refine zk (λd=>?_) (λd=>?_)|refine ze (λb=>?_) (λb=>?_)|refine zm (λx j=>?_)|refine zb (λa=>?_) (λa=>?_))
  exact Je;exact IL
def ndI_spec(a:∀m,Sp g (nodeV m:: [.fp c]) (DB (Q m))) l(b:l.length<=1000000):Sp 113 [.sl (l.map nodeV), .fn g [.fp c]] (I (fstI Q l)):=zsp func113 (ndI_vc a l b)
def ndC_vc{Q:Node->Prop}(f:∀m,Sp g (nodeV m:: [.fp c]) (DB (Q m)))(l:List Node)(i:l.length<=1000000):fnVC T Tryz.prog Tryz.f70 [.sl (l.map nodeV), .fn g [.fp c]] (DB (∃m∈l,Q m)):=by
 repeat' (first|refine zc (ndI_spec f l i) ?_|refine zS ?_|refine zd (λe=>?_) (λe=>?_)|refine zl (λhlt=>?_) (λhlt=>?_)|refine zk (λd=>?_) (λd=>?_)|refine ze (λb=>?_) (λb=>?_)|refine zm (λx j=>?_)|refine zb (λa=>?_) (λa=>?_))
 exact Np
def ndC_spec{Q:Node->Prop}(a:∀m,Sp g (nodeV m:: [.fp c]) (DB (Q m)))(l:List Node)(b:l.length<=1000000):Sp 70 [.sl (l.map nodeV), .fn g [.fp c]] (DB (∃m∈l,Q m)):=zsp func70 (ndC_vc a l b)
def baseN(f:List Node)(n:Int):Int:=match getN f n with
 |some x=>x.size-x.scrap
 |none=>0
def base_some(h:getN f n=some x):baseN f n=x.size-x.scrap:=by unfold baseN;rw[h]
def base_none(h:∀x∈f,x.id≠n):baseN f n=0:=by unfold baseN;rw[getN_none.2 h]
theorem getN_snoc:getN (D++[x]) n=(getN D n).or (if x.id=n then some x else none):=by
 unfold getN;simp_all
def base_snoc(h:∀y∈D,y.id≠x.id) n:baseN (D++[x]) n=if x.id=n then x.size-x.scrap else baseN D n:=by
 unfold baseN;rw[getN_snoc];by_cases c:x.id=n;rw[QU c,QU c,getN_none.2 (λy a e=>h y a Aa)];rfl;rw[Q9 c,Q9 c];cases getN D n<;>rfl
theorem ksum_snoc D x n:ksum (D++[x]) n=ksum D n+if x.parent=n then x.size else 0:=by unfold ksum;simp
theorem ksum_app D R n:ksum (D++R) n=ksum D n+ksum R n:=by unfold ksum;rw[RH,List.sum_append]
def ksum_pos(h:∀x∈R,1<=x.size) n:0<=ksum R n:=by
 unfold ksum;induction R<;>grind
def sort_snoc(a:SortN D)(b:D=E++[y])(h:y.id<x.id):SortN (D++[x]):=by
 grind
end Go.Proofs.Led
