/- Lemmas. -/
import Derived.Test.YtcmgfjaiegpddaaGreatB17
set_option linter.all false
set_option maxRecDepth 100000
set_option maxHeartbeats 4000000
noncomputable section
namespace Go.Proofs.Led
open Go Go.Proofs Go.Ab Tryz
section
variable{α:Type}
def Cod.run(c:Cod α)(b:List Int)(k:Nat):List α->Nat->Prop
 | [],m=>m=k
 |x::l,m=>∃k',c.at b k=some (x,k')/\c.run b k' l m
def run_many{c:Cod α}{b:List Int}:∀ {l:List α} {k m:Nat},k<=b.length->(c.run b k l m↔m=k+(c.many l).length/\b.drop k=c.many l++b.drop m/\(∀x∈l,c.rng x)/\∀x∈l,c.ok x)
 | [],k,m,f=>by
   constructor;intro h;have h:m=k:=h;exact⟨Hw,Hw,λ_ h=>Ag,λ_ h=>Ag⟩;intro h;have d:m=k+0:=h.1;show m=k;omega
 |x::l,k,m,f=>by
  have e:c.many (x::l)=c.enc x++c.many l:=rfl;constructor;rintro⟨u,d,h2⟩;have a:=Cod.at_le d f;obtain⟨rfl,r,s,t⟩:=(Cod.at_iff _).1 d;obtain⟨rfl,n,o,q⟩:=(run_many a.2).1 h2;refine⟨by rw[e,OY];omega,by rw[e,r,n,Pq],λy hy=>?_,λy hy=>?_⟩;rcases P5.1 hy with rfl|hy;exact s;exact o y hy;rcases P5.1 hy with rfl|hy;exact t;exact q y hy;rintro⟨rfl,h2,g,i⟩;rw[e,OY]at h2⊢;have j:b.drop (k+(c.enc x).length)=c.many l++b.drop (k+((c.enc x).length+(c.many l).length)):=BN;have d:c.at b k=some (x,k+(c.enc x).length):=(Cod.at_iff _).2 ⟨rfl,by rw[j,h2,Pq],g x Af,i x Af⟩;have a:=Cod.at_le d f;exact⟨_,d,(run_many a.2).2 ⟨Aa,by rw[j],λy hy=>g y GL,λy hy=>i y GL⟩⟩
def list_at{c:Cod α}{M:Int}{b:List Int}{k m:Nat}{l:List α}(x:Byt b)(o:k<=b.length):(c.list M).at b k=some (l,m)↔∃i,(cBd 0 M).at b k=some ((l.length:Int),i)/\l.length<=1000000000000/\c.run b i l m:=by
 constructor;intro h;obtain⟨d,h2,⟨f,g⟩,r,s⟩:=(Cod.at_iff _).1 h;have e:(c.list M).enc l=encI l.length++c.many l:=rfl;rw[e]at d h2;rw[OY]at d;have j:b.drop (k+(encI l.length).length)=c.many l++b.drop m:=BN;have n:(cBd 0 M).at b k=some ((l.length:Int),k+(encI l.length).length):=cBd_at.2 ⟨(Cod.at_iff _).2 ⟨rfl,by rw[j,h2,Pq];rfl,(by show R64 (l.length:Int);unfold R64;omega),trivial⟩,Aa,r⟩;have a:=Cod.at_le n o;exact⟨_,n,f,(run_many a.2).2 ⟨Aa,j,g,s⟩⟩;rintro⟨i,h,f,q⟩;have a:=Cod.at_le h o;obtain⟨d,h2,g⟩:=cBd_at.1 h;obtain⟨rfl,w,y,z⟩:=(Cod.at_iff _).1 d;obtain⟨rfl,t,u,v⟩:=(run_many a.2).1 q;refine(Cod.at_iff _).2 ⟨?_,?_,⟨f,u⟩,g,v⟩;show _=k+(encI l.length++c.many l).length;rw[OY];show k+(encI l.length).length+_=_;omega;show b.drop k=(encI l.length++c.many l)++_;rw[w,t,Pq];rfl
def runL(c:Cod α)(z:α)(b:List Int):Nat->Nat->List α×Nat×Bool
 |0,k=>([],k,false)
 |n+1,k=>match c.at b k with
  |none=>([z],k,true)
  |some (x,k')=>(x::(runL c z b n k').1,(runL c z b n k').2)
def runL_s{c:Cod α}{z:α}{b:List Int}{n k a:Nat}{x:α}(h:c.at b k=some (x,a)):runL c z b (n+1) k=(x::(runL c z b n a).1,(runL c z b n a).2):=by
 show(match c.at b k with|none=>([z],k,true)|some (x,a)=>(x::(runL c z b n a).1,(runL c z b n a).2))=_;rw[h]
def runL_spec(c:Cod α)(z:α)(b:List Int):∀(n k:Nat),k<=b.length->(∃l m,l.length=n/\c.run b k l m/\runL c z b n k=(l,m,false))\/((runL c z b n k).2.2=true/\∀l m,l.length=n->¬c.run b k l m)
 |0,k,i=> .inl ⟨[],k,rfl,rfl,rfl⟩
 |n+1,k,i=>by
  unfold runL;cases h:c.at b k with
  |none=>
   refine .inr ⟨rfl,λl m hl f=>?_⟩;cases l with
   |nil=>cases hl
   |cons x l=>obtain⟨g,a,_⟩:=f;rw[h]at a;cases a
  |some p=>
   obtain⟨x,g⟩:=p;have e:=Cod.at_le h i;rcases runL_spec c z b n g e.2 with⟨l,m,a,d,o⟩|⟨a,d⟩;exact .inl ⟨x::l,m,by rw[PE,a],⟨g,h,d⟩,by simp only[o]⟩;refine .inr ⟨a,λl m hl f=>?_⟩;cases l with
   |nil=>cases hl
   |cons y l=>
    obtain⟨r,j,q⟩:=f;rw[h]at j;cases j;exact d l m AQ q
end
def ve1_vc{b:List Int}{k e m:Nat}{a c:Bool}{x y:Int}(f:SpB 42 [.box 100000 0] [rdC b k false] (I x) [rdC b e a])(g:SpB 42 [.box 100000 0] [rdC b e a] (I y) [rdC b m c]):jR T Tryz.prog Tryz.f100 [.box 100001 0] [rdC b k false,[.box 100000 0]] (vcV (x,y)) [rdC b m c,[.box 100000 0]] :=by
 refine eY7 ?_;repeat' ((conv=>whnf);first|omega|refine zU ?_|refine zm (λx d=>?_)|refine zT ?_ ?_<;>intro _|fail)
 refine eY7 ?_;repeat' ((conv=>whnf);first|refine zh (f) [100000] ?_|refine zU ?_|refine zm (λx d=>?_)|refine zT ?_ ?_<;>intro _|fail)
 repeat' ((conv=>whnf);first|refine zh (g) [100000] ?_|refine zS ?_|refine zm (λx d=>?_)|refine zT ?_ ?_<;>intro _|fail)
 all_goals conv=>whnf
 all_goals first|exact⟨_,rfl,zc1⟩|exact zc1
def rdVy_vc(g:FuncId)(b:List Int)(k m:Nat)(x:Vc)(hg:SpB g [.box 100001 0] [rdC b k false,[.box 100000 0]] (vcV x) [rdC b m false,[.box 100000 0]]):jR T Tryz.prog Tryz.f99 [.box 100000 0, .fn g [.box 100001 0]] [rdC b k false,[.box 100000 0]] (vcV x) [rdC b m false,[.box 100000 0]] :=Ia
def rdVy(g:FuncId)(b:List Int)(k m:Nat)(x:Vc)(a:SpB g [.box 100001 0] [rdC b k false,[.box 100000 0]] (vcV x) [rdC b m false,[.box 100000 0]]):SpB 99 [.box 100000 0, .fn g [.box 100001 0]] [rdC b k false,[.box 100000 0]] (vcV x) [rdC b m false,[.box 100000 0]] :=
 b_of func99 Ac Ac rfl rfl (rdVy_vc g b k m x a)
def rdVn_vc(g:FuncId)(b:List Int)(k m:Nat)(x:Vc)(hg:SpB g [.box 100001 0] [rdC b k false,[.box 100000 0]] (vcV x) [rdC b m true,[.box 100000 0]]):jR T Tryz.prog Tryz.f99 [.box 100000 0, .fn g [.box 100001 0]] [rdC b k false,[.box 100000 0]] (vcV z0) [rdC b k true,[.box 100000 0]] :=Ia
def rdVn(g:FuncId)(b:List Int)(k m:Nat)(x:Vc)(a:SpB g [.box 100001 0] [rdC b k false,[.box 100000 0]] (vcV x) [rdC b m true,[.box 100000 0]]):SpB 99 [.box 100000 0, .fn g [.box 100001 0]] [rdC b k false,[.box 100000 0]] (vcV z0) [rdC b k true,[.box 100000 0]] :=
 b_of func99 Ac Ac rfl rfl (rdVn_vc g b k m x a)
def rdVs_vc(g:FuncId)(b:List Int)(k:Nat):jR T Tryz.prog Tryz.f99 [.box 100000 0, .fn g [.box 100001 0]] [rdC b k true,[.box 100000 0]] (vcV z0) [rdC b k true,[.box 100000 0]] :=Ib
def rdVs(g:FuncId)(b:List Int)(k:Nat):SpB 99 [.box 100000 0, .fn g [.box 100001 0]] [rdC b k true,[.box 100000 0]] (vcV z0) [rdC b k true,[.box 100000 0]] :=
 b_of func99 Ac Ac rfl rfl (rdVs_vc g b k)
def mVcy_vc{b:List Int}{k m:Nat}{x:Vc}{f a:Bool}(g:SpB 99 [.box 100000 0, .fn 100 [.box 100001 0]] [rdC b k f,[.box 100000 0]] (vcV x) [rdC b m a,[.box 100000 0]]):jR T Tryz.prog Tryz.f48 [.box 100000 0] [rdC b k f] (vcV x) [rdC b m a] :=Io
def ve1{b:List Int}{k d m:Nat}{a c:Bool}{x y:Int}(e:SpB 42 [.box 100000 0] [rdC b k false] (I x) [rdC b d a])(f:SpB 42 [.box 100000 0] [rdC b d a] (I y) [rdC b m c]):SpB 100 [.box 100001 0] [rdC b k false,[.box 100000 0]] (vcV (x,y)) [rdC b m c,[.box 100000 0]] :=
 b_of func100 Ac Ac rfl rfl (ve1_vc e f)
def mVc:Rds 48 [] cVec (vcV z0) vcV where
 y:=by
  intro b k v m hb hk h;obtain⟨k1,h1,h2⟩:=pair_at.1 (show(cI.pair cI).at b k=some ((v.1,v.2),m)from h);exact b_of func48 Ac Ac rfl rfl (mVcy_vc (rdVy _ b k m v (ve1 (mInt.y hb hk h1) (mInt.y hb (Cod.at_le h1 hk).2 h2))))
 n:=by
  intro b k hb hk h
  obtain⟨v,m,hg⟩:∃(v:Vc) (m:Nat),SpB 100 [.box 100001 0] [rdC b k false,[.box 100000 0]] (vcV v) [rdC b m true,[.box 100000 0]] :=by
   cases e:cI.at b k with
   |none=>exact⟨_,_,ve1 (mInt.n hb hk e) (mInt.s hb hk)⟩
   |some p=>
    have hle:=Cod.at_le e hk;cases e2:cI.at b p.2 with
    |none=>exact⟨_,_,ve1 (mInt.y hb hk e) (mInt.n hb hle.2 e2)⟩
    |some q=>exact absurd (pair_at.2 ⟨p.2,e,e2⟩) (by rw[show(cI.pair cI).at b k=none from h];simp)
  exact b_of func48 Ac Ac rfl rfl (mVcy_vc (rdVn _ b k m v hg))
 s:=by
  intro b k hb hk;exact b_of func48 Ac Ac rfl rfl (mVcy_vc (rdVs _ b k))
def lvSt(b:List Int)(M:Int)(k:Nat)(f:Bool)(rem:Nat):List Vc->St
 | [] =>mkSt [(0, .box 100001 0),(1, .box 100002 0),(2, .box 100003 0),(4, .lit (.slice none 0 0)),(5,I rem)] [(100000,rdC b k f),(100001,[.box 100000 0]),(100002,[I M]),(100003,[.fn 48 [.own 0 [], .box 100000 0]])] []
 |d::D=>mkSt [(0, .box 100001 0),(1, .box 100002 0),(2, .box 100003 0),(4, .arr 24 D.length),(5,I rem)] [(100000,rdC b k f),(100001,[.box 100000 0]),(100002,[I M]),(100003,[.fn 48 [.own 0 [], .box 100000 0]])] [(24,⟨D.length, .own,84,(d::D).map vcV⟩)]
def lv1_vc{b:List Int}{k c n:Nat}{M:Int}(s:Byt b)(o:c<=b.length)(t:n<=1000000)
 (g:SpB 47 [.box 100000 0,I 0,I M] [rdC b k false] (I n) [rdC b c false])
 (l:∀ {k x m},k<=b.length->(cVec).at b k=some (x,m)->SpB 48 [.box 100000 0] [rdC b k false] (vcV x) [rdC b m false])
 (j:∀ {k},k<=b.length->(cVec).at b k=none->SpB 48 [.box 100000 0] [rdC b k false] (vcV z0) [rdC b k true]):
 jR T Tryz.prog Tryz.f211 [.box 100001 0, .box 100002 0, .box 100003 0] [rdC b k false,[.box 100000 0],[I M],[.fn 48 [.own 0 [], .box 100000 0]]] (.sl ((runL (cVec) z0 b n c).1.map vcV)) [rdC b (runL (cVec) z0 b n c).2.1 (runL (cVec) z0 b n c).2.2,[.box 100000 0],[I M],[.fn 48 [.own 0 [], .box 100000 0]]] :=by
 repeat' ((conv=>whnf);first|omega|refine zh (g) [100000] ?_|refine zS ?_|refine zm (λx hx=>?_)|refine zT ?_ ?_<;>intro _|fail)
 all_goals conv=>whnf
 refine lD (A:=List Vc×Nat×Nat×Bool) (λp=>match p with|(D,rem,k',f)=>lvSt b M k' f rem D) (λp=>p.2.2.1<=b.length/\p.1.length+p.2.1=n/\((p.2.2.2=false/\runL (cVec) z0 b n c=(p.1++(runL (cVec) z0 b p.2.1 p.2.2.1).1,(runL (cVec) z0 b p.2.1 p.2.2.1).2))\/(p.2.2.2=true/\runL (cVec) z0 b n c=(p.1,p.2.2.1,true)))) (λp=>p.2.1) ([],n,c,false) ?_ ⟨o,Af, .inl ⟨rfl,Af⟩⟩ ?_
 ·show Le T _ (mkSt _ _ _)
  exact zj
 rintro⟨D,rem,k',f⟩ ⟨a,hDr,hinv⟩;simp only at a hDr hinv;rcases hinv with⟨rfl,hinv⟩|⟨rfl,hinv⟩
 ·cases rem with
  |zero=>
   have e:runL (cVec) z0 b n c=(D,k',false):=DY;exact OO
  |succ rem=>
   have e9:((rem:Nat):Int)=((rem+1:Nat):Int)-1:=Aa;cases hx:(cVec).at b k' with
   |none=>
    have e:runL (cVec) z0 b n c=(D++[z0],k',true):=by rw[hinv];unfold runL;rw[hx]
    have i:=j a hx;cases D with
    |nil=>
     all_goals conv=>whnf
     repeat' ((conv=>whnf);first|omega|refine zh (i) [100000] ?_|refine gX (OZ rfl) (dA rfl) AX ?_|refine zS ?_|refine zm (λx hx=>?_)|refine zT ?_ ?_<;>intro _|fail)
     all_goals conv=>whnf
     refine⟨([z0],rem,k',true),?_,⟨a,CZ, .inr ⟨rfl,e⟩⟩,BP⟩;show Le T _ (mkSt _ _ _);rw[e9];exact zj
    |cons d D=>
     have r:((d::D).map vcV).length=D.length+1:=Af;have q:D.length<=n:=FQ;have ec:(d::(D++[z0])).map vcV=(d::D).map vcV++[vcV z0] :=Af;have el:(D++[z0]).length=D.length+1:=Af;all_goals conv=>whnf
     repeat' ((conv=>whnf);first|omega|refine zh (i) [100000] ?_|refine iH rfl (.inl rfl) rfl (OZ rfl) (dA rfl) Ey ?_|refine zS ?_|refine zm (λx hx=>?_)|refine zT ?_ ?_<;>intro _|fail)
     all_goals conv=>whnf
     refine⟨(d::(D++[z0]),rem,k',true),?_,⟨a,by show(D++[z0]).length+1+rem=n;rw[el];simp at hDr;omega, .inr ⟨rfl,e⟩⟩,BP⟩;show Le T _ (mkSt _ _ _);rw[e9,ec,el];exact zj
   |some p=>
    obtain⟨x,k2⟩:=p
    have e:runL (cVec) z0 b n c=((D++[x])++(runL (cVec) z0 b rem k2).1,(runL (cVec) z0 b rem k2).2):=by
     rw[hinv,runL_s hx,Pq];rfl
    have i:=l a hx;have hk2:=(Cod.at_le hx a).2;cases D with
    |nil=>
     all_goals conv=>whnf
     repeat' ((conv=>whnf);first|omega|refine zh (i) [100000] ?_|refine gX (OZ rfl) (dA rfl) AX ?_|refine zS ?_|refine zm (λx hx=>?_)|refine zT ?_ ?_<;>intro _|fail)
     all_goals conv=>whnf
     exact NG
    |cons d D=>
     have r:((d::D).map vcV).length=D.length+1:=Af;have q:D.length<=n:=FQ;have ec:(d::(D++[x])).map vcV=(d::D).map vcV++[vcV x] :=Af;have el:(D++[x]).length=D.length+1:=Af;all_goals conv=>whnf
     repeat' ((conv=>whnf);first|omega|refine zh (i) [100000] ?_|refine iH rfl (.inl rfl) rfl (OZ rfl) (dA rfl) Ey ?_|refine zS ?_|refine zm (λx hx=>?_)|refine zT ?_ ?_<;>intro _|fail)
     all_goals conv=>whnf
     exact N7
 ·rw[hinv]
  cases D with
  |nil=>exact H6
  |cons d D=>exact H6
def lv0_vc{b:List Int}{k:Nat}{M:Int}(g:SpB 47 [.box 100000 0,I 0,I M] [rdC b k false] (I 0) [rdC b k true]):
 jR T Tryz.prog Tryz.f211 [.box 100001 0, .box 100002 0, .box 100003 0] [rdC b k false,[.box 100000 0],[I M],[.fn 48 [.own 0 [], .box 100000 0]]] (.sl []) [rdC b k true,[.box 100000 0],[I M],[.fn 48 [.own 0 [], .box 100000 0]]] :=by
 repeat' ((conv=>whnf);first|omega|refine zh (g) [100000] ?_|refine zS ?_|refine zm (λx hx=>?_)|refine zT ?_ ?_<;>intro _|fail)
 all_goals conv=>whnf
 refine lD (A:=Unit) (λ_=>mkSt [(0, .box 100001 0),(1, .box 100002 0),(2, .box 100003 0),(4, .lit (.slice none 0 0)),(5,I 0)] [(100000,rdC b k true),(100001,[.box 100000 0]),(100002,[I M]),(100003,[.fn 48 [.own 0 [], .box 100000 0]])] []) (λ_=>True) (λ_=>0) () ?_ trivial (λ_ _=>?_)
 ·exact zj
 ·exact IK
def list_run{q:Type}{c:Cod q}{z:q}{M:Int}{b:List Int}{k n a:Nat}(o:Byt b)(i:k<=b.length)(w:M<=1000000)(h:(cBd 0 M).at b k=some ((n:Int),a)):
 (∃l m,(c.list M).at b k=some (l,m)/\runL c z b n a=(l,m,false))\/((c.list M).at b k=none/\(runL c z b n a).2.2=true):=by
 have j:=Cod.at_le h i;have x:=(cBd_at.1 h).2.2;rcases runL_spec c z b n a j.2 with⟨l,m,f,g,s⟩|⟨f,g⟩
 ·exact .inl ⟨l,m,(list_at o i).2 ⟨a,by rw[f];exact h,Aa,g⟩,s⟩
 ·refine .inr ⟨at_none_of λl m e=>?_,f⟩
  obtain⟨t,d,y,u⟩:=(list_at o i).1 e;rw[h]at d;have d:=Q5 d;have v:(n:Int)=l.length:=PN Prod.fst d;have r:a=t:=PN Prod.snd d;subst r;exact g l m Aa u
abbrev oneV:V:= .fn 48 [.own 0 [], .box 100000 0]
def rdLy_vc{M:Int}(g:FuncId)(b:List Int)(k m:Nat)(x:List V)(hg:SpB g [.box 100001 0, .box 100002 0, .box 100003 0] [rdC b k false,[.box 100000 0],[I M],[oneV]] (.sl x) [rdC b m false,[.box 100000 0],[I M],[oneV]]):jR T Tryz.prog Tryz.f210 [.box 100000 0, .fn g [.box 100001 0, .box 100002 0, .box 100003 0]] [rdC b k false,[.box 100000 0],[I M],[oneV]] (.sl x) [rdC b m false,[.box 100000 0],[I M],[oneV]] :=Ik
def rdLy{M:Int}(g:FuncId)(b:List Int)(k m:Nat)(x:List V)(a:SpB g [.box 100001 0, .box 100002 0, .box 100003 0] [rdC b k false,[.box 100000 0],[I M],[oneV]] (.sl x) [rdC b m false,[.box 100000 0],[I M],[oneV]]):SpB 210 [.box 100000 0, .fn g [.box 100001 0, .box 100002 0, .box 100003 0]] [rdC b k false,[.box 100000 0],[I M],[oneV]] (.sl x) [rdC b m false,[.box 100000 0],[I M],[oneV]] :=
 b_of func210 Ac Ac rfl rfl (rdLy_vc g b k m x a)
def rdLn_vc{M:Int}(g:FuncId)(b:List Int)(k m:Nat)(x:List V)(hg:SpB g [.box 100001 0, .box 100002 0, .box 100003 0] [rdC b k false,[.box 100000 0],[I M],[oneV]] (.sl x) [rdC b m true,[.box 100000 0],[I M],[oneV]]):jR T Tryz.prog Tryz.f210 [.box 100000 0, .fn g [.box 100001 0, .box 100002 0, .box 100003 0]] [rdC b k false,[.box 100000 0],[I M],[oneV]] (.sl []) [rdC b k true,[.box 100000 0],[I M],[oneV]] :=Ik
def rdLn{M:Int}(g:FuncId)(b:List Int)(k m:Nat)(x:List V)(a:SpB g [.box 100001 0, .box 100002 0, .box 100003 0] [rdC b k false,[.box 100000 0],[I M],[oneV]] (.sl x) [rdC b m true,[.box 100000 0],[I M],[oneV]]):SpB 210 [.box 100000 0, .fn g [.box 100001 0, .box 100002 0, .box 100003 0]] [rdC b k false,[.box 100000 0],[I M],[oneV]] (.sl []) [rdC b k true,[.box 100000 0],[I M],[oneV]] :=
 b_of func210 Ac Ac rfl rfl (rdLn_vc g b k m x a)
def rdLs_vc{M:Int}(g:FuncId)(b:List Int)(k:Nat):jR T Tryz.prog Tryz.f210 [.box 100000 0, .fn g [.box 100001 0, .box 100002 0, .box 100003 0]] [rdC b k true,[.box 100000 0],[I M],[oneV]] (.sl []) [rdC b k true,[.box 100000 0],[I M],[oneV]] :=Ib
def rdLs{M:Int}(g:FuncId)(b:List Int)(k:Nat):SpB 210 [.box 100000 0, .fn g [.box 100001 0, .box 100002 0, .box 100003 0]] [rdC b k true,[.box 100000 0],[I M],[oneV]] (.sl []) [rdC b k true,[.box 100000 0],[I M],[oneV]] :=
 b_of func210 Ac Ac rfl rfl (rdLs_vc g b k)
def lsVy_vc{b:List Int}{k m:Nat}{x:List V}{M:Int}{f a:Bool}(g:SpB 210 [.box 100000 0, .fn 211 [.box 100001 0, .box 100002 0, .box 100003 0]] [rdC b k f,[.box 100000 0],[I M],[oneV]] (.sl x) [rdC b m a,[.box 100000 0],[I M],[oneV]]):jR T Tryz.prog Tryz.f174 [.box 100000 0,I M,oneV] [rdC b k f] (.sl x) [rdC b m a] :=Iz
def mRgy_vc{b:List Int}{k m:Nat}{x:List V}{M:Int}{f a:Bool}(g:SpB 174 [.box 100000 0,I M,oneV] [rdC b k f] (.sl x) [rdC b m a]):jR T Tryz.prog Tryz.f139 [.box 100000 0,I M] [rdC b k f] (.sl x) [rdC b m a] :=Jl
def mRg_of{b:List Int}{k m:Nat}{x:List V}{M:Int}{f a:Bool}(g:SpB 210 [.box 100000 0, .fn 211 [.box 100001 0, .box 100002 0, .box 100003 0]] [rdC b k f,[.box 100000 0],[I M],[oneV]] (.sl x) [rdC b m a,[.box 100000 0],[I M],[oneV]]):SpB 139 [.box 100000 0,I M] [rdC b k f] (.sl x) [rdC b m a] :=
 b_of func139 Ac Ac rfl rfl (mRgy_vc (b_of func174 Ac Ac rfl rfl (lsVy_vc g)))
def lv1{b:List Int}{k d n:Nat}{M:Int}(c:Byt b)(a:k<=b.length)(e:M<=1000000)(h:(cBd 0 M).at b k=some ((n:Int),d)):SpB 211 [.box 100001 0, .box 100002 0, .box 100003 0] [rdC b k false,[.box 100000 0],[I M],[oneV]] (.sl ((runL cVec z0 b n d).1.map vcV)) [rdC b (runL cVec z0 b n d).2.1 (runL cVec z0 b n d).2.2,[.box 100000 0],[I M],[oneV]] :=by
 have f:=(cBd_at.1 h).2.2;exact b_of func211 Ac Ac rfl rfl (lv1_vc c (Cod.at_le h a).2 Aa ((mBd 0 M).y c a h) (λa h=>mVc.y c a h) (λa h=>mVc.n c a h))
def cBd_nat{M:Int}{b:List Int}{k:Nat}{p:Int×Nat}(h:(cBd 0 M).at b k=some p):∃n:Nat,p.1=n:=⟨p.1.toNat,by have:=(cBd_at.1 (show(cBd 0 M).at b k=some (p.1,p.2)from h)).2.1;omega⟩
def lv0{b:List Int}{k:Nat}{M:Int}(a:Byt b)(c:k<=b.length)(h:(cBd 0 M).at b k=none):SpB 211 [.box 100001 0, .box 100002 0, .box 100003 0] [rdC b k false,[.box 100000 0],[I M],[oneV]] (.sl []) [rdC b k true,[.box 100000 0],[I M],[oneV]] :=
 b_of func211 Ac Ac rfl rfl (lv0_vc ((mBd 0 M).n a c h))
def list_none{g:Type}{c:Cod g}{M:Int}{b:List Int}{k:Nat}(d:Byt b)(f:k<=b.length)(h:(cBd 0 M).at b k=none):(c.list M).at b k=none:=at_none_of λl m e=>by
 obtain⟨i,a,_⟩:=(list_at d f).1 e;rw[h]at a;cases a
def mRg(M:Int)(hM:M<=1000000):Rds 139 [I M] (cRing M) (.sl []) rgV where
 y:=by
  intro b k r m hb hk h;have h0:=h;cases e:(cBd 0 M).at b k with
  |none=>rw[show(cRing M).at b k=none from list_none hb hk e]at h;cases h
  |some p=>
   obtain⟨n,hn⟩:=cBd_nat e;have e1:(cBd 0 M).at b k=some ((n:Int),p.2):=Hg;have g:=lv1 hb hk hM e1;rcases list_run (c:=cVec) (z:=z0) hb hk hM e1 with⟨l,m',q1,q2⟩|⟨q1,_⟩;rw[show(cRing M).at b k=some (l,m')from q1]at h;cases h;rw[q2]at g;exact mRg_of (rdLy _ b k _ _ g);rw[show(cRing M).at b k=none from q1]at h;cases h
 n:=by
  intro b k hb hk h;cases e:(cBd 0 M).at b k with
  |none=>exact mRg_of (rdLn _ b k _ _ (lv0 hb hk e))
  |some p=>
   obtain⟨n,hn⟩:=cBd_nat e;have e1:(cBd 0 M).at b k=some ((n:Int),p.2):=Hg;have g:=lv1 hb hk hM e1;rcases list_run (c:=cVec) (z:=z0) hb hk hM e1 with⟨l,m',q1,q2⟩|⟨q1,q2⟩;rw[show(cVec.list M).at b k=none from h]at q1;cases q1;rw[q2]at g;exact mRg_of (rdLn _ b k _ _ g)
 s:=by
  intro b k hb hk;exact mRg_of (rdLs _ b k)
def lgSt(b:List Int)(M:Int)(k:Nat)(f:Bool)(rem:Nat):List Rg->St
 | [] =>mkSt [(0, .box 100001 0),(1, .box 100002 0),(2, .box 100003 0),(4, .lit (.slice none 0 0)),(5,I rem)] [(100000,rdC b k f),(100001,[.box 100000 0]),(100002,[I M]),(100003,[.fn 138 [.box 100004 0]]),(100004,[.box 100000 0])] []
 |d::D=>mkSt [(0, .box 100001 0),(1, .box 100002 0),(2, .box 100003 0),(4, .arr 24 D.length),(5,I rem)] [(100000,rdC b k f),(100001,[.box 100000 0]),(100002,[I M]),(100003,[.fn 138 [.box 100004 0]]),(100004,[.box 100000 0])] [(24,⟨D.length, .own,23,(d::D).map rgV⟩)]
def lg1_vc{b:List Int}{k c n:Nat}{M:Int}(s:Byt b)(o:c<=b.length)(t:n<=1000000)
 (g:SpB 47 [.box 100000 0,I 0,I M] [rdC b k false] (I n) [rdC b c false])
 (l:∀ {k x m},k<=b.length->(cRing 40).at b k=some (x,m)->SpB 138 [.box 100001 0] [rdC b k false,[.box 100000 0]] (rgV x) [rdC b m false,[.box 100000 0]])
 (j:∀ {k},k<=b.length->(cRing 40).at b k=none->SpB 138 [.box 100001 0] [rdC b k false,[.box 100000 0]] (rgV ([] :Rg)) [rdC b k true,[.box 100000 0]]):
 jR T Tryz.prog Tryz.f176 [.box 100001 0, .box 100002 0, .box 100003 0] [rdC b k false,[.box 100000 0],[I M],[.fn 138 [.box 100004 0]],[.box 100000 0]] (.sl ((runL (cRing 40) ([] :Rg) b n c).1.map rgV)) [rdC b (runL (cRing 40) ([] :Rg) b n c).2.1 (runL (cRing 40) ([] :Rg) b n c).2.2,[.box 100000 0],[I M],[.fn 138 [.box 100004 0]],[.box 100000 0]] :=by
 repeat' ((conv=>whnf);first|omega|refine zh (g) [100000] ?_|refine zS ?_|refine zm (λx hx=>?_)|refine zT ?_ ?_<;>intro _|fail)
 all_goals conv=>whnf
 refine lD (A:=List Rg×Nat×Nat×Bool) (λp=>match p with|(D,rem,k',f)=>lgSt b M k' f rem D) (λp=>p.2.2.1<=b.length/\p.1.length+p.2.1=n/\((p.2.2.2=false/\runL (cRing 40) ([] :Rg) b n c=(p.1++(runL (cRing 40) ([] :Rg) b p.2.1 p.2.2.1).1,(runL (cRing 40) ([] :Rg) b p.2.1 p.2.2.1).2))\/(p.2.2.2=true/\runL (cRing 40) ([] :Rg) b n c=(p.1,p.2.2.1,true)))) (λp=>p.2.1) ([],n,c,false) ?_ ⟨o,Af, .inl ⟨rfl,Af⟩⟩ ?_
 ·show Le T _ (mkSt _ _ _)
  exact zj
 rintro⟨D,rem,k',f⟩ ⟨a,hDr,hinv⟩;simp only at a hDr hinv;rcases hinv with⟨rfl,hinv⟩|⟨rfl,hinv⟩
 ·cases rem with
  |zero=>
   have e:runL (cRing 40) ([] :Rg) b n c=(D,k',false):=DY;exact OO
  |succ rem=>
   have e9:((rem:Nat):Int)=((rem+1:Nat):Int)-1:=Aa;cases hx:(cRing 40).at b k' with
   |none=>
    have e:runL (cRing 40) ([] :Rg) b n c=(D++[([] :Rg)],k',true):=by rw[hinv];unfold runL;rw[hx]
    have i:=j a hx;cases D with
    |nil=>
     all_goals conv=>whnf
     repeat' ((conv=>whnf);first|omega|refine zh (i) [100000,100004] ?_|refine gX (OZ rfl) (dA rfl) AX ?_|refine zS ?_|refine zm (λx hx=>?_)|refine zT ?_ ?_<;>intro _|fail)
     all_goals conv=>whnf
     refine⟨([([] :Rg)],rem,k',true),?_,⟨a,CZ, .inr ⟨rfl,e⟩⟩,BP⟩;show Le T _ (mkSt _ _ _);rw[e9];exact zj
    |cons d D=>
     have r:((d::D).map rgV).length=D.length+1:=Af;have q:D.length<=n:=FQ;have ec:(d::(D++[([] :Rg)])).map rgV=(d::D).map rgV++[rgV ([] :Rg)] :=Af;have el:(D++[([] :Rg)]).length=D.length+1:=Af;all_goals conv=>whnf
     repeat' ((conv=>whnf);first|omega|refine zh (i) [100000,100004] ?_|refine iH rfl (.inl rfl) rfl (OZ rfl) (dA rfl) Ez ?_|refine zS ?_|refine zm (λx hx=>?_)|refine zT ?_ ?_<;>intro _|fail)
     all_goals conv=>whnf
     refine⟨(d::(D++[([] :Rg)]),rem,k',true),?_,⟨a,by show(D++[([] :Rg)]).length+1+rem=n;rw[el];simp at hDr;omega, .inr ⟨rfl,e⟩⟩,BP⟩;show Le T _ (mkSt _ _ _);rw[e9,ec,el];exact zj
   |some p=>
    obtain⟨x,k2⟩:=p
    have e:runL (cRing 40) ([] :Rg) b n c=((D++[x])++(runL (cRing 40) ([] :Rg) b rem k2).1,(runL (cRing 40) ([] :Rg) b rem k2).2):=by
     rw[hinv,runL_s hx,Pq];rfl
    have i:=l a hx;have hk2:=(Cod.at_le hx a).2;cases D with
    |nil=>
     all_goals conv=>whnf
     repeat' ((conv=>whnf);first|omega|refine zh (i) [100000,100004] ?_|refine gX (OZ rfl) (dA rfl) AX ?_|refine zS ?_|refine zm (λx hx=>?_)|refine zT ?_ ?_<;>intro _|fail)
     all_goals conv=>whnf
     exact NG
    |cons d D=>
     have r:((d::D).map rgV).length=D.length+1:=Af;have q:D.length<=n:=FQ;have ec:(d::(D++[x])).map rgV=(d::D).map rgV++[rgV x] :=Af;have el:(D++[x]).length=D.length+1:=Af;all_goals conv=>whnf
     repeat' ((conv=>whnf);first|omega|refine zh (i) [100000,100004] ?_|refine iH rfl (.inl rfl) rfl (OZ rfl) (dA rfl) Ez ?_|refine zS ?_|refine zm (λx hx=>?_)|refine zT ?_ ?_<;>intro _|fail)
     all_goals conv=>whnf
     exact N7
 ·rw[hinv]
  cases D with
  |nil=>exact H6
  |cons d D=>exact H6
def lg0_vc{b:List Int}{k:Nat}{M:Int}(g:SpB 47 [.box 100000 0,I 0,I M] [rdC b k false] (I 0) [rdC b k true]):
 jR T Tryz.prog Tryz.f176 [.box 100001 0, .box 100002 0, .box 100003 0] [rdC b k false,[.box 100000 0],[I M],[.fn 138 [.box 100004 0]],[.box 100000 0]] (.sl []) [rdC b k true,[.box 100000 0],[I M],[.fn 138 [.box 100004 0]],[.box 100000 0]] :=by
 repeat' ((conv=>whnf);first|omega|refine zh (g) [100000] ?_|refine zS ?_|refine zm (λx hx=>?_)|refine zT ?_ ?_<;>intro _|fail)
 all_goals conv=>whnf
 refine lD (A:=Unit) (λ_=>mkSt [(0, .box 100001 0),(1, .box 100002 0),(2, .box 100003 0),(4, .lit (.slice none 0 0)),(5,I 0)] [(100000,rdC b k true),(100001,[.box 100000 0]),(100002,[I M]),(100003,[.fn 138 [.box 100004 0]]),(100004,[.box 100000 0])] []) (λ_=>True) (λ_=>0) () ?_ trivial (λ_ _=>?_)
 ·exact zj
 ·exact IK
end Go.Proofs.Led
