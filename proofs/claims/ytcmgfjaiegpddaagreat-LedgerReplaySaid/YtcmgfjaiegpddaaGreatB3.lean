/- Lemmas. -/
import Derived.Test.YtcmgfjaiegpddaaGreatB2
set_option linter.all false
set_option maxRecDepth 100000
set_option maxHeartbeats 4000000
noncomputable section
namespace Go.Proofs.Led
open Go Go.Proofs Go.Ab Tryz
def fB6{g:FuncId}{c d:List V}{Q:Vc->Prop}(i:∀m,Sp g (vcV m:: [.fp c, .fp d]) (DB (Q m)))(l:List Vc)(n:l.length<=1000000):fnVC T Tryz.prog Tryz.f275 [.sl (l.map vcV), .fn g [.fp c, .fp d]] (I (fstI Q l)):=by
 have j:(l.map vcV).length=l.length:=Af;repeat' ((conv=>whnf);first|refine zS ?_|fail)
 refine aU (A:=List Vc) (B:=List Vc) (λD R=>mkSt [(0, .sl (l.map vcV)),(1, .fn g [.fp c, .fp d]),(7,I l.length),(8,I D.length)] [] [])
  (λD R=>l=D++R/\∀m∈D,¬Q m) (λD R=>R.length) [] l ?_ ⟨rfl,Af⟩ (λD R k=>?_)
 exact zj;obtain⟨h1,h2⟩:=k;have a:l.length=D.length+R.length:=BD;have hD:∀y∈D,(!decB (Q y))=true:=λy hy=>Dy;cases R with
 |nil=>
  have e:l=D:=BD;simp at a;repeat' ((conv=>whnf);first|omega|refine zS ?_|refine zl (λb=>?_) (λb=>?_))
  conv=>whnf
  refine aG ?_;unfold fstI;rw[Ph (iO.2 FK)]
 |cons x R=>
  rw[PE]at a;repeat' ((conv=>whnf);first|omega|refine aF (l:=l) (A:=D) (x:=x) (B:=R) h1 Aa ?_|refine zc (i x) ?_|refine zS ?_|refine zd (λhd=>?_) (λhd=>?_)|refine zl (λb=>?_) (λb=>?_))
  conv=>whnf
  refine aG ?_;have e:fst Q l=D.length:=AU;unfold fstI;rw[e,Pm Aa];conv=>whnf
  refine⟨(D++[x],R),?_,⟨?_,?_⟩,?_⟩
  ·refine dV ?_ ?_ ?_ ?_
   all_goals repeat' (first|exact trivial|refine And.intro ?_ ?_|with_reducible rfl|exact(λh=>Ag)|exact Po _|omega|exact rfl)
   show(D.length:Int)+1=(D++[x]).length;simp
  show l=D++[x] ++R;rw[h1];simp;intro m f;rcases Pv.1 f with f|f;exact h2 m f;rw[Py.1 f];exact hd;show R.length< (x::R).length;simp
def eH6{g:FuncId}{c d:List V}{Q:Vc->Prop}(a:∀m,Sp g (vcV m:: [.fp c, .fp d]) (DB (Q m)))(l:List Vc)(b:l.length<=1000000):Sp 275 [.sl (l.map vcV), .fn g [.fp c, .fp d]] (I (fstI Q l)):=zsp func275 (fB6 a l b)
def fB1{g:FuncId}{c d:List V}{Q:Vc->Prop}(a:∀m,Sp g (vcV m:: [.fp c, .fp d]) (DB (Q m)))(l:List Vc)(b:l.length<=1000000):fnVC T Tryz.prog Tryz.f229 [.sl (l.map vcV), .fn g [.fp c, .fp d]] (DB (∃m∈l,Q m)):=by
 repeat' ((conv=>whnf);first|refine zc (eH6 a l b) ?_|refine zS ?_|fail)
 exact Lp
def eC1{g:FuncId}{c d:List V}{Q:Vc->Prop}(a:∀m,Sp g (vcV m:: [.fp c, .fp d]) (DB (Q m)))(l:List Vc)(b:l.length<=1000000):Sp 229 [.sl (l.map vcV), .fn g [.fp c, .fp d]] (DB (∃m∈l,Q m)):=zsp func229 (fB1 a l b)
def dR4(b:Rg)(n:Int)(a:b.length<=1000000)(v:Vc):Sp 230 [vcV v, .fp [rgV b], .fp [I n]] (DB (¬fJ b v=n)):=by
 refine zsp func230 ?_;repeat' ((conv=>whnf);first|refine zc (cL0 b v a) ?_|refine zS ?_|fail)
 all_goals conv=>whnf
 all_goals refine aA (aF6 ?_)
 all_goals exact dY0
def tX(r b:Rg)(n:Int)(c:r.length<=1000000)(a:b.length<=1000000):Sp 183 [rgV r,rgV b,I n] (DB (pR r b n)):=by
 refine zsp func183 ?_;repeat' ((conv=>whnf);first|refine zc (eC1 (λv=>dR4 b n a v) r c) ?_|refine zS ?_|fail)
 all_goals conv=>whnf
 all_goals refine aA (aF6 ?_)
 rw[dW];unfold pR;constructor;intro h v hv;exact OI;rintro h ⟨v,hv,hn⟩;exact hn (h v hv)
def aK9{r:Rg}(h:r.length<=1000000):(bF r).length<=1000000:=by
 unfold bF;split<;>simp;omega
def vS(a b:Rg)(g:a.length<=1000000)(i:b.length<=1000000):Sp 184 [rgV a,rgV b] (DB (uV a b)):=by
 refine zsp func184 ?_;have d:=qE a g;have e:=qE b i;have j:=aK9 g;have k:=aK9 i;generalize hP:uV a b=P;have f:P↔uV a b:=FX;unfold uV at f;generalize bF a=A at*;generalize bF b=B at*;repeat' ((conv=>whnf);first|refine zc d ?_|refine zS ?_|fail)
 refine aU (A:=List Sg) (B:=List Sg) (λD R=>mkSt [(1,rgV b),(10, .arr 10 0),(11,I A.length),(12,I D.length)] [] [(10,⟨0, .own,275,A.map sgV⟩)]) (λD R=>A=D++R/\∀x∈D,∀y∈B,dG x y=0) (λD R=>R.length) [] A ?_ ⟨rfl,Af⟩ (λD R hp=>?_);exact Ij;obtain⟨hp,hD⟩:=hp;cases R with
 |nil=>
  have c:A.length=D.length:=Ad;repeat' ((conv=>whnf);first|omega|refine zS ?_|refine zT ?_ ?_<;>intro _|fail)
  all_goals conv=>whnf
  refine aA (fE (f.2 ?_));rw[hp,Pz];exact hD
 |cons x R=>
  have c:=aO hp;repeat' ((conv=>whnf);first|omega|refine dS rfl rfl CJ ?_|refine aF (l:=A) (A:=D) (x:=x) (B:=R) hp Aa ?_|refine zc e ?_|refine zS ?_|refine zT ?_ ?_<;>intro _|fail)
  refine aU (A:=List Sg) (B:=List Sg) (λE S=>mkSt [(1,rgV b),(6, .box 6 0),(10, .arr 10 0),(11,I A.length),(12,I D.length),(17, .arr 17 0),(18,I B.length),(19,I E.length)] [(6,(sgV x).cells)] [(10,⟨0, .own,275,A.map sgV⟩),(17,⟨0, .own,275,B.map sgV⟩)]) (λE S=>B=E++S/\∀y∈E,dG x y=0) (λE S=>S.length) [] B ?_ ⟨rfl,Af⟩ (λE S hq=>?_);exact Ij;obtain⟨hq,hE⟩:=hq;cases S with
  |nil=>exact Lc
  |cons y S=>
   have hlen2:=aO hq;repeat' ((conv=>whnf);first|omega|refine dS rfl rfl CO ?_|refine aF (l:=B) (A:=E) (x:=y) (B:=S) hq Aa ?_|refine zc (aS9 x y) ?_|refine zS ?_|refine zT ?_ ?_<;>intro _|fail)
   all_goals conv=>whnf
   all_goals first
    |(refine aA (aC ?_);rw[f];intro h;exact absurd (h x Ad y Az) Ah)
    |skip
   exact Om
def eE1{T:Tab}{σ:St}{x:ItC}{k:Option Nat}{Q:ItQ}{A B:Type}(st:A->B->St)(g:A->B->Option Nat)(inv:A->B->Prop)(m:A->B->Nat)(d:A)(f:B)(j:Le T σ (st d f))(l:inv d f)(n:g d f=k)(h:∀a b,inv a b->x (g a b) (st a b) λe i c=>match e with
 | .normal=>∃p':A×B,Le T c (st p'.1 p'.2)/\inv p'.1 p'.2/\g p'.1 p'.2=i/\m p'.1 p'.2<m a b
 |e=>Q e i c):bX4 T x k σ Q:=
 eD4 (A:=A×B) (λp=>st p.1 p.2) (λp=>g p.1 p.2) (λp=>inv p.1 p.2) (λp=>m p.1 p.2) (d,f) j l n (λp o=>h p.1 p.2 o)
def iI(s:Sh):List (List V):=(rings s).map λr=> [rgV r]
def eE3(s:Sh):(iI s)[0]? =some [rgV s.outer] :=rfl
def dK1{s:Sh}{D R:List Rg}{h:Rg}(a:s.holes=D++h::R):(iI s)[D.length+1]? =some [rgV h] :=by
 unfold iI rings;rw[PK,Qi,a];simp
def dD3(r:Rg):bM [rgV r] :=by
 refine aH.2 (λy a=>?_);rw[Py.1 a];unfold rgV;simp only[V.ok];exact aH.2 (λz b=>by obtain⟨v,_,rfl⟩:=PI.1 b;simp[vcV,I,V.ok,V.okL])
def dW4(s:Sh)(d:s.holes.length<=1000000):itVC T Tryz.prog Tryz.f209 [.fp (shV s).cells] (iI s):=by
 intro l;have b:(iI s).length=s.holes.length+1:=by unfold iI rings;simp
 repeat' ((conv=>whnf);first|refine cD0 ?_|refine dE2 (eE3 s) (dD3 _) ?_ ?_|refine zS ?_|fail)
 all_goals conv=>whnf
 all_goals first
  |exact trivial
  |skip
 refine eE1 (A:=List Rg) (B:=List Rg) (λD R=>mkSt [(0, .lit (.func (.yield l) ⟨[]⟩ ⟨[]⟩)),(1, .fp (shV s).cells),(11, .sl (s.holes.map rgV)),(12,I s.holes.length),(13,I D.length)] [] []) (λD R=>some (D.length+1)) (λD R=>s.holes=D++R) (λD R=>R.length) [] s.holes ?_ rfl rfl (λD R hp=>?_);exact Ie;have c:(s.holes.map rgV).length=s.holes.length:=Af;cases R with
 |nil=>
  have a:s.holes.length=D.length:=Ad;repeat' ((conv=>whnf);first|(exfalso;omega)|refine cD0 ?_|refine zT ?_ ?_<;>intro _|refine zS ?_|fail)
  all_goals conv=>whnf
  show D.length+1=(iI s).length;omega
 |cons h R=>
  have a:=aO hp;repeat' ((conv=>whnf);first|(exfalso;omega)|refine cD0 ?_|refine dE2 (dK1 hp) (dD3 _) ?_ ?_|refine zS ?_|refine zT ?_ ?_<;>intro _|fail)
  all_goals conv=>whnf
  all_goals first
   |exact trivial
   |skip
  refine⟨(D++[h],R),?_,Ad,Af,Af⟩;exact L8
def vJ(s:Sh)(a:s.holes.length<=1000000):aB0 T Tryz.prog 209 [.fp (shV s).cells] (iI s):=
 dZ5 uG mixed func209 Ac (QA Ac) Ac (dW4 s a)
def rQ(s:Sh):Sp 173 [shV s] (.fn 209 [.fp (shV s).cells]):=by
 refine zsp func173 ?_;repeat' ((conv=>whnf);first|refine zS ?_|fail)
 all_goals conv=>whnf
 exact Nh
def aM3{T:Tab}{P:Program}{σ:St}{f:Operand}{g:FuncId}{d:List V}{ps wr:List Nat}{x y:aA2}{Q:Exit->St->Prop}(c:List (List V))(v:aB0 T P g d c)(u:∀l∈c,l.length=ps.length){A B:Type}(st:A->B->St)(inv:Nat->A->B->Prop)(m:A)(n:B)
 (q:Le T σ (st m n))(r:inv 0 m n)(t:(st m n).ev f= .fn g d)(h:∀k a b l,inv k a b->c[k]? =some l->x ⟨cM2 ps l (st a b).env,(st a b).bx,(st a b).ar⟩ λe o=>match e with
  | .normal=>y o λe j=>match e with
    | .normal=>∃p':A×B,Le T (sJ wr j) (st p'.1 p'.2)/\inv (k+1) p'.1 p'.2
    | .ret=>Q .ret (sJ wr j)
    | .exit i=>Q (.exit i) (sJ wr j)
    |_=>False
  |_=>False)(s:∀a b,inv c.length a b->Q .normal (st a b)):aO0 T P f g d ps wr x y σ Q:=
 eS1 c v u (A:=A×B) (λp=>st p.1 p.2) (λk p=>inv k p.1 p.2) (m,n) q r t (λk p l=>h k p.1 p.2 l) (λp=>s p.1 p.2)
def idx_eq{a:Type}{f:a->V}{xs:List V}{l A B:List a}{x:a}{i:Nat}{K:V->Prop}(c:xs=l.map f)(h:l=A++x::B)(hi:i=A.length)(b:K (f x)):idx xs i K:=by
 subst c;exact aF h hi b
def gV(s:Sh):Prop:=s.outer.length<=1000000/\s.holes.length<=1000000/\∀h∈s.holes,h.length<=1000000
def gV.mem{s:Sh}(h:gV s){r:Rg}(hr:r∈rings s):r.length<=1000000:=by
 exact Ou
def vC(s:Sh):∀a∈iI s,a.length=1:=λa h=>by
 obtain⟨r,_,rfl⟩:=PI.1 h;rfl
def aE4{s:Sh}{D R:List Rg}{a:List V}(c:rings s=D++R)(h:(iI s)[D.length]? =some a):∃r b,R=r::b/\a=[rgV r] :=by
 unfold iI at h;rw[c,PK]at h;cases R<;>simp_all
theorem aN4(D:List Rg)(r:Rg):corners (D++[r])=corners D+r.length:=by unfold corners;simp
def zF9{D:List Rg}(h:∀r∈D,dM r):corners D<=40*D.length:=by
 induction D with
 |nil=>simp[corners]
 |cons d D b=>
  have a:=(h d Af).2.1;grind [PE,corners]
def Fits(s:Sh):Prop:=s.outer.length<=9223372036854775807/\s.holes.length<=1000000/\∀h∈s.holes,h.length<=9223372036854775807
def Fits.mem{s:Sh}(h:Fits s){r:Rg}(hr:r∈rings s):r.length<=9223372036854775807:=by
 exact Ou
theorem gV.fits{s:Sh}(h:gV s):Fits s:=⟨by have:=h.1;omega,h.2.1,λr a=>by have:=h.2.2 r a;omega⟩
def cA2(r:Rg)(c:r.length<=9223372036854775807):Sp 182 [rgV r] (DB (dM r)):=by
 by_cases h:r.length<=1000000;exact lN r h;have e:DB (dM r)= .lit (.bool false):=PN (λb=>V.lit (.bool b)) (dW.2 (λq=>by have:=q.2.1;omega));rw[e];refine zsp func182 ?_;have a:(r.map vcV).length=r.length:=Af;exact NI
def wQ(s:Sh)(Y:Fits s):Sp 150 [shV s] (DB (bG s)):=by
 refine zsp func150 ?_;have W:(s.holes.map rgV).length=s.holes.length:=Af;generalize hP:bG s=P;have c:P↔bG s:=FX;unfold bG at c;repeat' ((conv=>whnf);first|refine zc (rQ s) ?_|refine zS ?_|refine zT ?_ ?_<;>intro _|fail)
 all_goals conv=>whnf
 all_goals first
  |(refine aA (aC ?_);rw[c];intro h;obtain⟨h1,h2,H,J⟩:=h;first|omega|contradiction)
  |skip
 have T:s.holes.length<=6:=Aa
 refine aM3 (iI s) (vJ s Aa) (vC s) (A:=List Rg) (B:=List Rg) (λD R=>mkSt [(1, .box 1 0),(2, .box 2 0),(3, .box 3 0),(14, .fn 209 [.fp (shV s).cells])] [(1,(shV s).cells),(2,[.lit (.bool false)]),(3,[I (corners D)])] [])
  (λk D R=>rings s=D++R/\D.length=k/\∀r∈D,dM r) [] (rings s) ?_ ⟨rfl,rfl,Af⟩ rfl ?_ ?_
 exact zj
 ·rintro k D R it ⟨hp,v,j⟩ u
  subst v;obtain⟨r,O,rfl,rfl⟩:=aE4 hp u;have e:=aO hp;have y:(rings s).length=s.holes.length+1:=BF;have F:r.length<=9223372036854775807:=Y.mem Ad;have V:=zF9 j;have w:(r.map vcV).length=r.length:=Af;have Q:((corners (D++[r]):Nat):Int)=(corners D:Int)+((r.map vcV).length:Nat):=by rw[aN4,w];simp
  have N:=cA2 r F;rcases Qx 40 r.length with M|Z
  ·have X:¬dM r:=λh=>by have:=h.2.1;omega
   repeat' ((conv=>whnf);first|(exfalso;contradiction)|refine zc N ?_|refine zS ?_|refine zT ?_ ?_<;>intro _|fail)
   all_goals conv=>whnf
   refine aA (aC ?_);rw[c];intro h;exact absurd (h.2.1 r Ad) Ah
  repeat' ((conv=>whnf);first|refine zc N ?_|refine zS ?_|refine zT ?_ ?_<;>intro _|fail)
  all_goals conv=>whnf
  refine⟨(D++[r],O),?_,Ad,Af,λq hq=>?_⟩;simp only[Q];exact zj;rcases Pv.1 hq with hq|hq;exact j q hq;rw[Py.1 hq];assumption;refine aA (aC ?_);rw[c];intro h;exact absurd (h.2.1 r Ad) Ah
 rintro D R ⟨hp,v,j⟩;have t:R=[] :=I5;subst t;rw[Pz]at hp;subst hp;clear v;have y:(rings s).length=s.holes.length+1:=BF;have V:=zF9 j;repeat' ((conv=>whnf);first|refine zS ?_|refine zT ?_ ?_<;>intro _|fail)
 all_goals conv=>whnf
 all_goals first
  |(refine aA (aC ?_);rw[c];intro h;obtain⟨h1,h2,H,J⟩:=h;first|omega|contradiction)
  |skip
 have f:∀r∈rings s,r.length<=40:=λr c=>(j r c).2.1;have d:gV s:=⟨by have:=f s.outer BF;omega,Aa,λr c=>by have:=f r (by unfold rings;simp[c]);omega⟩;clear f;have n:corners (rings s)<=80:=Aa;have C:P↔qR s.outer [] s.holes:=c.trans ⟨λh=>h.2.2.2,λh=>⟨T,j,n,h⟩⟩;refine aU (A:=List Rg) (B:=List Rg) (λD R=>mkSt [(1, .box 1 0),(2, .box 2 0),(26, .sl (s.holes.map rgV)),(27,I s.holes.length),(28,I D.length)] [(1,(shV s).cells),(2,[.lit (.bool false)])] []) (λD R=>s.holes=D++R/\(P↔qR s.outer D R)) (λD R=>R.length) [] s.holes ?_ ⟨rfl,C⟩ (λD R hp=>?_);exact Ie;obtain⟨hp,a⟩:=hp;cases R with
 |nil=>
  have e:s.holes.length=D.length:=Ad;repeat' ((conv=>whnf);first|omega|refine zS ?_|refine zT ?_ ?_<;>intro _|fail)
  all_goals conv=>whnf
  exact aA (fE (a.2 trivial))
 |cons h R=>
  have e:=aO hp;have b:h.length<=1000000:=d.2.2 h Ad;rw[qR]at a;unfold cU0 at a;have G:((s.holes.map rgV).take ((D.length:Nat):Int).toNat)=D.map rgV:=by rw[Qc,hp];simp
  repeat' ((conv=>whnf);first|omega|refine aF (l:=s.holes) (A:=D) (x:=h) (B:=R) hp Aa ?_|refine zc (tX h s.outer 2 b d.1) ?_|refine zc (vS h s.outer b d.1) ?_|refine fU ⟨Aa,Aa,Aa, .inl rfl⟩ ?_|refine zS ?_|refine zT ?_ ?_<;>intro _|fail)
  all_goals conv=>whnf
  all_goals first
   |(refine aA (aC ?_);rw[a];intro h;obtain⟨⟨h1,h2,H⟩,J⟩:=h;contradiction)
   |skip
  refine aU (A:=List Rg) (B:=List Rg) (λE S=>mkSt [(1, .box 1 0),(2, .box 2 0),(6,rgV h),(26, .sl (s.holes.map rgV)),(27,I s.holes.length),(28,I D.length),(48, .sl (List.drop (Int.toNat 0) (List.take ((D.length:Nat):Int).toNat (List.map rgV s.holes)))),(49,I (List.drop (Int.toNat 0) (List.take ((D.length:Nat):Int).toNat (List.map rgV s.holes))).length),(50,I E.length)] [(1,(shV s).cells),(2,[.lit (.bool false)])] []) (λE S=>D=E++S/\∀k∈E,uV h k/\pR h k 0/\pR k h 0) (λE S=>S.length) [] D ?_ ⟨rfl,Af⟩ (λE S hq=>?_);exact zj;obtain⟨hq,K⟩:=hq;have L:(List.drop (Int.toNat 0) (List.take ((D.length:Nat):Int).toNat (List.map rgV s.holes)))=D.map rgV:=G;have U:(List.drop (Int.toNat 0) (List.take ((D.length:Nat):Int).toNat (List.map rgV s.holes))).length=D.length:=by rw[L,P6]
  cases S with
  |nil=>
   have i:D.length=E.length:=Az;have o:D=E:=Az;repeat' ((conv=>whnf);first|omega|refine zS ?_|refine zT ?_ ?_<;>intro _|fail)
   all_goals conv=>whnf
   refine⟨(D++[h],R),?_,⟨Ad,?_⟩,Af⟩;exact Ih;rw[a];exact⟨λq=>q.2,λq=>⟨⟨Ah,Ah,by rw[o];exact K⟩,q⟩⟩
  |cons k S=>
   have i:=aO hq;have g:k.length<=1000000:=d.2.2 k (by rw[hp,hq];simp);repeat' ((conv=>whnf);first|omega|refine idx_eq (l:=D) (A:=E) (x:=k) (B:=S) L hq Aa ?_|refine zc (vS h k b g) ?_|refine zc (tX h k 0 b g) ?_|refine zc (tX k h 0 g b) ?_|refine zS ?_|refine zT ?_ ?_<;>intro _|fail)
   all_goals conv=>whnf
   all_goals first
    |(refine aA (aC ?_);rw[a];intro q;have q1:=q.1.2.2 k Az;obtain⟨q2,q3,q4⟩:=q1;contradiction)
    |skip
   refine⟨(E++[k],S),?_,⟨Az,λz m=>?_⟩,Af⟩;exact Ih;rcases Pv.1 m with m|m;exact K z m;rw[Py.1 m];exact⟨Ah,Ah,Ah⟩
def kK(s:Sh)(a:gV s):Sp 150 [shV s] (DB (bG s)):=wQ s a.fits
def eI3{s:Sh}(h:bG s):uK s=qH (W (2*nG s.outer)) (rings s):=Pm h
def eC2{s:Sh}(h:¬bG s):uK s=0:=Ph h
def dS3(n:Int)(D:List Rg)(r:Rg):qH n (D++[r])=W (qH n D-nG r):=by unfold qH;rw[QN];rfl
def cG8(s:Sh)(a:gV s):Sp 133 [shV s] (I (uK s)):=by
 refine zsp func133 ?_;have h1:=eI3 (s:=s);have h2:=eC2 (s:=s);generalize uK s=A at*;have j:s.outer.length<=1000000:=a.1;repeat' ((conv=>whnf);first|refine zc (kK s a) ?_|refine zc (aX1 s.outer a.1) ?_|refine zc (rQ s) ?_|refine zg ?_|refine zw ?_|refine zn ?_|refine zz (λ_=>?_) λ_=>?_|refine zr ?_)
 all_goals conv=>whnf
 all_goals first
  |exact aG (h2 Ah).symm
  |skip
 have i:=h1 Ah
 refine aM3 (iI s) (vJ s a.2.1) (vC s) (A:=List Rg) (B:=List Rg) (λD R=>mkSt [(1, .box 1 0),(3, .box 3 0),(13, .fn 209 [.fp (shV s).cells])] [(1,(shV s).cells),(3,[I (qH (W (2*nG s.outer)) D)])] [])
  (λk D R=>rings s=D++R/\D.length=k) [] (rings s) ?_ ⟨rfl,rfl⟩ rfl ?_ ?_
 exact zj
 ·rintro k D R l ⟨hp,e⟩ c
  subst e;obtain⟨r,f,rfl,rfl⟩:=aE4 hp c;have d:r.length<=1000000:=a.mem Ad;have es:=dS3 (W (2*nG s.outer)) D r;generalize W (2*nG s.outer)=g at*;repeat' ((conv=>whnf);first|refine zc (aX1 r d) ?_|refine zi ?_|refine zw ?_)
  all_goals conv=>whnf
  refine⟨(D++[r],f),?_,Ad,Af⟩;simp only[es];exact zj
 rintro D R ⟨hp,e⟩;have b:R=[] :=I5;subst b;rw[Pz]at hp;subst hp;generalize W (2*nG s.outer)=g at*;repeat' ((conv=>whnf);first|refine zS ?_|fail)
 all_goals conv=>whnf
 exact aG i.symm
def dP7{s:Sh}{p:Pt}(h:¬bG s):qW s p=0:=Ph h
def bQ2{s:Sh}{p:Pt}(h:bG s)(a:¬iF s.outer p=2):qW s p=iF s.outer p:=by unfold qW;rw[Pm h,Ph a]
def bP9{s:Sh}{p:Pt}(h:bG s)(a:iF s.outer p=2):qW s p=qG 2 p s.holes:=by unfold qW;rw[Pm h,Pm a]
def dX1{o:Int}{p:Pt}{h:Rg}{l:List Rg}(q:iF h p=2):qG o p (h::l)=0:=by rw[qG,Pm q]
def eB4{o:Int}{p:Pt}{h:Rg}{l:List Rg}(q:iF h p=1):qG o p (h::l)=1:=by rw[qG,Ph (by omega),Pm q]
def dW5{o:Int}{p:Pt}{h:Rg}{l:List Rg}(q:¬iF h p=2)(a:¬iF h p=1):qG o p (h::l)=qG o p l:=by rw[qG,Ph q,Ph a]
def cA8(s:Sh)(p:Pt)(c:gV s):Sp 292 [shV s,ptV p] (I (qW s p)):=by
 refine zsp func292 ?_;have g:=dP7 (s:=s) (p:=p);have i:=bQ2 (s:=s) (p:=p);have j:=bP9 (s:=s) (p:=p);have t:=aB7 s.outer p c.1;have n:(s.holes.map rgV).length=s.holes.length:=Af;have k:=c.2.1;generalize qW s p=A at*;generalize iF s.outer p=r at*;repeat' ((conv=>whnf);first|refine zc (kK s c) ?_|refine zS ?_|refine zT ?_ ?_<;>intro _|fail)
 all_goals conv=>whnf
 all_goals first
  |exact aG (g Ah).symm
  |exact aG (i Ah Ah).symm
  |skip
 have b:=j Ah Ah;refine aU (A:=List Rg) (B:=List Rg) (λD R=>mkSt [(3, .box 3 0),(5,I r),(19, .sl (s.holes.map rgV)),(20,I s.holes.length),(21,I D.length)] [(3,(ptV p).cells)] []) (λD R=>s.holes=D++R/\A=qG 2 p R) (λD R=>R.length) [] s.holes ?_ ⟨rfl,b⟩ (λD R hp=>?_);exact Ie;obtain⟨hp,b⟩:=hp;cases R with
 |nil=>
  have a:s.holes.length=D.length:=Ad;repeat' ((conv=>whnf);first|omega|refine zS ?_|refine zT ?_ ?_<;>intro _|fail)
  all_goals conv=>whnf
  exact aG (by rw[b];show _=(2:Int);omega)
 |cons h R=>
  have a:=aO hp;have m:h.length<=1000000:=c.2.2 h Ad;have f:=dX1 (o:=2) (p:=p) (h:=h) (l:=R);have e:=eB4 (o:=2) (p:=p) (h:=h) (l:=R);have d:=dW5 (o:=2) (p:=p) (h:=h) (l:=R);have q:=aB7 h p m;rw[<-b]at d e f;generalize iF h p=wh at*;repeat' ((conv=>whnf);first|omega|refine zS ?_|refine zT ?_ ?_<;>intro _|fail)
  all_goals conv=>whnf
  all_goals first
   |exact aG (f Ah).symm
   |exact aG (e Ah).symm
   |skip
  refine⟨(D++[h],R),?_,⟨Ad,d Ah Ah⟩,Af⟩;exact L8
def cO2{s:Sh}{v:Vc}(h:within v 4000):lJ s v=qW s (v.1,v.2,1):=Pm h
def eC0{s:Sh}{v:Vc}(h:¬within v 4000):lJ s v=0:=Ph h
def aD4(s:Sh)(v:Vc)(c:gV s):Sp 244 [shV s,vcV v] (I (lJ s v)):=by
 refine zsp func244 ?_;have a:=cO2 (s:=s) (v:=v);have b:=eC0 (s:=s) (v:=v);generalize lJ s v=A at*;repeat' ((conv=>whnf);first|refine zc (kC v 4000) ?_|refine zc (zN v) ?_|refine zc (cA8 s (v.1,v.2,1) c) ?_|refine zS ?_|refine zT ?_ ?_<;>intro _|fail)
 all_goals conv=>whnf
 all_goals first
  |exact aG (b Ah).symm
  |exact aG (a Ah).symm
open Classical in
def boxS(s:Sh):Bx×Bool:=if bG s then boxR s.outer else(((0,0),(0,0)),false)
def eG7{s:Sh}(h:bG s):boxS s=boxR s.outer:=Pm h
def eW5{s:Sh}(h:¬bG s):boxS s=(((0,0),(0,0)),false):=Ph h
def aS0(s:Sh)(b:gV s):Sp 112 [shV s] (.tup [bxV (boxS s).1, .lit (.bool (boxS s).2)]):=by
 refine zsp func112 ?_;have c:=eG7 (s:=s);have d:=eW5 (s:=s);have e:=dL2 s.outer b.1;generalize boxS s=A at*;generalize boxR s.outer=B at*;repeat' ((conv=>whnf);first|refine zc (kK s b) ?_|refine zS ?_|refine zd (λa=>?_) (λa=>?_))
 ·rw[c a]
  all_goals exact zE
 rw[d a];all_goals exact zE
def gX{xs:List V}{a size:Nat}{K:Prop}(d:a<=10000)(c:∀x∈xs,x.cells.length=size)(b:xs.length<=1000000000)(e:K):need (xs.length*a<=140737488355328/\xs.length<=140737488355328/\∀x∈xs,x.cells.length=size) K:=by
 have:=Sv b d;exact fU ⟨Aa,Aa,c⟩ e
def d0(D:List Rg)(r:Rg):List Rg:=D++[r]
def edgSt(s:Sh)(D:List Rg):St:=match D with
 | [] =>mkSt [(1, .box 1 0),(3, .box 3 0),(6, .fn 209 [.fp (shV s).cells])] [(1,(shV s).cells),(3,[nilV])] []
 |d::D=>mkSt [(1, .box 1 0),(3, .box 3 0),(6, .fn 209 [.fp (shV s).cells])] [(1,(shV s).cells),(3,[.arr 11 D.length])] [(11,⟨D.length, .own,275,((d::D).flatMap bF).map sgV⟩)]
def aX0(l:List Sg):∀y∈l.map sgV,y.cells.length=4:=λy hy=>AP
def cM5{r:Rg}(h:r.length<=1000000):((bF r).map sgV).length<=1000000:=by rw[P6];exact aK9 h
def bC1{s:Sh}(f:gV s)(l:s.holes.length<=6){D R:List Rg}(hp:rings s=D++R):(D.flatMap bF).length<=7000000:=by
 have d:∀(E:List Rg),(∀r∈E,(bF r).length<=1000000)->(E.flatMap bF).length<=1000000*E.length:=by
  intro E;induction E with
  |nil=>intro _;simp
  |cons e E g=>
   intro h;have a:=h e Af;have b:=g (λr c=>h r (by simp[c]));exact Oz
 have i:=d D (λr c=>aK9 (f.mem (by rw[hp];simp[c])));have j:(rings s).length=D.length+R.length:=Ad;have k:(rings s).length=s.holes.length+1:=BF;omega
def aV8(s:Sh)(f:gV s)(j:s.holes.length<=6):Sp 239 [shV s] (.own 275 ((aC0 s).map sgV)):=by
 refine zsp func239 ?_;repeat' ((conv=>whnf);first|refine zc (rQ s) ?_|refine zS ?_|fail)
 all_goals conv=>whnf
 refine aM3 (iI s) (vJ s f.2.1) (vC s) (A:=List Rg) (B:=List Rg) (λD R=>edgSt s D)
  (λk D R=>rings s=D++R/\D.length=k) [] (rings s) ?_ ⟨rfl,rfl⟩ rfl ?_ ?_
 exact zj
 ·rintro k D R o ⟨hp,i⟩ e
  subst i;obtain⟨r,g,rfl,rfl⟩:=aE4 hp e;have a:r.length<=1000000:=f.mem Ad;have m:=bC1 f j hp;have l:=cM5 a;have c:(((d0 D r:List Rg).flatMap bF).map sgV)=(D.flatMap bF).map sgV++(bF r).map sgV:=by unfold d0;simp
  cases D with
  |nil=>
   repeat' ((conv=>whnf);first|refine zc (qE r a) ?_|refine gX (OZ rfl) (aX0 _) (show((bF r).map sgV).length<=1000000000 from Aa) ?_|refine zS ?_|fail)
   all_goals conv=>whnf
   refine⟨([r],g),?_,by rw[hp];rfl,rfl⟩;show Le T _ (mkSt [(1, .box 1 0),(3, .box 3 0),(6, .fn 209 [.fp (shV s).cells])] [(1,(shV s).cells),(3,[.arr 11 0])] [(11,⟨0, .own,275,(([r] :List Rg).flatMap bF).map sgV⟩)]);rw[show([r] :List Rg).flatMap bF=bF r from Af];exact zj
  |cons d D=>
   have n:(((d::D).flatMap bF).map sgV).length=((d::D).flatMap bF).length:=P6 ..;repeat' ((conv=>whnf);first|refine zc (qE r a) ?_|refine iH rfl (.inl rfl) rfl (OZ rfl) (aX0 _) (show(((d::D).flatMap bF).map sgV).length+((bF r).map sgV).length<=1000000000 from Aa) ?_|refine zS ?_|fail)
   all_goals conv=>whnf
   refine⟨(d::D++[r],g),?_,Ad,Af⟩;show Le T _ (mkSt [(1, .box 1 0),(3, .box 3 0),(6, .fn 209 [.fp (shV s).cells])] [(1,(shV s).cells),(3,[.arr 11 (D++[r]).length])] [(11,⟨(D++[r]).length, .own,275,(((d::D)++[r]).flatMap bF).map sgV⟩)]);rw[show((d::D)++[r])=d0 (d::D) r from rfl,c,OY,PL];exact zj
 rintro D R ⟨hp,i⟩;have b:R=[] :=I5;subst b;rw[Pz]at hp;unfold aC0;exact OB
end Go.Proofs.Led
