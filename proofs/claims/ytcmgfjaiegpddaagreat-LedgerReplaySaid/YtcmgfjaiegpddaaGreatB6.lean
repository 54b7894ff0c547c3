/- Lemmas. -/
import Derived.Test.YtcmgfjaiegpddaaGreatB3
import Derived.Test.YtcmgfjaiegpddaaGreatB5
set_option linter.all false
set_option maxRecDepth 100000
set_option maxHeartbeats 4000000
noncomputable section
namespace Go.Proofs.Led
open Go Go.Proofs Go.Ab Tryz
def aM5(l:List Vc):∀y∈l.map vcV,y.cells.length=2:=λy hy=>AP
def aY2(r:Rg)(d:r.length<=1000000):Sp 322 [rgV r] (.sl (r.map vcV)):=by
 refine zsp func322 ?_;have c:(r.map vcV).length=r.length:=Af;repeat' ((conv=>whnf);first|(refine bV3.mk rfl (OZ Ac) Ac (.inl rfl) ?_;intro b a;cases b)|refine iH rfl (.inl rfl) rfl (OZ rfl) (aM5 r) (by show 0+(List.map vcV r).length<=_;omega) ?_|refine zS ?_|fail)
 all_goals conv=>whnf
 ·refine⟨?_,rfl,λrs h=>V.noConfusion h⟩
  (repeat' (first|exact trivial|refine And.intro ?_ ?_|with_reducible rfl|exact(λh=>Ag)|exact rfl));done
 have e:r=[] :=by
  cases r with
  |nil=>rfl
  |cons x l=>exact absurd (a Af) Ai
 subst e;exact LD
def bH7(a b:Rg)(c:a.length<=1000000)(d:b.length<=1000000):Sp 185 [rgV a,rgV b] (DB (a=b)):=by
 refine zsp func185 ?_;repeat' ((conv=>whnf);first|refine zc (eA2 a b c d) ?_|refine zS ?_|fail)
 all_goals exact zE
def sV(lo hi:Vc):Sh:=open Classical in if hi.1<=lo.1\/hi.2<=lo.2\/¬within lo 2000\/¬within hi 2000 then sh0 else⟨[lo,(hi.1,lo.2),hi,(lo.1,hi.2)],[]⟩
def eS0{lo hi:Vc}(h:hi.1<=lo.1\/hi.2<=lo.2\/¬within lo 2000\/¬within hi 2000):sV lo hi=sh0:=Pm h
def eR9{lo hi:Vc}(h:¬(hi.1<=lo.1\/hi.2<=lo.2\/¬within lo 2000\/¬within hi 2000)):sV lo hi=⟨[lo,(hi.1,lo.2),hi,(lo.1,hi.2)],[]⟩:=Ph h
def cX1(lo hi:Vc):Sp 298 [vcV lo,vcV hi] (shV (sV lo hi)):=by
 refine zsp func298 ?_;have a:=eS0 (lo:=lo) (hi:=hi);have b:=eR9 (lo:=lo) (hi:=hi);generalize sV lo hi=A at*;repeat' ((conv=>whnf);first|refine zc (kC lo 2000) ?_|refine zc (kC hi 2000) ?_|refine zS ?_|refine zT ?_ ?_<;>intro _|fail)
 all_goals conv=>whnf
 all_goals first
  |(rw[a (by first|exact .inl ‹_› |exact .inr (.inl ‹_›)|exact .inr (.inr (.inl ‹_›))|exact .inr (.inr (.inr ‹_›)))];refine⟨?_,rfl,λc h=>V.noConfusion h⟩;(repeat' (first|exact trivial|refine And.intro ?_ ?_|with_reducible rfl|exact(λh=>Ag)|exact rfl));done)
  |(rw[b (by rintro(q|q|q|q)<;>first|omega|contradiction)];refine⟨?_,rfl,λc h=>V.noConfusion h⟩;(repeat' (first|exact trivial|refine And.intro ?_ ?_|with_reducible rfl|exact(λh=>Ag)|exact rfl));done)
def eG2{l:List Rg}{z:Int}{k:Nat}{K:V->Prop}(b:z=(k:Int))(h:k<l.length)(a:K (rgV (l.getD k []))):idx (l.map rgV) z.toNat K:=by
 subst b;refine gK (l:=l) (j:=k) (x:=l.getD k []) ?_ Aa a;exact O4
def eJ5{l:List Rg}{k:Nat}(h:k<l.length):l.take (k+1)=l.take k++[l.getD k []] :=by
 rw[List.take_add_one,PY,Pj h];rfl
def getD_mem{l:List Rg}{k:Nat}(h:k<l.length):l.getD k []∈l:=KC
def dW1(a b:List Rg)(o:a.length<=1000000)(q:b.length<=1000000)(d:∀r∈a,r.length<=1000000)(e:∀r∈b,r.length<=1000000):Sp 186 [.sl (a.map rgV), .sl (b.map rgV), .fn 185 []] (DB (a=b)):=by
 refine zsp func186 ?_;have m:(a.map rgV).length=a.length:=Af;have n:(b.map rgV).length=b.length:=Af;repeat' ((conv=>whnf);first|refine zS ?_|refine ze (λg=>?_) (λg=>?_))
 all_goals conv=>whnf
 all_goals first
  |(refine aA (aC ?_);intro h;subst h;omega)
  |skip
 have hab:a.length=b.length:=Aa;refine lD (A:=Nat) (λk=>mkSt [(0, .sl (a.map rgV)),(1, .sl (b.map rgV)),(2, .fn 185 []),(15, .sl (a.map rgV)),(16,I a.length),(17,I k)] [] []) (λk=>k<=a.length/\a.take k=b.take k) (λk=>a.length-k) 0 ?_ ⟨Aa,rfl⟩ (λk j=>?_);exact zj;obtain⟨j,ht⟩:=j;by_cases i:k<a.length
 ·have s:=bH7 (a.getD k []) (b.getD k []) (d _ (getD_mem i)) (e _ (getD_mem Aa))
  repeat' ((conv=>whnf);first|omega|refine eG2 (l:=a) (k:=k) Aa Aa ?_|refine eG2 (l:=b) (k:=k) Aa Aa ?_|refine zS ?_|refine zd (λf=>?_) (λf=>?_)|refine zl (λc=>?_) (λc=>?_))
  all_goals conv=>whnf
  refine⟨k+1,?_,⟨Aa,?_⟩,Aa⟩;exact zj;rw[eJ5 Aa,eJ5 Aa,ht,f];refine aA (aC ?_);intro h;subst h;exact f rfl
 have ek:k=a.length:=by omega
 repeat' ((conv=>whnf);first|omega|refine zS ?_|refine zl (λc=>?_) (λc=>?_))
 all_goals conv=>whnf
 exact Oh
def cQ8(a b:Sh)(c:gV a)(d:gV b):Sp 151 [shV a,shV b] (DB (a=b)):=by
 refine zsp func151 ?_
 have e:a=b↔a.outer=b.outer/\a.holes=b.holes:=by
  obtain⟨f,g⟩:=a;obtain⟨i,j⟩:=b;simp
 repeat' ((conv=>whnf);first|refine zc (bH7 a.outer b.outer c.1 d.1) ?_|refine zc (dW1 a.holes b.holes c.2.1 d.2.1 c.2.2 d.2.2) ?_|refine zS ?_|refine zT ?_ ?_<;>intro _|fail)
 all_goals conv=>whnf
 all_goals first
  |(refine aA (fQ ?_);rw[e];exact⟨λq=>⟨Ah,q⟩,λq=>q.2⟩)
  |(refine aA (aC ?_);rw[e];intro q;exact absurd q.1 Ah)
def rinSt(s:Sh)(D:List Rg):St:=match D with
 | [] =>mkSt [(1, .box 1 0),(3, .box 3 0),(6, .fn 209 [.fp (shV s).cells])] [(1,(shV s).cells),(3,[nilV])] []
 |d::D=>mkSt [(1, .box 1 0),(3, .box 3 0),(6, .fn 209 [.fp (shV s).cells])] [(1,(shV s).cells),(3,[.arr 12 D.length])] [(12,⟨D.length, .own,23,(d::D).map rgV⟩)]
def dV3{s:Sh}(a:gV s){D R:List Rg}(hp:rings s=D++R):D.length<=1000001:=by
 have b:(rings s).length=D.length+R.length:=Ad;have c:(rings s).length=s.holes.length+1:=BF;have:=a.2.1;omega
def aW6(s:Sh)(e:gV s):Sp 291 [shV s] (.own 23 ((rings s).map rgV)):=by
 refine zsp func291 ?_;repeat' ((conv=>whnf);first|refine zc (rQ s) ?_|refine zS ?_|fail)
 all_goals conv=>whnf
 refine aM3 (iI s) (vJ s e.2.1) (vC s) (A:=List Rg) (B:=List Rg) (λD R=>rinSt s D)
  (λk D R=>rings s=D++R/\D.length=k) [] (rings s) ?_ ⟨rfl,rfl⟩ rfl ?_ ?_
 exact zj
 ·rintro k D R l ⟨hp,g⟩ c
  subst g;obtain⟨r,f,rfl,rfl⟩:=aE4 hp c;have a:r.length<=1000000:=e.mem Ad;have i:=dV3 e hp;cases D with
  |nil=>
   repeat' ((conv=>whnf);first|refine zc (aY2 r a) ?_|refine gX (OZ rfl) (dA rfl) (OZ rfl) ?_|refine zS ?_|fail)
   all_goals conv=>whnf
   refine⟨([r],f),?_,by rw[hp];rfl,rfl⟩;show Le T _ (mkSt [(1, .box 1 0),(3, .box 3 0),(6, .fn 209 [.fp (shV s).cells])] [(1,(shV s).cells),(3,[.arr 12 0])] [(12,⟨0, .own,23,[rgV r]⟩)]);exact zj
  |cons d D=>
   have j:((d::D).map rgV).length=(d::D).length:=P6 ..;repeat' ((conv=>whnf);first|refine zc (aY2 r a) ?_|refine iH rfl (.inl rfl) rfl (OZ rfl) (dA rfl) (show((d::D).map rgV).length+1<=1000000000 from Aa) ?_|refine zS ?_|fail)
   all_goals conv=>whnf
   refine⟨(d::D++[r],f),?_,Ad,Af⟩;show Le T _ (mkSt [(1, .box 1 0),(3, .box 3 0),(6, .fn 209 [.fp (shV s).cells])] [(1,(shV s).cells),(3,[.arr 12 (D++[r]).length])] [(12,⟨(D++[r]).length, .own,23,((d::D)++[r]).map rgV⟩)]);rw[show((d::D)++[r]).map rgV=(d::D).map rgV++[rgV r] from Af,OY,PL];exact zj
 rintro D R ⟨hp,g⟩;have b:R=[] :=I5;subst b;rw[Pz]at hp;exact OB
def verSt(rs:List Rg)(D:List Rg):St:=match D with
 | [] =>mkSt [(3,nilV),(7, .arr 7 0),(8,I rs.length),(9,I 0)] [] [(7,⟨0, .own,23,rs.map rgV⟩)]
 |d::D=>mkSt [(3, .arr 15 D.length),(7, .arr 7 0),(8,I rs.length),(9,I ((D.length:Int)+1))] [] [(7,⟨0, .own,23,rs.map rgV⟩),(15,⟨D.length, .own,84,(d::D).flatten.map vcV⟩)]
def dH9(D:List Rg)(h:∀r∈D,r.length<=1000000):D.flatten.length<=1000000*D.length:=by
 induction D with
 |nil=>simp
 |cons d D b=>
  have c:=h d Af;have e:=b (λr a=>h r (by simp[a]));rw[List.flatten_cons,OY,PE];omega
def aJ3(s:Sh)(i:gV s)(q:s.holes.length<=6):Sp 242 [shV s] (.own 84 ((rings s).flatten.map vcV)):=by
 refine zsp func242 ?_;have o:=aW6 s i;have b:rings s≠ [] :=BF;have k:(rings s).length<=7:=by unfold rings;simp;omega
 have a:∀r∈rings s,r.length<=1000000:=λr c=>i.mem c;generalize rings s=rs at*;have l:(rs.map rgV).length=rs.length:=Af;repeat' ((conv=>whnf);first|refine zS ?_|fail)
 refine aU (A:=List Rg) (B:=List Rg) (λD R=>verSt rs D) (λD R=>rs=D++R) (λD R=>R.length) [] rs ?_ rfl (λD R hp=>?_);exact Ie;have t:=dH9 D (λr c=>a r (by rw[hp];simp[c]));cases R with
 |nil=>
  have e:rs=D:=Ad;subst e;cases rs with
  |nil=>exact absurd rfl b
  |cons d D=>
   have f:(d::D).length=D.length+1:=rfl;exact MS
 |cons r R=>
  have g:=aO hp;have m:=a r Ad;have n:(r.map vcV).length=r.length:=Af;cases D with
  |nil=>
   have f:([] :List Rg).length=0:=rfl;repeat' ((conv=>whnf);first|omega|refine dS rfl rfl Ce ?_|refine gX (OZ rfl) (aM5 _) (show(r.map vcV).length<=1000000000 from Aa) ?_|refine zS ?_|refine zT ?_ ?_<;>intro _|fail)
   all_goals conv=>whnf
   refine⟨([r],R),?_,hp,Af⟩;show Le T _ (mkSt [(3, .arr 15 0),(7, .arr 7 0),(8,I rs.length),(9,I (0+1))] [] [(7,⟨0, .own,23,rs.map rgV⟩),(15,⟨0, .own,84,([r] :List Rg).flatten.map vcV⟩)]);rw[show([r] :List Rg).flatten=r from Af];exact zj
  |cons d D=>
   have f:(d::D).length=D.length+1:=rfl;have j:((d::D).flatten.map vcV).length=(d::D).flatten.length:=P6 ..;repeat' ((conv=>whnf);first|omega|refine dS rfl rfl Ce ?_|refine iH rfl (.inl rfl) rfl (OZ rfl) (aM5 _) (show((d::D).flatten.map vcV).length+(r.map vcV).length<=1000000000 from Aa) ?_|refine zS ?_|refine zT ?_ ?_<;>intro _|fail)
   all_goals conv=>whnf
   refine⟨(d::D++[r],R),?_,Ad,Af⟩;show Le T _ (mkSt [(3, .arr 15 (D++[r]).length),(7, .arr 7 0),(8,I rs.length),(9,I (((D++[r]).length:Int)+1))] [] [(7,⟨0, .own,23,rs.map rgV⟩),(15,⟨(D++[r]).length, .own,84,((d::D)++[r]).flatten.map vcV⟩)]);rw[show((d::D)++[r]).flatten.map vcV=(d::D).flatten.map vcV++r.map vcV from Af,OY,PL];exact zj
variable{g:FuncId}{c:Rg->Rg->Int}{Q:Rg->Prop}
abbrev cF2(g:FuncId)(c:Rg->Rg->Int)(Q:Rg->Prop):Prop:=∀i j,Q i->Q j->Sp g [rgV i,rgV j] (I (c i j))
def fC7(E:cF2 g c Q)(b xs a:List Rg)(C:∀x∈xs,Q x)(K:b.length+xs.length+a.length<=100000):
 fnIO T Tryz.prog Tryz.f279 [.own 23 ((b++xs++a).map rgV),I b.length,I (b.length+xs.length), .fn g []] (.tup []) 0 23 ((b++qA c xs++a).map rgV):=by
 repeat' ((conv=>whnf);first|refine zS ?_|fail)
 refine lD (A:=Nat) (λk=>mkSt [(0, .arr 0 0),(1,I b.length),(2,I (b.length+xs.length)),(3, .fn g []),(8,I (b.length+k))] [] [(0,⟨0, .own,23,(b++(isR c (xs.take k)).reverse++xs.drop k++a).map rgV⟩)])
  (λk=>1<=k/\(k<=xs.length\/k=1)) (λk=>xs.length-k) 1 ?_ ⟨Aa, .inr rfl⟩ (λk F=>?_)
 ·refine dV ?_ ?_ ?_ ?_
  all_goals repeat' (first|exact trivial|refine And.intro ?_ ?_|with_reducible rfl|exact(λh=>Ag)|exact Po _|omega|exact rfl)
  ·show List.map rgV (b++xs++a)=List.map rgV (b++(isR c (List.take 1 xs)).reverse++List.drop 1 xs++a)
   cases xs with
   |nil=>simp[isR]
   |cons x r=>simp[isR,insR]
 ·change 1<=k/\(k<=xs.length\/k=1)at F
  rcases Qx k xs.length with f|f
  ·have u:xs.drop k=xs[k] ::xs.drop (k+1):=List.drop_eq_getElem_cons f
   have D:xs.take (k+1)=xs.take k++[xs[k]] :=by rw[List.take_add_one,Pj f];rfl
   have t:Q xs[k] :=C _ (Rl f);generalize xs[k] =x at u D t;obtain⟨d,n⟩:∃d,xs.drop (k+1)=d:=⟨_,rfl⟩;rw[n]at u;have s:(isR c (xs.take k)).length=k:=by rw[dH2,PG];omega
   have q:∀z∈isR c (xs.take k),Q z:=λz w=>C z (PO (dI0.1 w));have i:isR c (xs.take (k+1))=insR c x (isR c (xs.take k)):=by rw[D,eB2]
   generalize isR c (xs.take k)=m at s q i;rw[u];repeat' ((conv=>whnf);first|omega|refine zS ?_|refine zl (λe=>?_) (λe=>?_))
   refine aU (A:=List Rg) (B:=List Rg) (λR M=>mkSt [(0, .arr 0 0),(1,I b.length),(2,I (b.length+xs.length)),(3, .fn g []),(8,I (b.length+k)),(9,I (b.length+R.length))] [] [(0,⟨0, .own,23,(b++(R.reverse++x::(M++d))++a).map rgV⟩)])
    (λR M=>R.length<=k/\(∀z∈R,Q z)/\(insR c x m).reverse=(insR c x R).reverse++M) (λR M=>R.length) m [] ?_ ⟨Aa,q,Af⟩ (λR M H=>?_)
   ·refine dV ?_ ?_ ?_ ?_
    all_goals repeat' (first|exact trivial|refine And.intro ?_ ?_|with_reducible rfl|exact(λh=>Ag)|exact Po _|omega|exact rfl)
    ·show List.map rgV (b++m.reverse++x::d++a)=List.map rgV (b++(m.reverse++x::([] ++d))++a)
     simp
   ·obtain⟨v,o,j⟩:=H
    change R.length<=k at v;change∀z∈R,Q z at o;change (insR c x m).reverse=(insR c x R).reverse++M at j;cases R with
    |nil=>
     have L:([] :List Rg).length=0:=rfl;repeat' ((conv=>whnf);first|omega|refine zS ?_|refine zl (λe=>?_) (λe=>?_))
     refine⟨k+1,?_,⟨Aa, .inl Aa⟩,Aa⟩;rw[i];refine dV ?_ ?_ ?_ ?_;all_goals repeat' (first|exact trivial|refine And.intro ?_ ?_|with_reducible rfl|exact(λh=>Ag)|exact Po _|omega|exact rfl)
     show List.map rgV (b++([].reverse++x::(M++d))++a)=List.map rgV (b++(insR c x m).reverse++List.drop (k+1) xs++a);rw[j,n];simp[insR]
    |cons y r=>
     have J:(b++((y::r).reverse++x::(M++d))++a).length=b.length+(r.length+1)+1+(M++d++a).length:=Be;have G:(y::r).length=r.length+1:=rfl;repeat' ((conv=>whnf);first|omega|(refine dY5 (l:=b++((y::r).reverse++x::(M++d))++a) rfl (λh=>Ag) rfl ?_ ?_;focus (constructor<;>omega))|refine cQ9 Aa ?_|(refine dX6 (l:=b++((y::r).reverse++x::(M++d))++a) rfl (λh=>Ag) rfl ?_ ?_;focus (constructor<;>omega))|refine aF (l:=b++((y::r).reverse++x::(M++d))++a) (A:=b++(y::r).reverse) (x:=x) (B:=M++d++a) Af Be ?_|refine aF (l:=b++((y::r).reverse++x::(M++d))++a) (A:=b++r.reverse) (x:=y) (B:=x::(M++d++a)) Af Be ?_|refine zc (E x y t (o y Af)) ?_|refine dB8 rfl rfl ?_|refine zS ?_|refine zl (λe=>?_) (λe=>?_))
     ·refine⟨(r,y::M),?_,?_,?_⟩
      ·refine dV ?_ ?_ ?_ ?_
       all_goals repeat' (first|exact trivial|refine And.intro ?_ ?_|with_reducible rfl|exact(λh=>Ag)|exact Po _|omega|exact rfl)
       show List.set (List.set (List.map rgV (b++((y::r).reverse++x::(M++d))++a)) _ (rgV y)) _ (rgV x)=List.map rgV (b++(r.reverse++x::(y::M++d))++a);rw[show b++((y::r).reverse++x::(M++d))++a=(b++(y::r).reverse)++x::(M++d++a) from Af,Qa,PW,set_mid Be];rw[show(b++(y::r).reverse:List Rg)=(b++r.reverse)++[y] from Af,Qa,PW,Pq,QC,RN,Rh,set_mid Be];simp;show(b.length:Int)+(y::r).length-1=b.length+r.length;omega
      refine⟨by show r.length<=k;omega,λz w=>o z (by simp[show z∈r from w]),?_⟩;show(insR c x m).reverse=(insR c x r).reverse++y::M;rw[j];simp[insR,e];show r.length< (y::r).length;simp
     refine⟨k+1,?_,⟨Aa, .inl Aa⟩,Aa⟩;rw[i];refine dV ?_ ?_ ?_ ?_;all_goals repeat' (first|exact trivial|refine And.intro ?_ ?_|with_reducible rfl|exact(λh=>Ag)|exact Po _|omega|exact rfl)
     show List.map rgV (b++((y::r).reverse++x::(M++d))++a)=List.map rgV (b++(insR c x m).reverse++List.drop (k+1) xs++a);rw[j,n];simp[insR,show¬c x y<0 from Aa]
  ·rw[Q8 f,List.drop_eq_nil_of_le f]
   repeat' ((conv=>whnf);first|omega|refine zS ?_|refine zl (λe=>?_) (λe=>?_))
   refine cA7 ?_;conv=>whnf
   refine⟨[],rfl,⟨⟨rfl,rfl,rfl,?_⟩,trivial⟩,rfl⟩;show List.map rgV (b++(isR c xs).reverse++[] ++a)=List.map rgV (b++qA c xs++a);simp[qA]
def eI2(a:cF2 g c Q)(xs:List Rg)(b:∀x∈xs,Q x)(d:xs.length<=100000):
 SpIO 279 [.own 23 (xs.map rgV),I 0,I xs.length, .fn g []] (.tup []) 23 ((qA c xs).map rgV):=by
 have:=eH7 rfl func279 Ac Ac (fC7 a [] xs [] b Be);simp only[Rh,Pz,SE]at this;rw[show((0:Nat):Int)+(xs.length:Int)=xs.length from Aa]at this;exact this
def Qr(r:Rg):Prop:=r≠ []/\r.length<=1000000
def cR(a b:Rg):Int:=vcmp (a.getD 0 z0) (b.getD 0 z0)
def eR1(a b:Rg)(f:Qr a)(h:Qr b):Sp 189 [rgV a,rgV b] (I (cR a b)):=by
 refine zsp func189 ?_;have d:0<a.length:=Rw.2 f.1;have e:0<b.length:=Rw.2 h.1;repeat' ((conv=>whnf);first|refine aU3 (r:=a) (k:=0) rfl d ?_|refine aU3 (r:=b) (k:=0) rfl e ?_|refine zc (qI (a.getD 0 z0) (b.getD 0 z0)) ?_|refine zS ?_|fail)
 all_goals exact zE
def cR_ok:cF2 189 cR Qr:=λi j hi a=>eR1 i j hi a
def U64(n:Int):V:= .lit (.int .u64 n)
def eP4:Sp 288 [U64 0] (I 0):=by
 refine zsp func288 ?_;repeat' ((conv=>whnf);first|omega|refine fK (k:= .u8) (n:=0) (m:=0) Ai ?_|refine fU (OZ Ac) ?_|refine fK (k:= .i64) (m:=0) Ac ?_|refine zS ?_|refine zT ?_ ?_<;>intro _|fail)
 all_goals conv=>whnf
 all_goals exact aG Ac
def eU1:Sp 237 [U64 0] (I 0):=by
 refine zsp func237 ?_;repeat' ((conv=>whnf);first|refine zc eP4 ?_|refine zS ?_|fail)
 all_goals conv=>whnf
 all_goals exact aG rfl
def eM6:Sp 288 [U64 1] (I 1):=by
 refine zsp func288 ?_;repeat' ((conv=>whnf);first|omega|refine fK (k:= .u8) (n:=1) (m:=1) Ai ?_|refine fU (OZ Ac) ?_|refine fK (k:= .i64) (m:=1) Ac ?_|refine zS ?_|refine zT ?_ ?_<;>intro _|fail)
 all_goals conv=>whnf
 all_goals exact aG Ac
def len_1:Sp 237 [U64 1] (I 1):=by
 refine zsp func237 ?_;repeat' ((conv=>whnf);first|refine zc eM6 ?_|refine zS ?_|fail)
 all_goals conv=>whnf
 all_goals exact aG rfl
def eR3:Sp 288 [U64 2] (I 2):=by
 refine zsp func288 ?_;repeat' ((conv=>whnf);first|omega|refine fK (k:= .u8) (n:=2) (m:=2) Ai ?_|refine fU (OZ Ac) ?_|refine fK (k:= .i64) (m:=2) Ac ?_|refine zS ?_|refine zT ?_ ?_<;>intro _|fail)
 all_goals conv=>whnf
 all_goals exact aG Ac
def len_2:Sp 237 [U64 2] (I 2):=by
 refine zsp func237 ?_;repeat' ((conv=>whnf);first|refine zc eR3 ?_|refine zS ?_|fail)
 all_goals conv=>whnf
 all_goals exact aG rfl
def eT4:Sp 288 [U64 3] (I 2):=by
 refine zsp func288 ?_;repeat' ((conv=>whnf);first|omega|refine fK (k:= .u8) (n:=3) (m:=3) Ai ?_|refine fU (OZ Ac) ?_|refine fK (k:= .i64) (m:=2) Ac ?_|refine zS ?_|refine zT ?_ ?_<;>intro _|fail)
 all_goals conv=>whnf
 all_goals exact aG Ac
def len_3:Sp 237 [U64 3] (I 2):=by
 refine zsp func237 ?_;repeat' ((conv=>whnf);first|refine zc eT4 ?_|refine zS ?_|fail)
 all_goals conv=>whnf
 all_goals exact aG rfl
def eN1:Sp 288 [U64 4] (I 3):=by
 refine zsp func288 ?_;repeat' ((conv=>whnf);first|omega|refine fK (k:= .u8) (n:=4) (m:=4) Ai ?_|refine fU (OZ Ac) ?_|refine fK (k:= .i64) (m:=3) Ac ?_|refine zS ?_|refine zT ?_ ?_<;>intro _|fail)
 all_goals conv=>whnf
 all_goals exact aG Ac
def len_4:Sp 237 [U64 4] (I 3):=by
 refine zsp func237 ?_;repeat' ((conv=>whnf);first|refine zc eN1 ?_|refine zS ?_|fail)
 all_goals conv=>whnf
 all_goals exact aG rfl
def eM8:Sp 288 [U64 5] (I 3):=by
 refine zsp func288 ?_;repeat' ((conv=>whnf);first|omega|refine fK (k:= .u8) (n:=5) (m:=5) Ai ?_|refine fU (OZ Ac) ?_|refine fK (k:= .i64) (m:=3) Ac ?_|refine zS ?_|refine zT ?_ ?_<;>intro _|fail)
 all_goals conv=>whnf
 all_goals exact aG Ac
def len_5:Sp 237 [U64 5] (I 3):=by
 refine zsp func237 ?_;repeat' ((conv=>whnf);first|refine zc eM8 ?_|refine zS ?_|fail)
 all_goals conv=>whnf
 all_goals exact aG rfl
def eP5:Sp 288 [U64 6] (I 3):=by
 refine zsp func288 ?_;repeat' ((conv=>whnf);first|omega|refine fK (k:= .u8) (n:=6) (m:=6) Ai ?_|refine fU (OZ Ac) ?_|refine fK (k:= .i64) (m:=3) Ac ?_|refine zS ?_|refine zT ?_ ?_<;>intro _|fail)
 all_goals conv=>whnf
 all_goals exact aG Ac
def len_6:Sp 237 [U64 6] (I 3):=by
 refine zsp func237 ?_;repeat' ((conv=>whnf);first|refine zc eP5 ?_|refine zS ?_|fail)
 all_goals conv=>whnf
 all_goals exact aG rfl
def len_any(n:Nat)(h:n<=6):∃b,Sp 237 [U64 (n:Int)] (I b):=by
 match n,h with
 |0,_=>exact⟨_,eU1⟩
 |1,_=>exact⟨_,len_1⟩
 |2,_=>exact⟨_,len_2⟩
 |3,_=>exact⟨_,len_3⟩
 |4,_=>exact⟨_,len_4⟩
 |5,_=>exact⟨_,len_5⟩
 |6,_=>exact⟨_,len_6⟩
def dY6{g:FuncId}{c:Rg->Rg->Int}{Q:Rg->Prop}(a:cF2 g c Q)(xs:List Rg)(b:∀x∈xs,Q x)(d:xs.length<=12)(lim:Int):
 SpIO 236 [.own 23 (xs.map rgV),I 0,I xs.length,I lim, .fn g []] (.tup []) 23 ((qA c xs).map rgV):=by
 refine eH7 rfl func236 Ac Ac ?_;have hi:=eI2 a xs b Aa;repeat' ((conv=>whnf);first|refine zS ?_|fail)
 refine lD (A:=Unit) (λ_=>mkSt [(0, .arr 0 0),(1,I 0),(2,I xs.length),(3,I lim),(4, .fn g []),(10, .lit (.bool true)),(11, .lit (.bool true))] [] [(0,⟨0, .own,23,xs.map rgV⟩)]) (λ_=>True) (λ_=>0) () ?_ trivial (λ_ _=>?_)
 ·exact zj
 repeat' ((conv=>whnf);first|omega|(refine aQ2 (hi) rfl rfl ?_ rfl rfl ?_;focus ((repeat' (first|exact trivial|refine And.intro ?_ ?_|with_reducible rfl|exact(λh=>Ag)|exact rfl));done))|refine zS ?_|refine zT ?_ ?_<;>intro _|fail)
 all_goals conv=>whnf
 exact Oa
def u64_in{n:Int}(h:0<=n/\n<=1000000):IntKind.u64.wrap n=n:=by
 exact OW
def cR4{g:FuncId}{c:Rg->Rg->Int}{Q:Rg->Prop}(f:cF2 g c Q)(xs:List Rg)(j:∀x∈xs,Q x)(i:xs.length<=6):
 SpIO 188 [.own 23 (xs.map rgV), .fn g []] (.tup []) 23 ((qA c xs).map rgV):=by
 refine eH7 rfl func188 Ac Ac ?_;have a:(xs.map rgV).length=xs.length:=Af;obtain⟨b,d⟩:=len_any xs.length i;have e:=dY6 f xs j Aa b;rw[<-a]at d e;repeat' ((conv=>whnf);first|refine fK (k:= .u64) (n:=((xs.map rgV).length:Int)) (m:=((xs.map rgV).length:Int)) (u64_in Aa) ?_|refine zc d ?_|(refine aQ2 (e) rfl rfl ?_ rfl rfl ?_;focus ((repeat' (first|exact trivial|refine And.intro ?_ ?_|with_reducible rfl|exact(λh=>Ag)|exact rfl));done))|refine zS ?_|fail)
 all_goals conv=>whnf
 exact Oa
def dT5(g:FuncId):Sp 279 [nilV,I 0,I 0, .fn g []] (.tup []):=by
 refine zsp func279 ?_;repeat' ((conv=>whnf);first|refine zS ?_|fail)
 refine lD (A:=Unit) (λ_=>mkSt [(1,I 0),(2,I 0),(8,I 1)] [] []) (λ_=>True) (λ_=>0) () ?_ trivial (λ_ _=>?_);exact zj;repeat' ((conv=>whnf);first|omega|refine zS ?_|refine zT ?_ ?_<;>intro _|fail)
 all_goals conv=>whnf
 all_goals exact⟨[],rfl,trivial,rfl⟩
def dK0(g:FuncId)(lim:Int):Sp 236 [nilV,I 0,I 0,I lim, .fn g []] (.tup []):=by
 refine zsp func236 ?_;repeat' ((conv=>whnf);first|refine zS ?_|fail)
 refine lD (A:=Unit) (λ_=>mkSt [(0,nilV),(1,I 0),(2,I 0),(3,I lim),(4, .fn g [])] [] []) (λ_=>True) (λ_=>0) () ?_ trivial (λ_ _=>?_);exact zj;repeat' ((conv=>whnf);first|omega|refine zc (dT5 g) ?_|refine zS ?_|refine zT ?_ ?_<;>intro _|fail)
 all_goals conv=>whnf
 all_goals exact⟨[],rfl,trivial,rfl⟩
def cZ9(g:FuncId):Sp 188 [nilV, .fn g []] (.tup []):=by
 refine zsp func188 ?_;repeat' ((conv=>whnf);first|refine fK (k:= .u64) (n:=0) (m:=0) Ai ?_|refine zc eU1 ?_|refine zc (dK0 g 0) ?_|refine zS ?_|fail)
 all_goals conv=>whnf
 all_goals exact⟨[],rfl,trivial,rfl⟩
def dW3{r:Rg}(h:dM r)(b:r.length<=1000000):Qr (gQ r):=by
 rw[bJ7 h];have a:=h.1;have e:(wL r).length=r.length:=by unfold wL;rw[OY,Qm,PG];omega
 refine⟨λq=>?_,Aa⟩;rw[q]at e;simp at e;omega
def wW(s:Sh):List Rg:=qA cR (s.holes.map gQ)
def qO(s:Sh):Sh:=open Classical in if bG s then⟨gQ s.outer,wW s⟩else sh0
def aN9{s:Sh}(h:bG s):qO s=⟨gQ s.outer,wW s⟩:=Pm h
def bH5{s:Sh}(h:¬bG s):qO s=sh0:=Ph h
def canSt(s:Sh)(D:List Rg):St:=match D with
 | [] =>mkSt [(1, .box 1 0),(2, .box 2 0),(3, .box 3 0),(15, .sl (s.holes.map rgV)),(16,I s.holes.length),(17,I 0)] [(1,(shV s).cells),(2,(shV sh0).cells),(3,[rgV (gQ s.outer),nilV])] []
 |d::D=>mkSt [(1, .box 1 0),(2, .box 2 0),(3, .box 3 0),(15, .sl (s.holes.map rgV)),(16,I s.holes.length),(17,I ((D.length:Int)+1))] [(1,(shV s).cells),(2,(shV sh0).cells),(3,[rgV (gQ s.outer), .arr 26 D.length])] [(26,⟨D.length, .own,23,((d::D).map gQ).map rgV⟩)]
def aU9(s:Sh)(k:gV s):Sp 152 [shV s] (shV (qO s)):=by
 refine zsp func152 ?_;have u:=aN9 (s:=s);have v:=bH5 (s:=s);generalize qO s=A at*;have F:(s.holes.map rgV).length=s.holes.length:=Af;repeat' ((conv=>whnf);first|refine zc (kK s k) ?_|refine zc (aU6 s.outer k.1) ?_|refine zS ?_|refine zd (λj=>?_) (λj=>?_))
 all_goals conv=>whnf
 ·rw[u j]
  have g:=j;unfold bG at g;obtain⟨H,m,_,_⟩:=g
  have w:∀x∈s.holes.map gQ,Qr x:=λx G=>by
   obtain⟨r,q,rfl⟩:=PI.1 G;exact dW3 (m r (Qw _ q)) (k.2.2 r q)
  have y:(s.holes.map gQ).length=s.holes.length:=Af;refine aU (A:=List Rg) (B:=List Rg) (λD R=>canSt s D) (λD R=>s.holes=D++R) (λD R=>R.length) [] s.holes ?_ rfl (λD R hp=>?_);exact Ie;cases R with
  |nil=>
   have e:D=s.holes:=Ad;subst e;clear hp;cases c:s.holes with
   |nil=>
    have b:wW s=[] :=by unfold wW;rw[c];rfl
    rw[b];have J:s.holes.length=0:=by rw[c];rfl
    repeat' ((conv=>whnf);first|omega|refine zc (cZ9 189) ?_|refine zS ?_|refine zl (λa=>?_) (λa=>?_))
    all_goals conv=>whnf
    exact LD
   |cons d D=>
    have n:(d::D).length=D.length+1:=rfl;have i:=cR4 cR_ok ((d::D).map gQ) (by rw[<-c];exact w) (by rw[<-c];omega);have b:wW s=qA cR ((d::D).map gQ):=by unfold wW;rw[c]
    rw[b];generalize qA cR ((d::D).map gQ)=Z at i;have C:s.holes.length=D.length+1:=by rw[c];rfl
    repeat' ((conv=>whnf);first|omega|(refine aQ2 (i) rfl rfl ?_ rfl rfl ?_;focus ((repeat' (first|exact trivial|refine And.intro ?_ ?_|with_reducible rfl|exact(λh=>Ag)|exact rfl));done))|refine zS ?_|refine zl (λa=>?_) (λa=>?_))
    all_goals conv=>whnf
    exact LD
  |cons h R=>
   have o:=aO hp;have E:h.length<=1000000:=k.2.2 h Ad;have f:=aU6 h E;cases D with
   |nil=>
    have t:([] :List Rg).length=0:=rfl;repeat' ((conv=>whnf);first|omega|refine aF (l:=s.holes) (A:=[]) (x:=h) (B:=R) hp Aa ?_|refine zc f ?_|refine gX (OZ rfl) (dA rfl) (OZ rfl) ?_|refine zS ?_|refine zl (λa=>?_) (λa=>?_))
    all_goals conv=>whnf
    refine⟨([h],R),?_,hp,Af⟩;show Le T _ (mkSt [(1, .box 1 0),(2, .box 2 0),(3, .box 3 0),(15, .sl (s.holes.map rgV)),(16,I s.holes.length),(17,I (0+1))] [(1,(shV s).cells),(2,(shV sh0).cells),(3,[rgV (gQ s.outer), .arr 26 0])] [(26,⟨0, .own,23,[rgV (gQ h)]⟩)]);exact zj
   |cons d D=>
    have t:(d::D).length=D.length+1:=rfl;have z:(((d::D).map gQ).map rgV).length=D.length+1:=Af;repeat' ((conv=>whnf);first|omega|refine aF (l:=s.holes) (A:=d::D) (x:=h) (B:=R) hp Aa ?_|refine zc f ?_|refine iH rfl (.inl rfl) rfl (OZ rfl) (dA rfl) (show(((d::D).map gQ).map rgV).length+1<=1000000000 from Aa) ?_|refine zS ?_|refine zl (λa=>?_) (λa=>?_))
    all_goals conv=>whnf
    refine⟨(d::D++[h],R),?_,Ad,Af⟩;show Le T _ (mkSt [(1, .box 1 0),(2, .box 2 0),(3, .box 3 0),(15, .sl (s.holes.map rgV)),(16,I s.holes.length),(17,I (((D++[h]).length:Int)+1))] [(1,(shV s).cells),(2,(shV sh0).cells),(3,[rgV (gQ s.outer), .arr 26 (D++[h]).length])] [(26,⟨(D++[h]).length, .own,23,(((d::D)++[h]).map gQ).map rgV⟩)]);rw[show(((d::D)++[h]).map gQ).map rgV=((d::D).map gQ).map rgV++[rgV (gQ h)] from Af,OY,PL];exact zj
 rw[v j];exact LD
end Go.Proofs.Led
