/- Lemmas. -/
import Derived.Test.YtcmgfjaiegpddaaGreatB10
set_option linter.all false
set_option maxRecDepth 100000
set_option maxHeartbeats 4000000
noncomputable section
namespace Go.Proofs.Led
open Go Go.Proofs Go.Ab Tryz
def aO4{a:Type}{f:a->V}(h:∀x,(f x).pure)(l:List a):bM (l.map f):=aH.2 λy b=>by
 obtain⟨x,_,rfl⟩:=PI.1 b;exact h x
def eO3(v:Vc):(vcV v).pure:=by simp only[vcV,V.pure,V.ok,V.okL,I,and_self]
def bF3(r:Rg):(rgV r).pure:=by
 show V.okL _ _ _;exact aO4 eO3 r
def cJ9(l:List Rg):bM (l.map rgV):=aO4 bF3 l
def eR4(s:Sh):(shV s).pure:=by
 show V.okL _ _ _;exact⟨bF3 s.outer,by show V.okL _ _ _;exact cJ9 s.holes,trivial⟩
def eS7(d:Iv):(ivV d).pure:=by simp only[ivV,V.pure,V.ok,V.okL,I,and_self]
def cV5(x:aN):bM (gB x):=by
 unfold gB;refine⟨trivial,trivial,trivial,trivial,trivial,bF3 _,?_,?_,trivial,trivial,trivial,trivial,?_,trivial,trivial⟩;show V.okL _ _ _;exact cJ9 _;show V.okL _ _ _;exact aO4 eR4 _;show V.okL _ _ _;exact aO4 eS7 _
def bZ6{σ:St}{i:Nat}{cs:List V}(hi:σ.bx i=some cs)(c:i<100000)(b:bM cs):Le T σ ⟨λs=>(σ.env s).frz i cs,frzB i cs σ.bx,σ.ar⟩:=by
 unfold Le;intro Φ a w G inv;exact⟨_,(inv.bV0 hi c b).1⟩
def kP(b:Bool)(p q:Rest):Prop:=
 if b=true then max p.lo q.lo<min p.hi q.hi
 else max p.box.1.1 q.box.1.1<min p.box.2.1 q.box.2.1/\max p.box.1.2 q.box.1.2<min p.box.2.2 q.box.2.2
def bW5(b:Bool)(p q:Rest):Sp 165 [B b,bY p,bY q] (DB (kP b p q)):=by
 refine zsp func165 ?_;cases b with
 |true=>
  have a:kP true p q↔max p.lo q.lo<min p.hi q.hi:=by unfold kP;rw[Pm rfl]
  generalize kP true p q=P at*;repeat' ((conv=>whnf);first|refine zS ?_|fail)
  all_goals conv=>whnf
  all_goals exact aA (aS1 (by simp only[mG,lH];exact a.symm))
 |false=>
  have a:kP false p q↔(max p.box.1.1 q.box.1.1<min p.box.2.1 q.box.2.1/\max p.box.1.2 q.box.1.2<min p.box.2.2 q.box.2.2):=by unfold kP;rw[Ph (by decide)]
  generalize kP false p q=P at*;repeat' ((conv=>whnf);first|refine zS ?_|refine zT ?_ ?_<;>intro _|fail)
  all_goals conv=>whnf
  all_goals simp only[mG,lH]at*
  all_goals first
   |exact aA (aS1 ⟨λh=>a.2 ⟨Aa,Aa⟩,λh=>by have:=a.1 h;omega⟩)
   |exact aA (aC (λh=>by have:=a.1 h;omega))
def cO8(x:aN)(r q:Rest):Sp 164 [bY q, .fp (gB x), .fp (bY r).cells] (DB (kP x.isBar q r)):=by
 refine zsp func164 ?_;have a:=bW5 x.isBar q r;exact NV
def eX4{g:FuncId}{c d:List V}{Q:Rest->Prop}(hg:∀m,Sp g (bY m:: [.fp c, .fp d]) (DB (Q m)))(l:List Rest)(b:l.length<=1000000):fnVC T Tryz.prog Tryz.f204 [.sl (l.map bY), .fn g [.fp c, .fp d]] (I (fstI Q l)):=by
 have a:(l.map bY).length=l.length:=Af;repeat' ((conv=>whnf);first|refine zS ?_|fail)
 refine aU (A:=List Rest) (B:=List Rest) (λD R=>mkSt [(0, .sl (l.map bY)),(1, .fn g [.fp c, .fp d]),(7,I l.length),(8,I D.length)] [] [])
  (λD R=>l=D++R/\∀m∈D,¬Q m) (λD R=>R.length) [] l ?_ ⟨rfl,Af⟩ (λD R hp=>?_)
 exact zj;exact Hz
def eA8{g:FuncId}{c d:List V}{Q:Rest->Prop}(a:∀m,Sp g (bY m:: [.fp c, .fp d]) (DB (Q m)))(l:List Rest)(b:l.length<=1000000):Sp 204 [.sl (l.map bY), .fn g [.fp c, .fp d]] (I (fstI Q l)):=zsp func204 (eX4 a l b)
def fA8{g:FuncId}{c d:List V}{Q:Rest->Prop}(a:∀m,Sp g (bY m:: [.fp c, .fp d]) (DB (Q m)))(l:List Rest)(b:l.length<=1000000):fnVC T Tryz.prog Tryz.f163 [.sl (l.map bY), .fn g [.fp c, .fp d]] (DB (∃m∈l,Q m)):=by
 repeat' ((conv=>whnf);first|refine zc (eA8 a l b) ?_|refine zS ?_|fail)
 exact Lp
def dU5{g:FuncId}{c d:List V}{Q:Rest->Prop}(a:∀m,Sp g (bY m:: [.fp c, .fp d]) (DB (Q m)))(l:List Rest)(b:l.length<=1000000):Sp 163 [.sl (l.map bY), .fn g [.fp c, .fp d]] (DB (∃m∈l,Q m)):=zsp func163 (fA8 a l b)
def cZ(x:aN):List Rest->List Rest->Int
 |_,[] =>0
 |D,r::R=>open Classical in if iG x r≠0 then iG x r else if∃q∈D,kP x.isBar q r then 12 else cZ x (D++[r]) R
def eG(x:aN)(l:List Rest):List aN:=if cZ x [] l=0 then l.map (dZ x)else []
def cP9(x:aN)(e:Event)(D:List Rest):St:=match D with
 | [] =>mkSt [(2, .fp (gB x)),(3, .box 3 0),(6,nilV),(12, .sl (e.rests.map bY)),(13,I e.rests.length),(14,I 0)] [(3,iJ e)] []
 |d::D=>mkSt [(2, .fp (gB x)),(3, .box 3 0),(6, .arr 37 D.length),(12, .sl (e.rests.map bY)),(13,I e.rests.length),(14,I ((D.length:Int)+1))] [(3,iJ e)]
  [(37,⟨D.length, .own,90,((d::D).map (dZ x)).map aQ⟩)]
def cU2(x:aN)(e:Event)(K:eY x)(z:e.rests.length<=1000000):Sp 122 [aQ x,aS e] (.tup [.own 90 ((eG x e.rests).map aQ),I (cZ x [] e.rests)]):=by
 refine zsp func122 ?_;have hl:(e.rests.map bY).length=e.rests.length:=Af;have t:∀n,cZ x [] e.rests=n->n≠0->eG x e.rests=[] :=λn G H=>by unfold eG;rw[Ph (by rw[G];exact H)]
 have F:cZ x [] e.rests=0->eG x e.rests=e.rests.map (dZ x):=λh=>by unfold eG;rw[Pm h]
 generalize eG x e.rests=L at*;generalize v:cZ x [] e.rests=g at*;repeat' ((conv=>whnf);first|refine zS ?_|fail)
 refine aU (A:=List Rest) (B:=List Rest) (λD R=>cP9 x e D) (λD R=>e.rests=D++R/\cZ x D R=g) (λD R=>R.length) [] e.rests ?_ ⟨rfl,v⟩ (λD R hp=>?_);refine Le.trans (bZ6 (i:=2) (cs:=gB x) rfl Ai (cV5 x)) ?_;show Le T _ (cP9 x e []);exact LK;obtain⟨hp,k⟩:=hp
 have u:(e.rests.map bY).take D.length=D.map bY:=by
  have h:(D.map bY).length=D.length:=Af;rw[hp,Qa,<-h];exact SK
 have y:∀(n:Int) (r:Rest),n.toNat=D.length->Sp 163 [.sl (((e.rests.map bY).take n.toNat).drop (0:Int).toNat), .fn 164 [.fp (gB x), .fp (bY r).cells]] (DB (∃q∈D,kP x.isBar q r)):=λn r J=>by
  have h:=dU5 (c:=gB x) (d:=(bY r).cells) (λq=>cO8 x r q) D (by rw[hp]at z;simp at z;omega);rw[J,u];exact h
 cases R with
 |nil=>
  have w:e.rests=D:=Ad;have o:e.rests.length=D.length:=by rw[w]
  have C:g=0:=k.symm;have s:=F C;rw[w]at s;subst C s;cases D with
  |nil=>
   have f:([] :List Rest).length=0:=rfl;repeat' ((conv=>whnf);first|omega|refine zS ?_|refine zT ?_ ?_<;>intro _|fail)
   all_goals conv=>whnf
   exact MF
  |cons d D=>
   have f:(d::D).length=D.length+1:=rfl;repeat' ((conv=>whnf);first|omega|refine zS ?_|refine zT ?_ ?_<;>intro _|fail)
   all_goals conv=>whnf
   refine⟨_,rfl,⟨⟨rfl,rfl,rfl,rfl⟩,rfl,trivial⟩,rfl⟩
 |cons r R=>
  have o:=aO hp;have M:=dL8 x r K;cases D with
  |nil=>
   have f:([] :List Rest).length=0:=rfl;have E:=y 0 r rfl;by_cases b:iG x r=0;rotate_left
   ·have a:g=iG x r:=by rw[<-k,cZ,Pm b]
    have j:=t _ rfl (by rw[a];exact b);subst j a;repeat' ((conv=>whnf);first|(exfalso;contradiction)|omega|refine zS ?_|refine zT ?_ ?_<;>intro _|fail)
    all_goals conv=>whnf
    exact MF
   by_cases m:∃q∈[],kP x.isBar q r
   ·have a:g=12:=by rw[<-k,cZ,Ph (λh=>h b),Pm m]
    have j:=t _ rfl (by rw[a];decide);subst j a;repeat' ((conv=>whnf);first|(exfalso;contradiction)|omega|refine fU ⟨Aa,Aa,Gy, .inl rfl⟩ ?_|refine zS ?_|refine zT ?_ ?_<;>intro _|fail)
    all_goals conv=>whnf
    exact MF
   have a:g=cZ x ([] ++[r]) R:=by rw[<-k,cZ,Ph (λh=>h b),Ph m]
   repeat' ((conv=>whnf);first|(exfalso;contradiction)|omega|refine fU ⟨Aa,Aa,Gy, .inl rfl⟩ ?_|refine gX (OZ rfl) (dA rfl) (OZ rfl) ?_|refine zS ?_|refine zT ?_ ?_<;>intro _|fail)
   all_goals conv=>whnf
   refine⟨([] ++[r],R),?_,⟨by rw[hp];rfl,a.symm⟩,Af⟩;show Le T _ (cP9 x e [r]);exact zj
  |cons d D=>
   have f:(d::D).length=D.length+1:=rfl;have E:=y ((D.length:Int)+1) r (by rw[f];omega);by_cases b:iG x r=0;rotate_left
   ·have a:g=iG x r:=by rw[<-k,cZ,Pm b]
    have j:=t _ rfl (by rw[a];exact b);subst j a;repeat' ((conv=>whnf);first|(exfalso;contradiction)|omega|refine aF (l:=e.rests) (A:=(d::D)) (x:=r) (B:=R) hp Aa ?_|refine zS ?_|refine zT ?_ ?_<;>intro _|fail)
    all_goals conv=>whnf
    exact MF
   by_cases m:∃q∈(d::D),kP x.isBar q r
   ·have a:g=12:=by rw[<-k,cZ,Ph (λh=>h b),Pm m]
    have j:=t _ rfl (by rw[a];decide);subst j a;repeat' ((conv=>whnf);first|(exfalso;contradiction)|omega|refine aF (l:=e.rests) (A:=(d::D)) (x:=r) (B:=R) hp Aa ?_|refine fU ⟨Aa,Aa,Gy, .inl rfl⟩ ?_|refine zS ?_|refine zT ?_ ?_<;>intro _|fail)
    all_goals conv=>whnf
    exact MF
   have a:g=cZ x ((d::D)++[r]) R:=by rw[<-k,cZ,Ph (λh=>h b),Ph m]
   repeat' ((conv=>whnf);first|(exfalso;contradiction)|omega|refine aF (l:=e.rests) (A:=(d::D)) (x:=r) (B:=R) hp Aa ?_|refine fU ⟨Aa,Aa,Gy, .inl rfl⟩ ?_|refine iH rfl (.inl rfl) rfl (OZ rfl) (dA rfl) (show(((d::D).map (dZ x)).map aQ).length+1<=1000000000 by rw[P6,P6];omega) ?_|refine zS ?_|refine zT ?_ ?_<;>intro _|fail)
   all_goals conv=>whnf
   refine⟨(d::D++[r],R),?_,⟨Ad,a.symm⟩,Af⟩;show Le T _ (cP9 x e (d::(D++[r])));unfold cP9;exact MN
def bs{α:Type}(key:α->Int)(l:List α)(t:Int):Nat:=(l.takeWhile λm=>decide (key m<t)).length
def dC0{c:Type}{key:c->Int}{t:Int}:∀ {l:List c} {i:Nat},i<=l.length->(∀k m,k<i->l[k]? =some m->key m<t)->(∀m,l[i]? =some m->t<=key m)->bs key l t=i
 | [],i,h,_,_=>by simp at h;subst h;rfl
 |x::r,0,_,_,h=>by
  have:=h x rfl;unfold bs;simp_all
 |x::r,i+1,hi,b,d=>by
  have g:=b 0 x Aa rfl;have e:=dC0 (l:=r) (i:=i) (by simp at hi;omega) (λk m f a=>b (k+1) m Aa a) (λm a=>d m a);unfold bs at e⊢;simp_all
def cD4{n:Int}(h:0<=n/\n<=2000000):IntKind.u64.wrap n=n:=by
 exact OW
def cK6{a b:Int}:cmpI a b<0↔a<b:=Di
def aU8{a b:Int}:0<=cmpI a b↔b<=a:=Di
def bP6{a b:Int}:cmpI a b=0↔a=b:=Di
def bF1{i j:Nat}(h:i+j<=2000000):IntKind.i64.wrap (shrI .u64 ((i:Int)+(j:Int)) 1)=(((i+j)/2:Nat):Int):=by
 have e:shrI .u64 ((i:Int)+(j:Int)) 1=(((i+j)/2:Nat):Int):=by
  unfold shrI;show Int.fdiv _ 2=_;grind
 rw[e,IntKind.wrap_i64];omega
theorem sorted_at{c:Type}{key:c->Int}{l:List c}(i:(l.map key).Pairwise (·<·)){a b:Nat}{x y:c}(d:l[a]? =some x)(e:l[b]? =some y)(h:a<b):key x<key y:=by
 obtain⟨f,rfl⟩:=Pg.1 d;obtain⟨g,rfl⟩:=Pg.1 e;grind [List.pairwise_iff_getElem]
def eC8{c:Type}{key:c->Int}{t:Int}{l:List c}{i:Nat}(q:(l.map key).Pairwise (·<·))(d:∀k m,k<i->l[k]? =some m->key m<t)(o:∀m,l[i]? =some m->t<=key m):
 (∀m,l[i]? =some m->((∃y∈l,key y=t)↔key m=t))/\(l[i]? =none->¬∃y∈l,key y=t):=by
 refine⟨λm j=>⟨?_,λh=>⟨m,Pn j,h⟩⟩,λn=>?_⟩
 ·rintro⟨y,b,e⟩
  obtain⟨k,a⟩:=P7 b;grind [Si,sorted_at]
 ·rintro⟨y,b,e⟩
  obtain⟨k,a⟩:=P7 b;have g:=(Pg.1 a).1;have f:=List.getElem?_eq_none_iff.1 n;have:=d k y Aa a;omega
def eX1{g:FuncId}{t:Int}(hg:∀m:aN,Sp g [aQ m,I t] (I (cmpI (sid m) t)))(l:List aN)(u:l.length<=1000000)(hs:(l.map sid).Pairwise (·<·)):fnVC T Tryz.prog Tryz.f157 [.sl (l.map aQ),I t, .fn g []] (.tup [I (bs sid l t),DB (∃m∈l,sid m=t)]):=by
 have q:(l.map aQ).length=l.length:=Af;repeat' ((conv=>whnf);first|refine zS ?_|fail)
 refine aU (A:=Nat) (B:=Nat) (λi j=>mkSt [(0, .sl (l.map aQ)),(1,I t),(2, .fn g []),(8,I l.length),(9,I i),(10,I j)] [] []) (λi j=>i<=j/\j<=l.length/\(∀k m,k<i->l[k]? =some m->sid m<t)/\∀k m,j<=k->l[k]? =some m->t<=sid m) (λi j=>j-i) 0 l.length ?_ ⟨Aa,Aa,λk m hk=>absurd hk Aa,λk m hk hm=>CS⟩ (λi j r=>?_);exact zj;obtain⟨o,s,h1,h2⟩:=r;have a:i<=l.length:=Aa;by_cases f:i<j;exact Ic;have e:j=i:=by omega
 subst e;have c:=dC0 a h1 (λm hm=>h2 j m (Po _) hm);have hex:=eC8 hs h1 (λm hm=>h2 j m (Po _) hm);rw[c];generalize (∃m∈l,sid m=t)=P at*;by_cases d:j<l.length;have hm2:=Pj d;generalize l[j] =m at hm2;have g1:=hg m;have hP:P↔sid m=t:=hex.1 m hm2;have eP:DB P=V.lit (.bool (eqB (cmpI (sid m) t) 0)):=PN (λb=>V.lit (.bool b)) (sK (bP6.trans hP.symm)).symm;rw[eP];exact zF;exact JA
def eB5{g:FuncId}{t:Int}(a:∀m:aN,Sp g [aQ m,I t] (I (cmpI (sid m) t)))(l:List aN)(b:l.length<=1000000)(c:(l.map sid).Pairwise (·<·)):Sp 157 [.sl (l.map aQ),I t, .fn g []] (.tup [I (bs sid l t),DB (∃m∈l,sid m=t)]):=zsp func157 (eX1 a l b c)
def eW0{g:FuncId}{t:Int}(hg:∀m:Piece,Sp g [aZ m,I t] (I (cmpI (Piece.id m) t)))(l:List Piece)(u:l.length<=1000000)(hs:(l.map Piece.id).Pairwise (·<·)):fnVC T Tryz.prog Tryz.f167 [.sl (l.map aZ),I t, .fn g []] (.tup [I (bs Piece.id l t),DB (∃m∈l,Piece.id m=t)]):=by
 have q:(l.map aZ).length=l.length:=Af;repeat' ((conv=>whnf);first|refine zS ?_|fail)
 refine aU (A:=Nat) (B:=Nat) (λi j=>mkSt [(0, .sl (l.map aZ)),(1,I t),(2, .fn g []),(8,I l.length),(9,I i),(10,I j)] [] []) (λi j=>i<=j/\j<=l.length/\(∀k m,k<i->l[k]? =some m->Piece.id m<t)/\∀k m,j<=k->l[k]? =some m->t<=Piece.id m) (λi j=>j-i) 0 l.length ?_ ⟨Aa,Aa,λk m hk=>absurd hk Aa,λk m hk hm=>CS⟩ (λi j r=>?_);exact zj;obtain⟨o,s,h1,h2⟩:=r;have a:i<=l.length:=Aa;by_cases f:i<j;exact Ic;have e:j=i:=by omega
 subst e;have c:=dC0 a h1 (λm hm=>h2 j m (Po _) hm);have hex:=eC8 hs h1 (λm hm=>h2 j m (Po _) hm);rw[c];generalize (∃m∈l,Piece.id m=t)=P at*;by_cases d:j<l.length;have hm2:=Pj d;generalize l[j] =m at hm2;have g1:=hg m;have hP:P↔Piece.id m=t:=hex.1 m hm2;have eP:DB P=V.lit (.bool (eqB (cmpI (Piece.id m) t) 0)):=PN (λb=>V.lit (.bool b)) (sK (bP6.trans hP.symm)).symm;rw[eP];exact zF;exact JA
def eG9{g:FuncId}{t:Int}(a:∀m:Piece,Sp g [aZ m,I t] (I (cmpI (Piece.id m) t)))(l:List Piece)(b:l.length<=1000000)(c:(l.map Piece.id).Pairwise (·<·)):Sp 167 [.sl (l.map aZ),I t, .fn g []] (.tup [I (bs Piece.id l t),DB (∃m∈l,Piece.id m=t)]):=zsp func167 (eW0 a l b c)
def cR0(x:aN)(t:Int):Sp 158 [aQ x,I t] (I (cmpI (sid x) t)):=by
 refine zsp func158 ?_;have a:=aE2 x;have b:=aB9 (sid x) t;exact zF
def cG0(x:Piece)(t:Int):Sp 168 [aZ x,I t] (I (cmpI x.id t)):=by
 refine zsp func168 ?_;have a:=aB9 x.id t;exact zF
def dN9(n:Int):Sp 200 [I n] (.lit (.bool false)):=by
 refine zsp func200 ?_;repeat' ((conv=>whnf);first|refine zS ?_|fail)
 all_goals conv=>whnf
 all_goals first|exact aK (by rw[aA1.2 rfl];rfl)|exact aK rfl
def dM1(a b:Int):Sp 199 [I a,I b] (DB (a<b)):=by
 refine zsp func199 ?_;have c:=aN2 a;have d:=aN2 b;repeat' ((conv=>whnf);first|refine zc c ?_|refine zS ?_|fail)
 all_goals conv=>whnf
 all_goals exact aA eU2
def fA5(t:Int)(l:List Int)(L:l.length<=1000000)(x:(l.map id).Pairwise (·<·)):fnVC T Tryz.prog Tryz.f160 [.sl (l.map I),I t] (.tup [I (bs id l t),DB (∃m∈l,m=t)]):=by
 have H:(l.map I).length=l.length:=Af;repeat' ((conv=>whnf);first|refine zS ?_|fail)
 refine aU (A:=Nat) (B:=Nat) (λi j=>mkSt [(0, .sl (l.map I)),(1,I t),(6,I l.length),(7,I i),(8,I j)] [] []) (λi j=>i<=j/\j<=l.length/\(∀k m,k<i->l[k]? =some m->m<t)/\∀k m,j<=k->l[k]? =some m->t<=m) (λi j=>j-i) 0 l.length ?_ ⟨Aa,Aa,λk m hk=>absurd hk Aa,λk m hk hm=>CS⟩ (λi j J=>?_);exact zj;obtain⟨G,K,s,u⟩:=J;have o:i<=l.length:=Aa;by_cases C:i<j
 ·have F:(i+j)/2<l.length:=by omega
  have a:=Pj F;generalize l[(i+j)/2] =m at a;have E:=dM1 m t;have D:(i+j)/2<j:=Aa;repeat' ((conv=>whnf);first|omega|refine fK (k:= .u64) (n:=(i:Int)+(j:Int)) (m:=(i:Int)+(j:Int)) (cD4 Aa) ?_|refine fK (k:= .i64) (n:=shrI .u64 ((i:Int)+(j:Int)) 1) (m:=(((i+j)/2:Nat):Int)) (bF1 Aa) ?_|refine aB (l:=l) Aa ?_|refine gK (l:=l) a Aa ?_|refine zc E ?_|refine zS ?_|refine zT ?_ ?_<;>intro _|fail)
  all_goals conv=>whnf
  have g:m<t:=by assumption
  refine⟨((i+j)/2+1,j),?_,⟨Aa,Aa,λk y hk d=>?_,u⟩,Aa⟩;exact zj;rcases Qx k ((i+j)/2)with h|h;exact Int.lt_trans (sorted_at (key:=id) x d a h) g;have:k=(i+j)/2:=by omega
  subst this;rw[a]at d;cases d;exact g;have g:t<=m:=by omega
  refine⟨(i,(i+j)/2),?_,⟨Aa,Aa,s,λk y hk d=>?_⟩,Aa⟩;exact zj;rcases Qx ((i+j)/2) k with h|h;exact Int.le_of_lt (Int.lt_of_le_of_lt g (sorted_at (key:=id) x a d h));have:k=(i+j)/2:=by omega
  subst this;rw[a]at d;cases d;exact g
 have e:j=i:=by omega
 subst e;have v:=dC0 (key:=id) o s (λm hm=>u j m (Po _) hm);have c:=eC8 (key:=id) x s (λm hm=>u j m (Po _) hm);rw[v];have z:(∃m∈l,m=t)↔(∃y∈l,id y=t):=Qn;simp only[id]at c;generalize (∃m∈l,m=t)=P at*;by_cases w:j<l.length
 ·have a:=Pj w
  generalize l[j] =m at a;have r:P↔m=t:=c.1 m a;by_cases q:m=t
  ·have f:DB P=V.lit (.bool true):=PN (λb=>V.lit (.bool b)) (dH.2 (r.2 q))
   rw[f];repeat' ((conv=>whnf);first|omega|refine aB (l:=l) Aa ?_|refine gK (l:=l) a Aa ?_|refine zS ?_|refine zT ?_ ?_<;>intro _|fail)
   all_goals exact zE
  have f:DB P=V.lit (.bool false):=PN (λb=>V.lit (.bool b)) (dW.2 (λh=>q (r.1 h)));rw[f];repeat' ((conv=>whnf);first|omega|refine aB (l:=l) Aa ?_|refine gK (l:=l) a Aa ?_|refine zc (dN9 m) ?_|refine zS ?_|refine zT ?_ ?_<;>intro _|fail)
  all_goals exact zE
 have r:¬P:=c.2 (Qj Aa);have f:DB P=V.lit (.bool false):=PN (λb=>V.lit (.bool b)) (dW.2 r);rw[f];exact NI
def cQ0(t:Int)(l:List Int)(a:l.length<=1000000)(b:(l.map id).Pairwise (·<·)):Sp 160 [.sl (l.map I),I t] (.tup [I (bs id l t),DB (∃m∈l,m=t)]):=zsp func160 (fA5 t l a b)
def Sm(n:Int):Prop:= -10000<=n/\n<=10000
def vG{a b:Int}(c:Sm a)(d:Sm b): -100000000<=a*b/\a*b<=100000000:=by
 have h:(a*b).natAbs<=10000*10000:=by
  rw[Int.natAbs_mul];unfold Sm at*;exact Sv Aa Aa
 omega
def kN{a b:Vc}(c:Sm (a.1-b.1))(d:Sm (a.2-b.2)):vsub a b=(a.1-b.1,a.2-b.2):=by
 grind [Sm,vsub,w_in]
def iK{a b:Vc}(c:Sm a.1)(d:Sm a.2)(e:Sm b.1)(f:Sm b.2):bZ a b=a.1*b.2-a.2*b.1:=by
 have g:=vG c f;have h:=vG d e;grind [bZ,w_in]
theorem tC{n:Int}:cmpI n 0≠0↔n≠0:=by
 grind [cmpI]
def rr(a b c d:Int):Rg:=[(a,b),(c,b),(c,d),(a,d)]
theorem aG2{x m:Vc}:kF x m↔x.2<m.2\/(x.2=m.2/\x.1<m.1):=by
 grind [kF,vcmp,orI,cmpI]
def gcd_one(n:Int):divisor n 1=1:=by
 have h:gcdI n 1=1:=by
  simp_all [Int.tmod_one,gcdI]
 unfold divisor;rw[h];decide
def Sm4(v:Vc):Prop:= -4000<=v.1/\v.1<=4000/\-4000<=v.2/\v.2<=4000
def within_iff{v:Vc}{m:Int}(a:0<=m/\m<=1000000):within v m↔-m<=v.1/\v.1<=m/\-m<=v.2/\v.2<=m:=by
 grind [within,w_in]
theorem jP{s:Sg}:bI s↔Sm4 s.1/\Sm4 s.2:=by
 unfold bI;rw[within_iff Aa,within_iff Aa];exact Qn
def X(u v:Vc):Int:=u.1*v.2-u.2*v.1
def dif(u v:Vc):Vc:=(u.1-v.1,u.2-v.2)
theorem xU{p q r s:Vc}(a:Sm4 p)(b:Sm4 q)(c:Sm4 r)(d:Sm4 s):bZ (vsub p q) (vsub r s)=X (dif p q) (dif r s):=by
 unfold Sm4 at*;rw[kN ⟨Aa,Aa⟩ ⟨Aa,Aa⟩,kN ⟨Aa,Aa⟩ ⟨Aa,Aa⟩,iK ⟨AV,AV⟩ ⟨AV,AV⟩ ⟨AV,AV⟩ ⟨AV,AV⟩];rfl
def X_bd{p q r s:Vc}(c:Sm4 p)(d:Sm4 q)(e:Sm4 r)(f:Sm4 s): -200000000<=X (dif p q) (dif r s)/\X (dif p q) (dif r s)<=200000000:=by
 unfold Sm4 at*;unfold X dif;simp only;have g:=vG (a:=p.1-q.1) (b:=r.2-s.2) ⟨Aa,Aa⟩ ⟨Aa,Aa⟩;have i:=vG (a:=p.2-q.2) (b:=r.1-s.1) ⟨Aa,Aa⟩ ⟨Aa,Aa⟩;omega
def xD(s t:Sg):Int:=X (dif s.2 s.1) (dif t.2 t.1)
def xA(s t:Sg):Int:=X (dif t.1 s.1) (dif t.2 t.1)
def xB(s t:Sg):Int:=X (dif t.1 s.1) (dif s.2 s.1)
def aM8{s t:Sg}(e:bI s)(f:bI t):jC s t=xD s t/\lX s t=xA s t/\lS s t=xB s t:=by
 obtain⟨a,b⟩:=jP.1 e;obtain⟨c,d⟩:=jP.1 f;exact⟨xU b a d c,xU c a d c,xU c a b a⟩
def bd_D{s t:Sg}(e:bI s)(f:bI t):(-200000000<=xD s t/\xD s t<=200000000)/\(-200000000<=xA s t/\xA s t<=200000000)/\(-200000000<=xB s t/\xB s t<=200000000):=by
 obtain⟨a,b⟩:=jP.1 e;obtain⟨c,d⟩:=jP.1 f;exact⟨X_bd b a d c,X_bd c a d c,X_bd c a b a⟩
def Bb(s:Sg)(p:Vc):Prop:=min s.1.1 s.2.1<=p.1/\p.1<=max s.1.1 s.2.1/\min s.1.2 s.2.2<=p.2/\p.2<=max s.1.2 s.2.2
theorem eY3(s:Sg)(p:Vc):bJ8 (aC7 [s.1,s.2]).1 p↔Bb s p:=by
 have a:(aC7 [s.1,s.2]).1=((min s.1.1 s.2.1,min s.1.2 s.2.2),(max s.1.1 s.2.1,max s.1.2 s.2.2)):=by
  show gU (gU (s.1,s.1) s.1) s.2=_;grind [gU]
 rw[a];unfold bJ8 Bb;simp only
theorem eU4{s:Sg}{p:Vc}(a:bI s)(h:Bb s p):Sm4 p:=by
 grind [jP,Sm4,Bb]
theorem gZ{s:Sg}{p:Vc}(a:bI s):eX s p↔Bb s p/\X (dif s.2 s.1) (dif p s.1)=0:=by
 grind [jP,eY3,xU,eU4,tC,eX,kR]
theorem zH{a b c:Vc}(d:Sm4 a)(e:Sm4 b)(f:Sm4 c):kR a b c=cmpI (X (dif b a) (dif c a)) 0:=by
 unfold kR;rw[xU e d f d]
def uJ(a b d:Int):Int:=if a<0\/d<a\/b<0\/d<b then 0 else if a=0\/a=d\/b=0\/b=d then 1 else 2
theorem dI7{s t:Sg}(c:bI s)(d:bI t)(g:xD s t≠0):dG s t=if xD s t<0 then uJ (0-xA s t) (0-xB s t) (0-xD s t)else uJ (xA s t) (xB s t) (xD s t):=by
 obtain⟨b,e,f⟩:=aM8 c d;obtain⟨i,j,k⟩:=bd_D c d;unfold dG kQ;rw[Ph (by rintro(h|h)<;>exact h Ah),Pm (by rw[b];exact g)];unfold lines;rw[b,e,f];unfold turned;by_cases a:xD s t<0;rw[Pm a,Pm a,w_in (n:=0-xA s t) Aa,w_in (n:=0-xB s t) Aa,w_in (n:=0-xD s t) Aa];simp only;unfold uJ;split;rfl;rfl;rw[Ph a,Ph a];simp only;unfold uJ;split;rfl;rfl
def share{d k u v p:Int}(c:0<d)(h:d*(p-u)=k*(v-u))(f:0<=k)(g:k<=d):min u v<=p/\p<=max u v:=by
 rcases Int.lt_trichotomy u v with b|b|b;have i:0<=k*(v-u):=Int.mul_nonneg f Aa;have j:k*(v-u)<=d*(v-u):=Int.mul_le_mul_of_nonneg_right g Aa
 have l:0<=p-u:=by
  by_cases e:0<=p-u;exact e;have:=Int.mul_neg_of_pos_of_neg c (show p-u<0 from Aa);omega
 have m:p-u<=v-u:=Int.le_of_mul_le_mul_left (a:=d) Aa c;omega;subst b;rw[Int.sub_self,Int.mul_zero]at h;rcases Int.mul_eq_zero.1 h with h|h<;>omega;have i:0<=k*(u-v):=Int.mul_nonneg f Aa;have j:k*(u-v)<=d*(u-v):=Int.mul_le_mul_of_nonneg_right g Aa
 have n:d*(u-p)=k*(u-v):=by
  grind
 have l:0<=u-p:=by
  by_cases e:0<=u-p;exact e;have:=Int.mul_neg_of_pos_of_neg c (show u-p<0 from Aa);omega
 have m:u-p<=u-v:=Int.le_of_mul_le_mul_left (a:=d) Aa c;omega
def eJ0{d k u v p:Int}(j:0<d)(h:d*(p-u)=k*(v-u))(a:u≠v)(i:min u v<=p/\p<=max u v):0<=k/\k<=d:=by
 rcases Int.lt_or_gt_of_ne a with c|c;have e:0<=d*(p-u):=Int.mul_nonneg Aa Aa;have f:d*(p-u)<=d*(v-u):=Int.mul_le_mul_of_nonneg_left Aa Aa;constructor;by_cases b:0<=k;exact b;have:=Int.mul_neg_of_neg_of_pos (show k<0 from Aa) (show 0<v-u from Aa);omega;simp_all
 have g:d*(u-p)=k*(u-v):=by
  grind
 have e:0<=d*(u-p):=Int.mul_nonneg Aa Aa;have f:d*(u-p)<=d*(u-v):=Int.mul_le_mul_of_nonneg_left Aa Aa;constructor;by_cases b:0<=k;exact b;have:=Int.mul_neg_of_neg_of_pos (show k<0 from Aa) (show 0<u-v from Aa);omega;simp_all
theorem nO{d k:Int}{u v p:Vc}(a:0<d)(i:d*(p.1-u.1)=k*(v.1-u.1))(j:d*(p.2-u.2)=k*(v.2-u.2))(g:u≠v):Bb (u,v) p↔0<=k/\k<=d:=by
 constructor;rintro⟨b,c,e,f⟩;by_cases h:u.1=v.1;have:u.2≠v.2:=λn=>g (Prod.ext h n);exact eJ0 a j this ⟨e,f⟩;exact eJ0 a i h ⟨b,c⟩;rintro⟨l,m⟩;obtain⟨b,c⟩:=share a i l m;obtain⟨e,f⟩:=share a j l m;exact⟨b,c,e,f⟩
def eC4(s t:Sg):xD s t*(t.1.1-s.1.1)=xA s t*(s.2.1-s.1.1)-xB s t*(t.2.1-t.1.1)/\xD s t*(t.1.2-s.1.2)=xA s t*(s.2.2-s.1.2)-xB s t*(t.2.2-t.1.2):=by
 unfold xD xA xB X dif;grind
theorem vK(s t:Sg):X (dif s.2 s.1) (dif t.1 s.1)= -xB s t/\X (dif s.2 s.1) (dif t.2 s.1)=xD s t-xB s t/\X (dif t.2 t.1) (dif s.1 t.1)=xA s t/\X (dif t.2 t.1) (dif s.2 t.1)=xA s t-xD s t:=by
 unfold xD xA xB X dif;grind
def Com(s t:Sg)(p:Vc):Prop:=eX s p/\eX t p
def uH(s t:Sg)(p:Vc):Prop:=p=s.1\/p=s.2\/p=t.1\/p=t.2
theorem rH{s:Sg}(a:bI s):eX s s.1:=by
 rw[gZ a];refine⟨by unfold Bb;omega,?_⟩;unfold X dif;simp
def cN1{s:Sg}(a:bI s):eX s s.2:=by
 rw[gZ a];refine⟨by unfold Bb;omega,?_⟩;unfold X dif;simp only;rw[Int.mul_comm];omega
structure Cr(s t:Sg)(a b d:Int):Prop where
 pos:0<d
 e1:d*(t.1.1-s.1.1)=a*(s.2.1-s.1.1)-b*(t.2.1-t.1.1)
 e2:d*(t.1.2-s.1.2)=a*(s.2.2-s.1.2)-b*(t.2.2-t.1.2)
 kA:xA s t=0↔a=0
 kA':xA s t=xD s t↔a=d
 kB:xB s t=0↔b=0
 kB':xB s t=xD s t↔b=d
def eS6{s t:Sg}{a b d:Int}(o:bI s)(r:bI t)(n:xD s t≠0)(h:Cr s t a b d):
 (eX t s.1↔a=0/\0<=b/\b<=d)/\(eX t s.2↔a=d/\0<=b/\b<=d)/\(eX s t.1↔b=0/\0<=a/\a<=d)/\(eX s t.2↔b=d/\0<=a/\a<=d):=by
 obtain⟨y,z,A,B⟩:=vK s t
 have g:s.1≠s.2:=by
  intro e;apply n;unfold xD X dif;rw[e];simp
 have i:t.1≠t.2:=by
  intro e;apply n;unfold xD X dif;rw[e];simp
 obtain⟨c,C,D,w,m,x,k⟩:=h;rw[gZ r,gZ r,gZ o,gZ o,y,z,A,B];refine⟨?_,?_,?_,?_⟩
 ·constructor
  ·rintro⟨j,l⟩
   have f:=w.1 l;subst f;refine⟨rfl,(nO (u:=t.1) (v:=t.2) (p:=s.1) c ?_ ?_ i).1 j⟩
   ·grind
   ·grind
  ·rintro⟨f,q⟩
   subst f;refine⟨(nO (u:=t.1) (v:=t.2) (p:=s.1) c ?_ ?_ i).2 q,w.2 rfl⟩
   ·grind
   ·grind
 ·constructor
  ·rintro⟨j,l⟩
   have f:=m.1 Aa;subst f;refine⟨rfl,(nO (u:=t.1) (v:=t.2) (p:=s.2) c ?_ ?_ i).1 j⟩
   ·grind
   ·grind
  ·rintro⟨f,q⟩
   subst f;grind [nO]
 ·constructor
  ·rintro⟨j,l⟩
   have f:=x.1 Aa;subst f;refine⟨rfl,(nO (u:=s.1) (v:=s.2) (p:=t.1) c ?_ ?_ g).1 j⟩
   ·grind
   ·grind
  ·rintro⟨f,q⟩
   subst f;refine⟨(nO (u:=s.1) (v:=s.2) (p:=t.1) c ?_ ?_ g).2 q,by have:=x.2 rfl;omega⟩
   ·grind
   ·grind
 ·constructor
  ·rintro⟨j,l⟩
   have f:=k.1 Aa;subst f;refine⟨rfl,(nO (u:=s.1) (v:=s.2) (p:=t.2) c ?_ ?_ g).1 j⟩
   ·grind
   ·grind
  ·rintro⟨f,q⟩
   subst f;refine⟨(nO (u:=s.1) (v:=s.2) (p:=t.2) c ?_ ?_ g).2 q,by have:=k.2 rfl;omega⟩
   ·grind
   ·grind
def cr_of{s t:Sg}(c:xD s t≠0):Cr s t (if xD s t<0 then 0-xA s t else xA s t) (if xD s t<0 then 0-xB s t else xB s t) (if xD s t<0 then 0-xD s t else xD s t):=by
 obtain⟨a,b⟩:=eC4 s t;by_cases h:xD s t<0;rw[Pm h,Pm h,Pm h];exact⟨Aa,BK,BK,Aa,Aa,Aa,Aa⟩;rw[Ph h,Ph h,Ph h];exact⟨Aa,a,b,Qn,Qn,Qn,Qn⟩
def aL3{u v w:Vc}(d:X u w=0)(f:X v w=0)(b:w≠(0,0)):X u v=0:=by
 unfold X at*;by_cases h:w.1=0;have c:w.2≠0:=λa=>b (Prod.ext h a)
 have e:w.2*(u.1*v.2-u.2*v.1)=0:=by
  grind
 grind [Int.mul_eq_zero];have e:w.1*(u.1*v.2-u.2*v.1)=0:=by grind
 rcases Int.mul_eq_zero.1 e with e|e;exact absurd e h;exact e
theorem eO4{s t:Sg}(c:bI s)(d:bI t)(k:xD s t≠0){p q:Vc}(a:Com s t p)(b:Com s t q):p=q:=by
 by_cases h:p=q;exact h;exfalso;apply k;have f:=((gZ c).1 a.1).2;have g:=((gZ c).1 b.1).2;have i:=((gZ d).1 a.2).2;have j:=((gZ d).1 b.2).2;refine aL3 (u:=dif s.2 s.1) (v:=dif t.2 t.1) (w:=dif p q) ?_ ?_ ?_;have e:X (dif s.2 s.1) (dif p q)=X (dif s.2 s.1) (dif p s.1)-X (dif s.2 s.1) (dif q s.1):=by unfold X dif;simp only;grind
 rw[e,f,g];rfl;have e:X (dif t.2 t.1) (dif p q)=X (dif t.2 t.1) (dif p t.1)-X (dif t.2 t.1) (dif q t.1):=by unfold X dif;simp only;grind
 rw[e,i,j];rfl;intro e;apply h;have l:p.1-q.1=0:=PN Prod.fst e;have m:p.2-q.2=0:=PN Prod.snd e;exact Prod.ext Aa Aa
def zT9(s t:Sg):Prop:=kR s.1 s.2 t.1*kR s.1 s.2 t.2<0/\kR t.1 t.2 s.1*kR t.1 t.2 s.2<0
theorem cmp_neg{m n:Int}:cmpI m 0*cmpI n 0<0↔(m<0/\0<n)\/(0<m/\n<0):=by
 grind [cmpI]
def wY{s t:Sg}(a:bI s)(b:bI t):zT9 s t↔((-xB s t<0/\0<xD s t-xB s t)\/(0< -xB s t/\xD s t-xB s t<0))/\((xA s t<0/\0<xA s t-xD s t)\/(0<xA s t/\xA s t-xD s t<0)):=by
 grind [jP,vK,zH,cmp_neg,zT9]
structure bT6(s t:Sg)(k:Int):Prop where
 over:k=3↔∃p q,uH s t p/\uH s t q/\p≠q/\Com s t p/\Com s t q
 touch:(∃p,uH s t p/\Com s t p)↔k=1\/k=3
 cross:k=2↔(¬∃p,uH s t p/\Com s t p)/\zT9 s t
theorem eK8{s t:Sg}(f:bI s)(g:bI t)(k:xD s t≠0):bT6 s t (dG s t):=by
 have l:=cr_of (s:=s) (t:=t) k;obtain⟨n,o,q,r⟩:=eS6 f g k l;have j:=wY f g
 have u:dG s t=uJ (if xD s t<0 then 0-xA s t else xA s t) (if xD s t<0 then 0-xB s t else xB s t) (if xD s t<0 then 0-xD s t else xD s t):=by
  rw[dI7 f g k];split<;>rfl
 have m:=l.pos
 have e:zT9 s t↔(0< (if xD s t<0 then 0-xB s t else xB s t)/\(if xD s t<0 then 0-xB s t else xB s t)< (if xD s t<0 then 0-xD s t else xD s t))/\(0< (if xD s t<0 then 0-xA s t else xA s t)/\(if xD s t<0 then 0-xA s t else xA s t)< (if xD s t<0 then 0-xD s t else xD s t)):=by
  rw[j];omega
 generalize (if xD s t<0 then 0-xA s t else xA s t)=a at*;generalize (if xD s t<0 then 0-xB s t else xB s t)=b at*;generalize (if xD s t<0 then 0-xD s t else xD s t)=d at*
 have c:(∃p,uH s t p/\Com s t p)↔uJ a b d=1:=by
  constructor;rintro⟨p,v,w,x⟩;unfold uJ;rcases v with rfl|rfl|rfl|rfl;grind;grind;grind;grind;intro h;unfold uJ at h;split at h;cases h;split at h;rename_i y i;rcases i with i|i|i|i;exact⟨s.1, .inl rfl,rH f,n.2 Aa⟩;exact⟨s.2, .inr (.inl rfl),cN1 f,o.2 Aa⟩;exact⟨t.1, .inr (.inr (.inl rfl)),q.2 Aa,rH g⟩;exact⟨t.2, .inr (.inr (.inr rfl)),r.2 Aa,cN1 g⟩;cases h
 have hv:uJ a b d=0\/uJ a b d=1\/uJ a b d=2:=by
  unfold uJ;split;simp;split<;>simp
 rw[u];refine⟨⟨λh=>Aa,?_⟩,?_,?_⟩;grind [eO4];rw[c];omega;rw[c,e];unfold uJ;omega
end Go.Proofs.Led
