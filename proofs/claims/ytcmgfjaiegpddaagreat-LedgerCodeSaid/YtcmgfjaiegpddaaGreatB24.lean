/- Lemmas. -/
import Derived.Test.YtcmgfjaiegpddaaGreatB16
set_option linter.all false
set_option maxRecDepth 100000
set_option maxHeartbeats 4000000
noncomputable section
namespace Go.Proofs.Led
open Go Go.Proofs Go.Ab Tryz
def rTxy_vc{b:List Int}{k m:Nat}{f a:Bool}{l:List Int}{M:Int}(d:∀c∈l,isB c)(g:SpB 52 [.box 100000 0,I M] [rdC b k f] (.sl (l.map byV)) [rdC b m a]):jR T Tryz.prog Tryz.f51 [.box 100000 0,I M] [rdC b k f] (S (strOf l)) [rdC b m a] :=KC
def rTx(hI:RInt)(M:Int):Rds 51 [I M] (cText M) (S aI) S where
 y:=by
  intro b k s m hb hk h;have:=rTxy_vc (bys_isB s) ((rBy hI M).y hb hk ((cText_at hb).1 h));rw[of_bys]at this;exact b_of func51 Ac Ac rfl rfl this
 n:=by
  intro b k hb hk h;refine b_of func51 Ac Ac rfl rfl (rTxy_vc (l:=[]) (λ_ h=>Ah) ((rBy hI M).n hb hk (at_none_of λl m e=>?_)));exact PG
 s:=by
  intro b k hb hk;exact b_of func51 Ac Ac rfl rfl (rTxy_vc (l:=[]) (λ_ h=>Ah) ((rBy hI M).s hb hk))
def rVc_y{b:List Int}{k a m:Nat}{x y:Int}(c:SpB 50 [.box 100000 0] [rdC b k false] (I x) [rdC b a false])(d:SpB 50 [.box 100000 0] [rdC b a false] (I y) [rdC b m false]):jR T Tryz.prog Tryz.f54 [.box 100000 0] [rdC b k false] (vcV (x,y)) [rdC b m false] :=by
 repeat' ((conv=>whnf);first|omega|refine zh (c) [100000] ?_|refine zh (d) [100000] ?_|refine zS ?_|refine zm (λx e=>?_)|refine zT ?_ ?_<;>intro _|fail)
 all_goals conv=>whnf
 all_goals first|exact⟨_,rfl,zc1⟩|exact zc1
def rVc_n{b:List Int}{k c d:Nat}{x y:Int}{f a:Bool}(e:SpB 50 [.box 100000 0] [rdC b k f] (I x) [rdC b c a])(g:SpB 50 [.box 100000 0] [rdC b c a] (I y) [rdC b d true]):jR T Tryz.prog Tryz.f54 [.box 100000 0] [rdC b k f] (vcV z0) [rdC b k true] :=by
 have h:=rfail_spec b d k true;repeat' ((conv=>whnf);first|omega|refine zh (e) [100000] ?_|refine zh (g) [100000] ?_|refine zh (h) [100000] ?_|refine zS ?_|refine zm (λx i=>?_)|refine zT ?_ ?_<;>intro _|fail)
 all_goals conv=>whnf
 all_goals first|exact⟨_,rfl,zc1⟩|exact zc1
def rVc(hI:RInt):Rds 54 [] cVec (vcV z0) vcV where
 y:=by
  intro b k v m hb hk h;obtain⟨k1,h1,h2⟩:=pair_at.1 (show(cI.pair cI).at b k=some ((v.1,v.2),m)from h);exact b_of func54 Ac Ac rfl rfl (rVc_y (hI.y hb hk h1) (hI.y hb (Cod.at_le h1 hk).2 h2))
 n:=by
  intro b k hb hk h;refine b_of func54 Ac Ac rfl rfl ?_;cases e:cI.at b k with
  |none=>exact rVc_n (hI.n hb hk e) (hI.s hb hk)
  |some p=>
   have hle:=Cod.at_le e hk;cases e2:cI.at b p.2 with
   |none=>exact rVc_n (hI.y hb hk e) (hI.n hb hle.2 e2)
   |some q=>exact absurd (pair_at.2 ⟨p.2,e,e2⟩) FU
 s:=by
  intro b k hb hk;exact b_of func54 Ac Ac rfl rfl (rVc_n (hI.s hb hk) (hI.s hb hk))
def rgSt(b:List Int)(k n m:Nat)(f:Bool):List Vc->St
 | [] =>mkSt [(0, .box 100000 0),(4, .lit (.slice none 0 0)),(5,I k),(6,I n),(7, .lit (.slice none 0 0)),(8,I 0)] [(100000,rdC b m f)] []
 |d::D=>mkSt [(0, .box 100000 0),(4, .lit (.slice none 0 0)),(5,I k),(6,I n),(7, .arr 32 D.length),(8,I (D.length+1))] [(100000,rdC b m f)] [(32,⟨D.length, .own,84,(d::D).map vcV⟩)]
def rRg_vc(o:RInt){b:List Int}{k a n:Nat}{M:Int}{f i:Bool}(q:Byt b)(s:n<=1000000)(l:a<=b.length)(g:SpB 53 [.box 100000 0,I 0,I M] [rdC b k f] (I n) [rdC b a i])(r:V)(m':Nat)(e:Bool)(hy:∀D m,D.length=n->RStp cVec b a i D m false->r=rgV D/\m'=m/\e=false)(hn:∀D m,D.length<=n->RStp cVec b a i D m true->r= .sl []/\m'=k/\e=true):jR T Tryz.prog Tryz.f141 [.box 100000 0,I M] [rdC b k f] r [rdC b m' e] :=by
 repeat' ((conv=>whnf);first|omega|refine zh (g) [100000] ?_|refine zS ?_|refine zm (λx hx=>?_)|refine zT ?_ ?_<;>intro _|fail)
 all_goals conv=>whnf
 refine lD (A:=List Vc×Nat×Bool) (λp=>match p with|(D,m,j)=>rgSt b k n m j D) (λp=>p.1.length<=n/\RStp cVec b a i p.1 p.2.1 p.2.2) (λp=>n-p.1.length) ([],a,i) ?_ ⟨SH _,RStp.nil _ l _⟩ ?_;show Le T _ (mkSt _ _ _);exact zj;rintro⟨D,m,j⟩ ⟨hD,hR⟩;simp only at hD hR;cases j with
 |true=>exact NH
 |false=>
  by_cases c:D.length=n;exact Jr;obtain⟨x,m2,f2,t,u⟩:=(rVc o).step z0 rfl q hR.1 false;have hR2:=hR.snoc t;cases D with
  |nil=>
   have c0:0<n:=CO;all_goals conv=>whnf
   repeat' ((conv=>whnf);first|omega|refine zh (u) [100000] ?_|refine gX (Q9 rfl) (dA rfl) A8 ?_|refine zS ?_|refine zm (λx hx=>?_)|refine zT ?_ ?_<;>intro _|fail)
   all_goals conv=>whnf
   exact QG
  |cons d D=>
   have c0:D.length+1<n:=BR;have v:((d::D).map vcV).length=D.length+1:=Af;have ec:(d::(D++[x])).map vcV=(d::D).map vcV++[vcV x] :=Af;have el:(D++[x]).length=D.length+1:=Af;all_goals conv=>whnf
   repeat' ((conv=>whnf);first|omega|refine zh (u) [100000] ?_|refine iH rfl (.inl rfl) rfl (Q9 rfl) (dA rfl) CX ?_|refine zS ?_|refine zm (λx hx=>?_)|refine zT ?_ ?_<;>intro _|fail)
   all_goals conv=>whnf
   exact Qo
def rRg(hI:RInt)(M:Int)(hM:M<=1000000):Rds 141 [I M] (cRing M) (.sl []) rgV where
 y:=by
  intro b k r m hb hk h;refine b_of func141 Ac Ac rfl rfl ?_;cases e:(cBd 0 M).at b k with
  |none=>rw[show(cRing M).at b k=none from list_none hb hk e]at h;cases h
  |some p=>
   obtain⟨n,hn⟩:=cBd_nat e;have e1:(cBd 0 M).at b k=some ((n:Int),p.2):=GH;have hnM:=(cBd_at.1 e1).2.2;have s1:Stp (cBd 0 M) b k false (n:Int) p.2 false:=⟨(Cod.at_le e hk).2,λ_=>⟨rfl,e1⟩,λh=>Ah⟩;refine rRg_vc hI hb Aa (Cod.at_le e hk).2 ((rBd hI 0 M).y hb hk e1) _ _ _ (λD m1 hD hR=>?_) (λD m1 hD hR=>?_);have:=(Stp.list hb hk hM s1 hR hD).2.1 rfl;have h2:(cVec.list M).at b k=some (r,m):=h;rw[h2]at this;cases this.2;exact⟨rfl,rfl,rfl⟩;have h2:(cVec.list M).at b k=some (r,m):=h;obtain⟨k2,q1,_,q2⟩:=(list_at hb hk).1 h2;rw[e1]at q1;have z1:(n:Int)=r.length:=SK Prod.fst (TF q1);have z2:p.2=k2:=SK Prod.snd (TF q1);subst z2;rcases hR.2.2 rfl with q|q;cases q;exact absurd q2 (q r m Aa)
 n:=by
  intro b k hb hk h;refine b_of func141 Ac Ac rfl rfl ?_;cases e:(cBd 0 M).at b k with
  |none=>
   refine rRg_vc hI (n:=0) hb Aa hk ((rBd hI 0 M).n hb hk e) _ _ _ (λD m1 hD hR=>?_) (λD m1 hD hR=>⟨rfl,rfl,rfl⟩);have:=(hR.2.1 rfl).1;cases this
  |some p=>
   obtain⟨n,hn⟩:=cBd_nat e;have e1:(cBd 0 M).at b k=some ((n:Int),p.2):=GH;have hnM:=(cBd_at.1 e1).2.2;have s1:Stp (cBd 0 M) b k false (n:Int) p.2 false:=⟨(Cod.at_le e hk).2,λ_=>⟨rfl,e1⟩,λh=>Ah⟩;refine rRg_vc hI hb Aa (Cod.at_le e hk).2 ((rBd hI 0 M).y hb hk e1) _ _ _ (λD m1 hD hR=>?_) (λD m1 hD hR=>⟨rfl,rfl,rfl⟩);have:=(Stp.list hb hk hM s1 hR hD).2.1 rfl;rw[show(cVec.list M).at b k=none from h]at this;cases this.2
 s:=by
  intro b k hb hk;refine b_of func141 Ac Ac rfl rfl ?_;refine rRg_vc hI (n:=0) hb Aa hk ((rBd hI 0 M).s hb hk) _ _ _ (λD m1 hD hR=>?_) (λD m1 hD hR=>⟨rfl,rfl,rfl⟩);have:=(hR.2.1 rfl).1;cases this
def shSt(b:List Int)(o:List Vc)(k n m:Nat)(f:Bool):List (List Vc)->St
 | [] =>mkSt [(0, .box 100000 0),(2, .box 2 0),(3,I k),(4, .box 4 0),(5,I n),(6,I 0)] [(2,[.lit (.slice none 0 0), .lit (.slice none 0 0)]),(100000,rdC b m f),(4,[rgV o, .lit (.slice none 0 0)])] []
 |d::D=>mkSt [(0, .box 100000 0),(2, .box 2 0),(3,I k),(4, .box 4 0),(5,I n),(6,I (D.length+1))] [(2,[.lit (.slice none 0 0), .lit (.slice none 0 0)]),(100000,rdC b m f),(4,[rgV o, .arr 33 D.length])] [(33,⟨D.length, .own,23,(d::D).map rgV⟩)]
def rSh_vc(w:RInt){b:List Int}{k q a n:Nat}{f l i:Bool}{o:List Vc}(y:Byt b)(z:n<=6)(v:a<=b.length)(s:SpB 141 [.box 100000 0,I 40] [rdC b k f] (rgV o) [rdC b q l])(g:SpB 53 [.box 100000 0,I 0,I 6] [rdC b q l] (I n) [rdC b a i])(r:V)(m':Nat)(e:Bool)(hy:∀D m,D.length=n->RStp (cRing 40) b a i D m false->r=shV ⟨o,D⟩/\m'=m/\e=false)(hn:∀D m,D.length<=n->RStp (cRing 40) b a i D m true->r=shV sh0/\m'=k/\e=true):jR T Tryz.prog Tryz.f102 [.box 100000 0] [rdC b k f] r [rdC b m' e] :=by
 repeat' ((conv=>whnf);first|omega|refine zh (s) [100000] ?_|refine zh (g) [100000] ?_|refine zS ?_|refine zm (λx hx=>?_)|refine zT ?_ ?_<;>intro _|fail)
 all_goals conv=>whnf
 refine lD (A:=List (List Vc)×Nat×Bool) (λp=>match p with|(D,m,j)=>shSt b o k n m j D) (λp=>p.1.length<=n/\RStp (cRing 40) b a i p.1 p.2.1 p.2.2) (λp=>n-p.1.length) ([],a,i) ?_ ⟨SH _,RStp.nil _ v _⟩ ?_;show Le T _ (mkSt _ _ _);exact zj;rintro⟨D,m,j⟩ ⟨hD,hR⟩;simp only at hD hR;cases j with
 |true=>exact NH
 |false=>
  by_cases c:D.length=n;exact Jr;obtain⟨x,m2,f2,t,u⟩:=(rRg w 40 Ai).step [] rfl y hR.1 false;have hR2:=hR.snoc t;cases D with
  |nil=>
   have c0:0<n:=CO;all_goals conv=>whnf
   repeat' ((conv=>whnf);first|omega|refine bW8 [(4,4),(28,4),(34,4)] [(31,[100000])] Ad Ak ?_|refine zh (u) [100000] ?_|refine gX (Q9 rfl) (dA rfl) A8 ?_|refine zS ?_|refine zm (λx hx=>?_)|refine zT ?_ ?_<;>intro _|fail)
   all_goals conv=>whnf
   exact QG
  |cons d D=>
   have c0:D.length+1<n:=BR;have B:((d::D).map rgV).length=D.length+1:=Af;have ec:(d::(D++[x])).map rgV=(d::D).map rgV++[rgV x] :=Af;have el:(D++[x]).length=D.length+1:=Af;all_goals conv=>whnf
   repeat' ((conv=>whnf);first|omega|refine bW8 [(4,4),(28,4),(34,4)] [(31,[100000])] Ad Ak ?_|refine zh (u) [100000] ?_|refine iH rfl (.inl rfl) rfl (Q9 rfl) (dA rfl) CY ?_|refine zS ?_|refine zm (λx hx=>?_)|refine zT ?_ ?_<;>intro _|fail)
   all_goals conv=>whnf
   exact Qo
def rBd_step(d:RInt){M:Int}(j:0<=M){b:List Int}{k:Nat}(g:Byt b)(a:k<=b.length)(f:Bool):∃(n:Nat) (m:Nat) (i:Bool),(n:Int)<=M/\Stp (cBd 0 M) b k f (n:Int) m i/\SpB 53 [.box 100000 0,I 0,I M] [rdC b k f] (I n) [rdC b m i] :=by
 cases f;cases e:(cBd 0 M).at b k with
 |none=>exact⟨0,k,true,j,⟨a,λh=>Ah,λ_=> .inr e⟩,(rBd d 0 M).n g a e⟩
 |some p=>
  obtain⟨n,hn⟩:=cBd_nat e;have c:(cBd 0 M).at b k=some ((n:Int),p.2):=GH;exact⟨n,p.2,false,(cBd_at.1 c).2.2,⟨(Cod.at_le e a).2,λ_=>⟨rfl,c⟩,λh=>Ah⟩,(rBd d 0 M).y g a c⟩
 exact⟨0,k,true,j,⟨a,λh=>Ah,λ_=> .inl rfl⟩,(rBd d 0 M).s g a⟩
def rSh(hI:RInt):Rds 102 [] cShape (shV sh0) shV where
 y:=by
  intro b k x m hb hk h;refine b_of func102 Ac Ac rfl rfl ?_;obtain⟨o,k0,f0,s0,g0⟩:=(rRg hI 40 Ai).step [] rfl hb hk false;obtain⟨n,k1,f1,hn,s1,g1⟩:=rBd_step hI (M:=6) Ai hb s0.1 f0;refine rSh_vc hI hb Aa s1.1 g0 g1 _ _ _ (λD m1 hD hR=>?_) (λD m1 hD hR=>?_);have hS:=((s0.pair (Stp.list hb s0.1 Ai s1 hR hD)).2.1 rfl).2;have h2:=pair_at.2 (shape_at.1 h);rw[h2]at hS;cases hS;exact⟨rfl,rfl,rfl⟩;exfalso;obtain⟨k',q1,q2⟩:=shape_at.1 h;cases f0 with
  |true=>
   rcases s0.2.2 rfl with q|q;cases q;rw[q1]at q;cases q
  |false=>
   have e0:=(s0.2.1 rfl).2;rw[q1]at e0;cases e0;obtain⟨k2,e1,_,e2⟩:=(list_at hb s0.1).1 q2;cases f1 with
   |true=>
    rcases s1.2.2 rfl with q|q;cases q;rw[e1]at q;cases q
   |false=>
    have e3:=(s1.2.1 rfl).2;rw[e1]at e3;have z1:(x.holes.length:Int)=n:=SK Prod.fst (TF e3);have z2:k2=k1:=SK Prod.snd (TF e3);subst z2;rcases hR.2.2 rfl with q|q;cases q;exact q x.holes m Aa e2
 n:=by
  intro b k hb hk h;refine b_of func102 Ac Ac rfl rfl ?_;obtain⟨o,k0,f0,s0,g0⟩:=(rRg hI 40 Ai).step [] rfl hb hk false;obtain⟨n,k1,f1,hn,s1,g1⟩:=rBd_step hI (M:=6) Ai hb s0.1 f0;refine rSh_vc hI hb Aa s1.1 g0 g1 _ _ _ (λD m1 hD hR=>?_) (λD m1 hD hR=>⟨rfl,rfl,rfl⟩);have hS:=((s0.pair (Stp.list hb s0.1 Ai s1 hR hD)).2.1 rfl).2;have h2:=shape_at (s:=⟨o,D⟩).2 (pair_at.1 hS);rw[h]at h2;cases h2
 s:=by
  intro b k hb hk;refine b_of func102 Ac Ac rfl rfl ?_;obtain⟨o,k0,f0,s0,g0⟩:=(rRg hI 40 Ai).step [] rfl hb hk true;obtain⟨n,k1,f1,hn,s1,g1⟩:=rBd_step hI (M:=6) Ai hb s0.1 f0;refine rSh_vc hI hb Aa s1.1 g0 g1 _ _ _ (λD m1 hD hR=>?_) (λD m1 hD hR=>⟨rfl,rfl,rfl⟩);have q1:=(hR.2.1 rfl).1;have q2:=(s1.2.1 q1).1;have q3:=(s0.2.1 q2).1;cases q3
end Go.Proofs.Led
