/- Lemmas. -/
import Derived.Test.YtcmgfjaiegpddaaGreatB24
import Derived.Test.YtcmgfjaiegpddaaGreatB32
import Derived.Test.YtcmgfjaiegpddaaGreatB23
set_option linter.all false
set_option maxRecDepth 100000
set_option maxHeartbeats 8000000
noncomputable section
namespace Go.Proofs.Led
open Go Go.Proofs Go.Ab Tryz
def rdsSt(b:List Int)(s:jL)(n:Nat)(k:Nat)(f:Bool):List Sh->St
 | [] =>mkSt [(2, .box 2 0),(3,I 0),(4, .box 10 0),(5, .box 5 0),(6,I n),(7,I 0)] [(2,shtZ),(10,rdC b k f),(5,[I s.id,S s.grade,S s.heat,I s.grain,rgV s.shape.outer, .sl (s.shape.holes.map rgV), .lit (.slice none 0 0)])] []
 |d::D=>mkSt [(2, .box 2 0),(3,I 0),(4, .box 10 0),(5, .box 5 0),(6,I n),(7,I (D.length+1))] [(2,shtZ),(10,rdC b k f),(5,[I s.id,S s.grade,S s.heat,I s.grain,rgV s.shape.outer, .sl (s.shape.holes.map rgV), .arr 34 D.length])] [(34,⟨D.length, .own,26,(d::D).map shV⟩)]
def rdSheet_vc{b:List Int}(k:Byt b)(r:V)(z:∀s,cSheet.at b 0=some (s,b.length)->r= .tup [zJ s,I 0])(hn:(∀s,cSheet.at b 0≠some (s,b.length))->r= .tup [zJ dN,I 4]):fnVC T Tryz.prog Tryz.f55 [.sl (b.map byV)] r:=by
 obtain⟨i,k1,K,E,Q⟩:=rInt.step 0 rfl k (SH _) false;obtain⟨f,k2,L,F,R⟩:=(rTx rInt 16).step aI rfl k E.1 K;obtain⟨g,k3,N,G,S⟩:=(rTx rInt 16).step aI rfl k F.1 L;obtain⟨a,k4,O,H,U⟩:=rInt.step 0 rfl k G.1 N;obtain⟨j,k5,P,v,W⟩:=(rSh rInt).step sh0 rfl k H.1 O;obtain⟨n,C,w,Y,J,X⟩:=rBd_step rInt (M:=6) Ai k v.1 P;all_goals conv=>whnf
 refine eY7 ?_;repeat' ((conv=>whnf);first|omega|refine zU ?_|refine zm (λx hx=>?_)|refine zT ?_ ?_<;>intro _|fail)
 refine eY7 ?_;repeat' ((conv=>whnf);first|omega|refine zU ?_|refine zm (λx hx=>?_)|refine zT ?_ ?_<;>intro _|fail)
 refine eY7 ?_;repeat' ((conv=>whnf);first|refine zh (Q) [10] ?_|refine zh (R) [10] ?_|refine zh (S) [10] ?_|refine zh (U) [10] ?_|refine zh (W) [10] ?_|refine zU ?_|refine zm (λx hx=>?_)|refine zT ?_ ?_<;>intro _|fail)
 repeat' ((conv=>whnf);first|refine zh (X) [10] ?_|refine zS ?_|refine zm (λx hx=>?_)|refine zT ?_ ?_<;>intro _|fail)
 all_goals conv=>whnf
 refine lD (A:=List Sh×Nat×Bool) (λp=>match p with|(D,m,f')=>rdsSt b ⟨i,f,g,a,j,[]⟩ n m f' D) (λp=>p.1.length<=n/\RStp cShape b C w p.1 p.2.1 p.2.2) (λp=>n-p.1.length) ([],C,w) ?_ ⟨SH _,RStp.nil _ J.1 _⟩ ?_;show Le T _ (mkSt _ _ _);exact zj;rintro⟨D,m,f'⟩ ⟨hD,l⟩;simp only at hD l;by_cases c:D.length=n
 ·have hS:=E.pair (F.pair (G.pair (H.pair (v.pair (Stp.list k v.1 Ai J l c)))))
  cases D with
  |nil=>
   have u:n=0:=c.symm;all_goals conv=>whnf
   have hE:=rEnd_spec b m f' l.1;by_cases he:f'=true\/m<b.length;exact N9;rw[RZ he]at hE;have hf:f'=false:=Am;have t:m=b.length:=by have:=hS.1;have:¬m<b.length:=λh=>he (.inr h);omega
   have hat:=(hS.2.1 hf).2;rw[t]at hat;have o:=fP7 ⟨i,f,g,a,j,[]⟩ (sheet_fits hat);by_cases hv:dB ⟨i,f,g,a,j,[]⟩;have hr:=z ⟨i,f,g,a,j,[]⟩ (sheet_at.2 ⟨hat,hv⟩);rw[show DB (dB ⟨i,f,g,a,j,[]⟩)=B true from SK B (dH.2 hv)]at o;exact NJ
   have hr:=hn λs e=>by
    exact Oq
   rw[show DB (dB ⟨i,f,g,a,j,[]⟩)=B false from SK B (dW.2 hv)]at o;exact NJ
  |cons d D=>
   have u:n=D.length+1:=c.symm;all_goals conv=>whnf
   have hE:=rEnd_spec b m f' l.1;by_cases he:f'=true\/m<b.length;exact N9;rw[RZ he]at hE;have hf:f'=false:=Am;have t:m=b.length:=by have:=hS.1;have:¬m<b.length:=λh=>he (.inr h);omega
   have hat:=(hS.2.1 hf).2;rw[t]at hat;have o:=fP7 ⟨i,f,g,a,j,d::D⟩ (sheet_fits hat);by_cases hv:dB ⟨i,f,g,a,j,d::D⟩;have hr:=z ⟨i,f,g,a,j,d::D⟩ (sheet_at.2 ⟨hat,hv⟩);rw[show DB (dB ⟨i,f,g,a,j,d::D⟩)=B true from SK B (dH.2 hv)]at o;exact NJ
   have hr:=hn λs e=>by
    exact Oq
   rw[show DB (dB ⟨i,f,g,a,j,d::D⟩)=B false from SK B (dW.2 hv)]at o;exact NJ
 obtain⟨x,m2,f2',Z,y⟩:=(rSh rInt).step sh0 rfl k l.1 f';have hR2:=l.snoc Z;cases D with
 |nil=>
  have c0:0<n:=CO;all_goals conv=>whnf
  repeat' ((conv=>whnf);first|omega|refine bW8 [(5,5),(29,5),(35,5)] [(32,[10])] Ad Ak ?_|refine zh (y) [10] ?_|refine gX (Q9 rfl) (dA rfl) A8 ?_|refine zS ?_|refine zm (λx hx=>?_)|refine zT ?_ ?_<;>intro _|fail)
  all_goals conv=>whnf
  exact QE
 |cons d D=>
  have c0:D.length+1<n:=BR;have hl:((d::D).map shV).length=D.length+1:=Af;have ec:(d::(D++[x])).map shV=(d::D).map shV++[shV x] :=Af;have el:(D++[x]).length=D.length+1:=Af;all_goals conv=>whnf
  repeat' ((conv=>whnf);first|omega|refine bW8 [(5,5),(29,5),(35,5)] [(32,[10])] Ad Ak ?_|refine zh (y) [10] ?_|refine iH rfl (.inl rfl) rfl (Q9 rfl) (dA rfl) F5 ?_|refine zS ?_|refine zm (λx hx=>?_)|refine zT ?_ ?_<;>intro _|fail)
  all_goals conv=>whnf
  exact Qn
def rdbSt(b:List Int)(s:Bar)(n:Nat)(k:Nat)(f:Bool):List Iv->St
 | [] =>mkSt [(2, .box 2 0),(3,I 0),(4, .box 10 0),(5, .box 5 0),(6,I n),(7,I 0)] [(2,brZ),(10,rdC b k f),(5,[I s.id,S s.grade,S s.heat,I s.length, .lit (.slice none 0 0)])] []
 |d::D=>mkSt [(2, .box 2 0),(3,I 0),(4, .box 10 0),(5, .box 5 0),(6,I n),(7,I (D.length+1))] [(2,brZ),(10,rdC b k f),(5,[I s.id,S s.grade,S s.heat,I s.length, .arr 35 D.length])] [(35,⟨D.length, .own,64,(d::D).map ivV⟩)]
def rdBar_vc{b:List Int}(j:Byt b)(r:V)(C:∀s,cBar.at b 0=some (s,b.length)->r= .tup [barV s,I 0])(hn:(∀s,cBar.at b 0≠some (s,b.length))->r= .tup [barV bar0,I 4]):fnVC T Tryz.prog Tryz.f56 [.sl (b.map byV)] r:=by
 obtain⟨i,k1,L,F,Q⟩:=rInt.step 0 rfl j (SH _) false;obtain⟨f,k2,N,G,R⟩:=(rTx rInt 16).step aI rfl j F.1 L;obtain⟨g,k3,O,H,S⟩:=(rTx rInt 16).step aI rfl j G.1 N;obtain⟨a,k4,P,v,U⟩:=rInt.step 0 rfl j H.1 O;obtain⟨n,E,w,X,J,W⟩:=rBd_step rInt (M:=6) Ai j v.1 P;all_goals conv=>whnf
 refine eY7 ?_;repeat' ((conv=>whnf);first|omega|refine zU ?_|refine zm (λx hx=>?_)|refine zT ?_ ?_<;>intro _|fail)
 refine eY7 ?_;repeat' ((conv=>whnf);first|omega|refine zU ?_|refine zm (λx hx=>?_)|refine zT ?_ ?_<;>intro _|fail)
 refine eY7 ?_;repeat' ((conv=>whnf);first|refine zh (Q) [10] ?_|refine zh (R) [10] ?_|refine zh (S) [10] ?_|refine zh (U) [10] ?_|refine zU ?_|refine zm (λx hx=>?_)|refine zT ?_ ?_<;>intro _|fail)
 repeat' ((conv=>whnf);first|refine zh (W) [10] ?_|refine zS ?_|refine zm (λx hx=>?_)|refine zT ?_ ?_<;>intro _|fail)
 all_goals conv=>whnf
 refine lD (A:=List Iv×Nat×Bool) (λp=>match p with|(D,m,f')=>rdbSt b ⟨i,f,g,a,[]⟩ n m f' D) (λp=>p.1.length<=n/\RStp (cI.pair cI) b E w p.1 p.2.1 p.2.2) (λp=>n-p.1.length) ([],E,w) ?_ ⟨SH _,RStp.nil _ J.1 _⟩ ?_;show Le T _ (mkSt _ _ _);exact zj;rintro⟨D,m,f'⟩ ⟨hD,k⟩;simp only at hD k;by_cases c:D.length=n
 ·have hS:=F.pair (G.pair (H.pair (v.pair (Stp.list j v.1 Ai J k c))))
  cases D with
  |nil=>
   have u:n=0:=c.symm;all_goals conv=>whnf
   have hE:=rEnd_spec b m f' k.1;by_cases he:f'=true\/m<b.length;exact ND;rw[RZ he]at hE;have hf:f'=false:=Am;have t:m=b.length:=by have:=hS.1;have:¬m<b.length:=λh=>he (.inr h);omega
   have hat:=(hS.2.1 hf).2;rw[t]at hat;have l:=fR3 ⟨i,f,g,a,[]⟩ (SX (bar_fits hat) Ai);by_cases hv:fM ⟨i,f,g,a,[]⟩;have hr:=C ⟨i,f,g,a,[]⟩ (bar_at.2 ⟨hat,hv⟩);rw[show DB (fM ⟨i,f,g,a,[]⟩)=B true from SK B (dH.2 hv)]at l;exact NJ
   have hr:=hn λs e=>by
    exact Ot
   rw[show DB (fM ⟨i,f,g,a,[]⟩)=B false from SK B (dW.2 hv)]at l;exact NJ
  |cons d D=>
   have u:n=D.length+1:=c.symm;all_goals conv=>whnf
   have hE:=rEnd_spec b m f' k.1;by_cases he:f'=true\/m<b.length;exact ND;rw[RZ he]at hE;have hf:f'=false:=Am;have t:m=b.length:=by have:=hS.1;have:¬m<b.length:=λh=>he (.inr h);omega
   have hat:=(hS.2.1 hf).2;rw[t]at hat;have l:=fR3 ⟨i,f,g,a,d::D⟩ (SX (bar_fits hat) Ai);by_cases hv:fM ⟨i,f,g,a,d::D⟩;have hr:=C ⟨i,f,g,a,d::D⟩ (bar_at.2 ⟨hat,hv⟩);rw[show DB (fM ⟨i,f,g,a,d::D⟩)=B true from SK B (dH.2 hv)]at l;exact NJ
   have hr:=hn λs e=>by
    exact Ot
   rw[show DB (fM ⟨i,f,g,a,d::D⟩)=B false from SK B (dW.2 hv)]at l;exact NJ
 obtain⟨x1,m1,o,K,y⟩:=rInt.step 0 rfl j k.1 f';obtain⟨x2,m2,f2',Y,z⟩:=rInt.step 0 rfl j K.1 o;have hR2:=k.snoc (K.pair Y);cases D with
 |nil=>
  have c0:0<n:=CO;all_goals conv=>whnf
  repeat' ((conv=>whnf);first|omega|refine bW8 [(5,5),(27,5),(36,5)] [(30,[10]),(32,[10])] Ad Ak ?_|refine zh (y) [10] ?_|refine zh (z) [10] ?_|refine gX (Q9 rfl) (dA rfl) A8 ?_|refine zS ?_|refine zm (λx hx=>?_)|refine zT ?_ ?_<;>intro _|fail)
  all_goals conv=>whnf
  exact Q7
 |cons d D=>
  have c0:D.length+1<n:=BR;have Z:((d::D).map ivV).length=D.length+1:=Af;have ec:(d::(D++[(x1,x2)])).map ivV=(d::D).map ivV++[ivV (x1,x2)] :=Af;have el:(D++[(x1,x2)]).length=D.length+1:=Af;all_goals conv=>whnf
  repeat' ((conv=>whnf);first|omega|refine bW8 [(5,5),(27,5),(36,5)] [(30,[10]),(32,[10])] Ad Ak ?_|refine zh (y) [10] ?_|refine zh (z) [10] ?_|refine iH rfl (.inl rfl) rfl (Q9 rfl) (dA rfl) F6 ?_|refine zS ?_|refine zm (λx hx=>?_)|refine zT ?_ ?_<;>intro _|fail)
  all_goals conv=>whnf
  exact Qm
def fZ1{s:jL}:pJ s↔s=dN:=by
 obtain⟨i,g,h,a,⟨o,b⟩,d⟩:=s;unfold pJ dN sh0;grind
def gC9{b:Bar}:yT b↔b=bar0:=by
 obtain⟨i,g,h,l,d⟩:=b;grind [Tm,yT,bar0]
def fR6(s:jL)(a:aA4 s):Sp 35 [zJ s] (DB (pJ s)):=by
 refine zsp func35 ?_;have b:=cQ1 s dN a;have e:DB (pJ s)=DB (s=dN):=SK DB (propext fZ1);rw[e];generalize (s=dN)=P at*;exact zF
def fW3(n:Int):Sp 106 [I n] (DB (nC n)):=by
 refine zsp func106 ?_;exact OT
def hK(x:aN):ByteArray:=if x.isBar then x.bar.heat else x.sheet.heat
def br_bx{x y:Bool}{A B:Prop}(a:(x=true↔y=true)->A)(b:¬(x=true↔y=true)->B):branch (eqBB x y) A B:=by
 rw[cA1];cases x<;>cases y
 exact a Tn;exact b Af;exact b Af;exact a Tn
theorem not_t{x:Bool}:(!x)=true↔¬(x=true):=by cases x<;>simp
def fX8(b:Bar)(a:Len6 b.defects):Sp 37 [barV b] (DB (yT b)):=by
 refine zsp func37 ?_;have c:=dK6 b bar0 a;have e:DB (yT b)=DB (b=bar0):=SK DB (propext gC9);rw[e];generalize (b=bar0)=P at*;exact zF
def fL6(e:Event)(n:iY e)(H:aA4 e.sheet):Sp 58 [aS e] (DB (iD e)):=by
 refine zsp func58 ?_;have l:=fR6 e.sheet H;have E:=fX8 e.bar (by have:=n.br;show e.bar.defects.length<=_;omega);have Z:=fP7 e.sheet n.sh;have h4:=fR3 e.bar (by have:=n.br;omega);have u:=bD8 e.text;have J:=n.ct;have N:=n.rs;have K:(e.cuts.map dK).length=e.cuts.length:=Af;have L:(e.rests.map bY).length=e.rests.length:=Af
 have t:iD e↔((e.kind=1\/e.kind=2)->e.id=0/\e.text=aI)/\(¬(e.kind=1\/e.kind=2)->pJ e.sheet/\yT e.bar)/\(e.kind≠5->e.cuts.length=0/\e.rests.length=0/\e.scrap=0)/\
  (e.kind=1->yT e.bar/\dB e.sheet)/\(e.kind=2->pJ e.sheet/\fM e.bar)/\(e.kind=3\/e.kind=7->iM e.text)/\(e.kind=4\/e.kind=6\/e.kind=8->e.text=aI)/\
  (e.kind=5->nY e)/\1<=e.kind/\e.kind<=8:=Tn
 have F:nY e↔(∀c∈e.cuts,bU7 c)/\(∀r∈e.rests,bR4 r)/\e.cuts.length<=60/\e.rests.length<=6/\0<=e.scrap/\e.text=aI:=Tn;have Q:dB e.sheet->¬pJ e.sheet:=λh q=>by have:=h.1.1;have:=q.1;omega
 have S:fM e.bar->¬yT e.bar:=λh q=>by have:=h.1.1;have:=q.1;omega
 have C:iM e.text->¬e.text=aI:=λh q=>by have l:=h.1;rw[q]at l;exact absurd l (by decide)
 have m:iD e->(∀c∈e.cuts,bU7 c)/\∀r∈e.rests,bR4 r:=λh=>by
  by_cases u:e.kind=5;have q:=(t.1 h).2.2.2.2.2.2.2.1 u;exact⟨(F.1 q).1,(F.1 q).2.1⟩;obtain⟨a,b,_⟩:=(t.1 h).2.2.1 u;rw[Tm]at a b;rw[a,b];exact⟨λc v=>(by cases v),λc v=>(by cases v)⟩
 generalize iD e=P at*;generalize nY e=X at*;generalize pJ e.sheet=U at*;generalize yT e.bar=V7 at*;generalize dB e.sheet=q1 at*;generalize fM e.bar=q2 at*;generalize iM e.text=q3 at*;by_cases y:e.kind<1\/8<e.kind;have M:¬P:=λh=>by have:=t.1 h;omega
 rw[dbF M];exact zF;have i:e.kind=1\/e.kind=2\/e.kind=3\/e.kind=4\/e.kind=5\/e.kind=6\/e.kind=7\/e.kind=8:=Aa;clear y;by_cases o:U;all_goals by_cases s:V7
 all_goals by_cases O:e.text=aI
 all_goals first|rw[dbT o]at l|rw[dbF o]at l
 all_goals first|rw[dbT s]at E|rw[dbF s]at E
 all_goals rcases i with i|i|i|i|i|i|i|i
 all_goals
  repeat' ((conv=>whnf);first|(exfalso;contradiction)|refine eZ1 Ak ?_|(refine br_bx (λg=>?_) (λg=>?_)<;>simp[aA1,eG4,not_t,dH,i,O]at g)|omega|refine zS ?_|refine zT ?_ ?_<;>intro _|fail)
 all_goals conv=>whnf
 all_goals first
  |exact aA (aC (λh=>by have:=t.1 h;grind))
  |skip
 all_goals first
  |(exfalso;exact C Ag Ag)
  |skip
 all_goals
  refine aU (A:=List Made) (B:=List Made) (λD R=>mkSt [(1, .box 1 0),(4,I D.length)] [(1,iJ e)] []) (λD R=>e.cuts=D++R/\∀c∈D,bU7 c) (λD R=>R.length) [] e.cuts ?_ ⟨rfl,Af⟩ (λD R hp=>?_)
  ·exact zj
  obtain⟨hp,hD⟩:=hp;cases R with
  |cons c R=>
   have j:=aO hp;have G:=fW3 c.id;have Y:=bD8 c.part;have k:c∈e.cuts:=Ae;have g:bU7 c↔nC c.id/\iM c.part/\1<=c.size:=Tn;have d:¬bU7 c->¬P:=λh q=>h ((m q).1 c k);have f:bU7 c->∀z∈D++[c],bU7 z:=λh z hz=>Ko;generalize bU7 c=T at*;generalize nC c.id=W at*;generalize iM c.part=w2 at*;repeat' ((conv=>whnf);first|omega|refine zS ?_|refine zT ?_ ?_<;>intro _|fail)
   all_goals conv=>whnf
   all_goals first
    |exact aA (aC (d (λh=>absurd (g.1 h).1 Ag)))
    |exact aA (aC (d (λh=>absurd (g.1 h).2.1 Ag)))
    |exact aA (aC (d (λh=>by have:=(g.1 h).2.2;omega)))
    |skip
   all_goals (refine⟨(D++[c],R),?_,⟨Ae,f (g.2 ⟨Ag,Ag,Aa⟩)⟩,Af⟩)
   all_goals simp only[Q5,SA]
   all_goals
    exact zj
  |nil=>
  have j:e.cuts.length=D.length:=Ae;have hA:∀c∈e.cuts,bU7 c:=λc h=>hD c BF;clear hD hp;repeat' ((conv=>whnf);first|omega|refine zS ?_|refine zT ?_ ?_<;>intro _|fail)
  refine aU (A:=List Rest) (B:=List Rest) (λD R=>mkSt [(1, .box 1 0),(5,I D.length)] [(1,iJ e)] []) (λD R=>e.rests=D++R/\∀c∈D,bR4 c) (λD R=>R.length) [] e.rests ?_ ⟨rfl,Af⟩ (λD R hp=>?_)
  ·exact zj
  obtain⟨hp,hD⟩:=hp;cases R with
  |cons c R=>
   have j:=aO hp;have G:=fW3 c.id;have k:c∈e.rests:=Ae;have g:bR4 c↔nC c.id/\(c.box=bx0\/(c.lo=0/\c.hi=0)):=Tn;have d:¬bR4 c->¬P:=λh q=>h ((m q).2 c k);have f:bR4 c->∀z∈D++[c],bR4 z:=λh z hz=>Ko;generalize bR4 c=T at*;generalize nC c.id=W at*;repeat' ((conv=>whnf);first|omega|refine cC5 ?_|refine cA4 (a:=c.box) (b:=bx0) (λhv=>?_) (λhv=>?_)|refine zS ?_|refine zT ?_ ?_<;>intro _|fail)
   all_goals conv=>whnf
   all_goals first
    |exact aA (aC (d (λh=>absurd (g.1 h).1 Ag)))
    |exact aA (aC (d (λh=>by rcases(g.1 h).2 with w|w<;>first|contradiction|omega)))
    |refine⟨(D++[c],R),?_,⟨Ae,f (g.2 ⟨Ag,by first|exact .inl (by assumption)|exact .inr ⟨by omega,by omega⟩⟩)⟩,Af⟩
   all_goals simp only[Q5,SA]
   all_goals
    exact zj
  |nil=>
  have x:e.rests.length=D.length:=Ae;have hB:∀c∈e.rests,bR4 c:=λc h=>hD c BF;clear hD hp;repeat' ((conv=>whnf);first|omega|refine zS ?_|refine zT ?_ ?_<;>intro _|fail)
  all_goals conv=>whnf
  all_goals exact aA (fE (t.2 Cf))
end Go.Proofs.Led
