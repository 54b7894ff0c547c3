/- Lemmas. -/
import Derived.Test.YtcmgfjaiegpddaaGreatB21
set_option linter.all false
set_option maxRecDepth 100000
set_option maxHeartbeats 8000000
noncomputable section
namespace Go.Proofs.Led
open Go Go.Proofs Go.Ab
def dP0{s:aJ}{e:Event}(a:iD e)(b:e.kind=2):appR s e=nM s ⟨true,dN,e.bar,aI⟩:=by
 simp_all [Pm,Ph,appR,bP2]
def dW9{s:aJ}{x:aN}(h:sid x∉s.used):nM s x=(aX7 s x,0):=by unfold nM;rw[Ph h]
theorem bT0{s:aJ}{n:Int}{m:aN}{f:aN->aJ×Int}(a:∃m∈s.stocks,sid m=n)(b:s.stocks[bs sid s.stocks n]? =some m):aD6 s n f=f m:=by unfold aD6;rw[Pm a,b]
def dR0{s:aJ}{n:Int}{f:aN->aJ×Int}(a:¬∃m∈s.stocks,sid m=n):aD6 s n f=(inv0,8):=by unfold aD6;rw[Ph a]
def eM5{s:aJ}{e:Event}{m:aN}(c:iD e)(d:e.kind=3)(a:∃m∈s.stocks,sid m=e.id)(b:s.stocks[bs sid s.stocks e.id]? =some m)(f:m.program=aI):
 appR s e=(setK s (bs sid s.stocks e.id) (prog m e.text),0):=by
 simp_all [Pm,Ph,bT0,appR,bP2,relR]
def aY8{s:aJ}{e:Event}(a:iD e)(b:e.kind=5):appR s e=cutR s e:=by
 unfold appR bP2;simp_all
def dF5{s:aJ}{e:Event}(h:¬dP s.used (fO e)):cutR s e=(inv0,7):=by unfold cutR;rw[Pm h]
def cF5{s:aJ}{e:Event}(h:dP s.used (fO e))(a:¬∃m∈s.stocks,sid m=e.id):cutR s e=(inv0,8):=by unfold cutR;rw[Ph (QB.2 h),dR0 a]
def bG4{s:aJ}{e:Event}{m:aN}(h:dP s.used (fO e))(a:∃m∈s.stocks,sid m=e.id)(b:s.stocks[bs sid s.stocks e.id]? =some m):
 cutR s e=open Classical in if m.program=aI then(inv0,10)else if cZ m [] e.rests≠0 then(inv0,cZ m [] e.rests)else if nJ m e≠e.scrap then(inv0,29)else(cut5 s e (bs sid s.stocks e.id) m,0):=by
 simp_all [Ph,bT0,cutR]
def kV(e:Event)(c:Int):Event:={e with scrap:=c}
def refused{s:aJ}{e:Event}{n:Nat}{c:Int}(h:Ok s n)(a:(appR s e).2=0)(o:e.kind=5)(r:c≠e.scrap):
 appR s (kV e c)=(inv0,29)\/appR s (kV e c)=(inv0,1):=by
 by_cases l:iD (kV e c);rotate_left
 ·right
  unfold appR;rw[Ph l]
 left;have g:=(aZ6 h a).1;rw[aY8 g o]at a;rw[aY8 l o];by_cases b:dP s.used (fO e);rotate_left
 ·rw[dF5 b]at a;cases a
 by_cases d:∃m∈s.stocks,sid m=e.id;rotate_left
 ·rw[cF5 b d]at a;cases a
 obtain⟨m,k,u⟩:=aB8 h.ss d;rw[bG4 b d k]at a;rw[bG4 (e:=kV e c) (m:=m) b d k];by_cases i:m.program=aI
 ·rw[Pm i]at a;cases a
 rw[Ph i]at a⊢;have q:(kV e c).rests=e.rests:=rfl;rw[q];by_cases f:cZ m [] e.rests≠0
 ·rw[Pm f]at a;exact absurd a f
 rw[Ph f]at a⊢;by_cases j:nJ m e≠e.scrap
 ·rw[Pm j]at a;cases a
 have p:nJ m (kV e c)≠(kV e c).scrap:=λt=>r (t.symm.trans (QB.1 j));rw[Pm p]
def nD(b:Bar):Event:=⟨2,0,aI,dN,b,[],[],0⟩
def no0:pJ dN:=⟨rfl,rfl,rfl,rfl,rfl,rfl,rfl⟩
def nob0:yT bar0:=⟨rfl,rfl,rfl,rfl,rfl⟩
def bM8{b:Bar}(h:fM b):iD (nD b):=
 ⟨λ_=>⟨rfl,rfl⟩,λq=>absurd (.inr rfl) q,λ_=>⟨rfl,rfl,rfl⟩,λq=>Hl,λ_=>⟨no0,h⟩,λq=>D7,λq=>EM,λq=>Hl,show(1:Int)<=2 from Ai,show(2:Int)<=8 from Ai⟩
def uX(n:Int)(t:ByteArray):Event:=⟨3,n,t,dN,bar0,[],[],0⟩
def bY3{n:Int}{t:ByteArray}(h:iM t):iD (uX n t):=
 ⟨λq=>D7,λ_=>⟨no0,nob0⟩,λ_=>⟨rfl,rfl,rfl⟩,λq=>Hl,λq=>Hl,λ_=>h,λq=>EM,λq=>Hl,show(1:Int)<=3 from Ai,show(3:Int)<=8 from Ai⟩
def xC(n:Int)(c:List Made)(r:List Rest)(z:Int):Event:=⟨5,n,aI,dN,bar0,c,r,z⟩
def aK5{n:Int}{c:List Made}{r:List Rest}{z:Int}(a:∀x∈c,bU7 x)(b:∀x∈r,bR4 x)(d:c.length<=60)(e:r.length<=6)(f:0<=z):iD (xC n c r z):=
 ⟨λq=>D7,λ_=>⟨no0,nob0⟩,λq=>absurd rfl q,λq=>Hl,λq=>Hl,λq=>D7,λq=>EM,λ_=>⟨a,b,d,e,f,rfl⟩,show(1:Int)<=5 from Ai,show(5:Int)<=8 from Ai⟩
def chB(c:UInt8):ByteArray:=⟨#[c]⟩
def yM{c:UInt8}(h:97<=c.toNat/\c.toNat<=122):iM (chB c):=by
 have a:byteAt (chB c) 0=(c.toNat:Int):=by unfold byteAt;rfl
 refine⟨Po 1,show(1:Nat)<=16 from Ai,?_,λi hi=>?_⟩;rw[a];exact .inl Aa;have b:(chB c).size=1:=rfl;have:i=0:=Aa;subst this;rw[a];exact .inl (.inl Aa)
def eR5{s f:aJ}{e:Event}{n:Nat}(h:Ok s n)(j:Step s e f):Ok f (n+more e):=by
 have b:1<=more e:=FP;cases j with
 |recv x q g=>
  refine(dD4 h ?_ g).mono Aa;rcases q with⟨_,rfl,h⟩|⟨_,rfl,h⟩;exact⟨aX9 h,P8 _⟩;exact⟨xZ,PD h.2.2.2.1 Ai⟩
 |setK k m p d b a=>exact(bW3 h b p).mono Aa
 |disc k m d b a=>exact(dD6 h k m).mono Aa
 |setP k m st o d b l a=>exact(dE1 h b st o).mono Aa
 |cut k m d r c b a u i t=>exact cP7 ((aZ7 (R:=[]) (Q:=[]) h b c i (Pz _).symm (Pz _).symm).mono FP) _
structure Good(s:aJ)(n:Nat):Prop where
 ok:Ok s n
 bal:Bal s
 ids:Ids s
def cN2:Good inv0 0:=⟨ok0,bal0,ids0⟩
def good_step{s:aJ}{e:Event}{n:Nat}(h:Good s n)(b:(appR s e).2=0):Good (appR s e).1 (n+more e):=by
 have a:=(aZ6 h.ok b).2;exact⟨eR5 h.ok a,eE0 h.bal a,(cG6 h.ok h.ids a).1⟩
def Good.mono{s:aJ}{n m:Nat}(h:Good s n)(a:n<=m):Good s m:=⟨h.ok.mono a,h.bal,h.ids⟩
def kL(s:aJ)(i:Int):List Event->aJ×Int×Int
 | [] =>(s,i,0)
 |x::l=>if(appR s x).2=0 then kL (appR s x).1 (i+1) l else(s,i,(appR s x).2)
def barS(b:Bar)(p:ByteArray):aN:=⟨true,dN,b,p⟩
def st1(b:Bar):aJ:=aX7 inv0 (barS b aI)
def st2(b:Bar)(p:ByteArray):aJ:=⟨[barS b p],[],[b.id],(0,W (0+b.length)),(0,0)⟩
def dI8{b:Bar}{p:ByteArray}{q:List Piece}{u:List Int}{r c:Iv}:(∃m∈(aJ.mk [barS b p] q u r c).stocks,sid m=b.id)/\(aJ.mk [barS b p] q u r c).stocks[bs sid [barS b p] b.id]? =some (barS b p)/\bs sid [barS b p] b.id=0:=by
 have a:bs sid [barS b p] b.id=0:=by
  unfold bs;have:decide (sid (barS b p)<b.id)=false:=decide_eq_false (by show¬b.id<b.id;omega);simp[List.takeWhile,this]
 exact⟨⟨barS b p,Af,rfl⟩,by rw[a];rfl,a⟩
def dH7{b:Bar}{p:ByteArray}{x:Event}(k:fM b)(j:iM p)(t:iD x)(l:x.kind=5)(a:x.id=b.id)(d:dP [b.id] (fO x))(o:cZ (barS b p) [] x.rests=0)(n:nJ (barS b p) x=x.scrap):
 kL inv0 0 [nD b,uX b.id p,x] =(cut5 (st2 b p) x 0 (barS b p),3,0)/\appR inv0 (nD b)=(st1 b,0)/\appR (st1 b) (uX b.id p)=(st2 b p,0)/\appR (st2 b p) x=(cut5 (st2 b p) x 0 (barS b p),0):=by
 have v:appR inv0 (nD b)=(st1 b,0):=by
  rw[dP0 (bM8 k) rfl];exact dW9 EG
 have w:appR (st1 b) (uX b.id p)=(st2 b p,0):=by
  obtain⟨f,g,i⟩:=dI8 (b:=b) (p:=aI) (q:=[]) (u:=[b.id]) (r:=(0,W (0+b.length))) (c:=(0,0));rw[eM5 (s:=st1 b) (bY3 j) rfl (m:=barS b aI) f g rfl];show(setK (st1 b) (bs sid [barS b aI] b.id) _,(0:Int))=_;rw[i];rfl
 have e:p≠aI:=by
  rintro rfl;exact absurd j.1 Ai
 have y:appR (st2 b p) x=(cut5 (st2 b p) x 0 (barS b p),0):=by
  obtain⟨f,g,i⟩:=dI8 (b:=b) (p:=p) (q:=[]) (u:=[b.id]) (r:=(0,W (0+b.length))) (c:=(0,0));rw[aY8 t l,bG4 (m:=barS b p) d (by rw[a];exact f) (by rw[a];exact g),Ph (show¬(barS b p).program=aI from e),Ph (QB.2 o),Ph (QB.2 n),a];show(cut5 (st2 b p) x (bs sid [barS b p] b.id) _,(0:Int))=_;rw[i]
 simp_all [Pm,kL]
theorem aC6:∀(l:List Int) (n:Int),R6 n->n≠9223372036854775807->(∀c∈l,0<=c)->l.sum<=n->subL n l=n-l.sum
 | [],n,_,_,_,_=>by show n=n-0;omega
 |c::l,n,b,m,a,d=>by
  have g:=a c Af
  have k:0<=l.sum:=by
   have key:∀(l:List Int),(∀x∈l,0<=x)->0<=l.sum:=by
    intro l;induction l with
    |nil=>simp
    |cons x l f=>
     intro h;have i:=f (λy hy=>h y GL);have j:=h x Af;rw[RS];omega
   exact key l (λx hx=>a x BO)
  rw[RS]at d;unfold R6 at b
  have e:sub1 n c=n-c:=by
   grind [lH,Int.min_eq_left,sub1,w_in]
  show subL (sub1 n c) l=_;rw[e,aC6 l (n-c) (by unfold R6;omega) Aa (λx hx=>a x BO) Aa,RS];omega
def awB:Bar:=⟨1,chB 115,chB 104,100,[]⟩
def awR:Rest:=⟨4,bx0,75,100⟩
def awX:Event:=xC 1 [⟨2,chB 97,40⟩,⟨3,chB 97,30⟩] [awR] 5
def awL:List Event:=[nD awB,uX 1 (chB 112),awX]
def fB9:fM awB:=⟨⟨show(1:Int)<=1 from Ai,show(1:Int)<=1000000 from Ai,yM Ai,yM Ai⟩,show(1:Int)<=100 from Ai,show(100:Int)<=2000 from Ai,P8 6,trivial⟩
theorem dH6:iG (barS awB (chB 112)) awR=0:=by
 unfold iG;rw[Ph (by show¬true=false;decide),Ph (by show¬bx0≠bx0;simp),Ph (by show¬((75:Int)<0\/(100:Int)<=75\/(100:Int)<100);decide)]
def bI7:cZ (barS awB (chB 112)) [] awX.rests=0:=by
 show cZ (barS awB (chB 112)) [] [awR] =0;simp_all [Ph,dH6,cZ]
theorem cK1:dZ (barS awB (chB 112)) awR=⟨true,dN,⟨4,chB 115,chB 104,25,[]⟩,aI⟩:=by
 unfold dZ;rw[Ph (by show¬true=false;decide),Pm dH6];have:W (awR.hi-awR.lo)=25:=Ai;rw[this];rfl
def eP2:nJ (barS awB (chB 112)) awX=awX.scrap:=by
 unfold nJ
 have a:eG (barS awB (chB 112)) awX.rests=[⟨true,dN,⟨4,chB 115,chB 104,25,[]⟩,aI⟩] :=by
  rw[mV bI7];show [dZ (barS awB (chB 112)) awR] =_;rw[cK1]
 rw[a];show subL (subL 100 [40,30]) [25] =5;grind [aC6,R6]
def dQ9:iD awX:=by
 refine aK5 (λc a=>?_) (λr b=>?_) (by show(2:Nat)<=60;decide) (by show(1:Nat)<=6;decide) Ai;simp only[P5,List.not_mem_nil,or_false]at a;rcases a with rfl|rfl;exact⟨⟨show(1:Int)<=2 from Ai,show(2:Int)<=1000000 from Ai⟩,yM Ai,show(1:Int)<=40 from Ai⟩;exact⟨⟨show(1:Int)<=3 from Ai,show(3:Int)<=1000000 from Ai⟩,yM Ai,show(1:Int)<=30 from Ai⟩;rw[Py.1 b];exact⟨⟨show(1:Int)<=4 from Ai,show(4:Int)<=1000000 from Ai⟩, .inl rfl⟩
def eF1:dP [awB.id] (fO awX):=by
 rw[qJ];show(∀n∈([2,3,4] :List Int),n∉([1] :List Int))/\([2,3,4] :List Int).Pairwise (·≠·);exact⟨Ai,Ai⟩
def eX6:∃q a u r c,kL inv0 0 awL=(⟨[q],a,u,r,c⟩,3,0)/\q.bar.length=25/\a.length=2/\c.2=5/\Good ⟨[q],a,u,r,c⟩ 1000:=by
 have k:iM (chB 112):=yM Ai;obtain⟨t,g,i,j⟩:=dH7 fB9 k dQ9 rfl rfl eF1 bI7 eP2
 have w:Good (cut5 (st2 awB (chB 112)) awX 0 (barS awB (chB 112))) 1000:=by
  have b:=good_step (e:=nD awB) cN2 (by rw[g]);rw[g]at b;have d:=good_step (e:=uX awB.id (chB 112)) b (by rw[i]);rw[i]at d;have f:=good_step (e:=awX) d (by rw[j]);rw[j]at f;exact f.mono (by show 0+1+1+(1+2+1)<=1000;decide)
 have o:(cut5 (st2 awB (chB 112)) awX 0 (barS awB (chB 112))).stocks=[dZ (barS awB (chB 112)) awR] :=by
  rw[aF7,mV bI7];rfl
 have m:(cut5 (st2 awB (chB 112)) awX 0 (barS awB (chB 112))).pieces.length=2:=by
  rw[aG4]
  have key:∀(xs l:List Piece),(xs.foldl (putK Piece.id) l).length=l.length+xs.length:=by
   intro xs;induction xs<;>grind [mQ,PE,putK]
  rw[key];rfl
 have n:(cut5 (st2 awB (chB 112)) awX 0 (barS awB (chB 112))).scrap.2=5:=by
  show W (0+5)=5;decide
 have v:kL inv0 0 awL=(cut5 (st2 awB (chB 112)) awX 0 (barS awB (chB 112)),3,0):=t;generalize cut5 (st2 awB (chB 112)) awX 0 (barS awB (chB 112))=s at*;obtain⟨x,a,u,r,c⟩:=s;grind [cK1]
def moreL(l:List Event):Nat:=(l.map more).sum
def vX(l:List Event)(t:∀e∈l,iY e)(z:moreL l<=1000000)(E:l.length<=1000000):Sp 20 [.sl (l.map aS)] (.tup [invV (kL inv0 0 l).1,I (kL inv0 0 l).2.1,I (kL inv0 0 l).2.2]):=by
 refine zsp Tryz.func20 ?_;have m:(l.map aS).length=l.length:=Af;generalize w:kL inv0 0 l=q;repeat' ((conv=>whnf);first|omega|refine zS ?_|refine zm (λx k=>?_)|refine zT ?_ ?_<;>intro _|fail)
 refine oU (A:=aJ) (B:=List Event) (C:=List Event) (λs D R=>mkSt [(0, .sl (l.map aS)),(2, .box 2 0),(3,I 0),(4,I 0),(9, .sl (l.map aS)),(10,I l.length),(11,I D.length)] [(2,invC s)] []) (λs D R=>l=D++R/\kL s D.length R=q/\∃n,Ok s n/\n+moreL R<=1000000) (λs D R=>R.length) inv0 [] l ?_ ⟨rfl,w,0,ok0,Aa⟩ (λs D R hp=>?_)
 ·show Le T _ (mkSt [(0, .sl (l.map aS)),(2, .box 2 0),(3,I 0),(4,I 0),(9, .sl (l.map aS)),(10,I l.length),(11,I 0)] [(2,invC inv0)] [])
  refine dV ?_ ?_ ?_ ?_;all_goals repeat' (first|exact trivial|refine And.intro ?_ ?_|with_reducible rfl|exact(λh=>Ag)|exact Po _|omega|exact rfl)
  all_goals (try rw[m])
 obtain⟨hp,d,n,u,v⟩:=hp;cases R with
 |nil=>
  have b:l.length=D.length:=Ad;have e:q=(s,(D.length:Int),0):=by rw[<-d];rfl
  rw[e];repeat' ((conv=>whnf);first|omega|refine zS ?_|refine zm (λx k=>?_)|refine zT ?_ ?_<;>intro _|fail)
  all_goals conv=>whnf
  refine⟨_,rfl,?_⟩;rw[m,b]
  (repeat' (first|exact trivial|refine And.intro ?_ ?_|with_reducible rfl|exact(λh=>Ag)|exact rfl));done
 |cons e R=>
  have b:=aO hp;have y:moreL (e::R)=more e+moreL R:=FT;have g:=kG u (e:=e) Aa (t e Ad);obtain⟨f,o⟩:=g;have i:((D++[e]).length:Int)=(D.length:Int)+1:=Af;have j:kL s D.length (e::R)=if(appR s e).2=0 then kL (appR s e).1 ((D.length:Int)+1) R else(s,(D.length:Int),(appR s e).2):=rfl
  rw[j]at d;generalize appR s e=a at*;by_cases c:a.2=0
  ·rw[Pm c]at d
   have r:=o c;rw[c]at f;repeat' ((conv=>whnf);first|omega|refine aB (l:=l) Aa ?_|refine aF (l:=l) (A:=D) (x:=e) (B:=R) hp Aa ?_|refine zc f ?_|refine zS ?_|refine zm (λx k=>?_)|refine zT ?_ ?_<;>intro _|fail)
   all_goals conv=>whnf
   refine⟨(a.1,D++[e],R),?_,⟨Ad,by rw[i];exact d,n+more e,r,by show n+more e+moreL R<=1000000;omega⟩,Af⟩;exact L8
  rw[Ph c]at d;subst d;repeat' ((conv=>whnf);first|omega|refine aB (l:=l) Aa ?_|refine aF (l:=l) (A:=D) (x:=e) (B:=R) hp Aa ?_|refine zc f ?_|refine zS ?_|refine zm (λx k=>?_)|refine zT ?_ ?_<;>intro _|fail)
  all_goals exact zE
def eA5:∀e∈awL,iY e:=by
 intro e d;have b:e=nD awB\/e=uX 1 (chB 112)\/e=awX:=by simpa [awL]using d
 have a:tN dN:=⟨⟨P8 _,P8 _,λh c=>by cases c⟩,P8 _,λh c=>by cases c⟩;rcases b with rfl|rfl|rfl;exact⟨a,P8 _,P8 _,P8 _⟩;exact⟨a,P8 _,P8 _,P8 _⟩;exact⟨a,P8 _,show(2:Nat)<=1000000 from Ai,show(1:Nat)<=1000000 from Ai⟩
def nil1(x:V):V:=match x with
 | .lit u=>(match u with| .slice none 0 0=> .sl [] |u=> .lit u)
 |x=>x
def nilC(x:V):V:=match x with
 | .agg xs=> .agg (mapR nil1 xs)
 |x=>nil1 x
def nilSt(σ:St):St:=⟨λs=>nilC (σ.env s),σ.bx,σ.ar⟩
theorem dC4{w:World}{G:Gh}{v:Value}{x:V}(h:Rv w G v x):Rv w G v (nil1 x):=by
 unfold nil1;split;rename_i u;split;rw[h.bH];exact .slN;exact h;exact h
theorem eM7{p:Nat->Prop}{q:Nat->Nat->Prop}{x:V}(h:x.ok p q):(nil1 x).ok p q:=by
 unfold nil1;grind [V.ok,V.okL]
def eQ8{w:World}{G:Gh}{v:Value}{x:V}(h:Rv w G v x):Rv w G v (nilC x):=by
 cases x with
 |agg xs=>
  show Rv w G v (.agg (mapR nil1 xs));rw[dU];cases h with
  |agg cs _ a b f=>
   refine .agg cs _ (by simp[a]) b (λi c y e d=>?_);rw[PK]at d;grind [dC4]
 |_=>exact dC4 h
def dG1{p:Nat->Prop}{q:Nat->Nat->Prop}{x:V}(h:x.ok p q):(nilC x).ok p q:=by
 cases x with
 |agg xs=>
  show(V.agg (mapR nil1 xs)).ok p q;grind [dU,aH,eM7,V.ok]
 |_=>exact eM7 h
def le_nil(σ:St):Le T σ (nilSt σ):=by
 unfold Le;intro Φ a w G inv;exact⟨G,{inv with env:=λs=>eQ8 (inv.env s),wfE:=λs=>dG1 (inv.wfE s)}⟩
abbrev Len6{α:Type}(l:List α):Prop:=l.length<=9223372036854775807
def ownC(x:Event)(c r:V):List V:=[I x.kind,I x.id,S x.text,I x.sheet.id,S x.sheet.grade,S x.sheet.heat,I x.sheet.grain,rgV x.sheet.shape.outer, .sl (x.sheet.shape.holes.map rgV), .sl (x.sheet.defects.map shV),
 I x.bar.id,S x.bar.grade,S x.bar.heat,I x.bar.length, .sl (x.bar.defects.map ivV),c,r,I x.scrap]
abbrev zQ:List V:=[I 0,I 0,S aI,I 0,S aI,S aI,I 0,nilV,nilV,nilV,I 0,S aI,S aI,I 0,nilV,nilV,nilV,I 0]
def eI9(x:Event):List Made->Int->St
 | [],n=>mkSt [(1, .box 1 0),(2, .box 2 0),(3, .box 3 0),(4,I n)] [(1,iJ x),(2,zQ),(3,ownC x nilV nilV)] []
 |c::C,n=>mkSt [(1, .box 1 0),(2, .box 2 0),(3, .box 3 0),(4,I n)] [(1,iJ x),(2,zQ),(3,ownC x (.arr 34 C.length) nilV)] [(34,⟨C.length, .own,82,(c::C).map dK⟩)]
def bO5(x:Event):List Made->List Rest->Int->St
 | [],[],n=>mkSt [(1, .box 1 0),(2, .box 2 0),(3, .box 3 0),(5,I n)] [(1,iJ x),(2,zQ),(3,ownC x nilV nilV)] []
 |c::C,[],n=>mkSt [(1, .box 1 0),(2, .box 2 0),(3, .box 3 0),(5,I n)] [(1,iJ x),(2,zQ),(3,ownC x (.arr 34 C.length) nilV)] [(34,⟨C.length, .own,82,(c::C).map dK⟩)]
 | [],r::R,n=>mkSt [(1, .box 1 0),(2, .box 2 0),(3, .box 3 0),(5,I n)] [(1,iJ x),(2,zQ),(3,ownC x nilV (.arr 51 R.length))] [(51,⟨R.length, .own,88,(r::R).map bY⟩)]
 |c::C,r::R,n=>mkSt [(1, .box 1 0),(2, .box 2 0),(3, .box 3 0),(5,I n)] [(1,iJ x),(2,zQ),(3,ownC x (.arr 34 C.length) (.arr 51 R.length))] [(34,⟨C.length, .own,82,(c::C).map dK⟩),(51,⟨R.length, .own,88,(r::R).map bY⟩)]
def bB8(x:Event)(k:x.cuts.length<=1000000)(q:x.rests.length<=1000000):Sp 8 [aS x] (aS x):=by
 refine zsp Tryz.func8 ?_;have n:(x.cuts.map dK).length=x.cuts.length:=Af;have o:(x.rests.map bY).length=x.rests.length:=Af;repeat' ((conv=>whnf);first|refine zS ?_|fail)
 refine aU (A:=List Made) (B:=List Made) (λD R=>eI9 x D D.length) (λD R=>x.cuts=D++R) (λD R=>R.length) [] x.cuts ?_ rfl (λD R hp=>?_);show Le T _ (eI9 x [] 0);exact zj;cases R with
 |cons c R=>
  have i:=aO hp;have m:((D++[c]).length:Int)=(D.length:Int)+1:=Af;cases D with
  |nil=>
   have h00:([] :List Made).length=0:=rfl;repeat' ((conv=>whnf);first|omega|refine gX (OZ rfl) (dA rfl) (show(1:Nat)<=1000000000 from Ai) ?_|refine zS ?_|refine zT ?_ ?_<;>intro _|fail)
   all_goals conv=>whnf
   refine⟨([c],R),?_,hp,Af⟩;show Le T _ (eI9 x [c] 1);exact zj
  |cons d D=>
   have h00:(d::D).length=D.length+1:=rfl;repeat' ((conv=>whnf);first|omega|refine mX (l:=d::D) rfl rfl (.inl rfl) rfl (OZ rfl) rfl Aa ?_|refine zS ?_|refine zT ?_ ?_<;>intro _|fail)
   all_goals conv=>whnf
   refine⟨(d::(D++[c]),R),?_,Ad,Af⟩;have b:(d::(D++[c])).map dK=(d::D).map dK++[dK c] :=Af;have f:(D++[c]).length=D.length+1:=Af;show Le T _ (mkSt [(1, .box 1 0),(2, .box 2 0),(3, .box 3 0),(4,I ((d::(D++[c])).length:Nat))] [(1,iJ x),(2,zQ),(3,ownC x (.arr 34 (D++[c]).length) nilV)] [(34,⟨(D++[c]).length, .own,82,(d::(D++[c])).map dK⟩)]);rw[b,f];have g:((d::(D++[c])).length:Int)=((d::D).length:Int)+1:=Af;rw[g];exact zj
 |nil=>
  have i:x.cuts.length=D.length:=Ad;have e:x.cuts=D:=Ad;cases D with
  |nil=>
  ·have j:(([] :List Made)).length<=1000000:=by rw[<-e];exact k
   repeat' ((conv=>whnf);first|omega|refine zS ?_|refine zT ?_ ?_<;>intro _|fail)
   refine aU (A:=List Rest) (B:=List Rest) (λD R=>bO5 x [] D D.length) (λD R=>x.rests=D++R) (λD R=>R.length) [] x.rests ?_ rfl (λE R hp=>?_);show Le T _ (bO5 x [] [] 0);exact zj;cases R with
   |cons r R=>
    have a:=aO hp;cases E with
    |nil=>
     have h00:([] :List Rest).length=0:=rfl;repeat' ((conv=>whnf);first|omega|refine gX (OZ rfl) (dA rfl) (show(1:Nat)<=1000000000 from Ai) ?_|refine zS ?_|refine zT ?_ ?_<;>intro _|fail)
     all_goals conv=>whnf
     refine⟨([r],R),?_,hp,Af⟩;show Le T _ (bO5 x [] [r] 1);exact zj
    |cons d E=>
     have h00:(d::E).length=E.length+1:=rfl;repeat' ((conv=>whnf);first|omega|refine mX (l:=d::E) rfl rfl (.inl rfl) rfl (OZ rfl) rfl Aa ?_|refine zS ?_|refine zT ?_ ?_<;>intro _|fail)
     all_goals conv=>whnf
     refine⟨(d::(E++[r]),R),?_,Ad,Af⟩;have b:(d::(E++[r])).map bY=(d::E).map bY++[bY r] :=Af;have f:(E++[r]).length=E.length+1:=Af;have g:((d::(E++[r])).length:Int)=((d::E).length:Int)+1:=Af;show Le T _ (mkSt [(1, .box 1 0),(2, .box 2 0),(3, .box 3 0),(5,I ((d::(E++[r])).length:Nat))] [(1,iJ x),(2,zQ),(3,ownC x nilV (.arr 51 (E++[r]).length))] ((51,⟨(E++[r]).length, .own,88,(d::(E++[r])).map bY⟩):: []));rw[b,f,g];exact zj
   |nil=>
    have a:x.rests.length=E.length:=Ad;have e4:x.rests=E:=Ad;have ev:aS x= .agg (ownC x (.sl (([] :List Made).map dK)) (.sl (E.map bY))):=Gl;exact NQ
  |cons c C=>
  have j:(((c::C):List Made)).length<=1000000:=by rw[<-e];exact k
  repeat' ((conv=>whnf);first|omega|refine zS ?_|refine zT ?_ ?_<;>intro _|fail)
  refine aU (A:=List Rest) (B:=List Rest) (λD R=>bO5 x (c::C) D D.length) (λD R=>x.rests=D++R) (λD R=>R.length) [] x.rests ?_ rfl (λE R hp=>?_);show Le T _ (bO5 x (c::C) [] 0);exact zj;cases R with
  |cons r R=>
   have a:=aO hp;cases E with
   |nil=>
    have h00:([] :List Rest).length=0:=rfl;repeat' ((conv=>whnf);first|omega|refine gX (OZ rfl) (dA rfl) (show(1:Nat)<=1000000000 from Ai) ?_|refine zS ?_|refine zT ?_ ?_<;>intro _|fail)
    all_goals conv=>whnf
    refine⟨([r],R),?_,hp,Af⟩;show Le T _ (bO5 x (c::C) [r] 1);exact zj
   |cons d E=>
    have h00:(d::E).length=E.length+1:=rfl;repeat' ((conv=>whnf);first|omega|refine mX (l:=d::E) rfl rfl (.inl rfl) rfl (OZ rfl) rfl Aa ?_|refine zS ?_|refine zT ?_ ?_<;>intro _|fail)
    all_goals conv=>whnf
    refine⟨(d::(E++[r]),R),?_,Ad,Af⟩;have b:(d::(E++[r])).map bY=(d::E).map bY++[bY r] :=Af;have f:(E++[r]).length=E.length+1:=Af;have g:((d::(E++[r])).length:Int)=((d::E).length:Int)+1:=Af;show Le T _ (mkSt [(1, .box 1 0),(2, .box 2 0),(3, .box 3 0),(5,I ((d::(E++[r])).length:Nat))] [(1,iJ x),(2,zQ),(3,ownC x (.arr 34 C.length) (.arr 51 (E++[r]).length))] ((34,⟨C.length, .own,82,(c::C).map dK⟩)::(51,⟨(E++[r]).length, .own,88,(d::(E++[r])).map bY⟩):: []));rw[b,f,g];exact zj
  |nil=>
   have a:x.rests.length=E.length:=Ad;have e4:x.rests=E:=Ad;have ev:aS x= .agg (ownC x (.sl (((c::C):List Made).map dK)) (.sl (E.map bY))):=Gl;exact NQ
end Go.Proofs.Led
