/- Lemmas. -/
import Derived.Test.YtcmgfjaiegpddaaGreatB20
set_option linter.all false
set_option maxRecDepth 100000
set_option maxHeartbeats 4000000
noncomputable section
namespace Go.Proofs.Led
open Go Go.Proofs Go.Ab
structure Ok(s:aJ)(n:Nat):Prop where
 ss:(s.stocks.map sid).Pairwise (·<·)
 sp:(s.pieces.map Piece.id).Pairwise (·<·)
 su:(s.used.map id).Pairwise (·<·)
 ls:s.stocks.length<=n
 lp:s.pieces.length<=n
 lu:s.used.length<=n
 us:∀x∈s.stocks,sid x∈s.used
 up:∀p∈s.pieces,p.id∈s.used
 sz:∀x∈s.stocks,eY x
def Ok.gd{s:aJ}{n:Nat}(h:Ok s n)(a:n<=1000000):Gd s:=⟨PD h.ls a,PD h.lp a,PD h.lu a,h.ss,h.sp,h.su⟩
def Ok.mono{s:aJ}{n m:Nat}(h:Ok s n)(a:n<=m):Ok s m:=⟨h.ss,h.sp,h.su,PD h.ls a,PD h.lp a,PD h.lu a,h.us,h.up,h.sz⟩
def ok0:Ok inv0 0:=⟨.nil, .nil, .nil,Po _,Po _,Po _,EG,EG,EG⟩
def more(e:Event):Nat:=1+e.cuts.length+e.rests.length
theorem dG9(e:Event):(fO e).length=e.cuts.length+e.rests.length:=by unfold fO;simp
def dD4{s:aJ}{n:Nat}(h:Ok s n){x:aN}(f:eY x)(b:sid x∉s.used):Ok (aX7 s x) (n+1)where
 ss:=yR h.ss (λm c e=>b (by rw[<-e];exact h.us m c))
 sp:=h.sp
 su:=rF h.su b
 ls:=by show(putAt _ _ _).length<=_;rw[mQ];have:=h.ls;omega
 lp:=Nat.le_succ_of_le h.lp
 lu:=by show(putAt _ _ _).length<=_;rw[mQ];have:=h.lu;omega
 us:=λy a=>by
  rcases fH.1 a with rfl|a;exact fH.2 (.inl rfl);exact fH.2 (.inr (h.us y a))
 up:=λp d=>fH.2 (.inr (h.up p d))
 sz:=λy a=>by
  rcases fH.1 a with rfl|a;exact f;exact h.sz y a
def mem_set{a:Type}{l:List a}{k:Nat}{x y:a}(h:y∈l.set k x):y=x\/y∈l:=(List.mem_or_eq_of_mem_set h).symm
def fC{a:Type}{l:List a}{k:Nat}{x:a}(h:l[k]? =some x):x∈l:=Pn h
def bW3{s:aJ}{n:Nat}(h:Ok s n){k:Nat}{m:aN}(hm:s.stocks[k]? =some m)(p:ByteArray):Ok (setK s k (prog m p)) n where
 ss:=by show((s.stocks.set k (prog m p)).map sid).Pairwise _;rw[bY6 hm (rfl:sid (prog m p)=sid m)];exact h.ss
 sp:=h.sp
 su:=h.su
 ls:=by show(s.stocks.set _ _).length<=_;rw[RV];exact h.ls
 lp:=h.lp
 lu:=h.lu
 us:=λy hy=>by
  rcases mem_set hy with rfl|hy;exact h.us m (fC hm);exact h.us y hy
 up:=h.up
 sz:=λy hy=>by
  rcases mem_set hy with rfl|hy;exact h.sz m (fC hm);exact h.sz y hy
def dE1{s:aJ}{n:Nat}(h:Ok s n){k:Nat}{m:Piece}(hm:s.pieces[k]? =some m)(st:Int)(o:ByteArray):Ok (setP s k (marked m st o)) n where
 ss:=h.ss
 sp:=by show((s.pieces.set k (marked m st o)).map Piece.id).Pairwise _;rw[bY6 hm (rfl:(marked m st o).id=m.id)];exact h.sp
 su:=h.su
 ls:=h.ls
 lp:=by show(s.pieces.set _ _).length<=_;rw[RV];exact h.lp
 lu:=h.lu
 us:=h.us
 up:=λy hy=>by
  rcases mem_set hy with rfl|hy;exact h.up m (fC hm);exact h.up y hy
 sz:=h.sz
def dD6{s:aJ}{n:Nat}(h:Ok s n)(k:Nat)(m:aN):Ok (aX4 s k m) n where
 ss:=bB0 h.ss k
 sp:=h.sp
 su:=h.su
 ls:=PD (kM _ _).length_le h.ls
 lp:=h.lp
 lu:=h.lu
 us:=λy hy=>h.us y ((kM _ _).subset hy)
 up:=h.up
 sz:=λy hy=>h.sz y ((kM _ _).subset hy)
def bJ9{s:aJ}{n:Nat}(h:Ok s n){e:Event}{k:Nat}{m:aN}(g:dP s.used (fO e))(i:cZ m [] e.rests=0){D R:List aN}(f:eG m e.rests=D++R):
 ((D.foldl putS (nN s.stocks k)).map sid).Pairwise (·<·)/\(∀y,y∈D.foldl putS (nN s.stocks k)↔y∈nN s.stocks k\/y∈D)/\(D.foldl putS (nN s.stocks k)).length=(nN s.stocks k).length+D.length:=by
 have a:=aG9 i;rw[f,Qa]at a;obtain⟨b,c⟩:=qJ.1 g;unfold fO at b c;rw[Rt]at c;obtain⟨_,d,_⟩:=c;rw[<-a]at b d;rw[Rt]at d;refine bE9 (key:=sid) (bB0 h.ss k) (λx j y l e=>?_) d.1;exact b (sid x) (by simp only[Pv];exact .inr (.inl (Q7 j))) (by rw[<-e];exact h.us y ((kM _ _).subset l))
def bC5{s:aJ}{n:Nat}(h:Ok s n){e:Event}{m:aN}(l:dP s.used (fO e)){D R:List Made}(j:e.cuts=D++R):
 ((D.foldl (λp x=>putP p (fZ e m x)) s.pieces).map Piece.id).Pairwise (·<·)/\(∀y,y∈D.foldl (λp x=>putP p (fZ e m x)) s.pieces↔y∈s.pieces\/y∈D.map (fZ e m))/\(D.foldl (λp x=>putP p (fZ e m x)) s.pieces).length=s.pieces.length+D.length:=by
 obtain⟨a,b⟩:=qJ.1 l;unfold fO at a b;rw[Rt]at b;obtain⟨d,_,_⟩:=b;rw[j,Qa]at a d;rw[Rt]at d;have g:D.foldl (λp x=>putP p (fZ e m x)) s.pieces=(D.map (fZ e m)).foldl (putK Piece.id) s.pieces:=by rw[List.foldl_map];rfl
 have i:(D.map (fZ e m)).map Piece.id=D.map Made.id:=by rw[Sr];rfl
 rw[g]
 have q:=bE9 (key:=Piece.id) (xs:=D.map (fZ e m)) h.sp (λx o y r f=>by
  obtain⟨c,k,rfl⟩:=PI.1 o;exact a c.id (by simp only[Pv];exact .inl (.inl (Q7 k))) (by have:=h.up y r;rw[f]at this;exact this)) (by rw[i];exact d.1)
 rw[P6]at q;exact q
def aZ7{s:aJ}{n:Nat}(h:Ok s n){e:Event}{k:Nat}{m:aN}(B:s.stocks[k]? =some m)(g:dP s.used (fO e))(j:cZ m [] e.rests=0){D R:List aN}(f:eG m e.rests=D++R){C Q:List Made}(d:e.cuts=C++Q):
 Ok (cut4 s e k m D C) (n+e.cuts.length+e.rests.length):=by
 obtain⟨q,l,t⟩:=bJ9 (k:=k) h g j f;obtain⟨u,v,w⟩:=bC5 (m:=m) h g d;obtain⟨z,o⟩:=aA8 _ _ h.su g;rw[dG9]at o;have b:=PN List.length (aG9 j);rw[f]at b;simp only[P6,OY]at b;have i:=PN List.length d;rw[OY]at i;have E:=(kM s.stocks k).length_le;have F:=h.ls;have G:=h.lp;have H:=h.lu;refine⟨q,u,z,?_,?_,?_,λy a=>?_,λy a=>?_,λy a=>?_⟩
 ·show(D.foldl putS (nN s.stocks k)).length<=_
  rw[t];omega
 ·show(C.foldl (λp x=>putP p (fZ e m x)) s.pieces).length<=_
  rw[w];omega
 ·show(cO s.used (fO e)).length<=_
  rw[o];omega
 ·refine tY.2 ?_
  rcases(l y).1 a with a|a
  ·exact .inl (h.us y ((kM _ _).subset a))
  ·grind [Q7,aG9,fO]
 ·refine tY.2 ?_
  rcases(v y).1 a with a|a
  ·exact .inl (h.up y a)
  ·refine .inr ?_
   obtain⟨c,A,rfl⟩:=PI.1 a;unfold fO;simp only[Pv];exact .inl (Q7 (by rw[d];simp[A]))
 ·rcases(l y).1 a with a|a
  ·exact h.sz y ((kM _ _).subset a)
  ·have:y∈eG m e.rests:=by rw[f];simp[a]
   rw[mV j]at this;obtain⟨r,_,rfl⟩:=PI.1 this;exact aX5 (h.sz m (fC B))
def cP7{s:aJ}{n:Nat}(h:Ok s n)(v:Iv):Ok {s with scrap:=v} n:=⟨h.ss,h.sp,h.su,h.ls,h.lp,h.lu,h.us,h.up,h.sz⟩
def kE{s:aJ}{n:Int}{f:aN->aJ×Int}(a:(s.stocks.map sid).Pairwise (·<·)):
 ((¬∃m∈s.stocks,sid m=n)/\aD6 s n f=(inv0,8))\/∃m,(∃m∈s.stocks,sid m=n)/\s.stocks[bs sid s.stocks n]? =some m/\sid m=n/\aD6 s n f=f m:=by
 unfold aD6;by_cases h:∃m∈s.stocks,sid m=n
 ·obtain⟨m,b,c⟩:=aB8 a h;simp_all
 ·exact .inl ⟨h,Ph h⟩
def zM(f:FuncId)(s:aJ)(e:Event)(q:aJ×Int):Prop:=(q.2=0/\SpB f [.box 100000 0,aS e] [stC s] (I 0) [stC q.1])\/(q.2≠0/\q.1=inv0/\SpB f [.box 100000 0,aS e] [stC s] (I q.2) [bots])
def eN8{s:aJ}{e:Event}{n:Nat}(h:Ok s n)(d:n<=1000000):zM 70 s e (relR s e)/\((relR s e).2=0->Ok (relR s e).1 n):=by
 unfold relR;rcases kE (n:=e.id) (f:=λm=>open Classical in if m.program=aI then(setK s (bs sid s.stocks e.id) (prog m e.text),0)else(inv0,27)) h.ss with⟨b,a⟩|⟨m,b,a,i,g⟩;rw[a];exact⟨.inr ⟨Ai,rfl,bN7 s e (h.gd d) b⟩,λh=>Ag⟩;rw[g];by_cases c:m.program=aI;rw[Pm c];exact⟨.inl ⟨rfl,bM2 s e m (h.gd d) b a c⟩,λ_=>bW3 h a _⟩;rw[Ph c];exact⟨.inr ⟨Ai,rfl,bM0 s e m (h.gd d) b a c⟩,λh=>Ag⟩
def eM9{s:aJ}{e:Event}{n:Nat}(h:Ok s n)(d:n<=1000000):zM 71 s e (bP3 s e)/\((bP3 s e).2=0->Ok (bP3 s e).1 n):=by
 unfold bP3;rcases kE (n:=e.id) (f:=λm=>open Classical in if m.program≠aI then(setK s (bs sid s.stocks e.id) (prog m aI),0)else(inv0,10)) h.ss with⟨b,a⟩|⟨m,b,a,i,g⟩;rw[a];exact⟨.inr ⟨Ai,rfl,cA0 s e (h.gd d) b⟩,λh=>Ag⟩;rw[g];by_cases c:m.program≠aI;rw[Pm c];exact⟨.inl ⟨rfl,bZ5 s e m (h.gd d) b a c⟩,λ_=>bW3 h a _⟩;rw[Ph c];exact⟨.inr ⟨Ai,rfl,cB5 s e m (h.gd d) b a c⟩,λh=>Ag⟩
def eN4{s:aJ}{e:Event}{n:Nat}(h:Ok s n)(d:n<=1000000):zM 75 s e (bQ0 s e)/\((bQ0 s e).2=0->Ok (bQ0 s e).1 n):=by
 unfold bQ0;rcases kE (n:=e.id) (f:=λm=>open Classical in if m.program=aI then(aX4 s (bs sid s.stocks e.id) m,0)else(inv0,27)) h.ss with⟨b,a⟩|⟨m,b,a,i,g⟩;rw[a];exact⟨.inr ⟨Ai,rfl,bO2 s e (h.gd d) b⟩,λh=>Ag⟩;rw[g];by_cases c:m.program=aI;rw[Pm c];exact⟨.inl ⟨rfl,bM1 s e m (h.gd d) b a c (h.sz m (fC a))⟩,λ_=>dD6 h _ m⟩;rw[Ph c];exact⟨.inr ⟨Ai,rfl,bO0 s e m (h.gd d) b a c⟩,λh=>Ag⟩
def aV1{s:aJ}{k st:Int}{o:ByteArray}{n:Nat}(h:Ok s n)(d:n<=1000000):(((nK s k st o).2=0/\SpB 127 [.box 100000 0,I k,I st,S o] [stC s] (I 0) [stC (nK s k st o).1])\/
 ((nK s k st o).2≠0/\(nK s k st o).1=inv0/\SpB 127 [.box 100000 0,I k,I st,S o] [stC s] (I (nK s k st o).2) [bots]))/\((nK s k st o).2=0->Ok (nK s k st o).1 n):=by
 by_cases a:∃m∈s.pieces,m.id=k
 ·obtain⟨m,b,f⟩:=aB8 h.sp a
  have e:nK s k st o=open Classical in if m.status=1 then(setP s (bs Piece.id s.pieces k) (marked m st o),0)else(inv0,10):=by
   unfold nK;rw[Pm a,b]
  rw[e];by_cases c:m.status=1
  ·rw[Pm c]
   exact⟨.inl ⟨rfl,cU5 s k st o m (h.gd d) a b c⟩,λ_=>dE1 h b st o⟩
  ·rw[Ph c]
   exact⟨.inr ⟨(by decide:(10:Int)≠0),rfl,cR1 s k st o m (h.gd d) a b c⟩,λh=>Ag⟩
 ·unfold nK
  rw[Ph a];exact⟨.inr ⟨(by decide:(8:Int)≠0),rfl,cX9 s k st o (h.gd d) a⟩,λh=>Ag⟩
def eR8{s:aJ}{e:Event}{n:Nat}(h:Ok s n)(f:n<=1000000):zM 73 s e (nK s e.id 2 aI)/\((nK s e.id 2 aI).2=0->Ok (nK s e.id 2 aI).1 n):=by
 obtain⟨c,d⟩:=aV1 (k:=e.id) (st:=2) (o:=aI) h f;refine⟨?_,d⟩;rcases c with⟨a,b⟩|⟨a,b,g⟩;exact .inl ⟨a,aU1 s e (.inr ⟨_,rfl⟩) b⟩;exact .inr ⟨a,b,aU1 s e (.inl rfl) g⟩
def eK3{s:aJ}{e:Event}{n:Nat}(h:Ok s n)(f:n<=1000000):zM 74 s e (nK s e.id 3 e.text)/\((nK s e.id 3 e.text).2=0->Ok (nK s e.id 3 e.text).1 n):=by
 obtain⟨c,d⟩:=aV1 (k:=e.id) (st:=3) (o:=e.text) h f;refine⟨?_,d⟩;rcases c with⟨a,b⟩|⟨a,b,g⟩;exact .inl ⟨a,bS3 s e (.inr ⟨_,rfl⟩) b⟩;exact .inr ⟨a,b,bS3 s e (.inl rfl) g⟩
def aY1{s:aJ}{x:aN}{n:Nat}(h:Ok s n)(d:n+1<=1000000)(b:eY x):(((nM s x).2=0/\SpB 119 [.box 100000 0,aQ x] [stC s] (I 0) [stC (nM s x).1])\/
 ((nM s x).2≠0/\(nM s x).1=inv0/\SpB 119 [.box 100000 0,aQ x] [stC s] (I (nM s x).2) [bots]))/\((nM s x).2=0->Ok (nM s x).1 (n+1)):=by
 unfold nM;have a:s.used.length+1<=1000000:=by have:=h.lu;omega
 by_cases c:sid x∈s.used
 ·rw[Pm c]
  exact⟨.inr ⟨(by decide:(7:Int)≠0),rfl,bM7 s x (h.gd Aa) a c⟩,λh=>Ag⟩
 ·rw[Ph c]
  exact⟨.inl ⟨rfl,bN1 s x (h.gd Aa) b a c⟩,λ_=>dD4 h b c⟩
def eY6{s:aJ}{e:Event}{n:Nat}(h:Ok s n)(g:n+1<=1000000)(f:lK e.sheet):zM 68 s e (nM s ⟨false,e.sheet,bar0,aI⟩)/\((nM s ⟨false,e.sheet,bar0,aI⟩).2=0->Ok (nM s ⟨false,e.sheet,bar0,aI⟩).1 (n+1)):=by
 obtain⟨c,d⟩:=aY1 (x:=⟨false,e.sheet,bar0,aI⟩) h g ⟨f,by simp[bar0]⟩;refine⟨?_,d⟩;rcases c with⟨a,b⟩|⟨a,b,i⟩;exact .inl ⟨a,aW2 s e (.inr ⟨_,rfl⟩) b⟩;exact .inr ⟨a,b,aW2 s e (.inl rfl) i⟩
def eW9{s:aJ}{e:Event}{n:Nat}(h:Ok s n)(g:n+1<=1000000)(f:iY e):zM 69 s e (nM s ⟨true,dN,e.bar,aI⟩)/\((nM s ⟨true,dN,e.bar,aI⟩).2=0->Ok (nM s ⟨true,dN,e.bar,aI⟩).1 (n+1)):=by
 obtain⟨c,d⟩:=aY1 (x:=⟨true,dN,e.bar,aI⟩) h g ⟨xZ,f.br⟩;refine⟨?_,d⟩;rcases c with⟨a,b⟩|⟨a,b,i⟩;exact .inl ⟨a,bJ1 s e (.inr ⟨_,rfl⟩) b⟩;exact .inr ⟨a,b,bJ1 s e (.inl rfl) i⟩
def eP9{s:aJ}{e:Event}{n:Nat}(h:Ok s n)(u:n+more e<=1000000)(c:iY e):zM 72 s e (cutR s e)/\((cutR s e).2=0->Ok (cutR s e).1 (n+more e)):=by
 unfold more at u⊢;have j:=h.gd Aa;have k:s.used.length+(fO e).length<=1000000:=by rw[dG9];have:=h.lu;omega
 unfold cutR;by_cases b:dP s.used (fO e);rw[Ph (QB.2 b)]
 rcases kE (n:=e.id) (f:=λm=>open Classical in if m.program=aI then(inv0,10)else
  if cZ m [] e.rests≠0 then(inv0,cZ m [] e.rests)else if nJ m e≠e.scrap then(inv0,29)else(cut5 s e (bs sid s.stocks e.id) m,0)) h.ss with⟨h1,h2⟩|⟨m,h1,h2,h3,h4⟩
 rw[h2];exact⟨.inr ⟨(by decide:(8:Int)≠0),rfl,xP s e j c k (.inr ⟨b, .inl ⟨h1,rfl,rfl⟩⟩) (.inl rfl)⟩,λh=>Ag⟩;rw[h4];have d:=h.sz m (fC h2);by_cases g:m.program=aI;rw[Pm g];exact⟨.inr ⟨(by decide:(10:Int)≠0),rfl,xP s e j c k (.inr ⟨b, .inr ⟨m,h1,h2, .inl ⟨g,rfl,rfl⟩⟩⟩) (.inl rfl)⟩,λh=>Ag⟩;rw[Ph g];by_cases i:cZ m [] e.rests≠0;rw[Pm i];exact⟨.inr ⟨i,rfl,xP s e j c k (.inr ⟨b, .inr ⟨m,h1,h2, .inr ⟨g,d, .inl ⟨i,rfl,rfl⟩⟩⟩⟩) (.inl rfl)⟩,λh=>absurd h i⟩;rw[Ph i];have a:=QB.1 i
 have t:∀x∈eG m e.rests,eY x:=λx v=>by
  grind [mV,aX5]
 have l:(eG m e.rests).length<=1000000:=by rw[mV a,P6];exact c.rs
 by_cases o:nJ m e≠e.scrap;rw[Pm o];exact⟨.inr ⟨(by decide:(29:Int)≠0),rfl,xP s e j c k (.inr ⟨b, .inr ⟨m,h1,h2, .inr ⟨g,d, .inr ⟨a,t,l, .inl ⟨o,rfl,rfl⟩⟩⟩⟩⟩) (.inl rfl)⟩,λh=>Ag⟩;rw[Ph o];refine⟨.inl ⟨rfl,xP s e j c k (.inr ⟨b, .inr ⟨m,h1,h2, .inr ⟨g,d, .inr ⟨a,t,l, .inr ⟨QB.1 o,λD R r=>?_,λD R r=>?_,rfl,rfl⟩⟩⟩⟩⟩) (.inr ⟨_,rfl⟩)⟩,λ_=>?_⟩;have q:=(aZ7 (C:=[]) (Q:=e.cuts) h h2 b a r rfl).gd Aa;exact⟨q.ls,q.lp,q.lu,q.ss,q.sp,q.su⟩;exact(aZ7 (R:=[]) h h2 b a (Pz _).symm r).gd Aa;exact cP7 ((aZ7 (R:=[]) (Q:=[]) h h2 b a (Pz _).symm (Pz _).symm).mono Aa) _;rw[Pm b];exact⟨.inr ⟨(by decide:(7:Int)≠0),rfl,xP s e j c k (.inl ⟨b,rfl,rfl⟩) (.inl rfl)⟩,λh=>Ag⟩
def sG{s:aJ}{e:Event}{f:FuncId}{q:aJ×Int}(h:Gd s)(c:iY e)(d:iD e)(g:jG (.int .i64 e.kind) uP=some (.fn f []))(j:zM f s e q):
 Sp 16 [invV s,aS e] (.tup [invV q.1,I q.2]):=by
 refine zsp Tryz.func16 ?_;rcases j with⟨a,b⟩|⟨a,b,i⟩
 ·rw[a]
  exact dL3 s q.1 e h c d g b
 ·rw[b]
  exact dR7 s e h c d g a i
def kG{s:aJ}{e:Event}{n:Nat}(h:Ok s n)(a:n+more e<=1000000)(he:iY e):Sp 16 [invV s,aS e] (.tup [invV (appR s e).1,I (appR s e).2])/\((appR s e).2=0->Ok (appR s e).1 (n+more e)):=by
 unfold appR;have b:1<=more e:=FP;by_cases hf:iD e;rw[Pm hf];have hk:e.kind=1\/e.kind=2\/e.kind=3\/e.kind=4\/e.kind=5\/e.kind=6\/e.kind=7\/e.kind=8:=by have:=hf.2.2.2.2.2.2.2.2;omega
 unfold bP2;have hs:=h.gd Aa;rcases hk with hk|hk|hk|hk|hk|hk|hk|hk;simp only[hk,reduceIte,reduceCtorEq,Int.reduceEq];obtain⟨q1,q2⟩:=eY6 (e:=e) h Aa (aX9 (hf.2.2.2.1 hk).2);exact MG;simp only[hk,reduceIte,reduceCtorEq,Int.reduceEq];obtain⟨q1,q2⟩:=eW9 (e:=e) h Aa he;exact MG;simp only[hk,reduceIte,reduceCtorEq,Int.reduceEq];obtain⟨q1,q2⟩:=eN8 (e:=e) h Aa;exact MG;simp only[hk,reduceIte,reduceCtorEq,Int.reduceEq];obtain⟨q1,q2⟩:=eM9 (e:=e) h Aa;exact MG;simp only[hk,reduceIte,reduceCtorEq,Int.reduceEq];obtain⟨q1,q2⟩:=eP9 (e:=e) h a he;exact⟨sG hs he hf BV q1,q2⟩;simp only[hk,reduceIte,reduceCtorEq,Int.reduceEq];obtain⟨q1,q2⟩:=eR8 (e:=e) h Aa;exact MG;simp only[hk,reduceIte,reduceCtorEq,Int.reduceEq];obtain⟨q1,q2⟩:=eK3 (e:=e) h Aa;exact MG;simp only[hk,reduceIte,reduceCtorEq,Int.reduceEq];obtain⟨q1,q2⟩:=eN4 (e:=e) h Aa;exact MG;rw[Ph hf];exact⟨zsp Tryz.func16 (dM0 s e he hf),λh=>Ag⟩
inductive Step(s:aJ)(e:Event):aJ->Prop
 |recv (x:aN) (hx:(e.kind=1/\x=⟨false,e.sheet,bar0,aI⟩/\dB e.sheet)\/(e.kind=2/\x=⟨true,dN,e.bar,aI⟩/\fM e.bar)) (hn:sid x∉s.used):Step s e (aX7 s x)
 |setK (k:Nat) (m:aN) (p:ByteArray) (hk:e.kind=3\/e.kind=4) (hm:s.stocks[k]? =some m) (hid:sid m=e.id):Step s e (setK s k (prog m p))
 |disc (k:Nat) (m:aN) (hk:e.kind=8) (hm:s.stocks[k]? =some m) (hid:sid m=e.id):Step s e (aX4 s k m)
 |setP (k:Nat) (m:Piece) (st:Int) (o:ByteArray) (hk:(e.kind=6/\st=2/\o=aI)\/(e.kind=7/\st=3/\o=e.text)) (hm:s.pieces[k]? =some m) (hs:m.status=1) (hid:m.id=e.id):Step s e (setP s k (marked m st o))
 |cut (k:Nat) (m:aN) (hk:e.kind=5) (hf:nY e) (hfr:dP s.used (fO e)) (hm:s.stocks[k]? =some m) (hid:sid m=e.id) (hp:m.program≠aI) (hr:cZ m [] e.rests=0) (hl:nJ m e=e.scrap):Step s e (cut5 s e k m)
def bE7{s:aJ}{k st:Int}{o:ByteArray}{n:Nat}(h:Ok s n)(a:(nK s k st o).2=0):∃m,s.pieces[bs Piece.id s.pieces k]? =some m/\m.status=1/\m.id=k/\(nK s k st o).1=setP s (bs Piece.id s.pieces k) (marked m st o):=by
 unfold nK at a⊢;by_cases b:∃m∈s.pieces,m.id=k;obtain⟨m,d,e⟩:=aB8 h.sp b;rw[Pm b,d]at a⊢;by_cases c:m.status=1;exact⟨m,rfl,c,e,by show(ite _ _ _:aJ×Int).1=_;rw[Pm c]⟩;have a:(ite (m.status=1) (setP s (bs Piece.id s.pieces k) (marked m st o),(0:Int)) (inv0,10)).2=0:=a;rw[Ph c]at a;cases a;rw[Ph b]at a;cases a
def aZ6{s:aJ}{e:Event}{n:Nat}(h:Ok s n)(a:(appR s e).2=0):iD e/\Step s e (appR s e).1:=by
 unfold appR at a⊢;by_cases k:iD e;rotate_left;rw[Ph k]at a;cases a;refine⟨k,?_⟩;rw[Pm k]at a⊢;unfold bP2 at a⊢;have b:e.kind=1\/e.kind=2\/e.kind=3\/e.kind=4\/e.kind=5\/e.kind=6\/e.kind=7\/e.kind=8:=by have:=k.2.2.2.2.2.2.2.2;omega
 rcases b with b|b|b|b|b|b|b|b;all_goals simp only[b,reduceIte,reduceCtorEq,Int.reduceEq]at a⊢
 unfold nM at a⊢;split at a;cases a;rename_i c;rw[Ph c];exact .recv _ (.inl ⟨b,rfl,(k.2.2.2.1 b).2⟩) c;unfold nM at a⊢;split at a;cases a;rename_i c;rw[Ph c];exact .recv _ (.inr ⟨b,rfl,(k.2.2.2.2.1 b).2⟩) c;unfold relR at a⊢;rcases kE (n:=e.id) (f:=λm=>open Classical in if m.program=aI then(Led.setK s (bs sid s.stocks e.id) (prog m e.text),0)else(inv0,27)) h.ss with⟨g,d⟩|⟨m,g,d,i,j⟩;rw[d]at a;cases a;rw[j]at a⊢;by_cases c:m.program=aI;rw[Pm c];exact .setK _ m _ (.inl b) d i;rw[Ph c]at a;cases a;unfold bP3 at a⊢;rcases kE (n:=e.id) (f:=λm=>open Classical in if m.program≠aI then(Led.setK s (bs sid s.stocks e.id) (prog m aI),0)else(inv0,10)) h.ss with⟨g,d⟩|⟨m,g,d,i,j⟩;rw[d]at a;cases a;rw[j]at a⊢;by_cases c:m.program≠aI;rw[Pm c];exact .setK _ m _ (.inr b) d i;rw[Ph c]at a;cases a
 ·unfold cutR at a⊢
  by_cases o:dP s.used (fO e);rotate_left;rw[Pm o]at a;cases a;rw[Ph (QB.2 o)]at a⊢
  rcases kE (n:=e.id) (f:=λm=>open Classical in if m.program=aI then(inv0,10)else
   if cZ m [] e.rests≠0 then(inv0,cZ m [] e.rests)else if nJ m e≠e.scrap then(inv0,29)else(cut5 s e (bs sid s.stocks e.id) m,0)) h.ss with⟨g,d⟩|⟨m,g,d,i,j⟩
  rw[d]at a;cases a;rw[j]at a⊢;by_cases p:m.program=aI;rw[Pm p]at a;cases a;rw[Ph p]at a⊢;by_cases l:cZ m [] e.rests≠0;rw[Pm l]at a;exact absurd a l;rw[Ph l]at a⊢;by_cases q:nJ m e≠e.scrap;rw[Pm q]at a;cases a;rw[Ph q];exact .cut _ m b (k.2.2.2.2.2.2.2.1 b) o d i p (QB.1 l) (QB.1 q)
 obtain⟨m,g,d,i,j⟩:=bE7 h a;rw[j];exact .setP _ m _ _ (.inl ⟨b,rfl,rfl⟩) g d i;obtain⟨m,g,d,i,j⟩:=bE7 h a;rw[j];exact .setP _ m _ _ (.inr ⟨b,rfl,rfl⟩) g d i;unfold bQ0 at a⊢;rcases kE (n:=e.id) (f:=λm=>open Classical in if m.program=aI then(aX4 s (bs sid s.stocks e.id) m,0)else(inv0,27)) h.ss with⟨g,d⟩|⟨m,g,d,i,j⟩;rw[d]at a;cases a;rw[j]at a⊢;by_cases c:m.program=aI;rw[Pm c];exact .disc _ m b d i;rw[Ph c]at a;cases a
def dC2(n:Int):∃k:Int,W n=n+k*18446744073709551616:=by
 simp[IntKind.wrap,IntKind.signed,IntKind.bits];split;all_goals first|exact⟨-(n/18446744073709551616),Aa⟩|exact⟨-(n/18446744073709551616)-1,Aa⟩
def fC5{a b:Int}(k:Int)(h:a=b+k*18446744073709551616):W a=W b:=by
 obtain⟨p,e⟩:=dC2 a;obtain⟨q,f⟩:=dC2 b;have c:=nT a;have d:=nT b;omega
theorem bF8(a b:Int):W (W a+b)=W (a+b):=by
 obtain⟨p,c⟩:=dC2 a;exact fC5 p Aa
theorem bX3(a:Int):W (W a)=W a:=w_in (nT a)
def cls(b:Bool)(r:Iv):Int:=if b then r.2 else r.1
theorem rX(b c:Bool)(r:Iv)(n:Int):cls b (plus c r n)=if c=b then W (cls b r+n)else cls b r:=by
 unfold cls plus;cases b<;>cases c<;>simp
def totS(b:Bool)(l:List aN):Int:=(l.map λx=>if x.isBar=b then gG x else 0).sum
def totP(b:Bool)(l:List Piece):Int:=(l.map λx=>if x.isBar=b then x.size else 0).sum
def dG3(b:Bool):∀(l:List aN) (r:Iv),W (cls b r)=cls b r->cls b (upS r l)=W (cls b r+totS b l)
 | [],r,h=>EF
 |x::l,r,h=>by
  have e:upS r (x::l)=upS (plus x.isBar r (gG x)) l:=rfl;have a:totS b (x::l)=(if x.isBar=b then gG x else 0)+totS b l:=by unfold totS;simp
  rw[e,dG3 b l _ (by rw[rX];split;exact bX3 _;exact h),rX,a];grind [bF8]
theorem dJ3(b:Bool):∀(l:List Piece) (r:Iv),W (cls b r)=cls b r->cls b (upP r l)=W (cls b r+totP b l)
 | [],r,h=>EF
 |x::l,r,h=>by
  have e:upP r (x::l)=upP (plus x.isBar r x.size) l:=rfl;have a:totP b (x::l)=(if x.isBar=b then x.size else 0)+totP b l:=by unfold totP;simp
  rw[e,dJ3 b l _ (by rw[rX];split;exact bX3 _;exact h),rX,a];grind [bF8]
theorem eW7{a b:Iv}:a=b↔∀c,cls c a=cls c b:=by
 constructor;rintro rfl _;rfl;intro h;have d:=h true;have e:=h false;simp[cls]at d e;exact Prod.ext e d
def inR(r:Iv):Prop:=∀b,W (cls b r)=cls b r
def cK5{r:Iv}{c:Bool}{n:Int}(h:inR r):inR (plus c r n):=λb=>by rw[rX];split;exact bX3 _;exact h b
def cD1{s:aJ}(h:inR s.scrap):tK s↔∀b,W (cls b s.scrap+totS b s.stocks+totP b s.pieces)=cls b s.received:=by
 unfold tK;rw[eW7];refine forall_congr' λb=>?_;have a:=dG3 b s.stocks s.scrap (h b);simp_all [dJ3,bX3,bF8]
theorem bU2{a:Type}(f:a->Int)(l:List a)(i:Nat)(x:a):((putAt l i x).map f).sum=(l.map f).sum+f x:=by
 grind [Qq,putAt]
def bP1{a:Type}(f:a->Int){l:List a}{i:Nat}{x:a}(b:l[i]? =some x):((nN l i).map f).sum=(l.map f).sum-f x:=by
 obtain⟨hi,b⟩:=Pg.1 b;grind [Qq,List.drop_eq_getElem_cons,nN]
def dF7{a:Type}(f:a->Int){l:List a}{i:Nat}{x y:a}(b:l[i]? =some x)(c:f y=f x):((l.set i y).map f).sum=(l.map f).sum:=by
 rw[bY6 (key:=f) b c]
theorem bB7{a:Type}(f:a->Int)(key:a->Int):∀(xs l:List a),((xs.foldl (putK key) l).map f).sum=(l.map f).sum+(xs.map f).sum
 | [],l=>Af
 |x::xs,l=>by
  rw[QO,bB7 f key xs,show putK key l x=putAt l (bs key l (key x)) x from rfl,bU2,PW,RS];omega
def R6(n:Int):Prop:= -9223372036854775808<=n/\n<=9223372036854775807
theorem eQ4{n c:Int}(b:R6 n)(d:0<=c)(h:0<=sub1 n c):sub1 n c=n-c/\c<=n:=by
 unfold sub1 at h⊢;unfold R6 at b;rw[lH]at h⊢;by_cases a:n=9223372036854775807;subst a;have e:W (9223372036854775807+1)= -9223372036854775808:=Ai;rw[e,Int.min_eq_right Aa]at h;exact absurd h Ai;grind [Int.min_eq_left,Int.min_eq_right,w_in]
def bK0(n c:Int):R6 (sub1 n c):=nT _
def bY2:∀(l:List Int) (n:Int),R6 n->(∀c∈l,0<=c)->0<=subL n l->subL n l=n-l.sum/\0<=n/\∀c∈l,c<=n
 | [],n,d,_,h=>⟨by show n=n-0;omega,h,Af⟩
 |c::l,n,d,a,h=>by
  have e:subL n (c::l)=subL (sub1 n c) l:=rfl;rw[e]at h⊢;have b:=a c Af;obtain⟨f,g,i⟩:=bY2 l (sub1 n c) (bK0 n c) (λx hx=>a x BO) h;grind [eQ4]
def cE6(o:Rg):0<=uK ⟨o,[]⟩:=by
 unfold uK;split;rename_i h;have a:dM o:=h.2.1 o (by simp[rings]);have b:0<zY o:=a.2.2.2.1;have e:nG o=zY o:=Pm a;show 0<=W (W (2*nG o)-nG o);rw[e,Int.sub_eq_add_neg,bF8]
 have d: -9223372036854775808<=zY o/\zY o<=9223372036854775807:=by
  unfold zY;cases c:o.length with
  |zero=>have:=a.1;omega
  |succ n=>rw[bC2];exact nT _
 rw[w_in Aa];omega;exact Int.le_refl 0
def aJ5(s:Sh):R6 (uK s):=by
 unfold uK;split;unfold qH rings
 have key:∀(l:List Rg) (a:Int),R6 a->R6 (l.foldl (λa r=>W (a-nG r)) a):=by
  intro l;induction l with
  |nil=>exact λa h=>h
  |cons x l b=>exact λa _=>b _ (nT _)
 exact key _ _ (nT _);exact⟨Ai,Ai⟩
def cY9(b:Bx)(v:Vc):(jT b v).holes=[] :=by
 have key:(qO (sV (vsub b.1 v) (vsub b.2 v))).holes=[] :=by
  have a:(sV (vsub b.1 v) (vsub b.2 v)).holes=[] :=by
   unfold sV;split<;>rfl
  by_cases h:bG (sV (vsub b.1 v) (vsub b.2 v));rw[aN9 h];show wW _=[];unfold wW;rw[a];rfl;rw[bH5 h];rfl
 exact key
def yP{x:aN}{r:Rest}(h:iG x r=0)(f:x.isBar=true->R6 x.bar.length):0<=gG (dZ x r)/\(dZ x r).isBar=x.isBar:=by
 unfold dZ;by_cases a:x.isBar=false;rw[Pm a];unfold iG at h;rw[Pm a]at h;by_cases c:r.lo≠0\/r.hi≠0;rw[Pm c]at h;cases h;rw[Ph c]at h⊢;refine⟨?_,a.symm⟩;show 0<=uK (remS x.sheet r.box r.id).shape;unfold remS;rw[Pm h];show 0<=uK (jT r.box r.box.1)
 have e:jT r.box r.box.1=⟨(jT r.box r.box.1).outer,[]⟩:=by
  have:=cY9 r.box r.box.1;cases d:jT r.box r.box.1<;>simp_all
 rw[e];exact cE6 _;rw[Ph a,Pm h]
 have b:x.isBar=true:=by cases d:x.isBar with
  |true=>rfl
  |false=>exact absurd d a
 refine⟨?_,b.symm⟩;show 0<=W (r.hi-r.lo);unfold iG at h;rw[Ph a]at h;grind [R6,w_in]
structure Bal(s:aJ):Prop where
 sc:inR s.scrap
 eq:∀b,W (cls b s.scrap+totS b s.stocks+totP b s.pieces)=cls b s.received
 ps:∀p∈s.pieces,1<=p.size/\p.size<=9223372036854775807
 br:∀x∈s.stocks,R6 (gG x)
def bal0:Bal inv0:=⟨λb=>by cases b<;>decide,λb=>by cases b<;>decide,EG,EG⟩
def eZ9{s:aJ}(h:Bal s):tK s:=(cD1 h.sc).2 h.eq
def cW8{a:Type}(p:a->Bool)(f:a->Int)(c b:Bool):∀(l:List a),(∀x∈l,p x=c)->(l.map λx=>if p x=b then f x else 0).sum=if c=b then(l.map f).sum else 0
 | [],_=>Af
 |x::l,h=>by
  rw[PW,RS,cW8 p f c b l (λy hy=>h y GL),h x Af,PW,RS];split;rfl;rfl
def bK7:∀(l:List Int) (n:Int),R6 n->R6 (subL n l)
 | [],n,h=>h
 |c::l,n,h=>bK7 l (sub1 n c) (bK0 n c)
def bH6{e:Event}{x:aN}(a:(e.kind=1/\x=⟨false,e.sheet,bar0,aI⟩/\dB e.sheet)\/(e.kind=2/\x=⟨true,dN,e.bar,aI⟩/\fM e.bar)):R6 (gG x)/\nC (sid x):=by
 rcases a with⟨_,rfl,h⟩|⟨_,rfl,h⟩;exact⟨aJ5 _,h.1.1,h.1.2.1⟩;refine⟨?_,h.1.1,h.1.2.1⟩;show R6 e.bar.length;have b:=h.2.1;have c:=h.2.2.1;unfold R6;omega
theorem aG4(s:aJ)(e:Event)(k:Nat)(m:aN):(cut5 s e k m).pieces=(e.cuts.map (fZ e m)).foldl (putK Piece.id) s.pieces:=by
 show e.cuts.foldl (λp x=>putP p (fZ e m x)) s.pieces=_;rw[List.foldl_map];rfl
theorem aF7(s:aJ)(e:Event)(k:Nat)(m:aN):(cut5 s e k m).stocks=(eG m e.rests).foldl (putK sid) (nN s.stocks k):=rfl
def yU{m:aN}{l:List Rest}(a:cZ m [] l=0){x:aN}(b:x∈eG m l):∃r∈l,x=dZ m r/\iG m r=0:=by
 grind [mV,tZ]
def cM1{x:aN}(h:R6 (gG x)):x.isBar=true->R6 x.bar.length:=λa=>by unfold gG at h;rw[Pm a]at h;exact h
def dN1{m:aN}{r:Rest}(h:iG m r=0):R6 (gG (dZ m r)):=by
 unfold dZ;split;split;exact aJ5 _;exact aJ5 _;exact nT _
def eE0{s B:aJ}{e:Event}(d:Bal s)(F:Step s e B):Bal B:=by
 cases F with
 |recv x j L=>
  obtain⟨K,R⟩:=bH6 j;refine⟨d.sc,λb=>?_,d.ps,λy a=>?_⟩;show W (cls b s.scrap+totS b (putAt s.stocks _ x)+totP b s.pieces)=cls b (plus x.isBar s.received (gG x));have f:totS b (putAt s.stocks (bs sid s.stocks (sid x)) x)=totS b s.stocks+if x.isBar=b then gG x else 0:=bU2 _ _ _ _
  rw[f,rX,<-d.eq b];grind [bF8];rcases fH.1 a with rfl|a;exact K;exact d.br y a
 |setK k m p w i n=>
  refine⟨d.sc,λb=>?_,d.ps,λy a=>?_⟩;have f:totS b (s.stocks.set k (prog m p))=totS b s.stocks:=dF7 _ i rfl;show W (cls b s.scrap+totS b (s.stocks.set k (prog m p))+totP b s.pieces)=cls b s.received;rw[f];exact d.eq b;rcases mem_set a with rfl|a;exact d.br m (fC i);exact d.br y a
 |disc k m w i n=>
  refine⟨cK5 d.sc,λb=>?_,d.ps,λy a=>d.br y ((kM _ _).subset a)⟩;show W (cls b (plus m.isBar s.scrap (gG m))+totS b (nN s.stocks k)+totP b s.pieces)=cls b s.received;have f:totS b (nN s.stocks k)=totS b s.stocks-if m.isBar=b then gG m else 0:=bP1 _ i
  rw[f,rX,<-d.eq b];exact O8
 |setP k m st o w i H n=>
  refine⟨d.sc,λb=>?_,λy a=>?_,d.br⟩;have f:totP b (s.pieces.set k (marked m st o))=totP b s.pieces:=dF7 _ i rfl;show W (cls b s.scrap+totS b s.stocks+totP b (s.pieces.set k (marked m st o)))=cls b s.received;rw[f];exact d.eq b;rcases mem_set a with rfl|a;exact d.ps m (fC i);exact d.ps y a
 |cut k m w v D i n M z E=>
  have g:=d.br m (fC i);have G:0<=e.scrap:=v.2.2.2.2.1;unfold nJ at E;have C:R6 (subL (gG m) (e.cuts.map Made.size)):=bK7 _ _ g
  obtain⟨N,I,O⟩:=bY2 _ _ C (λc t=>by
   obtain⟨x,j,rfl⟩:=PI.1 t;obtain⟨r,f,rfl,u⟩:=yU z j;exact(yP u (cM1 g)).1) Aa
  obtain⟨P,Q,J⟩:=bY2 _ _ g (λc t=>by
   obtain⟨x,j,rfl⟩:=PI.1 t;have:=(v.1 x j).2.2;omega) I
  refine⟨cK5 d.sc,λb=>?_,λy a=>?_,λy a=>?_⟩
  have f:totS b (cut5 s e k m).stocks=totS b s.stocks- (if m.isBar=b then gG m else 0)+if m.isBar=b then((eG m e.rests).map gG).sum else 0:=by
   rw[aF7];unfold totS
   rw[bB7,bP1 _ i,cW8 (λx:aN=>x.isBar) gG m.isBar b (eG m e.rests) (λx j=>by
    obtain⟨r,f,rfl,u⟩:=yU z j;exact(yP u (cM1 g)).2)]
  have A:totP b (cut5 s e k m).pieces=totP b s.pieces+if m.isBar=b then(e.cuts.map Made.size).sum else 0:=by
   rw[aG4];unfold totP
   rw[bB7,cW8 (λx:Piece=>x.isBar) Piece.size m.isBar b (e.cuts.map (fZ e m)) (λx j=>by
    obtain⟨c,f,rfl⟩:=PI.1 j;rfl),Sr]
   rfl
  rw[f,A];show W (cls b (plus m.isBar s.scrap e.scrap)+_+_)=cls b s.received;rw[rX,<-d.eq b];exact O8;rw[aG4]at a
  have q:y∈s.pieces\/y∈e.cuts.map (fZ e m):=by
   have key:∀(xs l:List Piece),y∈xs.foldl (putK Piece.id) l->y∈l\/y∈xs:=by
    intro xs;induction xs with
    |nil=>exact λl h=> .inl h
    |cons x xs ih=>
     intro l h;exact NF
   exact key _ _ a
  rcases q with a|a;exact d.ps y a;obtain⟨c,t,rfl⟩:=PI.1 a;have f:=(v.1 c t).2.2;have A:=J c.size (Q7 t);unfold R6 at g;exact⟨f,by show c.size<=_;omega⟩;rw[aF7]at a
  have q:y∈nN s.stocks k\/y∈eG m e.rests:=by
   have key:∀(xs l:List aN),y∈xs.foldl (putK sid) l->y∈l\/y∈xs:=by
    intro xs;induction xs with
    |nil=>exact λl h=> .inl h
    |cons x xs ih=>
     intro l h;exact NF
   exact key _ _ a
  rcases q with a|a;exact d.br y ((kM _ _).subset a);obtain⟨r,f,rfl,u⟩:=yU z a;exact dN1 u
structure Ids(s:aJ):Prop where
 dj:∀x∈s.stocks,∀p∈s.pieces,sid x≠p.id
 par:∀p∈s.pieces,p.parent∈s.used
 rng:∀n∈s.used,nC n
def ids0:Ids inv0:=⟨EG,EG,EG⟩
def cG6{s D:aJ}{e:Event}{n:Nat}(h:Ok s n)(hi:Ids s)(K:Step s e D):Ids D/\∀y∈s.used,y∈D.used:=by
 cases K with
 |recv x C J=>
  obtain⟨S,M⟩:=bH6 C;have j:∀y,y∈putN s.used (sid x)↔y=sid x\/y∈s.used:=λy=>fH;refine⟨⟨λy a p u=>?_,λp u=>(j _).2 (.inr (hi.par p u)),λy a=>?_⟩,λy a=>(j _).2 (.inr a)⟩;rcases fH.1 a with rfl|a;intro e;exact J (by rw[e];exact h.up p u);exact hi.dj y a p u;rcases(j _).1 a with rfl|a;exact M;exact hi.rng y a
 |setK k m p z i d=>
  refine⟨⟨λy a q b=>?_,hi.par,hi.rng⟩,λy a=>a⟩;rcases mem_set a with rfl|a;exact hi.dj m (fC i) q b;exact hi.dj y a q b
 |disc k m z i d=>exact⟨⟨λy a q b=>hi.dj y ((kM _ _).subset a) q b,hi.par,hi.rng⟩,λy a=>a⟩
 |setP k m st o z i L d=>
  refine⟨⟨λy a q b=>?_,λq b=>?_,hi.rng⟩,λy a=>a⟩;rcases mem_set b with rfl|b;exact hi.dj y a m (fC i);exact hi.dj y a q b;rcases mem_set b with rfl|b;exact hi.par m (fC i);exact hi.par q b
 |cut k m z F g i d u G R=>
  obtain⟨N,H,O⟩:=bJ9 (k:=k) h g G (Pz _).symm;obtain⟨P,E,Q⟩:=bC5 (m:=m) h g (Pz _).symm;obtain⟨v,w⟩:=qJ.1 g;have f:∀x∈eG m e.rests,sid x∈e.rests.map Rest.id:=λx C=>by rw[<-aG9 G];exact Q7 C
  have B:∀y,y∈cO s.used (fO e)↔y∈s.used\/y∈fO e:=λy=>tY;unfold fO at v w;rw[Rt]at w;refine⟨⟨λy a q b=>?_,λq b=>?_,λy a=>?_⟩,λy a=>(B y).2 (.inl a)⟩;rcases(H y).1 a with a|a<;>rcases(E q).1 b with b|b
  exact hi.dj y ((kM _ _).subset a) q b;obtain⟨c,l,rfl⟩:=PI.1 b;intro t;have I:sid y=c.id:=t;exact v c.id (by simp only[Pv];exact .inl (Q7 l)) (by rw[<-I];exact h.us y ((kM _ _).subset a));intro t;exact v (sid y) (by simp only[Pv];exact .inr (f y a)) (by rw[t];exact h.up q b);obtain⟨c,l,rfl⟩:=PI.1 b;intro t;exact w.2.2 c.id (Q7 l) (sid y) (f y a) t.symm;refine(B _).2 (.inl ?_);rcases(E q).1 b with b|b;exact hi.par q b;obtain⟨c,l,rfl⟩:=PI.1 b;show e.id∈_;rw[<-d];exact h.us m (fC i);rcases(B y).1 a with a|a;exact hi.rng y a;unfold fO at a;rcases Pv.1 a with a|a;obtain⟨c,l,rfl⟩:=PI.1 a;exact(F.1 c l).1;obtain⟨r,A,rfl⟩:=PI.1 a;exact(F.2.1 r A).1
end Go.Proofs.Led
