/-
  What holds of every inventory.
-/
import Derived.Test.YtdjgbagnajikeaaGreatDoorB5
import Derived.Test.YtdjgbagnajikeaaGreatDoorA7
import Derived.Test.YtdjgbagnajikeaaGreatDoorCards
import Derived.Test.YtdjgbagnajikeaaGreatDoorTie
import Derived.LaidMore
import Derived.Stop.Joined
import Derived.SevenTiedAt
import Derived.Lib.LaidTab
import Derived.MakeChecks
set_option linter.unusedVariables false
set_option linter.unusedSimpArgs false
set_option maxRecDepth 100000
set_option maxHeartbeats 8000000
noncomputable section
namespace Go.Proofs.Led
open Go Go.Proofs Go.Ab
structure Ok(s:aJ)(n:Nat):Prop where
 ss:(s.stocks.map sid).Pairwise (·<·)
 sp:(s.pieces.map Piece.id).Pairwise (·<·)
 su:(s.used.map id).Pairwise (·<·)
 ls:s.stocks.length<=n
 lp:s.pieces.length<=n
 lu:s.used.length<=n
 us:∀x∈s.stocks,sid x∈s.used
 up:∀p∈s.pieces,p.id∈s.used
 sz:∀x∈s.stocks,eY x
theorem Ok.gd{s:aJ}{n:Nat}(h:Ok s n)(a:n<=1000000):Gd s:=⟨Ro h.ls a,Ro h.lp a,Ro h.lu a,h.ss,h.sp,h.su⟩
theorem Ok.mono{s:aJ}{n m:Nat}(h:Ok s n)(a:n<=m):Ok s m:=⟨h.ss,h.sp,h.su,Ro h.ls a,Ro h.lp a,Ro h.lu a,h.us,h.up,h.sz⟩
theorem ok0:Ok inv0 0:=⟨.nil, .nil, .nil,QV _,QV _,QV _,by simp[inv0],by simp[inv0],by simp[inv0]⟩
def more(e:Event):Nat:=1+e.cuts.length+e.rests.length
theorem dG9(e:Event):(fO e).length=e.cuts.length+e.rests.length:=by unfold fO;simp
theorem dD4{s:aJ}{n:Nat}(h:Ok s n){x:aN}(f:eY x)(b:sid x∉s.used):Ok (aX7 s x) (n+1)where
 ss:=yR h.ss (λm c e=>b (by rw[<-e];exact h.us m c))
 sp:=h.sp
 su:=rF h.su b
 ls:=by show(putAt _ _ _).length<=_;rw[mQ];have:=h.ls;omega
 lp:=Nat.le_succ_of_le h.lp
 lu:=by show(putAt _ _ _).length<=_;rw[mQ];have:=h.lu;omega
 us:=λy a=>by
  rcases fH.1 a with rfl|a
  ·exact fH.2 (.inl rfl)
  ·exact fH.2 (.inr (h.us y a))
 up:=λp d=>fH.2 (.inr (h.up p d))
 sz:=λy a=>by
  rcases fH.1 a with rfl|a
  ·exact f
  ·exact h.sz y a
theorem mem_set{a:Type}{l:List a}{k:Nat}{x y:a}(h:y∈l.set k x):y=x\/y∈l:=(List.mem_or_eq_of_mem_set h).symm
theorem fC{a:Type}{l:List a}{k:Nat}{x:a}(h:l[k]? =some x):x∈l:=QT h
theorem bW3{s:aJ}{n:Nat}(h:Ok s n){k:Nat}{m:aN}(hm:s.stocks[k]? =some m)(p:ByteArray):Ok (setK s k (prog m p)) n where
 ss:=by show((s.stocks.set k (prog m p)).map sid).Pairwise _;rw[bY6 hm (rfl:sid (prog m p)=sid m)];exact h.ss
 sp:=h.sp
 su:=h.su
 ls:=by show(s.stocks.set _ _).length<=_;rw[Tz];exact h.ls
 lp:=h.lp
 lu:=h.lu
 us:=λy hy=>by
  rcases mem_set hy with rfl|hy
  ·exact h.us m (fC hm)
  ·exact h.us y hy
 up:=h.up
 sz:=λy hy=>by
  rcases mem_set hy with rfl|hy
  ·exact h.sz m (fC hm)
  ·exact h.sz y hy
theorem dE1{s:aJ}{n:Nat}(h:Ok s n){k:Nat}{m:Piece}(hm:s.pieces[k]? =some m)(st:Int)(o:ByteArray):Ok (setP s k (marked m st o)) n where
 ss:=h.ss
 sp:=by show((s.pieces.set k (marked m st o)).map Piece.id).Pairwise _;rw[bY6 hm (rfl:(marked m st o).id=m.id)];exact h.sp
 su:=h.su
 ls:=h.ls
 lp:=by show(s.pieces.set _ _).length<=_;rw[Tz];exact h.lp
 lu:=h.lu
 us:=h.us
 up:=λy hy=>by
  rcases mem_set hy with rfl|hy
  ·exact h.up m (fC hm)
  ·exact h.up y hy
 sz:=h.sz
theorem dD6{s:aJ}{n:Nat}(h:Ok s n)(k:Nat)(m:aN):Ok (aX4 s k m) n where
 ss:=bB0 h.ss k
 sp:=h.sp
 su:=h.su
 ls:=Ro (kM _ _).length_le h.ls
 lp:=h.lp
 lu:=h.lu
 us:=λy hy=>h.us y ((kM _ _).subset hy)
 up:=h.up
 sz:=λy hy=>h.sz y ((kM _ _).subset hy)
theorem bJ9{s:aJ}{n:Nat}(h:Ok s n){e:Event}{k:Nat}{m:aN}(g:dP s.used (fO e))(i:cZ m [] e.rests=0){D R:List aN}(f:eG m e.rests=D++R):
 ((D.foldl putS (nN s.stocks k)).map sid).Pairwise (·<·)/\(∀y,y∈D.foldl putS (nN s.stocks k)↔y∈nN s.stocks k\/y∈D)/\(D.foldl putS (nN s.stocks k)).length=(nN s.stocks k).length+D.length:=by
 have a:=aG9 i;rw[f,RF]at a;obtain⟨b,c⟩:=qJ.1 g;unfold fO at b c;rw[RQ]at c;obtain⟨_,d,_⟩:=c;rw[<-a]at b d;rw[RQ]at d;refine bE9 (key:=sid) (bB0 h.ss k) (λx j y l e=>?_) d.1;exact b (sid x) (by simp only[QX];exact .inr (.inl (RJ j))) (by rw[<-e];exact h.us y ((kM _ _).subset l))
theorem bC5{s:aJ}{n:Nat}(h:Ok s n){e:Event}{m:aN}(l:dP s.used (fO e)){D R:List Made}(j:e.cuts=D++R):
 ((D.foldl (λp x=>putP p (fZ e m x)) s.pieces).map Piece.id).Pairwise (·<·)/\(∀y,y∈D.foldl (λp x=>putP p (fZ e m x)) s.pieces↔y∈s.pieces\/y∈D.map (fZ e m))/\(D.foldl (λp x=>putP p (fZ e m x)) s.pieces).length=s.pieces.length+D.length:=by
 obtain⟨a,b⟩:=qJ.1 l;unfold fO at a b;rw[RQ]at b;obtain⟨d,_,_⟩:=b;rw[j,RF]at a d;rw[RQ]at d;have g:D.foldl (λp x=>putP p (fZ e m x)) s.pieces=(D.map (fZ e m)).foldl (putK Piece.id) s.pieces:=by rw[List.foldl_map];rfl
 have i:(D.map (fZ e m)).map Piece.id=D.map Made.id:=by rw[Ur];rfl
 rw[g]
 have q:=bE9 (key:=Piece.id) (xs:=D.map (fZ e m)) h.sp (λx o y r f=>by
  obtain⟨c,k,rfl⟩:=Ru.1 o;exact a c.id (by simp only[QX];exact .inl (.inl (RJ k))) (by have:=h.up y r;rw[f]at this;exact this)) (by rw[i];exact d.1)
 rw[Rl]at q;exact q
theorem aZ7{s:aJ}{n:Nat}(h:Ok s n){e:Event}{k:Nat}{m:aN}(B:s.stocks[k]? =some m)(g:dP s.used (fO e))(j:cZ m [] e.rests=0){D R:List aN}(f:eG m e.rests=D++R){C Q:List Made}(d:e.cuts=C++Q):
 Ok (cut4 s e k m D C) (n+e.cuts.length+e.rests.length):=by
 obtain⟨q,l,t⟩:=bJ9 (k:=k) h g j f;obtain⟨u,v,w⟩:=bC5 (m:=m) h g d;obtain⟨z,o⟩:=aA8 _ _ h.su g;rw[dG9]at o;have b:=Ry List.length (aG9 j);rw[f]at b;simp only[Rl,QU]at b;have i:=Ry List.length d
 rw[QU]at i;have E:=(kM s.stocks k).length_le;have F:=h.ls
 have G:=h.lp;have H:=h.lu
 refine⟨q,u,z,?_,?_,?_,λy a=>?_,λy a=>?_,λy a=>?_⟩
 ·show(D.foldl putS (nN s.stocks k)).length<=_
  rw[t];omega
 ·show(C.foldl (λp x=>putP p (fZ e m x)) s.pieces).length<=_
  rw[w];omega
 ·show(cO s.used (fO e)).length<=_
  rw[o];omega
 ·refine tY.2 ?_
  rcases(l y).1 a with a|a
  ·exact .inl (h.us y ((kM _ _).subset a))
  ·grind [RJ,aG9,fO]
 ·refine tY.2 ?_
  rcases(v y).1 a with a|a
  ·exact .inl (h.up y a)
  ·refine .inr ?_
   obtain⟨c,A,rfl⟩:=Ru.1 a;unfold fO;simp only[QX];exact .inl (RJ (by rw[d];simp[A]))
 ·rcases(l y).1 a with a|a
  ·exact h.sz y ((kM _ _).subset a)
  ·have:y∈eG m e.rests:=by rw[f];simp[a]
   rw[mV j]at this;obtain⟨r,_,rfl⟩:=Ru.1 this;exact aX5 (h.sz m (fC B))
theorem cP7{s:aJ}{n:Nat}(h:Ok s n)(v:Iv):Ok {s with scrap:=v} n:=⟨h.ss,h.sp,h.su,h.ls,h.lp,h.lu,h.us,h.up,h.sz⟩
theorem kE{s:aJ}{n:Int}{f:aN->aJ×Int}(a:(s.stocks.map sid).Pairwise (·<·)):
 ((¬∃m∈s.stocks,sid m=n)/\aD6 s n f=(inv0,8))\/∃m,(∃m∈s.stocks,sid m=n)/\s.stocks[bs sid s.stocks n]? =some m/\sid m=n/\aD6 s n f=f m:=by
 unfold aD6;by_cases h:∃m∈s.stocks,sid m=n
 ·obtain⟨m,b,c⟩:=aB8 a h;simp_all
 ·exact .inl ⟨h,Q5 h⟩
def zM(f:FuncId)(s:aJ)(e:Event)(q:aJ×Int):Prop:=(q.2=0/\SpB f [.box 100000 0,aS e] [stC s] (I 0) [stC q.1])\/(q.2≠0/\q.1=inv0/\SpB f [.box 100000 0,aS e] [stC s] (I q.2) [bots])
theorem eN8{s:aJ}{e:Event}{n:Nat}(h:Ok s n)(d:n<=1000000):zM 77 s e (relR s e)/\((relR s e).2=0->Ok (relR s e).1 n):=by
 unfold relR;rcases kE (n:=e.id) (f:=λm=>open Classical in if m.program=aI then(setK s (bs sid s.stocks e.id) (prog m e.text),0)else(inv0,27)) h.ss with⟨b,a⟩|⟨m,b,a,i,g⟩
 ·rw[a]
  exact⟨.inr ⟨Ai,rfl,bN7 s e (h.gd d) b⟩,λh=>Ah⟩
 ·rw[g]
  by_cases c:m.program=aI
  ·rw[QO c]
   exact⟨.inl ⟨rfl,bM2 s e m (h.gd d) b a c⟩,λ_=>bW3 h a _⟩
  ·rw[Q5 c]
   exact⟨.inr ⟨Ai,rfl,bM0 s e m (h.gd d) b a c⟩,λh=>Ah⟩
theorem eM9{s:aJ}{e:Event}{n:Nat}(h:Ok s n)(d:n<=1000000):zM 78 s e (bP3 s e)/\((bP3 s e).2=0->Ok (bP3 s e).1 n):=by
 unfold bP3;rcases kE (n:=e.id) (f:=λm=>open Classical in if m.program≠aI then(setK s (bs sid s.stocks e.id) (prog m aI),0)else(inv0,10)) h.ss with⟨b,a⟩|⟨m,b,a,i,g⟩
 ·rw[a]
  exact⟨.inr ⟨Ai,rfl,cA0 s e (h.gd d) b⟩,λh=>Ah⟩
 ·rw[g]
  by_cases c:m.program≠aI
  ·rw[QO c]
   exact⟨.inl ⟨rfl,bZ5 s e m (h.gd d) b a c⟩,λ_=>bW3 h a _⟩
  ·rw[Q5 c]
   exact⟨.inr ⟨Ai,rfl,cB5 s e m (h.gd d) b a c⟩,λh=>Ah⟩
theorem eN4{s:aJ}{e:Event}{n:Nat}(h:Ok s n)(d:n<=1000000):zM 82 s e (bQ0 s e)/\((bQ0 s e).2=0->Ok (bQ0 s e).1 n):=by
 unfold bQ0;rcases kE (n:=e.id) (f:=λm=>open Classical in if m.program=aI then(aX4 s (bs sid s.stocks e.id) m,0)else(inv0,27)) h.ss with⟨b,a⟩|⟨m,b,a,i,g⟩
 ·rw[a]
  exact⟨.inr ⟨Ai,rfl,bO2 s e (h.gd d) b⟩,λh=>Ah⟩
 ·rw[g]
  by_cases c:m.program=aI
  ·rw[QO c]
   exact⟨.inl ⟨rfl,bM1 s e m (h.gd d) b a c (h.sz m (fC a))⟩,λ_=>dD6 h _ m⟩
  ·rw[Q5 c]
   exact⟨.inr ⟨Ai,rfl,bO0 s e m (h.gd d) b a c⟩,λh=>Ah⟩
theorem aV1{s:aJ}{k st:Int}{o:ByteArray}{n:Nat}(h:Ok s n)(d:n<=1000000):(((nK s k st o).2=0/\SpB 126 [.box 100000 0,I k,I st,S o] [stC s] (I 0) [stC (nK s k st o).1])\/
 ((nK s k st o).2≠0/\(nK s k st o).1=inv0/\SpB 126 [.box 100000 0,I k,I st,S o] [stC s] (I (nK s k st o).2) [bots]))/\((nK s k st o).2=0->Ok (nK s k st o).1 n):=by
 by_cases a:∃m∈s.pieces,m.id=k
 ·obtain⟨m,b,f⟩:=aB8 h.sp a
  have e:nK s k st o=open Classical in if m.status=1 then(setP s (bs Piece.id s.pieces k) (marked m st o),0)else(inv0,10):=by
   unfold nK;rw[QO a,b]
  rw[e];by_cases c:m.status=1
  ·rw[QO c]
   exact⟨.inl ⟨rfl,cU5 s k st o m (h.gd d) a b c⟩,λ_=>dE1 h b st o⟩
  ·rw[Q5 c]
   exact⟨.inr ⟨(by decide:(10:Int)≠0),rfl,cR1 s k st o m (h.gd d) a b c⟩,λh=>Ah⟩
 ·unfold nK
  rw[Q5 a];exact⟨.inr ⟨(by decide:(8:Int)≠0),rfl,cX9 s k st o (h.gd d) a⟩,λh=>Ah⟩
theorem eR8{s:aJ}{e:Event}{n:Nat}(h:Ok s n)(f:n<=1000000):zM 80 s e (nK s e.id 2 aI)/\((nK s e.id 2 aI).2=0->Ok (nK s e.id 2 aI).1 n):=by
 obtain⟨c,d⟩:=aV1 (k:=e.id) (st:=2) (o:=aI) h f;refine⟨?_,d⟩;rcases c with⟨a,b⟩|⟨a,b,g⟩
 ·exact .inl ⟨a,aU1 s e (.inr ⟨_,rfl⟩) b⟩
 ·exact .inr ⟨a,b,aU1 s e (.inl rfl) g⟩
theorem eK3{s:aJ}{e:Event}{n:Nat}(h:Ok s n)(f:n<=1000000):zM 81 s e (nK s e.id 3 e.text)/\((nK s e.id 3 e.text).2=0->Ok (nK s e.id 3 e.text).1 n):=by
 obtain⟨c,d⟩:=aV1 (k:=e.id) (st:=3) (o:=e.text) h f;refine⟨?_,d⟩;rcases c with⟨a,b⟩|⟨a,b,g⟩
 ·exact .inl ⟨a,bS3 s e (.inr ⟨_,rfl⟩) b⟩
 ·exact .inr ⟨a,b,bS3 s e (.inl rfl) g⟩
theorem aY1{s:aJ}{x:aN}{n:Nat}(h:Ok s n)(d:n+1<=1000000)(b:eY x):(((nM s x).2=0/\SpB 117 [.box 100000 0,aQ x] [stC s] (I 0) [stC (nM s x).1])\/
 ((nM s x).2≠0/\(nM s x).1=inv0/\SpB 117 [.box 100000 0,aQ x] [stC s] (I (nM s x).2) [bots]))/\((nM s x).2=0->Ok (nM s x).1 (n+1)):=by
 unfold nM;have a:s.used.length+1<=1000000:=by have:=h.lu;omega
 by_cases c:sid x∈s.used
 ·rw[QO c]
  exact⟨.inr ⟨(by decide:(7:Int)≠0),rfl,bM7 s x (h.gd Aa) a c⟩,λh=>Ah⟩
 ·rw[Q5 c]
  exact⟨.inl ⟨rfl,bN1 s x (h.gd Aa) b a c⟩,λ_=>dD4 h b c⟩
theorem eY6{s:aJ}{e:Event}{n:Nat}(h:Ok s n)(g:n+1<=1000000)(f:lK e.sheet):zM 75 s e (nM s ⟨false,e.sheet,bar0,aI⟩)/\((nM s ⟨false,e.sheet,bar0,aI⟩).2=0->Ok (nM s ⟨false,e.sheet,bar0,aI⟩).1 (n+1)):=by
 obtain⟨c,d⟩:=aY1 (x:=⟨false,e.sheet,bar0,aI⟩) h g ⟨f,by simp[bar0]⟩
 refine⟨?_,d⟩;rcases c with⟨a,b⟩|⟨a,b,i⟩
 ·exact .inl ⟨a,aW2 s e (.inr ⟨_,rfl⟩) b⟩
 ·exact .inr ⟨a,b,aW2 s e (.inl rfl) i⟩
theorem eW9{s:aJ}{e:Event}{n:Nat}(h:Ok s n)(g:n+1<=1000000)(f:iY e):zM 76 s e (nM s ⟨true,dN,e.bar,aI⟩)/\((nM s ⟨true,dN,e.bar,aI⟩).2=0->Ok (nM s ⟨true,dN,e.bar,aI⟩).1 (n+1)):=by
 obtain⟨c,d⟩:=aY1 (x:=⟨true,dN,e.bar,aI⟩) h g ⟨xZ,f.br⟩;refine⟨?_,d⟩;rcases c with⟨a,b⟩|⟨a,b,i⟩
 ·exact .inl ⟨a,bJ1 s e (.inr ⟨_,rfl⟩) b⟩
 ·exact .inr ⟨a,b,bJ1 s e (.inl rfl) i⟩
theorem eP9{s:aJ}{e:Event}{n:Nat}(h:Ok s n)(u:n+more e<=1000000)(c:iY e):zM 79 s e (cutR s e)/\((cutR s e).2=0->Ok (cutR s e).1 (n+more e)):=by
 unfold more at u⊢;have j:=h.gd Aa;have k:s.used.length+(fO e).length<=1000000:=by rw[dG9];have:=h.lu;omega
 unfold cutR;by_cases b:dP s.used (fO e)
 ·rw[Q5 (SN.2 b)]
  rcases kE (n:=e.id) (f:=λm=>open Classical in if m.program=aI then(inv0,10)else
   if cZ m [] e.rests≠0 then(inv0,cZ m [] e.rests)else if nJ m e≠e.scrap then(inv0,29)else(cut5 s e (bs sid s.stocks e.id) m,0)) h.ss with⟨h1,h2⟩|⟨m,h1,h2,h3,h4⟩
  ·rw[h2]
   exact⟨.inr ⟨(by decide:(8:Int)≠0),rfl,xP s e j c k (.inr ⟨b, .inl ⟨h1,rfl,rfl⟩⟩) (.inl rfl)⟩,λh=>Ah⟩
  ·rw[h4]
   have d:=h.sz m (fC h2);by_cases g:m.program=aI
   ·rw[QO g]
    exact⟨.inr ⟨(by decide:(10:Int)≠0),rfl,xP s e j c k (.inr ⟨b, .inr ⟨m,h1,h2, .inl ⟨g,rfl,rfl⟩⟩⟩) (.inl rfl)⟩,λh=>Ah⟩
   ·rw[Q5 g]
    by_cases i:cZ m [] e.rests≠0
    ·rw[QO i]
     exact⟨.inr ⟨i,rfl,xP s e j c k (.inr ⟨b, .inr ⟨m,h1,h2, .inr ⟨g,d, .inl ⟨i,rfl,rfl⟩⟩⟩⟩) (.inl rfl)⟩,λh=>absurd h i⟩
    ·rw[Q5 i]
     have a:=SN.1 i
     have t:∀x∈eG m e.rests,eY x:=λx v=>by
      grind [mV,aX5]
     have l:(eG m e.rests).length<=1000000:=by rw[mV a,Rl];exact c.rs
     by_cases o:nJ m e≠e.scrap
     ·rw[QO o]
      exact⟨.inr ⟨(by decide:(29:Int)≠0),rfl,xP s e j c k (.inr ⟨b, .inr ⟨m,h1,h2, .inr ⟨g,d, .inr ⟨a,t,l, .inl ⟨o,rfl,rfl⟩⟩⟩⟩⟩) (.inl rfl)⟩,λh=>Ah⟩
     ·rw[Q5 o]
      refine⟨.inl ⟨rfl,xP s e j c k (.inr ⟨b, .inr ⟨m,h1,h2, .inr ⟨g,d, .inr ⟨a,t,l, .inr ⟨SN.1 o,λD R r=>?_,λD R r=>?_,rfl,rfl⟩⟩⟩⟩⟩) (.inr ⟨_,rfl⟩)⟩,λ_=>?_⟩
      ·have q:=(aZ7 (C:=[]) (Q:=e.cuts) h h2 b a r rfl).gd Aa
       exact⟨q.ls,q.lp,q.lu,q.ss,q.sp,q.su⟩
      ·exact(aZ7 (R:=[]) h h2 b a (Rn _).symm r).gd Aa
      ·exact cP7 ((aZ7 (R:=[]) (Q:=[]) h h2 b a (Rn _).symm (Rn _).symm).mono Aa) _
 ·rw[QO b]
  exact⟨.inr ⟨(by decide:(7:Int)≠0),rfl,xP s e j c k (.inl ⟨b,rfl,rfl⟩) (.inl rfl)⟩,λh=>Ah⟩
theorem sG{s:aJ}{e:Event}{f:FuncId}{q:aJ×Int}(h:Gd s)(c:iY e)(d:iD e)(g:jG (.int .i64 e.kind) uP=some (.fn f []))(j:zM f s e q):
 Sp 39 [invV s,aS e] (.tup [invV q.1,I q.2]):=by
 refine zsp Tryz.func39 ?_;rcases j with⟨a,b⟩|⟨a,b,i⟩
 ·rw[a]
  exact dL3 s q.1 e h c d g b
 ·rw[b]
  exact dR7 s e h c d g a i
theorem kG{s:aJ}{e:Event}{n:Nat}(h:Ok s n)(a:n+more e<=1000000)(he:iY e):Sp 39 [invV s,aS e] (.tup [invV (appR s e).1,I (appR s e).2])/\((appR s e).2=0->Ok (appR s e).1 (n+more e)):=by
 unfold appR;have b:1<=more e:=He;by_cases hf:iD e
 ·rw[QO hf]
  have hk:e.kind=1\/e.kind=2\/e.kind=3\/e.kind=4\/e.kind=5\/e.kind=6\/e.kind=7\/e.kind=8:=by have:=hf.2.2.2.2.2.2.2.2;omega
  unfold bP2;have hs:=h.gd Aa;rcases hk with hk|hk|hk|hk|hk|hk|hk|hk
  ·simp only[hk,reduceIte,reduceCtorEq,Int.reduceEq]
   obtain⟨q1,q2⟩:=eY6 (e:=e) h Aa (aX9 (hf.2.2.2.1 hk).2);exact Oq
  ·simp only[hk,reduceIte,reduceCtorEq,Int.reduceEq]
   obtain⟨q1,q2⟩:=eW9 (e:=e) h Aa he;exact Oq
  ·simp only[hk,reduceIte,reduceCtorEq,Int.reduceEq]
   obtain⟨q1,q2⟩:=eN8 (e:=e) h Aa;exact Oq
  ·simp only[hk,reduceIte,reduceCtorEq,Int.reduceEq]
   obtain⟨q1,q2⟩:=eM9 (e:=e) h Aa;exact Oq
  ·simp only[hk,reduceIte,reduceCtorEq,Int.reduceEq]
   obtain⟨q1,q2⟩:=eP9 (e:=e) h a he;exact⟨sG hs he hf Dq q1,q2⟩
  ·simp only[hk,reduceIte,reduceCtorEq,Int.reduceEq]
   obtain⟨q1,q2⟩:=eR8 (e:=e) h Aa;exact Oq
  ·simp only[hk,reduceIte,reduceCtorEq,Int.reduceEq]
   obtain⟨q1,q2⟩:=eK3 (e:=e) h Aa;exact Oq
  ·simp only[hk,reduceIte,reduceCtorEq,Int.reduceEq]
   obtain⟨q1,q2⟩:=eN4 (e:=e) h Aa;exact Oq
 ·rw[Q5 hf]
  exact⟨zsp Tryz.func39 (dM0 s e he hf),λh=>Ah⟩
inductive Step(s:aJ)(e:Event):aJ->Prop
 |recv (x:aN) (hx:(e.kind=1/\x=⟨false,e.sheet,bar0,aI⟩/\dB e.sheet)\/(e.kind=2/\x=⟨true,dN,e.bar,aI⟩/\fM e.bar)) (hn:sid x∉s.used):Step s e (aX7 s x)
 |setK (k:Nat) (m:aN) (p:ByteArray) (hk:e.kind=3\/e.kind=4) (hm:s.stocks[k]? =some m) (hid:sid m=e.id):Step s e (setK s k (prog m p))
 |disc (k:Nat) (m:aN) (hk:e.kind=8) (hm:s.stocks[k]? =some m) (hid:sid m=e.id):Step s e (aX4 s k m)
 |setP (k:Nat) (m:Piece) (st:Int) (o:ByteArray) (hk:(e.kind=6/\st=2/\o=aI)\/(e.kind=7/\st=3/\o=e.text)) (hm:s.pieces[k]? =some m) (hs:m.status=1) (hid:m.id=e.id):Step s e (setP s k (marked m st o))
 |cut (k:Nat) (m:aN) (hk:e.kind=5) (hf:nY e) (hfr:dP s.used (fO e)) (hm:s.stocks[k]? =some m) (hid:sid m=e.id) (hp:m.program≠aI) (hr:cZ m [] e.rests=0) (hl:nJ m e=e.scrap):Step s e (cut5 s e k m)
theorem bE7{s:aJ}{k st:Int}{o:ByteArray}{n:Nat}(h:Ok s n)(a:(nK s k st o).2=0):∃m,s.pieces[bs Piece.id s.pieces k]? =some m/\m.status=1/\m.id=k/\(nK s k st o).1=setP s (bs Piece.id s.pieces k) (marked m st o):=by
 unfold nK at a⊢;by_cases b:∃m∈s.pieces,m.id=k
 ·obtain⟨m,d,e⟩:=aB8 h.sp b
  rw[QO b,d]at a⊢;by_cases c:m.status=1
  ·exact⟨m,rfl,c,e,by show(ite _ _ _:aJ×Int).1=_;rw[QO c]⟩
  ·have a:(ite (m.status=1) (setP s (bs Piece.id s.pieces k) (marked m st o),(0:Int)) (inv0,10)).2=0:=a
   rw[Q5 c]at a;cases a
 ·rw[Q5 b]at a
  cases a
theorem aZ6{s:aJ}{e:Event}{n:Nat}(h:Ok s n)(a:(appR s e).2=0):iD e/\Step s e (appR s e).1:=by
 unfold appR at a⊢;by_cases k:iD e;rotate_left
 ·rw[Q5 k]at a;cases a
 refine⟨k,?_⟩;rw[QO k]at a⊢;unfold bP2 at a⊢;have b:e.kind=1\/e.kind=2\/e.kind=3\/e.kind=4\/e.kind=5\/e.kind=6\/e.kind=7\/e.kind=8:=by have:=k.2.2.2.2.2.2.2.2;omega
 rcases b with b|b|b|b|b|b|b|b
 all_goals simp only[b,reduceIte,reduceCtorEq,Int.reduceEq]at a⊢
 ·unfold nM at a⊢
  split at a
  ·cases a
  ·rename_i c
   rw[Q5 c];exact .recv _ (.inl ⟨b,rfl,(k.2.2.2.1 b).2⟩) c
 ·unfold nM at a⊢
  split at a
  ·cases a
  ·rename_i c
   rw[Q5 c];exact .recv _ (.inr ⟨b,rfl,(k.2.2.2.2.1 b).2⟩) c
 ·unfold relR at a⊢
  rcases kE (n:=e.id) (f:=λm=>open Classical in if m.program=aI then(Led.setK s (bs sid s.stocks e.id) (prog m e.text),0)else(inv0,27)) h.ss with⟨g,d⟩|⟨m,g,d,i,j⟩
  ·rw[d]at a;cases a
  ·rw[j]at a⊢
   by_cases c:m.program=aI
   ·rw[QO c];exact .setK _ m _ (.inl b) d i
   ·rw[Q5 c]at a;cases a
 ·unfold bP3 at a⊢
  rcases kE (n:=e.id) (f:=λm=>open Classical in if m.program≠aI then(Led.setK s (bs sid s.stocks e.id) (prog m aI),0)else(inv0,10)) h.ss with⟨g,d⟩|⟨m,g,d,i,j⟩
  ·rw[d]at a;cases a
  ·rw[j]at a⊢
   by_cases c:m.program≠aI
   ·rw[QO c];exact .setK _ m _ (.inr b) d i
   ·rw[Q5 c]at a;cases a
 ·unfold cutR at a⊢
  by_cases o:dP s.used (fO e);rotate_left
  ·rw[QO o]at a;cases a
  rw[Q5 (SN.2 o)]at a⊢
  rcases kE (n:=e.id) (f:=λm=>open Classical in if m.program=aI then(inv0,10)else
   if cZ m [] e.rests≠0 then(inv0,cZ m [] e.rests)else if nJ m e≠e.scrap then(inv0,29)else(cut5 s e (bs sid s.stocks e.id) m,0)) h.ss with⟨g,d⟩|⟨m,g,d,i,j⟩
  ·rw[d]at a;cases a
  ·rw[j]at a⊢
   by_cases p:m.program=aI
   ·rw[QO p]at a;cases a
   ·rw[Q5 p]at a⊢
    by_cases l:cZ m [] e.rests≠0
    ·rw[QO l]at a;exact absurd a l
    ·rw[Q5 l]at a⊢
     by_cases q:nJ m e≠e.scrap
     ·rw[QO q]at a;cases a
     ·rw[Q5 q]
      exact .cut _ m b (k.2.2.2.2.2.2.2.1 b) o d i p (SN.1 l) (SN.1 q)
 ·obtain⟨m,g,d,i,j⟩:=bE7 h a
  rw[j];exact .setP _ m _ _ (.inl ⟨b,rfl,rfl⟩) g d i
 ·obtain⟨m,g,d,i,j⟩:=bE7 h a
  rw[j];exact .setP _ m _ _ (.inr ⟨b,rfl,rfl⟩) g d i
 ·unfold bQ0 at a⊢
  rcases kE (n:=e.id) (f:=λm=>open Classical in if m.program=aI then(aX4 s (bs sid s.stocks e.id) m,0)else(inv0,27)) h.ss with⟨g,d⟩|⟨m,g,d,i,j⟩
  ·rw[d]at a;cases a
  ·rw[j]at a⊢
   by_cases c:m.program=aI
   ·rw[QO c];exact .disc _ m b d i
   ·rw[Q5 c]at a;cases a
theorem dC2(n:Int):∃k:Int,W n=n+k*18446744073709551616:=by
 simp[IntKind.wrap,IntKind.signed,IntKind.bits];split;all_goals first|exact⟨-(n/18446744073709551616),Aa⟩|exact⟨-(n/18446744073709551616)-1,Aa⟩
theorem fC5{a b:Int}(k:Int)(h:a=b+k*18446744073709551616):W a=W b:=by
 obtain⟨p,e⟩:=dC2 a;obtain⟨q,f⟩:=dC2 b;have c:=nT a;have d:=nT b
 omega
theorem bF8(a b:Int):W (W a+b)=W (a+b):=by
 obtain⟨p,c⟩:=dC2 a;exact fC5 p Aa
def cls(b:Bool)(r:Iv):Int:=if b then r.2 else r.1
def totS(b:Bool)(l:List aN):Int:=(l.map λx=>if x.isBar=b then gG x else 0).sum
def totP(b:Bool)(l:List Piece):Int:=(l.map λx=>if x.isBar=b then x.size else 0).sum
def inR(r:Iv):Prop:=∀b,W (cls b r)=cls b r
def R6(n:Int):Prop:= -9223372036854775808<=n/\n<=9223372036854775807
theorem cE6(o:Rg):0<=uK ⟨o,[]⟩:=by
 unfold uK;split
 ·rename_i h
  have a:dM o:=h.2.1 o (by simp[rings])
  have b:0<zY o:=a.2.2.2.1;have e:nG o=zY o:=QO a
  show 0<=W (W (2*nG o)-nG o);rw[e,Int.sub_eq_add_neg,bF8]
  have d: -9223372036854775808<=zY o/\zY o<=9223372036854775807:=by
   unfold zY
   cases c:o.length with
   |zero=>have:=a.1;omega
   |succ n=>rw[bC2];exact nT _
  rw[w_in Aa];omega
 ·exact U2 0
theorem cY9(b:Bx)(v:Vc):(jT b v).holes=[] :=by
 have key:(qO (sV (vsub b.1 v) (vsub b.2 v))).holes=[] :=by
  have a:(sV (vsub b.1 v) (vsub b.2 v)).holes=[] :=by
   unfold sV;split<;>rfl
  by_cases h:bG (sV (vsub b.1 v) (vsub b.2 v))
  ·rw[aN9 h]
   show wW _=[];unfold wW;rw[a];rfl
  ·rw[bH5 h];rfl
 exact key
theorem yP{x:aN}{r:Rest}(h:iG x r=0)(f:x.isBar=true->R6 x.bar.length):0<=gG (dZ x r)/\(dZ x r).isBar=x.isBar:=by
 unfold dZ;by_cases a:x.isBar=false
 ·rw[QO a]
  unfold iG at h;rw[QO a]at h;by_cases c:r.lo≠0\/r.hi≠0
  ·rw[QO c]at h;cases h
  ·rw[Q5 c]at h⊢
   refine⟨?_,a.symm⟩;show 0<=uK (remS x.sheet r.box r.id).shape;unfold remS;rw[QO h];show 0<=uK (jT r.box r.box.1)
   have e:jT r.box r.box.1=⟨(jT r.box r.box.1).outer,[]⟩:=by
    have:=cY9 r.box r.box.1;cases d:jT r.box r.box.1<;>simp_all
   rw[e];exact cE6 _
 ·rw[Q5 a,QO h]
  have b:x.isBar=true:=by cases d:x.isBar with
   |true=>rfl
   |false=>exact absurd d a
  refine⟨?_,b.symm⟩;show 0<=W (r.hi-r.lo);unfold iG at h;rw[Q5 a]at h;grind [R6,w_in]
structure Bal(s:aJ):Prop where
 sc:inR s.scrap
 eq:∀b,W (cls b s.scrap+totS b s.stocks+totP b s.pieces)=cls b s.received
 ps:∀p∈s.pieces,1<=p.size/\p.size<=9223372036854775807
 br:∀x∈s.stocks,R6 (gG x)
theorem aG4(s:aJ)(e:Event)(k:Nat)(m:aN):(cut5 s e k m).pieces=(e.cuts.map (fZ e m)).foldl (putK Piece.id) s.pieces:=by
 show e.cuts.foldl (λp x=>putP p (fZ e m x)) s.pieces=_;rw[List.foldl_map];rfl
theorem aF7(s:aJ)(e:Event)(k:Nat)(m:aN):(cut5 s e k m).stocks=(eG m e.rests).foldl (putK sid) (nN s.stocks k):=rfl
theorem yU{m:aN}{l:List Rest}(a:cZ m [] l=0){x:aN}(b:x∈eG m l):∃r∈l,x=dZ m r/\iG m r=0:=by
 grind [mV,tZ]
structure Ids(s:aJ):Prop where
 dj:∀x∈s.stocks,∀p∈s.pieces,sid x≠p.id
 par:∀p∈s.pieces,p.parent∈s.used
 rng:∀n∈s.used,nC n
theorem dP0{s:aJ}{e:Event}(a:iD e)(b:e.kind=2):appR s e=nM s ⟨true,dN,e.bar,aI⟩:=by
 simp_all [QO,Q5,appR,bP2]
theorem dW9{s:aJ}{x:aN}(h:sid x∉s.used):nM s x=(aX7 s x,0):=by unfold nM;rw[Q5 h]
theorem bT0{s:aJ}{n:Int}{m:aN}{f:aN->aJ×Int}(a:∃m∈s.stocks,sid m=n)(b:s.stocks[bs sid s.stocks n]? =some m):aD6 s n f=f m:=by unfold aD6;rw[QO a,b]
theorem dR0{s:aJ}{n:Int}{f:aN->aJ×Int}(a:¬∃m∈s.stocks,sid m=n):aD6 s n f=(inv0,8):=by unfold aD6;rw[Q5 a]
theorem eM5{s:aJ}{e:Event}{m:aN}(c:iD e)(d:e.kind=3)(a:∃m∈s.stocks,sid m=e.id)(b:s.stocks[bs sid s.stocks e.id]? =some m)(f:m.program=aI):
 appR s e=(setK s (bs sid s.stocks e.id) (prog m e.text),0):=by
 simp_all [QO,Q5,bT0,appR,bP2,relR]
theorem aY8{s:aJ}{e:Event}(a:iD e)(b:e.kind=5):appR s e=cutR s e:=by
 unfold appR bP2;simp_all
theorem dF5{s:aJ}{e:Event}(h:¬dP s.used (fO e)):cutR s e=(inv0,7):=by unfold cutR;rw[QO h]
theorem cF5{s:aJ}{e:Event}(h:dP s.used (fO e))(a:¬∃m∈s.stocks,sid m=e.id):cutR s e=(inv0,8):=by unfold cutR;rw[Q5 (SN.2 h),dR0 a]
theorem bG4{s:aJ}{e:Event}{m:aN}(h:dP s.used (fO e))(a:∃m∈s.stocks,sid m=e.id)(b:s.stocks[bs sid s.stocks e.id]? =some m):
 cutR s e=open Classical in if m.program=aI then(inv0,10)else if cZ m [] e.rests≠0 then(inv0,cZ m [] e.rests)else if nJ m e≠e.scrap then(inv0,29)else(cut5 s e (bs sid s.stocks e.id) m,0):=by
 simp_all [Q5,bT0,cutR]
def kV(e:Event)(c:Int):Event:={e with scrap:=c}
theorem refused{s:aJ}{e:Event}{n:Nat}{c:Int}(h:Ok s n)(a:(appR s e).2=0)(o:e.kind=5)(r:c≠e.scrap):
 appR s (kV e c)=(inv0,29)\/appR s (kV e c)=(inv0,1):=by
 by_cases l:iD (kV e c);rotate_left
 ·right
  unfold appR;rw[Q5 l]
 left;have g:=(aZ6 h a).1;rw[aY8 g o]at a;rw[aY8 l o];by_cases b:dP s.used (fO e);rotate_left
 ·rw[dF5 b]at a;cases a
 by_cases d:∃m∈s.stocks,sid m=e.id;rotate_left
 ·rw[cF5 b d]at a;cases a
 obtain⟨m,k,u⟩:=aB8 h.ss d;rw[bG4 b d k]at a;rw[bG4 (e:=kV e c) (m:=m) b d k];by_cases i:m.program=aI
 ·rw[QO i]at a;cases a
 rw[Q5 i]at a⊢;have q:(kV e c).rests=e.rests:=rfl;rw[q];by_cases f:cZ m [] e.rests≠0
 ·rw[QO f]at a;exact absurd a f
 rw[Q5 f]at a⊢;by_cases j:nJ m e≠e.scrap
 ·rw[QO j]at a;cases a
 have p:nJ m (kV e c)≠(kV e c).scrap:=λt=>r (t.symm.trans (SN.1 j));rw[QO p]
def nD(b:Bar):Event:=⟨2,0,aI,dN,b,[],[],0⟩
theorem no0:pJ dN:=⟨rfl,rfl,rfl,rfl,rfl,rfl,rfl⟩
theorem nob0:yT bar0:=⟨rfl,rfl,rfl,rfl,rfl⟩
theorem bM8{b:Bar}(h:fM b):iD (nD b):=
 ⟨λ_=>⟨rfl,rfl⟩,λq=>absurd (.inr rfl) q,λ_=>⟨rfl,rfl,rfl⟩,λq=>Hy,λ_=>⟨no0,h⟩,λq=>En,λq=>FK,λq=>Hy,show(1:Int)<=2 from Ai,show(2:Int)<=8 from Ai⟩
def uX(n:Int)(t:ByteArray):Event:=⟨3,n,t,dN,bar0,[],[],0⟩
theorem bY3{n:Int}{t:ByteArray}(h:iM t):iD (uX n t):=
 ⟨λq=>En,λ_=>⟨no0,nob0⟩,λ_=>⟨rfl,rfl,rfl⟩,λq=>Hy,λq=>Hy,λ_=>h,λq=>FK,λq=>Hy,show(1:Int)<=3 from Ai,show(3:Int)<=8 from Ai⟩
def xC(n:Int)(c:List Made)(r:List Rest)(z:Int):Event:=⟨5,n,aI,dN,bar0,c,r,z⟩
theorem aK5{n:Int}{c:List Made}{r:List Rest}{z:Int}(a:∀x∈c,bU7 x)(b:∀x∈r,bR4 x)(d:c.length<=60)(e:r.length<=6)(f:0<=z):iD (xC n c r z):=
 ⟨λq=>En,λ_=>⟨no0,nob0⟩,λq=>absurd rfl q,λq=>Hy,λq=>Hy,λq=>En,λq=>FK,λ_=>⟨a,b,d,e,f,rfl⟩,show(1:Int)<=5 from Ai,show(5:Int)<=8 from Ai⟩
def chB(c:UInt8):ByteArray:=⟨#[c]⟩
theorem yM{c:UInt8}(h:97<=c.toNat/\c.toNat<=122):iM (chB c):=by
 have a:byteAt (chB c) 0=(c.toNat:Int):=by unfold byteAt;rfl
 refine⟨QV 1,show(1:Nat)<=16 from Ai,?_,λi hi=>?_⟩
 ·rw[a];exact .inl Aa
 ·have b:(chB c).size=1:=rfl
  have:i=0:=Aa;subst this;rw[a];exact .inl (.inl Aa)
theorem eR5{s f:aJ}{e:Event}{n:Nat}(h:Ok s n)(j:Step s e f):Ok f (n+more e):=by
 have b:1<=more e:=He
 cases j with
 |recv x q g=>
  refine(dD4 h ?_ g).mono Aa;rcases q with⟨_,rfl,h⟩|⟨_,rfl,h⟩
  ·exact⟨aX9 h,RI _⟩
  ·exact⟨xZ,Ro h.2.2.2.1 Ai⟩
 |setK k m p d b a=>exact(bW3 h b p).mono Aa
 |disc k m d b a=>exact(dD6 h k m).mono Aa
 |setP k m st o d b l a=>exact(dE1 h b st o).mono Aa
 |cut k m d r c b a u i t=>exact cP7 ((aZ7 (R:=[]) (Q:=[]) h b c i (Rn _).symm (Rn _).symm).mono He) _
structure Good(s:aJ)(n:Nat):Prop where
 ok:Ok s n
 bal:Bal s
 ids:Ids s
theorem Good.mono{s:aJ}{n m:Nat}(h:Good s n)(a:n<=m):Good s m:=⟨h.ok.mono a,h.bal,h.ids⟩
def kL(s:aJ)(i:Int):List Event->aJ×Int×Int
 | [] =>(s,i,0)
 |x::l=>if(appR s x).2=0 then kL (appR s x).1 (i+1) l else(s,i,(appR s x).2)
def barS(b:Bar)(p:ByteArray):aN:=⟨true,dN,b,p⟩
def st1(b:Bar):aJ:=aX7 inv0 (barS b aI)
def st2(b:Bar)(p:ByteArray):aJ:=⟨[barS b p],[],[b.id],(0,W (0+b.length)),(0,0)⟩
theorem dI8{b:Bar}{p:ByteArray}{q:List Piece}{u:List Int}{r c:Iv}:(∃m∈(aJ.mk [barS b p] q u r c).stocks,sid m=b.id)/\(aJ.mk [barS b p] q u r c).stocks[bs sid [barS b p] b.id]? =some (barS b p)/\bs sid [barS b p] b.id=0:=by
 have a:bs sid [barS b p] b.id=0:=by
  unfold bs;have:decide (sid (barS b p)<b.id)=false:=decide_eq_false (by show¬b.id<b.id;omega)
  simp[List.takeWhile,this]
 exact⟨⟨barS b p,Af,rfl⟩,by rw[a];rfl,a⟩
theorem dH7{b:Bar}{p:ByteArray}{x:Event}(k:fM b)(j:iM p)(t:iD x)(l:x.kind=5)(a:x.id=b.id)(d:dP [b.id] (fO x))(o:cZ (barS b p) [] x.rests=0)(n:nJ (barS b p) x=x.scrap):
 kL inv0 0 [nD b,uX b.id p,x] =(cut5 (st2 b p) x 0 (barS b p),3,0)/\appR inv0 (nD b)=(st1 b,0)/\appR (st1 b) (uX b.id p)=(st2 b p,0)/\appR (st2 b p) x=(cut5 (st2 b p) x 0 (barS b p),0):=by
 have v:appR inv0 (nD b)=(st1 b,0):=by
  rw[dP0 (bM8 k) rfl];exact dW9 (by simp[inv0])
 have w:appR (st1 b) (uX b.id p)=(st2 b p,0):=by
  obtain⟨f,g,i⟩:=dI8 (b:=b) (p:=aI) (q:=[]) (u:=[b.id]) (r:=(0,W (0+b.length))) (c:=(0,0));rw[eM5 (s:=st1 b) (bY3 j) rfl (m:=barS b aI) f g rfl];show(setK (st1 b) (bs sid [barS b aI] b.id) _,(0:Int))=_;rw[i];rfl
 have e:p≠aI:=by
  rintro rfl;exact absurd j.1 Ai
 have y:appR (st2 b p) x=(cut5 (st2 b p) x 0 (barS b p),0):=by
  obtain⟨f,g,i⟩:=dI8 (b:=b) (p:=p) (q:=[]) (u:=[b.id]) (r:=(0,W (0+b.length))) (c:=(0,0));rw[aY8 t l,bG4 (m:=barS b p) d (by rw[a];exact f) (by rw[a];exact g),Q5 (show¬(barS b p).program=aI from e),Q5 (SN.2 o),Q5 (SN.2 n),a]
  show(cut5 (st2 b p) x (bs sid [barS b p] b.id) _,(0:Int))=_;rw[i]
 simp_all [QO,kL]
theorem aC6:∀(l:List Int) (n:Int),R6 n->n≠9223372036854775807->(∀c∈l,0<=c)->l.sum<=n->subL n l=n-l.sum
 | [],n,_,_,_,_=>by show n=n-0;omega
 |c::l,n,b,o,a,d=>by
  have i:=a c Af
  have m:0<=l.sum:=by
   have key:∀(l:List Int),(∀x∈l,0<=x)->0<=l.sum:=by
    intro l
    induction l with
    |nil=>simp
    |cons x l g=>
     intro h;have j:=g (λy f=>h y (by simp[f]))
     have k:=h x Af;rw[TF];omega
   exact key l (λx hx=>a x BI)
  rw[TF]at d;unfold R6 at b
  have e:sub1 n c=n-c:=by
   grind [lH,Int.min_eq_left,sub1,w_in]
  show subL (sub1 n c) l=_;rw[e,aC6 l (n-c) (by unfold R6;omega) Aa (λx hx=>a x BI) Aa,TF]
  omega
def moreL(l:List Event):Nat:=(l.map more).sum
abbrev Len6{α:Type}(l:List α):Prop:=l.length<=9223372036854775807
def ownC(x:Event)(c r:V):List V:=[I x.kind,I x.id,S x.text,I x.sheet.id,S x.sheet.grade,S x.sheet.heat,I x.sheet.grain,rgV x.sheet.shape.outer, .sl (x.sheet.shape.holes.map rgV), .sl (x.sheet.defects.map shV),
 I x.bar.id,S x.bar.grade,S x.bar.heat,I x.bar.length, .sl (x.bar.defects.map ivV),c,r,I x.scrap]
abbrev zQ:List V:=[I 0,I 0,S aI,I 0,S aI,S aI,I 0,nilV,nilV,nilV,I 0,S aI,S aI,I 0,nilV,nilV,nilV,I 0]
def eI9(x:Event):List Made->Int->St
 | [],n=>mkSt [(1, .box 1 0),(2, .box 2 0),(3, .box 3 0),(4,I n)] [(1,iJ x),(2,zQ),(3,ownC x nilV nilV)] []
 |c::C,n=>mkSt [(1, .box 1 0),(2, .box 2 0),(3, .box 3 0),(4,I n)] [(1,iJ x),(2,zQ),(3,ownC x (.arr 34 C.length) nilV)] [(34,⟨C.length, .own,95,(c::C).map dK⟩)]
def bO5(x:Event):List Made->List Rest->Int->St
 | [],[],n=>mkSt [(1, .box 1 0),(2, .box 2 0),(3, .box 3 0),(5,I n)] [(1,iJ x),(2,zQ),(3,ownC x nilV nilV)] []
 |c::C,[],n=>mkSt [(1, .box 1 0),(2, .box 2 0),(3, .box 3 0),(5,I n)] [(1,iJ x),(2,zQ),(3,ownC x (.arr 34 C.length) nilV)] [(34,⟨C.length, .own,95,(c::C).map dK⟩)]
 | [],r::R,n=>mkSt [(1, .box 1 0),(2, .box 2 0),(3, .box 3 0),(5,I n)] [(1,iJ x),(2,zQ),(3,ownC x nilV (.arr 51 R.length))] [(51,⟨R.length, .own,101,(r::R).map bY⟩)]
 |c::C,r::R,n=>mkSt [(1, .box 1 0),(2, .box 2 0),(3, .box 3 0),(5,I n)] [(1,iJ x),(2,zQ),(3,ownC x (.arr 34 C.length) (.arr 51 R.length))] [(34,⟨C.length, .own,95,(c::C).map dK⟩),(51,⟨R.length, .own,101,(r::R).map bY⟩)]
theorem bB8(x:Event)(m:x.cuts.length<=1000000)(s:x.rests.length<=1000000):Sp 41 [aS x] (aS x):=by
 refine zsp Tryz.func41 ?_;have o:(x.cuts.map dK).length=x.cuts.length:=Af;have q:(x.rests.map bY).length=x.rests.length:=Af
 repeat' ((conv=>whnf);first|refine zS ?_|fail)
 refine aU (A:=List Made) (B:=List Made) (λD R=>eI9 x D D.length) (λD R=>x.cuts=D++R) (λD R=>R.length) [] x.cuts ?_ rfl (λD R hp=>?_)
 ·show Le T _ (eI9 x [] 0)
  exact zj
 cases R with
 |cons c R=>
  have i:=aO hp;have n:((D++[c]).length:Int)=(D.length:Int)+1:=Af
  cases D with
  |nil=>
   have h00:([] :List Made).length=0:=rfl
   repeat' ((conv=>whnf);first|omega|refine gX (Q9 rfl) (dA rfl) (show(1:Nat)<=1000000000 from Ai) ?_|refine zS ?_|refine zT ?_ ?_<;>intro _|fail)
   all_goals conv=>whnf
   refine⟨([c],R),?_,hp,Af⟩;show Le T _ (eI9 x [c] 1);exact zj
  |cons d D=>
   have h00:(d::D).length=D.length+1:=rfl
   repeat' ((conv=>whnf);first|omega|refine mX (l:=d::D) rfl rfl (.inl rfl) rfl (Q9 rfl) rfl Aa ?_|refine zS ?_|refine zT ?_ ?_<;>intro _|fail)
   all_goals conv=>whnf
   refine⟨(d::(D++[c]),R),?_,Ae,Af⟩;have b:(d::(D++[c])).map dK=(d::D).map dK++[dK c] :=Af;have f:(D++[c]).length=D.length+1:=Af
   show Le T _ (mkSt [(1, .box 1 0),(2, .box 2 0),(3, .box 3 0),(4,I ((d::(D++[c])).length:Nat))] [(1,iJ x),(2,zQ),(3,ownC x (.arr 34 (D++[c]).length) nilV)] [(34,⟨(D++[c]).length, .own,95,(d::(D++[c])).map dK⟩)]);rw[b,f];have g:((d::(D++[c])).length:Int)=((d::D).length:Int)+1:=Af;rw[g];exact zj
 |nil=>
  have i:x.cuts.length=D.length:=Ae;have e:x.cuts=D:=Ae
  cases D with
  |nil=>
  ·have k:(([] :List Made)).length<=1000000:=by rw[<-e];exact m
   repeat' ((conv=>whnf);first|omega|refine zS ?_|refine zT ?_ ?_<;>intro _|fail)
   refine aU (A:=List Rest) (B:=List Rest) (λD R=>bO5 x [] D D.length) (λD R=>x.rests=D++R) (λD R=>R.length) [] x.rests ?_ rfl (λE R hp=>?_)
   ·show Le T _ (bO5 x [] [] 0)
    exact zj
   cases R with
   |cons r R=>
    have a:=aO hp
    cases E with
    |nil=>
     have h00:([] :List Rest).length=0:=rfl
     repeat' ((conv=>whnf);first|omega|refine gX (Q9 rfl) (dA rfl) (show(1:Nat)<=1000000000 from Ai) ?_|refine zS ?_|refine zT ?_ ?_<;>intro _|fail)
     all_goals conv=>whnf
     refine⟨([r],R),?_,hp,Af⟩;show Le T _ (bO5 x [] [r] 1);exact zj
    |cons d E=>
     have h00:(d::E).length=E.length+1:=rfl
     repeat' ((conv=>whnf);first|omega|refine mX (l:=d::E) rfl rfl (.inl rfl) rfl (Q9 rfl) rfl Aa ?_|refine zS ?_|refine zT ?_ ?_<;>intro _|fail)
     all_goals conv=>whnf
     refine⟨(d::(E++[r]),R),?_,Ae,Af⟩;have b:(d::(E++[r])).map bY=(d::E).map bY++[bY r] :=Af;have f:(E++[r]).length=E.length+1:=Af
     have g:((d::(E++[r])).length:Int)=((d::E).length:Int)+1:=Af;show Le T _ (mkSt [(1, .box 1 0),(2, .box 2 0),(3, .box 3 0),(5,I ((d::(E++[r])).length:Nat))] [(1,iJ x),(2,zQ),(3,ownC x nilV (.arr 51 (E++[r]).length))] ((51,⟨(E++[r]).length, .own,101,(d::(E++[r])).map bY⟩):: []));rw[b,f,g];exact zj
   |nil=>
    have a:x.rests.length=E.length:=Ae;have j:x.rests=E:=Ae
    have ev:aS x= .agg (ownC x (.sl (([] :List Made).map dK)) (.sl (E.map bY))):=by rw[<-e,<-j];rfl
    exact OX
  |cons c C=>
  ·have k:(((c::C):List Made)).length<=1000000:=by rw[<-e];exact m
   repeat' ((conv=>whnf);first|omega|refine zS ?_|refine zT ?_ ?_<;>intro _|fail)
   refine aU (A:=List Rest) (B:=List Rest) (λD R=>bO5 x (c::C) D D.length) (λD R=>x.rests=D++R) (λD R=>R.length) [] x.rests ?_ rfl (λE R hp=>?_)
   ·show Le T _ (bO5 x (c::C) [] 0)
    exact zj
   cases R with
   |cons r R=>
    have a:=aO hp
    cases E with
    |nil=>
     have h00:([] :List Rest).length=0:=rfl
     repeat' ((conv=>whnf);first|omega|refine gX (Q9 rfl) (dA rfl) (show(1:Nat)<=1000000000 from Ai) ?_|refine zS ?_|refine zT ?_ ?_<;>intro _|fail)
     all_goals conv=>whnf
     refine⟨([r],R),?_,hp,Af⟩;show Le T _ (bO5 x (c::C) [r] 1);exact zj
    |cons d E=>
     have h00:(d::E).length=E.length+1:=rfl
     repeat' ((conv=>whnf);first|omega|refine mX (l:=d::E) rfl rfl (.inl rfl) rfl (Q9 rfl) rfl Aa ?_|refine zS ?_|refine zT ?_ ?_<;>intro _|fail)
     all_goals conv=>whnf
     refine⟨(d::(E++[r]),R),?_,Ae,Af⟩;have b:(d::(E++[r])).map bY=(d::E).map bY++[bY r] :=Af;have f:(E++[r]).length=E.length+1:=Af
     have g:((d::(E++[r])).length:Int)=((d::E).length:Int)+1:=Af;show Le T _ (mkSt [(1, .box 1 0),(2, .box 2 0),(3, .box 3 0),(5,I ((d::(E++[r])).length:Nat))] [(1,iJ x),(2,zQ),(3,ownC x (.arr 34 C.length) (.arr 51 (E++[r]).length))] ((34,⟨C.length, .own,95,(c::C).map dK⟩)::(51,⟨(E++[r]).length, .own,101,(d::(E++[r])).map bY⟩):: []));rw[b,f,g];exact zj
   |nil=>
    have a:x.rests.length=E.length:=Ae;have j:x.rests=E:=Ae
    have ev:aS x= .agg (ownC x (.sl (((c::C):List Made).map dK)) (.sl (E.map bY))):=by rw[<-e,<-j];rfl
    exact OX
def aV5(s:Sh):Prop:=s.outer.length<=9223372036854775807/\s.holes.length<=9223372036854775807/\∀h∈s.holes,h.length<=9223372036854775807
def aA4(s:jL):Prop:=aV5 s.shape/\s.defects.length<=9223372036854775807/\∀d∈s.defects,aV5 d
structure bI1(e:Event):Prop where
 sh:aA4 e.sheet
 br:e.bar.defects.length<=9223372036854775807
 ct:e.cuts.length<=9223372036854775807
 rs:e.rests.length<=9223372036854775807
def cntS(n:Int)(l:List Rg):Int:=l.foldl (λn h=>W (n+(h.length:Int))) n
theorem dP1(n:Int)(D:List Rg)(h:Rg):cntS n (D++[h])=W (cntS n D+(h.length:Int)):=by unfold cntS;simp
def fewS(s:Sh):Prop:=s.holes.length<=3/\cntS s.outer.length s.holes<=24
def xY(s:jL):Prop:=(∀d∈s.defects,fewS d)/\s.grade.size<=40/\s.heat.size<=40/\s.defects.length<=8/\fewS s.shape
def aJ9(b:Bar):Prop:=b.grade.size<=40/\b.heat.size<=40/\b.defects.length<=10
def fewE(e:Event):Prop:=(e.cuts.length<=12/\e.rests.length<=8/\e.text.size<=40/\xY e.sheet/\aJ9 e.bar)/\∀c∈e.cuts,c.part.size<=40
def fewL(l:List Event)(n:Int):Prop:=(∀e∈l,fewE e)/\(l.length:Int)<=n
theorem bR9(s:Sh)(m:aV5 s):Sp 70 [shV s] (DB (fewS s)):=by
 refine zsp Tryz.func70 ?_;obtain⟨o,q,f⟩:=m;have d:(s.outer.map vcV).length=s.outer.length:=Af;have l:(s.holes.map rgV).length=s.holes.length:=Af
 have b:fewS s↔s.holes.length<=3/\cntS s.outer.length s.holes<=24:=RN;generalize fewS s=P at*
 repeat' ((conv=>whnf);first|refine zS ?_|fail)
 refine aU (A:=List Rg) (B:=List Rg) (λD R=>mkSt [(1, .box 1 0),(3,I (cntS s.outer.length D)),(4,I D.length)] [(1,(shV s).cells)] []) (λD R=>s.holes=D++R) (λD R=>R.length) [] s.holes ?_ rfl (λD R hp=>?_)
 ·show Le _ _ (mkSt [(1, .box 1 0),(3,I (s.outer.length:Int)),(4,I 0)] [(1,(shV s).cells)] [])
  rw[<-d];exact zj
 cases R with
 |cons h R=>
  have i:=dP1 s.outer.length D;generalize cntS (s.outer.length:Int) D=n at*;have a:=aO hp
  have k:h.length<=9223372036854775807:=f h Ae;have c:(h.map vcV).length=h.length:=Af
  have j:=i h
  repeat' ((conv=>whnf);first|omega|refine zS ?_|refine zT ?_ ?_<;>intro _|fail)
  all_goals conv=>whnf
  refine⟨(D++[h],R),?_,Ae,Af⟩;simp only[QU,QY,j];rw[<-c];show Le _ _ (mkSt [(1, .box 1 0),(3,I (W (n+((h.map vcV).length:Int)))),(4,I ((D.length:Int)+1))] [(1,(shV s).cells)] []);exact zj
 |nil=>
  have a:s.holes.length=D.length:=Ae;have e:s.holes=D:=Ae
  have g:cntS (s.outer.length:Int) s.holes=cntS (s.outer.length:Int) D:=Iu;rw[g]at b;generalize cntS (s.outer.length:Int) D=n at*;clear hp e g
  repeat' ((conv=>whnf);first|omega|refine zS ?_|refine zT ?_ ?_<;>intro _|fail)
  all_goals conv=>whnf
  ·exact aA (le_dec ⟨λh=>b.2 ⟨Aa,h⟩,λh=>(b.1 h).2⟩)
  ·exact aA (aC λh=>by have:=(b.1 h).1;omega)
theorem bM5(s:jL)(m:aA4 s):Sp 37 [zJ s] (DB (xY s)):=by
 refine zsp Tryz.func37 ?_;obtain⟨g,n,i⟩:=m;have l:(s.defects.map shV).length=s.defects.length:=Af;have e:xY s↔(∀d∈s.defects,fewS d)/\s.grade.size<=40/\s.heat.size<=40/\s.defects.length<=8/\fewS s.shape:=RN
 have q:=bR9 s.shape g;generalize xY s=P at*;generalize fewS s.shape=t at*
 repeat' ((conv=>whnf);first|refine zS ?_|fail)
 refine aU (A:=List Sh) (B:=List Sh) (λD R=>mkSt [(1, .box 1 0),(3,I D.length)] [(1,aA7 s)] []) (λD R=>s.defects=D++R/\∀d∈D,fewS d) (λD R=>R.length) [] s.defects ?_ ⟨rfl,Af⟩ (λD R hp=>?_)
 ·exact zj
 obtain⟨hp,f⟩:=hp
 cases R with
 |cons d R=>
  have b:=aO hp;have a:d∈s.defects:=Ae
  have o:=bR9 d (i d a);have r:fewS d↔fewS d:=RN
  generalize j:fewS d=u at*
  repeat' ((conv=>whnf);first|omega|refine zS ?_|refine zT ?_ ?_<;>intro _|fail)
  all_goals conv=>whnf
  all_goals first
   |exact aA (aC λh=>absurd ((e.1 h).1 d a) (by rw[j];assumption))
   |skip
  refine⟨(D++[d],R),?_,⟨Ae,λz c=>?_⟩,Af⟩
  ·exact IE
  ·rcases QX.1 c with c|c
   ·exact f z c
   ·rw[QW.1 c,j];assumption
 |nil=>
  have b:s.defects.length=D.length:=Ae;have k:∀d∈s.defects,fewS d:=λd h=>f d BG
  clear hp f
  repeat' ((conv=>whnf);first|omega|refine zS ?_|refine zT ?_ ?_<;>intro _|fail)
  all_goals conv=>whnf
  all_goals first
   |exact aA (aC λh=>by have:=(e.1 h).2;omega)
   |exact aA (fQ ⟨λh=>e.2 ⟨k,Aa,Aa,Aa,h⟩,λh=>(e.1 h).2.2.2.2⟩)
theorem aT9(b:Bar):Sp 38 [barV b] (DB (aJ9 b)):=by
 refine zsp Tryz.func38 ?_;have c:(b.defects.map ivV).length=b.defects.length:=Af;have a:aJ9 b↔b.grade.size<=40/\b.heat.size<=40/\b.defects.length<=10:=RN
 generalize aJ9 b=P at*
 repeat' ((conv=>whnf);first|refine zS ?_|refine zT ?_ ?_<;>intro _|fail)
 all_goals conv=>whnf
 all_goals first
  |exact aA (aC λh=>by have:=(a.1 h);omega)
  |exact aA (le_dec ⟨λh=>a.2 ⟨Aa,Aa,Aa⟩,λh=>by have:=(a.1 h).2.2;omega⟩)
theorem aS2(l:List Event)(n:Int)(L:l.length<=9223372036854775807)(x:∀e∈l,bI1 e):Sp 11 [.sl (l.map aS),I n] (DB (fewL l n)):=by
 refine zsp Tryz.func11 ?_;have M:(l.map aS).length=l.length:=Af;have v:fewL l n↔(∀e∈l,fewE e)/\(l.length:Int)<=n:=RN
 generalize fewL l n=P at*
 repeat' ((conv=>whnf);first|refine zS ?_|fail)
 refine aU (A:=List Event) (B:=List Event) (λD R=>mkSt [(0, .sl (l.map aS)),(1,I n),(5,I D.length)] [] []) (λD R=>l=D++R/\∀d∈D,fewE d) (λD R=>R.length) [] l ?_ ⟨rfl,Af⟩ (λD R hp=>?_)
 ·exact zj
 obtain⟨hp,r⟩:=hp
 cases R with
 |cons e R=>
  have k:=aO hp;have j:e∈l:=Ae
  obtain⟨w,F,G,H⟩:=x e j;have J:=bM5 e.sheet w;have K:=aT9 e.bar
  have y:(e.cuts.map dK).length=e.cuts.length:=Af;have C:(e.rests.map bY).length=e.rests.length:=Af
  have m:fewE e↔(e.cuts.length<=12/\e.rests.length<=8/\e.text.size<=40/\xY e.sheet/\aJ9 e.bar)/\∀c∈e.cuts,c.part.size<=40:=RN;have b:P->fewE e:=λh=>(v.1 h).1 e j
  have s:fewE e->∀d∈D++[e],fewE d:=λh d g=>by
   rcases QX.1 g with g|g
   ·exact r d g
   ·rw[QW.1 g];exact h
  generalize fewE e=Q at*;generalize xY e.sheet=N at*;generalize aJ9 e.bar=O at*
  repeat' ((conv=>whnf);first|omega|refine zS ?_|refine zd (λg=>?_) (λg=>?_)|refine zl (λa=>?_) (λa=>?_))
  all_goals conv=>whnf
  all_goals first
   |exact aA (aC λh=>by have:=(m.1 (b h)).1;omega)
   |exact aA (aC λh=>absurd (m.1 (b h)).1.2.2.2.1 Ag)
   |exact aA (aC λh=>absurd (m.1 (b h)).1.2.2.2.2 Ag)
   |skip
  refine aU (A:=List Made) (B:=List Made) (λE S=>mkSt [(0, .sl (l.map aS)),(1,I n),(5,I D.length),(6,I E.length)] [] []) (λE S=>e.cuts=E++S/\∀c∈E,c.part.size<=40) (λE S=>S.length) [] e.cuts ?_ ⟨rfl,Af⟩ (λE S f=>?_)
  ·exact zj
  obtain⟨f,t⟩:=f
  cases S with
  |cons c S=>
   have i:=aO f;have u:c∈e.cuts:=by rw[f];simp
   repeat' ((conv=>whnf);first|omega|refine zS ?_|refine zl (λa=>?_) (λa=>?_))
   all_goals conv=>whnf
   all_goals first
    |exact aA (aC λh=>by have:=(m.1 (b h)).2 c u;omega)
    |skip
   refine⟨(E++[c],S),?_,⟨by rw[f];simp,λz o=>?_⟩,Af⟩
   ·exact IE
   ·rcases QX.1 o with o|o
    ·exact t z o
    ·rw[QW.1 o];omega
  |nil=>
   have i:e.cuts.length=E.length:=by rw[f];simp
   have q:∀c∈e.cuts,c.part.size<=40:=λc h=>t c (by rw[f,Rn]at h;exact h)
   clear f t
   repeat' ((conv=>whnf);first|omega|refine zS ?_|refine zl (λa=>?_) (λa=>?_))
   all_goals conv=>whnf
   refine⟨(D++[e],R),?_,⟨Ae,s (m.2 ⟨⟨Aa,Aa,Aa,Ag,Ag⟩,q⟩)⟩,Af⟩;exact Nj
 |nil=>
  have k:l.length=D.length:=Ae;have q:∀d∈l,fewE d:=λd h=>r d BG
  clear hp r
  repeat' ((conv=>whnf);first|omega|refine zS ?_|refine zl (λa=>?_) (λa=>?_))
  all_goals conv=>whnf
  exact aA (le_dec ⟨λh=>v.2 ⟨q,Aa⟩,λh=>by have:=(v.1 h).2;omega⟩)
end Go.Proofs.Led
namespace Go.Proofs.YtdjgbagnajikeaaGreatDoor
open Go.ChangeShapes Go.WideShapes Go.ChangeAt Go.RowKit Go.Ab Go.Proofs.Led
theorem own:ownKnob Tryz.prog.godebug=none:=Ac
theorem laidOut:laidOutB Tryz.prog=true:=Ac
theorem var_heap{w:World}{name:String}{g:Nat}{cs:Array Value}(hg:Tryz.prog.globalNamed name=some g)(h:w.var? Tryz.prog name=some cs):∃t z,w.heap[g]? =some (.cells cs t z):=by
 unfold World.var? at h;grind
abbrev Q3:List V->Prop:=QInt .i64 (-9223372036854775808) 9223372036854775807
theorem d3(W:World):Dec Tryz.prog W (bQ W) 3 Q3:=dI6 (k:= .i64) Ac Ac (λn h=>by
 simp[Lit.wf,IntKind.min,IntKind.max,IntKind.signed,IntKind.bits]at h;omega)
abbrev Q9:List V->Prop:=QStr
theorem d9(W:World):Dec Tryz.prog W (bQ W) 9 Q9:=eO8 Ac Ac
abbrev Q97:List V->Prop:=QAll [Q3,Q3]
theorem d97(W:World):Dec Tryz.prog W (bQ W) 97 Q97:=lZ Tryz.underlying97 (aY rfl (d3 W) (aY Ac (d3 W) (mM Ac)))
abbrev Q75:List V->Prop:=zI true Q97
theorem d75(W:World):Dec Tryz.prog W (bQ W) 75 Q75:=pV true Ac Ac (d97 W) Aj (λh=>Ah) (jZ W)
abbrev Q76:List V->Prop:=zI false Q75
theorem d76(W:World):Dec Tryz.prog W (bQ W) 76 Q76:=pV false Ac Ac (d75 W) Aj (λ_=>Ac) (jZ W)
abbrev Q78:List V->Prop:=QAll [Q75,Q76]
theorem d78(W:World):Dec Tryz.prog W (bQ W) 78 Q78:=lZ Tryz.underlying78 (aY rfl (d75 W) (aY Ac (d76 W) (mM Ac)))
abbrev Q79:List V->Prop:=zI true Q78
theorem d79(W:World):Dec Tryz.prog W (bQ W) 79 Q79:=pV true Ac Ac (d78 W) Aj (λh=>Ah) (jZ W)
abbrev Q81:List V->Prop:=QAll [Q3,Q9,Q9,Q3,Q78,Q79]
theorem d81(W:World):Dec Tryz.prog W (bQ W) 81 Q81:=lZ Tryz.underlying81 (aY rfl (d3 W) (aY Ac (d9 W) (aY Ac (d9 W) (aY Ac (d3 W) (aY Ac (d78 W) (aY Ac (d79 W) (mM Ac)))))))
abbrev Q49:List V->Prop:=QAll [Q3,Q3]
theorem d49(W:World):Dec Tryz.prog W (bQ W) 49 Q49:=dN6 (m:=2) (e:=3) Ac (aY Ac (d3 W) (aY Ac (d3 W) (mM Ac)))
abbrev Q82:List V->Prop:=zI true Q49
theorem d82(W:World):Dec Tryz.prog W (bQ W) 82 Q82:=pV true Ac Ac (d49 W) Aj (λh=>Ah) (jZ W)
abbrev Q84:List V->Prop:=QAll [Q3,Q9,Q9,Q3,Q82]
theorem d84(W:World):Dec Tryz.prog W (bQ W) 84 Q84:=lZ Tryz.underlying84 (aY rfl (d3 W) (aY Ac (d9 W) (aY Ac (d9 W) (aY Ac (d3 W) (aY Ac (d82 W) (mM Ac))))))
abbrev Q108:List V->Prop:=QAll [Q3,Q9,Q3]
theorem d108(W:World):Dec Tryz.prog W (bQ W) 108 Q108:=lZ Tryz.underlying108 (aY rfl (d3 W) (aY Ac (d9 W) (aY Ac (d3 W) (mM Ac))))
abbrev Q102:List V->Prop:=zI true Q108
theorem d102(W:World):Dec Tryz.prog W (bQ W) 102 Q102:=pV true Ac Ac (d108 W) Aj (λh=>Ah) (jZ W)
abbrev Q99:List V->Prop:=QAll [Q97,Q97]
theorem d99(W:World):Dec Tryz.prog W (bQ W) 99 Q99:=lZ Tryz.underlying99 (aY rfl (d97 W) (aY Ac (d97 W) (mM Ac)))
abbrev Q166:List V->Prop:=QAll [Q3,Q99,Q3,Q3]
theorem d166(W:World):Dec Tryz.prog W (bQ W) 166 Q166:=lZ Tryz.underlying166 (aY rfl (d3 W) (aY Ac (d99 W) (aY Ac (d3 W) (aY Ac (d3 W) (mM Ac)))))
abbrev Q103:List V->Prop:=zI true Q166
theorem d103(W:World):Dec Tryz.prog W (bQ W) 103 Q103:=pV true Ac Ac (d166 W) Aj (λh=>Ah) (jZ W)
abbrev Q105:List V->Prop:=QAll [Q3,Q3,Q9,Q81,Q84,Q102,Q103,Q3]
theorem d105(W:World):Dec Tryz.prog W (bQ W) 105 Q105:=lZ Tryz.underlying105 (aY rfl (d3 W) (aY Ac (d3 W) (aY Ac (d9 W) (aY Ac (d81 W) (aY Ac (d84 W) (aY Ac (d102 W) (aY Ac (d103 W) (aY Ac (d3 W) (mM Ac)))))))))
abbrev Q22:List V->Prop:=zI true Q105
theorem d22(W:World):Dec Tryz.prog W (bQ W) 22 Q22:=pV true Ac Ac (d105 W) Aj (λh=>Ah) (jZ W)
abbrev Q5:List V->Prop:=QInt .u8 (0) 255
theorem d5(W:World):Dec Tryz.prog W (bQ W) 5 Q5:=dI6 (k:= .u8) Ac Ac (λn h=>by
 simp[Lit.wf,IntKind.min,IntKind.max,IntKind.signed,IntKind.bits]at h;omega)
theorem uO{α:Type}{f:α->V}{Q:List V->Prop}{P:α->Prop}(h:∀xs,Q xs->∃a,V.agg xs=f a/\P a):∀ {l:List V},(∀x∈l,Q x.cells/\(true=true->∃ys,x= .agg ys)/\(true=false->∀ys,x≠ .agg ys))->∃l':List α,l=l'.map f/\∀a∈l',P a
 | [],_=>⟨[],rfl,Af⟩
 |x::l,hl=>by
  obtain⟨h1,h2,_⟩:=hl x Af;obtain⟨ys,rfl⟩:=h2 rfl;obtain⟨m,hm,hp⟩:=h ys h1;obtain⟨l',rfl,hl'⟩:=uO h (l:=l) (λy hy=>hl y (by simp[hy]))
  refine⟨m::l',by rw[List.map_cons,<-hm],λz hz=>?_⟩
  grind
theorem cF8{α:Type}{f:α->V}{Q:List V->Prop}{P:α->Prop}(h:∀xs,Q xs->∃a,xs=[f a]/\P a):∀ {l:List V},(∀x∈l,Q x.cells/\(false=true->∃ys,x= .agg ys)/\(false=false->∀ys,x≠ .agg ys))->∃l':List α,l=l'.map f/\∀a∈l',P a
 | [],_=>⟨[],rfl,Af⟩
 |x::l,hl=>by
  obtain⟨h1,_,h2⟩:=hl x Af;obtain⟨m,hm,hp⟩:=h _ h1;obtain⟨l',rfl,hl'⟩:=cF8 h (l:=l) (λy hy=>hl y (by simp[hy]))
  have hx:x=f m:=by
   simp_all [List.cons.injEq,and_true,V.cells]
  refine⟨m::l',by rw[List.map_cons,<-hx],λz hz=>?_⟩
  grind
theorem max6{n:Nat}(h:n<=maxLen):n<=9223372036854775807:=by unfold maxLen at h;omega
theorem vc_of(xs:List V)(h:Q97 xs):∃a:Vc,V.agg xs=vcV a/\True:=LG
theorem rg_of(xs:List V)(h:Q75 xs):∃a:Rg,xs=[rgV a]/\Len6 a:=by
 obtain⟨l,rfl,hl,h⟩:=h;obtain⟨l',rfl,_⟩:=uO vc_of h;exact⟨l',rfl,Fa⟩
theorem eZ3(xs:List V)(h:Q76 xs):∃a:List Rg,xs=[.sl (a.map rgV)]/\Len6 a/\∀r∈a,Len6 r:=by
 obtain⟨l,rfl,hl,h⟩:=h;obtain⟨l',rfl,h'⟩:=cF8 rg_of h;exact⟨l',rfl,Fa,h'⟩
theorem eT9(xs:List V)(h:Q78 xs):∃a:Sh,V.agg xs=shV a/\aV5 a:=by
 obtain⟨x1,x2,rfl,h1,x3,x4,rfl,h2,rfl⟩:=h;obtain⟨o,rfl,ho⟩:=rg_of _ h1;obtain⟨q,rfl,hq,hr⟩:=eZ3 _ h2;exact⟨⟨o,q⟩,rfl,ho,hq,hr⟩
theorem eY8(xs:List V)(h:Q79 xs):∃a:List Sh,xs=[.sl (a.map shV)]/\Len6 a/\∀r∈a,aV5 r:=by
 obtain⟨l,rfl,hl,h⟩:=h;obtain⟨l',rfl,h'⟩:=uO eT9 h;exact⟨l',rfl,Fa,h'⟩
theorem eF9(xs:List V)(h:Q81 xs):∃a:jL,xs=aA7 a/\aA4 a:=by
 obtain⟨_,_,rfl,⟨i,rfl,_⟩,_,_,rfl,⟨g,rfl,_⟩,_,_,rfl,⟨t,rfl,_⟩,_,_,rfl,⟨n,rfl,_⟩,x1,_,rfl,h1,x2,_,rfl,h2,rfl⟩:=h;obtain⟨s,hs,hb⟩:=eT9 _ h1;obtain⟨d,rfl,hd,he⟩:=eY8 _ h2;have hx:x1=[rgV s.outer, .sl (s.holes.map rgV)] :=V.agg.inj hs;subst hx;exact⟨⟨i,g,t,n,s,d⟩,rfl,hb,hd,he⟩
theorem iv_of(xs:List V)(h:Q49 xs):∃a:Iv,V.agg xs=ivV a/\True:=LG
theorem eY4(xs:List V)(h:Q84 xs):∃a:Bar,xs=barC a/\Len6 a.defects:=by
 obtain⟨_,_,rfl,⟨i,rfl,_⟩,_,_,rfl,⟨g,rfl,_⟩,_,_,rfl,⟨t,rfl,_⟩,_,_,rfl,⟨n,rfl,_⟩,x2,_,rfl,⟨l,rfl,hl,h2⟩,rfl⟩:=h;obtain⟨d,rfl,_⟩:=uO iv_of h2;exact⟨⟨i,g,t,n,d⟩,rfl,Fa⟩
theorem eR2(xs:List V)(h:Q108 xs):∃a:Made,V.agg xs=dK a/\True:=by
 obtain⟨_,_,rfl,⟨a,rfl,ra⟩,_,_,rfl,⟨b,rfl,rb⟩,_,_,rfl,⟨c,rfl,rc⟩,rfl⟩:=h;exact⟨⟨a,b,c⟩,rfl,trivial⟩
theorem rest_of(xs:List V)(h:Q166 xs):∃a:Led.Rest,V.agg xs=bY a/\True:=by
 obtain⟨_,_,rfl,⟨a,rfl,ra⟩,_,_,rfl,⟨_,_,rfl,⟨_,_,rfl,⟨b,rfl,rb⟩,_,_,rfl,⟨c,rfl,rc⟩,rfl⟩,_,_,rfl,⟨_,_,rfl,⟨d,rfl,rd⟩,_,_,rfl,⟨e,rfl,re⟩,rfl⟩,rfl⟩,_,_,rfl,⟨f,rfl,rf⟩,_,_,rfl,⟨g,rfl,rg⟩,rfl⟩:=h;exact⟨⟨a,((b,c),(d,e)),f,g⟩,rfl,trivial⟩
theorem ev_of(xs:List V)(h:Q105 xs):∃a:Led.Event,V.agg xs=aS a/\bI1 a:=by
 obtain⟨_,_,rfl,⟨k,rfl,_⟩,_,_,rfl,⟨i,rfl,_⟩,_,_,rfl,⟨t,rfl,_⟩,x1,_,rfl,h1,x2,_,rfl,h2,_,_,rfl,⟨l1,rfl,b1,q1⟩,_,_,rfl,⟨l2,rfl,b2,q2⟩,_,_,rfl,⟨z,rfl,_⟩,rfl⟩:=h;obtain⟨s,rfl,hs⟩:=eF9 _ h1;obtain⟨b,rfl,hb⟩:=eY4 _ h2;obtain⟨c,rfl,_⟩:=uO eR2 q1;obtain⟨r,rfl,_⟩:=uO rest_of q2;exact⟨⟨k,i,t,s,b,c,r,z⟩,rfl,hs,hb,by simpa using max6 b1,by simpa using max6 b2⟩
theorem cC1{l:List V}(h:∀x∈l,Q105 x.cells/\(true=true->∃ys,x= .agg ys)/\(true=false->∀ys,x≠ .agg ys)):∃l':List Led.Event,l=l'.map aS/\∀a∈l',bI1 a:=uO ev_of h
end Go.Proofs.YtdjgbagnajikeaaGreatDoor
