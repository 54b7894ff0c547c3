/-
  What holds of every inventory.
-/
import Derived.Test.YtdjgbagnajikeaaGreatDoorB7
set_option linter.unusedVariables false
set_option linter.unusedSimpArgs false
set_option maxRecDepth 100000
set_option maxHeartbeats 8000000
noncomputable section
namespace Go.Proofs.Led
open Go Go.Proofs Go.Ab
structure Ok(s:aJ)(n:Nat):Prop where
 ss:(s.stocks.map sid).Pairwise (·<·)
 sp:(s.pieces.map Piece.id).Pairwise (·<·)
 su:(s.used.map id).Pairwise (·<·)
 ls:s.stocks.length<=n
 lp:s.pieces.length<=n
 lu:s.used.length<=n
 us:∀x∈s.stocks,sid x∈s.used
 up:∀p∈s.pieces,p.id∈s.used
 sz:∀x∈s.stocks,eY x
theorem Ok.gd{s:aJ}{n:Nat}(h:Ok s n)(a:n<=1000000):Gd s:=⟨QV h.ls a,QV h.lp a,QV h.lu a,h.ss,h.sp,h.su⟩
theorem Ok.mono{s:aJ}{n m:Nat}(h:Ok s n)(a:n<=m):Ok s m:=⟨h.ss,h.sp,h.su,QV h.ls a,QV h.lp a,QV h.lu a,h.us,h.up,h.sz⟩
theorem ok0:Ok inv0 0:=⟨.nil, .nil, .nil,QH _,QH _,QH _,by simp[inv0],by simp[inv0],by simp[inv0]⟩
def more(e:Event):Nat:=1+e.cuts.length+e.rests.length
theorem dG9(e:Event):(fO e).length=e.cuts.length+e.rests.length:=by unfold fO;simp
theorem dD4{s:aJ}{n:Nat}(h:Ok s n){x:aN}(f:eY x)(b:sid x∉s.used):Ok (aX7 s x) (n+1)where
 ss:=yR h.ss (λm c e=>b (by rw[<-e];exact h.us m c))
 sp:=h.sp
 su:=rF h.su b
 ls:=by show(putAt _ _ _).length<=_;rw[mQ];have:=h.ls;omega
 lp:=Nat.le_succ_of_le h.lp
 lu:=by show(putAt _ _ _).length<=_;rw[mQ];have:=h.lu;omega
 us:=λy a=>by
  rcases fH.1 a with rfl|a
  ·exact fH.2 (.inl rfl)
  ·exact fH.2 (.inr (h.us y a))
 up:=λp d=>fH.2 (.inr (h.up p d))
 sz:=λy a=>by
  rcases fH.1 a with rfl|a
  ·exact f
  ·exact h.sz y a
theorem mem_set{a:Type}{l:List a}{k:Nat}{x y:a}(h:y∈l.set k x):y=x\/y∈l:=(List.mem_or_eq_of_mem_set h).symm
theorem fC{a:Type}{l:List a}{k:Nat}{x:a}(h:l[k]? =some x):x∈l:=QF h
theorem bW3{s:aJ}{n:Nat}(h:Ok s n){k:Nat}{m:aN}(hm:s.stocks[k]? =some m)(p:ByteArray):Ok (setK s k (prog m p)) n where
 ss:=by show((s.stocks.set k (prog m p)).map sid).Pairwise _;rw[bY6 hm (rfl:sid (prog m p)=sid m)];exact h.ss
 sp:=h.sp
 su:=h.su
 ls:=by show(s.stocks.set _ _).length<=_;rw[Tj];exact h.ls
 lp:=h.lp
 lu:=h.lu
 us:=λy hy=>by
  rcases mem_set hy with rfl|hy
  ·exact h.us m (fC hm)
  ·exact h.us y hy
 up:=h.up
 sz:=λy hy=>by
  rcases mem_set hy with rfl|hy
  ·exact h.sz m (fC hm)
  ·exact h.sz y hy
theorem dE1{s:aJ}{n:Nat}(h:Ok s n){k:Nat}{m:Piece}(hm:s.pieces[k]? =some m)(st:Int)(o:ByteArray):Ok (setP s k (marked m st o)) n where
 ss:=h.ss
 sp:=by show((s.pieces.set k (marked m st o)).map Piece.id).Pairwise _;rw[bY6 hm (rfl:(marked m st o).id=m.id)];exact h.sp
 su:=h.su
 ls:=h.ls
 lp:=by show(s.pieces.set _ _).length<=_;rw[Tj];exact h.lp
 lu:=h.lu
 us:=h.us
 up:=λy hy=>by
  rcases mem_set hy with rfl|hy
  ·exact h.up m (fC hm)
  ·exact h.up y hy
 sz:=h.sz
theorem dD6{s:aJ}{n:Nat}(h:Ok s n)(k:Nat)(m:aN):Ok (aX4 s k m) n where
 ss:=bB0 h.ss k
 sp:=h.sp
 su:=h.su
 ls:=QV (kM _ _).length_le h.ls
 lp:=h.lp
 lu:=h.lu
 us:=λy hy=>h.us y ((kM _ _).subset hy)
 up:=h.up
 sz:=λy hy=>h.sz y ((kM _ _).subset hy)
theorem bJ9{s:aJ}{n:Nat}(h:Ok s n){e:Event}{k:Nat}{m:aN}(i:dP s.used (fO e))(l:cZ m [] e.rests=0){D R:List aN}(j:eG m e.rests=D++R):
 ((D.foldl putS (nN s.stocks k)).map sid).Pairwise (·<·)/\(∀y,y∈D.foldl putS (nN s.stocks k)↔y∈nN s.stocks k\/y∈D)/\(D.foldl putS (nN s.stocks k)).length=(nN s.stocks k).length+D.length:=by
 have a:=aG9 l;rw[j,Rl]at a;obtain⟨c,d⟩:=qJ.1 i;unfold fO at c d;rw[Rx]at d;obtain⟨_,b,_⟩:=d;rw[<-a]at c b;rw[Rx]at b;refine bE9 (key:=sid) (bB0 h.ss k) (λx g y f e=>?_) b.1;exact c (sid x) (by simp only[QJ];exact .inr (.inl (Rq g))) (by rw[<-e];exact h.us y ((kM _ _).subset f))
theorem bC5{s:aJ}{n:Nat}(h:Ok s n){e:Event}{m:aN}(k:dP s.used (fO e)){D R:List Made}(l:e.cuts=D++R):
 ((D.foldl (λp x=>putP p (fZ e m x)) s.pieces).map Piece.id).Pairwise (·<·)/\(∀y,y∈D.foldl (λp x=>putP p (fZ e m x)) s.pieces↔y∈s.pieces\/y∈D.map (fZ e m))/\(D.foldl (λp x=>putP p (fZ e m x)) s.pieces).length=s.pieces.length+D.length:=by
 obtain⟨b,d⟩:=qJ.1 k;unfold fO at b d;rw[Rx]at d;obtain⟨a,_,_⟩:=d;rw[l,Rl]at b a;rw[Rx]at a;have j:D.foldl (λp x=>putP p (fZ e m x)) s.pieces=(D.map (fZ e m)).foldl (putK Piece.id) s.pieces:=by rw[List.foldl_map];rfl
 have r:(D.map (fZ e m)).map Piece.id=D.map Made.id:=by rw[Uc];rfl
 rw[j]
 have q:=bE9 (key:=Piece.id) (xs:=D.map (fZ e m)) h.sp (λx g y f o=>by
  obtain⟨c,i,rfl⟩:=QZ.1 g;exact b c.id (by simp only[QJ];exact .inl (.inl (Rq i))) (by have:=h.up y f;rw[o]at this;exact this)) (by rw[r];exact a.1)
 rw[QS]at q;exact q
theorem aZ7{s:aJ}{n:Nat}(h:Ok s n){e:Event}{k:Nat}{m:aN}(u:s.stocks[k]? =some m)(g:dP s.used (fO e))(j:cZ m [] e.rests=0){D R:List aN}(d:eG m e.rests=D++R){C Q:List Made}(f:e.cuts=C++Q):
 Ok (cut4 s e k m D C) (n+e.cuts.length+e.rests.length):=by
 obtain⟨v,o,w⟩:=bJ9 (k:=k) h g j d;obtain⟨t,A,B⟩:=bC5 (m:=m) h g f;obtain⟨z,l⟩:=aA8 _ _ h.su g;rw[dG9]at l;have b:=Rh List.length (aG9 j);rw[d]at b;simp only[QS,QG]at b;have i:=Rh List.length f
 rw[QG]at i;have E:=(kM s.stocks k).length_le;have F:=h.ls
 have G:=h.lp;have H:=h.lu
 refine⟨v,t,z,?_,?_,?_,λy a=>?_,λy a=>?_,λy a=>?_⟩
 ·show(D.foldl putS (nN s.stocks k)).length<=_
  rw[w];omega
 ·show(C.foldl (λp x=>putP p (fZ e m x)) s.pieces).length<=_
  rw[B];omega
 ·show(cO s.used (fO e)).length<=_
  rw[l];omega
 ·refine tY.2 ?_
  rcases(o y).1 a with a|a
  ·exact .inl (h.us y ((kM _ _).subset a))
  ·grind [Rq,aG9,fO]
 ·refine tY.2 ?_
  rcases(A y).1 a with a|a
  ·exact .inl (h.up y a)
  ·refine .inr ?_
   obtain⟨c,q,rfl⟩:=QZ.1 a;unfold fO;simp only[QJ];exact .inl (Rq (by rw[f];simp[q]))
 ·rcases(o y).1 a with a|a
  ·exact h.sz y ((kM _ _).subset a)
  ·have:y∈eG m e.rests:=by rw[d];simp[a]
   rw[mV j]at this;obtain⟨r,_,rfl⟩:=QZ.1 this;exact aX5 (h.sz m (fC u))
theorem cP7{s:aJ}{n:Nat}(h:Ok s n)(v:Iv):Ok {s with scrap:=v} n:=⟨h.ss,h.sp,h.su,h.ls,h.lp,h.lu,h.us,h.up,h.sz⟩
theorem kE{s:aJ}{n:Int}{f:aN->aJ×Int}(a:(s.stocks.map sid).Pairwise (·<·)):
 ((¬∃m∈s.stocks,sid m=n)/\aD6 s n f=(inv0,8))\/∃m,(∃m∈s.stocks,sid m=n)/\s.stocks[bs sid s.stocks n]? =some m/\sid m=n/\aD6 s n f=f m:=by
 unfold aD6;by_cases h:∃m∈s.stocks,sid m=n
 ·obtain⟨m,c,b⟩:=aB8 a h;simp_all
 ·exact .inl ⟨h,Q5 h⟩
def zM(f:FuncId)(s:aJ)(e:Event)(q:aJ×Int):Prop:=(q.2=0/\SpB f [.box 100000 0,aS e] [stC s] (I 0) [stC q.1])\/(q.2≠0/\q.1=inv0/\SpB f [.box 100000 0,aS e] [stC s] (I q.2) [bots])
theorem eN8{s:aJ}{e:Event}{n:Nat}(h:Ok s n)(d:n<=1000000):zM 77 s e (relR s e)/\((relR s e).2=0->Ok (relR s e).1 n):=by
 unfold relR;rcases kE (n:=e.id) (f:=λm=>open Classical in if m.program=aI then(setK s (bs sid s.stocks e.id) (prog m e.text),0)else(inv0,27)) h.ss with⟨b,a⟩|⟨m,b,a,i,g⟩
 ·rw[a]
  exact⟨.inr ⟨Ai,rfl,bN7 s e (h.gd d) b⟩,λh=>Ah⟩
 ·rw[g]
  by_cases c:m.program=aI
  ·rw[Q9 c]
   exact⟨.inl ⟨rfl,bM2 s e m (h.gd d) b a c⟩,λ_=>bW3 h a _⟩
  ·rw[Q5 c]
   exact⟨.inr ⟨Ai,rfl,bM0 s e m (h.gd d) b a c⟩,λh=>Ah⟩
theorem eM9{s:aJ}{e:Event}{n:Nat}(h:Ok s n)(d:n<=1000000):zM 78 s e (bP3 s e)/\((bP3 s e).2=0->Ok (bP3 s e).1 n):=by
 unfold bP3;rcases kE (n:=e.id) (f:=λm=>open Classical in if m.program≠aI then(setK s (bs sid s.stocks e.id) (prog m aI),0)else(inv0,10)) h.ss with⟨b,a⟩|⟨m,b,a,i,g⟩
 ·rw[a]
  exact⟨.inr ⟨Ai,rfl,cA0 s e (h.gd d) b⟩,λh=>Ah⟩
 ·rw[g]
  by_cases c:m.program≠aI
  ·rw[Q9 c]
   exact⟨.inl ⟨rfl,bZ5 s e m (h.gd d) b a c⟩,λ_=>bW3 h a _⟩
  ·rw[Q5 c]
   exact⟨.inr ⟨Ai,rfl,cB5 s e m (h.gd d) b a c⟩,λh=>Ah⟩
theorem eN4{s:aJ}{e:Event}{n:Nat}(h:Ok s n)(d:n<=1000000):zM 82 s e (bQ0 s e)/\((bQ0 s e).2=0->Ok (bQ0 s e).1 n):=by
 unfold bQ0;rcases kE (n:=e.id) (f:=λm=>open Classical in if m.program=aI then(aX4 s (bs sid s.stocks e.id) m,0)else(inv0,27)) h.ss with⟨b,a⟩|⟨m,b,a,i,g⟩
 ·rw[a]
  exact⟨.inr ⟨Ai,rfl,bO2 s e (h.gd d) b⟩,λh=>Ah⟩
 ·rw[g]
  by_cases c:m.program=aI
  ·rw[Q9 c]
   exact⟨.inl ⟨rfl,bM1 s e m (h.gd d) b a c (h.sz m (fC a))⟩,λ_=>dD6 h _ m⟩
  ·rw[Q5 c]
   exact⟨.inr ⟨Ai,rfl,bO0 s e m (h.gd d) b a c⟩,λh=>Ah⟩
theorem aV1{s:aJ}{k st:Int}{o:ByteArray}{n:Nat}(h:Ok s n)(d:n<=1000000):(((nK s k st o).2=0/\SpB 126 [.box 100000 0,I k,I st,S o] [stC s] (I 0) [stC (nK s k st o).1])\/
 ((nK s k st o).2≠0/\(nK s k st o).1=inv0/\SpB 126 [.box 100000 0,I k,I st,S o] [stC s] (I (nK s k st o).2) [bots]))/\((nK s k st o).2=0->Ok (nK s k st o).1 n):=by
 by_cases a:∃m∈s.pieces,m.id=k
 ·obtain⟨m,b,f⟩:=aB8 h.sp a
  have e:nK s k st o=open Classical in if m.status=1 then(setP s (bs Piece.id s.pieces k) (marked m st o),0)else(inv0,10):=by
   unfold nK;rw[Q9 a,b]
  rw[e];by_cases c:m.status=1
  ·rw[Q9 c]
   exact⟨.inl ⟨rfl,cU5 s k st o m (h.gd d) a b c⟩,λ_=>dE1 h b st o⟩
  ·rw[Q5 c]
   exact⟨.inr ⟨(by decide:(10:Int)≠0),rfl,cR1 s k st o m (h.gd d) a b c⟩,λh=>Ah⟩
 ·unfold nK
  rw[Q5 a];exact⟨.inr ⟨(by decide:(8:Int)≠0),rfl,cX9 s k st o (h.gd d) a⟩,λh=>Ah⟩
theorem eR8{s:aJ}{e:Event}{n:Nat}(h:Ok s n)(d:n<=1000000):zM 80 s e (nK s e.id 2 aI)/\((nK s e.id 2 aI).2=0->Ok (nK s e.id 2 aI).1 n):=by
 obtain⟨g,f⟩:=aV1 (k:=e.id) (st:=2) (o:=aI) h d;refine⟨?_,f⟩;rcases g with⟨b,a⟩|⟨b,a,c⟩
 ·exact .inl ⟨b,aU1 s e (.inr ⟨_,rfl⟩) a⟩
 ·exact .inr ⟨b,a,aU1 s e (.inl rfl) c⟩
theorem eK3{s:aJ}{e:Event}{n:Nat}(h:Ok s n)(d:n<=1000000):zM 81 s e (nK s e.id 3 e.text)/\((nK s e.id 3 e.text).2=0->Ok (nK s e.id 3 e.text).1 n):=by
 obtain⟨g,f⟩:=aV1 (k:=e.id) (st:=3) (o:=e.text) h d;refine⟨?_,f⟩;rcases g with⟨b,a⟩|⟨b,a,c⟩
 ·exact .inl ⟨b,bS3 s e (.inr ⟨_,rfl⟩) a⟩
 ·exact .inr ⟨b,a,bS3 s e (.inl rfl) c⟩
theorem aY1{s:aJ}{x:aN}{n:Nat}(h:Ok s n)(d:n+1<=1000000)(b:eY x):(((nM s x).2=0/\SpB 117 [.box 100000 0,aQ x] [stC s] (I 0) [stC (nM s x).1])\/
 ((nM s x).2≠0/\(nM s x).1=inv0/\SpB 117 [.box 100000 0,aQ x] [stC s] (I (nM s x).2) [bots]))/\((nM s x).2=0->Ok (nM s x).1 (n+1)):=by
 unfold nM;have a:s.used.length+1<=1000000:=by have:=h.lu;omega
 by_cases c:sid x∈s.used
 ·rw[Q9 c]
  exact⟨.inr ⟨(by decide:(7:Int)≠0),rfl,bM7 s x (h.gd Aa) a c⟩,λh=>Ah⟩
 ·rw[Q5 c]
  exact⟨.inl ⟨rfl,bN1 s x (h.gd Aa) b a c⟩,λ_=>dD4 h b c⟩
theorem eY6{s:aJ}{e:Event}{n:Nat}(h:Ok s n)(d:n+1<=1000000)(f:lK e.sheet):zM 75 s e (nM s ⟨false,e.sheet,bar0,aI⟩)/\((nM s ⟨false,e.sheet,bar0,aI⟩).2=0->Ok (nM s ⟨false,e.sheet,bar0,aI⟩).1 (n+1)):=by
 obtain⟨i,g⟩:=aY1 (x:=⟨false,e.sheet,bar0,aI⟩) h d ⟨f,by simp[bar0]⟩
 refine⟨?_,g⟩;rcases i with⟨b,a⟩|⟨b,a,c⟩
 ·exact .inl ⟨b,aW2 s e (.inr ⟨_,rfl⟩) a⟩
 ·exact .inr ⟨b,a,aW2 s e (.inl rfl) c⟩
theorem eW9{s:aJ}{e:Event}{n:Nat}(h:Ok s n)(d:n+1<=1000000)(f:iY e):zM 76 s e (nM s ⟨true,dN,e.bar,aI⟩)/\((nM s ⟨true,dN,e.bar,aI⟩).2=0->Ok (nM s ⟨true,dN,e.bar,aI⟩).1 (n+1)):=by
 obtain⟨i,g⟩:=aY1 (x:=⟨true,dN,e.bar,aI⟩) h d ⟨xZ,f.br⟩;refine⟨?_,g⟩;rcases i with⟨b,a⟩|⟨b,a,c⟩
 ·exact .inl ⟨b,bJ1 s e (.inr ⟨_,rfl⟩) a⟩
 ·exact .inr ⟨b,a,bJ1 s e (.inl rfl) c⟩
theorem eP9{s:aJ}{e:Event}{n:Nat}(h:Ok s n)(u:n+more e<=1000000)(c:iY e):zM 79 s e (cutR s e)/\((cutR s e).2=0->Ok (cutR s e).1 (n+more e)):=by
 unfold more at u⊢;have j:=h.gd Aa;have k:s.used.length+(fO e).length<=1000000:=by rw[dG9];have:=h.lu;omega
 unfold cutR;by_cases b:dP s.used (fO e)
 ·rw[Q5 (Sv.2 b)]
  rcases kE (n:=e.id) (f:=λm=>open Classical in if m.program=aI then(inv0,10)else
   if cZ m [] e.rests≠0 then(inv0,cZ m [] e.rests)else if nJ m e≠e.scrap then(inv0,29)else(cut5 s e (bs sid s.stocks e.id) m,0)) h.ss with⟨h1,h2⟩|⟨m,h1,h2,h3,h4⟩
  ·rw[h2]
   exact⟨.inr ⟨(by decide:(8:Int)≠0),rfl,xP s e j c k (.inr ⟨b, .inl ⟨h1,rfl,rfl⟩⟩) (.inl rfl)⟩,λh=>Ah⟩
  ·rw[h4]
   have d:=h.sz m (fC h2);by_cases i:m.program=aI
   ·rw[Q9 i]
    exact⟨.inr ⟨(by decide:(10:Int)≠0),rfl,xP s e j c k (.inr ⟨b, .inr ⟨m,h1,h2, .inl ⟨i,rfl,rfl⟩⟩⟩) (.inl rfl)⟩,λh=>Ah⟩
   ·rw[Q5 i]
    by_cases g:cZ m [] e.rests≠0
    ·rw[Q9 g]
     exact⟨.inr ⟨g,rfl,xP s e j c k (.inr ⟨b, .inr ⟨m,h1,h2, .inr ⟨i,d, .inl ⟨g,rfl,rfl⟩⟩⟩⟩) (.inl rfl)⟩,λh=>absurd h g⟩
    ·rw[Q5 g]
     have a:=Sv.1 g
     have t:∀x∈eG m e.rests,eY x:=λx v=>by
      grind [mV,aX5]
     have l:(eG m e.rests).length<=1000000:=by rw[mV a,QS];exact c.rs
     by_cases o:nJ m e≠e.scrap
     ·rw[Q9 o]
      exact⟨.inr ⟨(by decide:(29:Int)≠0),rfl,xP s e j c k (.inr ⟨b, .inr ⟨m,h1,h2, .inr ⟨i,d, .inr ⟨a,t,l, .inl ⟨o,rfl,rfl⟩⟩⟩⟩⟩) (.inl rfl)⟩,λh=>Ah⟩
     ·rw[Q5 o]
      refine⟨.inl ⟨rfl,xP s e j c k (.inr ⟨b, .inr ⟨m,h1,h2, .inr ⟨i,d, .inr ⟨a,t,l, .inr ⟨Sv.1 o,λD R r=>?_,λD R r=>?_,rfl,rfl⟩⟩⟩⟩⟩) (.inr ⟨_,rfl⟩)⟩,λ_=>?_⟩
      ·have q:=(aZ7 (C:=[]) (Q:=e.cuts) h h2 b a r rfl).gd Aa
       exact⟨q.ls,q.lp,q.lu,q.ss,q.sp,q.su⟩
      ·exact(aZ7 (R:=[]) h h2 b a (QU _).symm r).gd Aa
      ·exact cP7 ((aZ7 (R:=[]) (Q:=[]) h h2 b a (QU _).symm (QU _).symm).mono Aa) _
 ·rw[Q9 b]
  exact⟨.inr ⟨(by decide:(7:Int)≠0),rfl,xP s e j c k (.inl ⟨b,rfl,rfl⟩) (.inl rfl)⟩,λh=>Ah⟩
theorem sG{s:aJ}{e:Event}{f:FuncId}{q:aJ×Int}(c:Gd s)(h:iY e)(g:iD e)(d:jG (.int .i64 e.kind) uP=some (.fn f []))(i:zM f s e q):
 Sp 39 [invV s,aS e] (.tup [invV q.1,I q.2]):=by
 refine zsp Tryz.func39 ?_;rcases i with⟨b,a⟩|⟨b,a,j⟩
 ·rw[b]
  exact dL3 s q.1 e c h g d a
 ·rw[a]
  exact dR7 s e c h g d b j
theorem kG{s:aJ}{e:Event}{n:Nat}(h:Ok s n)(a:n+more e<=1000000)(he:iY e):Sp 39 [invV s,aS e] (.tup [invV (appR s e).1,I (appR s e).2])/\((appR s e).2=0->Ok (appR s e).1 (n+more e)):=by
 unfold appR;have b:1<=more e:=GZ;by_cases hf:iD e
 ·rw[Q9 hf]
  have hk:e.kind=1\/e.kind=2\/e.kind=3\/e.kind=4\/e.kind=5\/e.kind=6\/e.kind=7\/e.kind=8:=by have:=hf.2.2.2.2.2.2.2.2;omega
  unfold bP2;have hs:=h.gd Aa;rcases hk with hk|hk|hk|hk|hk|hk|hk|hk
  ·simp only[hk,reduceIte,reduceCtorEq,Int.reduceEq]
   obtain⟨q1,q2⟩:=eY6 (e:=e) h Aa (aX9 (hf.2.2.2.1 hk).2);exact NZ
  ·simp only[hk,reduceIte,reduceCtorEq,Int.reduceEq]
   obtain⟨q1,q2⟩:=eW9 (e:=e) h Aa he;exact NZ
  ·simp only[hk,reduceIte,reduceCtorEq,Int.reduceEq]
   obtain⟨q1,q2⟩:=eN8 (e:=e) h Aa;exact NZ
  ·simp only[hk,reduceIte,reduceCtorEq,Int.reduceEq]
   obtain⟨q1,q2⟩:=eM9 (e:=e) h Aa;exact NZ
  ·simp only[hk,reduceIte,reduceCtorEq,Int.reduceEq]
   obtain⟨q1,q2⟩:=eP9 (e:=e) h a he;exact⟨sG hs he hf Di q1,q2⟩
  ·simp only[hk,reduceIte,reduceCtorEq,Int.reduceEq]
   obtain⟨q1,q2⟩:=eR8 (e:=e) h Aa;exact NZ
  ·simp only[hk,reduceIte,reduceCtorEq,Int.reduceEq]
   obtain⟨q1,q2⟩:=eK3 (e:=e) h Aa;exact NZ
  ·simp only[hk,reduceIte,reduceCtorEq,Int.reduceEq]
   obtain⟨q1,q2⟩:=eN4 (e:=e) h Aa;exact NZ
 ·rw[Q5 hf]
  exact⟨zsp Tryz.func39 (dM0 s e he hf),λh=>Ah⟩
inductive Step(s:aJ)(e:Event):aJ->Prop
 |recv (x:aN) (hx:(e.kind=1/\x=⟨false,e.sheet,bar0,aI⟩/\dB e.sheet)\/(e.kind=2/\x=⟨true,dN,e.bar,aI⟩/\fM e.bar)) (hn:sid x∉s.used):Step s e (aX7 s x)
 |setK (k:Nat) (m:aN) (p:ByteArray) (hk:e.kind=3\/e.kind=4) (hm:s.stocks[k]? =some m) (hid:sid m=e.id):Step s e (setK s k (prog m p))
 |disc (k:Nat) (m:aN) (hk:e.kind=8) (hm:s.stocks[k]? =some m) (hid:sid m=e.id):Step s e (aX4 s k m)
 |setP (k:Nat) (m:Piece) (st:Int) (o:ByteArray) (hk:(e.kind=6/\st=2/\o=aI)\/(e.kind=7/\st=3/\o=e.text)) (hm:s.pieces[k]? =some m) (hs:m.status=1) (hid:m.id=e.id):Step s e (setP s k (marked m st o))
 |cut (k:Nat) (m:aN) (hk:e.kind=5) (hf:nY e) (hfr:dP s.used (fO e)) (hm:s.stocks[k]? =some m) (hid:sid m=e.id) (hp:m.program≠aI) (hr:cZ m [] e.rests=0) (hl:nJ m e=e.scrap):Step s e (cut5 s e k m)
theorem bE7{s:aJ}{k st:Int}{o:ByteArray}{n:Nat}(h:Ok s n)(a:(nK s k st o).2=0):∃m,s.pieces[bs Piece.id s.pieces k]? =some m/\m.status=1/\m.id=k/\(nK s k st o).1=setP s (bs Piece.id s.pieces k) (marked m st o):=by
 unfold nK at a⊢;by_cases d:∃m∈s.pieces,m.id=k
 ·obtain⟨m,f,e⟩:=aB8 h.sp d
  rw[Q9 d,f]at a⊢;by_cases c:m.status=1
  ·exact⟨m,rfl,c,e,by show(ite _ _ _:aJ×Int).1=_;rw[Q9 c]⟩
  ·have a:(ite (m.status=1) (setP s (bs Piece.id s.pieces k) (marked m st o),(0:Int)) (inv0,10)).2=0:=a
   rw[Q5 c]at a;cases a
 ·rw[Q5 d]at a
  cases a
theorem aZ6{s:aJ}{e:Event}{n:Nat}(h:Ok s n)(a:(appR s e).2=0):iD e/\Step s e (appR s e).1:=by
 unfold appR at a⊢;by_cases k:iD e;rotate_left
 ·rw[Q5 k]at a;cases a
 refine⟨k,?_⟩;rw[Q9 k]at a⊢;unfold bP2 at a⊢;have b:e.kind=1\/e.kind=2\/e.kind=3\/e.kind=4\/e.kind=5\/e.kind=6\/e.kind=7\/e.kind=8:=by have:=k.2.2.2.2.2.2.2.2;omega
 rcases b with b|b|b|b|b|b|b|b
 all_goals simp only[b,reduceIte,reduceCtorEq,Int.reduceEq]at a⊢
 ·unfold nM at a⊢
  split at a
  ·cases a
  ·rename_i c
   rw[Q5 c];exact .recv _ (.inl ⟨b,rfl,(k.2.2.2.1 b).2⟩) c
 ·unfold nM at a⊢
  split at a
  ·cases a
  ·rename_i c
   rw[Q5 c];exact .recv _ (.inr ⟨b,rfl,(k.2.2.2.2.1 b).2⟩) c
 ·unfold relR at a⊢
  rcases kE (n:=e.id) (f:=λm=>open Classical in if m.program=aI then(Led.setK s (bs sid s.stocks e.id) (prog m e.text),0)else(inv0,27)) h.ss with⟨j,d⟩|⟨m,j,d,g,i⟩
  ·rw[d]at a;cases a
  ·rw[i]at a⊢
   by_cases c:m.program=aI
   ·rw[Q9 c];exact .setK _ m _ (.inl b) d g
   ·rw[Q5 c]at a;cases a
 ·unfold bP3 at a⊢
  rcases kE (n:=e.id) (f:=λm=>open Classical in if m.program≠aI then(Led.setK s (bs sid s.stocks e.id) (prog m aI),0)else(inv0,10)) h.ss with⟨j,d⟩|⟨m,j,d,g,i⟩
  ·rw[d]at a;cases a
  ·rw[i]at a⊢
   by_cases c:m.program≠aI
   ·rw[Q9 c];exact .setK _ m _ (.inr b) d g
   ·rw[Q5 c]at a;cases a
 ·unfold cutR at a⊢
  by_cases q:dP s.used (fO e);rotate_left
  ·rw[Q9 q]at a;cases a
  rw[Q5 (Sv.2 q)]at a⊢
  rcases kE (n:=e.id) (f:=λm=>open Classical in if m.program=aI then(inv0,10)else
   if cZ m [] e.rests≠0 then(inv0,cZ m [] e.rests)else if nJ m e≠e.scrap then(inv0,29)else(cut5 s e (bs sid s.stocks e.id) m,0)) h.ss with⟨j,d⟩|⟨m,j,d,g,i⟩
  ·rw[d]at a;cases a
  ·rw[i]at a⊢
   by_cases o:m.program=aI
   ·rw[Q9 o]at a;cases a
   ·rw[Q5 o]at a⊢
    by_cases l:cZ m [] e.rests≠0
    ·rw[Q9 l]at a;exact absurd a l
    ·rw[Q5 l]at a⊢
     by_cases p:nJ m e≠e.scrap
     ·rw[Q9 p]at a;cases a
     ·rw[Q5 p]
      exact .cut _ m b (k.2.2.2.2.2.2.2.1 b) q d g o (Sv.1 l) (Sv.1 p)
 ·obtain⟨m,j,d,g,i⟩:=bE7 h a
  rw[i];exact .setP _ m _ _ (.inl ⟨b,rfl,rfl⟩) j d g
 ·obtain⟨m,j,d,g,i⟩:=bE7 h a
  rw[i];exact .setP _ m _ _ (.inr ⟨b,rfl,rfl⟩) j d g
 ·unfold bQ0 at a⊢
  rcases kE (n:=e.id) (f:=λm=>open Classical in if m.program=aI then(aX4 s (bs sid s.stocks e.id) m,0)else(inv0,27)) h.ss with⟨j,d⟩|⟨m,j,d,g,i⟩
  ·rw[d]at a;cases a
  ·rw[i]at a⊢
   by_cases c:m.program=aI
   ·rw[Q9 c];exact .disc _ m b d g
   ·rw[Q5 c]at a;cases a
theorem dC2(n:Int):∃k:Int,W n=n+k*18446744073709551616:=by
 simp[IntKind.wrap,IntKind.signed,IntKind.bits];split;all_goals first|exact⟨-(n/18446744073709551616),Aa⟩|exact⟨-(n/18446744073709551616)-1,Aa⟩
theorem fC5{a b:Int}(k:Int)(h:a=b+k*18446744073709551616):W a=W b:=by
 obtain⟨p,c⟩:=dC2 a;obtain⟨q,d⟩:=dC2 b;have f:=nT a;have e:=nT b
 omega
theorem bF8(a b:Int):W (W a+b)=W (a+b):=by
 obtain⟨p,c⟩:=dC2 a;exact fC5 p Aa
def cls(b:Bool)(r:Iv):Int:=if b then r.2 else r.1
def totS(b:Bool)(l:List aN):Int:=(l.map λx=>if x.isBar=b then gG x else 0).sum
def totP(b:Bool)(l:List Piece):Int:=(l.map λx=>if x.isBar=b then x.size else 0).sum
def inR(r:Iv):Prop:=∀b,W (cls b r)=cls b r
def R6(n:Int):Prop:= -9223372036854775808<=n/\n<=9223372036854775807
theorem cE6(o:Rg):0<=uK ⟨o,[]⟩:=by
 unfold uK;split
 ·rename_i h
  have a:dM o:=h.2.1 o (by simp[rings])
  have c:0<zY o:=a.2.2.2.1;have e:nG o=zY o:=Q9 a
  show 0<=W (W (2*nG o)-nG o);rw[e,Int.sub_eq_add_neg,bF8]
  have d: -9223372036854775808<=zY o/\zY o<=9223372036854775807:=by
   unfold zY
   cases b:o.length with
   |zero=>have:=a.1;omega
   |succ n=>rw[bC2];exact nT _
  rw[w_in Aa];omega
 ·exact U0 0
theorem cY9(b:Bx)(v:Vc):(jT b v).holes=[] :=by
 have key:(qO (sV (vsub b.1 v) (vsub b.2 v))).holes=[] :=by
  have a:(sV (vsub b.1 v) (vsub b.2 v)).holes=[] :=by
   unfold sV;split<;>rfl
  by_cases h:bG (sV (vsub b.1 v) (vsub b.2 v))
  ·rw[aN9 h]
   show wW _=[];unfold wW;rw[a];rfl
  ·rw[bH5 h];rfl
 exact key
theorem yP{x:aN}{r:Rest}(h:iG x r=0)(f:x.isBar=true->R6 x.bar.length):0<=gG (dZ x r)/\(dZ x r).isBar=x.isBar:=by
 unfold dZ;by_cases a:x.isBar=false
 ·rw[Q9 a]
  unfold iG at h;rw[Q9 a]at h;by_cases c:r.lo≠0\/r.hi≠0
  ·rw[Q9 c]at h;cases h
  ·rw[Q5 c]at h⊢
   refine⟨?_,a.symm⟩;show 0<=uK (remS x.sheet r.box r.id).shape;unfold remS;rw[Q9 h];show 0<=uK (jT r.box r.box.1)
   have e:jT r.box r.box.1=⟨(jT r.box r.box.1).outer,[]⟩:=by
    have:=cY9 r.box r.box.1;cases d:jT r.box r.box.1<;>simp_all
   rw[e];exact cE6 _
 ·rw[Q5 a,Q9 h]
  have b:x.isBar=true:=by cases d:x.isBar with
   |true=>rfl
   |false=>exact absurd d a
  refine⟨?_,b.symm⟩;show 0<=W (r.hi-r.lo);unfold iG at h;rw[Q5 a]at h;grind [R6,w_in]
structure Bal(s:aJ):Prop where
 sc:inR s.scrap
 eq:∀b,W (cls b s.scrap+totS b s.stocks+totP b s.pieces)=cls b s.received
 ps:∀p∈s.pieces,1<=p.size/\p.size<=9223372036854775807
 br:∀x∈s.stocks,R6 (gG x)
theorem aG4(s:aJ)(e:Event)(k:Nat)(m:aN):(cut5 s e k m).pieces=(e.cuts.map (fZ e m)).foldl (putK Piece.id) s.pieces:=by
 show e.cuts.foldl (λp x=>putP p (fZ e m x)) s.pieces=_;rw[List.foldl_map];rfl
theorem aF7(s:aJ)(e:Event)(k:Nat)(m:aN):(cut5 s e k m).stocks=(eG m e.rests).foldl (putK sid) (nN s.stocks k):=rfl
theorem yU{m:aN}{l:List Rest}(a:cZ m [] l=0){x:aN}(b:x∈eG m l):∃r∈l,x=dZ m r/\iG m r=0:=by
 grind [mV,tZ]
structure Ids(s:aJ):Prop where
 dj:∀x∈s.stocks,∀p∈s.pieces,sid x≠p.id
 par:∀p∈s.pieces,p.parent∈s.used
 rng:∀n∈s.used,nC n
theorem dP0{s:aJ}{e:Event}(b:iD e)(a:e.kind=2):appR s e=nM s ⟨true,dN,e.bar,aI⟩:=by
 simp_all [Q9,Q5,appR,bP2]
theorem dW9{s:aJ}{x:aN}(h:sid x∉s.used):nM s x=(aX7 s x,0):=by unfold nM;rw[Q5 h]
theorem bT0{s:aJ}{n:Int}{m:aN}{f:aN->aJ×Int}(b:∃m∈s.stocks,sid m=n)(a:s.stocks[bs sid s.stocks n]? =some m):aD6 s n f=f m:=by unfold aD6;rw[Q9 b,a]
theorem dR0{s:aJ}{n:Int}{f:aN->aJ×Int}(a:¬∃m∈s.stocks,sid m=n):aD6 s n f=(inv0,8):=by unfold aD6;rw[Q5 a]
theorem eM5{s:aJ}{e:Event}{m:aN}(b:iD e)(c:e.kind=3)(f:∃m∈s.stocks,sid m=e.id)(d:s.stocks[bs sid s.stocks e.id]? =some m)(a:m.program=aI):
 appR s e=(setK s (bs sid s.stocks e.id) (prog m e.text),0):=by
 simp_all [Q9,Q5,bT0,appR,bP2,relR]
theorem aY8{s:aJ}{e:Event}(b:iD e)(a:e.kind=5):appR s e=cutR s e:=by
 unfold appR bP2;simp_all
theorem dF5{s:aJ}{e:Event}(h:¬dP s.used (fO e)):cutR s e=(inv0,7):=by unfold cutR;rw[Q9 h]
theorem cF5{s:aJ}{e:Event}(h:dP s.used (fO e))(a:¬∃m∈s.stocks,sid m=e.id):cutR s e=(inv0,8):=by unfold cutR;rw[Q5 (Sv.2 h),dR0 a]
theorem bG4{s:aJ}{e:Event}{m:aN}(h:dP s.used (fO e))(b:∃m∈s.stocks,sid m=e.id)(a:s.stocks[bs sid s.stocks e.id]? =some m):
 cutR s e=open Classical in if m.program=aI then(inv0,10)else if cZ m [] e.rests≠0 then(inv0,cZ m [] e.rests)else if nJ m e≠e.scrap then(inv0,29)else(cut5 s e (bs sid s.stocks e.id) m,0):=by
 simp_all [Q5,bT0,cutR]
def kV(e:Event)(c:Int):Event:={e with scrap:=c}
theorem refused{s:aJ}{e:Event}{n:Nat}{c:Int}(h:Ok s n)(a:(appR s e).2=0)(l:e.kind=5)(p:c≠e.scrap):
 appR s (kV e c)=(inv0,29)\/appR s (kV e c)=(inv0,1):=by
 by_cases j:iD (kV e c);rotate_left
 ·right
  unfold appR;rw[Q5 j]
 left;have g:=(aZ6 h a).1;rw[aY8 g l]at a;rw[aY8 j l];by_cases b:dP s.used (fO e);rotate_left
 ·rw[dF5 b]at a;cases a
 by_cases d:∃m∈s.stocks,sid m=e.id;rotate_left
 ·rw[cF5 b d]at a;cases a
 obtain⟨m,o,u⟩:=aB8 h.ss d;rw[bG4 b d o]at a;rw[bG4 (e:=kV e c) (m:=m) b d o];by_cases i:m.program=aI
 ·rw[Q9 i]at a;cases a
 rw[Q5 i]at a⊢;have t:(kV e c).rests=e.rests:=rfl;rw[t];by_cases f:cZ m [] e.rests≠0
 ·rw[Q9 f]at a;exact absurd a f
 rw[Q5 f]at a⊢;by_cases k:nJ m e≠e.scrap
 ·rw[Q9 k]at a;cases a
 have r:nJ m (kV e c)≠(kV e c).scrap:=λq=>p (q.symm.trans (Sv.1 k));rw[Q9 r]
def nD(b:Bar):Event:=⟨2,0,aI,dN,b,[],[],0⟩
theorem no0:pJ dN:=⟨rfl,rfl,rfl,rfl,rfl,rfl,rfl⟩
theorem nob0:yT bar0:=⟨rfl,rfl,rfl,rfl,rfl⟩
theorem bM8{b:Bar}(h:fM b):iD (nD b):=
 ⟨λ_=>⟨rfl,rfl⟩,λq=>absurd (.inr rfl) q,λ_=>⟨rfl,rfl,rfl⟩,λq=>Hu,λ_=>⟨no0,h⟩,λq=>Ee,λq=>FC,λq=>Hu,show(1:Int)<=2 from Ai,show(2:Int)<=8 from Ai⟩
def uX(n:Int)(t:ByteArray):Event:=⟨3,n,t,dN,bar0,[],[],0⟩
theorem bY3{n:Int}{t:ByteArray}(h:iM t):iD (uX n t):=
 ⟨λq=>Ee,λ_=>⟨no0,nob0⟩,λ_=>⟨rfl,rfl,rfl⟩,λq=>Hu,λq=>Hu,λ_=>h,λq=>FC,λq=>Hu,show(1:Int)<=3 from Ai,show(3:Int)<=8 from Ai⟩
def xC(n:Int)(c:List Made)(r:List Rest)(z:Int):Event:=⟨5,n,aI,dN,bar0,c,r,z⟩
theorem aK5{n:Int}{c:List Made}{r:List Rest}{z:Int}(f:∀x∈c,bU7 x)(e:∀x∈r,bR4 x)(b:c.length<=60)(d:r.length<=6)(a:0<=z):iD (xC n c r z):=
 ⟨λq=>Ee,λ_=>⟨no0,nob0⟩,λq=>absurd rfl q,λq=>Hu,λq=>Hu,λq=>Ee,λq=>FC,λ_=>⟨f,e,b,d,a,rfl⟩,show(1:Int)<=5 from Ai,show(5:Int)<=8 from Ai⟩
def chB(c:UInt8):ByteArray:=⟨#[c]⟩
theorem yM{c:UInt8}(h:97<=c.toNat/\c.toNat<=122):iM (chB c):=by
 have a:byteAt (chB c) 0=(c.toNat:Int):=by unfold byteAt;rfl
 refine⟨QH 1,show(1:Nat)<=16 from Ai,?_,λi hi=>?_⟩
 ·rw[a];exact .inl Aa
 ·have b:(chB c).size=1:=rfl
  have:i=0:=Aa;subst this;rw[a];exact .inl (.inl Aa)
theorem eR5{s f:aJ}{e:Event}{n:Nat}(h:Ok s n)(i:Step s e f):Ok f (n+more e):=by
 have a:1<=more e:=GZ
 cases i with
 |recv x g j=>
  refine(dD4 h ?_ j).mono Aa;rcases g with⟨_,rfl,h⟩|⟨_,rfl,h⟩
  ·exact⟨aX9 h,Ro _⟩
  ·exact⟨xZ,QV h.2.2.2.1 Ai⟩
 |setK k m p d a b=>exact(bW3 h a p).mono Aa
 |disc k m d a b=>exact(dD6 h k m).mono Aa
 |setP k m st o d a q b=>exact(dE1 h a st o).mono Aa
 |cut k m d t c a b r l u=>exact cP7 ((aZ7 (R:=[]) (Q:=[]) h a c l (QU _).symm (QU _).symm).mono GZ) _
structure Good(s:aJ)(n:Nat):Prop where
 ok:Ok s n
 bal:Bal s
 ids:Ids s
theorem Good.mono{s:aJ}{n m:Nat}(h:Good s n)(a:n<=m):Good s m:=⟨h.ok.mono a,h.bal,h.ids⟩
def kL(s:aJ)(i:Int):List Event->aJ×Int×Int
 | [] =>(s,i,0)
 |x::l=>if(appR s x).2=0 then kL (appR s x).1 (i+1) l else(s,i,(appR s x).2)
def barS(b:Bar)(p:ByteArray):aN:=⟨true,dN,b,p⟩
def st1(b:Bar):aJ:=aX7 inv0 (barS b aI)
def st2(b:Bar)(p:ByteArray):aJ:=⟨[barS b p],[],[b.id],(0,W (0+b.length)),(0,0)⟩
theorem dI8{b:Bar}{p:ByteArray}{q:List Piece}{u:List Int}{r c:Iv}:(∃m∈(aJ.mk [barS b p] q u r c).stocks,sid m=b.id)/\(aJ.mk [barS b p] q u r c).stocks[bs sid [barS b p] b.id]? =some (barS b p)/\bs sid [barS b p] b.id=0:=by
 have a:bs sid [barS b p] b.id=0:=by
  unfold bs;have:decide (sid (barS b p)<b.id)=false:=decide_eq_false (by show¬b.id<b.id;omega)
  simp[List.takeWhile,this]
 exact⟨⟨barS b p,Ae,rfl⟩,by rw[a];rfl,a⟩
theorem dH7{b:Bar}{p:ByteArray}{x:Event}(l:fM b)(j:iM p)(k:iD x)(n:x.kind=5)(a:x.id=b.id)(e:dP [b.id] (fO x))(o:cZ (barS b p) [] x.rests=0)(t:nJ (barS b p) x=x.scrap):
 kL inv0 0 [nD b,uX b.id p,x] =(cut5 (st2 b p) x 0 (barS b p),3,0)/\appR inv0 (nD b)=(st1 b,0)/\appR (st1 b) (uX b.id p)=(st2 b p,0)/\appR (st2 b p) x=(cut5 (st2 b p) x 0 (barS b p),0):=by
 have w:appR inv0 (nD b)=(st1 b,0):=by
  rw[dP0 (bM8 l) rfl];exact dW9 (by simp[inv0])
 have v:appR (st1 b) (uX b.id p)=(st2 b p,0):=by
  obtain⟨f,g,d⟩:=dI8 (b:=b) (p:=aI) (q:=[]) (u:=[b.id]) (r:=(0,W (0+b.length))) (c:=(0,0));rw[eM5 (s:=st1 b) (bY3 j) rfl (m:=barS b aI) f g rfl];show(setK (st1 b) (bs sid [barS b aI] b.id) _,(0:Int))=_;rw[d];rfl
 have i:p≠aI:=by
  rintro rfl;exact absurd j.1 Ai
 have y:appR (st2 b p) x=(cut5 (st2 b p) x 0 (barS b p),0):=by
  obtain⟨f,g,d⟩:=dI8 (b:=b) (p:=p) (q:=[]) (u:=[b.id]) (r:=(0,W (0+b.length))) (c:=(0,0));rw[aY8 k n,bG4 (m:=barS b p) e (by rw[a];exact f) (by rw[a];exact g),Q5 (show¬(barS b p).program=aI from i),Q5 (Sv.2 o),Q5 (Sv.2 t),a]
  show(cut5 (st2 b p) x (bs sid [barS b p] b.id) _,(0:Int))=_;rw[d]
 simp_all [Q9,kL]
theorem aC6:∀(l:List Int) (n:Int),R6 n->n≠9223372036854775807->(∀c∈l,0<=c)->l.sum<=n->subL n l=n-l.sum
 | [],n,_,_,_,_=>by show n=n-0;omega
 |c::l,n,f,i,a,d=>by
  have j:=a c Ae
  have k:0<=l.sum:=by
   have key:∀(l:List Int),(∀x∈l,0<=x)->0<=l.sum:=by
    intro l
    induction l with
    |nil=>simp
    |cons x l g=>
     intro h;have o:=g (λy b=>h y (by simp[b]))
     have m:=h x Ae;rw[Tf];omega
   exact key l (λx hx=>a x BH)
  rw[Tf]at d;unfold R6 at f
  have e:sub1 n c=n-c:=by
   grind [lH,Int.min_eq_left,sub1,w_in]
  show subL (sub1 n c) l=_;rw[e,aC6 l (n-c) (by unfold R6;omega) Aa (λx hx=>a x BH) Aa,Tf]
  omega
def moreL(l:List Event):Nat:=(l.map more).sum
abbrev Len6{α:Type}(l:List α):Prop:=l.length<=9223372036854775807
def ownC(x:Event)(c r:V):List V:=[I x.kind,I x.id,S x.text,I x.sheet.id,S x.sheet.grade,S x.sheet.heat,I x.sheet.grain,rgV x.sheet.shape.outer, .sl (x.sheet.shape.holes.map rgV), .sl (x.sheet.defects.map shV),
 I x.bar.id,S x.bar.grade,S x.bar.heat,I x.bar.length, .sl (x.bar.defects.map ivV),c,r,I x.scrap]
abbrev zSheet:List V:=[I 0,S aI,S aI,I 0,nilV,nilV,nilV]
abbrev zQ:List V:=[I 0,I 0,S aI,I 0,S aI,S aI,I 0,nilV,nilV,nilV,I 0,S aI,S aI,I 0,nilV,nilV,nilV,I 0]
def bV(k:Nat):List V->V
 | [] =>nilV
 |_::l=> .arr k l.length
def bA(k:Nat)(ty:TypeId):List V->List (Nat×AE)
 | [] => []
 |x::l=> [(k,⟨l.length, .own,ty,x::l⟩)]
def eI9(x:Event):List Made->Int->St
 | [],n=>mkSt [(1, .box 1 0),(2, .box 2 0),(3, .box 3 0),(4,I n)] [(1,iJ x),(2,zQ),(3,ownC x nilV nilV)] []
 |c::C,n=>mkSt [(1, .box 1 0),(2, .box 2 0),(3, .box 3 0),(4,I n)] [(1,iJ x),(2,zQ),(3,ownC x (.arr 34 C.length) nilV)] [(34,⟨C.length, .own,95,(c::C).map dK⟩)]
def bO5(x:Event):List Made->List Rest->Int->St
 | [],[],n=>mkSt [(1, .box 1 0),(2, .box 2 0),(3, .box 3 0),(5,I n)] [(1,iJ x),(2,zQ),(3,ownC x nilV nilV)] []
 |c::C,[],n=>mkSt [(1, .box 1 0),(2, .box 2 0),(3, .box 3 0),(5,I n)] [(1,iJ x),(2,zQ),(3,ownC x (.arr 34 C.length) nilV)] [(34,⟨C.length, .own,95,(c::C).map dK⟩)]
 | [],r::R,n=>mkSt [(1, .box 1 0),(2, .box 2 0),(3, .box 3 0),(5,I n)] [(1,iJ x),(2,zQ),(3,ownC x nilV (.arr 51 R.length))] [(51,⟨R.length, .own,101,(r::R).map bY⟩)]
 |c::C,r::R,n=>mkSt [(1, .box 1 0),(2, .box 2 0),(3, .box 3 0),(5,I n)] [(1,iJ x),(2,zQ),(3,ownC x (.arr 34 C.length) (.arr 51 R.length))] [(34,⟨C.length, .own,95,(c::C).map dK⟩),(51,⟨R.length, .own,101,(r::R).map bY⟩)]
theorem bB8(x:Event)(m:x.cuts.length<=1000000)(s:x.rests.length<=1000000):Sp 41 [aS x] (aS x):=by
 refine zsp Tryz.func41 ?_;have q:(x.cuts.map dK).length=x.cuts.length:=Ae;have o:(x.rests.map bY).length=x.rests.length:=Ae
 repeat' ((conv=>whnf);first|refine zS ?_|fail)
 refine aU (A:=List Made) (B:=List Made) (λD R=>eI9 x D D.length) (λD R=>x.cuts=D++R) (λD R=>R.length) [] x.cuts ?_ rfl (λD R hp=>?_)
 ·show Le T _ (eI9 x [] 0)
  exact zj
 cases R with
 |cons c R=>
  have b:=aO hp;have n:((D++[c]).length:Int)=(D.length:Int)+1:=Ae
  cases D with
  |nil=>
   have h00:([] :List Made).length=0:=rfl
   repeat' ((conv=>whnf);first|omega|refine gX (QC rfl) (dA rfl) (show(1:Nat)<=1000000000 from Ai) ?_|refine zS ?_|refine zT ?_ ?_<;>intro _|fail)
   all_goals conv=>whnf
   refine⟨([c],R),?_,hp,Ae⟩;show Le T _ (eI9 x [c] 1);exact zj
  |cons d D=>
   have h00:(d::D).length=D.length+1:=rfl
   repeat' ((conv=>whnf);first|omega|refine mX (l:=d::D) rfl rfl (.inl rfl) rfl (QC rfl) rfl Aa ?_|refine zS ?_|refine zT ?_ ?_<;>intro _|fail)
   all_goals conv=>whnf
   refine⟨(d::(D++[c]),R),?_,Ad,Ae⟩;have f:(d::(D++[c])).map dK=(d::D).map dK++[dK c] :=Ae;have i:(D++[c]).length=D.length+1:=Ae
   show Le T _ (mkSt [(1, .box 1 0),(2, .box 2 0),(3, .box 3 0),(4,I ((d::(D++[c])).length:Nat))] [(1,iJ x),(2,zQ),(3,ownC x (.arr 34 (D++[c]).length) nilV)] [(34,⟨(D++[c]).length, .own,95,(d::(D++[c])).map dK⟩)]);rw[f,i];have g:((d::(D++[c])).length:Int)=((d::D).length:Int)+1:=Ae;rw[g];exact zj
 |nil=>
  have b:x.cuts.length=D.length:=Ad;have e:x.cuts=D:=Ad
  cases D with
  |nil=>
  ·have k:(([] :List Made)).length<=1000000:=by rw[<-e];exact m
   repeat' ((conv=>whnf);first|omega|refine zS ?_|refine zT ?_ ?_<;>intro _|fail)
   refine aU (A:=List Rest) (B:=List Rest) (λD R=>bO5 x [] D D.length) (λD R=>x.rests=D++R) (λD R=>R.length) [] x.rests ?_ rfl (λE R hp=>?_)
   ·show Le T _ (bO5 x [] [] 0)
    exact zj
   cases R with
   |cons r R=>
    have a:=aO hp
    cases E with
    |nil=>
     have h00:([] :List Rest).length=0:=rfl
     repeat' ((conv=>whnf);first|omega|refine gX (QC rfl) (dA rfl) (show(1:Nat)<=1000000000 from Ai) ?_|refine zS ?_|refine zT ?_ ?_<;>intro _|fail)
     all_goals conv=>whnf
     refine⟨([r],R),?_,hp,Ae⟩;show Le T _ (bO5 x [] [r] 1);exact zj
    |cons d E=>
     have h00:(d::E).length=E.length+1:=rfl
     repeat' ((conv=>whnf);first|omega|refine mX (l:=d::E) rfl rfl (.inl rfl) rfl (QC rfl) rfl Aa ?_|refine zS ?_|refine zT ?_ ?_<;>intro _|fail)
     all_goals conv=>whnf
     refine⟨(d::(E++[r]),R),?_,Ad,Ae⟩;have f:(d::(E++[r])).map bY=(d::E).map bY++[bY r] :=Ae;have i:(E++[r]).length=E.length+1:=Ae
     have g:((d::(E++[r])).length:Int)=((d::E).length:Int)+1:=Ae;show Le T _ (mkSt [(1, .box 1 0),(2, .box 2 0),(3, .box 3 0),(5,I ((d::(E++[r])).length:Nat))] [(1,iJ x),(2,zQ),(3,ownC x nilV (.arr 51 (E++[r]).length))] ((51,⟨(E++[r]).length, .own,101,(d::(E++[r])).map bY⟩):: []));rw[f,i,g];exact zj
   |nil=>
    have a:x.rests.length=E.length:=Ad;have j:x.rests=E:=Ad
    have ev:aS x= .agg (ownC x (.sl (([] :List Made).map dK)) (.sl (E.map bY))):=by rw[<-e,<-j];rfl
    exact OD
  |cons c C=>
  ·have k:(((c::C):List Made)).length<=1000000:=by rw[<-e];exact m
   repeat' ((conv=>whnf);first|omega|refine zS ?_|refine zT ?_ ?_<;>intro _|fail)
   refine aU (A:=List Rest) (B:=List Rest) (λD R=>bO5 x (c::C) D D.length) (λD R=>x.rests=D++R) (λD R=>R.length) [] x.rests ?_ rfl (λE R hp=>?_)
   ·show Le T _ (bO5 x (c::C) [] 0)
    exact zj
   cases R with
   |cons r R=>
    have a:=aO hp
    cases E with
    |nil=>
     have h00:([] :List Rest).length=0:=rfl
     repeat' ((conv=>whnf);first|omega|refine gX (QC rfl) (dA rfl) (show(1:Nat)<=1000000000 from Ai) ?_|refine zS ?_|refine zT ?_ ?_<;>intro _|fail)
     all_goals conv=>whnf
     refine⟨([r],R),?_,hp,Ae⟩;show Le T _ (bO5 x (c::C) [r] 1);exact zj
    |cons d E=>
     have h00:(d::E).length=E.length+1:=rfl
     repeat' ((conv=>whnf);first|omega|refine mX (l:=d::E) rfl rfl (.inl rfl) rfl (QC rfl) rfl Aa ?_|refine zS ?_|refine zT ?_ ?_<;>intro _|fail)
     all_goals conv=>whnf
     refine⟨(d::(E++[r]),R),?_,Ad,Ae⟩;have f:(d::(E++[r])).map bY=(d::E).map bY++[bY r] :=Ae;have i:(E++[r]).length=E.length+1:=Ae
     have g:((d::(E++[r])).length:Int)=((d::E).length:Int)+1:=Ae;show Le T _ (mkSt [(1, .box 1 0),(2, .box 2 0),(3, .box 3 0),(5,I ((d::(E++[r])).length:Nat))] [(1,iJ x),(2,zQ),(3,ownC x (.arr 34 C.length) (.arr 51 (E++[r]).length))] ((34,⟨C.length, .own,95,(c::C).map dK⟩)::(51,⟨(E++[r]).length, .own,101,(d::(E++[r])).map bY⟩):: []));rw[f,i,g];exact zj
   |nil=>
    have a:x.rests.length=E.length:=Ad;have j:x.rests=E:=Ad
    have ev:aS x= .agg (ownC x (.sl (((c::C):List Made).map dK)) (.sl (E.map bY))):=by rw[<-e,<-j];rfl
    exact OD
def aV5(s:Sh):Prop:=s.outer.length<=9223372036854775807/\s.holes.length<=9223372036854775807/\∀h∈s.holes,h.length<=9223372036854775807
def aA4(s:jL):Prop:=aV5 s.shape/\s.defects.length<=9223372036854775807/\∀d∈s.defects,aV5 d
structure bI1(e:Event):Prop where
 sh:aA4 e.sheet
 br:e.bar.defects.length<=9223372036854775807
 ct:e.cuts.length<=9223372036854775807
 rs:e.rests.length<=9223372036854775807
def cntS(n:Int)(l:List Rg):Int:=l.foldl (λn h=>W (n+(h.length:Int))) n
theorem dP1(n:Int)(D:List Rg)(h:Rg):cntS n (D++[h])=W (cntS n D+(h.length:Int)):=by unfold cntS;simp
def fewS(s:Sh):Prop:=s.holes.length<=3/\cntS s.outer.length s.holes<=24
def xY(s:jL):Prop:=(∀d∈s.defects,fewS d)/\s.grade.size<=40/\s.heat.size<=40/\s.defects.length<=8/\fewS s.shape
def aJ9(b:Bar):Prop:=b.grade.size<=40/\b.heat.size<=40/\b.defects.length<=10
def fewE(e:Event):Prop:=(e.cuts.length<=12/\e.rests.length<=8/\e.text.size<=40/\xY e.sheet/\aJ9 e.bar)/\∀c∈e.cuts,c.part.size<=40
def fewL(l:List Event)(n:Int):Prop:=(∀e∈l,fewE e)/\(l.length:Int)<=n
theorem bR9(s:Sh)(l:aV5 s):Sp 70 [shV s] (DB (fewS s)):=by
 refine zsp Tryz.func70 ?_;obtain⟨o,k,d⟩:=l;have c:(s.outer.map vcV).length=s.outer.length:=Ae;have j:(s.holes.map rgV).length=s.holes.length:=Ae
 have b:fewS s↔s.holes.length<=3/\cntS s.outer.length s.holes<=24:=Rt;generalize fewS s=P at*
 repeat' ((conv=>whnf);first|refine zS ?_|fail)
 refine aU (A:=List Rg) (B:=List Rg) (λD R=>mkSt [(1, .box 1 0),(3,I (cntS s.outer.length D)),(4,I D.length)] [(1,(shV s).cells)] []) (λD R=>s.holes=D++R) (λD R=>R.length) [] s.holes ?_ rfl (λD R hp=>?_)
 ·show Le _ _ (mkSt [(1, .box 1 0),(3,I (s.outer.length:Int)),(4,I 0)] [(1,(shV s).cells)] [])
  rw[<-c];exact zj
 cases R with
 |cons h R=>
  have q:=dP1 s.outer.length D;generalize cntS (s.outer.length:Int) D=n at*;have a:=aO hp
  have i:h.length<=9223372036854775807:=d h Ad;have f:(h.map vcV).length=h.length:=Ae
  have m:=q h
  repeat' ((conv=>whnf);first|omega|refine zS ?_|refine zT ?_ ?_<;>intro _|fail)
  all_goals conv=>whnf
  refine⟨(D++[h],R),?_,Ad,Ae⟩;simp only[QG,QK,m];rw[<-f];show Le _ _ (mkSt [(1, .box 1 0),(3,I (W (n+((h.map vcV).length:Int)))),(4,I ((D.length:Int)+1))] [(1,(shV s).cells)] []);exact zj
 |nil=>
  have a:s.holes.length=D.length:=Ad;have e:s.holes=D:=Ad
  have g:cntS (s.outer.length:Int) s.holes=cntS (s.outer.length:Int) D:=Il;rw[g]at b;generalize cntS (s.outer.length:Int) D=n at*;clear hp e g
  repeat' ((conv=>whnf);first|omega|refine zS ?_|refine zT ?_ ?_<;>intro _|fail)
  all_goals conv=>whnf
  ·exact aA (le_dec ⟨λh=>b.2 ⟨Aa,h⟩,λh=>(b.1 h).2⟩)
  ·exact aA (aC λh=>by have:=(b.1 h).1;omega)
theorem bM5(s:jL)(l:aA4 s):Sp 37 [zJ s] (DB (xY s)):=by
 refine zsp Tryz.func37 ?_;obtain⟨g,k,f⟩:=l;have m:(s.defects.map shV).length=s.defects.length:=Ae;have e:xY s↔(∀d∈s.defects,fewS d)/\s.grade.size<=40/\s.heat.size<=40/\s.defects.length<=8/\fewS s.shape:=Rt
 have u:=bR9 s.shape g;generalize xY s=P at*;generalize fewS s.shape=o at*
 repeat' ((conv=>whnf);first|refine zS ?_|fail)
 refine aU (A:=List Sh) (B:=List Sh) (λD R=>mkSt [(1, .box 1 0),(3,I D.length)] [(1,aA7 s)] []) (λD R=>s.defects=D++R/\∀d∈D,fewS d) (λD R=>R.length) [] s.defects ?_ ⟨rfl,Ae⟩ (λD R hp=>?_)
 ·exact zj
 obtain⟨hp,i⟩:=hp
 cases R with
 |cons d R=>
  have a:=aO hp;have c:d∈s.defects:=Ad
  have q:=bR9 d (f d c);have t:fewS d↔fewS d:=Rt
  generalize j:fewS d=r at*
  repeat' ((conv=>whnf);first|omega|refine zS ?_|refine zT ?_ ?_<;>intro _|fail)
  all_goals conv=>whnf
  all_goals first
   |exact aA (aC λh=>absurd ((e.1 h).1 d c) (by rw[j];assumption))
   |skip
  refine⟨(D++[d],R),?_,⟨Ad,λz b=>?_⟩,Ae⟩
  ·exact I8
  ·rcases QJ.1 b with b|b
   ·exact i z b
   ·rw[QI.1 b,j];assumption
 |nil=>
  have a:s.defects.length=D.length:=Ad;have n:∀d∈s.defects,fewS d:=λd h=>i d BF
  clear hp i
  repeat' ((conv=>whnf);first|omega|refine zS ?_|refine zT ?_ ?_<;>intro _|fail)
  all_goals conv=>whnf
  all_goals first
   |exact aA (aC λh=>by have:=(e.1 h).2;omega)
   |exact aA (fQ ⟨λh=>e.2 ⟨n,Aa,Aa,Aa,h⟩,λh=>(e.1 h).2.2.2.2⟩)
theorem aT9(b:Bar):Sp 38 [barV b] (DB (aJ9 b)):=by
 refine zsp Tryz.func38 ?_;have c:(b.defects.map ivV).length=b.defects.length:=Ae;have a:aJ9 b↔b.grade.size<=40/\b.heat.size<=40/\b.defects.length<=10:=Rt
 generalize aJ9 b=P at*
 repeat' ((conv=>whnf);first|refine zS ?_|refine zT ?_ ?_<;>intro _|fail)
 all_goals conv=>whnf
 all_goals first
  |exact aA (aC λh=>by have:=(a.1 h);omega)
  |exact aA (le_dec ⟨λh=>a.2 ⟨Aa,Aa,Aa⟩,λh=>by have:=(a.1 h).2.2;omega⟩)
theorem aS2(l:List Event)(n:Int)(J:l.length<=9223372036854775807)(C:∀e∈l,bI1 e):Sp 11 [.sl (l.map aS),I n] (DB (fewL l n)):=by
 refine zsp Tryz.func11 ?_;have K:(l.map aS).length=l.length:=Ae;have v:fewL l n↔(∀e∈l,fewE e)/\(l.length:Int)<=n:=Rt
 generalize fewL l n=P at*
 repeat' ((conv=>whnf);first|refine zS ?_|fail)
 refine aU (A:=List Event) (B:=List Event) (λD R=>mkSt [(0, .sl (l.map aS)),(1,I n),(5,I D.length)] [] []) (λD R=>l=D++R/\∀d∈D,fewE d) (λD R=>R.length) [] l ?_ ⟨rfl,Ae⟩ (λD R hp=>?_)
 ·exact zj
 obtain⟨hp,q⟩:=hp
 cases R with
 |cons e R=>
  have j:=aO hp;have o:e∈l:=Ad
  obtain⟨w,N,O,L⟩:=C e o;have G:=bM5 e.sheet w;have F:=aT9 e.bar
  have x:(e.cuts.map dK).length=e.cuts.length:=Ae;have y:(e.rests.map bY).length=e.rests.length:=Ae
  have k:fewE e↔(e.cuts.length<=12/\e.rests.length<=8/\e.text.size<=40/\xY e.sheet/\aJ9 e.bar)/\∀c∈e.cuts,c.part.size<=40:=Rt;have b:P->fewE e:=λh=>(v.1 h).1 e o
  have t:fewE e->∀d∈D++[e],fewE d:=λh d i=>by
   rcases QJ.1 i with i|i
   ·exact q d i
   ·rw[QI.1 i];exact h
  generalize fewE e=Q at*;generalize xY e.sheet=M at*;generalize aJ9 e.bar=H at*
  repeat' ((conv=>whnf);first|omega|refine zS ?_|refine zd (λi=>?_) (λi=>?_)|refine zl (λa=>?_) (λa=>?_))
  all_goals conv=>whnf
  all_goals first
   |exact aA (aC λh=>by have:=(k.1 (b h)).1;omega)
   |exact aA (aC λh=>absurd (k.1 (b h)).1.2.2.2.1 Ag)
   |exact aA (aC λh=>absurd (k.1 (b h)).1.2.2.2.2 Ag)
   |skip
  refine aU (A:=List Made) (B:=List Made) (λE S=>mkSt [(0, .sl (l.map aS)),(1,I n),(5,I D.length),(6,I E.length)] [] []) (λE S=>e.cuts=E++S/\∀c∈E,c.part.size<=40) (λE S=>S.length) [] e.cuts ?_ ⟨rfl,Ae⟩ (λE S f=>?_)
  ·exact zj
  obtain⟨f,r⟩:=f
  cases S with
  |cons c S=>
   have g:=aO f;have s:c∈e.cuts:=by rw[f];simp
   repeat' ((conv=>whnf);first|omega|refine zS ?_|refine zl (λa=>?_) (λa=>?_))
   all_goals conv=>whnf
   all_goals first
    |exact aA (aC λh=>by have:=(k.1 (b h)).2 c s;omega)
    |skip
   refine⟨(E++[c],S),?_,⟨by rw[f];simp,λz m=>?_⟩,Ae⟩
   ·exact I8
   ·rcases QJ.1 m with m|m
    ·exact r z m
    ·rw[QI.1 m];omega
  |nil=>
   have g:e.cuts.length=E.length:=by rw[f];simp
   have u:∀c∈e.cuts,c.part.size<=40:=λc h=>r c (by rw[f,QU]at h;exact h)
   clear f r
   repeat' ((conv=>whnf);first|omega|refine zS ?_|refine zl (λa=>?_) (λa=>?_))
   all_goals conv=>whnf
   refine⟨(D++[e],R),?_,⟨Ad,t (k.2 ⟨⟨Aa,Aa,Aa,Ag,Ag⟩,u⟩)⟩,Ae⟩;exact MQ
 |nil=>
  have j:l.length=D.length:=Ad;have u:∀d∈l,fewE d:=λd h=>q d BF
  clear hp q
  repeat' ((conv=>whnf);first|omega|refine zS ?_|refine zl (λa=>?_) (λa=>?_))
  all_goals conv=>whnf
  exact aA (le_dec ⟨λh=>v.2 ⟨u,Aa⟩,λh=>by have:=(v.1 h).2;omega⟩)
end Go.Proofs.Led
