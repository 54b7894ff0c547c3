/-
  Equal states, as the reference compares them.
-/
import Derived.Test.YtkhhdojgbkophaaGreatQB26
set_option linter.unusedVariables false
set_option linter.unusedSimpArgs false
set_option maxRecDepth 100000
set_option maxHeartbeats 8000000
noncomputable section
namespace Go.Proofs.Led
open Go Go.Proofs Go.Ab
theorem eqPc(i1 i2 i6 i8 j1 j2 j6 j8:Int)(s3 s4 s5 s9 t3 t4 t5 t9:ByteArray)(b c:Bool):eqT T 4 98 [I i1,I i2,S s3,S s4,S s5,I i6,B b,I i8,S s9] [I j1,I j2,S t3,S t4,S t5,I j6,B c,I j8,S t9] =
 some (andB (eqB i1 j1) (andB (eqB i2 j2) (andB (eqSB s3 t3) (andB (eqSB s4 t4) (andB (eqSB s5 t5) (andB (eqB i6 j6) (andB (eqBB b c) (andB (eqB i8 j8) (andB (eqSB s9 t9) true))))))))):=Ad
theorem dR2{a b:Piece}:a=b↔a.id=b.id/\a.parent=b.parent/\a.part=b.part/\a.grade=b.grade/\a.heat=b.heat/\a.size=b.size/\a.isBar=b.isBar/\a.status=b.status/\a.order=b.order:=by
 constructor
 ·rintro rfl;exact⟨rfl,rfl,rfl,rfl,rfl,rfl,rfl,rfl,rfl⟩
 ·obtain⟨⟩:=a;obtain⟨⟩:=b;rintro⟨h1,h2,h3,h4,h5,h6,h7,h8,h9⟩;simp only at h1 h2 h3 h4 h5 h6 h7 h8 h9;rw[h1,h2,h3,h4,h5,h6,h7,h8,h9]
theorem eV1{a b:Piece}:andB (eqB a.id b.id) (andB (eqB a.parent b.parent) (andB (eqSB a.part b.part) (andB (eqSB a.grade b.grade) (andB (eqSB a.heat b.heat) (andB (eqB a.size b.size) (andB (eqBB a.isBar b.isBar) (andB (eqB a.status b.status) (andB (eqSB a.order b.order) true))))))))=true↔a=b:=by
 rw[dR2];simp only[dE9,aA1,eK9,cA1,beq_iff_eq,and_true]
theorem bU0{x:aN}(h:eY x):bK9 x:=by
 obtain⟨⟨⟨a1,a2,a3⟩,b1,b2⟩,c⟩:=h
 exact⟨⟨⟨Aa,Aa,fun r hr=>by have:=a3 r hr;omega⟩,Aa,fun d hd=>by
  obtain⟨q1,q2,q3⟩:=b2 d hd;exact⟨Aa,Aa,fun r hr=>by have:=q3 r hr;omega⟩⟩,by show _<=_;omega⟩
theorem cC8(n:Int)(x:Piece):Sp 86 [aZ x, .fp [I n]] (DB (x.id=n)):=by
 refine zsp Tryz.func86 ?_;exact S9
theorem bZ9(n:Int)(x:aN):Sp 88 [aQ x, .fp [I n]] (DB (sid x=n)):=by
 refine zsp Tryz.func88 ?_;have h1:=aE2 x;exact S9
theorem fB2{g:FuncId}{c:List V}{Q:Piece->Prop}(hg:∀m,Sp g (aZ m:: [.fp c]) (DB (Q m)))(l:List Piece)(hl:l.length<=1000000):fnVC T Tryz.prog Tryz.f85 [.sl (l.map aZ), .fn g [.fp c]] (I (fstI Q l)):=by
 have hll:(l.map aZ).length=l.length:=Af
 repeat' ((conv=>whnf);first|refine zS ?_|fail)
 refine aU (A:=List Piece) (B:=List Piece) (fun D R=>mkSt [(0, .sl (l.map aZ)),(1, .fn g [.fp c]),(7,I l.length),(8,I D.length)] [] [])
  (fun D R=>l=D++R/\∀m∈D,¬Q m) (fun D R=>R.length) [] l ?_ ⟨rfl,Af⟩ (fun D R hp=>?_)
 ·exact zj
 ·exact J6
theorem dY3{g:FuncId}{c:List V}{Q:Piece->Prop}(hg:∀m,Sp g (aZ m:: [.fp c]) (DB (Q m)))(l:List Piece)(hl:l.length<=1000000):Sp 85 [.sl (l.map aZ), .fn g [.fp c]] (I (fstI Q l)):=zsp Tryz.func85 (fB2 hg l hl)
theorem fA9{g:FuncId}{c:List V}{Q:aN->Prop}(hg:∀m,Sp g (aQ m:: [.fp c]) (DB (Q m)))(l:List aN)(hl:l.length<=1000000):fnVC T Tryz.prog Tryz.f87 [.sl (l.map aQ), .fn g [.fp c]] (I (fstI Q l)):=by
 have hll:(l.map aQ).length=l.length:=Af
 repeat' ((conv=>whnf);first|refine zS ?_|fail)
 refine aU (A:=List aN) (B:=List aN) (fun D R=>mkSt [(0, .sl (l.map aQ)),(1, .fn g [.fp c]),(7,I l.length),(8,I D.length)] [] [])
  (fun D R=>l=D++R/\∀m∈D,¬Q m) (fun D R=>R.length) [] l ?_ ⟨rfl,Af⟩ (fun D R hp=>?_)
 ·exact zj
 ·exact J6
theorem eH2{g:FuncId}{c:List V}{Q:aN->Prop}(hg:∀m,Sp g (aQ m:: [.fp c]) (DB (Q m)))(l:List aN)(hl:l.length<=1000000):Sp 87 [.sl (l.map aQ), .fn g [.fp c]] (I (fstI Q l)):=zsp Tryz.func87 (fA9 hg l hl)
def piece0:Piece:=⟨0,0,aI,aI,aI,0,false,0,aI⟩
def bF5(s:aJ)(n:Int):aN:=(s.stocks[fst (fun x=>sid x=n) s.stocks]?).getD wS
def bF0(s:aJ)(n:Int):Piece:=(s.pieces[fst (fun x=>x.id=n) s.pieces]?).getD piece0
theorem eD1{α:Type}{Q:α->Prop}{l:List α}:fst Q l<l.length↔∃m∈l,Q m:=by
 by_cases h:fst Q l<l.length
 ·refine⟨fun _=>?_,fun _=>h⟩
  apply Classical.byContradiction;intro hn;exact iO.2 (fun m hm hq=>hn ⟨m,hm,hq⟩) h
 ·refine⟨fun q=>absurd q h,fun⟨m,hm,hq⟩=>absurd hq (iO.1 h m hm)⟩
theorem bH9(s:aJ)(n:Int)(hl:s.stocks.length<=1000000):Sp 31 [invV s,I n] (.tup [aQ (bF5 s n),DB (∃m∈s.stocks,sid m=n)]):=by
 refine zsp Tryz.func31 ?_;have h1:=eH2 (c:=[I n]) (fun x=>bZ9 n x) s.stocks hl;have hs:bF5 s n=(s.stocks[fst (fun x=>sid x=n) s.stocks]?).getD wS:=rfl
 have hlt:=eD1 (Q:=fun x:aN=>sid x=n) (l:=s.stocks);have hi:fstI (fun x:aN=>sid x=n) s.stocks=if fst (fun x=>sid x=n) s.stocks<s.stocks.length then(fst (fun x=>sid x=n) s.stocks:Int)else-1:=rfl
 generalize fstI (fun x:aN=>sid x=n) s.stocks=z at*;generalize fst (fun x:aN=>sid x=n) s.stocks=k at*;generalize (∃m∈s.stocks,sid m=n)=P at*;have hm:(s.stocks.map aQ).length=s.stocks.length:=Af
 conv=>whnf
 refine dJ4 Unit (fun _=>mkSt [(2, .box 2 0),(3, .fp [I n]),(4, .box 4 0),(5,B false)] [(2,invC s),(4,dA5)] []) (fun _=>True) ?_ ?_
 ·exact JW
 intro _ _;by_cases c:k<s.stocks.length
 ·rw[if_pos c]at hi
  have hP:P:=hlt.1 c;have hg:s.stocks[k]? =some (bF5 s n):=Dl
  rw[hi]at h1
  repeat' ((conv=>whnf);first|(exfalso;omega)|refine zS ?_|refine zl (fun hlt=>?_) (fun hlt=>?_))
  all_goals conv=>whnf
  exact PW
 ·rw[if_neg c]at hi
  have hP:¬P:=fun h=>c (hlt.2 h);have hg:bF5 s n=wS:=CB
  rw[hi]at h1;rw[hg]
  repeat' ((conv=>whnf);first|(exfalso;omega)|refine zS ?_|refine zl (fun hlt=>?_) (fun hlt=>?_))
  all_goals conv=>whnf
  exact PX
theorem bG3(s:aJ)(n:Int)(hl:s.pieces.length<=1000000):Sp 30 [invV s,I n] (.tup [aZ (bF0 s n),DB (∃m∈s.pieces,m.id=n)]):=by
 refine zsp Tryz.func30 ?_;have h1:=dY3 (c:=[I n]) (fun x=>cC8 n x) s.pieces hl;have hs:bF0 s n=(s.pieces[fst (fun x=>x.id=n) s.pieces]?).getD piece0:=rfl
 have hlt:=eD1 (Q:=fun x:Piece=>x.id=n) (l:=s.pieces);have hi:fstI (fun x:Piece=>x.id=n) s.pieces=if fst (fun x=>x.id=n) s.pieces<s.pieces.length then(fst (fun x=>x.id=n) s.pieces:Int)else-1:=rfl
 generalize fstI (fun x:Piece=>x.id=n) s.pieces=z at*;generalize fst (fun x:Piece=>x.id=n) s.pieces=k at*;generalize (∃m∈s.pieces,m.id=n)=P at*;have hm:(s.pieces.map aZ).length=s.pieces.length:=Af
 conv=>whnf
 refine dJ4 Unit (fun _=>mkSt [(2, .box 2 0),(3, .fp [I n]),(4, .box 4 0),(5,B false)] [(2,invC s),(4,dZ8 piece0)] []) (fun _=>True) ?_ ?_
 ·exact JW
 intro _ _;by_cases c:k<s.pieces.length
 ·rw[if_pos c]at hi
  have hP:P:=hlt.1 c;have hg:s.pieces[k]? =some (bF0 s n):=Dl
  rw[hi]at h1
  repeat' ((conv=>whnf);first|(exfalso;omega)|refine zS ?_|refine zl (fun hlt=>?_) (fun hlt=>?_))
  all_goals conv=>whnf
  exact PW
 ·rw[if_neg c]at hi
  have hP:¬P:=fun h=>c (hlt.2 h);have hg:bF0 s n=piece0:=CB
  rw[hi]at h1;rw[hg]
  repeat' ((conv=>whnf);first|(exfalso;omega)|refine zS ?_|refine zl (fun hlt=>?_) (fun hlt=>?_))
  all_goals conv=>whnf
  exact PX
theorem first_split{α:Type}{Q:α->Prop}:∀ {l:List α},(∃m∈l,Q m)->∃D x R,l=D++x::R/\(∀y∈D,¬Q y)/\Q x
 | [],h=>by obtain⟨m,hm,_⟩:=h;cases hm
 |y::l,h=>by
  by_cases hy:Q y
  ·exact⟨[],y,l,rfl,Af,hy⟩
  ·obtain⟨D,x,R,e,h1,h2⟩:=first_split (Q:=Q) (l:=l) (by
    obtain⟨m,hm,hq⟩:=h;rcases List.mem_cons.1 hm with rfl|hm
    ·exact absurd hq hy
    ·exact⟨m,hm,hq⟩)
   refine⟨y::D,x,R,by rw[e];rfl,fun z hz=>?_,h2⟩
   rcases List.mem_cons.1 hz with rfl|hz
   ·exact hy
   ·exact h1 z hz
theorem firstI_fst{α:Type}{key:α->Int}{n:Int}(l:List α):aC2 key l n=fstI (fun x=>key x=n) l:=by
 by_cases h:∃m∈l,key m=n
 ·obtain⟨D,x,R,rfl,hD,hx⟩:=first_split h
  rw[fI9 hD hx];unfold fstI;have e:fst (fun x=>key x=n) (D++x::R)=D.length:=wH (fun y hy=>by rw[dW.2 (hD y hy)];rfl) (by rw[dH.2 hx];rfl)
  rw[e,if_pos Af]
 ·rw[aB5 (fun x hx q=>h ⟨x,hx,q⟩)]
  unfold fstI;rw[if_neg (iO.2 (fun m hm q=>h ⟨m,hm,q⟩))]
theorem rFindS_spec(s:aJ)(n:Int)(hl:s.stocks.length<=1000000):Sp 34 [invV s,I n] (.tup [aQ (bF5 s n),DB (∃m∈s.stocks,sid m=n)]):=by
 refine zsp Tryz.func34 ?_;have h1:=fZ7 s n hl;rw[firstI_fst]at h1;have hs:bF5 s n=(s.stocks[fst (fun x=>sid x=n) s.stocks]?).getD wS:=rfl
 have hlt:=eD1 (Q:=fun x:aN=>sid x=n) (l:=s.stocks);have hi:fstI (fun x:aN=>sid x=n) s.stocks=if fst (fun x=>sid x=n) s.stocks<s.stocks.length then(fst (fun x=>sid x=n) s.stocks:Int)else-1:=rfl
 generalize fstI (fun x:aN=>sid x=n) s.stocks=z at*;generalize fst (fun x:aN=>sid x=n) s.stocks=k at*;generalize (∃m∈s.stocks,sid m=n)=P at*;have hm:(s.stocks.map aQ).length=s.stocks.length:=Af
 by_cases c:k<s.stocks.length
 ·rw[if_pos c]at hi
  have hP:P:=hlt.1 c;have hg:s.stocks[k]? =some (bF5 s n):=Dl
  rw[hi]at h1;generalize bF5 s n=x at*
  repeat' ((conv=>whnf);first|(exfalso;omega)|refine zS ?_|refine zd (fun hd=>?_) (fun hd=>?_)|refine zl (fun hlt=>?_) (fun hlt=>?_)|refine zk (fun hle=>?_) (fun hle=>?_)|refine ze (fun heq=>?_) (fun heq=>?_)|refine zm (fun x hx=>?_)|refine zb (fun hbb=>?_) (fun hbb=>?_))
  all_goals conv=>whnf
  exact PW
 ·rw[if_neg c]at hi
  have hP:¬P:=fun h=>c (hlt.2 h);have hg:bF5 s n=wS:=CB
  rw[hi]at h1;rw[hg]
  repeat' ((conv=>whnf);first|(exfalso;omega)|refine zS ?_|refine zd (fun hd=>?_) (fun hd=>?_)|refine zl (fun hlt=>?_) (fun hlt=>?_)|refine zk (fun hle=>?_) (fun hle=>?_)|refine ze (fun heq=>?_) (fun heq=>?_)|refine zm (fun x hx=>?_)|refine zb (fun hbb=>?_) (fun hbb=>?_))
  all_goals conv=>whnf
  exact PX
theorem rFindP_spec(s:aJ)(n:Int)(hl:s.pieces.length<=1000000):Sp 35 [invV s,I n] (.tup [aZ (bF0 s n),DB (∃m∈s.pieces,m.id=n)]):=by
 refine zsp Tryz.func35 ?_;have h1:=fO3 s n hl;rw[firstI_fst]at h1;have hs:bF0 s n=(s.pieces[fst (fun x=>x.id=n) s.pieces]?).getD piece0:=rfl
 have hlt:=eD1 (Q:=fun x:Piece=>x.id=n) (l:=s.pieces);have hi:fstI (fun x:Piece=>x.id=n) s.pieces=if fst (fun x=>x.id=n) s.pieces<s.pieces.length then(fst (fun x=>x.id=n) s.pieces:Int)else-1:=rfl
 generalize fstI (fun x:Piece=>x.id=n) s.pieces=z at*;generalize fst (fun x:Piece=>x.id=n) s.pieces=k at*;generalize (∃m∈s.pieces,m.id=n)=P at*;have hm:(s.pieces.map aZ).length=s.pieces.length:=Af
 by_cases c:k<s.pieces.length
 ·rw[if_pos c]at hi
  have hP:P:=hlt.1 c;have hg:s.pieces[k]? =some (bF0 s n):=Dl
  rw[hi]at h1;generalize bF0 s n=x at*
  repeat' ((conv=>whnf);first|(exfalso;omega)|refine zS ?_|refine zd (fun hd=>?_) (fun hd=>?_)|refine zl (fun hlt=>?_) (fun hlt=>?_)|refine zk (fun hle=>?_) (fun hle=>?_)|refine ze (fun heq=>?_) (fun heq=>?_)|refine zm (fun x hx=>?_)|refine zb (fun hbb=>?_) (fun hbb=>?_))
  all_goals conv=>whnf
  exact PW
 ·rw[if_neg c]at hi
  have hP:¬P:=fun h=>c (hlt.2 h);have hg:bF0 s n=piece0:=CB
  rw[hi]at h1;rw[hg]
  repeat' ((conv=>whnf);first|(exfalso;omega)|refine zS ?_|refine zd (fun hd=>?_) (fun hd=>?_)|refine zl (fun hlt=>?_) (fun hlt=>?_)|refine zk (fun hle=>?_) (fun hle=>?_)|refine ze (fun heq=>?_) (fun heq=>?_)|refine zm (fun x hx=>?_)|refine zb (fun hbb=>?_) (fun hbb=>?_))
  all_goals conv=>whnf
  exact PX
abbrev C3:Type:=Int×Int×Int
open Classical in
def cnt1(t:ByteArray)(c:C3)(x:Piece):C3:=if x.part=t then(if x.status=1 then(W (c.1+1),c.2.1,c.2.2)else if x.status=2 then(c.1,W (c.2.1+1),c.2.2)else if x.status=3 then(c.1,c.2.1,W (c.2.2+1))else c)else c
def cntL(t:ByteArray)(l:List Piece):C3:=l.foldl (cnt1 t) (0,0,0)
theorem cntL_snoc(t:ByteArray)(D:List Piece)(x:Piece):cntL t (D++[x])=cnt1 t (cntL t D) x:=by unfold cntL;simp
def c3V(c:C3):V:= .agg [I c.1,I c.2.1,I c.2.2]
theorem rcount_spec(s:aJ)(t:ByteArray)(hl:s.pieces.length<=1000000):Sp 40 [invV s,S t] (c3V (cntL t s.pieces)):=by
 refine zsp Tryz.func40 ?_;have hm:(s.pieces.map aZ).length=s.pieces.length:=Af
 repeat' ((conv=>whnf);first|(exfalso;omega)|refine zS ?_|refine zm (fun x hx=>?_)|refine zT ?_ ?_<;>intro _|fail)
 refine aU (A:=List Piece) (B:=List Piece) (fun D R=>mkSt [(1,S t),(2, .box 2 0),(4, .box 4 0),(5, .box 5 0),(0, .bot),(6,I D.length)] [(2,invC s),(4,[I 0,I 0,I 0]),(5,[I (cntL t D).1,I (cntL t D).2.1,I (cntL t D).2.2])] []) (fun D R=>s.pieces=D++R) (fun D R=>R.length) [] s.pieces ?_ rfl (fun D R hp=>?_)
 ·exact Me
 cases R with
 |cons x R=>exact J7
 |nil=>exact KR
theorem count_spec(s:aJ)(t:ByteArray)(hl:s.pieces.length<=1000000):Sp 39 [invV s,S t] (c3V (cntL t s.pieces)):=by
 refine zsp Tryz.func39 ?_;have hm:(s.pieces.map aZ).length=s.pieces.length:=Af
 repeat' ((conv=>whnf);first|(exfalso;omega)|refine zS ?_|refine zm (fun x hx=>?_)|refine zT ?_ ?_<;>intro _|fail)
 refine aU (A:=List Piece) (B:=List Piece) (fun D R=>mkSt [(1,S t),(2, .box 2 0),(4, .box 4 0),(5, .box 5 0),(9, .sl (s.pieces.map aZ)),(10,I s.pieces.length),(11,I D.length)] [(2,invC s),(4,[I 0,I 0,I 0]),(5,[I (cntL t D).1,I (cntL t D).2.1,I (cntL t D).2.2])] []) (fun D R=>s.pieces=D++R) (fun D R=>R.length) [] s.pieces ?_ rfl (fun D R hp=>?_)
 ·exact Me
 cases R with
 |cons x R=>exact J7
 |nil=>exact KR
theorem rbalanced_spec(s:aJ)(hl1:s.stocks.length<=1000000)(hl2:s.pieces.length<=1000000)(hz:∀x∈s.stocks,eY x):Sp 41 [invV s] (DB (tK s)):=by
 refine zsp Tryz.func41 ?_;have hm1:(s.stocks.map aQ).length=s.stocks.length:=Af;have hm2:(s.pieces.map aZ).length=s.pieces.length:=Af
 have hr:upP (upS s.scrap s.stocks) s.pieces=s.received↔tK s:=Iff.rfl;generalize tK s=P at*
 repeat' ((conv=>whnf);first|(exfalso;omega)|refine zS ?_|refine zm (fun x hx=>?_)|refine zT ?_ ?_<;>intro _|fail)
 refine aU (A:=List aN) (B:=List aN) (fun D R=>mkSt [(1, .box 1 0),(3, .box 3 0),(4,I D.length)] [(1,invC s),(3,[I (upS s.scrap D).1,I (upS s.scrap D).2])] []) (fun D R=>s.stocks=D++R) (fun D R=>R.length) [] s.stocks ?_ rfl (fun D R hp=>?_)
 ·exact zj
 cases R with
 |cons x R=>
  have hlen:=aO hp;have g1:=fG6 x.isBar
  have g2:=fJ6 x (hz x Ac);have hsn:=eC9 s.scrap D x
  have hlD:((D++[x]).length:Int)=(D.length:Int)+1:=Af;generalize upS s.scrap D=r at*;generalize gG x=z at*;unfold plus at hsn;obtain⟨b,sh,br,p⟩:=x;cases b;all_goals simp only[if_true,Bool.false_eq_true,if_false]at hsn
  ·repeat' ((conv=>whnf);first|(exfalso;omega)|refine eZ1 Ak ?_|refine cC0 [(1,1),(15,1),(24,1),(22,3),(31,3),(3,3)] Ae Ak ?_|refine zS ?_|refine zm (fun x hx=>?_)|refine zT ?_ ?_<;>intro _|fail)
   all_goals conv=>whnf
   refine⟨(D++[⟨false,sh,br,p⟩],R),?_,Ac,Af⟩;exact Qc
  ·repeat' ((conv=>whnf);first|(exfalso;omega)|refine eZ1 Ak ?_|refine cC0 [(1,1),(15,1),(24,1),(22,3),(31,3),(3,3)] Ae Ak ?_|refine zS ?_|refine zm (fun x hx=>?_)|refine zT ?_ ?_<;>intro _|fail)
   all_goals conv=>whnf
   refine⟨(D++[⟨true,sh,br,p⟩],R),?_,Ac,Af⟩;exact Qc
 |nil=>
  have hlen:s.stocks.length=D.length:=Ac;have e:s.stocks=D:=Ac
  rw[e]at hr;generalize upS s.scrap D=r0 at*
  repeat' ((conv=>whnf);first|(exfalso;omega)|refine zS ?_|refine zm (fun x hx=>?_)|refine zT ?_ ?_<;>intro _|fail)
  clear hp;refine aU (A:=List Piece) (B:=List Piece) (fun D R=>mkSt [(1, .box 1 0),(3, .box 3 0),(5,I D.length)] [(1,invC s),(3,[I (upP r0 D).1,I (upP r0 D).2])] []) (fun D R=>s.pieces=D++R) (fun D R=>R.length) [] s.pieces ?_ rfl (fun D R hp=>?_)
  ·exact zj
  cases R with
  |cons x R=>
   have hlen2:=aO hp;have g1:=fG6 x.isBar
   have hsn:=eL4 r0 D x;have hlD:((D++[x]).length:Int)=(D.length:Int)+1:=Af
   generalize upP r0 D=r at*;unfold plus at hsn;obtain⟨i1,i2,i3,i4,i5,i6,b,i8,i9⟩:=x;cases b;all_goals simp only[if_true,Bool.false_eq_true,if_false]at hsn
   ·repeat' ((conv=>whnf);first|(exfalso;omega)|refine eZ1 Ak ?_|refine cC0 [(1,1),(39,1),(48,1),(46,3),(55,3),(3,3)] Ae Ak ?_|refine zS ?_|refine zm (fun x hx=>?_)|refine zT ?_ ?_<;>intro _|fail)
    all_goals conv=>whnf
    refine⟨(D++[⟨i1,i2,i3,i4,i5,i6,false,i8,i9⟩],R),?_,Ac,Af⟩;exact Qc
   ·repeat' ((conv=>whnf);first|(exfalso;omega)|refine eZ1 Ak ?_|refine cC0 [(1,1),(39,1),(48,1),(46,3),(55,3),(3,3)] Ae Ak ?_|refine zS ?_|refine zm (fun x hx=>?_)|refine zT ?_ ?_<;>intro _|fail)
    all_goals conv=>whnf
    refine⟨(D++[⟨i1,i2,i3,i4,i5,i6,true,i8,i9⟩],R),?_,Ac,Af⟩;exact Qc
  |nil=>
   have hlen2:s.pieces.length=D.length:=Ac;have e2:s.pieces=D:=Ac
   rw[e2]at hr;generalize upP r0 D=r1 at*
   repeat' ((conv=>whnf);first|(exfalso;omega)|refine eqIv_i ?_|refine zS ?_|refine zm (fun x hx=>?_)|refine zT ?_ ?_<;>intro _|fail)
   all_goals conv=>whnf
   all_goals exact aA (eS4 hr)
end Go.Proofs.Led
